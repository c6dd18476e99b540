import Derived.Test.YtmfcmjcgajjiiaaDoorOname
namespace Go.Proofs.YtmfcmjcgajjiiaaDoor.S
open Go.RowKit Go.Proofs.YtmfcmjcgajjiiaaDoorW.PrintWords Go.Proofs.YtmfcmjcgajjiiaaDoorW.PrintLast Go.Proofs.YtmfcmjcgajjiiaaDoorW.PrintMore
set_option linter.unusedVariables false
/-- Which fields an operation names: its name, a, b, c, imm, whether imm is a place, and whether it is an operation. -/
def shapeTab : List (ByteArray × Bool × Bool × Bool × Bool × Bool × Bool) := [(⟨#[104, 97, 108, 116]⟩, false, false, false, true, false, true), (⟨#[108, 105]⟩, true, false, false, true, false, true), (⟨#[108, 105, 104]⟩, true, false, false, true, false, true), (⟨#[109, 111, 118]⟩, true, true, false, false, false, true), (⟨#[98, 105, 110]⟩, true, true, true, true, false, true), (⟨#[108, 100]⟩, true, true, false, true, false, true), (⟨#[115, 116]⟩, true, true, false, true, false, true), (⟨#[106, 109, 112]⟩, false, false, false, true, true, true), (⟨#[106, 122]⟩, true, false, false, true, true, true), (⟨#[99, 97, 108, 108]⟩, false, false, false, true, true, true), (⟨#[114, 101, 116]⟩, false, false, false, false, false, true), (⟨#[105, 110]⟩, true, false, false, false, false, true), (⟨#[111, 117, 116]⟩, true, false, false, false, false, true), (⟨#[97, 108, 108, 111, 99]⟩, true, true, false, false, false, true), (⟨#[97, 100, 100, 105]⟩, true, true, false, true, false, true)]
def inst_shapeOf.f (a0 : Int) : Option (ByteArray × Bool × Bool × Bool × Bool × Bool × Bool) := if 0 ≤ a0 ∧ a0 < 15 then some (shapeTab.getD a0.toNat (⟨#[]⟩, false, false, false, false, false, false)) else some (⟨#[]⟩, false, false, false, false, false, false)
set_option maxHeartbeats 8000000 in
theorem shape0 (w : World) : Calls Tryd.prog 34 #[.int .i64 0] w fun e w' => e = .returned (.tuple #[.agg #[.string ⟨#[104, 97, 108, 116]⟩, .bool false, .bool false, .bool false, .bool true, .bool false], .bool true]) ∧ Below w.heap.size w w' := by
  have hu48 := Tryd.underlying72
  go_enter Tryd.func34, Tryd.ntmps34
  go_wp2_with (go_at_call 54; refine (inst_nameOf.calls 0 ⟨#[104, 97, 108, 116]⟩ _ rfl).mono ?_; rintro e w' ⟨rfl, ⟨nd, rfl⟩⟩)
  refine bodyPost_ret (v := .tuple #[.agg #[.string ⟨#[104, 97, 108, 116]⟩, .bool false, .bool false, .bool false, .bool true, .bool false], .bool true]) (by simp [results, Tryd.results34, go_sem]) rfl ⟨rfl, ?_⟩
  repeat (first | (with_reducible exact Below.refl _ _) | (with_reducible apply below_alloc) | (with_reducible apply pw_below_drewN) | (with_reducible apply below_drew) | (with_reducible refine Below.setCell ?_ (by exact Nat.le_refl _) _))
set_option maxHeartbeats 8000000 in
theorem shape1 (w : World) : Calls Tryd.prog 34 #[.int .i64 1] w fun e w' => e = .returned (.tuple #[.agg #[.string ⟨#[108, 105]⟩, .bool true, .bool false, .bool false, .bool true, .bool false], .bool true]) ∧ Below w.heap.size w w' := by
  have hu48 := Tryd.underlying72
  go_enter Tryd.func34, Tryd.ntmps34
  go_wp2_with (go_at_call 54; refine (inst_nameOf.calls 1 ⟨#[108, 105]⟩ _ rfl).mono ?_; rintro e w' ⟨rfl, ⟨nd, rfl⟩⟩)
  refine bodyPost_ret (v := .tuple #[.agg #[.string ⟨#[108, 105]⟩, .bool true, .bool false, .bool false, .bool true, .bool false], .bool true]) (by simp [results, Tryd.results34, go_sem]) rfl ⟨rfl, ?_⟩
  repeat (first | (with_reducible exact Below.refl _ _) | (with_reducible apply below_alloc) | (with_reducible apply pw_below_drewN) | (with_reducible apply below_drew) | (with_reducible refine Below.setCell ?_ (by exact Nat.le_refl _) _))
set_option maxHeartbeats 8000000 in
theorem shape2 (w : World) : Calls Tryd.prog 34 #[.int .i64 2] w fun e w' => e = .returned (.tuple #[.agg #[.string ⟨#[108, 105, 104]⟩, .bool true, .bool false, .bool false, .bool true, .bool false], .bool true]) ∧ Below w.heap.size w w' := by
  have hu48 := Tryd.underlying72
  go_enter Tryd.func34, Tryd.ntmps34
  go_wp2_with (go_at_call 54; refine (inst_nameOf.calls 2 ⟨#[108, 105, 104]⟩ _ rfl).mono ?_; rintro e w' ⟨rfl, ⟨nd, rfl⟩⟩)
  refine bodyPost_ret (v := .tuple #[.agg #[.string ⟨#[108, 105, 104]⟩, .bool true, .bool false, .bool false, .bool true, .bool false], .bool true]) (by simp [results, Tryd.results34, go_sem]) rfl ⟨rfl, ?_⟩
  repeat (first | (with_reducible exact Below.refl _ _) | (with_reducible apply below_alloc) | (with_reducible apply pw_below_drewN) | (with_reducible apply below_drew) | (with_reducible refine Below.setCell ?_ (by exact Nat.le_refl _) _))
set_option maxHeartbeats 8000000 in
theorem shape3 (w : World) : Calls Tryd.prog 34 #[.int .i64 3] w fun e w' => e = .returned (.tuple #[.agg #[.string ⟨#[109, 111, 118]⟩, .bool true, .bool true, .bool false, .bool false, .bool false], .bool true]) ∧ Below w.heap.size w w' := by
  have hu48 := Tryd.underlying72
  go_enter Tryd.func34, Tryd.ntmps34
  go_wp2_with (go_at_call 54; refine (inst_nameOf.calls 3 ⟨#[109, 111, 118]⟩ _ rfl).mono ?_; rintro e w' ⟨rfl, ⟨nd, rfl⟩⟩)
  refine bodyPost_ret (v := .tuple #[.agg #[.string ⟨#[109, 111, 118]⟩, .bool true, .bool true, .bool false, .bool false, .bool false], .bool true]) (by simp [results, Tryd.results34, go_sem]) rfl ⟨rfl, ?_⟩
  repeat (first | (with_reducible exact Below.refl _ _) | (with_reducible apply below_alloc) | (with_reducible apply pw_below_drewN) | (with_reducible apply below_drew) | (with_reducible refine Below.setCell ?_ (by exact Nat.le_refl _) _))
set_option maxHeartbeats 8000000 in
theorem shape4 (w : World) : Calls Tryd.prog 34 #[.int .i64 4] w fun e w' => e = .returned (.tuple #[.agg #[.string ⟨#[98, 105, 110]⟩, .bool true, .bool true, .bool true, .bool true, .bool false], .bool true]) ∧ Below w.heap.size w w' := by
  have hu48 := Tryd.underlying72
  go_enter Tryd.func34, Tryd.ntmps34
  go_wp2_with (go_at_call 54; refine (inst_nameOf.calls 4 ⟨#[98, 105, 110]⟩ _ rfl).mono ?_; rintro e w' ⟨rfl, ⟨nd, rfl⟩⟩)
  refine bodyPost_ret (v := .tuple #[.agg #[.string ⟨#[98, 105, 110]⟩, .bool true, .bool true, .bool true, .bool true, .bool false], .bool true]) (by simp [results, Tryd.results34, go_sem]) rfl ⟨rfl, ?_⟩
  repeat (first | (with_reducible exact Below.refl _ _) | (with_reducible apply below_alloc) | (with_reducible apply pw_below_drewN) | (with_reducible apply below_drew) | (with_reducible refine Below.setCell ?_ (by exact Nat.le_refl _) _))
set_option maxHeartbeats 8000000 in
theorem shape5 (w : World) : Calls Tryd.prog 34 #[.int .i64 5] w fun e w' => e = .returned (.tuple #[.agg #[.string ⟨#[108, 100]⟩, .bool true, .bool true, .bool false, .bool true, .bool false], .bool true]) ∧ Below w.heap.size w w' := by
  have hu48 := Tryd.underlying72
  go_enter Tryd.func34, Tryd.ntmps34
  go_wp2_with (go_at_call 54; refine (inst_nameOf.calls 5 ⟨#[108, 100]⟩ _ rfl).mono ?_; rintro e w' ⟨rfl, ⟨nd, rfl⟩⟩)
  refine bodyPost_ret (v := .tuple #[.agg #[.string ⟨#[108, 100]⟩, .bool true, .bool true, .bool false, .bool true, .bool false], .bool true]) (by simp [results, Tryd.results34, go_sem]) rfl ⟨rfl, ?_⟩
  repeat (first | (with_reducible exact Below.refl _ _) | (with_reducible apply below_alloc) | (with_reducible apply pw_below_drewN) | (with_reducible apply below_drew) | (with_reducible refine Below.setCell ?_ (by exact Nat.le_refl _) _))
set_option maxHeartbeats 8000000 in
theorem shape6 (w : World) : Calls Tryd.prog 34 #[.int .i64 6] w fun e w' => e = .returned (.tuple #[.agg #[.string ⟨#[115, 116]⟩, .bool true, .bool true, .bool false, .bool true, .bool false], .bool true]) ∧ Below w.heap.size w w' := by
  have hu48 := Tryd.underlying72
  go_enter Tryd.func34, Tryd.ntmps34
  go_wp2_with (go_at_call 54; refine (inst_nameOf.calls 6 ⟨#[115, 116]⟩ _ rfl).mono ?_; rintro e w' ⟨rfl, ⟨nd, rfl⟩⟩)
  refine bodyPost_ret (v := .tuple #[.agg #[.string ⟨#[115, 116]⟩, .bool true, .bool true, .bool false, .bool true, .bool false], .bool true]) (by simp [results, Tryd.results34, go_sem]) rfl ⟨rfl, ?_⟩
  repeat (first | (with_reducible exact Below.refl _ _) | (with_reducible apply below_alloc) | (with_reducible apply pw_below_drewN) | (with_reducible apply below_drew) | (with_reducible refine Below.setCell ?_ (by exact Nat.le_refl _) _))
set_option maxHeartbeats 8000000 in
theorem shape7 (w : World) : Calls Tryd.prog 34 #[.int .i64 7] w fun e w' => e = .returned (.tuple #[.agg #[.string ⟨#[106, 109, 112]⟩, .bool false, .bool false, .bool false, .bool true, .bool true], .bool true]) ∧ Below w.heap.size w w' := by
  have hu48 := Tryd.underlying72
  go_enter Tryd.func34, Tryd.ntmps34
  go_wp2_with (go_at_call 54; refine (inst_nameOf.calls 7 ⟨#[106, 109, 112]⟩ _ rfl).mono ?_; rintro e w' ⟨rfl, ⟨nd, rfl⟩⟩)
  refine bodyPost_ret (v := .tuple #[.agg #[.string ⟨#[106, 109, 112]⟩, .bool false, .bool false, .bool false, .bool true, .bool true], .bool true]) (by simp [results, Tryd.results34, go_sem]) rfl ⟨rfl, ?_⟩
  repeat (first | (with_reducible exact Below.refl _ _) | (with_reducible apply below_alloc) | (with_reducible apply pw_below_drewN) | (with_reducible apply below_drew) | (with_reducible refine Below.setCell ?_ (by exact Nat.le_refl _) _))
set_option maxHeartbeats 8000000 in
theorem shape8 (w : World) : Calls Tryd.prog 34 #[.int .i64 8] w fun e w' => e = .returned (.tuple #[.agg #[.string ⟨#[106, 122]⟩, .bool true, .bool false, .bool false, .bool true, .bool true], .bool true]) ∧ Below w.heap.size w w' := by
  have hu48 := Tryd.underlying72
  go_enter Tryd.func34, Tryd.ntmps34
  go_wp2_with (go_at_call 54; refine (inst_nameOf.calls 8 ⟨#[106, 122]⟩ _ rfl).mono ?_; rintro e w' ⟨rfl, ⟨nd, rfl⟩⟩)
  refine bodyPost_ret (v := .tuple #[.agg #[.string ⟨#[106, 122]⟩, .bool true, .bool false, .bool false, .bool true, .bool true], .bool true]) (by simp [results, Tryd.results34, go_sem]) rfl ⟨rfl, ?_⟩
  repeat (first | (with_reducible exact Below.refl _ _) | (with_reducible apply below_alloc) | (with_reducible apply pw_below_drewN) | (with_reducible apply below_drew) | (with_reducible refine Below.setCell ?_ (by exact Nat.le_refl _) _))
set_option maxHeartbeats 8000000 in
theorem shape9 (w : World) : Calls Tryd.prog 34 #[.int .i64 9] w fun e w' => e = .returned (.tuple #[.agg #[.string ⟨#[99, 97, 108, 108]⟩, .bool false, .bool false, .bool false, .bool true, .bool true], .bool true]) ∧ Below w.heap.size w w' := by
  have hu48 := Tryd.underlying72
  go_enter Tryd.func34, Tryd.ntmps34
  go_wp2_with (go_at_call 54; refine (inst_nameOf.calls 9 ⟨#[99, 97, 108, 108]⟩ _ rfl).mono ?_; rintro e w' ⟨rfl, ⟨nd, rfl⟩⟩)
  refine bodyPost_ret (v := .tuple #[.agg #[.string ⟨#[99, 97, 108, 108]⟩, .bool false, .bool false, .bool false, .bool true, .bool true], .bool true]) (by simp [results, Tryd.results34, go_sem]) rfl ⟨rfl, ?_⟩
  repeat (first | (with_reducible exact Below.refl _ _) | (with_reducible apply below_alloc) | (with_reducible apply pw_below_drewN) | (with_reducible apply below_drew) | (with_reducible refine Below.setCell ?_ (by exact Nat.le_refl _) _))
set_option maxHeartbeats 8000000 in
theorem shape10 (w : World) : Calls Tryd.prog 34 #[.int .i64 10] w fun e w' => e = .returned (.tuple #[.agg #[.string ⟨#[114, 101, 116]⟩, .bool false, .bool false, .bool false, .bool false, .bool false], .bool true]) ∧ Below w.heap.size w w' := by
  have hu48 := Tryd.underlying72
  go_enter Tryd.func34, Tryd.ntmps34
  go_wp2_with (go_at_call 54; refine (inst_nameOf.calls 10 ⟨#[114, 101, 116]⟩ _ rfl).mono ?_; rintro e w' ⟨rfl, ⟨nd, rfl⟩⟩)
  refine bodyPost_ret (v := .tuple #[.agg #[.string ⟨#[114, 101, 116]⟩, .bool false, .bool false, .bool false, .bool false, .bool false], .bool true]) (by simp [results, Tryd.results34, go_sem]) rfl ⟨rfl, ?_⟩
  repeat (first | (with_reducible exact Below.refl _ _) | (with_reducible apply below_alloc) | (with_reducible apply pw_below_drewN) | (with_reducible apply below_drew) | (with_reducible refine Below.setCell ?_ (by exact Nat.le_refl _) _))
set_option maxHeartbeats 8000000 in
theorem shape11 (w : World) : Calls Tryd.prog 34 #[.int .i64 11] w fun e w' => e = .returned (.tuple #[.agg #[.string ⟨#[105, 110]⟩, .bool true, .bool false, .bool false, .bool false, .bool false], .bool true]) ∧ Below w.heap.size w w' := by
  have hu48 := Tryd.underlying72
  go_enter Tryd.func34, Tryd.ntmps34
  go_wp2_with (go_at_call 54; refine (inst_nameOf.calls 11 ⟨#[105, 110]⟩ _ rfl).mono ?_; rintro e w' ⟨rfl, ⟨nd, rfl⟩⟩)
  refine bodyPost_ret (v := .tuple #[.agg #[.string ⟨#[105, 110]⟩, .bool true, .bool false, .bool false, .bool false, .bool false], .bool true]) (by simp [results, Tryd.results34, go_sem]) rfl ⟨rfl, ?_⟩
  repeat (first | (with_reducible exact Below.refl _ _) | (with_reducible apply below_alloc) | (with_reducible apply pw_below_drewN) | (with_reducible apply below_drew) | (with_reducible refine Below.setCell ?_ (by exact Nat.le_refl _) _))
set_option maxHeartbeats 8000000 in
theorem shape12 (w : World) : Calls Tryd.prog 34 #[.int .i64 12] w fun e w' => e = .returned (.tuple #[.agg #[.string ⟨#[111, 117, 116]⟩, .bool true, .bool false, .bool false, .bool false, .bool false], .bool true]) ∧ Below w.heap.size w w' := by
  have hu48 := Tryd.underlying72
  go_enter Tryd.func34, Tryd.ntmps34
  go_wp2_with (go_at_call 54; refine (inst_nameOf.calls 12 ⟨#[111, 117, 116]⟩ _ rfl).mono ?_; rintro e w' ⟨rfl, ⟨nd, rfl⟩⟩)
  refine bodyPost_ret (v := .tuple #[.agg #[.string ⟨#[111, 117, 116]⟩, .bool true, .bool false, .bool false, .bool false, .bool false], .bool true]) (by simp [results, Tryd.results34, go_sem]) rfl ⟨rfl, ?_⟩
  repeat (first | (with_reducible exact Below.refl _ _) | (with_reducible apply below_alloc) | (with_reducible apply pw_below_drewN) | (with_reducible apply below_drew) | (with_reducible refine Below.setCell ?_ (by exact Nat.le_refl _) _))
set_option maxHeartbeats 8000000 in
theorem shape13 (w : World) : Calls Tryd.prog 34 #[.int .i64 13] w fun e w' => e = .returned (.tuple #[.agg #[.string ⟨#[97, 108, 108, 111, 99]⟩, .bool true, .bool true, .bool false, .bool false, .bool false], .bool true]) ∧ Below w.heap.size w w' := by
  have hu48 := Tryd.underlying72
  go_enter Tryd.func34, Tryd.ntmps34
  go_wp2_with (go_at_call 54; refine (inst_nameOf.calls 13 ⟨#[97, 108, 108, 111, 99]⟩ _ rfl).mono ?_; rintro e w' ⟨rfl, ⟨nd, rfl⟩⟩)
  refine bodyPost_ret (v := .tuple #[.agg #[.string ⟨#[97, 108, 108, 111, 99]⟩, .bool true, .bool true, .bool false, .bool false, .bool false], .bool true]) (by simp [results, Tryd.results34, go_sem]) rfl ⟨rfl, ?_⟩
  repeat (first | (with_reducible exact Below.refl _ _) | (with_reducible apply below_alloc) | (with_reducible apply pw_below_drewN) | (with_reducible apply below_drew) | (with_reducible refine Below.setCell ?_ (by exact Nat.le_refl _) _))
set_option maxHeartbeats 8000000 in
theorem shape14 (w : World) : Calls Tryd.prog 34 #[.int .i64 14] w fun e w' => e = .returned (.tuple #[.agg #[.string ⟨#[97, 100, 100, 105]⟩, .bool true, .bool true, .bool false, .bool true, .bool false], .bool true]) ∧ Below w.heap.size w w' := by
  have hu48 := Tryd.underlying72
  go_enter Tryd.func34, Tryd.ntmps34
  go_wp2_with (go_at_call 54; refine (inst_nameOf.calls 14 ⟨#[97, 100, 100, 105]⟩ _ rfl).mono ?_; rintro e w' ⟨rfl, ⟨nd, rfl⟩⟩)
  refine bodyPost_ret (v := .tuple #[.agg #[.string ⟨#[97, 100, 100, 105]⟩, .bool true, .bool true, .bool false, .bool true, .bool false], .bool true]) (by simp [results, Tryd.results34, go_sem]) rfl ⟨rfl, ?_⟩
  repeat (first | (with_reducible exact Below.refl _ _) | (with_reducible apply below_alloc) | (with_reducible apply pw_below_drewN) | (with_reducible apply below_drew) | (with_reducible refine Below.setCell ?_ (by exact Nat.le_refl _) _))
set_option maxHeartbeats 8000000 in
theorem shapeNo (a0 : Int) (w : World) (h : ¬ (0 ≤ a0 ∧ a0 < 15)) : Calls Tryd.prog 34 #[.int .i64 a0] w fun e w' => e = .returned (.tuple #[.agg #[.string ⟨#[]⟩, .bool false, .bool false, .bool false, .bool false, .bool false], .bool false]) ∧ Below w.heap.size w w' := by
  have hu48 := Tryd.underlying72
  have h0 : (a0 == 0) = false := beq_eq_false_iff_ne.2 (by omega)
  have h1 : (a0 == 1) = false := beq_eq_false_iff_ne.2 (by omega)
  have h2 : (a0 == 2) = false := beq_eq_false_iff_ne.2 (by omega)
  have h3 : (a0 == 3) = false := beq_eq_false_iff_ne.2 (by omega)
  have h4 : (a0 == 4) = false := beq_eq_false_iff_ne.2 (by omega)
  have h5 : (a0 == 5) = false := beq_eq_false_iff_ne.2 (by omega)
  have h6 : (a0 == 6) = false := beq_eq_false_iff_ne.2 (by omega)
  have h7 : (a0 == 7) = false := beq_eq_false_iff_ne.2 (by omega)
  have h8 : (a0 == 8) = false := beq_eq_false_iff_ne.2 (by omega)
  have h9 : (a0 == 9) = false := beq_eq_false_iff_ne.2 (by omega)
  have h10 : (a0 == 10) = false := beq_eq_false_iff_ne.2 (by omega)
  have h11 : (a0 == 11) = false := beq_eq_false_iff_ne.2 (by omega)
  have h12 : (a0 == 12) = false := beq_eq_false_iff_ne.2 (by omega)
  have h13 : (a0 == 13) = false := beq_eq_false_iff_ne.2 (by omega)
  have h14 : (a0 == 14) = false := beq_eq_false_iff_ne.2 (by omega)
  clear h
  go_enter Tryd.func34, Tryd.ntmps34
  go_wp2_with fail
  refine bodyPost_ret (v := .tuple #[.agg #[.string ⟨#[]⟩, .bool false, .bool false, .bool false, .bool false, .bool false], .bool false]) (by simp [results, Tryd.results34, go_sem]) rfl ⟨rfl, ?_⟩
  repeat (first | (with_reducible exact Below.refl _ _) | (with_reducible apply below_alloc) | (with_reducible apply pw_below_drewN) | (with_reducible apply below_drew) | (with_reducible refine Below.setCell ?_ (by exact Nat.le_refl _) _))
theorem inst_shapeOf.calls (a0 : Int) (r1 : ByteArray) (r2 : Bool) (r3 : Bool) (r4 : Bool) (r5 : Bool) (r6 : Bool) (r7 : Bool) (w : World) (h : inst_shapeOf.f a0 = some (r1, r2, r3, r4, r5, r6, r7)) :
    Calls Tryd.prog 34 #[.int .i64 a0] w fun e w' => e = .returned (.tuple #[.agg #[.string r1, .bool r2, .bool r3, .bool r4, .bool r5, .bool r6], .bool r7]) ∧ Below w.heap.size w w' := by
  unfold inst_shapeOf.f at h
  split at h
  · have hc : a0 = 0 ∨ a0 = 1 ∨ a0 = 2 ∨ a0 = 3 ∨ a0 = 4 ∨ a0 = 5 ∨ a0 = 6 ∨ a0 = 7 ∨ a0 = 8 ∨ a0 = 9 ∨ a0 = 10 ∨ a0 = 11 ∨ a0 = 12 ∨ a0 = 13 ∨ a0 = 14 := by omega
    rcases hc with rfl | rfl | rfl | rfl | rfl | rfl | rfl | rfl | rfl | rfl | rfl | rfl | rfl | rfl | rfl
    · injection h with h; injection h with h1 h; injection h with h2 h; injection h with h3 h; injection h with h4 h; injection h with h5 h; injection h with h6 h7; subst h1 h2 h3 h4 h5 h6 h7; exact shape0 w
    · injection h with h; injection h with h1 h; injection h with h2 h; injection h with h3 h; injection h with h4 h; injection h with h5 h; injection h with h6 h7; subst h1 h2 h3 h4 h5 h6 h7; exact shape1 w
    · injection h with h; injection h with h1 h; injection h with h2 h; injection h with h3 h; injection h with h4 h; injection h with h5 h; injection h with h6 h7; subst h1 h2 h3 h4 h5 h6 h7; exact shape2 w
    · injection h with h; injection h with h1 h; injection h with h2 h; injection h with h3 h; injection h with h4 h; injection h with h5 h; injection h with h6 h7; subst h1 h2 h3 h4 h5 h6 h7; exact shape3 w
    · injection h with h; injection h with h1 h; injection h with h2 h; injection h with h3 h; injection h with h4 h; injection h with h5 h; injection h with h6 h7; subst h1 h2 h3 h4 h5 h6 h7; exact shape4 w
    · injection h with h; injection h with h1 h; injection h with h2 h; injection h with h3 h; injection h with h4 h; injection h with h5 h; injection h with h6 h7; subst h1 h2 h3 h4 h5 h6 h7; exact shape5 w
    · injection h with h; injection h with h1 h; injection h with h2 h; injection h with h3 h; injection h with h4 h; injection h with h5 h; injection h with h6 h7; subst h1 h2 h3 h4 h5 h6 h7; exact shape6 w
    · injection h with h; injection h with h1 h; injection h with h2 h; injection h with h3 h; injection h with h4 h; injection h with h5 h; injection h with h6 h7; subst h1 h2 h3 h4 h5 h6 h7; exact shape7 w
    · injection h with h; injection h with h1 h; injection h with h2 h; injection h with h3 h; injection h with h4 h; injection h with h5 h; injection h with h6 h7; subst h1 h2 h3 h4 h5 h6 h7; exact shape8 w
    · injection h with h; injection h with h1 h; injection h with h2 h; injection h with h3 h; injection h with h4 h; injection h with h5 h; injection h with h6 h7; subst h1 h2 h3 h4 h5 h6 h7; exact shape9 w
    · injection h with h; injection h with h1 h; injection h with h2 h; injection h with h3 h; injection h with h4 h; injection h with h5 h; injection h with h6 h7; subst h1 h2 h3 h4 h5 h6 h7; exact shape10 w
    · injection h with h; injection h with h1 h; injection h with h2 h; injection h with h3 h; injection h with h4 h; injection h with h5 h; injection h with h6 h7; subst h1 h2 h3 h4 h5 h6 h7; exact shape11 w
    · injection h with h; injection h with h1 h; injection h with h2 h; injection h with h3 h; injection h with h4 h; injection h with h5 h; injection h with h6 h7; subst h1 h2 h3 h4 h5 h6 h7; exact shape12 w
    · injection h with h; injection h with h1 h; injection h with h2 h; injection h with h3 h; injection h with h4 h; injection h with h5 h; injection h with h6 h7; subst h1 h2 h3 h4 h5 h6 h7; exact shape13 w
    · injection h with h; injection h with h1 h; injection h with h2 h; injection h with h3 h; injection h with h4 h; injection h with h5 h; injection h with h6 h7; subst h1 h2 h3 h4 h5 h6 h7; exact shape14 w
  · rename_i hn
    injection h with h; injection h with h1 h; injection h with h2 h; injection h with h3 h; injection h with h4 h; injection h with h5 h; injection h with h6 h7; subst h1 h2 h3 h4 h5 h6 h7
    exact shapeNo a0 w hn
end Go.Proofs.YtmfcmjcgajjiiaaDoor.S
