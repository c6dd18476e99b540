import Derived.Test.YtmfcmjcgajjiiaaDoorS0
import Derived.Test.YtmfcmjcgajjiiaaDoorGl
import Derived.Test.YtmfcmjcgajjiiaaDoorOitoa
import Derived.Test.YtmfcmjcgajjiiaaDoorRel
import Derived.Lib.ItoaLen
import Derived.Test.YtmfcmjcgajjiiaaDoorOshape
import Derived.Test.YtmfcmjcgajjiiaaDoorS5
namespace Go.Proofs.YtmfcmjcgajjiiaaDoor.S
open Go.RowKit Go.Proofs.YtmfcmjcgajjiiaaDoorW.PrintWords Go.Proofs.YtmfcmjcgajjiiaaDoorW.PrintLast Go.Proofs.YtmfcmjcgajjiiaaDoorW.PrintMore Go.RelRegion
set_option linter.unusedVariables false
theorem itoa_calls (a0 : Int) (w : World) (hGL : GL w) (h0 : -9223372036854775808 ≤ a0) (h1 : a0 ≤ 9223372036854775807) :
    Calls Tryd.prog 28 #[.int .i64 a0] w fun e w' => e = .returned (.string ⟨(Lib.itoa a0).toArray⟩) ∧ Below w.heap.size w w' :=
  strconv_Itoa.calls a0 _ w ⟨hGL⟩ (by unfold strconv_Itoa.f; rw [if_pos ⟨h0, h1⟩])
theorem stp_trans {B : Nat} {a b c : World} (hB : B ≤ b.heap.size) (h : Below B a b) (k : Below b.heap.size b c) : Below B a c := below_then h hB k

/-- A closure of Text: it adds to the text out, which lies in block B. -/
theorem text1_yes (p s : ByteArray) (n : Int) (B : Nat) (w : World) (hGL : GL w) (h0 : -9223372036854775808 ≤ n) (h1 : n ≤ 9223372036854775807)
    (hp : p.size ≤ 10) (hs : s.size ≤ 1000) (hB : w.heap[B]? = some (.cells #[.string s] 9 (0, 0))) :
    Calls Tryd.prog 49 #[.bool true, .string p, .int .i64 n, .pointer (some ⟨B, 0, none⟩)] w fun e w' =>
      e = .returned (.tuple #[]) ∧ w'.heap[B]? = some (.cells #[.string (s ++ ((⟨#[32]⟩ : ByteArray) ++ p ++ ⟨(Lib.itoa n).toArray⟩))] 9 (0, 0)) ∧ w.grownBy w' (some B) := by
  have hc : w.cell? ⟨B, 0, none⟩ = some (.string s) := by simp [World.cell?, hB]
  have hBl : B < w.heap.size := (Array.getElem?_eq_some_iff.1 hB).1
  have hlen := Lib.itoa_length_le n h0 h1
  go_enter Tryd.func49, Tryd.ntmps49
  go_wp2_with fail
  refine wp_region_rel 7 (fun _ => none) (fun _ => []) (fun _ _ _ => True) (fun w' => Below w.heap.size w w') (fun a b => Below a.heap.size a b) (by kernel_rfl) (by kernel_rfl) (below_drew (Below.refl _ _)) (fun a b h k => below_then h h.size k) (fun _ _ _ _ _ _ => trivial) ?_
  simp only [List.take_succ_cons, List.take_zero, List.drop_succ_cons, List.drop_zero]
  apply relQ_step rfl; apply Exists.intro; refine ⟨fun w' hw' => ?_, ?_⟩
  · have hc' : w'.cell? ⟨B, 0, none⟩ = some (.string s) := (hw'.cell hBl).trans hc
    unfold Yl
    go_wp2
    exact ⟨rfl, _, rfl, rfl, Below.refl _ _⟩
  apply relQ_step rfl; apply Exists.intro; refine ⟨fun w' hw' => ?_, ?_⟩
  · unfold Yl
    go_wp2
    exact ⟨rfl, _, rfl, rfl, Below.refl _ _⟩
  apply relQ_step rfl; apply Exists.intro; refine ⟨fun w' hw' => ?_, ?_⟩
  · unfold Yl
    go_wp2
    exact ⟨rfl, _, rfl, rfl, Below.refl _ _⟩
  apply relQ_step rfl; apply Exists.intro; refine ⟨fun w' hw' => ?_, ?_⟩
  · unfold Yl
    go_wp2
    exact ⟨rfl, _, rfl, rfl, Below.refl _ _⟩
  apply relQ_step rfl; apply Exists.intro; refine ⟨fun w' hw' => ?_, ?_⟩
  · have hg := hGL.below hw'
    unfold Yl
    go_wp2_with (go_at_call 28; refine (itoa_calls n _ hg h0 h1).mono ?_; rintro e w2 ⟨rfl, hb2⟩)
    exact ⟨rfl, _, rfl, rfl, hb2⟩
  apply relQ_step rfl; apply Exists.intro; refine ⟨fun w' hw' => ?_, ?_⟩
  · unfold Yl
    go_wp2
    exact ⟨rfl, _, rfl, rfl, Below.refl _ _⟩
  apply relQ_step rfl; apply Exists.intro; refine ⟨fun w' hw' => ?_, ?_⟩
  · unfold Yl
    go_wp2
    exact ⟨rfl, _, rfl, rfl, Below.refl _ _⟩
  refine relQ_nil (fun x => ?_)
  repeat (refine relL_quiet rfl ?_)
  refine relL_nil (fun w' hw' _ => ?_)
  have hB' : w'.heap[B]? = some (.cells #[.string s] 9 (0, 0)) := (hw'.block B hBl).trans hB
  have hc' : w'.cell? ⟨B, 0, none⟩ = some (.string s) := (hw'.cell hBl).trans hc
  have hf' : w'.frozen? ⟨B, 0, none⟩ = false := by simp [World.frozen?, hB']
  clear hB hc
  go_wp2
  go_end0
  refine ⟨rfl, ?_, hw'.os, hw'.tape, hw'.output, ?_, fun i hi hne => ?_⟩
  · exact Joins.block_setCell hB' _
  · have := hw'.size
    simpa [World.setCell] using this
  · rw [Below.heap_setCell _ _ _ _ (fun e => hne (congrArg some e))]
    exact hw'.block i hi

theorem text1_no (p : ByteArray) (n : Int) (B : Nat) (w : World) :
    Calls Tryd.prog 49 #[.bool false, .string p, .int .i64 n, .pointer (some ⟨B, 0, none⟩)] w fun e w' => e = .returned (.tuple #[]) ∧ w' = w := by
  go_enter Tryd.func49, Tryd.ntmps49
  go_wp2_with fail
  go_end0
  exact ⟨rfl, rfl⟩
end Go.Proofs.YtmfcmjcgajjiiaaDoor.S
namespace Go.Proofs.YtmfcmjcgajjiiaaDoor.S
open Go.RowKit Go.Proofs.YtmfcmjcgajjiiaaDoorW.PrintWords Go.Proofs.YtmfcmjcgajjiiaaDoorW.PrintLast Go.Proofs.YtmfcmjcgajjiiaaDoorW.PrintMore Go.RelRegion
set_option linter.unusedVariables false
def itoaB (n : Int) : ByteArray := ⟨(Lib.itoa n).toArray⟩
def addS (b : Bool) (p s : ByteArray) (n : Int) : ByteArray := if b = true then s ++ ((⟨#[32]⟩ : ByteArray) ++ p ++ itoaB n) else s
def textS (nm : ByteArray) (sa sb sc si : Bool) (a b c imm : Int) : ByteArray :=
  addS (if sc = true then false else si) ⟨#[]⟩ (addS sc ⟨#[114]⟩ (addS sb ⟨#[114]⟩ (addS sa ⟨#[114]⟩ (if sc = true then nm ++ ((⟨#[46]⟩ : ByteArray) ++ itoaB imm) else nm) a) b) c) imm
theorem itoaB_size (n : Int) (h0 : -9223372036854775808 ≤ n) (h1 : n ≤ 9223372036854775807) : (itoaB n).size ≤ 21 := Lib.itoa_length_le n h0 h1
theorem addS_size (b : Bool) (p s : ByteArray) (n : Int) (h0 : -9223372036854775808 ≤ n) (h1 : n ≤ 9223372036854775807) : (addS b p s n).size ≤ s.size + p.size + 22 := by
  have := itoaB_size n h0 h1
  unfold addS
  split
  · simp only [ByteArray.size_append]
    have e : (⟨#[32]⟩ : ByteArray).size = 1 := rfl
    omega
  · omega
/-- The closure, whatever it is asked. -/
theorem text1 (b : Bool) (p s : ByteArray) (n : Int) (B : Nat) (w : World) (hGL : GL w) (h0 : -9223372036854775808 ≤ n) (h1 : n ≤ 9223372036854775807)
    (hp : p.size ≤ 10) (hs : s.size ≤ 1000) (hB : w.heap[B]? = some (.cells #[.string s] 9 (0, 0))) :
    Calls Tryd.prog 49 #[.bool b, .string p, .int .i64 n, .pointer (some ⟨B, 0, none⟩)] w fun e w' =>
      e = .returned (.tuple #[]) ∧ w'.heap[B]? = some (.cells #[.string (addS b p s n)] 9 (0, 0)) ∧ w.grownBy w' (some B) := by
  cases b with
  | true => exact text1_yes p s n B w hGL h0 h1 hp hs hB
  | false =>
    refine (text1_no p n B w).mono ?_
    rintro e w' ⟨rfl, rfl⟩
    exact ⟨rfl, hB, rfl, rfl, rfl, Nat.le_refl _, fun _ _ _ => rfl⟩

/-- What lies in memory while a text is made. -/
structure TextW (w W : World) (a0 a1 a2 a3 a4 : Int) (S B : Nat) (nm : ByteArray) (sa sb sc si st : Bool) (s : ByteArray) : Prop where
  gl : GL W
  below : Below w.heap.size w W
  x : W.heap[w.heap.size]? = some (.cells #[.int .i64 a0, .int .i64 a1, .int .i64 a2, .int .i64 a3, .int .i64 a4] 32 (0, 0))
  ss : W.heap[S]? = some (.cells #[.string nm, .bool sa, .bool sb, .bool sc, .bool si, .bool st] 72 (0, 0))
  out : W.heap[B]? = some (.cells #[.string s] 9 (0, 0))
  o1 : w.heap.size < S
  o2 : S < B

theorem TextW.step {w W W' : World} {a0 a1 a2 a3 a4 : Int} {S B : Nat} {nm : ByteArray} {sa sb sc si st : Bool} {s s' : ByteArray} (h : TextW w W a0 a1 a2 a3 a4 S B nm sa sb sc si st s)
    (hB : W'.heap[B]? = some (.cells #[.string s'] 9 (0, 0))) (hg : W.grownBy W' (some B)) : TextW w W' a0 a1 a2 a3 a4 S B nm sa sb sc si st s' := by
  have h1 := h.o1
  have h2 := h.o2
  refine ⟨?_, h.below.grown hg h.below.size (fun k hk => by cases hk; omega), blk_grown h.x hg (by simp; omega), blk_grown h.ss hg (by simp; omega), hB, h1, h2⟩
  have hgl := h.gl
  unfold GL Lib.TabIs World.var? at *
  have e : Tryd.prog.globalNamed "internal/strconv.uint64pow10" = some 0 := by kernel_rfl
  rw [e] at hgl ⊢
  simp only [Option.bind_some] at hgl ⊢
  have hlt : 0 < W.heap.size := by have := blk_lt h.x; omega
  rw [hg.block 0 hlt (by simp; omega)]
  exact hgl

theorem TextW.cells {w W : World} {a0 a1 a2 a3 a4 : Int} {S B : Nat} {nm : ByteArray} {sa sb sc si st : Bool} {s : ByteArray} (h : TextW w W a0 a1 a2 a3 a4 S B nm sa sb sc si st s) :
    W.cell? ⟨w.heap.size, 1, none⟩ = some (.int .i64 a1) ∧ W.cell? ⟨w.heap.size, 2, none⟩ = some (.int .i64 a2) ∧ W.cell? ⟨w.heap.size, 3, none⟩ = some (.int .i64 a3) ∧ W.cell? ⟨w.heap.size, 4, none⟩ = some (.int .i64 a4) ∧
    W.cell? ⟨S, 1, none⟩ = some (.bool sa) ∧ W.cell? ⟨S, 2, none⟩ = some (.bool sb) ∧ W.cell? ⟨S, 3, none⟩ = some (.bool sc) ∧ W.cell? ⟨S, 4, none⟩ = some (.bool si) ∧ W.frozen? ⟨S, 4, none⟩ = false ∧
    W.cell? ⟨B, 0, none⟩ = some (.string s) ∧ W.frozen? ⟨B, 0, none⟩ = false :=
  ⟨blk_cell h.x 1, blk_cell h.x 2, blk_cell h.x 3, blk_cell h.x 4, blk_cell h.ss 1, blk_cell h.ss 2, blk_cell h.ss 3, blk_cell h.ss 4, blk_frozen h.ss 4, blk_cell h.out 0, blk_frozen h.out 0⟩

set_option maxHeartbeats 8000000 in
set_option maxRecDepth 100000 in
theorem text_sc0 (k : Nat) (a0 a1 a2 a3 a4 : Int) (nm : ByteArray) (sa sb si st : Bool) (w : World) (hGL : GL w) (hR : inst_Right.f k a0 a1 a2 a3 a4 = some true) (hS : inst_shapeOf.f a0 = some (nm, sa, sb, false, si, st, true)) (hn : nm.size ≤ 10)
    (h1 : -9223372036854775808 ≤ a1) (h1' : a1 ≤ 9223372036854775807) (h2 : -9223372036854775808 ≤ a2) (h2' : a2 ≤ 9223372036854775807) (h3 : -9223372036854775808 ≤ a3) (h3' : a3 ≤ 9223372036854775807) (h4 : -9223372036854775808 ≤ a4) (h4' : a4 ≤ 9223372036854775807) :
    Calls Tryd.prog 29 #[.agg #[.int .i64 a0, .int .i64 a1, .int .i64 a2, .int .i64 a3, .int .i64 a4]] w fun e w' => e = .returned (.string (textS nm sa sb false si a1 a2 a3 a4)) ∧ Below w.heap.size w w' := by
  have HR := Aside0.mk hR
  have HS := Aside0.mk hS
  have HG := Aside0.mk hGL
  clear hR hS hGL
  have hu23 := Tryd.underlying32
  have hu48 := Tryd.underlying72
  go_enter Tryd.func29, Tryd.ntmps29
  go_wp2_with fail
  have hx0 := blk_new w (.cells #[.int .i64 a0, .int .i64 a1, .int .i64 a2, .int .i64 a3, .int .i64 a4] 32)
  refine (inst_Right.calls k a0 a1 a2 a3 a4 true _ HR.out).mono ?_
  rintro e w1 ⟨rfl, hb1⟩
  have hx1 := blk_below hx0 hb1
  have hB1 := below_then (below_alloc (Below.refl w.heap.size w) _) (below_size (below_alloc (Below.refl _ _) _)) hb1
  have c10 := blk_cell hx1 0
  simp at c10
  clear hx0 hb1
  have HX1 := Aside0.mk hx1
  have HB1 := Aside0.mk hB1
  clear hx1 hB1
  go_wp2_with fail
  refine (inst_shapeOf.calls a0 nm sa sb false si st true _ HS.out).mono ?_
  rintro e w2 ⟨rfl, hb2⟩
  have hx2 := blk_below HX1.out hb2
  have hB2 := below_then HB1.out (below_size HB1.out) hb2
  have hz2 := blk_lt hx2
  have c20 := blk_cell hx2 0
  have c21 := blk_cell hx2 1
  have c22 := blk_cell hx2 2
  have c23 := blk_cell hx2 3
  have c24 := blk_cell hx2 4
  simp at c20 c21 c22 c23 c24
  have T0 : Aside0 (TextW w ((w2.alloc (.cells #[.string nm, .bool sa, .bool sb, .bool false, .bool si, .bool st] 72)).alloc (.cells #[.string nm] 9)) a0 a1 a2 a3 a4 w2.heap.size (w2.heap.size + 1) nm sa sb false si st nm) :=
    ⟨⟨(HG.out.below hB2).below (below_alloc (below_alloc (Below.refl _ _) _) _), below_alloc (below_alloc hB2 _) _, blk_alloc (blk_alloc hx2 _) _, blk_alloc (blk_new _ _) _, by have h_ := blk_new (w2.alloc (.cells #[.string nm, .bool sa, .bool sb, .bool false, .bool si, .bool st] 72)) (.cells #[.string nm] 9); simpa using h_, hz2, Nat.lt_succ_self _⟩⟩
  clear hb2 hx2 hB2 HB1 HX1 c10
  have z0 : nm.size ≤ 1000 := by omega
  have z1 := addS_size sa ⟨#[114]⟩ nm a1 h1 h1'
  have z2 := addS_size sb ⟨#[114]⟩ (addS sa ⟨#[114]⟩ nm a1) a2 h2 h2'
  have z3 := addS_size false ⟨#[114]⟩ (addS sb ⟨#[114]⟩ (addS sa ⟨#[114]⟩ nm a1) a2) a3 h3 h3'
  have er : (⟨#[114]⟩ : ByteArray).size = 1 := rfl
  have z3' : (addS false ⟨#[114]⟩ (addS sb ⟨#[114]⟩ (addS sa ⟨#[114]⟩ nm a1) a2) a3).size ≤ 1000 := by omega
  have z2' : (addS sb ⟨#[114]⟩ (addS sa ⟨#[114]⟩ nm a1) a2).size ≤ 1000 := by omega
  have z1' : (addS sa ⟨#[114]⟩ nm a1).size ≤ 1000 := by omega
  clear z1 z2 z3 er
  have z1 := z1'
  have z2 := z2'
  have z3 := z3'
  clear z1' z2' z3'
  go_wp2_with fail
  refine (text1 sa ⟨#[114]⟩ nm a1 _ _ T0.out.gl h1 h1' (by decide) z0 T0.out.out).mono ?_
  rintro e w3 ⟨rfl, hB1, hg1⟩
  have T1 := Aside0.mk (T0.out.step hB1 hg1)
  clear hB1 hg1
  obtain ⟨c1, c2, c3, c4, d1, d2, d3, d4, f4, e1, f1⟩ := T1.out.cells
  go_wp2_with fail
  refine (text1 sb ⟨#[114]⟩ (addS sa ⟨#[114]⟩ nm a1) a2 _ _ T1.out.gl h2 h2' (by decide) z1 T1.out.out).mono ?_
  rintro e w4 ⟨rfl, hB2, hg2⟩
  have T2 := Aside0.mk (T1.out.step hB2 hg2)
  clear hB2 hg2
  obtain ⟨c1, c2, c3, c4, d1, d2, d3, d4, f4, e1, f1⟩ := T2.out.cells
  go_wp2_with fail
  refine (text1 false ⟨#[114]⟩ (addS sb ⟨#[114]⟩ (addS sa ⟨#[114]⟩ nm a1) a2) a3 _ _ T2.out.gl h3 h3' (by decide) z2 T2.out.out).mono ?_
  rintro e w5 ⟨rfl, hB3, hg3⟩
  have T3 := Aside0.mk (T2.out.step hB3 hg3)
  clear hB3 hg3
  obtain ⟨c1, c2, c3, c4, d1, d2, d3, d4, f4, e1, f1⟩ := T3.out.cells
  go_wp2_with fail
  refine (text1 si ⟨#[]⟩ (addS false ⟨#[114]⟩ (addS sb ⟨#[114]⟩ (addS sa ⟨#[114]⟩ nm a1) a2) a3) a4 _ _ T3.out.gl h4 h4' (by decide) z3 T3.out.out).mono ?_
  rintro e w6 ⟨rfl, hB4, hg4⟩
  have T4 := Aside0.mk (T3.out.step hB4 hg4)
  clear hB4 hg4
  obtain ⟨c1, c2, c3, c4, d1, d2, d3, d4, f4, e1, f1⟩ := T4.out.cells
  go_wp2_with fail
  go_ret
  exact ⟨rfl, T4.out.below⟩
end Go.Proofs.YtmfcmjcgajjiiaaDoor.S
namespace Go.Proofs.YtmfcmjcgajjiiaaDoor.S
open Go.RowKit Go.Proofs.YtmfcmjcgajjiiaaDoorW.PrintWords Go.Proofs.YtmfcmjcgajjiiaaDoorW.PrintLast Go.Proofs.YtmfcmjcgajjiiaaDoorW.PrintMore Go.RelRegion
set_option linter.unusedVariables false
theorem gl_setc {W : World} {p : Addr} {v : Value} (h : GL W) (hp : 0 ≠ p.block) : GL (W.setCell p v) := by
  unfold GL Lib.TabIs World.var? at *
  have e : Tryd.prog.globalNamed "internal/strconv.uint64pow10" = some 0 := by kernel_rfl
  rw [e] at h ⊢
  simp only [Option.bind_some] at h ⊢
  rw [Below.heap_setCell _ _ _ _ hp]
  exact h
set_option maxHeartbeats 8000000 in
set_option maxRecDepth 100000 in
theorem text_sc1 (k : Nat) (a0 a1 a2 a3 a4 : Int) (nm : ByteArray) (sa sb si st : Bool) (w : World) (hGL : GL w) (hR : inst_Right.f k a0 a1 a2 a3 a4 = some true) (hS : inst_shapeOf.f a0 = some (nm, sa, sb, true, si, st, true)) (hn : nm.size ≤ 10)
    (h1 : -9223372036854775808 ≤ a1) (h1' : a1 ≤ 9223372036854775807) (h2 : -9223372036854775808 ≤ a2) (h2' : a2 ≤ 9223372036854775807) (h3 : -9223372036854775808 ≤ a3) (h3' : a3 ≤ 9223372036854775807) (h4 : -9223372036854775808 ≤ a4) (h4' : a4 ≤ 9223372036854775807) :
    Calls Tryd.prog 29 #[.agg #[.int .i64 a0, .int .i64 a1, .int .i64 a2, .int .i64 a3, .int .i64 a4]] w fun e w' => e = .returned (.string (textS nm sa sb true si a1 a2 a3 a4)) ∧ Below w.heap.size w w' := by
  have HR := Aside0.mk hR
  have HS := Aside0.mk hS
  have HG := Aside0.mk hGL
  clear hR hS hGL
  have hu23 := Tryd.underlying32
  have hu48 := Tryd.underlying72
  go_enter Tryd.func29, Tryd.ntmps29
  go_wp2_with fail
  have hx0 := blk_new w (.cells #[.int .i64 a0, .int .i64 a1, .int .i64 a2, .int .i64 a3, .int .i64 a4] 32)
  refine (inst_Right.calls k a0 a1 a2 a3 a4 true _ HR.out).mono ?_
  rintro e w1 ⟨rfl, hb1⟩
  have hx1 := blk_below hx0 hb1
  have hB1 := below_then (below_alloc (Below.refl w.heap.size w) _) (below_size (below_alloc (Below.refl _ _) _)) hb1
  have c10 := blk_cell hx1 0
  simp at c10
  clear hx0 hb1
  have HX1 := Aside0.mk hx1
  have HB1 := Aside0.mk hB1
  clear hx1 hB1
  go_wp2_with fail
  refine (inst_shapeOf.calls a0 nm sa sb true si st true _ HS.out).mono ?_
  rintro e w2 ⟨rfl, hb2⟩
  have hx2 := blk_below HX1.out hb2
  have hB2 := below_then HB1.out (below_size HB1.out) hb2
  have hz2 := blk_lt hx2
  have c20 := blk_cell hx2 0
  have c21 := blk_cell hx2 1
  have c22 := blk_cell hx2 2
  have c23 := blk_cell hx2 3
  have c24 := blk_cell hx2 4
  simp at c20 c21 c22 c23 c24
  have TT : Aside0 (TextW w ((w2.alloc (.cells #[.string nm, .bool sa, .bool sb, .bool true, .bool si, .bool st] 72)).alloc (.cells #[.string nm] 9)) a0 a1 a2 a3 a4 w2.heap.size (w2.heap.size + 1) nm sa sb true si st nm) :=
    ⟨⟨(HG.out.below hB2).below (below_alloc (below_alloc (Below.refl _ _) _) _), below_alloc (below_alloc hB2 _) _, blk_alloc (blk_alloc hx2 _) _, blk_alloc (blk_new _ _) _, by have h_ := blk_new (w2.alloc (.cells #[.string nm, .bool sa, .bool sb, .bool true, .bool si, .bool st] 72)) (.cells #[.string nm] 9); simpa using h_, hz2, Nat.lt_succ_self _⟩⟩
  clear hb2 hx2 hB2 HB1 HX1 c10
  have ei := Lib.itoa_length_le a4 h4 h4'
  have z0 : (nm ++ ((⟨#[46]⟩ : ByteArray) ++ itoaB a4)).size ≤ 1000 := by
    have := itoaB_size a4 h4 h4'
    simp only [ByteArray.size_append]
    have e : (⟨#[46]⟩ : ByteArray).size = 1 := rfl
    omega
  have z0' : (nm ++ ((⟨#[46]⟩ : ByteArray) ++ itoaB a4)).size ≤ 32 := by
    have := itoaB_size a4 h4 h4'
    simp only [ByteArray.size_append]
    have e : (⟨#[46]⟩ : ByteArray).size = 1 := rfl
    omega
  have z1 := addS_size sa ⟨#[114]⟩ (nm ++ ((⟨#[46]⟩ : ByteArray) ++ itoaB a4)) a1 h1 h1'
  have z2 := addS_size sb ⟨#[114]⟩ (addS sa ⟨#[114]⟩ (nm ++ ((⟨#[46]⟩ : ByteArray) ++ itoaB a4)) a1) a2 h2 h2'
  have z3 := addS_size true ⟨#[114]⟩ (addS sb ⟨#[114]⟩ (addS sa ⟨#[114]⟩ (nm ++ ((⟨#[46]⟩ : ByteArray) ++ itoaB a4)) a1) a2) a3 h3 h3'
  have er : (⟨#[114]⟩ : ByteArray).size = 1 := rfl
  have z3' : (addS true ⟨#[114]⟩ (addS sb ⟨#[114]⟩ (addS sa ⟨#[114]⟩ (nm ++ ((⟨#[46]⟩ : ByteArray) ++ itoaB a4)) a1) a2) a3).size ≤ 1000 := by omega
  have z2' : (addS sb ⟨#[114]⟩ (addS sa ⟨#[114]⟩ (nm ++ ((⟨#[46]⟩ : ByteArray) ++ itoaB a4)) a1) a2).size ≤ 1000 := by omega
  have z1' : (addS sa ⟨#[114]⟩ (nm ++ ((⟨#[46]⟩ : ByteArray) ++ itoaB a4)) a1).size ≤ 1000 := by omega
  clear z1 z2 z3 er z0'
  have Z0 := Aside0.mk z0
  have Z1 := Aside0.mk z1'
  have Z2 := Aside0.mk z2'
  have Z3 := Aside0.mk z3'
  clear z1' z2' z3' z0
  go_wp2_with fail
  obtain ⟨W, hW⟩ : ∃ W, (w2.alloc (.cells #[.string nm, .bool sa, .bool sb, .bool true, .bool si, .bool st] 72)).alloc (.cells #[.string nm] 9) = W := ⟨_, rfl⟩
  rw [hW] at TT ⊢
  clear hW
  refine wp_region_rel 6 (fun _ => none) (fun _ => []) (fun _ _ _ => True) (fun w' => Below W.heap.size W w') (fun a b => Below a.heap.size a b) (by kernel_rfl) (by kernel_rfl) (below_drew (Below.refl _ _)) (fun a b h k => below_then h h.size k) (fun _ _ _ _ _ _ => trivial) ?_
  simp only [List.take_succ_cons, List.take_zero, List.drop_succ_cons, List.drop_zero]
  repeat (apply relQ_step rfl; apply Exists.intro; constructor; focus (intro w' hw'; have hg' := Aside0.mk (TT.out.gl.below hw'); have hx' := blk_cell (blk_below TT.out.x hw') 4; have ho' := blk_cell (blk_below TT.out.out hw') 0; simp at hx' ho'; unfold Yl; go_wp2_with (go_at_call 28; refine (itoa_calls a4 _ hg'.out h4 h4').mono ?_; rintro e w3 ⟨rfl, hb3⟩); first | exact ⟨rfl, _, rfl, rfl, Below.refl _ _⟩ | exact ⟨rfl, _, rfl, rfl, hb3⟩))
  refine relQ_nil (fun x => ?_)
  repeat (refine relL_quiet rfl ?_)
  refine relL_nil (fun w' hw' _ => ?_)
  have TB := Aside0.mk (show TextW w (w'.setCell ⟨w2.heap.size + 1, 0, none⟩ (.string (nm ++ ((⟨#[46]⟩ : ByteArray) ++ itoaB a4)))) a0 a1 a2 a3 a4 w2.heap.size (w2.heap.size + 1) nm sa sb true si st (nm ++ ((⟨#[46]⟩ : ByteArray) ++ itoaB a4)) from
    TT.out.step (blk_set (blk_below TT.out.out hw') 0 _) (by
      refine ⟨hw'.os, hw'.tape, hw'.output, ?_, fun i hi hne => ?_⟩
      · have := hw'.size
        simpa [World.setCell] using this
      · rw [Below.heap_setCell _ _ _ _ (fun e => hne (congrArg some e))]
        exact hw'.block i hi))
  have T0 := Aside0.mk (show TextW w ((w'.setCell ⟨w2.heap.size + 1, 0, none⟩ (.string (nm ++ ((⟨#[46]⟩ : ByteArray) ++ itoaB a4)))).setCell ⟨w2.heap.size, 4, none⟩ (.bool false)) a0 a1 a2 a3 a4 w2.heap.size (w2.heap.size + 1) nm sa sb true false st (nm ++ ((⟨#[46]⟩ : ByteArray) ++ itoaB a4)) from
    ⟨gl_setc TB.out.gl (by have := TB.out.o1; simp; omega), TB.out.below.setCell (by have := TB.out.o1; simp; omega) _, blk_far TB.out.x (by have := TB.out.o1; simp; omega) _, blk_set TB.out.ss 4 _, blk_far TB.out.out (by simp) _, TB.out.o1, TB.out.o2⟩)
  have bx := blk_below TT.out.x hw'
  have bs := blk_below TT.out.ss hw'
  have bo := blk_below TT.out.out hw'
  have c1 := blk_cell bx 1
  have c2 := blk_cell bx 2
  have c3 := blk_cell bx 3
  have c4 := blk_cell bx 4
  have d1 := blk_cell bs 1
  have d2 := blk_cell bs 2
  have d3 := blk_cell bs 3
  have d4 := blk_cell bs 4
  have f4 := blk_frozen bs 4
  have e1 := blk_cell bo 0
  have f1 := blk_frozen bo 0
  clear bx bs bo hw' c20 c21 c22 c23 c24
  simp at c1 c2 c3 c4 d1 d2 d3 d4 e1
  go_wp2_with fail
  refine (text1 sa ⟨#[114]⟩ (nm ++ ((⟨#[46]⟩ : ByteArray) ++ itoaB a4)) a1 _ _ T0.out.gl h1 h1' (by decide) Z0.out T0.out.out).mono ?_
  rintro e v1 ⟨rfl, hB1, hg1⟩
  have T1 := Aside0.mk (T0.out.step hB1 hg1)
  clear hB1 hg1
  obtain ⟨c1, c2, c3, c4, d1, d2, d3, d4, f4, e1, f1⟩ := T1.out.cells
  go_wp2_with fail
  refine (text1 sb ⟨#[114]⟩ (addS sa ⟨#[114]⟩ (nm ++ ((⟨#[46]⟩ : ByteArray) ++ itoaB a4)) a1) a2 _ _ T1.out.gl h2 h2' (by decide) Z1.out T1.out.out).mono ?_
  rintro e v2 ⟨rfl, hB2, hg2⟩
  have T2 := Aside0.mk (T1.out.step hB2 hg2)
  clear hB2 hg2
  obtain ⟨c1, c2, c3, c4, d1, d2, d3, d4, f4, e1, f1⟩ := T2.out.cells
  go_wp2_with fail
  refine (text1 true ⟨#[114]⟩ (addS sb ⟨#[114]⟩ (addS sa ⟨#[114]⟩ (nm ++ ((⟨#[46]⟩ : ByteArray) ++ itoaB a4)) a1) a2) a3 _ _ T2.out.gl h3 h3' (by decide) Z2.out T2.out.out).mono ?_
  rintro e v3 ⟨rfl, hB3, hg3⟩
  have T3 := Aside0.mk (T2.out.step hB3 hg3)
  clear hB3 hg3
  obtain ⟨c1, c2, c3, c4, d1, d2, d3, d4, f4, e1, f1⟩ := T3.out.cells
  go_wp2_with fail
  refine (text1 false ⟨#[]⟩ (addS true ⟨#[114]⟩ (addS sb ⟨#[114]⟩ (addS sa ⟨#[114]⟩ (nm ++ ((⟨#[46]⟩ : ByteArray) ++ itoaB a4)) a1) a2) a3) a4 _ _ T3.out.gl h4 h4' (by decide) Z3.out T3.out.out).mono ?_
  rintro e v4 ⟨rfl, hB4, hg4⟩
  have T4 := Aside0.mk (T3.out.step hB4 hg4)
  clear hB4 hg4
  obtain ⟨c1, c2, c3, c4, d1, d2, d3, d4, f4, e1, f1⟩ := T4.out.cells
  go_wp2_with fail
  go_ret
  exact ⟨rfl, T4.out.below⟩
end Go.Proofs.YtmfcmjcgajjiiaaDoor.S
namespace Go.Proofs.YtmfcmjcgajjiiaaDoor.S
open Go.RowKit Go.Proofs.YtmfcmjcgajjiiaaDoorW.PrintWords Go.Proofs.YtmfcmjcgajjiiaaDoorW.PrintLast Go.Proofs.YtmfcmjcgajjiiaaDoorW.PrintMore Go.RelRegion
set_option linter.unusedVariables false
set_option maxHeartbeats 8000000 in
theorem text_not (k : Nat) (a0 a1 a2 a3 a4 : Int) (w : World) (hR : inst_Right.f k a0 a1 a2 a3 a4 = some false) :
    Calls Tryd.prog 29 #[.agg #[.int .i64 a0, .int .i64 a1, .int .i64 a2, .int .i64 a3, .int .i64 a4]] w fun e w' => e = .returned (.string ⟨#[63]⟩) ∧ Below w.heap.size w w' := by
  have HR := Aside0.mk hR
  clear hR
  go_enter Tryd.func29, Tryd.ntmps29
  go_wp2_with fail
  refine (inst_Right.calls k a0 a1 a2 a3 a4 false _ HR.out).mono ?_
  rintro e w1 ⟨rfl, hb1⟩
  have hB1 := below_then (below_alloc (Below.refl w.heap.size w) _) (below_size (below_alloc (Below.refl _ _) _)) hb1
  clear hb1
  have HB1 := Aside0.mk hB1
  clear hB1
  go_wp2_with fail
  go_ret
  exact ⟨rfl, HB1.out⟩

/-- The text of a right instruction, out of what its operation names. -/
def textR (a0 a1 a2 a3 a4 : Int) : Option ByteArray :=
  (inst_shapeOf.f a0).bind fun t => if t.2.2.2.2.2.2 = true ∧ t.1.size ≤ 10 ∧ (-9223372036854775808 ≤ a1 ∧ a1 ≤ 9223372036854775807) ∧ (-9223372036854775808 ≤ a2 ∧ a2 ≤ 9223372036854775807) ∧ (-9223372036854775808 ≤ a3 ∧ a3 ≤ 9223372036854775807) ∧ (-9223372036854775808 ≤ a4 ∧ a4 ≤ 9223372036854775807)
    then some (textS t.1 t.2.1 t.2.2.1 t.2.2.2.1 t.2.2.2.2.1 a1 a2 a3 a4) else none
def inst_Text.f (k : Nat) (a0 a1 a2 a3 a4 : Int) : Option ByteArray :=
  (inst_Right.f k a0 a1 a2 a3 a4).bind fun t => if t = true then textR a0 a1 a2 a3 a4 else some ⟨#[63]⟩
theorem inst_Text.mono : ∀ a0 a1 a2 a3 a4 k, LeO (inst_Text.f k a0 a1 a2 a3 a4) (inst_Text.f (k + 1) a0 a1 a2 a3 a4) := by
  intro a0 a1 a2 a3 a4 k
  unfold inst_Text.f
  exact LeO.bind (inst_Right.mono _ _ _ _ _ _) (fun _ => LeO.refl _)
theorem inst_Text.calls (k : Nat) (a0_0 : Int) (a0_1 : Int) (a0_2 : Int) (a0_3 : Int) (a0_4 : Int) (r : ByteArray) (w : World) (hGL : Aside0 (GL w)) (h : inst_Text.f k a0_0 a0_1 a0_2 a0_3 a0_4 = some r) :
    Calls Tryd.prog 29 #[.agg #[.int .i64 a0_0, .int .i64 a0_1, .int .i64 a0_2, .int .i64 a0_3, .int .i64 a0_4]] w fun e w' => e = .returned (.string r) ∧ Below w.heap.size w w' := by
  unfold inst_Text.f at h
  cases hR : inst_Right.f k a0_0 a0_1 a0_2 a0_3 a0_4 with
  | none => rw [hR] at h; cases h
  | some t =>
    rw [hR] at h
    simp only [Option.bind_some] at h
    cases t with
    | false =>
      rw [if_neg (by simp)] at h
      injection h with h
      subst h
      exact text_not k _ _ _ _ _ w hR
    | true =>
      rw [if_pos rfl] at h
      unfold textR at h
      cases hS : inst_shapeOf.f a0_0 with
      | none => rw [hS] at h; cases h
      | some x =>
        obtain ⟨nm, sa, sb, sc, si, st, is⟩ := x
        rw [hS] at h
        simp only [Option.bind_some] at h
        split at h
        · rename_i hc
          obtain ⟨h1, h2, ⟨h3, h4⟩, ⟨h5, h6⟩, ⟨h7, h8⟩, h9, h10⟩ := hc
          injection h with h
          subst h
          cases is with
          | false => cases h1
          | true =>
            cases sc with
            | true => exact text_sc1 k _ _ _ _ _ nm sa sb si st w hGL.out hR hS h2 h3 h4 h5 h6 h7 h8 h9 h10
            | false => exact text_sc0 k _ _ _ _ _ nm sa sb si st w hGL.out hR hS h2 h3 h4 h5 h6 h7 h8 h9 h10
        · cases h
end Go.Proofs.YtmfcmjcgajjiiaaDoor.S
