import Derived.Test.YtnkgbnbbmcoiiaaRf
import Derived.Test.YtnkgbnbbmcoiiaaRel
import Derived.Test.YtnkgbnbbmcoiiaaLimm
import Derived.BigRegion
import Derived.RegionTactic
namespace Go.Proofs.Ytnkgbnbbmcoiiaa.S
open Go.RowKit Go.IM Go.RelRegion Go.Proofs.YtnkgbnbbmcoiiaaW.PrintWords Go.Proofs.YtnkgbnbbmcoiiaaW.PrintLast Go.Proofs.YtnkgbnbbmcoiiaaW.PrintMore
set_option linter.unusedVariables false
set_option linter.unusedSimpArgs false
/-! ### code.Same, of two that are the same -/
set_option maxHeartbeats 4000000 in
set_option maxRecDepth 100000 in
theorem eqInts (l : List Int) (A A' : Option Addr) (c c' : Nat) (w : World) (hC : Kd.C (Kd.int .i64) w A l.length l) (hC' : Kd.C (Kd.int .i64) w A' l.length l) :
    Calls Try.prog 94 #[.slice A l.length c, .slice A' l.length c'] w fun e w' => e = .returned (.bool true) ∧ Below w.heap.size w w' := by
  have HC := Aside0.mk hC
  have HC' := Aside0.mk hC'
  clear hC hC'
  go_enter Try.func94, Try.ntmps94
  go_wp2_with fail
  go_loopw [13] (fun i wr => ∃ q : Nat, q ≤ l.length ∧ i = .int .i64 (q : Int) ∧ Aside0 (Below w.heap.size w wr)) (fun i _ => l.length - (intOf i).toNat)
  case atStart => exact ⟨0, Nat.zero_le _, rfl, ⟨Below.refl _ _⟩⟩
  case round =>
    obtain ⟨q, hq, rfl, HB⟩ := hrel
    by_cases hlq : q < l.length
    · have b3 : decide ((q : Int) < (l.length : Int)) = true := decide_eq_true (Int.ofNat_lt.2 hlq)
      have hw6 : wrap64 ((q : Int) + 1) = (q : Int) + 1 := inc63 hlq HC.out.2.1
      obtain ⟨ad1, e1, k0⟩ := Kd.at_int (Kd.C_below HC.out HB.out) (q : Int) (Int.natCast_nonneg q) (Int.ofNat_lt.2 hlq)
      obtain ⟨ad2, e2, m0⟩ := Kd.at_int (Kd.C_below HC'.out HB.out) (q : Int) (Int.natCast_nonneg q) (Int.ofNat_lt.2 hlq)
      rw [Int.toNat_natCast] at k0 m0
      subst e1 e2
      generalize rd l (q : Int) = r at k0 m0
      go_wp2_with fail
      refine wp_region_rel 9 (fun _ => none) (fun _ => []) (fun _ _ _ => True) (fun wq => Below wr.heap.size wr wq) (fun a b => Below a.heap.size a b) (by kernel_rfl) (by kernel_rfl) (below_drew (Below.refl _ _)) (fun a b h k => below_then h h.size k) (fun _ _ _ _ h _ => h) ?_
      simp only [List.take_succ_cons, List.take_zero, List.drop_succ_cons, List.drop_zero]
      iterate 9 (apply relQ_step rfl; apply Exists.intro; constructor; (focus (intro wq hwq; have k0 := pw_cell_below hwq k0; have m0 := pw_cell_below hwq m0; unfold Yl; go_wp2_with fail; exact ⟨rfl, _, rfl, rfl, Below.refl _ _⟩)); (try simp only [Act.put, List.setIfInBounds_toArray, List.set_cons_zero, List.set_cons_succ]))
      refine relQ_nil (fun xx => ?_)
      repeat (refine relL_quiet rfl ?_)
      refine relL_nil (fun w13 hw13 _ => ?_)
      have HB13 := Aside0.mk (below_then HB.out HB.out.size hw13)
      clear k0 m0 hw13
      go_wp2_with fail
      go_roundw
      case rel => exact ⟨q + 1, hlq, by first | (rw [hw6]; exact num_cast q) | (with_reducible exact num_cast q), HB13⟩
      case measure => first | (rw [hw6]; exact num_meas hlq) | (with_reducible exact num_meas hlq)
    · have b3 : decide ((q : Int) < (l.length : Int)) = false := decide_eq_false (fun h => hlq (Int.ofNat_lt.1 h))
      go_wp2_with fail
      go_ret
      exact ⟨rfl, HB.out⟩
theorem eqA122 (d : Nat) (w : World) (a0 a1 a2 a3 a4 : Int) :
    (Op.equalIn (d + 2) 122 (.agg #[.int .i64 a0, .int .i64 a1, .int .i64 a2, .int .i64 a3, .int .i64 a4]) (.agg #[.int .i64 a0, .int .i64 a1, .int .i64 a2, .int .i64 a3, .int .i64 a4])).run Try.prog w = .ok true w := by
  have p0 : (part 3 #[.int .i64 a0, .int .i64 a1, .int .i64 a2, .int .i64 a3, .int .i64 a4] 0).run Try.prog w = .ok (.int .i64 a0) w := by go_simp
  have p1 : (part 3 #[.int .i64 a0, .int .i64 a1, .int .i64 a2, .int .i64 a3, .int .i64 a4] 1).run Try.prog w = .ok (.int .i64 a1) w := by go_simp
  have p2 : (part 3 #[.int .i64 a0, .int .i64 a1, .int .i64 a2, .int .i64 a3, .int .i64 a4] 2).run Try.prog w = .ok (.int .i64 a2) w := by go_simp
  have p3 : (part 3 #[.int .i64 a0, .int .i64 a1, .int .i64 a2, .int .i64 a3, .int .i64 a4] 3).run Try.prog w = .ok (.int .i64 a3) w := by go_simp
  have p4 : (part 3 #[.int .i64 a0, .int .i64 a1, .int .i64 a2, .int .i64 a3, .int .i64 a4] 4).run Try.prog w = .ok (.int .i64 a4) w := by go_simp
  have e : ∀ (a : Int), (Op.equalIn (d + 1) 3 (.int .i64 a) (.int .i64 a)).run Try.prog w = .ok true w := fun a => by go_simp
  have hs : (sizeOf 3).run Try.prog w = .ok 1 w := by kernel_rfl
  rw [Op.equalIn]
  simp only [Sem.run_bind, run_underlying Try.underlying122, Result.andThen_ok, hs]
  simp [List.range', p0, p1, p2, p3, p4, e, Sem.run_bind, Result.andThen_ok]
theorem eqA122' (w : World) (a0 a1 a2 a3 a4 : Int) :
    (Op.equalIn 10000 122 (.agg #[.int .i64 a0, .int .i64 a1, .int .i64 a2, .int .i64 a3, .int .i64 a4]) (.agg #[.int .i64 a0, .int .i64 a1, .int .i64 a2, .int .i64 a3, .int .i64 a4])).run Try.prog w = .ok true w := eqA122 9998 w a0 a1 a2 a3 a4
theorem eqT41 (w : World) (a0 a1 a2 a3 : Int) : (Op.equalIn 10000 41 (.agg #[.int .i64 a0, .int .i64 a1, .int .i64 a2, .int .i64 a3]) (.agg #[.int .i64 a0, .int .i64 a1, .int .i64 a2, .int .i64 a3])).run Try.prog w = .ok true w := by
  rw [eqA41 9998 w]
  simp
attribute [local go_sem high] eqA122' eqT41
/-- The two arrays of sameOp. -/
def Z67 : Obj := .cells #[.int .i64 0, .int .i64 0, .int .i64 0, .int .i64 0, .int .i64 0] 122
def V67 (x : S45) : Obj := .cells #[.int .i64 x.f0, .int .i64 x.f1, .int .i64 x.f2, .int .i64 x.f3, .int .i64 x.f4] 122
/-- Some own blocks may turn from Z to V. -/
structure SB (B : Nat) (Z V : Obj) (w w' : World) : Prop where mk ::
  os : w'.os = w.os
  tape : w'.tape = w.tape
  output : w'.output = w.output
  size : w.heap.size ≤ w'.heap.size
  block : ∀ k, k < w.heap.size → w'.heap[k]? = w.heap[k]? ∨ (B ≤ k ∧ w.heap[k]? = some Z ∧ w'.heap[k]? = some V)
theorem SB.of_below {B : Nat} {Z V : Obj} {w w' : World} (h : Below w.heap.size w w') : SB B Z V w w' := ⟨h.os, h.tape, h.output, h.size, fun k hk => .inl (h.block k hk)⟩
theorem SB.trans {B : Nat} {Z V : Obj} {a b c : World} (h : SB B Z V a b) (k : SB B Z V b c) : SB B Z V a c :=
  ⟨k.os.trans h.os, k.tape.trans h.tape, k.output.trans h.output, Nat.le_trans h.size k.size, fun i hi => by
    rcases h.block i hi with h1 | ⟨h1, h2, h3⟩
    · rcases k.block i (Nat.lt_of_lt_of_le hi h.size) with k1 | ⟨k1, k2, k3⟩
      · exact .inl (k1.trans h1)
      · exact .inr ⟨k1, h1 ▸ k2, k3⟩
    · rcases k.block i (Nat.lt_of_lt_of_le hi h.size) with k1 | ⟨k1, k2, k3⟩
      · exact .inr ⟨h1, h2, k1.trans h3⟩
      · exact .inr ⟨h1, h2, k3⟩⟩
theorem SB.below {B : Nat} {Z V : Obj} {w w' : World} (h : SB B Z V w w') (hB : B ≤ w.heap.size) : Below B w w' :=
  ⟨h.os, h.tape, h.output, h.size, fun k hk => by
    rcases h.block k (by omega) with h1 | ⟨h1, _, _⟩
    · exact h1
    · omega⟩
theorem SB.zv {B : Nat} {Z V : Obj} {w w' : World} (h : SB B Z V w w') {g : Nat} (hg : w.heap[g]? = some Z ∨ w.heap[g]? = some V) : w'.heap[g]? = some Z ∨ w'.heap[g]? = some V := by
  have hlt : g < w.heap.size := by rcases hg with hg | hg <;> exact blk_lt hg
  rcases h.block g hlt with h1 | ⟨_, _, h3⟩
  · rw [h1]; exact hg
  · exact .inr h3
theorem SB.v {B : Nat} {Z V : Obj} {w w' : World} (h : SB B Z V w w') {g : Nat} (hg : w.heap[g]? = some V) : w'.heap[g]? = some V := by
  rcases h.block g (blk_lt hg) with h1 | ⟨_, _, h3⟩
  · rw [h1]; exact hg
  · exact h3
def set5 (w : World) (g : Nat) (x : S45) : World := ((((w.setCell ⟨g, 0, none⟩ (.int .i64 x.f0)).setCell ⟨g, 1, none⟩ (.int .i64 x.f1)).setCell ⟨g, 2, none⟩ (.int .i64 x.f2)).setCell ⟨g, 3, none⟩ (.int .i64 x.f3)).setCell ⟨g, 4, none⟩ (.int .i64 x.f4)
theorem ints5 {w : World} {g : Nat} {x : S45} (hg : w.heap[g]? = some Z67 ∨ w.heap[g]? = some (V67 x)) : ∃ a0 a1 a2 a3 a4 : Int, w.heap[g]? = some (.cells #[.int .i64 a0, .int .i64 a1, .int .i64 a2, .int .i64 a3, .int .i64 a4] 122 (0, 0)) := by
  rcases hg with hg | hg
  · exact ⟨_, _, _, _, _, hg⟩
  · exact ⟨_, _, _, _, _, hg⟩
theorem set5_v {w : World} {g : Nat} {x : S45} (hg : w.heap[g]? = some Z67 ∨ w.heap[g]? = some (V67 x)) : (set5 w g x).heap[g]? = some (V67 x) := by
  obtain ⟨a0, a1, a2, a3, a4, h⟩ := ints5 hg
  exact blk_set (blk_set (blk_set (blk_set (blk_set h 0 _) 1 _) 2 _) 3 _) 4 _
theorem set5_sb {B : Nat} {w : World} {g : Nat} {x : S45} (hB : B ≤ g) (hg : w.heap[g]? = some Z67 ∨ w.heap[g]? = some (V67 x)) : SB B Z67 (V67 x) w (set5 w g x) := by
  have hb : Below g w (set5 w g x) := (((((Below.refl g w).setCell (p := ⟨g, 0, none⟩) (Nat.le_refl _) _).setCell (p := ⟨g, 1, none⟩) (Nat.le_refl _) _).setCell (p := ⟨g, 2, none⟩) (Nat.le_refl _) _).setCell (p := ⟨g, 3, none⟩) (Nat.le_refl _) _).setCell (p := ⟨g, 4, none⟩) (Nat.le_refl _) _
  refine ⟨hb.os, hb.tape, hb.output, hb.size, fun k hk => ?_⟩
  · by_cases e : k = g
    · subst e
      rcases hg with h | h
      · exact .inr ⟨hB, h, set5_v (.inl h)⟩
      · exact .inl ((set5_v (.inr h)).trans h.symm)
    · left
      unfold set5
      rw [Below.heap_setCell _ _ _ k e, Below.heap_setCell _ _ _ k e, Below.heap_setCell _ _ _ k e, Below.heap_setCell _ _ _ k e, Below.heap_setCell _ _ _ k e]
theorem wpList_Yl {P : Program} {ops : Array Oper} {o : Oper} {rest : List Oper} {a : Act} {w : World} {Q : Exit → Act → World → Prop} (R : Value → World → Prop) (hs : ∀ cs b, o.op ≠ .select cs b) (h : Yl P ops o a w R) (hK : ∀ v w', R v w' → wpList P ops Q rest (a.put o.dst v) w') : wpList P ops Q (o :: rest) a w :=
  Yl.move hs rfl (fun _ _ => rfl) h hK
def R67 (B : Nat) (x : S45) (k : Nat) (vs : List Value) (w' : World) : Prop :=
  if k = 24 then ∃ g, vs = [.pointer (some ⟨g, 0, none⟩)] ∧ w'.heap[g]? = some (V67 x)
  else if k = 22 ∨ k = 23 then ∃ g, vs = [.pointer (some ⟨g, 0, none⟩)] ∧ B ≤ g ∧ (w'.heap[g]? = some Z67 ∨ w'.heap[g]? = some (V67 x)) else True
theorem R67.keep {B : Nat} {x : S45} {k : Nat} {vs : List Value} {w w' : World} (h : R67 B x k vs w) (hb : SB B Z67 (V67 x) w w') : R67 B x k vs w' := by
  unfold R67 at h ⊢
  split at h
  · rename_i h1
    rw [if_pos h1]
    obtain ⟨g, e, hg⟩ := h
    exact ⟨g, e, hb.v hg⟩
  · rename_i h1
    rw [if_neg h1]
    split at h
    · rename_i h2
      rw [if_pos h2]
      obtain ⟨g, e, hB, hg⟩ := h
      exact ⟨g, e, hB, hb.zv hg⟩
    · rename_i h2
      rw [if_neg h2]
      trivial
set_option maxHeartbeats 8000000 in
set_option maxRecDepth 100000 in
theorem sameOp_eq (x : S45) (A A' : Option Addr) (c c' : Nat) (w : World) (hC : Kd.C (Kd.int .i64) w A x.f5.length x.f5) (hC' : Kd.C (Kd.int .i64) w A' x.f5.length x.f5) :
    Calls Try.prog 67 #[.agg #[.int .i64 x.f0, .int .i64 x.f1, .int .i64 x.f2, .int .i64 x.f3, .int .i64 x.f4, .slice A x.f5.length c], .agg #[.int .i64 x.f0, .int .i64 x.f1, .int .i64 x.f2, .int .i64 x.f3, .int .i64 x.f4, .slice A' x.f5.length c']] w fun e w' => e = .returned (.bool true) ∧ Below w.heap.size w w' := by
  have hu45 := Try.underlying45
  have hu122 := Try.underlying122
  have HC := Aside0.mk hC
  have HC' := Aside0.mk hC'
  clear hC hC'
  have HX := Aside0.mk (blk_alloc (blk_new w (.cells #[.int .i64 x.f0, .int .i64 x.f1, .int .i64 x.f2, .int .i64 x.f3, .int .i64 x.f4, .slice A x.f5.length c] 45)) (.cells #[.int .i64 x.f0, .int .i64 x.f1, .int .i64 x.f2, .int .i64 x.f3, .int .i64 x.f4, .slice A' x.f5.length c'] 45))
  have HY := Aside0.mk (blk_new (w.alloc (.cells #[.int .i64 x.f0, .int .i64 x.f1, .int .i64 x.f2, .int .i64 x.f3, .int .i64 x.f4, .slice A x.f5.length c] 45)) (.cells #[.int .i64 x.f0, .int .i64 x.f1, .int .i64 x.f2, .int .i64 x.f3, .int .i64 x.f4, .slice A' x.f5.length c'] 45))
  go_enter Try.func67, Try.ntmps67
  go_wp2_with fail
  obtain ⟨W, hW⟩ : ∃ W, (w.alloc (.cells #[.int .i64 x.f0, .int .i64 x.f1, .int .i64 x.f2, .int .i64 x.f3, .int .i64 x.f4, .slice A x.f5.length c] 45)).alloc (.cells #[.int .i64 x.f0, .int .i64 x.f1, .int .i64 x.f2, .int .i64 x.f3, .int .i64 x.f4, .slice A' x.f5.length c'] 45) = W := ⟨_, rfl⟩
  rw [hW] at HX HY ⊢
  have HBW := Aside0.mk (show Below w.heap.size w W by rw [← hW]; exact below_alloc (below_alloc (Below.refl _ _) _) _)
  have hz : w.heap.size + 1 < W.heap.size := by rw [← hW, World.size_alloc, World.size_alloc]; omega
  rw [World.size_alloc] at HY
  clear hW
  have c0 := blk_cell HX.out 0
  have c1 := blk_cell HX.out 1
  have c2 := blk_cell HX.out 2
  have c3 := blk_cell HX.out 3
  have c4 := blk_cell HX.out 4
  have d0 := blk_cell HY.out 0
  have d1 := blk_cell HY.out 1
  have d2 := blk_cell HY.out 2
  have d3 := blk_cell HY.out 3
  have d4 := blk_cell HY.out 4
  simp only [List.getElem?_toArray, List.getElem?_cons_zero, List.getElem?_cons_succ] at c0 c1 c2 c3 c4 d0 d1 d2 d3 d4
  refine wp_region_rel 25 (fun k => if k = 22 ∨ k = 23 then some [] else if k = 24 then some [22] else none) (fun k => if k = 24 then [22] else [k]) (R67 W.heap.size x) (fun w' => SB W.heap.size (Z67) (V67 x) W w') (SB W.heap.size Z67 (V67 x)) (by kernel_rfl) (by kernel_rfl) (SB.of_below (below_drew (Below.refl _ _))) (fun a b h k => h.trans k) (fun _ _ _ _ h hb => h.keep hb) ?_
  simp only [List.take_succ_cons, List.take_zero, List.drop_succ_cons, List.drop_zero]
  iterate 25 (first | (refine relQ_loud rfl ?_) | (apply relQ_step rfl; apply Exists.intro; constructor; (focus (intro w' hw'; have hbw := hw'.below (Nat.le_refl _); have c0 := pw_cell_below hbw c0; have c1 := pw_cell_below hbw c1; have c2 := pw_cell_below hbw c2; have c3 := pw_cell_below hbw c3; have c4 := pw_cell_below hbw c4; have d0 := pw_cell_below hbw d0; have d1 := pw_cell_below hbw d1; have d2 := pw_cell_below hbw d2; have d3 := pw_cell_below hbw d3; have d4 := pw_cell_below hbw d4; clear hbw; unfold Yl; go_wp2_with fail; exact ⟨rfl, _, rfl, rfl, SB.of_below (Below.refl _ _)⟩)); (try simp only [Act.put, List.setIfInBounds_toArray, List.set_cons_zero, List.set_cons_succ])))
  refine relQ_nil (fun xx => ?_)
  repeat (refine relL_quiet rfl ?_)
  refine relL_loud rfl (fun w' hw' _ => ?_) ?_
  · unfold Yl
    go_wp2_with fail
    refine ⟨rfl, _, rfl, SB.of_below (below_alloc (Below.refl _ _) _), ?_⟩
    unfold R67
    rw [if_neg (by decide), if_pos (by decide)]
    exact ⟨w'.heap.size, by simp, hw'.size, .inl (blk_new w' Z67)⟩
  (try simp only [Act.put, List.setIfInBounds_toArray, List.set_cons_zero, List.set_cons_succ])
  refine relL_loud rfl (fun w' hw' _ => ?_) ?_
  · unfold Yl
    go_wp2_with fail
    refine ⟨rfl, _, rfl, SB.of_below (below_alloc (Below.refl _ _) _), ?_⟩
    unfold R67
    rw [if_neg (by decide), if_pos (by decide)]
    exact ⟨w'.heap.size, by simp, hw'.size, .inl (blk_new w' Z67)⟩
  (try simp only [Act.put, List.setIfInBounds_toArray, List.set_cons_zero, List.set_cons_succ])
  refine relL_loud rfl (fun w' hw' hR => ?_) ?_
  · have r2 := hR 22 (by simp)
    unfold R67 at r2
    rw [if_neg (by decide), if_pos (by decide)] at r2
    obtain ⟨g, e2, hBg, hg⟩ := r2
    have e2 : xx 22 = .pointer (some ⟨g, 0, none⟩) := by simpa using e2
    rw [e2]
    obtain ⟨a0, a1, a2, a3, a4, hi⟩ := ints5 hg
    have k0 := blk_cell hi 0
    have k1 := blk_cell hi 1
    have k2 := blk_cell hi 2
    have k3 := blk_cell hi 3
    have k4 := blk_cell hi 4
    have f0 := blk_frozen hi 0
    have f1 := blk_frozen hi 1
    have f2 := blk_frozen hi 2
    have f3 := blk_frozen hi 3
    have f4 := blk_frozen hi 4
    simp only [List.getElem?_toArray, List.getElem?_cons_zero, List.getElem?_cons_succ] at k0 k1 k2 k3 k4
    have HG := Aside0.mk hg
    clear hi hg
    unfold Yl
    go_wp2_with fail
    refine ⟨rfl, undef, rfl, set5_sb hBg HG.out, ?_⟩
    unfold R67
    rw [if_pos rfl]
    exact ⟨g, by simp, set5_v HG.out⟩
  (try simp only [Act.put, List.setIfInBounds_toArray, List.set_cons_zero, List.set_cons_succ])
  refine relL_nil (fun w2 hw2 hRR => ?_)
  have r2 := hRR 22 (by decide) rfl
  have r3 := hRR 23 (by decide) rfl
  have r4 := hRR 24 (by decide) rfl
  unfold R67 at r2 r3 r4
  rw [if_neg (by decide), if_pos (by decide)] at r2 r3
  rw [if_pos rfl] at r4
  obtain ⟨g, e2, hBg, hg⟩ := r2
  obtain ⟨g', e3, hBg', hg'⟩ := r3
  obtain ⟨g2, e4, hg4⟩ := r4
  have e2 : xx 22 = .pointer (some ⟨g, 0, none⟩) := by simpa using e2
  have e3 : xx 23 = .pointer (some ⟨g', 0, none⟩) := by simpa using e3
  have e4 : xx 22 = .pointer (some ⟨g2, 0, none⟩) := by simpa using e4
  have eg : g2 = g := by
    rw [e2] at e4
    injection e4 with e4
    injection e4 with e4
    injection e4 with e4
    exact e4.symm
  subst eg
  rw [e2, e3]
  clear hRR e2 e3 e4 hg c0 c1 c2 c3 c4 d0 d1 d2 d3 d4
  obtain ⟨a0, a1, a2, a3, a4, hi⟩ := ints5 hg'
  have k0 := blk_cell hi 0
  have k1 := blk_cell hi 1
  have k2 := blk_cell hi 2
  have k3 := blk_cell hi 3
  have k4 := blk_cell hi 4
  have f0 := blk_frozen hi 0
  have f1 := blk_frozen hi 1
  have f2 := blk_frozen hi 2
  have f3 := blk_frozen hi 3
  have f4 := blk_frozen hi 4
  simp only [List.getElem?_toArray, List.getElem?_cons_zero, List.getElem?_cons_succ] at k0 k1 k2 k3 k4
  have HG4 := Aside0.mk hg4
  have HGz := Aside0.mk hg'
  clear hi hg' hg4
  refine wpList_Yl (fun _ w3 => SB W.heap.size Z67 (V67 x) w2 w3 ∧ w3.heap[g']? = some (V67 x)) (fun _ _ h => by cases h) ?_ (fun v w3 hw3 => ?_)
  · unfold Yl
    go_wp2_with fail
    exact ⟨rfl, undef, rfl, set5_sb hBg' HGz.out, set5_v HGz.out⟩
  clear k0 k1 k2 k3 k4 f0 f1 f2 f3 f4
  have HG1 := Aside0.mk (hw3.1.v HG4.out)
  have HG2 := Aside0.mk hw3.2
  have HB3 := Aside0.mk ((hw2.trans hw3.1).below (Nat.le_refl _))
  clear hw2 hw3 HG4 HGz
  have a0 := blk_cell HG1.out 0
  have a1 := blk_cell HG1.out 1
  have a2 := blk_cell HG1.out 2
  have a3 := blk_cell HG1.out 3
  have a4 := blk_cell HG1.out 4
  have b0 := blk_cell HG2.out 0
  have b1 := blk_cell HG2.out 1
  have b2 := blk_cell HG2.out 2
  have b3 := blk_cell HG2.out 3
  have b4 := blk_cell HG2.out 4
  simp only [List.getElem?_toArray, List.getElem?_cons_zero, List.getElem?_cons_succ] at a0 a1 a2 a3 a4 b0 b1 b2 b3 b4
  have e0 := blk_cell (blk_below HX.out HB3.out) 5
  have e1 := blk_cell (blk_below HY.out HB3.out) 5
  simp only [List.getElem?_toArray, List.getElem?_cons_zero, List.getElem?_cons_succ] at e0 e1
  go_wp2_with (go_at_call 94; refine (eqInts x.f5 A A' c c' _ (Kd.C_below HC.out (below_then HBW.out HBW.out.size HB3.out)) (Kd.C_below HC'.out (below_then HBW.out HBW.out.size HB3.out))).mono ?_; rintro e w4 ⟨rfl, hb⟩; have HB4 := Aside0.mk (below_then HB3.out HB3.out.size hb); clear hb)
  go_ret
  exact ⟨rfl, below_then HBW.out HBW.out.size HB4.out⟩
set_option maxHeartbeats 8000000 in
set_option maxRecDepth 100000 in
theorem eqOps (xs : List S45) (A A' : Option Addr) (c c' : Nat) (w : World) (hC : Kd.C k45 w A xs.length xs) (hC' : Kd.C k45 w A' xs.length xs) :
    Calls Try.prog 66 #[.slice A xs.length c, .slice A' xs.length c', .func (.func 67) #[] #[]] w fun e w' => e = .returned (.bool true) ∧ Below w.heap.size w w' := by
  have hu45 := Try.underlying45
  have HC := Aside0.mk hC
  have HC' := Aside0.mk hC'
  clear hC hC'
  go_enter Try.func66, Try.ntmps66
  go_wp2_with fail
  go_loopw [17] (fun i wr => ∃ q : Nat, q ≤ xs.length ∧ i = .int .i64 (q : Int) ∧ Aside0 (Below w.heap.size w wr)) (fun i _ => xs.length - (intOf i).toNat)
  case atStart => exact ⟨0, Nat.zero_le _, rfl, ⟨Below.refl _ _⟩⟩
  case round =>
    obtain ⟨q, hq, rfl, HB⟩ := hrel
    by_cases hlq : q < xs.length
    · have b3 : decide ((q : Int) < (xs.length : Int)) = true := decide_eq_true (Int.ofNat_lt.2 hlq)
      have hw6 : wrap64 ((q : Int) + 1) = (q : Int) + 1 := inc63 hlq HC.out.2.1
      obtain ⟨ad1, A5, c5, e1, x0, x1, x2, x3, x4, x5, x6, x7⟩ := at_T45 (Kd.C_below HC.out HB.out) (q : Int) (Int.natCast_nonneg q) (Int.ofNat_lt.2 hlq)
      obtain ⟨ad2, A6, c6, e2, y0, y1, y2, y3, y4, y5, y6, y7⟩ := at_T45 (Kd.C_below HC'.out HB.out) (q : Int) (Int.natCast_nonneg q) (Int.ofNat_lt.2 hlq)
      simp only [Int.toNat_natCast] at x0 x1 x2 x3 x4 x5 y0 y1 y2 y3 y4 y5
      subst e1 e2
      generalize rd_T45 xs (q : Int) = x at x0 x1 x2 x3 x4 x5 x7 y0 y1 y2 y3 y4 y5 y7
      have HX7 := Aside0.mk x7
      have HY7 := Aside0.mk y7
      have hb1 := below_alloc (Below.refl wr.heap.size wr) (.cells #[.int .i64 x.f0, .int .i64 x.f1, .int .i64 x.f2, .int .i64 x.f3, .int .i64 x.f4, .slice A5 x.f5.length c5] 45)
      have y0 := pw_cell_below hb1 y0
      have y1 := pw_cell_below hb1 y1
      have y2 := pw_cell_below hb1 y2
      have y3 := pw_cell_below hb1 y3
      have y4 := pw_cell_below hb1 y4
      have y5 := pw_cell_below hb1 y5
      have HB2 := Aside0.mk (below_alloc hb1 (.cells #[.int .i64 x.f0, .int .i64 x.f1, .int .i64 x.f2, .int .i64 x.f3, .int .i64 x.f4, .slice A6 x.f5.length c6] 45))
      have HBX := Aside0.mk (blk_alloc (blk_new wr (.cells #[.int .i64 x.f0, .int .i64 x.f1, .int .i64 x.f2, .int .i64 x.f3, .int .i64 x.f4, .slice A5 x.f5.length c5] 45)) (.cells #[.int .i64 x.f0, .int .i64 x.f1, .int .i64 x.f2, .int .i64 x.f3, .int .i64 x.f4, .slice A6 x.f5.length c6] 45))
      have z0 := blk_cell HBX.out 0
      have z1 := blk_cell HBX.out 1
      have z2 := blk_cell HBX.out 2
      have z3 := blk_cell HBX.out 3
      have z4 := blk_cell HBX.out 4
      have z5 := blk_cell HBX.out 5
      simp only [List.getElem?_toArray, List.getElem?_cons_zero, List.getElem?_cons_succ] at z0 z1 z2 z3 z4 z5
      clear x6 x7 y6 y7 hb1
      go_wp2_with (go_at_call 67; refine (sameOp_eq x A5 A6 c5 c6 _ (Kd.C_below HX7.out HB2.out) (Kd.C_below HY7.out HB2.out)).mono ?_; rintro e w4 ⟨rfl, hb⟩; have HB4 := Aside0.mk (below_then HB.out HB.out.size (below_then HB2.out HB2.out.size hb)); clear hb)
      go_roundw
      case rel => exact ⟨q + 1, hlq, by first | (rw [hw6]; exact num_cast q) | (with_reducible exact num_cast q), HB4⟩
      case measure => first | (rw [hw6]; exact num_meas hlq) | (with_reducible exact num_meas hlq)
    · have b3 : decide ((q : Int) < (xs.length : Int)) = false := decide_eq_false (fun h => hlq (Int.ofNat_lt.1 h))
      go_wp2_with fail
      go_ret
      exact ⟨rfl, HB.out⟩
set_option maxHeartbeats 8000000 in
set_option maxRecDepth 100000 in
theorem eqBlk (xs : List S45) (t : S41) (A A' : Option Addr) (c c' : Nat) (w : World) (hC : Kd.C k45 w A xs.length xs) (hC' : Kd.C k45 w A' xs.length xs) :
    Calls Try.prog 65 #[.agg #[.slice A xs.length c, .int .i64 t.f0, .int .i64 t.f1, .int .i64 t.f2, .int .i64 t.f3], .agg #[.slice A' xs.length c', .int .i64 t.f0, .int .i64 t.f1, .int .i64 t.f2, .int .i64 t.f3]] w fun e w' => e = .returned (.bool true) ∧ Below w.heap.size w w' := by
  have hu43 := Try.underlying43
  have hu41 := Try.underlying41
  have HC := Aside0.mk hC
  have HC' := Aside0.mk hC'
  clear hC hC'
  have HX := Aside0.mk (blk_alloc (blk_new w (.cells #[.slice A xs.length c, .int .i64 t.f0, .int .i64 t.f1, .int .i64 t.f2, .int .i64 t.f3] 43)) (.cells #[.slice A' xs.length c', .int .i64 t.f0, .int .i64 t.f1, .int .i64 t.f2, .int .i64 t.f3] 43))
  have HB2 := Aside0.mk (below_alloc (below_alloc (Below.refl w.heap.size w) (.cells #[.slice A xs.length c, .int .i64 t.f0, .int .i64 t.f1, .int .i64 t.f2, .int .i64 t.f3] 43)) (.cells #[.slice A' xs.length c', .int .i64 t.f0, .int .i64 t.f1, .int .i64 t.f2, .int .i64 t.f3] 43))
  have z0 := blk_cell HX.out 0
  have z1 := blk_cell HX.out 1
  have z2 := blk_cell HX.out 2
  have z3 := blk_cell HX.out 3
  have z4 := blk_cell HX.out 4
  simp only [List.getElem?_toArray, List.getElem?_cons_zero, List.getElem?_cons_succ] at z0 z1 z2 z3 z4
  go_enter Try.func65, Try.ntmps65
  go_wp2_with (go_at_call 66; refine (eqOps xs A A' c c' _ (Kd.C_below HC.out HB2.out) (Kd.C_below HC'.out HB2.out)).mono ?_; rintro e w4 ⟨rfl, hb⟩; have HB4 := Aside0.mk (below_then HB2.out HB2.out.size hb); clear hb)
  go_ret
  exact ⟨rfl, HB4.out⟩
set_option maxHeartbeats 8000000 in
set_option maxRecDepth 100000 in
theorem eqBlks (xs : List S43) (A A' : Option Addr) (c c' : Nat) (w : World) (hC : Kd.C k43 w A xs.length xs) (hC' : Kd.C k43 w A' xs.length xs) :
    Calls Try.prog 68 #[.slice A xs.length c, .slice A' xs.length c', .func (.func 65) #[] #[]] w fun e w' => e = .returned (.bool true) ∧ Below w.heap.size w w' := by
  have hu43 := Try.underlying43
  have HC := Aside0.mk hC
  have HC' := Aside0.mk hC'
  clear hC hC'
  go_enter Try.func68, Try.ntmps68
  go_wp2_with fail
  go_loopw [17] (fun i wr => ∃ q : Nat, q ≤ xs.length ∧ i = .int .i64 (q : Int) ∧ Aside0 (Below w.heap.size w wr)) (fun i _ => xs.length - (intOf i).toNat)
  case atStart => exact ⟨0, Nat.zero_le _, rfl, ⟨Below.refl _ _⟩⟩
  case round =>
    obtain ⟨q, hq, rfl, HB⟩ := hrel
    by_cases hlq : q < xs.length
    · have b3 : decide ((q : Int) < (xs.length : Int)) = true := decide_eq_true (Int.ofNat_lt.2 hlq)
      have hw6 : wrap64 ((q : Int) + 1) = (q : Int) + 1 := inc63 hlq HC.out.2.1
      obtain ⟨ad1, A5, c5, e1, x0, x1, x2, x3, x4, x6, x7⟩ := at_T43 (Kd.C_below HC.out HB.out) (q : Int) (Int.natCast_nonneg q) (Int.ofNat_lt.2 hlq)
      obtain ⟨ad2, A6, c6, e2, y0, y1, y2, y3, y4, y6, y7⟩ := at_T43 (Kd.C_below HC'.out HB.out) (q : Int) (Int.natCast_nonneg q) (Int.ofNat_lt.2 hlq)
      simp only [Int.toNat_natCast] at x0 x1 x2 x3 x4 y0 y1 y2 y3 y4
      subst e1 e2
      generalize (rd_T43 xs (q : Int)).f0 = os at x0 x7 y0 y7
      generalize (rd_T43 xs (q : Int)).f1 = t at x1 x2 x3 x4 y1 y2 y3 y4
      have HX7 := Aside0.mk x7
      have HY7 := Aside0.mk y7
      have hb1 := below_alloc (Below.refl wr.heap.size wr) (.cells #[.slice A5 os.length c5, .int .i64 t.f0, .int .i64 t.f1, .int .i64 t.f2, .int .i64 t.f3] 43)
      have y0 := pw_cell_below hb1 y0
      have y1 := pw_cell_below hb1 y1
      have y2 := pw_cell_below hb1 y2
      have y3 := pw_cell_below hb1 y3
      have y4 := pw_cell_below hb1 y4
      have HB2 := Aside0.mk (below_alloc hb1 (.cells #[.slice A6 os.length c6, .int .i64 t.f0, .int .i64 t.f1, .int .i64 t.f2, .int .i64 t.f3] 43))
      have HBX := Aside0.mk (blk_alloc (blk_new wr (.cells #[.slice A5 os.length c5, .int .i64 t.f0, .int .i64 t.f1, .int .i64 t.f2, .int .i64 t.f3] 43)) (.cells #[.slice A6 os.length c6, .int .i64 t.f0, .int .i64 t.f1, .int .i64 t.f2, .int .i64 t.f3] 43))
      have z0 := blk_cell HBX.out 0
      have z1 := blk_cell HBX.out 1
      have z2 := blk_cell HBX.out 2
      have z3 := blk_cell HBX.out 3
      have z4 := blk_cell HBX.out 4
      simp only [List.getElem?_toArray, List.getElem?_cons_zero, List.getElem?_cons_succ] at z0 z1 z2 z3 z4
      clear x6 x7 y6 y7 hb1
      go_wp2_with (go_at_call 65; refine (eqBlk os t A5 A6 c5 c6 _ (Kd.C_below HX7.out HB2.out) (Kd.C_below HY7.out HB2.out)).mono ?_; rintro e w4 ⟨rfl, hb⟩; have HB4 := Aside0.mk (below_then HB.out HB.out.size (below_then HB2.out HB2.out.size hb)); clear hb)
      go_roundw
      case rel => exact ⟨q + 1, hlq, by first | (rw [hw6]; exact num_cast q) | (with_reducible exact num_cast q), HB4⟩
      case measure => first | (rw [hw6]; exact num_meas hlq) | (with_reducible exact num_meas hlq)
    · have b3 : decide ((q : Int) < (xs.length : Int)) = false := decide_eq_false (fun h => hlq (Int.ofNat_lt.1 h))
      go_wp2_with fail
      go_ret
      exact ⟨rfl, HB.out⟩
set_option maxHeartbeats 8000000 in
set_option maxRecDepth 100000 in
/-- code.Same of a function and one that reads alike. -/
theorem same_eq (p : Int) (xs : List S43) (A A' : Option Addr) (c c' : Nat) (w : World) (hC : Kd.C k43 w A xs.length xs) (hC' : Kd.C k43 w A' xs.length xs) :
    Calls Try.prog 37 #[.agg #[.int .i64 p, .slice A xs.length c], .agg #[.int .i64 p, .slice A' xs.length c']] w fun e w' => e = .returned (.bool true) ∧ Below w.heap.size w w' := by
  have hu34 := Try.underlying34
  have HC := Aside0.mk hC
  have HC' := Aside0.mk hC'
  clear hC hC'
  have HX := Aside0.mk (blk_alloc (blk_new w (.cells #[.int .i64 p, .slice A xs.length c] 34)) (.cells #[.int .i64 p, .slice A' xs.length c'] 34))
  have HB2 := Aside0.mk (below_alloc (below_alloc (Below.refl w.heap.size w) (.cells #[.int .i64 p, .slice A xs.length c] 34)) (.cells #[.int .i64 p, .slice A' xs.length c'] 34))
  have z0 := blk_cell HX.out 0
  have z1 := blk_cell HX.out 1
  simp only [List.getElem?_toArray, List.getElem?_cons_zero, List.getElem?_cons_succ] at z0 z1
  go_enter Try.func37, Try.ntmps37
  go_wp2_with (go_at_call 68; refine (eqBlks xs A A' c c' _ (Kd.C_below HC.out HB2.out) (Kd.C_below HC'.out HB2.out)).mono ?_; rintro e w4 ⟨rfl, hb⟩; have HB4 := Aside0.mk (below_then HB2.out HB2.out.size hb); clear hb)
  go_ret
  exact ⟨rfl, HB4.out⟩
end Go.Proofs.Ytnkgbnbbmcoiiaa.S
