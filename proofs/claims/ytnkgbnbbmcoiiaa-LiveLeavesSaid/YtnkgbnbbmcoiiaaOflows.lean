import Derived.Test.YtnkgbnbbmcoiiaaOsweep
import Derived.Test.YtnkgbnbbmcoiiaaRf
import Derived.Test.YtnkgbnbbmcoiiaaOmeet
import Derived.Test.YtnkgbnbbmcoiiaaS7
import Derived.Test.YtnkgbnbbmcoiiaaS6
namespace Go.Proofs.Ytnkgbnbbmcoiiaa.S
open Go.RowKit Go.IM Go.RelRegion Go.Proofs.YtnkgbnbbmcoiiaaW.PrintWords Go.Proofs.YtnkgbnbbmcoiiaaW.PrintLast Go.Proofs.YtnkgbnbbmcoiiaaW.PrintMore
set_option linter.unusedVariables false
set_option linter.unusedSimpArgs false
/-! ### swageref05.Pairs at equal rows; swagelaw17.small -/
theorem eqA86' (d : Nat) (w : World) (x0 x1 y0 y1 : Int) : (Op.equalIn (d + 2) 86 (.agg #[.int .i64 x0, .int .i64 x1]) (.agg #[.int .i64 y0, .int .i64 y1])).run Try.prog w = .ok (x0 == y0 && (x1 == y1)) w := eqA86 d w (x0, x1) (y0, y1)
section
attribute [local go_sem high] eqA86'
set_option maxHeartbeats 4000000 in
set_option maxRecDepth 100000 in
theorem pairs_same (A : Option Addr) (c : Nat) (A' : Option Addr) (c' : Nat) (ds : List (Nat × Nat)) (w : World) (h : PrAt w A ds) (h' : PrAt w A' ds) (hl : ds.length ≤ 16384) :
    Calls Try.prog 56 #[.slice A ds.length c, .slice A' ds.length c'] w fun e w' => e = .returned (.bool true) ∧ Below w.heap.size w w' := by
  have hu86 := Try.underlying86
  have H := Aside0.mk h
  have H' := Aside0.mk h'
  clear h h'
  go_enter Try.func56, Try.ntmps56
  go_wp2_with fail
  go_loopw [5] (fun i wr => ∃ j : Nat, j ≤ ds.length ∧ i = .int .i64 (j : Int) ∧ Aside0 (Below w.heap.size w wr)) (fun i _ => ds.length - (intOf i).toNat)
  case atStart => exact ⟨0, Nat.zero_le _, rfl, ⟨Below.refl _ _⟩⟩
  case round =>
    obtain ⟨j, hj, rfl, HB⟩ := hrel
    by_cases hlt : j < ds.length
    · have b1 : decide ((j : Int) < (ds.length : Int)) = true := decide_eq_true (by omega)
      have hw1 : wrap64 ((j : Int) + 1) = (j : Int) + 1 := (wr3 (z := 0) (by decide) (by omega)).2.2
      obtain ⟨ad, eA, k0, k1⟩ := (H.out.below HB.out) j hlt
      obtain ⟨ad', eA', m0, m1⟩ := (H'.out.below HB.out) j hlt
      subst eA eA'
      generalize ds[j] = q at k0 k1 m0 m1
      go_wp2_with fail
      refine wp_region_rel 9 (fun _ => none) (fun _ => []) (fun _ _ _ => True) (fun wq => Below wr.heap.size wr wq) (fun a b => Below a.heap.size a b) (by kernel_rfl) (by kernel_rfl) (below_drew (Below.refl _ _)) (fun a b h k => below_then h h.size k) (fun _ _ _ _ h _ => h) ?_
      simp only [List.take_succ_cons, List.take_zero, List.drop_succ_cons, List.drop_zero]
      iterate 9 (apply relQ_step rfl; apply Exists.intro; constructor; (focus (intro wq hwq; have k0 := pw_cell_below hwq k0; have k1 := pw_cell_below hwq k1; have m0 := pw_cell_below hwq m0; have m1 := pw_cell_below hwq m1; unfold Yl; go_wp2_with fail; exact ⟨rfl, _, rfl, rfl, Below.refl _ _⟩)); (try simp only [Act.put, List.setIfInBounds_toArray, List.set_cons_zero, List.set_cons_succ]))
      refine relQ_nil (fun xx => ?_)
      repeat (refine relL_quiet rfl ?_)
      refine relL_nil (fun w13 hw13 _ => ?_)
      have HB13 := Aside0.mk (below_then HB.out HB.out.size hw13)
      clear k0 k1 m0 m1 hw13
      go_wp2_with fail
      go_roundw
      case rel => exact ⟨j + 1, hlt, by first | (rw [hw1]; exact num_cast j) | (with_reducible exact num_cast j), HB13⟩
      case measure => first | (rw [hw1]; exact num_meas hlt) | (with_reducible exact num_meas hlt)
    · have b1 : decide ((j : Int) < (ds.length : Int)) = false := decide_eq_false (by omega)
      go_wp2_with fail
      go_ret
      exact ⟨rfl, HB.out⟩
end
theorem opsTC {W : World} {g : Nat} (h : W.heap[g]? = some (.cells #[.int .i64 1, .int .i64 1, .int .i64 0, .int .i64 0, .int .i64 4, .slice none 0 0, .int .i64 1, .int .i64 2, .int .i64 0, .int .i64 0, .int .i64 5, .slice none 0 0, .int .i64 9, .int .i64 0, .int .i64 1, .int .i64 0, .int .i64 0, .slice none 0 0] 45 (0, 0))) : Kd.C k45 W (some ⟨g, 0, none⟩) 3 [⟨1, 1, 0, 0, 4, []⟩, ⟨1, 2, 0, 0, 5, []⟩, ⟨9, 0, 1, 0, 0, []⟩] := by
  refine ⟨rfl, by decide, fun _ => ⟨_, rfl, fun j p hj => ?_⟩⟩
  have hcell : ∀ n, W.cell? ⟨g, n, none⟩ = _ := fun n => blk_cell h n
  match j, hj with
  | 0, hj =>
    cases hj
    refine ⟨_, rfl, k45_mk W ⟨1, 1, 0, 0, 4, []⟩ (c5 := 0) (Nat.le_refl _) (C0 W), fun i u hi => ?_⟩
    match i, hi with
    | 0, hi => cases hi; exact hcell 0
    | 1, hi => cases hi; exact hcell 1
    | 2, hi => cases hi; exact hcell 2
    | 3, hi => cases hi; exact hcell 3
    | 4, hi => cases hi; exact hcell 4
    | 5, hi => cases hi; exact hcell 5
    | i + 6, hi => simp at hi
  | 1, hj =>
    cases hj
    refine ⟨_, rfl, k45_mk W ⟨1, 2, 0, 0, 5, []⟩ (c5 := 0) (Nat.le_refl _) (C0 W), fun i u hi => ?_⟩
    match i, hi with
    | 0, hi => cases hi; exact hcell 6
    | 1, hi => cases hi; exact hcell 7
    | 2, hi => cases hi; exact hcell 8
    | 3, hi => cases hi; exact hcell 9
    | 4, hi => cases hi; exact hcell 10
    | 5, hi => cases hi; exact hcell 11
    | i + 6, hi => simp at hi
  | 2, hj =>
    cases hj
    refine ⟨_, rfl, k45_mk W ⟨9, 0, 1, 0, 0, []⟩ (c5 := 0) (Nat.le_refl _) (C0 W), fun i u hi => ?_⟩
    match i, hi with
    | 0, hi => cases hi; exact hcell 12
    | 1, hi => cases hi; exact hcell 13
    | 2, hi => cases hi; exact hcell 14
    | 3, hi => cases hi; exact hcell 15
    | 4, hi => cases hi; exact hcell 16
    | 5, hi => cases hi; exact hcell 17
    | i + 6, hi => simp at hi
  | j + 3, hj => simp at hj
theorem blkTC {W : World} {g g' : Nat} (h : W.heap[g]? = some (.cells #[.int .i64 1, .int .i64 1, .int .i64 0, .int .i64 0, .int .i64 4, .slice none 0 0, .int .i64 1, .int .i64 2, .int .i64 0, .int .i64 0, .int .i64 5, .slice none 0 0, .int .i64 9, .int .i64 0, .int .i64 1, .int .i64 0, .int .i64 0, .slice none 0 0] 45 (0, 0))) (h' : W.heap[g']? = some (.cells #[.slice (some ⟨g, 0, none⟩) 3 3, .int .i64 3, .int .i64 1, .int .i64 0, .int .i64 0] 43 (0, 0))) : Kd.C k43 W (some ⟨g', 0, none⟩) 1 bsT := by
  refine ⟨rfl, by decide, fun _ => ⟨_, rfl, fun j p hj => ?_⟩⟩
  have hcell : ∀ n, W.cell? ⟨g', n, none⟩ = _ := fun n => blk_cell h' n
  match j, hj with
  | 0, hj =>
    cases hj
    refine ⟨_, rfl, k43_mk W ⟨[⟨1, 1, 0, 0, 4, []⟩, ⟨1, 2, 0, 0, 5, []⟩, ⟨9, 0, 1, 0, 0, []⟩], ⟨3, 1, 0, 0⟩⟩ (c0 := 3) (Nat.le_refl _) (opsTC h), fun i u hi => ?_⟩
    match i, hi with
    | 0, hi => cases hi; exact hcell 0
    | 1, hi => cases hi; exact hcell 1
    | 2, hi => cases hi; exact hcell 2
    | 3, hi => cases hi; exact hcell 3
    | 4, hi => cases hi; exact hcell 4
    | i + 5, hi => simp at hi
  | j + 1, hj => simp [bsT] at hj
theorem rows_same1 : swageref06_Rows.f 9 [[1], [1], [1]] [[1], [1], [1]] = some true := by decide +kernel
theorem rows_same2 : swageref06_Rows.f 9 [[]] [[]] = some true := by decide +kernel
/-- A literal of slices, as rows. -/
theorem litRows {W : World} {g : Nat} {gs : List Tri} {L : List (List Int)} (h : W.heap[g]? = some (.cells (encs slv gs).toArray 28 (0, 0))) (ht : Tells .i64 W gs L) (hl : gs.length ≤ 1000) : Kd.C (Kd.slice 3 (Kd.int .i64)) W (some ⟨g, 0, none⟩) L.length L := by
  have hr : ReadsOf slv zt W (some ⟨g, 0, none⟩) gs.length gs := ⟨rfl, by omega, fun _ => ⟨_, rfl, fun j hj => by
    rw [Addr.add_lit, Nat.zero_add]
    refine (blk_cell h j).trans ?_
    simp [encs, List.getD_eq_getElem?_getD, hj]⟩⟩
  rw [ht.len] at hr
  exact tells_C hr ht
set_option maxHeartbeats 8000000 in
set_option maxRecDepth 100000 in
theorem small17_walk (w : World) : Calls Try.prog 25 #[] w fun e w' => e = .returned (.bool true) ∧ Below w.heap.size w w' := by
  have hu34 := Try.underlying34
  have hu43 := Try.underlying43
  have hu45 := Try.underlying45
  have hu41 := Try.underlying41
  have hu86 := Try.underlying86
  go_enter Try.func25, Try.ntmps25
  go_wp2_with fail
  have x0 := blk_alloc (blk_alloc (blk_new w (.cells #[.int .i64 1, .int .i64 1, .int .i64 0, .int .i64 0, .int .i64 4, .slice none 0 0, .int .i64 1, .int .i64 2, .int .i64 0, .int .i64 0, .int .i64 5, .slice none 0 0, .int .i64 9, .int .i64 0, .int .i64 1, .int .i64 0, .int .i64 0, .slice none 0 0] 45)) (.cells #[.slice (some ⟨w.heap.size, 0, none⟩) 3 3, .int .i64 3, .int .i64 1, .int .i64 0, .int .i64 0] 43)) (.cells #[.int .i64 0, .slice (some ⟨w.heap.size + 1, 0, none⟩) 1 1] 34)
  have x1 := blk_alloc (blk_new (w.alloc (.cells #[.int .i64 1, .int .i64 1, .int .i64 0, .int .i64 0, .int .i64 4, .slice none 0 0, .int .i64 1, .int .i64 2, .int .i64 0, .int .i64 0, .int .i64 5, .slice none 0 0, .int .i64 9, .int .i64 0, .int .i64 1, .int .i64 0, .int .i64 0, .slice none 0 0] 45)) (.cells #[.slice (some ⟨w.heap.size, 0, none⟩) 3 3, .int .i64 3, .int .i64 1, .int .i64 0, .int .i64 0] 43)) (.cells #[.int .i64 0, .slice (some ⟨w.heap.size + 1, 0, none⟩) 1 1] 34)
  have x2 := blk_new ((w.alloc (.cells #[.int .i64 1, .int .i64 1, .int .i64 0, .int .i64 0, .int .i64 4, .slice none 0 0, .int .i64 1, .int .i64 2, .int .i64 0, .int .i64 0, .int .i64 5, .slice none 0 0, .int .i64 9, .int .i64 0, .int .i64 1, .int .i64 0, .int .i64 0, .slice none 0 0] 45)).alloc (.cells #[.slice (some ⟨w.heap.size, 0, none⟩) 3 3, .int .i64 3, .int .i64 1, .int .i64 0, .int .i64 0] 43)) (.cells #[.int .i64 0, .slice (some ⟨w.heap.size + 1, 0, none⟩) 1 1] 34)
  rw [World.size_alloc] at x1
  rw [World.size_alloc, World.size_alloc] at x2
  have hb3 := below_alloc (below_alloc (below_alloc (Below.refl w.heap.size w) (.cells #[.int .i64 1, .int .i64 1, .int .i64 0, .int .i64 0, .int .i64 4, .slice none 0 0, .int .i64 1, .int .i64 2, .int .i64 0, .int .i64 0, .int .i64 5, .slice none 0 0, .int .i64 9, .int .i64 0, .int .i64 1, .int .i64 0, .int .i64 0, .slice none 0 0] 45)) (.cells #[.slice (some ⟨w.heap.size, 0, none⟩) 3 3, .int .i64 3, .int .i64 1, .int .i64 0, .int .i64 0] 43)) (.cells #[.int .i64 0, .slice (some ⟨w.heap.size + 1, 0, none⟩) 1 1] 34)
  generalize ((w.alloc (.cells #[.int .i64 1, .int .i64 1, .int .i64 0, .int .i64 0, .int .i64 4, .slice none 0 0, .int .i64 1, .int .i64 2, .int .i64 0, .int .i64 0, .int .i64 5, .slice none 0 0, .int .i64 9, .int .i64 0, .int .i64 1, .int .i64 0, .int .i64 0, .slice none 0 0] 45)).alloc (.cells #[.slice (some ⟨w.heap.size, 0, none⟩) 3 3, .int .i64 3, .int .i64 1, .int .i64 0, .int .i64 0] 43)).alloc (.cells #[.int .i64 0, .slice (some ⟨w.heap.size + 1, 0, none⟩) 1 1] 34) = W3 at x0 x1 x2 hb3 ⊢
  have hC3 := blkTC x0 x1
  have HX3 := Aside0.mk x2
  have HC3 := Aside0.mk hC3
  have HB3 := Aside0.mk hb3
  clear x0 x1 x2 hC3 hb3
  refine (sweep_ok 0 (some ⟨w.heap.size + 1, 0, none⟩) 1 bsT _ HC3.out t_right).mono ?_
  rintro e w4 ⟨A4, c4, sw, rfl, hle, hsw, hCs, hb⟩
  obtain rfl := t_sweep hsw
  have e1 : bsS.length = 1 := rfl
  rw [e1] at hle hCs ⊢
  have hbA := below_then hb hb.size (below_alloc (Below.refl w4.heap.size w4) (.cells #[.int .i64 0, .slice A4 1 c4] 34))
  have HS5 := Aside0.mk (Kd.C_below hCs (below_alloc (Below.refl w4.heap.size w4) (.cells #[.int .i64 0, .slice A4 1 c4] 34)))
  have HY5 := Aside0.mk (blk_new w4 (.cells #[.int .i64 0, .slice A4 1 c4] 34))
  have HC5 := Aside0.mk (Kd.C_below HC3.out hbA)
  have HX5 := Aside0.mk (blk_below HX3.out hbA)
  have HB5 := Aside0.mk (below_then HB3.out HB3.out.size hbA)
  clear HC3
  clear HX3
  clear HB3
  have c0 := blk_cell HX5.out 0
  have c1 := blk_cell HX5.out 1
  have d0 := blk_cell HY5.out 0
  have d1 := blk_cell HY5.out 1
  simp only [List.getElem?_toArray, List.getElem?_cons_zero, List.getElem?_cons_succ] at c0 c1 d0 d1
  clear hb hbA hCs hle hsw e1
  go_wp2_with fail
  generalize w4.alloc (.cells #[.int .i64 0, .slice A4 1 c4] 34) = W5 at HC5 HX5 HB5 HS5 HY5 c0 c1 d0 d1 ⊢
  refine (After_ok 0 (some ⟨w.heap.size + 1, 0, none⟩) 1 bsT 0 _ HC5.out t_right (by decide)).mono ?_
  rintro e w6 ⟨v6, rfl, hr, hb⟩
  rw [t_after] at hr
  obtain ⟨Aa, ca, rfl, ka, hCa⟩ := Kd.R_reads hr
  have HCA := Aside0.mk hCa
  have HKA := Aside0.mk ka
  have HC6 := Aside0.mk (Kd.C_below HC5.out hb)
  have HX6 := Aside0.mk (blk_below HX5.out hb)
  have HB6 := Aside0.mk (below_then HB5.out HB5.out.size hb)
  have HS6 := Aside0.mk (Kd.C_below HS5.out hb)
  have HY6 := Aside0.mk (blk_below HY5.out hb)
  clear HC5
  clear HX5
  clear HB5
  clear HS5
  clear HY5
  clear c0 c1 d0 d1
  clear hr hb hCa ka
  go_wp2_with fail
  have hb1 := below_alloc (Below.refl w6.heap.size w6) (.cells #[.int .i64 1] 3)
  have hb2 := below_alloc (Below.refl (w6.alloc (.cells #[.int .i64 1] 3)).heap.size (w6.alloc (.cells #[.int .i64 1] 3))) (.cells #[.int .i64 1] 3)
  have hb3 := below_alloc (Below.refl ((w6.alloc (.cells #[.int .i64 1] 3)).alloc (.cells #[.int .i64 1] 3)).heap.size ((w6.alloc (.cells #[.int .i64 1] 3)).alloc (.cells #[.int .i64 1] 3))) (.cells #[.int .i64 1] 3)
  have hl1 := Tells.one (c := 1) (C_one w6 1) (by decide)
  have hl2 := Tells.one (c := 1) (C_one (w6.alloc (.cells #[.int .i64 1] 3)) 1) (by decide)
  have hl3 := Tells.one (c := 1) (C_one ((w6.alloc (.cells #[.int .i64 1] 3)).alloc (.cells #[.int .i64 1] 3)) 1) (by decide)
  have ht := ((hl1.below hb2).append hl2).below hb3
  have ht := ht.append hl3
  simp only [World.size_alloc] at ht
  have hbw := below_then (below_then hb1 hb1.size hb2) (below_then hb1 hb1.size hb2).size hb3
  have hsz7 : (((w6.alloc (.cells #[.int .i64 1] 3)).alloc (.cells #[.int .i64 1] 3)).alloc (.cells #[.int .i64 1] 3)).heap.size = w6.heap.size + 1 + 1 + 1 := by rw [World.size_alloc, World.size_alloc, World.size_alloc]
  generalize ((w6.alloc (.cells #[.int .i64 1] 3)).alloc (.cells #[.int .i64 1] 3)).alloc (.cells #[.int .i64 1] 3) = W7 at ht hbw hsz7 ⊢
  have hb8 := below_alloc (Below.refl W7.heap.size W7) (.cells #[.slice (some ⟨w6.heap.size, 0, none⟩) 1 1, .slice (some ⟨w6.heap.size + 1, 0, none⟩) 1 1, .slice (some ⟨w6.heap.size + 1 + 1, 0, none⟩) 1 1] 28)
  have hbw8 := below_then hbw hbw.size hb8
  have hL : Kd.C (Kd.slice 3 (Kd.int .i64)) (W7.alloc (.cells #[.slice (some ⟨w6.heap.size, 0, none⟩) 1 1, .slice (some ⟨w6.heap.size + 1, 0, none⟩) 1 1, .slice (some ⟨w6.heap.size + 1 + 1, 0, none⟩) 1 1] 28)) (some ⟨W7.heap.size, 0, none⟩) 3 [[1], [1], [1]] := litRows (gs := [(some ⟨w6.heap.size, 0, none⟩, 1, 1), (some ⟨w6.heap.size + 1, 0, none⟩, 1, 1), (some ⟨w6.heap.size + 1 + 1, 0, none⟩, 1, 1)]) (blk_new W7 _) (ht.below hb8) (by simp)
  rw [hsz7] at hL
  refine (swageref06_Rows.calls 9 Aa ca [[1], [1], [1]] (some ⟨w6.heap.size + 1 + 1 + 1, 0, none⟩) 3 [[1], [1], [1]] true _ (Kd.C_below HCA.out hbw8) HKA.out hL (by decide) rows_same1).mono ?_
  rintro e w9 ⟨rfl, hd⟩
  have hb9 := below_then hbw8 hbw8.size hd.below
  have HC9 := Aside0.mk (Kd.C_below HC6.out hb9)
  have HX9 := Aside0.mk (blk_below HX6.out hb9)
  have HB9 := Aside0.mk (below_then HB6.out HB6.out.size hb9)
  have HS9 := Aside0.mk (Kd.C_below HS6.out hb9)
  have HY9 := Aside0.mk (blk_below HY6.out hb9)
  clear HC6
  clear HX6
  clear HB6
  clear HS6
  clear HY6
  have c0 := blk_cell HX9.out 0
  have c1 := blk_cell HX9.out 1
  have d0 := blk_cell HY9.out 0
  have d1 := blk_cell HY9.out 1
  simp only [List.getElem?_toArray, List.getElem?_cons_zero, List.getElem?_cons_succ] at c0 c1 d0 d1
  clear hb1 hb2 hb3 hl1 hl2 hl3 ht hbw hsz7 hb8 hbw8 hL hd hb9 HCA HKA
  go_wp2_with fail
  refine (dead_ok 0 (some ⟨w.heap.size + 1, 0, none⟩) 1 bsT _ HC9.out t_right).mono ?_
  rintro e w10 ⟨v10, rfl, ho, hb⟩
  have hdt : deadP bsT (plcs bsT bsT.length) = [(0, 1)] := t_dead
  rw [hdt] at ho
  obtain ⟨Dd, cd, rfl⟩ := own_slice ho
  have HPA := Aside0.mk (PrAt.of_own ho)
  have HC10 := Aside0.mk (Kd.C_below HC9.out hb)
  have HX10 := Aside0.mk (blk_below HX9.out hb)
  have HB10 := Aside0.mk (below_then HB9.out HB9.out.size hb)
  have HS10 := Aside0.mk (Kd.C_below HS9.out hb)
  have HY10 := Aside0.mk (blk_below HY9.out hb)
  clear HC9
  clear HX9
  clear HB9
  clear HS9
  clear HY9
  clear c0 c1 d0 d1
  clear ho hb hdt
  go_wp2_with fail
  have hbA := below_alloc (Below.refl w10.heap.size w10) (.cells #[.int .i64 0, .int .i64 1] 86)
  have hPL : PrAt (w10.alloc (.cells #[.int .i64 0, .int .i64 1] 86)) (some ⟨w10.heap.size, 0, none⟩) [(0, 1)] := fun j hj => by
    obtain rfl : j = 0 := by simp at hj; omega
    exact ⟨_, rfl, by rw [Addr.add_lit]; exact blk_cell (blk_new w10 (.cells #[.int .i64 0, .int .i64 1] 86)) 0, by simp only [Addr.add_lit]; exact blk_cell (blk_new w10 (.cells #[.int .i64 0, .int .i64 1] 86)) 1⟩
  refine (pairs_same Dd cd (some ⟨w10.heap.size, 0, none⟩) 1 [(0, 1)] _ (HPA.out.below hbA) hPL (by decide)).mono ?_
  rintro e w11 ⟨rfl, hb⟩
  have hb11 := below_then hbA hbA.size hb
  have HC11 := Aside0.mk (Kd.C_below HC10.out hb11)
  have HX11 := Aside0.mk (blk_below HX10.out hb11)
  have HB11 := Aside0.mk (below_then HB10.out HB10.out.size hb11)
  have HS11 := Aside0.mk (Kd.C_below HS10.out hb11)
  have HY11 := Aside0.mk (blk_below HY10.out hb11)
  clear HC10
  clear HX10
  clear HB10
  clear HS10
  clear HY10
  have c0 := blk_cell HX11.out 0
  have c1 := blk_cell HX11.out 1
  have d0 := blk_cell HY11.out 0
  have d1 := blk_cell HY11.out 1
  simp only [List.getElem?_toArray, List.getElem?_cons_zero, List.getElem?_cons_succ] at c0 c1 d0 d1
  obtain ⟨ads, A5, c5, eS, k0, _⟩ := at_T43 HS11.out 0 (by decide) (by decide)
  have el : (rd_T43 bsS 0).f0.length = 2 := rfl
  rw [el] at k0
  subst eS
  have k0 : w11.cell? ads = some (.slice A5 2 c5) := by simpa [Addr.add] using k0
  clear hbA hPL hb hb11 HPA el
  go_wp2_with fail
  refine (most_ok 0 (some ⟨w.heap.size + 1, 0, none⟩) 1 bsT _ HC11.out t_right).mono ?_
  rintro e w12 ⟨m, rfl, hm, hb⟩
  obtain rfl := t_most hm
  have HC12 := Aside0.mk (Kd.C_below HC11.out hb)
  have HX12 := Aside0.mk (blk_below HX11.out hb)
  have HB12 := Aside0.mk (below_then HB11.out HB11.out.size hb)
  have HS12 := Aside0.mk (Kd.C_below HS11.out hb)
  have HY12 := Aside0.mk (blk_below HY11.out hb)
  clear HC11
  clear HX11
  clear HB11
  clear HS11
  clear HY11
  clear c0 c1 d0 d1
  have c0 := blk_cell HX12.out 0
  have c1 := blk_cell HX12.out 1
  have d0 := blk_cell HY12.out 0
  have d1 := blk_cell HY12.out 1
  simp only [List.getElem?_toArray, List.getElem?_cons_zero, List.getElem?_cons_succ] at c0 c1 d0 d1
  clear hm hb k0
  go_wp2_with fail
  refine (in_ok 0 (some ⟨w.heap.size + 1, 0, none⟩) 1 bsT _ HC12.out t_right).mono ?_
  rintro e w13 ⟨v13, rfl, hr, hb⟩
  rw [t_in] at hr
  obtain ⟨Ai, ci, rfl, ki, hCi⟩ := Kd.R_reads hr
  have HC13 := Aside0.mk (Kd.C_below HC12.out hb)
  have HX13 := Aside0.mk (blk_below HX12.out hb)
  have HB13 := Aside0.mk (below_then HB12.out HB12.out.size hb)
  have HS13 := Aside0.mk (Kd.C_below HS12.out hb)
  have HY13 := Aside0.mk (blk_below HY12.out hb)
  clear HC12
  clear HX12
  clear HB12
  clear HS12
  clear HY12
  clear c0 c1 d0 d1
  have HCI := Aside0.mk hCi
  have HKI := Aside0.mk ki
  clear hr hb hCi ki
  go_wp2_with fail
  have hbA := below_alloc (Below.refl w13.heap.size w13) (.cells #[.slice none 0 0] 28)
  have hL : Kd.C (Kd.slice 3 (Kd.int .i64)) (w13.alloc (.cells #[.slice none 0 0] 28)) (some ⟨w13.heap.size, 0, none⟩) 1 [[]] := litRows (gs := [(none, 0, 0)]) (blk_new w13 _) (Tells.one (C0 _) (by decide)) (by decide)
  refine (swageref06_Rows.calls 9 Ai ci [[]] (some ⟨w13.heap.size, 0, none⟩) 1 [[]] true _ (Kd.C_below HCI.out hbA) HKI.out hL (by decide) rows_same2).mono ?_
  rintro e w14 ⟨rfl, hd⟩
  have hb14 := below_then hbA hbA.size hd.below
  have HC14 := Aside0.mk (Kd.C_below HC13.out hb14)
  have HX14 := Aside0.mk (blk_below HX13.out hb14)
  have HB14 := Aside0.mk (below_then HB13.out HB13.out.size hb14)
  have HS14 := Aside0.mk (Kd.C_below HS13.out hb14)
  have HY14 := Aside0.mk (blk_below HY13.out hb14)
  clear HC13
  clear HX13
  clear HB13
  clear HS13
  clear HY13
  have c0 := blk_cell HX14.out 0
  have c1 := blk_cell HX14.out 1
  have d0 := blk_cell HY14.out 0
  have d1 := blk_cell HY14.out 1
  simp only [List.getElem?_toArray, List.getElem?_cons_zero, List.getElem?_cons_succ] at c0 c1 d0 d1
  clear hbA hL hd hb14 HCI HKI
  go_wp2_with fail
  refine (out_ok 0 (some ⟨w.heap.size + 1, 0, none⟩) 1 bsT _ HC14.out t_right).mono ?_
  rintro e w15 ⟨v15, rfl, hr, hb⟩
  rw [t_out] at hr
  obtain ⟨Ao, co, rfl, ko, hCo⟩ := Kd.R_reads hr
  have HC15 := Aside0.mk (Kd.C_below HC14.out hb)
  have HX15 := Aside0.mk (blk_below HX14.out hb)
  have HB15 := Aside0.mk (below_then HB14.out HB14.out.size hb)
  have HS15 := Aside0.mk (Kd.C_below HS14.out hb)
  have HY15 := Aside0.mk (blk_below HY14.out hb)
  clear HC14
  clear HX14
  clear HB14
  clear HS14
  clear HY14
  clear c0 c1 d0 d1
  have HCO := Aside0.mk hCo
  have HKO := Aside0.mk ko
  clear hr hb hCo ko
  go_wp2_with fail
  have hbA := below_alloc (Below.refl w15.heap.size w15) (.cells #[.slice none 0 0] 28)
  have hL : Kd.C (Kd.slice 3 (Kd.int .i64)) (w15.alloc (.cells #[.slice none 0 0] 28)) (some ⟨w15.heap.size, 0, none⟩) 1 [[]] := litRows (gs := [(none, 0, 0)]) (blk_new w15 _) (Tells.one (C0 _) (by decide)) (by decide)
  refine (swageref06_Rows.calls 9 Ao co [[]] (some ⟨w15.heap.size, 0, none⟩) 1 [[]] true _ (Kd.C_below HCO.out hbA) HKO.out hL (by decide) rows_same2).mono ?_
  rintro e w16 ⟨rfl, hd⟩
  have hb16 := below_then hbA hbA.size hd.below
  have HC16 := Aside0.mk (Kd.C_below HC15.out hb16)
  have HX16 := Aside0.mk (blk_below HX15.out hb16)
  have HB16 := Aside0.mk (below_then HB15.out HB15.out.size hb16)
  have HS16 := Aside0.mk (Kd.C_below HS15.out hb16)
  have HY16 := Aside0.mk (blk_below HY15.out hb16)
  clear HC15
  clear HX15
  clear HB15
  clear HS15
  clear HY15
  clear hbA hL hd hb16 HCO HKO
  go_wp2_with fail
  go_ret
  exact ⟨rfl, HB16.out⟩
end Go.Proofs.Ytnkgbnbbmcoiiaa.S
namespace Go.Proofs.Ytnkgbnbbmcoiiaa.S
open Go.RowKit Go.IM Go.Proofs.YtnkgbnbbmcoiiaaW.PrintWords Go.Proofs.YtnkgbnbbmcoiiaaW.PrintLast Go.Proofs.YtnkgbnbbmcoiiaaW.PrintMore
set_option linter.unusedVariables false
set_option linter.unusedSimpArgs false
/-! ### swagelaw17.LiveFlows -/
theorem has_l0 (l : List Int) (x : Int) (hl : l.length ≤ 4096) : ∀ m j k, j + m = l.length → m < k → swagelaw17_has.l0 k l x (j : Int) = some (decide (x ∈ l.drop j))
  | m, j, 0, hm, hk => absurd hk (Nat.not_lt_zero _)
  | 0, j, k + 1, hm, hk => by
    rw [swagelaw17_has.l0, if_neg (by omega), List.drop_eq_nil_of_le (by omega)]
    simp
  | m + 1, j, k + 1, hm, hk => by
    have hj : j < l.length := by omega
    rw [swagelaw17_has.l0, if_pos (by omega), if_pos (Int.natCast_nonneg j), rd_mem hj, List.drop_eq_getElem_cons hj]
    by_cases e : l[j] = x
    · rw [if_pos e]
      simp [e]
    · rw [if_neg e, num_inc hj hl, has_l0 l x hl m (j + 1) k (by omega) (by omega)]
      have e2 : ¬ x = l[j] := fun h => e h.symm
      congr 1
      exact decide_eq_decide.2 ⟨fun h => List.mem_cons_of_mem _ h, fun h => (List.mem_cons.1 h).resolve_left e2⟩
theorem has_any (A : Option Addr) (c : Nat) (l : List Int) (x : Int) (w : World) (hC : Kd.C (Kd.int .i64) w A l.length l) (hc : l.length ≤ c) (hl : l.length ≤ 4096) :
    Calls Try.prog 30 #[.slice A l.length c, .int .i64 x] w fun e w' => e = .returned (.bool (decide (x ∈ l))) ∧ Below w.heap.size w w' := by
  have h := has_l0 l x hl l.length 0 (l.length + 1) (Nat.zero_add _) (Nat.lt_succ_self _)
  rw [List.drop_zero] at h
  refine (swagelaw17_has.calls (l.length + 1) A c l x _ w hC hc h).mono ?_
  rintro e w' ⟨rfl, hd⟩
  exact ⟨rfl, hd.below⟩
end Go.Proofs.Ytnkgbnbbmcoiiaa.S
