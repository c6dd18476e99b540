import Derived.Test.YtnkgbnbbmcoiiaaLsm
import Derived.Test.YtnkgbnbbmcoiiaaOcalls
import Derived.Test.YtnkgbnbbmcoiiaaS4
import Derived.Test.YtnkgbnbbmcoiiaaS7
import Derived.Test.YtnkgbnbbmcoiiaaS8
namespace Go.Proofs.Ytnkgbnbbmcoiiaa.S
open Go.RowKit Go.IM Go.Proofs.YtnkgbnbbmcoiiaaW.PrintWords Go.Proofs.YtnkgbnbbmcoiiaaW.PrintLast Go.Proofs.YtnkgbnbbmcoiiaaW.PrintMore
set_option linter.unusedVariables false
set_option linter.unusedSimpArgs false
/-! ### swagelaw25.small -/
theorem C0 (w : World) : Kd.C (Kd.int .i64) w none 0 ([] : List Int) := ⟨rfl, by decide, fun h => absurd h (by decide)⟩
theorem opsC {W : World} {g : Nat} (h : W.heap[g]? = some (.cells #[.int .i64 1, .int .i64 1, .int .i64 0, .int .i64 0, .int .i64 4, .slice none 0 0, .int .i64 9, .int .i64 0, .int .i64 1, .int .i64 0, .int .i64 0, .slice none 0 0] 45 (0, 0))) :
    Kd.C k45 W (some ⟨g, 0, none⟩) 2 [⟨1, 1, 0, 0, 4, []⟩, ⟨9, 0, 1, 0, 0, []⟩] := by
  refine ⟨rfl, by decide, fun _ => ⟨_, rfl, fun j p hj => ?_⟩⟩
  have hcell : ∀ n, W.cell? ⟨g, n, none⟩ = _ := fun n => blk_cell h n
  match j, hj with
  | 0, hj =>
    cases hj
    refine ⟨_, rfl, k45_mk W ⟨1, 1, 0, 0, 4, []⟩ (c5 := 0) (Nat.le_refl _) (C0 W), fun i u hi => ?_⟩
    match i, hi with
    | 0, hi => cases hi; exact hcell 0
    | 1, hi => cases hi; exact hcell 1
    | 2, hi => cases hi; exact hcell 2
    | 3, hi => cases hi; exact hcell 3
    | 4, hi => cases hi; exact hcell 4
    | 5, hi => cases hi; exact hcell 5
    | i + 6, hi => simp at hi
  | 1, hj =>
    cases hj
    refine ⟨_, rfl, k45_mk W ⟨9, 0, 1, 0, 0, []⟩ (c5 := 0) (Nat.le_refl _) (C0 W), fun i u hi => ?_⟩
    match i, hi with
    | 0, hi => cases hi; exact hcell 6
    | 1, hi => cases hi; exact hcell 7
    | 2, hi => cases hi; exact hcell 8
    | 3, hi => cases hi; exact hcell 9
    | 4, hi => cases hi; exact hcell 10
    | 5, hi => cases hi; exact hcell 11
    | i + 6, hi => simp at hi
  | j + 2, hj => simp at hj
theorem blkC {W : World} {g g' : Nat} (h : W.heap[g]? = some (.cells #[.int .i64 1, .int .i64 1, .int .i64 0, .int .i64 0, .int .i64 4, .slice none 0 0, .int .i64 9, .int .i64 0, .int .i64 1, .int .i64 0, .int .i64 0, .slice none 0 0] 45 (0, 0)))
    (h' : W.heap[g']? = some (.cells #[.slice (some ⟨g, 0, none⟩) 2 2, .int .i64 3, .int .i64 1, .int .i64 0, .int .i64 0] 43 (0, 0))) : Kd.C k43 W (some ⟨g', 0, none⟩) 1 bsS := by
  refine ⟨rfl, by decide, fun _ => ⟨_, rfl, fun j p hj => ?_⟩⟩
  have hcell : ∀ n, W.cell? ⟨g', n, none⟩ = _ := fun n => blk_cell h' n
  match j, hj with
  | 0, hj =>
    cases hj
    refine ⟨_, rfl, k43_mk W ⟨[⟨1, 1, 0, 0, 4, []⟩, ⟨9, 0, 1, 0, 0, []⟩], ⟨3, 1, 0, 0⟩⟩ (c0 := 2) (Nat.le_refl _) (opsC h), fun i u hi => ?_⟩
    match i, hi with
    | 0, hi => cases hi; exact hcell 0
    | 1, hi => cases hi; exact hcell 1
    | 2, hi => cases hi; exact hcell 2
    | 3, hi => cases hi; exact hcell 3
    | 4, hi => cases hi; exact hcell 4
    | i + 5, hi => simp at hi
  | j + 1, hj => simp [bsS] at hj
theorem spC {W : World} {g : Nat} (h : W.heap[g]? = some (.cells #[.int .i64 1, .int .i64 1, .int .i64 2] 26 (0, 0))) : Kd.C k26 W (some ⟨g, 0, none⟩) 1 [⟨1, 1, 2⟩] := by
  refine ⟨rfl, by decide, fun _ => ⟨_, rfl, fun j p hj => ?_⟩⟩
  have hcell : ∀ n, W.cell? ⟨g, n, none⟩ = _ := fun n => blk_cell h n
  match j, hj with
  | 0, hj =>
    cases hj
    refine ⟨_, rfl, k26_mk W ⟨1, 1, 2⟩, fun i u hi => ?_⟩
    match i, hi with
    | 0, hi => cases hi; exact hcell 0
    | 1, hi => cases hi; exact hcell 1
    | 2, hi => cases hi; exact hcell 2
    | i + 3, hi => simp at hi
  | j + 1, hj => simp at hj
theorem sm_same : swageref25_Same.f 5 [⟨1, 1, 2⟩] [⟨1, 1, 2⟩] = some true := by decide +kernel
theorem sm_ints : swageref02_Ints.f 5 [0, 3] [0, 3] = some true := by decide +kernel
theorem sm_ints2 : swageref02_Ints.f 5 [1] [1] = some true := by decide +kernel
theorem sm_cross : spans_Cross.f 0 1 3 0 3 4 = some true := by decide +kernel
theorem sm_cross2 : spans_Cross.f 0 1 2 0 3 4 = some false := by decide +kernel
theorem sm_calls : callsP bsS (plcs bsS bsS.length) = [] := by decide +kernel
theorem number_ok2 (p : Int) (A : Option Addr) (c : Nat) (bs : List S43) (w : World) (hC : Kd.C k43 w A bs.length bs) (hc : bs.length ≤ c) (hR : rightF p bs 256 = true) :
    Calls Try.prog 19 #[.agg #[.int .i64 p, .slice A bs.length c]] w fun e w' => ∃ ad c1, e = .returned (.slice (some ad) (numL bs).length c1) ∧ (numL bs).length ≤ c1 ∧ Kd.C (Kd.int .i64) w' (some ad) (numL bs).length (numL bs) ∧ Below w.heap.size w w' := by
  refine (spans_Number.calls (bs.length + 1) p A c bs (numL bs) w hC hc (number_f hR)).mono ?_
  rintro e w' ⟨v, rfl, hr, hb⟩
  obtain ⟨A1, c1, rfl, hk, hC1⟩ := Kd.R_reads hr
  obtain ⟨ad, rfl, _⟩ := hC1.2.2 (by rw [numL_length]; omega)
  exact ⟨ad, c1, rfl, hk, hC1, hb⟩
set_option maxHeartbeats 8000000 in
set_option maxRecDepth 100000 in
theorem small_walk (w : World) : Calls Try.prog 9 #[] w fun e w' => e = .returned (.bool true) ∧ Below w.heap.size w w' := by
  have hu26 := Try.underlying26
  have hu34 := Try.underlying34
  have hu43 := Try.underlying43
  have hu45 := Try.underlying45
  have hu41 := Try.underlying41
  go_enter Try.func9, Try.ntmps9
  go_wp2_with fail
  have x0 := blk_alloc (blk_alloc (blk_new w (.cells #[.int .i64 1, .int .i64 1, .int .i64 0, .int .i64 0, .int .i64 4, .slice none 0 0, .int .i64 9, .int .i64 0, .int .i64 1, .int .i64 0, .int .i64 0, .slice none 0 0] 45)) (.cells #[.slice (some ⟨w.heap.size, 0, none⟩) 2 2, .int .i64 3, .int .i64 1, .int .i64 0, .int .i64 0] 43)) (.cells #[.int .i64 0, .slice (some ⟨w.heap.size + 1, 0, none⟩) 1 1] 34)
  have x1 := blk_alloc (blk_new (w.alloc (.cells #[.int .i64 1, .int .i64 1, .int .i64 0, .int .i64 0, .int .i64 4, .slice none 0 0, .int .i64 9, .int .i64 0, .int .i64 1, .int .i64 0, .int .i64 0, .slice none 0 0] 45)) (.cells #[.slice (some ⟨w.heap.size, 0, none⟩) 2 2, .int .i64 3, .int .i64 1, .int .i64 0, .int .i64 0] 43)) (.cells #[.int .i64 0, .slice (some ⟨w.heap.size + 1, 0, none⟩) 1 1] 34)
  have x2 := blk_new ((w.alloc (.cells #[.int .i64 1, .int .i64 1, .int .i64 0, .int .i64 0, .int .i64 4, .slice none 0 0, .int .i64 9, .int .i64 0, .int .i64 1, .int .i64 0, .int .i64 0, .slice none 0 0] 45)).alloc (.cells #[.slice (some ⟨w.heap.size, 0, none⟩) 2 2, .int .i64 3, .int .i64 1, .int .i64 0, .int .i64 0] 43)) (.cells #[.int .i64 0, .slice (some ⟨w.heap.size + 1, 0, none⟩) 1 1] 34)
  rw [World.size_alloc] at x1
  rw [World.size_alloc, World.size_alloc] at x2
  have hb3 := below_alloc (below_alloc (below_alloc (Below.refl w.heap.size w) (.cells #[.int .i64 1, .int .i64 1, .int .i64 0, .int .i64 0, .int .i64 4, .slice none 0 0, .int .i64 9, .int .i64 0, .int .i64 1, .int .i64 0, .int .i64 0, .slice none 0 0] 45)) (.cells #[.slice (some ⟨w.heap.size, 0, none⟩) 2 2, .int .i64 3, .int .i64 1, .int .i64 0, .int .i64 0] 43)) (.cells #[.int .i64 0, .slice (some ⟨w.heap.size + 1, 0, none⟩) 1 1] 34)
  generalize ((w.alloc (.cells #[.int .i64 1, .int .i64 1, .int .i64 0, .int .i64 0, .int .i64 4, .slice none 0 0, .int .i64 9, .int .i64 0, .int .i64 1, .int .i64 0, .int .i64 0, .slice none 0 0] 45)).alloc (.cells #[.slice (some ⟨w.heap.size, 0, none⟩) 2 2, .int .i64 3, .int .i64 1, .int .i64 0, .int .i64 0] 43)).alloc (.cells #[.int .i64 0, .slice (some ⟨w.heap.size + 1, 0, none⟩) 1 1] 34) = W3 at x0 x1 x2 hb3 ⊢
  have hC3 := blkC x0 x1
  have HX2 := Aside0.mk x2
  have HC3 := Aside0.mk hC3
  have HB3 := Aside0.mk hb3
  clear x0 x1 x2 hC3 hb3
  refine (of_ok 0 (some ⟨w.heap.size + 1, 0, none⟩) 1 bsS _ HC3.out (by decide) sm_right).mono ?_
  rintro e w4 ⟨v, out, rfl, hr, hq, hb⟩
  obtain rfl := sm_of hq
  obtain ⟨Al, cl, rfl, kl, hCl⟩ := Kd.R_reads hr
  have HCL := Aside0.mk hCl
  have HKL := Aside0.mk kl
  have HB4 := Aside0.mk (below_then HB3.out HB3.out.size hb)
  have HC4 := Aside0.mk (Kd.C_below HC3.out hb)
  have HX4 := Aside0.mk (blk_below HX2.out hb)
  clear hr hq hb hCl kl HB3 HC3 HX2
  go_wp2_with fail
  have hA5 := below_alloc (Below.refl w4.heap.size w4) (.cells #[.int .i64 1, .int .i64 1, .int .i64 2] 26)
  refine (swageref25_Same.calls 5 Al cl [⟨1, 1, 2⟩] (some ⟨w4.heap.size, 0, none⟩) 1 [⟨1, 1, 2⟩] true _ (Kd.C_below HCL.out hA5) HKL.out (spC (blk_new w4 (.cells #[.int .i64 1, .int .i64 1, .int .i64 2] 26))) (by decide) sm_same).mono ?_
  rintro e w5 ⟨rfl, hd⟩
  have hb5 := below_then hA5 hA5.size hd.below
  have HB5 := Aside0.mk (below_then HB4.out HB4.out.size hb5)
  have HC5 := Aside0.mk (Kd.C_below HC4.out hb5)
  have HCL5 := Aside0.mk (Kd.C_below HCL.out hb5)
  have HX5 := Aside0.mk (blk_below HX4.out hb5)
  have c0 := blk_cell HX5.out 0
  have c1 := blk_cell HX5.out 1
  simp only [List.getElem?_toArray, List.getElem?_cons_zero, List.getElem?_cons_succ] at c0 c1
  clear hA5 hd hb5 HB4 HC4 HX4 HCL
  go_wp2_with fail
  refine (number_ok2 0 (some ⟨w.heap.size + 1, 0, none⟩) 1 bsS _ HC5.out (by decide) sm_right).mono ?_
  rintro e w6 ⟨adn, cn, rfl, kn, hcn, hb⟩
  rw [sm_num] at kn hcn ⊢
  have HCN := Aside0.mk hcn
  have HKN := Aside0.mk kn
  have HB6 := Aside0.mk (below_then HB5.out HB5.out.size hb)
  have HC6 := Aside0.mk (Kd.C_below HC5.out hb)
  have HCL6 := Aside0.mk (Kd.C_below HCL5.out hb)
  have HX6 := Aside0.mk (blk_below HX5.out hb)
  clear kn hcn hb c0 c1 HB5 HC5 HCL5 HX5
  go_wp2_with fail
  have hA7 := below_alloc (Below.refl w6.heap.size w6) (.cells #[.int .i64 0, .int .i64 3] 3)
  refine (swageref02_Ints.calls 5 (some adn) cn [0, 3] (some ⟨w6.heap.size, 0, none⟩) 2 [0, 3] true _ (Kd.C_below HCN.out hA7) HKN.out (C_of_blk (k := .i64) (t := 3) [0, 3] (blk_new w6 (.cells #[.int .i64 0, .int .i64 3] 3)) (by decide)) (by decide) sm_ints).mono ?_
  rintro e w7 ⟨rfl, hd⟩
  have hb7 := below_then hA7 hA7.size hd.below
  have HB7 := Aside0.mk (below_then HB6.out HB6.out.size hb7)
  have HC7 := Aside0.mk (Kd.C_below HC6.out hb7)
  have HCL7 := Aside0.mk (Kd.C_below HCL6.out hb7)
  have HX7 := Aside0.mk (blk_below HX6.out hb7)
  clear hA7 hd hb7 HB6 HC6 HCL6 HX6 HCN HKN
  go_wp2_with fail
  refine (spans_Cross.calls 0 1 3 0 3 4 true _ sm_cross).mono ?_
  rintro e w8 ⟨rfl, hb⟩
  have HB8 := Aside0.mk (below_then HB7.out HB7.out.size hb)
  have HC8 := Aside0.mk (Kd.C_below HC7.out hb)
  have HCL8 := Aside0.mk (Kd.C_below HCL7.out hb)
  have HX8 := Aside0.mk (blk_below HX7.out hb)
  clear hb HB7 HC7 HCL7 HX7
  go_wp2_with fail
  refine (spans_Cross.calls 0 1 2 0 3 4 false _ sm_cross2).mono ?_
  rintro e w9 ⟨rfl, hb⟩
  have HB9 := Aside0.mk (below_then HB8.out HB8.out.size hb)
  have HC9 := Aside0.mk (Kd.C_below HC8.out hb)
  have HCL9 := Aside0.mk (Kd.C_below HCL8.out hb)
  have HX9 := Aside0.mk (blk_below HX8.out hb)
  clear hb HB8 HC8 HCL8 HX8
  go_wp2_with fail
  refine (spans_Most.calls 5 Al cl [⟨1, 1, 2⟩] 1 _ HCL9.out HKL.out sm_most).mono ?_
  rintro e w10 ⟨rfl, hb⟩
  have HB10 := Aside0.mk (below_then HB9.out HB9.out.size hb)
  have HC10 := Aside0.mk (Kd.C_below HC9.out hb)
  have HCL10 := Aside0.mk (Kd.C_below HCL9.out hb)
  have HX10 := Aside0.mk (blk_below HX9.out hb)
  clear hb HB9 HC9 HCL9 HX9
  go_wp2_with fail
  refine (spans_At.calls Al cl [⟨1, 1, 2⟩] 2 [1] _ HCL10.out HKL.out sm_at2).mono ?_
  rintro e w11 ⟨v11, rfl, hr, hb⟩
  obtain ⟨Aa, ca, rfl, ka, hCa⟩ := Kd.R_reads hr
  have HCA := Aside0.mk hCa
  have HKA := Aside0.mk ka
  have HB11 := Aside0.mk (below_then HB10.out HB10.out.size hb)
  have HC11 := Aside0.mk (Kd.C_below HC10.out hb)
  have HX11 := Aside0.mk (blk_below HX10.out hb)
  clear hr hb hCa ka HB10 HC10 HCL10 HX10
  go_wp2_with fail
  have hA12 := below_alloc (Below.refl w11.heap.size w11) (.cells #[.int .i64 1] 3)
  refine (swageref02_Ints.calls 5 Aa ca [1] (some ⟨w11.heap.size, 0, none⟩) 1 [1] true _ (Kd.C_below HCA.out hA12) HKA.out (C_one w11 1) (by decide) sm_ints2).mono ?_
  rintro e w12 ⟨rfl, hd⟩
  have hb12 := below_then hA12 hA12.size hd.below
  have HB12 := Aside0.mk (below_then HB11.out HB11.out.size hb12)
  have HC12 := Aside0.mk (Kd.C_below HC11.out hb12)
  have HX12 := Aside0.mk (blk_below HX11.out hb12)
  have c0 := blk_cell HX12.out 0
  have c1 := blk_cell HX12.out 1
  simp only [List.getElem?_toArray, List.getElem?_cons_zero, List.getElem?_cons_succ] at c0 c1
  clear hA12 hd hb12 HB11 HC11 HX11 HCA HKA
  go_wp2_with fail
  refine (calls_ok 0 (some ⟨w.heap.size + 1, 0, none⟩) 1 bsS _ HC12.out (by decide) sm_right).mono ?_
  rintro e w13 ⟨v13, rfl, ho, hb⟩
  rw [sm_calls] at ho
  obtain ⟨Ac, cc, rfl⟩ := own_slice ho
  have HB13 := Aside0.mk (below_then HB12.out HB12.out.size hb)
  clear ho hb c0 c1
  go_wp2_with fail
  go_ret
  exact ⟨rfl, HB13.out⟩
def swagelaw25_small.f : Option Bool := some true
theorem swagelaw25_small.calls (r : Bool) (w : World) (h : swagelaw25_small.f = some r) :
    Calls Try.prog 9 #[] w fun e w' => e = .returned (.bool r) ∧ Below w.heap.size w w' := by
  obtain rfl := Option.some.inj h
  exact small_walk w
end Go.Proofs.Ytnkgbnbbmcoiiaa.S
