import Derived.Test.YtnkgbnbbmcoiiaaShelf
import Derived.Sort.OwnSortedInts
import Derived.Test.YtnkgbnbbmcoiiaaS4
namespace Go.Proofs.Ytnkgbnbbmcoiiaa.S
open Go.RowKit Go.Proofs.YtnkgbnbbmcoiiaaW.PrintWords Go.Proofs.YtnkgbnbbmcoiiaaW.PrintLast Go.Proofs.YtnkgbnbbmcoiiaaW.PrintMore
set_option linter.unusedVariables false
theorem rd26' {l : List S26} {j : Nat} (h : j < l.length) : rd_T26 l (j : Int) = l[j] := by
  unfold rd_T26
  simp [List.getD_eq_getElem?_getD, h]
/-! ### A slice of whole numbers, sorted -/
def srt (zs : List Int) : List Int := zs.mergeSort fun x y => decide (x ≤ y)
theorem srt_length (zs : List Int) : (srt zs).length = zs.length := List.length_mergeSort _
/-- slices.Sort at a slice of the call's own. -/
theorem sortI_any (W : World) (base : Nat) (v : Value) (zs : List Int) (HO : W.ownsRow base 3 1 v zs.length (nums .i64 zs)) (hn : zs.length < 4611686018427387904) :
    Calls Try.prog 42 #[v] W fun e w' => e = .returned (.tuple #[]) ∧ w'.ownsRow base 3 1 v zs.length (nums .i64 (srt zs)) ∧ W.grownBy w' v.ownBlock := by
  rcases HO.2 with ⟨rfl, h0⟩ | ⟨g, cap, cur, rfl, hg, hblk, hcap, hmax, hsz, htk⟩
  · have hz : zs = [] := List.eq_nil_of_length_eq_zero h0
    subst hz
    refine (Try.slices_Sort_int_none none 0 W).mono ?_
    rintro e w' ⟨rfl, rfl⟩
    exact ⟨rfl, by simpa [srt, nums] using own_nil w' base 3 1, World.grownBy.refl _ _⟩
  · have hlt : g < W.heap.size := (Array.getElem?_eq_some_iff.1 hblk).1
    rw [Nat.mul_one] at htk
    have hH : Sort.Holds (Value.int .i64) W g 0 zs.toArray := holds_of_blockI hblk htk
    refine (Try.slices_Sort_int g 0 cap zs W hH hlt hn).mono ?_
    rintro e w' ⟨rfl, m, os, rfl⟩
    exact ⟨rfl, ownsRow_sortedI (ts := srt zs) (srt_length zs) hg hblk hcap hmax (by rw [hsz]), grownBy_sortedI _⟩
theorem meas1 {n j : Nat} (h : j < n) {x : Int} (e : x = ((j + 1 : Nat) : Int)) : n - (intOf (.int .i64 x)).toNat < n - (intOf (.int .i64 (j : Int))).toNat := by
  subst e
  have e1 : (intOf (.int .i64 ((j + 1 : Nat) : Int))).toNat = j + 1 := by simp [intOf]
  have e2 : (intOf (.int .i64 (j : Int))).toNat = j := by simp [intOf]
  rw [e1, e2]
  omega
/-! ### At -/
def hasP (x : S26) (p : Int) : Bool := decide (x.f1 ≤ p) && decide (p ≤ x.f2)
theorem hasP_f (x : S26) (p : Int) : spans_has.f x.f0 x.f1 x.f2 p = some (hasP x p) := by
  unfold spans_has.f hasP
  by_cases h : x.f1 ≤ p
  · simp [h]
  · simp [h]
def ats (l : List S26) (p : Int) : List Int := (l.filter fun x => hasP x p).map (·.f0)
theorem ats_take {l : List S26} {j : Nat} (h : j < l.length) (p : Int) : ats (l.take (j + 1)) p = if hasP (rd_T26 l (j : Int)) p = true then ats (l.take j) p ++ [(rd_T26 l (j : Int)).f0] else ats (l.take j) p := by
  unfold ats
  rw [rd26' h, List.take_succ_eq_append_getElem h, List.filter_append, List.map_append]
  by_cases h0 : hasP l[j] p = true
  · simp [h0]
  · simp [h0]
theorem ats_len (l : List S26) (p : Int) : (ats l p).length ≤ l.length := by
  unfold ats
  rw [List.length_map]
  exact List.length_filter_le _ _
set_option maxHeartbeats 8000000 in
set_option maxRecDepth 100000 in
theorem at_any (A : Option Addr) (c : Nat) (H : List S26) (p : Int) (w : World) (hr : Kd.C k26 w A H.length H) (hn : H.length ≤ 1000000000000) :
    Calls Try.prog 13 #[.slice A H.length c, .int .i64 p] w fun e w' => ∃ v, e = .returned v ∧ w'.ownsRow w.heap.size 3 1 v (srt (ats H p)).length (nums .i64 (srt (ats H p))) ∧ Below w.heap.size w w' := by
  have hu26 := Try.underlying26
  have HR := Aside0.mk hr
  have HN := Aside0.mk hn
  clear hr
  go_enter Try.func13, Try.ntmps13
  go_wp2_with fail
  go_loopw [10, 5] (fun i v wr => ∃ j : Nat, j ≤ H.length ∧ i = .int .i64 j ∧ Aside0 (wr.ownsRow w.heap.size 3 1 v (ats (H.take j) p).length (nums .i64 (ats (H.take j) p))) ∧ Aside0 (Below w.heap.size w wr)) (fun i _ _ => H.length - (intOf i).toNat)
  case atStart => exact ⟨0, Nat.zero_le _, rfl, ⟨own_nil _ _ _ _⟩, ⟨Below.refl _ _⟩⟩
  case round =>
    obtain ⟨j, hj, rfl, HO, HB⟩ := hrel
    by_cases hlt : j < H.length
    · have b1 : decide ((j : Int) < (H.length : Int)) = true := decide_eq_true (by omega)
      have hw1 : wrap64 ((j : Int) + 1) = ((j + 1 : Nat) : Int) := by unfold wrap64; omega
      obtain ⟨ad, eA, k0, k1, k2⟩ := at_T26 (Kd.C_below HR.out HB.out) (j : Int) (by omega) (by omega)
      simp only [Int.toNat_natCast] at k0 k1 k2
      have HU := Aside0.mk (ats_take hlt p)
      have HUL : Aside0 ((ats (H.take j) p).length ≤ 1000000000000) := ⟨by have := ats_len (H.take j) p; rw [List.length_take] at this; omega⟩
      generalize rd_T26 H (j : Int) = x at k0 k1 k2 HU
      subst eA
      have HC := fun W => spans_has.calls x.f0 x.f1 x.f2 p _ W (hasP_f x p)
      cases h0 : hasP x p with
      | true =>
        rw [h0] at HC
        have HC := Aside0.mk HC
        have HU2 : Aside0 (ats (H.take (j + 1)) p = ats (H.take j) p ++ [x.f0]) := ⟨by rw [HU.out, if_pos h0]⟩
        clear h0
        have HB1 := Aside0.mk (below_alloc HB.out (.cells #[.int .i64 x.f0, .int .i64 x.f1, .int .i64 x.f2] 26))
        have HO1 := Aside0.mk (own_alloc HO.out (.cells #[.int .i64 x.f0, .int .i64 x.f1, .int .i64 x.f2] 26))
        have hblk := blk_new wr (.cells #[.int .i64 x.f0, .int .i64 x.f1, .int .i64 x.f2] 26)
        go_wp2_with (first
          | (go_at_call 41; refine (HC.out _).mono ?_; rintro e w3 ⟨rfl, hd3⟩; have hblk3 := blk_below hblk hd3; have s0 := blk_cell hblk3 0; have HB3 := Aside0.mk (below_then HB1.out HB1.out.size hd3); have HO3 := Aside0.mk (pw_own_below HO1.out hd3))
          | (at_builtin; refine print_append_num w.heap.size rfl _ _ 28 3 .i64 8 rfl Try.underlying28 (by kernel_rfl) (by decide) u5 (ats (H.take j) p) x.f0 rfl rfl HO3.out HB3.out (by have := HB3.out.size; omega) (by have := HUL.out; omega) ?_; intro v1 w1 hown hB1 hg1 hat))
        go_roundw
        case rel => exact ⟨j + 1, by omega, by go_num, ⟨by rw [HU2.out]; exact hown⟩, ⟨hB1⟩⟩
        case measure => first | exact meas1 hlt hw1 | exact meas1 hlt rfl
      | false =>
        rw [h0] at HC
        have HC := Aside0.mk HC
        have HU2 : Aside0 (ats (H.take (j + 1)) p = ats (H.take j) p) := ⟨by rw [HU.out, if_neg (by rw [h0]; decide)]⟩
        clear h0
        have HB1 := Aside0.mk (below_alloc HB.out (.cells #[.int .i64 x.f0, .int .i64 x.f1, .int .i64 x.f2] 26))
        have HO1 := Aside0.mk (own_alloc HO.out (.cells #[.int .i64 x.f0, .int .i64 x.f1, .int .i64 x.f2] 26))
        go_wp2_with (go_at_call 41; refine (HC.out _).mono ?_; rintro e w3 ⟨rfl, hd3⟩; have HB3 := Aside0.mk (below_then HB1.out HB1.out.size hd3); have HO3 := Aside0.mk (pw_own_below HO1.out hd3))
        go_roundw
        case rel => exact ⟨j + 1, by omega, by go_num, ⟨by rw [HU2.out]; exact HO3.out⟩, HB3⟩
        case measure => first | exact meas1 hlt hw1 | exact meas1 hlt rfl
    · have b1 : decide ((j : Int) < (H.length : Int)) = false := decide_eq_false (by omega)
      obtain rfl : j = H.length := by omega
      rw [List.take_length] at HO
      have HUL : Aside0 ((ats H p).length ≤ 1000000000000) := ⟨by have := ats_len H p; omega⟩
      go_wp2_with (go_at_call 42; refine (sortI_any _ w.heap.size _ _ HO.out (by have := HUL.out; omega)).mono ?_; rintro e w5 ⟨rfl, ho5, hg5⟩; have HO5 := Aside0.mk ho5; have HB5 := Aside0.mk (pw_below_grown HB.out _ HB.out.size hg5 (own_base HO.out)); clear ho5 hg5)
      go_ret
      exact ⟨_, rfl, by rw [srt_length]; exact HO5.out, HB5.out⟩
def spans_At.f (l0 : List S26) (a1 : Int) : Option (List Int) := if l0.length ≤ 1000000000000 then some (srt (ats l0 a1)) else none
theorem spans_At.calls (A0 : Option Addr) (c0 : Nat) (l0 : List S26) (a1 : Int) (r : List Int) (w : World) (hr0 : Kd.C k26 w A0 l0.length l0) (hc0 : l0.length ≤ c0) (h : spans_At.f l0 a1 = some r) :
    Calls Try.prog 13 #[.slice A0 l0.length c0, .int .i64 a1] w fun e w' => ∃ v0_, e = .returned v0_ ∧ Kd.R (Kd.int .i64) 3 w' w.heap.size (fun _ => True) v0_ r ∧ Below w.heap.size w w' := by
  unfold spans_At.f at h
  by_cases hn : l0.length ≤ 1000000000000
  · rw [if_pos hn] at h
    obtain rfl := Option.some.inj h
    refine (at_any A0 c0 l0 a1 w hr0 hn).mono ?_
    rintro e w' ⟨v, rfl, ho, hb⟩
    exact ⟨v, rfl, Kd.R_of_own ho (fun _ _ => trivial), hb⟩
  · rw [if_neg hn] at h
    cases h
end Go.Proofs.Ytnkgbnbbmcoiiaa.S
