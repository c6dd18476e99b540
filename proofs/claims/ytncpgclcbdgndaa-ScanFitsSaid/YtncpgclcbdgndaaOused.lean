import Derived.Test.YtncpgclcbdgndaaOsort
namespace Go.Proofs.Ytncpgclcbdgndaa.S
open Go.RowKit Go.Proofs.YtncpgclcbdgndaaW.PrintWords Go.Proofs.YtncpgclcbdgndaaW.PrintLast Go.Proofs.YtncpgclcbdgndaaW.PrintMore
set_option linter.unusedVariables false
/-! ### A slice of whole numbers, sorted -/
def srt (zs : List Int) : List Int := zs.mergeSort fun x y => decide (x ≤ y)
theorem srt_length (zs : List Int) : (srt zs).length = zs.length := List.length_mergeSort _
/-- slices.Sort at a slice of the call's own. -/
theorem sortI_any (W : World) (base : Nat) (v : Value) (zs : List Int) (HO : W.ownsRow base 3 1 v zs.length (nums .i64 zs)) (hn : zs.length < 4611686018427387904) :
    Calls Try.prog 36 #[v] W fun e w' => e = .returned (.tuple #[]) ∧ w'.ownsRow base 3 1 v zs.length (nums .i64 (srt zs)) ∧ W.grownBy w' v.ownBlock := by
  rcases HO.2 with ⟨rfl, h0⟩ | ⟨g, cap, cur, rfl, hg, hblk, hcap, hmax, hsz, htk⟩
  · have hz : zs = [] := List.eq_nil_of_length_eq_zero h0
    subst hz
    refine (Try.slices_Sort_int_none none 0 W).mono ?_
    rintro e w' ⟨rfl, rfl⟩
    exact ⟨rfl, by simpa [srt, nums] using own_nil w' base 3 1, World.grownBy.refl _ _⟩
  · have hlt : g < W.heap.size := (Array.getElem?_eq_some_iff.1 hblk).1
    rw [Nat.mul_one] at htk
    have hH : Sort.Holds (Value.int .i64) W g 0 zs.toArray := holds_of_blockI hblk htk
    refine (Try.slices_Sort_int g 0 cap zs W hH hlt hn).mono ?_
    rintro e w' ⟨rfl, m, os, rfl⟩
    exact ⟨rfl, ownsRow_sortedI (ts := srt zs) (srt_length zs) hg hblk hcap hmax (by rw [hsz]), grownBy_sortedI _⟩
/-- slices.Compact at a slice of the call's own. -/
theorem compactI_any (W : World) (base : Nat) (v : Value) (zs : List Int) (HO : W.ownsRow base 3 1 v zs.length (nums .i64 zs)) (hn : zs.length ≤ 9223372036854775807) :
    Calls Try.prog 37 #[v] W fun e w' => ∃ v', e = .returned v' ∧ w'.ownsRow base 3 1 v' (Lib.compact zs).length (nums .i64 (Lib.compact zs)) ∧ W.grownBy w' v.ownBlock := by
  rcases HO.2 with ⟨rfl, h0⟩ | ⟨g, cap, cur, rfl, hg, hblk, hcap, hmax, hsz, htk⟩
  · have hz : zs = [] := List.eq_nil_of_length_eq_zero h0
    subst hz
    refine (Try.slices_Compact_int_empty none 0 W).mono ?_
    rintro e w' ⟨rfl, rfl⟩
    exact ⟨_, rfl, own_nil _ _ _ _, World.grownBy.refl _ _⟩
  · have hlt : g < W.heap.size := (Array.getElem?_eq_some_iff.1 hblk).1
    rw [Nat.mul_one] at htk
    have hH : Sort.Holds (Value.int .i64) W g 0 zs.toArray := holds_of_blockI hblk htk
    have hle : (Lib.compact zs).length ≤ zs.length := Lib.compact_length_le zs
    refine (Try.slices_Compact_int g 0 cap zs W hH hn hcap).mono ?_
    rintro e w' ⟨rfl, q, rfl⟩
    have hd : ((Lib.compact zs ++ List.replicate (zs.length - (Lib.compact zs).length) 0).toArray : Array Int).size = zs.length := by simp; omega
    have hg2 := grown_row (enc := Value.int .i64) (w := W) (g := g) (n := q) (os := #[]) (Lib.compact zs ++ List.replicate (zs.length - (Lib.compact zs).length) 0).toArray
    have hh2 := heap_row (enc := Value.int .i64) (w := W) (g := g) (n := q) (os := #[]) (Lib.compact zs ++ List.replicate (zs.length - (Lib.compact zs).length) 0).toArray hblk
    unfold sortWorld at hg2 hh2
    rw [Sort.grow_empty] at hg2 hh2
    refine ⟨_, rfl, ⟨by simp [nums], .inr ⟨g, cap, _, rfl, hg, hh2, by omega, hmax, by simp [Sort.putCells, hsz], ?_⟩⟩, hg2⟩
    have h2 := take_row (Value.int .i64) cur (Lib.compact zs ++ List.replicate (zs.length - (Lib.compact zs).length) 0).toArray (by rw [hd, hsz]; omega)
    rw [hd] at h2
    have h3 := congrArg (List.take (Lib.compact zs).length) h2
    rw [List.take_take, Nat.min_eq_left hle] at h3
    rw [Nat.mul_one, h3]
    simp [nums]
def used (H : List S40) : List Int := (H.filter fun x => decide (0 ≤ x.f0)).map (·.f0)
theorem rd40' {l : List S40} {j : Nat} (h : j < l.length) : rd_T40 l (j : Int) = l[j] := by
  unfold rd_T40
  simp [List.getD_eq_getElem?_getD, h]
theorem used_take {H : List S40} {j : Nat} (h : j < H.length) : used (H.take (j + 1)) = if 0 ≤ (rd_T40 H (j : Int)).f0 then used (H.take j) ++ [(rd_T40 H (j : Int)).f0] else used (H.take j) := by
  unfold used
  rw [rd40' h, List.take_succ_eq_append_getElem h, List.filter_append, List.map_append]
  by_cases h0 : 0 ≤ H[j].f0
  · simp [h0]
  · simp [h0]
theorem used_len (H : List S40) : (used H).length ≤ H.length := by
  unfold used
  rw [List.length_map]
  exact List.length_filter_le _ _
theorem meas1 {n j : Nat} (h : j < n) {x : Int} (e : x = ((j + 1 : Nat) : Int)) : n - (intOf (.int .i64 x)).toNat < n - (intOf (.int .i64 (j : Int))).toNat := by
  subst e
  have e1 : (intOf (.int .i64 ((j + 1 : Nat) : Int))).toNat = j + 1 := by simp [intOf]
  have e2 : (intOf (.int .i64 (j : Int))).toNat = j := by simp [intOf]
  rw [e1, e2]
  omega
set_option maxHeartbeats 8000000 in
set_option maxRecDepth 100000 in
theorem used_any (A : Option Addr) (c : Nat) (H : List S40) (w : World) (hr : Kd.C k40 w A H.length H) (hn : H.length ≤ 1000000000000) :
    Calls Try.prog 21 #[.slice A H.length c] w fun e w' => ∃ v, e = .returned v ∧ w'.ownsRow w.heap.size 3 1 v (Lib.compact (srt (used H))).length (nums .i64 (Lib.compact (srt (used H)))) ∧ Below w.heap.size w w' := by
  have hu40 := Try.underlying40
  have HR := Aside0.mk hr
  have HN := Aside0.mk hn
  clear hr
  go_enter Try.func21, Try.ntmps21
  go_wp2_with fail
  go_loopw [8, 3] (fun i v wr => ∃ j : Nat, j ≤ H.length ∧ i = .int .i64 j ∧ Aside0 (wr.ownsRow w.heap.size 3 1 v (used (H.take j)).length (nums .i64 (used (H.take j)))) ∧ Aside0 (Below w.heap.size w wr)) (fun i _ _ => H.length - (intOf i).toNat)
  case atStart => exact ⟨0, Nat.zero_le _, rfl, ⟨own_nil _ _ _ _⟩, ⟨Below.refl _ _⟩⟩
  case round =>
    obtain ⟨j, hj, rfl, HO, HB⟩ := hrel
    by_cases hlt : j < H.length
    · have b1 : decide ((j : Int) < (H.length : Int)) = true := decide_eq_true (by omega)
      have hw1 : wrap64 ((j : Int) + 1) = ((j + 1 : Nat) : Int) := by unfold wrap64; omega
      obtain ⟨ad, eA, k0, k1⟩ := at_T40 (Kd.C_below HR.out HB.out) (j : Int) (by omega) (by omega)
      simp only [Int.toNat_natCast] at k0 k1
      have HU := Aside0.mk (used_take hlt)
      have HUL : Aside0 ((used (H.take j)).length ≤ 1000000000000) := ⟨by have := used_len (H.take j); rw [List.length_take] at this; omega⟩
      generalize rd_T40 H (j : Int) = x at k0 k1 HU
      subst eA
      by_cases h0 : 0 ≤ x.f0
      · have b2 : decide (0 ≤ x.f0) = true := decide_eq_true h0
        have HU2 : Aside0 (used (H.take (j + 1)) = used (H.take j) ++ [x.f0]) := ⟨by rw [HU.out, if_pos h0]⟩
        clear h0
        have HOA := Aside0.mk (own_alloc HO.out (.cells #[.int .i64 x.f0, .int .i64 x.f1] 40))
        have HBA := Aside0.mk (below_alloc HB.out (.cells #[.int .i64 x.f0, .int .i64 x.f1] 40))
        go_wp2_with (at_builtin; refine print_append_num w.heap.size rfl _ _ 35 3 .i64 8 rfl Try.underlying35 (by kernel_rfl) (by decide) u3 (used (H.take j)) x.f0 rfl (by rw [World.size_alloc]; rfl) HOA.out HBA.out (by have := HBA.out.size; omega) (by have := HUL.out; omega) ?_; intro v1 w1 hown hB1 hg1 hat)
        go_roundw
        case rel => exact ⟨j + 1, by omega, by go_num, ⟨by rw [HU2.out]; exact hown⟩, ⟨hB1⟩⟩
        case measure => first | exact meas1 hlt hw1 | exact meas1 hlt rfl
      · have b2 : decide (0 ≤ x.f0) = false := decide_eq_false h0
        have HU2 : Aside0 (used (H.take (j + 1)) = used (H.take j)) := ⟨by rw [HU.out, if_neg h0]⟩
        clear h0
        go_wp2_with fail
        go_roundw
        case rel => exact ⟨j + 1, by omega, by go_num, ⟨by rw [HU2.out]; exact own_alloc HO.out _⟩, ⟨below_alloc HB.out _⟩⟩
        case measure => first | exact meas1 hlt hw1 | exact meas1 hlt rfl
    · have b1 : decide ((j : Int) < (H.length : Int)) = false := decide_eq_false (by omega)
      obtain rfl : j = H.length := by omega
      rw [List.take_length] at HO
      have HUL : Aside0 ((used H).length ≤ 1000000000000) := ⟨by have := used_len H; omega⟩
      go_wp2_with (first
        | (go_at_call 36; refine (sortI_any _ w.heap.size _ _ HO.out (by have := HUL.out; omega)).mono ?_; rintro e w5 ⟨rfl, ho5, hg5⟩; have HO5 := Aside0.mk ho5; have HB5 := Aside0.mk (pw_below_grown HB.out _ HB.out.size hg5 (own_base HO.out)); clear ho5 hg5)
        | (go_at_call 37; refine (compactI_any _ w.heap.size _ _ (by rw [srt_length]; exact HO5.out) (by rw [srt_length]; have := HUL.out; omega)).mono ?_; rintro e w6 ⟨v6, rfl, ho6, hg6⟩; have HO6 := Aside0.mk ho6; have HB6 := Aside0.mk (pw_below_grown HB5.out _ HB5.out.size hg6 (own_base HO.out)); clear ho6 hg6))
      go_ret
      exact ⟨v6, rfl, HO6.out, HB6.out⟩
def scan_Used.f (l0 : List S40) : Option (List Int) := if l0.length ≤ 1000000000000 then some (Lib.compact (srt (used l0))) else none
theorem scan_Used.calls (A0 : Option Addr) (c0 : Nat) (l0 : List S40) (r : List Int) (w : World) (hr0 : Kd.C k40 w A0 l0.length l0) (hc0 : l0.length ≤ c0) (h : scan_Used.f l0 = some r) :
    Calls Try.prog 21 #[.slice A0 l0.length c0] w fun e w' => ∃ v0_, e = .returned v0_ ∧ Kd.R (Kd.int .i64) 3 w' w.heap.size (fun _ => True) v0_ r ∧ Below w.heap.size w w' := by
  unfold scan_Used.f at h
  by_cases hn : l0.length ≤ 1000000000000
  · rw [if_pos hn] at h
    obtain rfl := Option.some.inj h
    refine (used_any A0 c0 l0 w hr0 hn).mono ?_
    rintro e w' ⟨v, rfl, ho, hb⟩
    exact ⟨v, rfl, Kd.R_of_own ho (fun _ _ => trivial), hb⟩
  · rw [if_neg hn] at h
    cases h
end Go.Proofs.Ytncpgclcbdgndaa.S
