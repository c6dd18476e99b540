import Derived.Test.YtncpgclcbdgndaaLh
import Derived.Test.YtncpgclcbdgndaaS12
namespace Go.Proofs.Ytncpgclcbdgndaa.S
open Go.RowKit Go.Proofs.YtncpgclcbdgndaaW.PrintWords Go.Proofs.YtncpgclcbdgndaaW.PrintLast Go.Proofs.YtncpgclcbdgndaaW.PrintMore
set_option linter.unusedVariables false
/-! ### ScanAlone -/
theorem band_range' (x : Int) (m : Nat) (hm : m < 4096) : 0 ≤ Go.bits .and .i64 x (m : Int) ∧ Go.bits .and .i64 x (m : Int) ≤ (m : Int) := by
  show 0 ≤ IntKind.i64.wrap ((BitVec.ofInt 64 x &&& BitVec.ofInt 64 (m : Int)).toNat : Int) ∧ IntKind.i64.wrap ((BitVec.ofInt 64 x &&& BitVec.ofInt 64 (m : Int)).toNat : Int) ≤ (m : Int)
  have h2 : (BitVec.ofInt 64 (m : Int)).toNat = m := by
    rw [BitVec.ofInt_natCast, BitVec.toNat_ofNat]; exact Nat.mod_eq_of_lt (by omega)
  rw [BitVec.toNat_and, h2, IntKind.wrap_i64]
  have h3 : (BitVec.ofInt 64 x).toNat &&& m ≤ m := Nat.and_le_right
  omega
def aV (e : List Int) (i : Nat) : Int := Go.bits .and .i64 (rd e (i : Int)) 63
theorem aV_range (e : List Int) (i : Nat) : 0 ≤ aV e i ∧ aV e i ≤ 63 := by
  have := band_range' (rd e (i : Int)) 63 (by omega)
  rwa [show ((63 : Nat) : Int) = 63 from rfl] at this
def aF (e : List Int) : Nat → Int
  | 0 => 0
  | i + 1 => aF e i + aV e i + 1
theorem aF_range (e : List Int) : ∀ i : Nat, 0 ≤ aF e i ∧ aF e i ≤ 64 * (i : Int)
  | 0 => by simp [aF]
  | i + 1 => by
    have := aF_range e i
    have := aV_range e i
    simp only [aF]
    omega
theorem aF_lt (e : List Int) {i : Nat} : ∀ {j : Nat}, i < j → aF e i + aV e i < aF e j
  | 0, h => by omega
  | j + 1, h => by
    simp only [aF]
    have := aV_range e j
    rcases Nat.lt_or_eq_of_le (Nat.le_of_lt_succ h) with h1 | h1
    · have := aF_lt e h1
      omega
    · subst h1
      omega
abbrev aS (e : List Int) (i : Nat) : S38 := ⟨(i : Int) + 1, aF e i, aF e i + aV e i⟩
def spansA (e : List Int) : List S38 := (List.range e.length).map (aS e)
theorem spansA_length (e : List Int) : (spansA e).length = e.length := by simp [spansA]
theorem spansA_rd {e : List Int} {i : Nat} (hi : i < e.length) : rd_T38 (spansA e) (i : Int) = aS e i := by
  rw [rd38 (by rw [spansA_length]; exact hi)]
  simp [spansA]
theorem spansA_take (e : List Int) (i : Nat) : (List.range (i + 1)).map (aS e) = (List.range i).map (aS e) ++ [aS e i] := by
  rw [List.range_succ, List.map_append]
  rfl
theorem spansA_rgt {e : List Int} (hn : e.length ≤ 60) : rgt (spansA e) [] = true := by
  refine rgt_of _ _ (fun s hs => ?_) ?_
  · unfold spansA at hs
    obtain ⟨i, hi, rfl⟩ := List.mem_map.1 hs
    have := List.mem_range.1 hi
    have := aV_range e i
    exact ⟨by show 1 ≤ (i : Int) + 1; omega, by show (i : Int) + 1 ≤ 4096; omega, by show aF e i ≤ aF e i + aV e i; omega, by simp⟩
  · unfold spansA
    rw [List.map_map]
    refine List.Pairwise.map _ (fun a b hab => ?_) List.nodup_range
    show (a : Int) + 1 ≠ (b : Int) + 1
    omega
section
variable {e : List Int}
theorem ordA (hn : e.length ≤ 60) : ordOf (spansA e) = List.range e.length := by
  symm
  refine ord_unique (spansA_rgt hn) (by rw [spansA_length]) ?_
  rw [List.pairwise_iff_getElem]
  intro i j hi hj hij
  simp only [List.length_range] at hi hj
  simp only [List.getElem_range]
  rw [cmp3_lt, spansA_rd hi, spansA_rd hj]
  have := aF_lt e hij
  have := aV_range e i
  dsimp only
  omega
theorem alone_all (hn : e.length ≤ 60) (regs : Nat) {i : Nat} (hi : i < e.length) : (HS regs (spansA e)).hr i = (if regs = 0 then -1 else 0) ∧ (HS regs (spansA e)).hs i = (if regs = 0 then (i : Int) else 0) := by
  have h := Scan.alone_run (regs := regs) (F := fF (spansA e)) (T := fT (spansA e)) (R := fR (spansA e)) (List.range e.length) [] Scan.st0 (by simp [Scan.st0]) (by simpa using List.nodup_range) (by
    rw [List.nil_append, List.pairwise_iff_getElem]
    intro i j hi hj hij
    simp only [List.length_range] at hi hj
    simp only [List.getElem_range]
    unfold fF fT
    rw [spansA_rd hi, spansA_rd hj]
    exact aF_lt e hij) (by simp [Scan.st0]) (by simp)
  have h2 := h i (by simpa using hi)
  unfold HS Scan.homes
  rw [ordA hn]
  simpa using h2
theorem most_alone (hn : e.length ≤ 60) : mostOf (spansA e) ≤ 1 := by
  unfold mostOf
  refine most_le _ _ _ _ (by decide) fun s hs => ?_
  rw [ats_cover]
  unfold Scan.cover
  have key : ∀ L : List Nat, L.Nodup → (∀ a ∈ L, ∀ b ∈ L, a = b) → L.length ≤ 1
    | [], _, _ => by simp
    | [a], _, _ => by simp
    | a :: b :: L, hn, h => by
      have := h a (by simp) b (by simp)
      subst this
      simp at hn
  have h1 := key ((List.range (spansA e).length).filter fun i => decide (fF (spansA e) i ≤ s.f1) && decide (s.f1 ≤ fT (spansA e) i)) (List.nodup_range.sublist List.filter_sublist) (fun a ha b hb => by
    rw [List.mem_filter, List.mem_range, spansA_length] at ha hb
    obtain ⟨ha, ha2⟩ := ha
    obtain ⟨hb, hb2⟩ := hb
    simp only [Bool.and_eq_true, decide_eq_true_eq] at ha2 hb2
    unfold fF fT at ha2 hb2
    rw [spansA_rd ha] at ha2
    rw [spansA_rd hb] at hb2
    dsimp only at ha2 hb2
    rcases Nat.lt_trichotomy a b with h | h | h
    · have := aF_lt e h; omega
    · exact h
    · have := aF_lt e h; omega)
  omega
theorem alone_l1 (hn : e.length ≤ 60) {regs : Nat} : ∀ m k i, e.length - i = m → i ≤ e.length → m < k → swagelaw26_ScanAlone.l1 k (regs : Int) true (homesRow regs (spansA e)) (i : Int) = some true
  | 0, k + 1, i, h1, h2, h3 => by
    simp only [swagelaw26_ScanAlone.l1]
    rw [homesRow_length, spansA_length, if_neg (by omega)]
  | m + 1, k + 1, i, h1, h2, h3 => by
    have hi : i < e.length := by omega
    have ih := alone_l1 hn (regs := regs) m k (i + 1) (by omega) (by omega) (by omega)
    obtain ⟨a0, a1⟩ := alone_all hn regs hi
    simp only [swagelaw26_ScanAlone.l1]
    rw [homesRow_length, spansA_length, if_pos (by omega), homesRow_rd (by rw [spansA_length]; exact hi), succ64 hi (by omega)]
    dsimp only
    by_cases hz : regs = 0
    · rw [if_pos hz] at a0 a1
      rw [if_neg (by omega), if_pos (by omega), if_pos (by omega), a0, a1, if_neg (by simp)]
      exact ih
    · rw [if_neg hz] at a0 a1
      rw [if_pos (by omega), if_pos (by omega), a0, a1, if_neg (by simp), if_neg (by omega)]
      exact ih
theorem alone_l0 (hn : e.length ≤ 60) {regs : Nat} (hr : regs ≤ 16) : ∀ m k i, e.length - i = m → i ≤ e.length → m + 200 < k → swagelaw26_ScanAlone.l0 k e (regs : Int) true ((List.range i).map (aS e)) (aF e i) (i : Int) = some true
  | 0, k + 1, i, h1, h2, h3 => by
    obtain rfl : i = e.length := by omega
    obtain ⟨k, rfl⟩ : ∃ k', k = k' + 1 := ⟨k - 1, by omega⟩
    have hf : scan_Homes.f (spansA e) (regs : Int) = some (homesRow regs (spansA e), 0) := by
      have := homes_f (l := spansA e) (a1 := (regs : Int)) (spansA_rgt hn) (by omega) (by omega)
      rwa [Int.toNat_natCast] at this
    have hm := most_alone hn
    simp only [swagelaw26_ScanAlone.l0]
    rw [if_neg (by omega), show (List.range e.length).map (aS e) = spansA e from rfl, hf]
    simp only [Option.bind_some, if_pos]
    rw [homesRow_length, if_pos rfl, most_f _ (by rw [spansA_length]; omega) (k + 1) (by rw [spansA_length]; omega)]
    simp only [Option.bind_some]
    rw [decide_eq_false (show ¬ mostOf (spansA e) > 1 by omega)]
    simp only [swagelaw26_ScanAlone.j2, Bool.false_eq_true, if_false]
    exact alone_l1 hn e.length k 0 rfl (Nat.zero_le _) (by omega)
  | m + 1, k + 1, i, h1, h2, h3 => by
    have hi : i < e.length := by omega
    have ih := alone_l0 hn hr m k (i + 1) (by omega) (by omega) (by omega)
    have hr2 := aV_range e i
    have hr3 := aF_range e i
    have hw : wrap64 (aF e i + (Go.bits .and .i64 (rd e (i : Int)) 63)) = aF e i + aV e i := w64 (show i64 (aF e i + aV e i) by constructor <;> omega)
    have hw2 : wrap64 (aF e i + aV e i + 1) = aF e (i + 1) := w64 (show i64 (aF e i + aV e i + 1) by constructor <;> omega)
    simp only [swagelaw26_ScanAlone.l0]
    rw [if_pos (by omega), if_pos (by omega), if_pos (by simp; omega), succ64 hi (by omega), hw, hw2]
    rw [spansA_take e i] at ih
    exact ih
end
theorem alone_law (k : Nat) (hk : 300 ≤ k) (l : List Int) (a1 : Int) : swagelaw26_ScanAlone.f (k + 1) l a1 = some true := by
  have hj : swagelaw26_ScanAlone.j0 (k + 1) l a1 true true = some true := by
    simp only [swagelaw26_ScanAlone.j0]
    rfl
  unfold swagelaw26_ScanAlone.f swagelaw26_small.f
  simp only [Option.bind_some]
  by_cases c0 : (l.length : Int) > 60
  · rw [if_pos c0]; exact hj
  rw [if_neg c0]
  by_cases c1 : a1 < 0
  · rw [if_pos c1]; exact hj
  rw [if_neg c1]
  by_cases c2 : a1 > 16
  · rw [decide_eq_true c2]; exact hj
  rw [decide_eq_false c2]
  clear hj
  obtain ⟨r, rfl⟩ := Int.eq_ofNat_of_zero_le (show 0 ≤ a1 by omega)
  simp only [swagelaw26_ScanAlone.j0, Bool.false_eq_true, if_false]
  exact alone_l0 (by omega) (by omega) l.length k 0 rfl (Nat.zero_le _) (by omega)
end Go.Proofs.Ytncpgclcbdgndaa.S
