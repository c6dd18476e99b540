import Derived.Test.YtncpgclcbdgndaaLh
import Derived.Test.YtncpgclcbdgndaaS10
namespace Go.Proofs.Ytncpgclcbdgndaa.S
open Go.RowKit Go.Proofs.YtncpgclcbdgndaaW.PrintWords Go.Proofs.YtncpgclcbdgndaaW.PrintLast Go.Proofs.YtncpgclcbdgndaaW.PrintMore
set_option linter.unusedVariables false
/-! ### ScanClique -/
theorem band_range (x : Int) (m : Nat) (hm : m < 4096) : 0 ≤ Go.bits .and .i64 x (m : Int) ∧ Go.bits .and .i64 x (m : Int) ≤ (m : Int) := by
  show 0 ≤ IntKind.i64.wrap ((BitVec.ofInt 64 x &&& BitVec.ofInt 64 (m : Int)).toNat : Int) ∧ IntKind.i64.wrap ((BitVec.ofInt 64 x &&& BitVec.ofInt 64 (m : Int)).toNat : Int) ≤ (m : Int)
  have h2 : (BitVec.ofInt 64 (m : Int)).toNat = m := by
    rw [BitVec.ofInt_natCast, BitVec.toNat_ofNat]; exact Nat.mod_eq_of_lt (by omega)
  rw [BitVec.toNat_and, h2, IntKind.wrap_i64]
  have h3 : (BitVec.ofInt 64 x).toNat &&& m ≤ m := Nat.and_le_right
  omega
def cT (e : List Int) (i : Nat) : Int := 5 + Go.bits .and .i64 (rd e (i : Int)) 255
theorem cT_range (e : List Int) (i : Nat) : 5 ≤ cT e i ∧ cT e i ≤ 260 := by
  have := band_range (rd e (i : Int)) 255 (by omega)
  rw [show ((255 : Nat) : Int) = 255 from rfl] at this
  unfold cT
  omega
def spansC (e : List Int) : List S38 := (List.range e.length).map fun i : Nat => ⟨(i : Int) + 1, 5, cT e i⟩
theorem spansC_length (e : List Int) : (spansC e).length = e.length := by simp [spansC]
theorem spansC_rd {e : List Int} {i : Nat} (hi : i < e.length) : rd_T38 (spansC e) (i : Int) = ⟨(i : Int) + 1, 5, cT e i⟩ := by
  rw [rd38 (by rw [spansC_length]; exact hi)]
  simp [spansC]
theorem spansC_take (e : List Int) {i : Nat} (hi : i < e.length) : ((List.range (i + 1)).map fun i : Nat => (⟨(i : Int) + 1, 5, cT e i⟩ : S38)) = ((List.range i).map fun i : Nat => (⟨(i : Int) + 1, 5, cT e i⟩ : S38)) ++ [⟨(i : Int) + 1, 5, cT e i⟩] := by
  rw [List.range_succ, List.map_append]
  rfl
theorem spansC_rgt {e : List Int} (hn : e.length ≤ 60) : rgt (spansC e) [] = true := by
  refine rgt_of _ _ (fun s hs => ?_) ?_
  · unfold spansC at hs
    obtain ⟨i, hi, rfl⟩ := List.mem_map.1 hs
    have := List.mem_range.1 hi
    have := cT_range e i
    exact ⟨by show 1 ≤ (i : Int) + 1; omega, by show (i : Int) + 1 ≤ 4096; omega, this.1, by simp⟩
  · unfold spansC
    rw [List.map_map]
    refine List.Pairwise.map _ (fun a b hab => ?_) List.nodup_range
    show (a : Int) + 1 ≠ (b : Int) + 1
    omega
/-- Which end ahead of i. -/
def ahB (e : List Int) (i q : Nat) : Bool := decide (cT e q < cT e i) || (decide (cT e q = cT e i) && decide (q < i))
def ahN (e : List Int) (i : Nat) : Nat := ((List.range e.length).filter (ahB e i)).length
section
variable {e : List Int}
theorem clique_lt {i q : Nat} (hi : i < e.length) (hq : q < e.length) : cmp3 (spansC e) q i < 0 ↔ ahB e i q = true := by
  rw [cmp3_lt, spansC_rd hi, spansC_rd hq]
  unfold ahB
  simp only [Bool.or_eq_true, Bool.and_eq_true, decide_eq_true_eq, true_and]
  omega
theorem clique_pos (hn : e.length ≤ 60) {p : Nat} (hp : p < (ordOf (spansC e)).length) : ahN e (ordOf (spansC e))[p] = p := by
  have hlen : (ordOf (spansC e)).length = e.length := by rw [ordOf_length, spansC_length]
  have hm : ∀ i ∈ ordOf (spansC e), i < e.length := fun i hi => by have := ordOf_mem.1 hi; rwa [spansC_length] at this
  have hperm : (ordOf (spansC e)).Perm (List.range e.length) := by have := ordOf_perm (spansC e); rwa [spansC_length] at this
  have hkl : (ordOf (spansC e))[p] < e.length := hm _ (List.getElem_mem hp)
  unfold ahN
  rw [← (hperm.filter _).length_eq]
  have hs := ordOf_sorted (spansC e)
  have hnd := ordOf_nodup (l := spansC e)
  obtain ⟨ord, hord⟩ : ∃ ord, ord = ordOf (spansC e) := ⟨_, rfl⟩
  simp only [← hord] at hp hm hkl hs hnd ⊢
  rw [List.pairwise_iff_getElem] at hs
  have hnd' := hnd
  unfold List.Nodup at hnd'
  rw [List.pairwise_iff_getElem] at hnd'
  have key : ∀ j (hj : j < ord.length), ahB e ord[p] ord[j] = decide (j < p) := fun j hj => by
    have hjl : ord[j] < e.length := hm _ (List.getElem_mem hj)
    rw [Bool.eq_iff_iff, ← clique_lt hkl hjl, decide_eq_true_eq]
    constructor
    · intro h
      rcases Nat.lt_trichotomy j p with h1 | h1 | h1
      · exact h1
      · exfalso
        subst h1
        rw [cmp3_lt] at h
        omega
      · exfalso
        exact leq_iff.1 (hs p j hp hj h1) h
    · intro h
      have h1 := hs j p hj hp h
      rw [leq_iff] at h1
      apply Classical.byContradiction
      intro h2
      have h3 := hnd' j p hj hp h
      rw [clique_lt hkl hjl] at h2
      rw [clique_lt hjl hkl] at h1
      unfold ahB at h1 h2
      simp only [Bool.or_eq_true, Bool.and_eq_true, decide_eq_true_eq] at h1 h2
      omega
  have e2 : ord = (List.range ord.length).map fun j => ord.getD j 0 := by
    apply List.ext_getElem (by simp)
    intro j a b
    simp [List.getD_eq_getElem?_getD, a]
  obtain ⟨kk, hkk⟩ : ∃ kk, kk = ord[p] := ⟨_, rfl⟩
  rw [← hkk] at key ⊢
  clear hkk hkl
  rw [e2, List.filter_map, List.length_map]
  have e3 : (List.range ord.length).filter ((ahB e kk) ∘ fun j => ord.getD j 0) = (List.range ord.length).filter fun j => decide (j < p) := by
    apply List.filter_congr
    intro j hj
    have hj' := List.mem_range.1 hj
    simp only [Function.comp]
    rw [List.getD_eq_getElem?_getD, List.getElem?_eq_getElem hj']
    exact key j hj'
  rw [e3]
  have e4 : ∀ n p : Nat, p ≤ n → ((List.range n).filter fun j => decide (j < p)).length = p := by
    intro n
    induction n with
    | zero => intro p hp; simp; omega
    | succ n ih =>
      intro p hp
      rw [List.range_succ, List.filter_append, List.length_append]
      by_cases h : p ≤ n
      · rw [ih p h]
        simp [show ¬ n < p by omega]
      · obtain rfl : p = n + 1 := by omega
        have e5 : (List.range n).filter (fun j => decide (j < n + 1)) = (List.range n).filter (fun j => decide (j < n)) := by
          apply List.filter_congr
          intro j hj
          have := List.mem_range.1 hj
          rw [decide_eq_true (show j < n + 1 by omega), decide_eq_true this]
        rw [e5, ih n (Nat.le_refl _)]
        simp
  exact e4 _ _ (by omega)
theorem clique_all (hn : e.length ≤ 60) {regs : Nat} (hr : regs ≤ 16) : (HS regs (spansC e)).sl = e.length - regs ∧ ∀ i, i < e.length → ((HS regs (spansC e)).hr i = -1 ↔ regs ≤ ahN e i) := by
  have hlen : (ordOf (spansC e)).length = e.length := by rw [ordOf_length, spansC_length]
  have hm : ∀ i ∈ ordOf (spansC e), i < e.length := fun i hi => by have := ordOf_mem.1 hi; rwa [spansC_length] at this
  have h := Scan.clique_run (F := fF (spansC e)) (T := fT (spansC e)) (R := fR (spansC e)) hr (ordOf (spansC e)) [] Scan.st0 (by simp [Scan.st0]) (by simp [Scan.st0]) (by simp [Scan.st0]) (fun i hi j hj => by
    have hi' := hm i (by simpa using hi)
    have hj' := hm j (by simpa using hj)
    unfold fF fT
    rw [spansC_rd hi', spansC_rd hj']
    exact (cT_range e i).1) (by simpa using ordOf_nodup) (by
    have hs := ordOf_sorted (spansC e)
    have hnd := ordOf_nodup (l := spansC e)
    unfold List.Nodup at hnd
    rw [List.nil_append, List.pairwise_iff_getElem]
    rw [List.pairwise_iff_getElem] at hs hnd
    intro i j hi hj hij
    have h1 := hs i j hi hj hij
    have h2 := hnd i j hi hj hij
    have hil := hm _ (List.getElem_mem hi)
    have hjl := hm _ (List.getElem_mem hj)
    rw [leq_iff, clique_lt hil hjl] at h1
    rw [Scan.gt_iff]
    unfold fT fR
    rw [spansC_rd hil, spansC_rd hjl]
    unfold ahB at h1
    simp only [Bool.or_eq_true, Bool.and_eq_true, decide_eq_true_eq] at h1
    show _ < _ ∨ _ = _ ∧ _ < _
    dsimp only
    omega) (by simp)
  rw [List.nil_append] at h
  refine ⟨by rw [← hlen]; exact h.1, fun i hi => ?_⟩
  have hmem : i ∈ ordOf (spansC e) := ordOf_mem.2 (by rw [spansC_length]; exact hi)
  obtain ⟨p, hp, rfl⟩ := List.mem_iff_getElem.1 hmem
  rw [clique_pos hn hp]
  have h2 := h.2 p hp
  exact h2
end
theorem clique_l2 {e : List Int} (hn : e.length ≤ 60) {regs i F : Nat} (hi : i < e.length) (hF : ∀ k, F < k → swagelaw26_ScanClique.l1 k (regs : Int) true (spansC e) (homesRow regs (spansC e)) ((i + 1 : Nat) : Int) = some true) (hR : (HS regs (spansC e)).hr i = -1 ↔ regs ≤ ahN e i) :
    ∀ m k q (c : Nat), e.length - q = m → q ≤ e.length → F + m + 1 < k → c = ((List.range q).filter (ahB e i)).length → swagelaw26_ScanClique.l2 k (regs : Int) true (spansC e) (homesRow regs (spansC e)) (i : Int) (c : Int) (q : Int) = some true
  | 0, k + 1, q, c, h1, h2, h3, h4 => by
    obtain rfl : q = e.length := by omega
    have hc : c = ahN e i := h4
    have hd : ((((HS regs (spansC e)).hr i == -1) != decide ((c : Int) ≥ (regs : Int))) = true) = False := by
      rw [eq_iff_iff, iff_false, Bool.not_eq_true, bne_eq_false_iff_eq, Bool.eq_iff_iff, beq_iff_eq, decide_eq_true_eq, hR, hc]
      omega
    simp only [swagelaw26_ScanClique.l2]
    rw [spansC_length, homesRow_length, spansC_length, if_neg (by omega), if_pos (by omega), if_pos (by omega), homesRow_rd (by rw [spansC_length]; exact hi), succ64 hi (by omega)]
    dsimp only
    rw [if_neg (by rw [hd]; exact not_false)]
    exact hF k (by omega)
  | m + 1, k + 1, q, c, h1, h2, h3, h4 => by
    have hq : q < e.length := by omega
    have ih := clique_l2 hn hi hF hR m k (q + 1)
    have hcl : c ≤ q := by
      rw [h4]
      have := List.length_filter_le (ahB e i) (List.range q)
      rwa [List.length_range] at this
    have hc1 : wrap64 ((c : Int) + 1) = ((c + 1 : Nat) : Int) := by unfold wrap64; omega
    have hs : ((List.range (q + 1)).filter (ahB e i)).length = c + (if ahB e i q = true then 1 else 0) := by
      rw [List.range_succ, List.filter_append, List.length_append, ← h4]
      by_cases h : ahB e i q = true
      · simp [h]
      · simp [h]
    simp only [swagelaw26_ScanClique.l2]
    rw [spansC_length, if_pos (by omega), if_pos (by omega), if_pos (by omega), if_pos (by omega), spansC_rd hi, spansC_rd hq, succ64 hq (by omega), hc1]
    dsimp only
    by_cases a1 : cT e q < cT e i
    · rw [if_pos a1]
      have : ahB e i q = true := by unfold ahB; simp [a1]
      exact ih (c + 1) (by omega) (by omega) (by omega) (by rw [hs, if_pos this])
    · rw [if_neg a1]
      by_cases a2 : cT e q = cT e i
      · rw [if_pos a2]
        by_cases a3 : (q : Int) < (i : Int)
        · rw [if_pos a3]
          have : ahB e i q = true := by unfold ahB; simp [a2]; omega
          exact ih (c + 1) (by omega) (by omega) (by omega) (by rw [hs, if_pos this])
        · rw [if_neg a3]
          have : ¬ ahB e i q = true := by unfold ahB; simp [a2]; omega
          exact ih c (by omega) (by omega) (by omega) (by rw [hs, if_neg this]; rfl)
      · rw [if_neg a2]
        have : ¬ ahB e i q = true := by unfold ahB; simp [a1, a2]
        exact ih c (by omega) (by omega) (by omega) (by rw [hs, if_neg this]; rfl)
theorem clique_l1 {e : List Int} (hn : e.length ≤ 60) {regs : Nat} (hr : regs ≤ 16) : ∀ m k i, e.length - i = m → i ≤ e.length → m * 64 + 100 < k → swagelaw26_ScanClique.l1 k (regs : Int) true (spansC e) (homesRow regs (spansC e)) (i : Int) = some true
  | 0, k + 1, i, h1, h2, h3 => by
    simp only [swagelaw26_ScanClique.l1]
    rw [homesRow_length, spansC_length, if_neg (by omega), if_pos trivial, slots_homes (spansC_rgt hn) hr k (by rw [spansC_length]; omega)]
    simp only [Option.bind_some, Option.some.injEq, beq_iff_eq]
    rw [(clique_all hn hr).1, mx_max, w64 (by constructor <;> omega)]
    omega
  | m + 1, k + 1, i, h1, h2, h3 => by
    have hi : i < e.length := by omega
    have cont : ∀ k, m * 64 + 100 < k → swagelaw26_ScanClique.l1 k (regs : Int) true (spansC e) (homesRow regs (spansC e)) ((i + 1 : Nat) : Int) = some true := fun k hk => clique_l1 hn hr m k (i + 1) (by omega) (by omega) hk
    simp only [swagelaw26_ScanClique.l1]
    rw [homesRow_length, spansC_length, if_pos (by omega)]
    exact clique_l2 hn hi cont ((clique_all hn hr).2 i hi) e.length k 0 0 rfl (Nat.zero_le _) (by omega) (by simp)
theorem clique_l0 {e : List Int} (hn : e.length ≤ 60) {regs : Nat} (hr : regs ≤ 16) : ∀ m k i, e.length - i = m → i ≤ e.length → m + 5000 < k → swagelaw26_ScanClique.l0 k e (regs : Int) true ((List.range i).map fun i : Nat => (⟨(i : Int) + 1, 5, cT e i⟩ : S38)) (i : Int) = some true
  | 0, k + 1, i, h1, h2, h3 => by
    obtain rfl : i = e.length := by omega
    obtain ⟨k, rfl⟩ : ∃ k', k = k' + 1 := ⟨k - 1, by omega⟩
    have hf : scan_Homes.f (spansC e) (regs : Int) = some (homesRow regs (spansC e), 0) := by
      have := homes_f (l := spansC e) (a1 := (regs : Int)) (spansC_rgt hn) (by omega) (by omega)
      rwa [Int.toNat_natCast] at this
    simp only [swagelaw26_ScanClique.l0]
    rw [if_neg (by omega), show ((List.range e.length).map fun i : Nat => (⟨(i : Int) + 1, 5, cT e i⟩ : S38)) = spansC e from rfl, hf]
    simp only [Option.bind_some, if_pos]
    rw [homesRow_length]
    simp only [bne_self_eq_false, swagelaw26_ScanClique.j2, Bool.false_eq_true, if_false]
    exact clique_l1 hn hr e.length k 0 rfl (Nat.zero_le _) (by omega)
  | m + 1, k + 1, i, h1, h2, h3 => by
    have hi : i < e.length := by omega
    have ih := clique_l0 hn hr m k (i + 1) (by omega) (by omega) (by omega)
    have hr2 := cT_range e i
    have hw : wrap64 (5 + (Go.bits .and .i64 (rd e (i : Int)) 255)) = cT e i := w64 (show i64 (cT e i) by constructor <;> omega)
    simp only [swagelaw26_ScanClique.l0]
    rw [if_pos (by omega), if_pos (by omega), if_pos (by simp; omega), succ64 hi (by omega), hw]
    rw [spansC_take e hi] at ih
    exact ih
theorem clique_law (k : Nat) (hk : 5100 ≤ k) (l : List Int) (a1 : Int) : swagelaw26_ScanClique.f (k + 1) l a1 = some true := by
  have hj : swagelaw26_ScanClique.j0 (k + 1) l a1 true true = some true := by
    simp only [swagelaw26_ScanClique.j0]
    rfl
  unfold swagelaw26_ScanClique.f swagelaw26_small.f
  simp only [Option.bind_some]
  by_cases c0 : (l.length : Int) > 40
  · rw [if_pos c0]; exact hj
  rw [if_neg c0]
  by_cases c1 : a1 < 0
  · rw [if_pos c1]; exact hj
  rw [if_neg c1]
  by_cases c2 : a1 > 16
  · rw [decide_eq_true c2]; exact hj
  rw [decide_eq_false c2]
  clear hj
  obtain ⟨r, rfl⟩ := Int.eq_ofNat_of_zero_le (show 0 ≤ a1 by omega)
  simp only [swagelaw26_ScanClique.j0, Bool.false_eq_true, if_false]
  exact clique_l0 (by omega) (by omega) l.length k 0 rfl (Nat.zero_le _) (by omega)
end Go.Proofs.Ytncpgclcbdgndaa.S
