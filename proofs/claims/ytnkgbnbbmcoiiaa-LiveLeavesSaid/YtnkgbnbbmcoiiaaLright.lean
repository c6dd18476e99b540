import Derived.Test.YtnkgbnbbmcoiiaaOright
import Derived.Test.YtnkgbnbbmcoiiaaOover
import Derived.Test.YtnkgbnbbmcoiiaaOm2
import Derived.Test.YtnkgbnbbmcoiiaaLv2
namespace Go.Proofs.Ytnkgbnbbmcoiiaa.S
open Go.RowKit
set_option linter.unusedVariables false
set_option linter.unusedSimpArgs false
/-! ### What a right function is -/
/-- A function, as far as live registers want it. -/
def gOf (bs : List S43) : Lv.G := ⟨bs.length, opLen bs, fun i k => useX (opOf bs (i, k)), fun i k => setX (opOf bs (i, k)), fun i => tuseT (rd_T43 bs (i : Int)).f1, fun i => succT (rd_T43 bs (i : Int)).f1⟩
theorem fld_reg {n : Int} {b : Bool} (h : fld n b = true) : b = true → 1 ≤ n ∧ n ≤ 4096 := by
  intro hb
  unfold fld at h
  rw [if_pos hb] at h
  simpa [isReg, wi] using h
theorem ropX_parts {x : S45} {fn : Int} (h : ropX x fn = true) : (shp x.f0).2.2.2.2 = true ∧ fld x.f1 (shp x.f0).1 = true ∧ fld x.f2 (shp x.f0).2.1 = true ∧ fld x.f3 (shp x.f0).2.2.1 = true ∧ imB x fn = true ∧ (x.f0 = 7 → (x.f5.length : Int) ≤ 8 ∧ ∀ r ∈ x.f5, 1 ≤ r ∧ r ≤ 4096) ∧ (x.f0 ≠ 7 → x.f5 = []) := by
  unfold ropX ropB at h
  simp only [Bool.and_eq_true] at h
  obtain ⟨h1, h2, h3, h4, h5, h6⟩ := h
  refine ⟨h1, h2, h3, h4, h5, fun h7 => ?_, fun h7 => ?_⟩
  · rw [if_pos h7, Bool.and_eq_true, decide_eq_true_eq, List.all_eq_true] at h6
    exact ⟨h6.1, fun r hr => by simpa [isReg, wi] using h6.2 r hr⟩
  · rw [if_neg h7, beq_iff_eq] at h6
    exact List.eq_nil_of_length_eq_zero (by omega)
theorem ropX_args {x : S45} {fn : Int} (h : ropX x fn = true) : x.f5.length ≤ 8 := by
  obtain ⟨_, _, _, _, _, h6, h7⟩ := ropX_parts h
  by_cases hk : x.f0 = 7
  · have := (h6 hk).1; omega
  · rw [h7 hk]; exact Nat.zero_le _
theorem ropX_use {x : S45} {fn : Int} (h : ropX x fn = true) : ∀ r ∈ useX x, 1 ≤ r ∧ r ≤ 4096 := by
  obtain ⟨_, _, h3, h4, _, h6, _⟩ := ropX_parts h
  intro r hr
  unfold useX at hr
  simp only [List.mem_append] at hr
  rcases hr with (hr | hr) | hr
  · split at hr
    · rename_i hb
      rw [List.mem_singleton.1 hr]; exact fld_reg h3 hb
    · cases hr
  · split at hr
    · rename_i hb
      rw [List.mem_singleton.1 hr]; exact fld_reg h4 hb
    · cases hr
  · split at hr
    · rename_i hk
      exact (h6 hk).2 r hr
    · cases hr
structure RightP (p : Int) (bs : List S43) (fn : Int) : Prop where mk ::
  len : 1 ≤ bs.length ∧ bs.length ≤ 4096
  par : 0 ≤ p ∧ p ≤ 8
  term : ∀ i, i < bs.length → rtT (rd_T43 bs (i : Int)).f1.f0 (rd_T43 bs (i : Int)).f1.f1 (rd_T43 bs (i : Int)).f1.f2 (rd_T43 bs (i : Int)).f1.f3 (bs.length : Int) = true
  few : (plcs bs bs.length).length ≤ 16384
  op : ∀ i k, i < bs.length → k < opLen bs i → ropX (opOf bs (i, k)) fn = true
theorem rightF_iff {p : Int} {bs : List S43} {fn : Int} (h : rightF p bs fn = true) : RightP p bs fn := by
  unfold rightF at h
  simp only [Bool.and_eq_true, wi, decide_eq_true_eq, List.all_eq_true] at h
  obtain ⟨h1, h2, h3, h4, h5⟩ := h
  unfold termsR at h3
  rw [List.all_eq_true] at h3
  refine ⟨⟨by omega, by omega⟩, h2, fun i hi => ?_, h4, fun i k hi hk => h5 (i, k) (mem_plcs.2 ⟨hi, hk⟩)⟩
  rw [rd43' hi]
  exact h3 _ (List.getElem_mem hi)
theorem rtT_succ {k a t e : Int} {n : Nat} (hn : 1 ≤ n ∧ n ≤ 4096) (h : rtT k a t e (n : Int) = true) : ∀ q ∈ succT ⟨k, a, t, e⟩, 0 ≤ q ∧ q < (n : Int) := by
  have hw : wrap64 ((n : Int) - 1) = (n : Int) - 1 := by unfold wrap64; omega
  unfold rtT at h
  unfold succT
  rw [hw] at h
  simp only
  intro q hq
  by_cases h2 : k = 2
  · rw [if_neg (by omega), if_pos h2] at h
    rw [if_pos h2] at hq
    simp only [Bool.and_eq_true, wi, decide_eq_true_eq] at h
    simp only [List.mem_cons, List.not_mem_nil, or_false] at hq
    rcases hq with rfl | rfl <;> omega
  · by_cases h1 : k = 1
    · rw [if_pos h1] at h
      rw [if_neg h2, if_pos h1] at hq
      simp only [Bool.and_eq_true, wi, decide_eq_true_eq] at h
      rw [List.mem_singleton.1 hq]
      omega
    · rw [if_neg h2, if_neg h1] at hq
      cases hq
theorem rtT_tuse {k a t e b : Int} (h : rtT k a t e b = true) : ∀ q ∈ tuseT ⟨k, a, t, e⟩, 1 ≤ q ∧ q ≤ 4096 := by
  unfold rtT at h
  unfold tuseT
  simp only
  intro q hq
  by_cases h2 : k = 2
  · rw [if_neg (by omega), if_pos h2] at h
    rw [if_pos (.inl h2)] at hq
    simp only [Bool.and_eq_true, wi, decide_eq_true_eq] at h
    rw [List.mem_singleton.1 hq]
    exact h.2
  · by_cases h3 : k = 3
    · rw [if_neg (by omega), if_neg h2, if_pos h3] at h
      rw [if_pos (.inr h3)] at hq
      simp only [Bool.and_eq_true, wi, decide_eq_true_eq] at h
      rw [List.mem_singleton.1 hq]
      exact h.1
    · rw [if_neg (by simp [h2, h3])] at hq
      cases hq
section
variable {p : Int} {bs : List S43} {fn : Int}
theorem RightP.succ (h : RightP p bs fn) {i : Nat} (hi : i < bs.length) : ∀ q ∈ succT (rd_T43 bs (i : Int)).f1, 0 ≤ q ∧ q < (bs.length : Int) := rtT_succ h.len (h.term i hi)
theorem RightP.wf (h : RightP p bs fn) : Lv.Wf (gOf bs) := fun i hi t ht => h.succ hi t ht
theorem RightP.tuse (h : RightP p bs fn) {i : Nat} (hi : i < bs.length) : ∀ q ∈ tuseT (rd_T43 bs (i : Int)).f1, 1 ≤ q ∧ q ≤ 4096 := rtT_tuse (h.term i hi)
theorem RightP.tuseA (h : RightP p bs fn) (i : Nat) : ∀ q ∈ tuseT (rd_T43 bs (i : Int)).f1, 1 ≤ q ∧ q ≤ 4096 := by
  by_cases hi : i < bs.length
  · exact h.tuse hi
  · have : rd_T43 bs (i : Int) = z43 := by
      unfold rd_T43
      rw [List.getD_eq_getElem?_getD, Int.toNat_natCast, List.getElem?_eq_none (by omega)]
      rfl
    rw [this]
    intro q hq
    cases hq
theorem RightP.opA (h : RightP p bs fn) (q : Nat × Nat) : (∀ r ∈ useX (opOf bs q), 1 ≤ r ∧ r ≤ 4096) ∧ (opOf bs q).f5.length ≤ 8 := by
  by_cases hq : q.1 < bs.length ∧ q.2 < opLen bs q.1
  · have := h.op q.1 q.2 hq.1 hq.2
    exact ⟨ropX_use this, ropX_args this⟩
  · rw [opOf_far hq]
    exact ⟨fun r hr => (by cases hr), Nat.zero_le _⟩
theorem RightP.at_reg (h : RightP p bs fn) {r : Int} {i k : Nat} (ha : Lv.At (gOf bs) r i k) : 1 ≤ r ∧ r ≤ 4096 :=
  Lv.at_some (g := gOf bs) (Q := fun r => 1 ≤ r ∧ r ≤ 4096) (fun i k r hr => (h.opA (i, k)).1 r hr) (fun i r hr => h.tuseA i r hr) ha
theorem RightP.opLen_le (h : RightP p bs fn) (i : Nat) : opLen bs i ≤ 16384 := by
  by_cases hi : i < bs.length
  · obtain ⟨rest, hr⟩ := part_prefix hi (Nat.le_refl (opLen bs i))
    have := h.few
    rw [hr] at this
    simp [rowP] at this
    omega
  · unfold opLen
    have : rd_T43 bs (i : Int) = z43 := by
      unfold rd_T43
      rw [List.getD_eq_getElem?_getD, Int.toNat_natCast, List.getElem?_eq_none (by omega)]
      rfl
    rw [this]
    exact Nat.zero_le _
end
end Go.Proofs.Ytnkgbnbbmcoiiaa.S
