import Derived.Test.YtncpgclcbdgndaaLfit
import Derived.Test.YtncpgclcbdgndaaLcomp
import Derived.Test.YtncpgclcbdgndaaS11
namespace Go.Proofs.Ytncpgclcbdgndaa.S
open Go.RowKit Go.Proofs.YtncpgclcbdgndaaW.PrintWords Go.Proofs.YtncpgclcbdgndaaW.PrintLast Go.Proofs.YtncpgclcbdgndaaW.PrintMore
set_option linter.unusedVariables false
/-! ### ScanKeeps -/
section
variable {l : List S38} {regs : Nat}
theorem fits_homes (h : rgt l [] = true) (hr : regs ≤ 16) : fitsB l (homesRow regs l) (regs : Int) = true := by
  obtain ⟨p, hp⟩ := inv_all h hr
  unfold fitsB
  rw [homesRow_length, decide_eq_true rfl, Bool.true_and, List.all_eq_true]
  intro i hi
  have hil : i < l.length := by
    rw [List.mem_range'] at hi
    obtain ⟨j, hj, rfl⟩ := hi
    omega
  unfold fitRow
  rw [Bool.and_eq_true]
  constructor
  · rw [homesRow_rd hil]
    unfold homeB
    have h1 := hp.dom i (ordOf_mem.2 hil)
    rcases h1 with ⟨a, b, c⟩ | ⟨a, b, c⟩
    · have a' : (HS regs l).hr i = -1 := a
      rw [if_pos a']
      exact decide_eq_true b
    · rw [if_neg (show ¬ (HS regs l).hr i = -1 by omega)]
      simp only [Bool.and_eq_true, decide_eq_true_eq, beq_iff_eq]
      exact ⟨⟨a, b⟩, c⟩
  · rw [List.all_eq_true]
    intro q hq
    have hqi : q < i := by
      rw [List.mem_range'] at hq
      obtain ⟨j, hj, rfl⟩ := hq
      omega
    unfold okB sameB
    rw [homesRow_rd hil, homesRow_rd (show q < l.length by omega)]
    simp only [Bool.not_eq_true', Bool.and_eq_false_iff, beq_eq_false_iff_ne]
    by_cases e0 : (HS regs l).hr q = (HS regs l).hr i
    · by_cases e1 : (HS regs l).hs q = (HS regs l).hs i
      · right
        have h1 := hp.dom i (ordOf_mem.2 hil)
        rcases h1 with ⟨a, b, c⟩ | ⟨a, b, c⟩
        · exact absurd e1 (hp.slots q (ordOf_mem.2 (by omega)) i (ordOf_mem.2 hil) (by omega) (by rw [e0]; exact a) a)
        · have h2 := hp.fit q (ordOf_mem.2 (by omega)) i (ordOf_mem.2 hil) (by omega) (by rw [e0]; exact a) e0
          unfold crossB
          unfold fF fT at h2
          simp only [Bool.and_eq_false_iff, decide_eq_false_iff_not]
          omega
      · left; right; exact e1
    · left; left; exact e0
theorem keeps_loop (h : rgt l [] = true) (hr : regs ≤ 16) (hl : l.length ≤ 60) : ∀ (m k i : Nat) (seen : List Bool), l.length - i = m → i ≤ l.length → m + 100 < k → seen.length = l.length + 1 → (∀ v : Nat, seen.getD v false = true → ∃ q, q < i ∧ (HS regs l).hr q = -1 ∧ (HS regs l).hs q = (v : Int)) →
    swagelaw26_ScanKeeps.l0 k l (regs : Int) true (homesRow regs l) ((HS regs l).sl : Int) seen (i : Int) = some true
  | 0, k + 1, i, seen, h1, h2, h3, h4, h5 => by
    obtain ⟨p, hp⟩ := inv_all h hr
    have hu : (Lib.compact (srt (used (homesRow regs l)))).length ≤ regs := by
      obtain ⟨c1, c2⟩ := compact_srt (used (homesRow regs l))
      refine strict_le c1 fun x hx => ?_
      rw [c2] at hx
      unfold used at hx
      obtain ⟨y, hy, rfl⟩ := List.mem_map.1 hx
      obtain ⟨hy1, hy2⟩ := List.mem_filter.1 hy
      simp only [decide_eq_true_eq] at hy2
      obtain ⟨i, hi, rfl⟩ := homesRow_mem hy1
      have hy2 : 0 ≤ (HS regs l).hr i := hy2
      have h6 := hp.dom i (ordOf_mem.2 hi)
      refine ⟨hy2, ?_⟩
      show (HS regs l).hr i < _
      rcases h6 with ⟨a, _⟩ | ⟨_, b, _⟩
      · have a' : (HS regs l).hr i = -1 := a
        omega
      · exact b
    have huf : scan_Used.f (homesRow regs l) = some (Lib.compact (srt (used (homesRow regs l)))) := by
      unfold scan_Used.f
      rw [if_pos (by rw [homesRow_length]; omega)]
    simp only [swagelaw26_ScanKeeps.l0]
    rw [homesRow_length, if_neg (by omega), if_pos trivial, most_f l (by omega) k (by omega), huf]
    simp only [Option.bind_some]
    have hfin : decide (((Lib.compact (srt (used (homesRow regs l)))).length : Int) ≤ (regs : Int)) = true := decide_eq_true (by omega)
    rw [hfin]
    by_cases c1 : mostOf l > (regs : Int)
    · rw [if_pos c1]
    · rw [if_neg c1]
      have h7 := Scan.spill_cover (F := fF l) (T := fT l) (R := fR l) hr (L := List.range l.length) (fun i hi => List.mem_range.2 (ordOf_mem.1 hi)) (fun k hk => (rgt_at h (ordOf_mem.1 hk)).2.2) ordOf_nodup ordOf_F (fun a ha b hb hab => rgt_inj h (ordOf_mem.1 ha) (ordOf_mem.1 hb) hab)
      rcases h7 with h7 | ⟨q, hq, h7⟩
      · have h8 : (HS regs l).sl = 0 := h7
        rw [h8, if_pos (by decide)]
      · exfalso
        apply c1
        rw [← ats_cover] at h7
        have hql := ordOf_mem.1 hq
        obtain ⟨_, h9⟩ := most_ge (fun s : S38 => ((ats l s.f1).length : Int)) l 0
        have h10 := h9 (rd_T38 l (q : Int)) (by rw [rd38 hql]; exact List.getElem_mem hql)
        have h11 : ((ats l (fF l q)).length : Int) ≤ mostOf l := h10
        omega
  | m + 1, k + 1, i, seen, h1, h2, h3, h4, h5 => by
    obtain ⟨p, hp⟩ := inv_all h hr
    have hil : i < l.length := by omega
    have ih := keeps_loop h hr hl m k (i + 1)
    simp only [swagelaw26_ScanKeeps.l0]
    rw [homesRow_length, if_pos (by omega), if_pos (by omega), homesRow_rd hil, succ64 hil (by omega)]
    simp only
    by_cases c1 : (HS regs l).hr i = -1
    · have h6 : (0 : Int) ≤ (HS regs l).hs i ∧ (HS regs l).hs i < ((HS regs l).sl : Int) := by
        rcases hp.dom i (ordOf_mem.2 hil) with ⟨_, a, b⟩ | ⟨a, _, _⟩
        · exact ⟨a, b⟩
        · have a' : 0 ≤ (HS regs l).hr i := a
          omega
      have h7 := sl_le h hr
      rw [if_pos c1, if_neg (show ¬ (HS regs l).hs i ≥ ((HS regs l).sl : Int) by omega), if_pos h6.1, if_pos (show (HS regs l).hs i < (seen.length : Int) by rw [h4]; omega)]
      have h8 : ¬ rdOf false seen ((HS regs l).hs i) = true := fun hh => by
        unfold rdOf at hh
        obtain ⟨q, hq, h9, h10⟩ := h5 _ hh
        exact hp.slots q (ordOf_mem.2 (by omega)) i (ordOf_mem.2 hil) (by omega) h9 c1 (by rw [h10]; omega)
      rw [if_neg h8]
      refine ih _ (by omega) (by omega) (by omega) (by rw [List.length_set]; exact h4) fun v hv => ?_
      rw [List.getD_eq_getElem?_getD, List.getElem?_set] at hv
      by_cases hvv : ((HS regs l).hs i).toNat = v
      · exact ⟨i, by omega, c1, by omega⟩
      · rw [if_neg hvv, ← List.getD_eq_getElem?_getD] at hv
        obtain ⟨q, hq, h9⟩ := h5 v hv
        exact ⟨q, by omega, h9⟩
    · rw [if_neg c1]
      refine ih _ (by omega) (by omega) (by omega) h4 fun v hv => ?_
      obtain ⟨q, hq, h9⟩ := h5 v hv
      exact ⟨q, by omega, h9⟩
end
theorem bind_of {α β : Type} {x : Option α} {a : α} {f : α → Option β} {b : Option β} (h : x = some a) (hf : f a = b) : x.bind f = b := by
  subst h
  exact hf
theorem keeps_law (k : Nat) (hk : 4998 ≤ k) (l : List S38) (a1 : Int) : swagelaw26_ScanKeeps.f (k + 2) l a1 = some true := by
  have hj : swagelaw26_ScanKeeps.j0 (k + 2) l a1 true true = some true := by
    simp only [swagelaw26_ScanKeeps.j0]
    rfl
  unfold swagelaw26_ScanKeeps.f swagelaw26_small.f
  simp only [Option.bind_some]
  by_cases c0 : (l.length : Int) > 60
  · rw [if_pos c0]; exact hj
  rw [if_neg c0]
  by_cases c1 : a1 < 0
  · rw [if_pos c1]; exact hj
  rw [if_neg c1]
  by_cases c2 : a1 > 16
  · rw [if_pos c2]; exact hj
  rw [if_neg c2]
  unfold scan_Right.f
  simp only [Option.bind_some]
  cases h : rgt l [] with
  | false => exact hj
  | true =>
    obtain ⟨r, rfl⟩ := Int.eq_ofNat_of_zero_le (show 0 ≤ a1 by omega)
    have hr : r ≤ 16 := by omega
    clear hj
    simp only [swagelaw26_ScanKeeps.j0, Bool.not_true, Bool.false_eq_true, if_false]
    rw [homes_f h (by omega) (by omega)]
    simp only [Option.bind_some, if_pos, Int.toNat_natCast]
    rw [homesRow_length, if_pos rfl, fits_f l _ _ (by rw [homesRow_length]; omega) _ (by omega), fits_homes h hr]
    simp only [Option.bind_some, Bool.not_true]
    simp only [swagelaw26_ScanKeeps.j1, Bool.false_eq_true, if_false]
    refine bind_of (slots_homes h hr _ (by omega)) ?_
    have hw : wrap64 ((l.length : Int) + 1) = ((l.length + 1 : Nat) : Int) := by unfold wrap64; omega
    have hw1 : (0 : Int) ≤ ((l.length + 1 : Nat) : Int) := Int.natCast_nonneg _
    have hw2 : l.length + 1 ≤ 281474976710656 := by omega
    rw [hw, if_pos hw1, Int.toNat_natCast, if_pos hw2]
    refine keeps_loop h hr (by omega) l.length k 0 _ rfl (Nat.zero_le _) (by omega) (by simp) fun v hv => ?_
    rw [List.getD_eq_getElem?_getD, List.getElem?_replicate] at hv
    split at hv <;> simp at hv
end Go.Proofs.Ytncpgclcbdgndaa.S
