import Derived.Test.YtncpgclcbdgndaaOhomes
import Derived.Test.YtncpgclcbdgndaaS3
import Derived.Test.YtncpgclcbdgndaaS4
import Derived.Test.YtncpgclcbdgndaaS5
namespace Go.Proofs.Ytncpgclcbdgndaa.S
open Go.RowKit Go.Proofs.YtncpgclcbdgndaaW.PrintWords Go.Proofs.YtncpgclcbdgndaaW.PrintLast Go.Proofs.YtncpgclcbdgndaaW.PrintMore
set_option linter.unusedVariables false
/-! ### The document's next -/
theorem ahead_f (l : List S38) (i b : Nat) : swageref26_ahead.f ((rd_T38 l (i : Int)).f0) ((rd_T38 l (i : Int)).f1) ((rd_T38 l (i : Int)).f2) ((rd_T38 l (b : Int)).f0) ((rd_T38 l (b : Int)).f1) ((rd_T38 l (b : Int)).f2) = some (decide (cmp3 l i b < 0)) := by
  unfold swageref26_ahead.f
  split
  · split
    · congr 1
      rw [decide_eq_decide, cmp3_lt]
      omega
    · congr 1
      rw [decide_eq_decide, cmp3_lt]
      omega
  · congr 1
    rw [decide_eq_decide, cmp3_lt]
    omega
/-- Which is best so far. -/
def Best (l : List S38) (D : List Bool) (i : Nat) (b : Int) : Prop :=
  (b = -1 ∧ ∀ q, q < i → D.getD q false = true) ∨ (∃ b' : Nat, b = (b' : Int) ∧ b' < i ∧ ¬ D.getD b' false = true ∧ ∀ q, q < i → ¬ D.getD q false = true → ¬ cmp3 l q b' < 0)
theorem cmp3_trans {l : List S38} {a b c : Nat} (h1 : cmp3 l a b < 0) (h2 : ¬ cmp3 l c b < 0) : ¬ cmp3 l c a < 0 := by
  rw [cmp3_lt] at *
  omega
theorem cmp3_irrefl {l : List S38} {a : Nat} : ¬ cmp3 l a a < 0 := by
  rw [cmp3_lt]
  omega
theorem next_loop (l : List S38) (D : List Bool) (hD : D.length = l.length) (hn : l.length ≤ 4096) : ∀ (m k i : Nat) (b : Int), l.length - i = m → i ≤ l.length → m < k → Best l D i b → ∃ r, swageref26_next.l0 k l D b (i : Int) = some r ∧ Best l D l.length r
  | 0, k + 1, i, b, h1, h2, h3, h4 => by
    obtain rfl : i = l.length := by omega
    refine ⟨b, ?_, h4⟩
    simp only [swageref26_next.l0]
    rw [if_neg (by omega)]
  | m + 1, k + 1, i, b, h1, h2, h3, h4 => by
    have hi : i < l.length := by omega
    have hw : wrap64 ((i : Int) + 1) = ((i + 1 : Nat) : Int) := by unfold wrap64; omega
    have ih := next_loop l D hD hn m k (i + 1)
    simp only [swageref26_next.l0]
    rw [if_pos (by omega), if_pos (by omega), if_pos (by omega), hw]
    have hrd : rdOf false D (i : Int) = D.getD i false := by unfold rdOf; rw [Int.toNat_natCast]
    rw [hrd]
    by_cases c1 : D.getD i false = true
    · rw [if_pos c1]
      refine ih b (by omega) (by omega) (by omega) ?_
      rcases h4 with ⟨rfl, h4⟩ | ⟨b', rfl, hb, hd, h4⟩
      · refine .inl ⟨rfl, fun q hq => ?_⟩
        by_cases e : q = i
        · subst e; exact c1
        · exact h4 q (by omega)
      · refine .inr ⟨b', rfl, by omega, hd, fun q hq hqd => ?_⟩
        by_cases e : q = i
        · subst e; exact absurd c1 hqd
        · exact h4 q (by omega) hqd
    · rw [if_neg c1]
      rcases h4 with ⟨rfl, h4⟩ | ⟨b', rfl, hb, hd, h4⟩
      · rw [if_pos (by decide)]
        refine ih (i : Int) (by omega) (by omega) (by omega) (.inr ⟨i, rfl, by omega, c1, fun q hq hqd => ?_⟩)
        by_cases e : q = i
        · subst e; exact cmp3_irrefl
        · exact absurd (h4 q (by omega)) hqd
      · rw [if_neg (by omega), if_pos (by omega), if_pos (by omega), ahead_f]
        simp only [Option.bind_some, decide_eq_true_eq]
        by_cases c2 : cmp3 l i b' < 0
        · rw [if_pos c2]
          refine ih (i : Int) (by omega) (by omega) (by omega) (.inr ⟨i, rfl, by omega, c1, fun q hq hqd => ?_⟩)
          by_cases e : q = i
          · subst e; exact cmp3_irrefl
          · exact cmp3_trans c2 (h4 q (by omega) hqd)
        · rw [if_neg c2]
          refine ih (b' : Int) (by omega) (by omega) (by omega) (.inr ⟨b', rfl, by omega, hd, fun q hq hqd => ?_⟩)
          by_cases e : q = i
          · subst e; exact c2
          · exact h4 q (by omega) hqd
/-- The places gone over. -/
def Done (l : List S38) (j : Nat) (D : List Bool) : Prop := D.length = l.length ∧ ∀ q, q < l.length → (D.getD q false = true ↔ q ∈ (ordOf l).take j)
section
variable {l : List S38}
theorem next_f (h : rgt l [] = true) {j : Nat} (hj : j < (ordOf l).length) {D : List Bool} (hD : Done l j D) : swageref26_next.f (l.length + 1) l D = some (((ordOf l)[j] : Nat) : Int) := by
  unfold swageref26_next.f
  obtain ⟨r, h1, h2⟩ := next_loop l D hD.1 (rgt_len h) l.length (l.length + 1) 0 (-1) rfl (Nat.zero_le _) (by omega) (.inl ⟨rfl, fun q hq => by omega⟩)
  have h1 : swageref26_next.l0 (l.length + 1) l D (-1) 0 = some r := h1
  rw [h1]
  have hm : (ordOf l)[j] < l.length := ordOf_mem.1 (List.getElem_mem hj)
  have hnd := ordOf_nodup (l := l)
  have hno : ¬ D.getD (ordOf l)[j] false = true := fun hh => by
    have h3 := (hD.2 _ hm).1 hh
    rw [← List.take_append_drop j (ordOf l), List.nodup_append] at hnd
    exact hnd.2.2 _ h3 _ (by rw [List.drop_eq_getElem_cons hj]; exact List.mem_cons_self) rfl
  rcases h2 with ⟨_, h2⟩ | ⟨b, rfl, hb, hbd, h2⟩
  · exact absurd (h2 _ hm) hno
  · congr 2
    have h3 := h2 _ hm hno
    have hbo : b ∈ ordOf l := ordOf_mem.2 hb
    have hbt : b ∉ (ordOf l).take j := fun hh => hbd ((hD.2 b hb).2 hh)
    obtain ⟨q, hq, rfl⟩ := List.mem_iff_getElem.1 hbo
    have hjq : j ≤ q := by
      apply Classical.byContradiction
      intro hlt
      exact hbt (List.mem_take_iff_getElem.2 ⟨q, by omega, rfl⟩)
    rcases Nat.lt_or_eq_of_le hjq with h4 | h4
    · have hs := ordOf_sorted l
      rw [List.pairwise_iff_getElem] at hs
      have h5 := leq_iff.1 (hs j q hj hq h4)
      rw [cmp3_lt] at h3 h5
      apply Classical.byContradiction
      intro hne
      have h6 := rgt_inj h hb hm hne
      unfold fR at h6
      omega
    · subst h4; rfl
theorem Done.next {j : Nat} (hj : j < (ordOf l).length) {D : List Bool} (hD : Done l j D) : Done l (j + 1) (D.set (ordOf l)[j] true) := by
  refine ⟨by rw [List.length_set]; exact hD.1, fun q hq => ?_⟩
  rw [List.take_succ_eq_append_getElem hj, List.mem_append, List.mem_singleton, ← hD.2 q hq, List.getD_eq_getElem?_getD, List.getElem?_set]
  by_cases e : (ordOf l)[j] = q
  · rw [if_pos e, if_pos (by rw [hD.1, e]; exact hq)]
    simp [e]
  · rw [if_neg e, ← List.getD_eq_getElem?_getD]
    constructor
    · exact fun h => .inl h
    · rintro (h | h)
      · exact h
      · exact absurd h.symm e
/-- What holds, and from where on. -/
theorem inv_from (h : rgt l [] = true) {regs : Nat} (hr : regs ≤ 16) : ∀ (j : Nat) (hj : j < (ordOf l).length), ∃ p, p ≤ fF l (ordOf l)[j] ∧ Scan.Inv regs (fF l) (fT l) ((ordOf l).take j) p (Scan.homes regs (fF l) (fT l) (fR l) ((ordOf l).take j))
  | 0, hj => ⟨fF l (ordOf l)[0], Int.le_refl _, Scan.inv_start _ _ _ _⟩
  | j + 1, hj => by
    obtain ⟨p, hp, hI⟩ := inv_from h hr j (by omega)
    have hj' : j < (ordOf l).length := by omega
    have hm : ∀ q (hq : q < (ordOf l).length), (ordOf l)[q] < l.length := fun q hq => ordOf_mem.1 (List.getElem_mem hq)
    have hnd := ordOf_nodup (l := l)
    have hkt : (ordOf l)[j] ∉ (ordOf l).take j := fun hm => by
      rw [← List.take_append_drop j (ordOf l), List.nodup_append] at hnd
      exact hnd.2.2 _ hm _ (by rw [List.drop_eq_getElem_cons hj']; exact List.mem_cons_self) rfl
    have hI2 := Scan.inv_step (R := fR l) hI hr hkt hp (rgt_at h (hm j hj')).2.2 (fun a ha b hb hab => by
      have q : ∀ x ∈ (ordOf l)[j] :: (ordOf l).take j, x < l.length := fun x hx => by
        rcases List.mem_cons.1 hx with rfl | hx
        · exact hm j hj'
        · exact ordOf_mem.1 (List.mem_of_mem_take hx)
      exact rgt_inj h (q a ha) (q b hb) hab)
    have hF := ordOf_F (l := l)
    rw [List.pairwise_iff_getElem] at hF
    refine ⟨fF l (ordOf l)[j], hF j (j + 1) hj' hj (by omega), ?_⟩
    rw [homes_succ regs l hj', List.take_succ_eq_append_getElem hj']
    exact hI2
/-- Those that the document's loop counts. -/
def rS (l : List S38) (D : List Bool) (H : List S40) (k i : Nat) : List Nat := (List.range i).filter fun q => D.getD q false && (decide (0 ≤ h0 H q) && decide (fF l k ≤ fT l q))
theorem rS_succ (l : List S38) (D : List Bool) (H : List S40) (k i : Nat) : rS l D H k (i + 1) = rS l D H k i ++ (if (D.getD i false && (decide (0 ≤ h0 H i) && decide (fF l k ≤ fT l i))) = true then [i] else []) := by
  unfold rS
  rw [List.range_succ, List.filter_append]
  congr 1
  by_cases h : (D.getD i false && (decide (0 ≤ h0 H i) && decide (fF l k ≤ fT l i))) = true
  · simp only [List.filter_cons, h, if_pos, List.filter_nil]
  · simp only [List.filter_cons, h, List.filter_nil]
theorem rS_len (l : List S38) (D : List Bool) (H : List S40) (k i : Nat) : (rS l D H k i).length ≤ i := by
  have := List.length_filter_le (fun q => D.getD q false && (decide (0 ≤ h0 H q) && decide (fF l k ≤ fT l q))) (List.range i)
  rwa [List.length_range] at this
theorem rS_perm {regs j : Nat} (hj : j < (ordOf l).length) {D : List Bool} (hD : Done l j D) {H : List S40} {act : List Nat} {sl : Nat} {p : Int} (hp : p ≤ fF l (ordOf l)[j]) (hI : Scan.Inv regs (fF l) (fT l) ((ordOf l).take j) p ⟨act, h0 H, h1 H, sl⟩) :
    (rS l D H (ordOf l)[j] l.length).Perm (Scan.expire (fF l) (fT l) (ordOf l)[j] act) := by
  refine (List.perm_ext_iff_of_nodup (List.nodup_range.sublist List.filter_sublist) (hI.and.sublist List.filter_sublist)).2 fun i => ?_
  rw [List.mem_filter, List.mem_filter, List.mem_range]
  have ha := hI.acts i
  simp only at ha
  simp only [Bool.and_eq_true, decide_eq_true_eq]
  rw [ha]
  constructor
  · rintro ⟨h1, h2, h3, h4⟩
    exact ⟨⟨(hD.2 i h1).1 h2, h3, by unfold fF fT at *; omega⟩, h4⟩
  · rintro ⟨⟨h1, h2, h3⟩, h4⟩
    have hil : i < l.length := ordOf_mem.1 (List.mem_of_mem_take h1)
    exact ⟨hil, (hD.2 i hil).2 h1, h2, h4⟩
/-- The step, as the document takes it. -/
theorem core_perm {regs k : Nat} {T R : Nat → Int} {a S : List Nat} {s : Scan.St} (hp : S.Perm a) (hR : ∀ i ∈ k :: S, ∀ j ∈ k :: S, i ≠ j → R i ≠ R j) :
    ∃ act', Scan.core regs T R k a s = (if S.length < regs then ⟨act', Scan.upd s.hr k (Scan.free s.hr S), Scan.upd s.hs k 0, s.sl⟩ else if Scan.last T R S k = k then ⟨act', Scan.upd s.hr k (-1), Scan.upd s.hs k s.sl, s.sl + 1⟩ else ⟨act', Scan.upd (Scan.upd s.hr k (s.hr (Scan.last T R S k))) (Scan.last T R S k) (-1), Scan.upd (Scan.upd s.hs k 0) (Scan.last T R S k) s.sl, s.sl + 1⟩) := by
  have hm : ∀ i, i ∈ S ↔ i ∈ a := fun i => hp.mem_iff
  have h1 : Scan.last T R S k = Scan.last T R a k := Scan.last_perm hm hR
  have h2 : Scan.free s.hr S = Scan.free s.hr a := Scan.free_perm hm (fun _ _ => rfl)
  unfold Scan.core
  rw [hp.length_eq, h1, h2]
  by_cases c1 : a.length < regs
  · exact ⟨_, by rw [if_pos c1, if_pos c1]⟩
  · by_cases c2 : Scan.last T R a k = k
    · exact ⟨_, by rw [if_neg c1, if_neg c1, if_pos c2, if_pos c2]⟩
    · exact ⟨_, by rw [if_neg c1, if_neg c1, if_neg c2, if_neg c2]⟩
end
/-- Which registers are taken. -/
def tk2 (hr : Nat → Int) (S : List Nat) : List Bool := (List.range 16).map fun r : Nat => S.any fun i => hr i == (r : Int)
theorem tk2_length (hr : Nat → Int) (S : List Nat) : (tk2 hr S).length = 16 := by simp [tk2]
theorem tk2_set (hr : Nat → Int) (S : List Nat) (i r : Nat) (hr' : hr i = (r : Int)) : (tk2 hr S).set r true = tk2 hr (S ++ [i]) := by
  unfold tk2
  apply List.ext_getElem (by simp)
  intro q a b
  rw [List.getElem_set]
  simp only [List.getElem_map, List.getElem_range, List.any_append, List.any_cons, List.any_nil, Bool.or_false]
  by_cases e : r = q
  · subst e
    rw [if_pos rfl]
    simp [hr']
  · rw [if_neg e, show (hr i == (q : Int)) = false by rw [hr']; simp; omega, Bool.or_false]
theorem longer_f (l : List S38) (i b : Nat) : swageref26_longer.f ((rd_T38 l (i : Int)).f0) ((rd_T38 l (i : Int)).f1) ((rd_T38 l (i : Int)).f2) ((rd_T38 l (b : Int)).f0) ((rd_T38 l (b : Int)).f1) ((rd_T38 l (b : Int)).f2) = some (Scan.gt (fT l) (fR l) i b) := by
  unfold swageref26_longer.f Scan.gt fT fR
  split
  · rename_i h
    congr 1
    simp [h]
  · rename_i h
    split
    · rename_i h2
      congr 1
      simp [h2]
    · rename_i h2
      congr 1
      simp
      omega
def swageref26_Homes.f (l0 : List S38) (a1 : Int) : Option (List S40 × Int) := scan_Homes.f l0 a1
end Go.Proofs.Ytncpgclcbdgndaa.S
