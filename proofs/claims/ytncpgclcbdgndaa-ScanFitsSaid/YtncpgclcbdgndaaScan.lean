namespace Go.Scan
set_option linter.unusedVariables false
/-! ### The scan, in plain -/
def upd {α : Type} (f : Nat → α) (k : Nat) (v : α) : Nat → α := fun i => if i = k then v else f i
theorem upd_same {α : Type} (f : Nat → α) (k : Nat) (v : α) : upd f k v k = v := by simp [upd]
theorem upd_other {α : Type} (f : Nat → α) {k i : Nat} (v : α) (h : i ≠ k) : upd f k v i = f i := by simp [upd, h]
/-- i goes on longer than j. -/
def gt (T R : Nat → Int) (i j : Nat) : Bool := decide (T j < T i) || (decide (T i = T j) && decide (R j < R i))
/-- The one that goes on longest, of k and some. -/
def last (T R : Nat → Int) (a : List Nat) (k : Nat) : Nat := a.foldl (fun b i => if gt T R i b then i else b) k
/-- The least register that none of them has; -1: there is none. -/
def free (hr : Nat → Int) (a : List Nat) : Int :=
  match (List.range 16).find? (fun r : Nat => !a.any fun i => hr i == (r : Int)) with
  | some r => (r : Int)
  | none => -1
structure St where
  act : List Nat
  hr : Nat → Int
  hs : Nat → Int
  sl : Nat
def core (regs : Nat) (T R : Nat → Int) (k : Nat) (a : List Nat) (s : St) : St :=
  if a.length < regs then ⟨a ++ [k], upd s.hr k (free s.hr a), upd s.hs k 0, s.sl⟩
  else if last T R a k = k then ⟨a, upd s.hr k (-1), upd s.hs k s.sl, s.sl + 1⟩
  else ⟨(a ++ [k]).erase (last T R a k), upd (upd s.hr k (s.hr (last T R a k))) (last T R a k) (-1), upd (upd s.hs k 0) (last T R a k) s.sl, s.sl + 1⟩
def expire (F T : Nat → Int) (k : Nat) (a : List Nat) : List Nat := a.filter fun i => decide (F k ≤ T i)
def step (regs : Nat) (F T R : Nat → Int) (s : St) (k : Nat) : St := core regs T R k (expire F T k s.act) s
def st0 : St := ⟨[], fun _ => 0, fun _ => 0, 0⟩
def homes (regs : Nat) (F T R : Nat → Int) (ord : List Nat) : St := ord.foldl (step regs F T R) st0
/-! ### The longest -/
def IsLast (T R : Nat → Int) (L : List Nat) (m : Nat) : Prop := m ∈ L ∧ ∀ i ∈ L, i ≠ m → gt T R m i = true
theorem gt_iff {T R : Nat → Int} {i j : Nat} : gt T R i j = true ↔ T j < T i ∨ T i = T j ∧ R j < R i := by simp [gt]
theorem gt_false {T R : Nat → Int} {i j : Nat} : gt T R i j = false ↔ ¬ (T j < T i ∨ T i = T j ∧ R j < R i) := by rw [← gt_iff]; simp
theorem gt_asymm {T R : Nat → Int} {i j : Nat} (h : gt T R i j = true) (h' : gt T R j i = true) : False := by
  rw [gt_iff] at h h'
  omega
theorem gt_trans {T R : Nat → Int} {i j k : Nat} (h : gt T R i j = true) (h' : gt T R j k = true) : gt T R i k = true := by
  rw [gt_iff] at h h' ⊢
  omega
theorem gt_total {T R : Nat → Int} {i j : Nat} (h : R i ≠ R j) (h' : ¬ gt T R i j = true) : gt T R j i = true := by
  rw [gt_iff] at h' ⊢
  omega
theorem isLast_unique {T R : Nat → Int} {L L' : List Nat} {m m' : Nat} (h : IsLast T R L m) (h' : IsLast T R L' m') (hm : m ∈ L') (hm' : m' ∈ L) : m = m' := by
  apply Classical.byContradiction
  intro hne
  exact gt_asymm (h.2 m' hm' (Ne.symm hne)) (h'.2 m hm hne)
theorem last_spec {T R : Nat → Int} : ∀ (a : List Nat) (k : Nat), (∀ i ∈ k :: a, ∀ j ∈ k :: a, i ≠ j → R i ≠ R j) → IsLast T R (k :: a) (last T R a k)
  | [], k, _ => ⟨by simp [last], fun i hi hne => by simp at hi; simp [last] at hne; exact absurd hi hne⟩
  | x :: a, k, hR => by
    have hx : (if gt T R x k then x else k) ∈ k :: x :: a := by split <;> simp
    have ih := last_spec (T := T) (R := R) a (if gt T R x k then x else k) (fun i hi j hj => hR i (by rcases List.mem_cons.1 hi with rfl | h; exact hx; simp [h]) j (by rcases List.mem_cons.1 hj with rfl | h; exact hx; simp [h]))
    have e : last T R (x :: a) k = last T R a (if gt T R x k then x else k) := rfl
    rw [e]
    refine ⟨by rcases List.mem_cons.1 ih.1 with h | h; rw [h]; exact hx; simp [h], fun i hi hne => ?_⟩
    generalize hm : last T R a (if gt T R x k then x else k) = m at ih hne ⊢
    by_cases hg : gt T R x k = true
    · rw [if_pos hg] at ih
      rcases List.mem_cons.1 hi with rfl | hi
      · by_cases hxm : x = m
        · rw [← hxm]; exact hg
        · exact gt_trans (ih.2 x (by simp) hxm) hg
      · exact ih.2 i (by simpa using hi) hne
    · rw [if_neg hg] at ih
      rcases List.mem_cons.1 hi with rfl | hi
      · exact ih.2 i (by simp) hne
      · rcases List.mem_cons.1 hi with rfl | hi
        · by_cases hik : i = k
          · subst hik; exact ih.2 i (by simp) hne
          · have h1 : gt T R k i = true := gt_total (hR i (by simp) k (by simp) hik) hg
            by_cases hkm : k = m
            · rw [← hkm]; exact h1
            · exact gt_trans (ih.2 k (by simp) hkm) h1
        · exact ih.2 i (by simp [hi]) hne
theorem last_perm {T R : Nat → Int} {a b : List Nat} {k : Nat} (hab : ∀ i, i ∈ a ↔ i ∈ b) (hR : ∀ i ∈ k :: a, ∀ j ∈ k :: a, i ≠ j → R i ≠ R j) : last T R a k = last T R b k := by
  have hmem : ∀ i, i ∈ k :: a ↔ i ∈ k :: b := fun i => by simp [hab]
  have h1 := last_spec (T := T) a k hR
  have h2 := last_spec (T := T) b k (fun i hi j hj => hR i ((hmem i).2 hi) j ((hmem j).2 hj))
  exact isLast_unique h1 h2 ((hmem _).1 h1.1) ((hmem _).2 h2.1)
/-! ### The least free register -/
theorem free_perm {hr hr' : Nat → Int} {a b : List Nat} (hab : ∀ i, i ∈ a ↔ i ∈ b) (hh : ∀ i ∈ a, hr i = hr' i) : free hr a = free hr' b := by
  have e : ∀ r : Nat, (!a.any fun i => hr i == (r : Int)) = (!b.any fun i => hr' i == (r : Int)) := fun r => by
    congr 1
    rw [Bool.eq_iff_iff]
    simp only [List.any_eq_true, beq_iff_eq]
    exact ⟨fun ⟨i, hi, h⟩ => ⟨i, (hab i).1 hi, by rw [← hh i hi]; exact h⟩, fun ⟨i, hi, h⟩ => ⟨i, (hab i).2 hi, by rw [hh i ((hab i).2 hi)]; exact h⟩⟩
  unfold free
  rw [show (fun r : Nat => !a.any fun i => hr i == (r : Int)) = (fun r : Nat => !b.any fun i => hr' i == (r : Int)) from funext e]
/-- Fewer than m of them (m at most 16): one of the first m registers is free. -/
theorem free_lt {hr : Nat → Int} {a : List Nat} {m : Nat} (hm : a.length < m) (hm16 : m ≤ 16) : ∃ r : Nat, free hr a = (r : Int) ∧ r < m ∧ ∀ i ∈ a, hr i ≠ (r : Int) := by
  have key : ∃ r, r < m ∧ ∀ i ∈ a, hr i ≠ (r : Int) := by
    apply Classical.byContradiction
    intro hn
    have hall : ∀ r, r < m → ∃ i ∈ a, hr i = (r : Int) := fun r hr' => by
      apply Classical.byContradiction
      intro h
      exact hn ⟨r, hr', fun i hi he => h ⟨i, hi, he⟩⟩
    have hsub : (List.range m) ⊆ a.map (fun i => (hr i).toNat) := fun r hr' => by
      obtain ⟨i, hi, he⟩ := hall r (List.mem_range.1 hr')
      exact List.mem_map.2 ⟨i, hi, by rw [he]; simp⟩
    have hl := List.Nodup.length_le_of_subset List.nodup_range hsub
    simp at hl
    omega
  unfold free
  cases hf : (List.range 16).find? (fun r : Nat => !a.any fun i => hr i == (r : Int)) with
  | none =>
    obtain ⟨r, h1, h2⟩ := key
    have := List.find?_eq_none.1 hf r (List.mem_range.2 (by omega))
    simp only [Bool.not_eq_true', Bool.not_eq_true, Bool.not_eq_false', List.any_eq_true, beq_iff_eq, Bool.not_eq_false] at this
    obtain ⟨i, hi, he⟩ := this
    exact absurd he (h2 i hi)
  | some r =>
    rw [List.find?_range_eq_some] at hf
    obtain ⟨h1, h2, h3⟩ := hf
    obtain ⟨r', h1', h2'⟩ := key
    have hrr : r ≤ r' := by
      apply Classical.byContradiction
      intro hlt
      have := h3 r' (by omega)
      simp only [Bool.not_not, List.any_eq_true, beq_iff_eq] at this
      obtain ⟨i, hi, he⟩ := this
      exact h2' i hi he
    refine ⟨r, rfl, by omega, fun i hi he => ?_⟩
    simp only [Bool.not_eq_true', List.any_eq_false, beq_iff_eq] at h1
    exact h1 i hi he
/-! ### What holds all along -/
structure Inv (regs : Nat) (F T : Nat → Int) (P : List Nat) (p : Int) (s : St) : Prop where
  nd : P.Nodup
  acts : ∀ i, i ∈ s.act ↔ i ∈ P ∧ 0 ≤ s.hr i ∧ p ≤ T i
  and : s.act.Nodup
  len : s.act.length ≤ regs
  dom : ∀ i ∈ P, (s.hr i = -1 ∧ 0 ≤ s.hs i ∧ s.hs i < (s.sl : Int)) ∨ (0 ≤ s.hr i ∧ s.hr i < (regs : Int) ∧ s.hs i = 0)
  inj : ∀ i ∈ s.act, ∀ j ∈ s.act, i ≠ j → s.hr i ≠ s.hr j
  fit : ∀ i ∈ P, ∀ j ∈ P, i ≠ j → 0 ≤ s.hr i → s.hr i = s.hr j → T i < F j ∨ T j < F i
  slots : ∀ i ∈ P, ∀ j ∈ P, i ≠ j → s.hr i = -1 → s.hr j = -1 → s.hs i ≠ s.hs j
  all : ∀ v : Nat, v < s.sl → ∃ i ∈ P, s.hr i = -1 ∧ s.hs i = (v : Int)
  sl_le : s.sl ≤ P.length
theorem inv_start (regs : Nat) (F T : Nat → Int) (p : Int) : Inv regs F T [] p st0 :=
  ⟨by simp, by simp [st0], by simp [st0], by simp [st0], by simp, by simp [st0], by simp, by simp, by simp [st0], by simp [st0]⟩
theorem inv_step {regs : Nat} {F T R : Nat → Int} {P : List Nat} {p : Int} {s : St} {k : Nat} (h : Inv regs F T P p s) (hr16 : regs ≤ 16) (hk : k ∉ P) (hp : p ≤ F k) (hft : F k ≤ T k)
    (hR : ∀ i ∈ k :: P, ∀ j ∈ k :: P, i ≠ j → R i ≠ R j) : Inv regs F T (P ++ [k]) (F k) (step regs F T R s k) := by
  have hnd : (P ++ [k]).Nodup := by
    rw [List.nodup_append]
    exact ⟨h.nd, by simp, fun a ha b hb => by simp at hb; subst hb; intro e; subst e; exact hk ha⟩
  have hmem : ∀ i, i ∈ P ++ [k] ↔ i ∈ P ∨ i = k := fun i => by simp
  have hne : ∀ i, i ∈ P → i ≠ k := fun i hi e => hk (e ▸ hi)
  unfold step
  have ha : ∀ i, i ∈ expire F T k s.act ↔ i ∈ P ∧ 0 ≤ s.hr i ∧ F k ≤ T i := fun i => by
    unfold expire
    simp only [List.mem_filter, decide_eq_true_eq, h.acts]
    exact ⟨fun ⟨⟨h1, h2, _⟩, h4⟩ => ⟨h1, h2, h4⟩, fun ⟨h1, h2, h3⟩ => ⟨⟨h1, h2, by omega⟩, h3⟩⟩
  have hand : (expire F T k s.act).Nodup := h.and.sublist List.filter_sublist
  have hlen : (expire F T k s.act).length ≤ regs := Nat.le_trans (List.length_filter_le _ _) h.len
  have hsub : ∀ i, i ∈ expire F T k s.act → i ∈ s.act := fun i hi => (List.mem_filter.1 hi).1
  have hinj : ∀ i ∈ expire F T k s.act, ∀ j ∈ expire F T k s.act, i ≠ j → s.hr i ≠ s.hr j := fun i hi j hj => h.inj i (hsub i hi) j (hsub j hj)
  generalize expire F T k s.act = a at ha hand hlen hsub hinj
  have hka : k ∉ a := fun hka => hk ((ha k).1 hka).1
  unfold core
  by_cases hc : a.length < regs
  · rw [if_pos hc]
    obtain ⟨r, hfr, hrl, hrn⟩ := free_lt (hr := s.hr) hc hr16
    rw [hfr]
    have u1 : ∀ i, i ∈ P → upd s.hr k (r : Int) i = s.hr i := fun i hi => upd_other _ _ (hne i hi)
    have u2 : ∀ i, i ∈ P → upd s.hs k 0 i = s.hs i := fun i hi => upd_other _ _ (hne i hi)
    have uk : upd s.hr k (r : Int) k = r := upd_same _ _ _
    have uk2 : upd s.hs k (0 : Int) k = 0 := upd_same _ _ _
    refine ⟨hnd, fun i => ?_, ?_, ?_, fun i hi => ?_, fun i hi j hj hij => ?_, fun i hi j hj hij h0 he => ?_, fun i hi j hj hij h0 h1 => ?_, fun v hv => ?_, ?_⟩
    · simp only [List.mem_append, List.mem_singleton, ha]
      constructor
      · rintro (⟨h1, h2, h3⟩ | rfl)
        · exact ⟨.inl h1, by rw [u1 i h1]; exact h2, h3⟩
        · exact ⟨.inr rfl, by rw [uk]; omega, hft⟩
      · rintro ⟨h1 | rfl, h2, h3⟩
        · exact .inl ⟨h1, by rw [u1 i h1] at h2; exact h2, h3⟩
        · exact .inr rfl
    · rw [List.nodup_append]
      exact ⟨hand, by simp, fun x hx y hy => by simp at hy; subst hy; intro e; subst e; exact hka hx⟩
    · simp; omega
    · rcases (hmem i).1 hi with h1 | rfl
      · simp only [u1 i h1, u2 i h1]; exact h.dom i h1
      · simp only [uk, uk2]; exact .inr ⟨by omega, by omega, trivial⟩
    · simp only [List.mem_append, List.mem_singleton] at hi hj
      rcases hi with hi | rfl <;> rcases hj with hj | rfl
      · simp only [u1 i ((ha i).1 hi).1, u1 j ((ha j).1 hj).1]; exact hinj i hi j hj hij
      · simp only [u1 i ((ha i).1 hi).1, uk]; exact hrn i hi
      · simp only [u1 j ((ha j).1 hj).1, uk]; exact Ne.symm (hrn j hj)
      · exact absurd rfl hij
    · have key : ∀ i ∈ P, s.hr i = (r : Int) → T i < F k := fun i hi he => by
        apply Classical.byContradiction
        intro hn
        exact hrn i ((ha i).2 ⟨hi, by omega, by omega⟩) he
      rcases (hmem i).1 hi with hiP | rfl <;> rcases (hmem j).1 hj with hjP | rfl
      · simp only [u1 i hiP, u1 j hjP] at h0 he; exact h.fit i hiP j hjP hij h0 he
      · simp only [u1 i hiP, uk] at h0 he; exact .inl (key i hiP he)
      · simp only [u1 j hjP, uk] at h0 he; exact .inr (key j hjP he.symm)
      · exact absurd rfl hij
    · rcases (hmem i).1 hi with hiP | rfl <;> rcases (hmem j).1 hj with hjP | rfl
      · simp only [u1 i hiP, u1 j hjP, u2 i hiP, u2 j hjP] at h0 h1 ⊢; exact h.slots i hiP j hjP hij h0 h1
      · simp only [uk] at h1; omega
      · simp only [uk] at h0; omega
      · exact absurd rfl hij
    · obtain ⟨i, hi, h1, h2⟩ := h.all v hv
      exact ⟨i, (hmem i).2 (.inl hi), by simp only [u1 i hi]; exact h1, by simp only [u2 i hi]; exact h2⟩
    · have := h.sl_le; simp; omega
  · rw [if_neg hc]
    by_cases hm : last T R a k = k
    · rw [if_pos hm]
      have u1 : ∀ i, i ∈ P → upd s.hr k (-1 : Int) i = s.hr i := fun i hi => upd_other _ _ (hne i hi)
      have u2 : ∀ i, i ∈ P → upd s.hs k (s.sl : Int) i = s.hs i := fun i hi => upd_other _ _ (hne i hi)
      have uk : upd s.hr k (-1 : Int) k = -1 := upd_same _ _ _
      have uk2 : upd s.hs k (s.sl : Int) k = s.sl := upd_same _ _ _
      refine ⟨hnd, fun i => ?_, hand, hlen, fun i hi => ?_, fun i hi j hj hij => ?_, fun i hi j hj hij h0 he => ?_, fun i hi j hj hij h0 h1 => ?_, fun v hv => ?_, ?_⟩
      · simp only [ha, hmem]
        constructor
        · rintro ⟨h1, h2, h3⟩
          exact ⟨.inl h1, by rw [u1 i h1]; exact h2, h3⟩
        · rintro ⟨h1 | rfl, h2, h3⟩
          · exact ⟨h1, by rw [u1 i h1] at h2; exact h2, h3⟩
          · rw [uk] at h2; omega
      · rcases (hmem i).1 hi with h1 | rfl
        · simp only [u1 i h1, u2 i h1]
          rcases h.dom i h1 with h2 | h2
          · left; omega
          · right; exact h2
        · simp only [uk, uk2]; exact .inl ⟨trivial, by omega, by omega⟩
      · simp only [u1 i ((ha i).1 hi).1, u1 j ((ha j).1 hj).1]; exact hinj i hi j hj hij
      · rcases (hmem i).1 hi with hiP | rfl <;> rcases (hmem j).1 hj with hjP | rfl
        · simp only [u1 i hiP, u1 j hjP] at h0 he; exact h.fit i hiP j hjP hij h0 he
        · simp only [u1 i hiP, uk] at h0 he; omega
        · simp only [uk] at h0; omega
        · exact absurd rfl hij
      · rcases (hmem i).1 hi with hiP | rfl <;> rcases (hmem j).1 hj with hjP | rfl
        · simp only [u1 i hiP, u1 j hjP, u2 i hiP, u2 j hjP] at h0 h1 ⊢; exact h.slots i hiP j hjP hij h0 h1
        · simp only [u1 i hiP, u2 i hiP, uk2] at h0 ⊢
          rcases h.dom i hiP with h2 | h2 <;> omega
        · simp only [u1 j hjP, u2 j hjP, uk2] at h1 ⊢
          rcases h.dom j hjP with h2 | h2 <;> omega
        · exact absurd rfl hij
      · simp only at hv
        by_cases hv' : v < s.sl
        · obtain ⟨i, hi, h1, h2⟩ := h.all v hv'
          exact ⟨i, (hmem i).2 (.inl hi), by simp only [u1 i hi]; exact h1, by simp only [u2 i hi]; exact h2⟩
        · obtain rfl : v = s.sl := by omega
          exact ⟨k, (hmem k).2 (.inr rfl), uk, uk2⟩
      · have := h.sl_le; simp; omega
    · rw [if_neg hm]
      have hspec := last_spec (T := T) (R := R) a k (fun i hi j hj => hR i (by rcases List.mem_cons.1 hi with rfl | h; simp; simp [((ha i).1 h).1]) j (by rcases List.mem_cons.1 hj with rfl | h; simp; simp [((ha j).1 h).1]))
      have hma : last T R a k ∈ a := by rcases List.mem_cons.1 hspec.1 with h1 | h1; exact absurd h1 hm; exact h1
      generalize last T R a k = m at hm hma
      have hmP := ((ha m).1 hma).1
      have hm0 := ((ha m).1 hma).2.1
      have hkm : k ≠ m := Ne.symm hm
      have u1 : ∀ i, i ∈ P → i ≠ m → upd (upd s.hr k (s.hr m)) m (-1 : Int) i = s.hr i := fun i hi him => by rw [upd_other _ _ him, upd_other _ _ (hne i hi)]
      have u2 : ∀ i, i ∈ P → i ≠ m → upd (upd s.hs k 0) m (s.sl : Int) i = s.hs i := fun i hi him => by rw [upd_other _ _ him, upd_other _ _ (hne i hi)]
      have um : upd (upd s.hr k (s.hr m)) m (-1 : Int) m = -1 := upd_same _ _ _
      have um2 : upd (upd s.hs k 0) m (s.sl : Int) m = s.sl := upd_same _ _ _
      have uk : upd (upd s.hr k (s.hr m)) m (-1 : Int) k = s.hr m := by rw [upd_other _ _ hkm, upd_same]
      have uk2 : upd (upd s.hs k 0) m (s.sl : Int) k = 0 := by rw [upd_other _ _ hkm, upd_same]
      have hndk : (a ++ [k]).Nodup := by
        rw [List.nodup_append]
        exact ⟨hand, by simp, fun x hx y hy => by simp at hy; subst hy; intro e; subst e; exact hka hx⟩
      have her : ∀ i, i ∈ (a ++ [k]).erase m ↔ i ≠ m ∧ (i ∈ a ∨ i = k) := fun i => by
        rw [hndk.mem_erase_iff]
        simp
      have hrm : s.hr m < (regs : Int) := by
        rcases h.dom m hmP with h2 | h2
        · omega
        · exact h2.2.1
      refine ⟨hnd, fun i => ?_, hndk.sublist List.erase_sublist, ?_, fun i hi => ?_, fun i hi j hj hij => ?_, fun i hi j hj hij h0 he => ?_, fun i hi j hj hij h0 h1 => ?_, fun v hv => ?_, ?_⟩
      · simp only [her, hmem, ha]
        constructor
        · rintro ⟨h1, ⟨h2, h3, h4⟩ | rfl⟩
          · exact ⟨.inl h2, by rw [u1 i h2 h1]; exact h3, h4⟩
          · exact ⟨.inr rfl, by rw [uk]; exact hm0, hft⟩
        · rintro ⟨h1 | rfl, h2, h3⟩
          · by_cases him : i = m
            · subst him; rw [um] at h2; omega
            · exact ⟨him, .inl ⟨h1, by rw [u1 i h1 him] at h2; exact h2, h3⟩⟩
          · exact ⟨hkm, .inr rfl⟩
      · rw [List.length_erase_of_mem (by simp [hma])]
        simp
        omega
      · rcases (hmem i).1 hi with h1 | rfl
        · by_cases him : i = m
          · subst him; simp only [um, um2]; exact .inl ⟨trivial, by omega, by omega⟩
          · simp only [u1 i h1 him, u2 i h1 him]
            rcases h.dom i h1 with h2 | h2
            · left; omega
            · right; exact h2
        · simp only [uk, uk2]; right; exact ⟨hm0, hrm, trivial⟩
      · simp only [her] at hi hj
        obtain ⟨him, hi⟩ := hi
        obtain ⟨hjm, hj⟩ := hj
        rcases hi with hi | rfl <;> rcases hj with hj | rfl
        · simp only [u1 i ((ha i).1 hi).1 him, u1 j ((ha j).1 hj).1 hjm]; exact hinj i hi j hj hij
        · simp only [u1 i ((ha i).1 hi).1 him, uk]; exact hinj i hi m hma him
        · simp only [u1 j ((ha j).1 hj).1 hjm, uk]; exact hinj m hma j hj (Ne.symm hjm)
        · exact absurd rfl hij
      · have key : ∀ i ∈ P, i ≠ m → s.hr i = s.hr m → T i < F k := fun i hi him he => by
          apply Classical.byContradiction
          intro hn
          exact hinj i ((ha i).2 ⟨hi, by omega, by omega⟩) m hma him he
        by_cases him : i = m
        · subst him; simp only [um] at h0; omega
        by_cases hjm : j = m
        · subst hjm; simp only [um] at h0 he; omega
        rcases (hmem i).1 hi with hiP | rfl <;> rcases (hmem j).1 hj with hjP | rfl
        · simp only [u1 i hiP him, u1 j hjP hjm] at h0 he; exact h.fit i hiP j hjP hij h0 he
        · simp only [u1 i hiP him, uk] at h0 he; exact .inl (key i hiP him he)
        · simp only [u1 j hjP hjm, uk] at h0 he; exact .inr (key j hjP hjm he.symm)
        · exact absurd rfl hij
      · have old : ∀ i ∈ P, i ≠ m → s.hr i = -1 → s.hs i ≠ (s.sl : Int) := fun i hi him he => by
          rcases h.dom i hi with h2 | h2 <;> omega
        have hk1 : ∀ i, i = k → ¬ upd (upd s.hr k (s.hr m)) m (-1 : Int) i = -1 := fun i e => by subst e; rw [uk]; omega
        rcases (hmem i).1 hi with hi | hik
        · rcases (hmem j).1 hj with hj | hjk
          · by_cases him : i = m
            · have hjm : j ≠ m := fun e => hij (him.trans e.symm)
              rw [him]
              simp only [um2, u1 j hj hjm, u2 j hj hjm] at h1 ⊢
              exact Ne.symm (old j hj hjm h1)
            · by_cases hjm : j = m
              · rw [hjm]
                simp only [um2, u1 i hi him, u2 i hi him] at h0 ⊢
                exact old i hi him h0
              · simp only [u1 i hi him, u1 j hj hjm, u2 i hi him, u2 j hj hjm] at h0 h1 ⊢; exact h.slots i hi j hj hij h0 h1
          · exact absurd h1 (hk1 j hjk)
        · exact absurd h0 (hk1 i hik)
      · simp only at hv
        by_cases hv' : v < s.sl
        · obtain ⟨i, hi, h1, h2⟩ := h.all v hv'
          have him : i ≠ m := fun e => by subst e; omega
          exact ⟨i, (hmem i).2 (.inl hi), by simp only [u1 i hi him]; exact h1, by simp only [u2 i hi him]; exact h2⟩
        · obtain rfl : v = s.sl := by omega
          exact ⟨m, (hmem m).2 (.inl hmP), um, um2⟩
      · have := h.sl_le; simp; omega
theorem inv_run {regs : Nat} {F T R : Nat → Int} (hr16 : regs ≤ 16) : ∀ (ord P : List Nat) (p : Int) (s : St), Inv regs F T P p s → (∀ k ∈ ord, p ≤ F k ∧ F k ≤ T k ∧ k ∉ P) → ord.Nodup → ord.Pairwise (fun i j => F i ≤ F j) →
    (∀ i ∈ P ++ ord, ∀ j ∈ P ++ ord, i ≠ j → R i ≠ R j) → ∃ p', Inv regs F T (P ++ ord) p' (ord.foldl (step regs F T R) s)
  | [], P, p, s, h, _, _, _, _ => ⟨p, by simpa using h⟩
  | k :: ord, P, p, s, h, hk, hn, hs, hR => by
    obtain ⟨h1, h2, h3⟩ := hk k (by simp)
    rw [List.nodup_cons] at hn
    rw [List.pairwise_cons] at hs
    have h' := inv_step (R := R) h hr16 h3 h1 h2 (fun i hi j hj => hR i (by simp at hi ⊢; rcases hi with rfl | hi; simp; simp [hi]) j (by simp at hj ⊢; rcases hj with rfl | hj; simp; simp [hj]))
    obtain ⟨p', hp'⟩ := inv_run hr16 ord (P ++ [k]) (F k) (step regs F T R s k) h' (fun j hj => ⟨hs.1 j hj, (hk j (by simp [hj])).2.1, fun hm => by
      rcases List.mem_append.1 hm with hm | hm
      · exact (hk j (by simp [hj])).2.2 hm
      · simp at hm; subst hm; exact hn.1 hj⟩) hn.2 hs.2 (fun i hi j hj => hR i (by simpa using hi) j (by simpa using hj))
    exact ⟨p', by simpa using hp'⟩
/-- Where all of ord are gone over. -/
theorem homes_inv {regs : Nat} {F T R : Nat → Int} (hr16 : regs ≤ 16) {ord : List Nat} (hft : ∀ k ∈ ord, F k ≤ T k) (hn : ord.Nodup) (hs : ord.Pairwise (fun i j => F i ≤ F j)) (hR : ∀ i ∈ ord, ∀ j ∈ ord, i ≠ j → R i ≠ R j) :
    ∃ p, Inv regs F T ord p (homes regs F T R ord) := by
  cases ord with
  | nil => exact ⟨0, inv_start _ _ _ _⟩
  | cons k ord =>
    have hs' := hs
    rw [List.pairwise_cons] at hs'
    have := inv_run (R := R) hr16 (k :: ord) [] (F k) st0 (inv_start _ _ _ _) (fun j hj => ⟨by rcases List.mem_cons.1 hj with rfl | hj; exact Int.le_refl _; exact hs'.1 j hj, hft j hj, by simp⟩) hn hs (by simpa using hR)
    simpa [homes] using this
/-! ### A spill: more than regs have a place together -/
def cover (F T : Nat → Int) (L : List Nat) (p : Int) : Nat := (L.filter fun i => decide (F i ≤ p) && decide (p ≤ T i)).length
theorem spill_run {regs : Nat} {F T R : Nat → Int} (L : List Nat) (hr16 : regs ≤ 16) : ∀ (ord P : List Nat) (p : Int) (s : St), Inv regs F T P p s → (∀ i ∈ P, F i ≤ p) → (∀ i ∈ P ++ ord, i ∈ L) → (∀ k ∈ ord, p ≤ F k ∧ F k ≤ T k ∧ k ∉ P) → ord.Nodup → ord.Pairwise (fun i j => F i ≤ F j) →
    (∀ i ∈ P ++ ord, ∀ j ∈ P ++ ord, i ≠ j → R i ≠ R j) → (ord.foldl (step regs F T R) s).sl = s.sl ∨ ∃ k ∈ ord, regs < cover F T L (F k)
  | [], P, p, s, h, _, _, _, _, _, _ => .inl rfl
  | k :: ord, P, p, s, h, hle, hL, hk, hn, hs, hR => by
    obtain ⟨h1, h2, h3⟩ := hk k (by simp)
    rw [List.nodup_cons] at hn
    rw [List.pairwise_cons] at hs
    have h' := inv_step (R := R) h hr16 h3 h1 h2 (fun i hi j hj => hR i (by simp at hi ⊢; rcases hi with rfl | hi; simp; simp [hi]) j (by simp at hj ⊢; rcases hj with rfl | hj; simp; simp [hj]))
    by_cases hc : (expire F T k s.act).length < regs
    · have e : (step regs F T R s k).sl = s.sl := by unfold step core; rw [if_pos hc]
      have ih := spill_run (R := R) L hr16 ord (P ++ [k]) (F k) (step regs F T R s k) h' (fun i hi => by
          rcases List.mem_append.1 hi with hi | hi
          · have := hle i hi; omega
          · simp at hi; subst hi; exact Int.le_refl _) (fun i hi => hL i (by simpa using hi)) (fun j hj => ⟨hs.1 j hj, (hk j (by simp [hj])).2.1, fun hm => by
        rcases List.mem_append.1 hm with hm | hm
        · exact (hk j (by simp [hj])).2.2 hm
        · simp at hm; subst hm; exact hn.1 hj⟩) hn.2 hs.2 (fun i hi j hj => hR i (by simpa using hi) j (by simpa using hj))
      rcases ih with ih | ⟨j, hj, ih⟩
      · left; rw [List.foldl_cons, ih, e]
      · exact .inr ⟨j, by simp [hj], ih⟩
    · refine .inr ⟨k, by simp, ?_⟩
      have hnd : (k :: expire F T k s.act).Nodup := by
        rw [List.nodup_cons]
        refine ⟨fun hm => ?_, h.and.sublist List.filter_sublist⟩
        exact h3 ((h.acts k).1 (List.mem_filter.1 hm).1).1
      have hsub : (k :: expire F T k s.act) ⊆ L.filter (fun i => decide (F i ≤ F k) && decide (F k ≤ T i)) := by
        intro i hi
        rw [List.mem_filter]
        rcases List.mem_cons.1 hi with rfl | hi
        · exact ⟨hL i (by simp), by simp [h2]⟩
        · obtain ⟨hi1, hi2⟩ := List.mem_filter.1 hi
          have hP := ((h.acts i).1 hi1).1
          have := hle i hP
          simp only [decide_eq_true_eq] at hi2
          exact ⟨hL i (by simp [hP]), by simp; omega⟩
      have := List.Nodup.length_le_of_subset hnd hsub
      unfold cover
      simp at this
      omega
theorem spill_cover {regs : Nat} {F T R : Nat → Int} (hr16 : regs ≤ 16) {ord L : List Nat} (hL : ∀ i ∈ ord, i ∈ L) (hft : ∀ k ∈ ord, F k ≤ T k) (hn : ord.Nodup) (hs : ord.Pairwise (fun i j => F i ≤ F j)) (hR : ∀ i ∈ ord, ∀ j ∈ ord, i ≠ j → R i ≠ R j) :
    (homes regs F T R ord).sl = 0 ∨ ∃ k ∈ ord, regs < cover F T L (F k) := by
  cases ord with
  | nil => exact .inl rfl
  | cons k ord =>
    have hs' := hs
    rw [List.pairwise_cons] at hs'
    exact spill_run (R := R) L hr16 (k :: ord) [] (F k) st0 (inv_start _ _ _ _) (by simp) (by simpa using hL) (fun j hj => ⟨by rcases List.mem_cons.1 hj with rfl | hj; exact Int.le_refl _; exact hs'.1 j hj, hft j hj, by simp⟩) hn hs (by simpa using hR)
/-! ### With one register more -/
def Rel (a a' : List Nat) : Prop := a'.Perm a ∨ ∃ x, x ∉ a ∧ a'.Perm (x :: a)
theorem rel_expire {F T : Nat → Int} {k : Nat} {a a' : List Nat} (h : Rel a a') : Rel (expire F T k a) (expire F T k a') := by
  unfold expire
  rcases h with h | ⟨x, hx, h⟩
  · exact .inl (h.filter _)
  · have h2 := h.filter (fun i => decide (F k ≤ T i))
    by_cases hp : F k ≤ T x
    · rw [List.filter_cons, if_pos (by simpa using hp)] at h2
      exact .inr ⟨x, fun hm => hx (List.mem_filter.1 hm).1, h2⟩
    · rw [List.filter_cons, if_neg (by simpa using hp)] at h2
      exact .inl h2
theorem more_core {regs : Nat} {T R : Nat → Int} {k : Nat} {a a' : List Nat} {s s' : St} (h : Rel a a') (hna : a.Nodup) (hk : k ∉ a) (hk' : k ∉ a') (hR : ∀ i ∈ k :: a', ∀ j ∈ k :: a', i ≠ j → R i ≠ R j) (hRa : ∀ i ∈ k :: a, ∀ j ∈ k :: a, i ≠ j → R i ≠ R j) (hsl : s'.sl ≤ s.sl) :
    Rel (core regs T R k a s).act (core (regs + 1) T R k a' s').act ∧ (core (regs + 1) T R k a' s').sl ≤ (core regs T R k a s).sl := by
  have pk : ∀ l : List Nat, (l ++ [k]).Perm (k :: l) := fun l => List.perm_append_singleton k l
  have hnk : (a ++ [k]).Nodup := by
    rw [List.nodup_append]
    exact ⟨hna, by simp, fun x hx y hy => by simp at hy; subst hy; intro e; subst e; exact hk hx⟩
  have hnot : ∀ m, m ∉ (a ++ [k]).erase m := fun m hm => (hnk.mem_erase_iff.1 hm).1 rfl
  have cl : ∀ (q : Nat) (b : List Nat) (u : St), b.length < q → core q T R k b u = ⟨b ++ [k], upd u.hr k (free u.hr b), upd u.hs k 0, u.sl⟩ := fun q b u hq => by unfold core; rw [if_pos hq]
  have ck : ∀ (q : Nat) (b : List Nat) (u : St), ¬ b.length < q → last T R b k = k → core q T R k b u = ⟨b, upd u.hr k (-1), upd u.hs k u.sl, u.sl + 1⟩ := fun q b u hq hm => by unfold core; rw [if_neg hq, if_pos hm]
  have cm : ∀ (q : Nat) (b : List Nat) (u : St) (m : Nat), ¬ b.length < q → last T R b k = m → m ≠ k → core q T R k b u = ⟨(b ++ [k]).erase m, upd (upd u.hr k (u.hr m)) m (-1), upd (upd u.hs k 0) m u.sl, u.sl + 1⟩ := fun q b u m hq hm hne => by subst hm; unfold core; rw [if_neg hq, if_neg hne]
  rcases h with h | ⟨x, hx, h⟩
  · have hlen := h.length_eq
    by_cases hc : a.length < regs
    · rw [cl _ _ _ hc, cl _ _ _ (show a'.length < regs + 1 by omega)]
      exact ⟨.inl (h.append_right _), hsl⟩
    · by_cases hc' : a'.length < regs + 1
      · rw [cl _ _ _ hc']
        have hp : (a' ++ [k]).Perm (k :: a) := (pk a').trans (h.cons k)
        by_cases hm : last T R a k = k
        · rw [ck _ _ _ hc hm]
          exact ⟨.inr ⟨k, hk, hp⟩, by simp only; omega⟩
        · rw [cm _ _ _ _ hc rfl hm]
          have hma : last T R a k ∈ a ++ [k] := by
            rcases List.mem_cons.1 (last_spec (T := T) a k hRa).1 with h1 | h1
            · exact absurd h1 hm
            · simp [h1]
          exact ⟨.inr ⟨last T R a k, hnot _, ((pk a').trans (h.cons k)).trans ((pk a).symm.trans (List.perm_cons_erase hma))⟩, by simp only; omega⟩
      · have hl : last T R a k = last T R a' k := last_perm (fun i => h.mem_iff.symm) hRa
        by_cases hm : last T R a k = k
        · rw [ck _ _ _ hc hm, ck _ _ _ hc' (hl.symm.trans hm)]
          exact ⟨.inl h, by simp only; omega⟩
        · rw [cm _ _ _ _ hc rfl hm, cm _ _ _ _ hc' hl.symm hm]
          exact ⟨.inl ((h.append_right [k]).erase _), by simp only; omega⟩
  · have hlen := h.length_eq
    simp only [List.length_cons] at hlen
    by_cases hc : a.length < regs
    · rw [cl _ _ _ hc, cl _ _ _ (show a'.length < regs + 1 by omega)]
      have hxk : x ≠ k := fun e => hk' (e ▸ h.mem_iff.2 (by simp))
      exact ⟨.inr ⟨x, by simp [hx, hxk], h.append_right _⟩, hsl⟩
    · have hc' : ¬ a'.length < regs + 1 := by omega
      have hxk : x ≠ k := fun e => hk' (e ▸ h.mem_iff.2 (by simp))
      have s1 := last_spec (T := T) a k hRa
      have s2 := last_spec (T := T) a' k hR
      have hp : (a' ++ [k]).Perm (x :: (a ++ [k])) := h.append_right [k]
      by_cases hx' : last T R a' k = x
      · rw [cm _ _ _ x hc' hx' hxk]
        have e1 : ((a' ++ [k]).erase x).Perm (a ++ [k]) := by
          have := hp.erase x
          rwa [List.erase_cons_head] at this
        by_cases hm : last T R a k = k
        · rw [ck _ _ _ hc hm]
          exact ⟨.inr ⟨k, hk, e1.trans (pk a)⟩, by simp only; omega⟩
        · rw [cm _ _ _ _ hc rfl hm]
          have hma : last T R a k ∈ a := by rcases List.mem_cons.1 s1.1 with h1 | h1; exact absurd h1 hm; exact h1
          exact ⟨.inr ⟨last T R a k, hnot _, e1.trans (List.perm_cons_erase (by simp [hma]))⟩, by simp only; omega⟩
      · have hmem : last T R a' k ∈ k :: a := by
          rcases List.mem_cons.1 s2.1 with h1 | h1
          · rw [h1]; simp
          · rcases List.mem_cons.1 (h.mem_iff.1 h1) with h2 | h2
            · exact absurd h2 hx'
            · simp [h2]
        have hl : last T R a k = last T R a' k := isLast_unique s1 s2 (by
          rcases List.mem_cons.1 s1.1 with h1 | h1
          · rw [h1]; simp
          · exact List.mem_cons_of_mem _ (h.mem_iff.2 (by simp [h1]))) hmem
        by_cases hm : last T R a k = k
        · rw [ck _ _ _ hc hm, ck _ _ _ hc' (hl.symm.trans hm)]
          exact ⟨.inr ⟨x, hx, h⟩, by simp only; omega⟩
        · rw [cm _ _ _ _ hc rfl hm, cm _ _ _ _ hc' hl.symm hm]
          have hxm : x ≠ last T R a k := fun e => hx' (by rw [← hl, ← e])
          refine ⟨.inr ⟨x, fun hin => ?_, ?_⟩, by simp only; omega⟩
          · have := List.mem_of_mem_erase hin
            simp [hx, hxk] at this
          · have := hp.erase (last T R a k)
            rwa [List.erase_cons_tail (by simpa using hxm)] at this
theorem more_run {regs : Nat} {F T R : Nat → Int} (hr16 : regs + 1 ≤ 16) : ∀ (ord P : List Nat) (p : Int) (s s' : St), Inv regs F T P p s → Inv (regs + 1) F T P p s' → Rel s.act s'.act → s'.sl ≤ s.sl → (∀ k ∈ ord, p ≤ F k ∧ F k ≤ T k ∧ k ∉ P) → ord.Nodup → ord.Pairwise (fun i j => F i ≤ F j) →
    (∀ i ∈ P ++ ord, ∀ j ∈ P ++ ord, i ≠ j → R i ≠ R j) → (ord.foldl (step (regs + 1) F T R) s').sl ≤ (ord.foldl (step regs F T R) s).sl
  | [], P, p, s, s', h, h', hrel, hsl, _, _, _, _ => hsl
  | k :: ord, P, p, s, s', h, h', hrel, hsl, hk, hn, hs, hR => by
    obtain ⟨h1, h2, h3⟩ := hk k (by simp)
    rw [List.nodup_cons] at hn
    rw [List.pairwise_cons] at hs
    have hRP : ∀ i ∈ k :: P, ∀ j ∈ k :: P, i ≠ j → R i ≠ R j := fun i hi j hj => hR i (by simp at hi ⊢; rcases hi with rfl | hi; simp; simp [hi]) j (by simp at hj ⊢; rcases hj with rfl | hj; simp; simp [hj])
    have g := inv_step (R := R) h (by omega) h3 h1 h2 hRP
    have g' := inv_step (R := R) h' hr16 h3 h1 h2 hRP
    have sub : ∀ i ∈ expire F T k s.act, i ∈ P := fun i hi => ((h.acts i).1 (List.mem_filter.1 hi).1).1
    have sub' : ∀ i ∈ expire F T k s'.act, i ∈ P := fun i hi => ((h'.acts i).1 (List.mem_filter.1 hi).1).1
    have up : ∀ {a : List Nat}, (∀ i ∈ a, i ∈ P) → ∀ i ∈ k :: a, i ∈ k :: P := fun ha i hi => by
      rcases List.mem_cons.1 hi with rfl | hi
      · simp
      · simp [ha i hi]
    have hc := more_core (regs := regs) (T := T) (R := R) (k := k) (s := s) (s' := s') (rel_expire (F := F) (T := T) (k := k) hrel) (h.and.sublist List.filter_sublist) (fun hm => h3 (sub k hm)) (fun hm => h3 (sub' k hm))
      (fun i hi j hj => hRP i (up sub' i hi) j (up sub' j hj)) (fun i hi j hj => hRP i (up sub i hi) j (up sub j hj)) hsl
    exact more_run hr16 ord (P ++ [k]) (F k) _ _ g g' hc.1 hc.2 (fun j hj => ⟨hs.1 j hj, (hk j (by simp [hj])).2.1, fun hm => by
      rcases List.mem_append.1 hm with hm | hm
      · exact (hk j (by simp [hj])).2.2 hm
      · simp at hm; subst hm; exact hn.1 hj⟩) hn.2 hs.2 (fun i hi j hj => hR i (by simpa using hi) j (by simpa using hj))
theorem homes_more {regs : Nat} {F T R : Nat → Int} (hr16 : regs + 1 ≤ 16) {ord : List Nat} (hft : ∀ k ∈ ord, F k ≤ T k) (hn : ord.Nodup) (hs : ord.Pairwise (fun i j => F i ≤ F j)) (hR : ∀ i ∈ ord, ∀ j ∈ ord, i ≠ j → R i ≠ R j) :
    (homes (regs + 1) F T R ord).sl ≤ (homes regs F T R ord).sl := by
  cases ord with
  | nil => exact Nat.le_refl _
  | cons k ord =>
    have hs' := hs
    rw [List.pairwise_cons] at hs'
    exact more_run hr16 (k :: ord) [] (F k) st0 st0 (inv_start _ _ _ _) (inv_start _ _ _ _) (.inl (List.Perm.refl _)) (Nat.le_refl _) (fun j hj => ⟨by rcases List.mem_cons.1 hj with rfl | hj; exact Int.le_refl _; exact hs'.1 j hj, hft j hj, by simp⟩) hn hs (by simpa using hR)
/-- With no registers all are spilled. -/
theorem homes_none {F T R : Nat → Int} (ord : List Nat) : ∀ s : St, (ord.foldl (step 0 F T R) s).sl = s.sl + ord.length := by
  induction ord with
  | nil => intro s; rfl
  | cons k ord ih =>
    intro s
    rw [List.foldl_cons, ih]
    have : (step 0 F T R s k).sl = s.sl + 1 := by
      unfold step core
      rw [if_neg (by omega)]
      split <;> rfl
    rw [this, List.length_cons]
    omega
/-! ### All together, and one behind the other -/
/-- All cross, and come in the order in which they end: the first live in registers, the others are spilled. -/
theorem clique_run {regs : Nat} {F T R : Nat → Int} (hr16 : regs ≤ 16) : ∀ (ord P : List Nat) (s : St), (∀ i, i ∈ s.act → i ∈ P) → s.act.length = min P.length regs → s.sl = P.length - regs → (∀ i ∈ P ++ ord, ∀ j ∈ P ++ ord, F j ≤ T i) → (P ++ ord).Nodup → (P ++ ord).Pairwise (fun i j => gt T R j i = true) →
    (∀ (i : Nat) (h : i < P.length), s.hr P[i] = -1 ↔ regs ≤ i) →
    (ord.foldl (step regs F T R) s).sl = (P ++ ord).length - regs ∧ ∀ (i : Nat) (h : i < (P ++ ord).length), (ord.foldl (step regs F T R) s).hr (P ++ ord)[i] = -1 ↔ regs ≤ i
  | [], P, s, _, _, hsl, _, _, _, hh => by simpa using ⟨hsl, hh⟩
  | k :: ord, P, s, hsub, hlen, hsl, hT, hn, hs, hh => by
    have hkP : k ∉ P := fun h => by
      rw [List.nodup_append] at hn
      exact hn.2.2 k h k (by simp) rfl
    have hex : expire F T k s.act = s.act := by
      unfold expire
      rw [List.filter_eq_self]
      intro i hi
      simp only [decide_eq_true_eq]
      exact hT i (by simp [hsub i hi]) k (by simp)
    have hlast : ∀ i ∈ P, gt T R k i = true := fun i hi => by
      rw [List.pairwise_append] at hs
      exact hs.2.2 i hi k (by simp)
    have hfold : last T R s.act k = k := by
      have : ∀ (a : List Nat), (∀ i ∈ a, gt T R k i = true) → last T R a k = k := by
        intro a
        induction a with
        | nil => intro _; rfl
        | cons x a ih =>
          intro ha
          have hx := ha x (by simp)
          have : gt T R x k = false := by
            apply Bool.eq_false_iff.2
            intro h'
            exact gt_asymm hx h'
          show last T R a (if gt T R x k then x else k) = k
          rw [this]
          exact ih fun i hi => ha i (by simp [hi])
      exact this s.act fun i hi => hlast i (hsub i hi)
    have e : P ++ k :: ord = (P ++ [k]) ++ ord := by simp
    rw [List.foldl_cons]
    have hget : ∀ (f : Nat → Int), (∀ i ∈ P, f i = s.hr i) → (f k = -1 ↔ regs ≤ P.length) → ∀ (i : Nat) (h : i < (P ++ [k]).length), f (P ++ [k])[i] = -1 ↔ regs ≤ i := by
      intro f hf hfk i hi
      by_cases hip : i < P.length
      · rw [List.getElem_append_left hip, hf _ (List.getElem_mem hip)]
        exact hh i hip
      · have : i = P.length := by simp at hi; omega
        subst this
        simpa using hfk
    by_cases hc : s.act.length < regs
    · have hst : step regs F T R s k = ⟨s.act ++ [k], upd s.hr k (free s.hr s.act), upd s.hs k 0, s.sl⟩ := by unfold step core; rw [hex, if_pos hc]
      obtain ⟨r, hfr, _⟩ := free_lt (hr := s.hr) hc hr16
      rw [hst, e]
      refine clique_run hr16 ord (P ++ [k]) _ (fun i hi => ?_) (by simp; omega) (by simp; omega) (by rw [← e]; exact hT) (by rw [← e]; exact hn) (by rw [← e]; exact hs) (hget _ (fun i hi => upd_other _ _ (fun h => hkP (h ▸ hi))) ?_)
      · rcases List.mem_append.1 hi with hi | hi
        · simp [hsub i hi]
        · simp at hi; simp [hi]
      · simp only [upd_same, hfr]
        omega
    · have hst : step regs F T R s k = ⟨s.act, upd s.hr k (-1), upd s.hs k s.sl, s.sl + 1⟩ := by unfold step core; rw [hex, if_neg hc, if_pos hfold]
      rw [hst, e]
      refine clique_run hr16 ord (P ++ [k]) _ (fun i hi => by simp [hsub i hi]) (by simp; omega) (by simp; omega) (by rw [← e]; exact hT) (by rw [← e]; exact hn) (by rw [← e]; exact hs) (hget _ (fun i hi => upd_other _ _ (fun h => hkP (h ▸ hi))) ?_)
      exact ⟨fun _ => by omega, fun _ => upd_same _ _ _⟩
theorem free_nil (hr : Nat → Int) : free hr [] = 0 := by unfold free; rfl
/-- One behind the other: all live in the register 0; or, with none, in slots of their own. -/
theorem alone_run {regs : Nat} {F T R : Nat → Int} : ∀ (ord P : List Nat) (s : St), (∀ i ∈ s.act, i ∈ P) → (P ++ ord).Nodup → (P ++ ord).Pairwise (fun i j => T i < F j) → s.sl = (if regs = 0 then P.length else 0) →
    (∀ (i : Nat) (h : i < P.length), s.hr P[i] = (if regs = 0 then -1 else 0) ∧ s.hs P[i] = (if regs = 0 then (i : Int) else 0)) →
    ∀ (i : Nat) (h : i < (P ++ ord).length), (ord.foldl (step regs F T R) s).hr (P ++ ord)[i] = (if regs = 0 then -1 else 0) ∧ (ord.foldl (step regs F T R) s).hs (P ++ ord)[i] = (if regs = 0 then (i : Int) else 0)
  | [], P, s, _, _, _, _, hh => by simpa using hh
  | k :: ord, P, s, hsub, hn, hs, hsl, hh => by
    have hkP : k ∉ P := fun h => by
      rw [List.nodup_append] at hn
      exact hn.2.2 k h k (by simp) rfl
    have hex : expire F T k s.act = [] := by
      unfold expire
      rw [List.filter_eq_nil_iff]
      intro i hi
      rw [List.pairwise_append] at hs
      have := hs.2.2 i (hsub i hi) k (by simp)
      simp
      omega
    have e : P ++ k :: ord = (P ++ [k]) ++ ord := by simp
    rw [List.foldl_cons]
    have hget : ∀ (f g : Nat → Int), (∀ i ∈ P, f i = s.hr i ∧ g i = s.hs i) → (f k = (if regs = 0 then -1 else 0) ∧ g k = (if regs = 0 then (P.length : Int) else 0)) → ∀ (i : Nat) (h : i < (P ++ [k]).length), f (P ++ [k])[i] = (if regs = 0 then -1 else 0) ∧ g (P ++ [k])[i] = (if regs = 0 then (i : Int) else 0) := by
      intro f g hf hfk i hi
      by_cases hip : i < P.length
      · rw [List.getElem_append_left hip, (hf _ (List.getElem_mem hip)).1, (hf _ (List.getElem_mem hip)).2]
        exact hh i hip
      · have : i = P.length := by simp at hi; omega
        subst this
        simpa using hfk
    by_cases hc : regs = 0
    · have hst : step regs F T R s k = ⟨[], upd s.hr k (-1), upd s.hs k s.sl, s.sl + 1⟩ := by unfold step core; rw [hex, if_neg (by simp; omega), if_pos (by rfl)]
      rw [hst, e]
      refine alone_run ord (P ++ [k]) _ (by simp) (by rw [← e]; exact hn) (by rw [← e]; exact hs) (by simp [hc, hsl]) (hget _ _ (fun i hi => ⟨upd_other _ _ (fun h => hkP (h ▸ hi)), upd_other _ _ (fun h => hkP (h ▸ hi))⟩) ?_)
      simp [upd_same, hc, hsl]
    · have hst : step regs F T R s k = ⟨[k], upd s.hr k (free s.hr []), upd s.hs k 0, s.sl⟩ := by unfold step core; rw [hex, if_pos (by simp; omega)]; rfl
      rw [hst, e]
      refine alone_run ord (P ++ [k]) _ (by simp) (by rw [← e]; exact hn) (by rw [← e]; exact hs) (by simp [hc, hsl]) (hget _ _ (fun i hi => ⟨upd_other _ _ (fun h => hkP (h ▸ hi)), upd_other _ _ (fun h => hkP (h ▸ hi))⟩) ?_)
      simp [upd_same, hc, free_nil]
end Go.Scan
