
namespace Go.Lv
set_option linter.unusedVariables false
/-! ### What is live, plain -/
/-- A function, as far as live registers want it. -/
structure G where
  nb : Nat
  len : Nat → Nat
  use : Nat → Nat → List Int
  set : Nat → Nat → Int
  tuse : Nat → List Int
  succ : Nat → List Int
/-- Register r is live at place k of block i. -/
inductive At (g : G) (r : Int) : Nat → Nat → Prop
  | use {i k : Nat} : k < g.len i → r ∈ g.use i k → At g r i k
  | step {i k : Nat} : k < g.len i → r ≠ g.set i k → At g r i (k + 1) → At g r i k
  | tuse {i : Nat} : r ∈ g.tuse i → At g r i (g.len i)
  | jump {i j : Nat} : (j : Int) ∈ g.succ i → At g r j 0 → At g r i (g.len i)
/-- What goes backwards from a block's end, m operations. -/
def Bk (g : G) (I : Nat → Int → Prop) (i : Nat) : Nat → Int → Prop
  | 0, r => r ∈ g.tuse i ∨ ∃ j : Nat, (j : Int) ∈ g.succ i ∧ I j r
  | m + 1, r => r ∈ g.use i (g.len i - 1 - m) ∨ (r ≠ g.set i (g.len i - 1 - m) ∧ Bk g I i m r)
/-- Each block's successors are blocks. -/
def Wf (g : G) : Prop := ∀ i, i < g.nb → ∀ t ∈ g.succ i, 0 ≤ t ∧ t < g.nb
theorem Bk.mono {g : G} {I I' : Nat → Int → Prop} {i : Nat} (h : ∀ (j : Nat) (r : Int), (j : Int) ∈ g.succ i → I j r → I' j r) : ∀ m r, Bk g I i m r → Bk g I' i m r
  | 0, r, hb => hb.imp id (fun ⟨j, h1, h2⟩ => ⟨j, h1, h j r h1 h2⟩)
  | m + 1, r, hb => hb.imp id (fun ⟨h1, h2⟩ => ⟨h1, Bk.mono h m r h2⟩)
theorem Bk.sound {g : G} {I : Nat → Int → Prop} {i : Nat} (h : ∀ (j : Nat) (r : Int), (j : Int) ∈ g.succ i → I j r → At g r j 0) : ∀ m r, m ≤ g.len i → Bk g I i m r → At g r i (g.len i - m)
  | 0, r, _, hb => by
    rcases hb with hb | ⟨j, h1, h2⟩
    · exact .tuse hb
    · exact .jump h1 (h j r h1 h2)
  | m + 1, r, hm, hb => by
    have e : g.len i - 1 - m = g.len i - (m + 1) := by omega
    rcases hb with hb | ⟨h1, h2⟩
    · rw [e] at hb
      exact .use (by omega) hb
    · rw [e] at h1
      refine .step (by omega) h1 ?_
      have := Bk.sound h m r (by omega) h2
      rwa [show g.len i - (m + 1) + 1 = g.len i - m by omega]
theorem Bk.complete {g : G} {I : Nat → Int → Prop} (hw : Wf g) (hc : ∀ i, i < g.nb → ∀ r, Bk g I i (g.len i) r → I i r) {r : Int} {i k : Nat} (h : At g r i k) : i < g.nb → k ≤ g.len i → Bk g I i (g.len i - k) r := by
  induction h with
  | @use i k hk hr =>
    intro hi _
    rw [show g.len i - k = (g.len i - 1 - k) + 1 by omega]
    refine .inl ?_
    rwa [show g.len i - 1 - (g.len i - 1 - k) = k by omega]
  | @step i k hk hr _ ih =>
    intro hi _
    rw [show g.len i - k = (g.len i - 1 - k) + 1 by omega]
    refine .inr ⟨?_, ?_⟩
    · rwa [show g.len i - 1 - (g.len i - 1 - k) = k by omega]
    · have := ih hi (by omega)
      rwa [show g.len i - (k + 1) = g.len i - 1 - k by omega] at this
  | @tuse i hr =>
    intro hi _
    rw [Nat.sub_self]
    exact .inl hr
  | @jump i j hj _ ih =>
    intro hi _
    rw [Nat.sub_self]
    have hjn : j < g.nb := by have := hw i hi _ hj; omega
    exact .inr ⟨j, hj, hc j hjn r (by have := ih hjn (Nat.zero_le _); rwa [Nat.sub_zero] at this)⟩
/-- The least sets are those of what is live. -/
theorem least {g : G} {I : Nat → Int → Prop} (hw : Wf g) (hs : ∀ i, i < g.nb → ∀ r, I i r → At g r i 0) (hc : ∀ i, i < g.nb → ∀ r, Bk g I i (g.len i) r → I i r) (i : Nat) (hi : i < g.nb) (r : Int) : I i r ↔ At g r i 0 :=
  ⟨hs i hi r, fun h => hc i hi r (by have := Bk.complete hw hc h hi (Nat.zero_le _); rwa [Nat.sub_zero] at this)⟩
/-- What goes backwards from the right sets is what is live. -/
theorem bk_at {g : G} {I : Nat → Int → Prop} (hw : Wf g) (hI : ∀ i, i < g.nb → ∀ r, I i r ↔ At g r i 0) (i : Nat) (hi : i < g.nb) (m : Nat) (hm : m ≤ g.len i) (r : Int) : Bk g I i m r ↔ At g r i (g.len i - m) := by
  refine ⟨Bk.sound (fun j r hj h => (hI j (by have := hw i hi _ hj; omega) r).1 h) m r hm, fun h => ?_⟩
  have := Bk.complete (I := I) hw (fun i hi r h => (hI i hi r).2 ?_) h hi (by omega)
  · rwa [show g.len i - (g.len i - m) = m by omega] at this
  · have := Bk.sound (fun j r hj h => (hI j (by have := hw i hi _ hj; omega) r).1 h) (g.len i) r (Nat.le_refl _) h
    rwa [Nat.sub_self] at this
theorem at_end {g : G} {r : Int} {i : Nat} : At g r i (g.len i) ↔ (r ∈ g.tuse i ∨ ∃ j : Nat, (j : Int) ∈ g.succ i ∧ At g r j 0) := by
  constructor
  · intro h
    generalize hk : g.len i = k at h
    cases h with
    | use h1 h2 => omega
    | step h1 h2 h3 => omega
    | tuse h => exact .inl h
    | jump h1 h2 => exact .inr ⟨_, h1, h2⟩
  · rintro (h | ⟨j, h1, h2⟩)
    · exact .tuse h
    · exact .jump h1 h2
/-- All that is live is read somewhere. -/
theorem at_some {g : G} {Q : Int → Prop} (hu : ∀ i k r, r ∈ g.use i k → Q r) (ht : ∀ i r, r ∈ g.tuse i → Q r) {r : Int} {i k : Nat} (h : At g r i k) : Q r := by
  induction h with
  | use _ h => exact hu _ _ _ h
  | step _ _ _ ih => exact ih
  | tuse h => exact ht _ _ h
  | jump _ _ ih => exact ih
/-! ### Rows without repeats -/
theorem nodup_le : ∀ {l m : List Int}, l.Nodup → (∀ x ∈ l, x ∈ m) → l.length ≤ m.length
  | [], m, _, _ => Nat.zero_le _
  | x :: l, m, hn, hs => by
    rw [List.nodup_cons] at hn
    have hx := hs x List.mem_cons_self
    have ih := nodup_le (m := m.erase x) hn.2 (fun y hy => (List.mem_erase_of_ne (fun e => hn.1 (by rw [← e]; exact hy))).2 (hs y (List.mem_cons_of_mem _ hy)))
    rw [List.length_erase_of_mem hx] at ih
    have := List.length_pos_of_mem hx
    simp only [List.length_cons]
    omega
theorem same_of_le {a b : List Int} (ha : a.Nodup) (hb : b.Nodup) (hs : ∀ x ∈ a, x ∈ b) (hl : b.length ≤ a.length) : ∀ x ∈ b, x ∈ a := fun x hx => Classical.byContradiction fun hn => by
  have := nodup_le (l := x :: a) (m := b) (List.nodup_cons.2 ⟨hn, ha⟩) (fun y hy => by
    rcases List.mem_cons.1 hy with rfl | hy
    · exact hx
    · exact hs y hy)
  simp only [List.length_cons] at this
  omega
theorem regs_le {l : List Int} (hn : l.Nodup) (h : ∀ r ∈ l, 1 ≤ r ∧ r ≤ 4096) : l.length ≤ 4096 := by
  have := nodup_le (m := (List.range 4096).map fun k : Nat => (k : Int) + 1) hn (fun r hr => by
    have := h r hr
    exact List.mem_map.2 ⟨(r - 1).toNat, List.mem_range.2 (by omega), by omega⟩)
  simpa using this
/-- Strictly rising rows of the same members are one. -/
theorem rise_ext : ∀ {a b : List Int}, a.Pairwise (· < ·) → b.Pairwise (· < ·) → (∀ r, r ∈ a ↔ r ∈ b) → a = b
  | [], [], _, _, _ => rfl
  | [], y :: b, _, _, h => absurd ((h y).2 List.mem_cons_self) (by simp)
  | x :: a, [], _, _, h => absurd ((h x).1 List.mem_cons_self) (by simp)
  | x :: a, y :: b, ha, hb, h => by
    rw [List.pairwise_cons] at ha hb
    have hxy : x = y := by
      have h1 := (h x).1 List.mem_cons_self
      have h2 := (h y).2 List.mem_cons_self
      rcases List.mem_cons.1 h1 with h1 | h1
      · exact h1
      · rcases List.mem_cons.1 h2 with h2 | h2
        · exact h2.symm
        · have := ha.1 y h2; have := hb.1 x h1; omega
    subst hxy
    have := rise_ext ha.2 hb.2 (fun r => by
      have := h r
      constructor
      · intro hr
        rcases List.mem_cons.1 (this.1 (List.mem_cons_of_mem _ hr)) with e | e
        · have := ha.1 r hr; omega
        · exact e
      · intro hr
        rcases List.mem_cons.1 (this.2 (List.mem_cons_of_mem _ hr)) with e | e
        · have := hb.1 r hr; omega
        · exact e)
    rw [this]
/-! ### Sizes of sets -/
/-- P holds of m numbers. -/
def Sz (P : Int → Prop) (m : Nat) : Prop := ∃ l : List Int, l.Nodup ∧ (∀ r, r ∈ l ↔ P r) ∧ l.length = m
theorem Sz.le {P Q : Int → Prop} {a b : Nat} (h : Sz P a) (k : Sz Q b) (hs : ∀ r, P r → Q r) : a ≤ b := by
  obtain ⟨l, h1, h2, rfl⟩ := h
  obtain ⟨m, k1, k2, rfl⟩ := k
  exact nodup_le h1 (fun x hx => (k2 x).2 (hs x ((h2 x).1 hx)))
theorem Sz.same {P Q : Int → Prop} {a b : Nat} (h : Sz P a) (k : Sz Q b) (hs : ∀ r, P r → Q r) (hl : b ≤ a) : ∀ r, Q r → P r := by
  obtain ⟨l, h1, h2, rfl⟩ := h
  obtain ⟨m, k1, k2, rfl⟩ := k
  intro r hr
  exact (h2 r).1 (same_of_le h1 k1 (fun x hx => (k2 x).2 (hs x ((h2 x).1 hx))) hl r ((k2 r).2 hr))
theorem Sz.uniq {P : Int → Prop} {a b : Nat} (h : Sz P a) (k : Sz P b) : a = b := Nat.le_antisymm (h.le k fun _ h => h) (k.le h fun _ h => h)
theorem Sz.regs {P : Int → Prop} {a : Nat} (h : Sz P a) (hr : ∀ r, P r → 1 ≤ r ∧ r ≤ 4096) : a ≤ 4096 := by
  obtain ⟨l, h1, h2, rfl⟩ := h
  exact regs_le h1 (fun r hr' => hr r ((h2 r).1 hr'))
/-- The sets' sizes, together. -/
def Tot (I : Nat → Int → Prop) (n s : Nat) : Prop := ∃ L : Nat → Nat, (∀ i, i < n → Sz (I i) (L i) ∧ L i ≤ 4096) ∧ s = ((List.range n).map L).sum
theorem sum_le (L : Nat → Nat) (b : Nat) : ∀ n, (∀ i, i < n → L i ≤ b) → ((List.range n).map L).sum ≤ n * b
  | 0, _ => Nat.zero_le _
  | n + 1, h => by
    have := sum_le L b n (fun i hi => h i (by omega))
    have h2 := h n (by omega)
    rw [List.range_succ, List.map_append, List.sum_append, Nat.succ_mul]
    simp
    omega
theorem sum_set (L L' : Nat → Nat) (k : Nat) : ∀ n, (∀ i, i < n → i ≠ k → L' i = L i) → (k < n → L k < L' k) → (k < n → ((List.range n).map L).sum < ((List.range n).map L').sum) ∧ (n ≤ k → ((List.range n).map L).sum = ((List.range n).map L').sum)
  | 0, _, _ => ⟨fun h => absurd h (Nat.not_lt_zero _), fun _ => rfl⟩
  | n + 1, h, hk => by
    have ih := sum_set L L' k n (fun i hi => h i (by omega)) (fun hi => hk (by omega))
    simp only [List.range_succ, List.map_append, List.sum_append, List.map_cons, List.map_nil, List.sum_cons, List.sum_nil, Nat.add_zero]
    refine ⟨fun hlt => ?_, fun hle => ?_⟩
    · by_cases e : n = k
      · subst e
        have := ih.2 (Nat.le_refl _)
        have := hk (by omega)
        omega
      · have := ih.1 (by omega)
        have := h n (by omega) e
        omega
    · have := ih.2 (by omega)
      have := h n (by omega) (by omega)
      omega
theorem Tot.le {I : Nat → Int → Prop} {n s : Nat} (h : Tot I n s) : s ≤ n * 4096 := by
  obtain ⟨L, h1, rfl⟩ := h
  exact sum_le L 4096 n (fun i hi => (h1 i hi).2)
theorem Tot.set {I : Nat → Int → Prop} {n s k a b : Nat} {P : Int → Prop} (h : Tot I n s) (hk : k < n) (ha : Sz (I k) a) (hb : Sz P b) (hab : a < b) (hb4 : b ≤ 4096) : ∃ s', Tot (fun i r => if i = k then P r else I i r) n s' ∧ s < s' := by
  obtain ⟨L, h1, rfl⟩ := h
  refine ⟨_, ⟨fun i => if i = k then b else L i, fun i hi => ?_, rfl⟩, ?_⟩
  · by_cases e : i = k
    · simp only [if_pos e]; exact ⟨hb, hb4⟩
    · simp only [if_neg e]; exact h1 i hi
  · refine (sum_set L (fun i => if i = k then b else L i) k n (fun i _ e => if_neg e) (fun _ => ?_)).1 hk
    simp only [if_pos]
    have := (h1 k hk).1.uniq ha
    omega
theorem Tot.zero (n : Nat) : Tot (fun _ _ => False) n ((List.range n).map fun _ => 0).sum := ⟨fun _ => 0, fun i hi => ⟨⟨[], List.nodup_nil, fun r => by simp, rfl⟩, Nat.zero_le _⟩, rfl⟩
end Go.Lv
namespace Go.Lv
set_option linter.unusedVariables false
/-! ### What is live comes from somewhere, and is read somewhere -/
theorem at_lo {g : G} {r : Int} {i : Nat} : ∀ {k : Nat}, k ≤ g.len i → At g r i k → At g r i 0 ∨ ∃ k', k' < k ∧ g.set i k' = r
  | 0, _, h => .inl h
  | k + 1, hk, h => by
    by_cases e : g.set i k = r
    · exact .inr ⟨k, Nat.lt_succ_self k, e⟩
    · rcases at_lo (k := k) (by omega) (.step (by omega) (fun h => e h.symm) h) with h1 | ⟨k', h1, h2⟩
      · exact .inl h1
      · exact .inr ⟨k', by omega, h2⟩
theorem at_hi {g : G} {r : Int} {i k : Nat} (h : At g r i k) : (∃ k', k ≤ k' ∧ k' < g.len i ∧ r ∈ g.use i k') ∨ r ∈ g.tuse i ∨ ∃ j : Nat, (j : Int) ∈ g.succ i ∧ At g r j 0 := by
  induction h with
  | use h1 h2 => exact .inl ⟨_, Nat.le_refl _, h1, h2⟩
  | step h1 h2 h3 ih =>
    rcases ih with ⟨k', a, b, c⟩ | h
    · exact .inl ⟨k', by omega, b, c⟩
    · exact .inr h
  | tuse h => exact .inr (.inl h)
  | jump h1 h2 _ => exact .inr (.inr ⟨_, h1, h2⟩)
theorem Sz.imp {P Q : Int → Prop} {m : Nat} (h : Sz P m) (hq : ∀ r, P r ↔ Q r) : Sz Q m := by
  obtain ⟨l, h1, h2, h3⟩ := h
  exact ⟨l, h1, fun r => (h2 r).trans (hq r), h3⟩
end Go.Lv
