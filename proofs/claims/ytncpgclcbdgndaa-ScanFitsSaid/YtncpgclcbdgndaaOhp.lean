import Derived.Test.YtncpgclcbdgndaaOord
namespace Go.Proofs.Ytncpgclcbdgndaa.S
open Go.RowKit Go.Proofs.YtncpgclcbdgndaaW.PrintWords Go.Proofs.YtncpgclcbdgndaaW.PrintLast Go.Proofs.YtncpgclcbdgndaaW.PrintMore
set_option linter.unusedVariables false
/-! ### What the right spans are -/
abbrev fF (l : List S38) : Nat → Int := fun i : Nat => (rd_T38 l (i : Int)).f1
abbrev fT (l : List S38) : Nat → Int := fun i : Nat => (rd_T38 l (i : Int)).f2
abbrev fR (l : List S38) : Nat → Int := fun i : Nat => (rd_T38 l (i : Int)).f0
theorem rgt_all : ∀ (l : List S38) (seen : List Int), rgt l seen = true → (∀ s ∈ l, 1 ≤ s.f0 ∧ s.f0 ≤ 4096 ∧ s.f1 ≤ s.f2 ∧ s.f0 ∉ seen) ∧ (l.map (·.f0)).Nodup
  | [], seen, _ => by simp
  | s :: l, seen, h => by
    simp only [rgt] at h
    split at h
    · cases h
    split at h
    · cases h
    split at h
    · cases h
    split at h
    · cases h
    obtain ⟨h1, h2⟩ := rgt_all l _ h
    refine ⟨fun x hx => ?_, ?_⟩
    · rcases List.mem_cons.1 hx with rfl | hx
      · exact ⟨by omega, by omega, by omega, by assumption⟩
      · obtain ⟨a1, a2, a3, a4⟩ := h1 x hx
        exact ⟨a1, a2, a3, fun hm => a4 (List.mem_append_left _ hm)⟩
    · rw [List.map_cons, List.nodup_cons]
      refine ⟨fun hm => ?_, h2⟩
      obtain ⟨x, hx, hxe⟩ := List.mem_map.1 hm
      exact (h1 x hx).2.2.2 (by rw [hxe]; simp)
theorem rgt_of : ∀ (l : List S38) (seen : List Int), (∀ s ∈ l, 1 ≤ s.f0 ∧ s.f0 ≤ 4096 ∧ s.f1 ≤ s.f2 ∧ s.f0 ∉ seen) → (l.map (·.f0)).Nodup → rgt l seen = true
  | [], _, _, _ => rfl
  | s :: l, seen, h, hn => by
    obtain ⟨a1, a2, a3, a4⟩ := h s (by simp)
    rw [List.map_cons, List.nodup_cons] at hn
    simp only [rgt]
    rw [if_neg (by omega), if_neg (by omega), if_neg (by omega), if_neg a4]
    refine rgt_of l _ (fun x hx => ?_) hn.2
    obtain ⟨b1, b2, b3, b4⟩ := h x (by simp [hx])
    refine ⟨b1, b2, b3, fun hm => ?_⟩
    rcases List.mem_append.1 hm with hm | hm
    · exact b4 hm
    · simp only [List.mem_singleton] at hm
      exact hn.1 (List.mem_map.2 ⟨x, hx, hm⟩)
section
variable {l : List S38}
theorem rgt_len (h : rgt l [] = true) : l.length ≤ 4096 := by
  obtain ⟨h1, h2⟩ := rgt_all l [] h
  have hs : l.map (·.f0) ⊆ (List.range 4097).map fun i : Nat => (i : Int) := by
    intro x hx
    obtain ⟨s, hs, rfl⟩ := List.mem_map.1 hx
    obtain ⟨a1, a2, _, _⟩ := h1 s hs
    exact List.mem_map.2 ⟨s.f0.toNat, List.mem_range.2 (by omega), by omega⟩
  have hz : l.map (·.f0) ⊆ ((List.range 4096).map fun i : Nat => ((i : Int) + 1)) := by
    intro x hx
    obtain ⟨s, hs, rfl⟩ := List.mem_map.1 hx
    obtain ⟨a1, a2, _, _⟩ := h1 s hs
    exact List.mem_map.2 ⟨s.f0.toNat - 1, List.mem_range.2 (by omega), by omega⟩
  have := List.Nodup.length_le_of_subset h2 hz
  simpa using this
theorem rgt_at (h : rgt l [] = true) {i : Nat} (hi : i < l.length) : 1 ≤ fR l i ∧ fR l i ≤ 4096 ∧ fF l i ≤ fT l i := by
  obtain ⟨h1, h2⟩ := rgt_all l [] h
  obtain ⟨a1, a2, a3, _⟩ := h1 l[i] (List.getElem_mem hi)
  unfold fR fF fT
  rw [rd38 hi]
  exact ⟨a1, a2, a3⟩
theorem rgt_inj (h : rgt l [] = true) {i j : Nat} (hi : i < l.length) (hj : j < l.length) (hij : i ≠ j) : fR l i ≠ fR l j := by
  obtain ⟨h1, h2⟩ := rgt_all l [] h
  unfold fR
  rw [rd38 hi, rd38 hj]
  intro e
  unfold List.Nodup at h2
  rw [List.pairwise_iff_getElem] at h2
  rcases Nat.lt_or_gt_of_ne hij with h3 | h3
  · exact h2 i j (by simpa using hi) (by simpa using hj) h3 (by simpa using e)
  · exact h2 j i (by simpa using hj) (by simpa using hi) h3 (by simpa using e.symm)
end
/-! ### The order -/
def leq (l : List S38) (i j : Nat) : Bool := !decide (cmp3 l j i < 0)
def ordOf (l : List S38) : List Nat := (List.range l.length).mergeSort (leq l)
theorem leq_iff {l : List S38} {i j : Nat} : leq l i j = true ↔ ¬ cmp3 l j i < 0 := by unfold leq; simp
theorem ordOf_perm (l : List S38) : (ordOf l).Perm (List.range l.length) := List.mergeSort_perm _ _
theorem ordOf_sorted (l : List S38) : (ordOf l).Pairwise (fun i j => leq l i j = true) := by
  refine List.pairwise_mergeSort (fun a b c h1 h2 => ?_) (fun a b => ?_) _
  · rw [leq_iff, cmp3_lt] at *
    omega
  · rw [Bool.or_eq_true, leq_iff, leq_iff, cmp3_lt, cmp3_lt]
    omega
theorem perm_sorted_eq {α : Type} {r : α → α → Prop} : ∀ {a b : List α}, a.Perm b → a.Pairwise r → b.Pairwise r → (∀ x ∈ a, ∀ y ∈ a, r x y → r y x → x = y) → a = b
  | [], b, h, _, _, _ => (List.perm_nil.1 h.symm).symm
  | x :: a, [], h, _, _, _ => by cases List.perm_nil.1 h
  | x :: a, y :: b, h, ha, hb, hr => by
    rw [List.pairwise_cons] at ha hb
    have e : x = y := by
      rcases List.mem_cons.1 (h.mem_iff.1 (List.mem_cons_self (a := x) (l := a))) with e | hx
      · exact e
      rcases List.mem_cons.1 (h.mem_iff.2 (List.mem_cons_self (a := y) (l := b))) with e | hy
      · exact e.symm
      exact hr x (by simp) y (by simp [hy]) (ha.1 y hy) (hb.1 x hx)
    subst e
    rw [perm_sorted_eq (List.Perm.cons_inv h) ha.2 hb.2 (fun p hp q hq => hr p (by simp [hp]) q (by simp [hq]))]
theorem ord_unique {l : List S38} (h : rgt l [] = true) {ord : List Nat} (hp : ord.Perm (List.range l.length)) (hs : ord.Pairwise (fun i j => ¬ cmp3 l j i < 0)) : ord = ordOf l := by
  refine perm_sorted_eq (r := fun i j => ¬ cmp3 l j i < 0) (hp.trans (ordOf_perm l).symm) hs ((ordOf_sorted l).imp fun h => leq_iff.1 h) fun x hx y hy h1 h2 => ?_
  rw [cmp3_lt] at h1 h2
  apply Classical.byContradiction
  intro hne
  have hx' := List.mem_range.1 (hp.mem_iff.1 hx)
  have hy' := List.mem_range.1 (hp.mem_iff.1 hy)
  have h3 := rgt_inj h hx' hy' hne
  unfold fR at h3
  omega
section
variable {l : List S38}
theorem ordOf_mem {i : Nat} : i ∈ ordOf l ↔ i < l.length := by rw [(ordOf_perm l).mem_iff, List.mem_range]
theorem ordOf_nodup : (ordOf l).Nodup := (ordOf_perm l).nodup_iff.2 List.nodup_range
theorem ordOf_length : (ordOf l).length = l.length := by rw [(ordOf_perm l).length_eq, List.length_range]
theorem ordOf_F : (ordOf l).Pairwise (fun i j => fF l i ≤ fF l j) := (ordOf_sorted l).imp fun {a b} h => by
  rw [leq_iff, cmp3_lt] at h
  unfold fF
  omega
/-- What holds behind some of the order. -/
theorem inv_take (h : rgt l [] = true) {regs : Nat} (hr : regs ≤ 16) (j : Nat) : ∃ p, Scan.Inv regs (fF l) (fT l) ((ordOf l).take j) p (Scan.homes regs (fF l) (fT l) (fR l) ((ordOf l).take j)) := by
  have hm : ∀ i ∈ (ordOf l).take j, i < l.length := fun i hi => ordOf_mem.1 (List.mem_of_mem_take hi)
  exact Scan.homes_inv hr (fun k hk => (rgt_at h (hm k hk)).2.2) (ordOf_nodup.sublist (List.take_sublist _ _)) (ordOf_F.sublist (List.take_sublist _ _)) (fun a ha b hb hab => rgt_inj h (hm a ha) (hm b hb) hab)
end
/-! ### The row of homes -/
abbrev h0 (H : List S40) : Nat → Int := fun i : Nat => (rd_T40 H (i : Int)).f0
abbrev h1 (H : List S40) : Nat → Int := fun i : Nat => (rd_T40 H (i : Int)).f1
theorem rd40_set {H : List S40} {k : Nat} (hk : k < H.length) (x : S40) (i : Nat) : rd_T40 (H.set k x) (i : Int) = if i = k then x else rd_T40 H (i : Int) := by
  unfold rd_T40
  simp only [Int.toNat_natCast, List.getD_eq_getElem?_getD, List.getElem?_set]
  by_cases h : k = i
  · subst h
    simp [hk]
  · rw [if_neg h, if_neg (Ne.symm h)]
theorem h0_set {H : List S40} {k : Nat} (hk : k < H.length) (x : S40) : h0 (H.set k x) = Scan.upd (h0 H) k x.f0 := by
  funext i
  unfold h0 Scan.upd
  rw [rd40_set hk]
  split <;> rfl
theorem h1_set {H : List S40} {k : Nat} (hk : k < H.length) (x : S40) : h1 (H.set k x) = Scan.upd (h1 H) k x.f1 := by
  funext i
  unfold h1 Scan.upd
  rw [rd40_set hk]
  split <;> rfl
theorem h_rep (n : Nat) : h0 (List.replicate n ⟨0, 0⟩) = (fun _ => 0) ∧ h1 (List.replicate n ⟨0, 0⟩) = (fun _ => 0) := by
  have e : ∀ i : Nat, rd_T40 (List.replicate n ⟨0, 0⟩) (i : Int) = ⟨0, 0⟩ := fun i => by
    unfold rd_T40
    simp only [Int.toNat_natCast, List.getD_eq_getElem?_getD, List.getElem?_replicate]
    split <;> rfl
  constructor <;> funext i
  · unfold h0; rw [e]
  · unfold h1; rw [e]
def homesRow (regs : Nat) (l : List S38) : List S40 := (List.range l.length).map fun i => ⟨(Scan.homes regs (fF l) (fT l) (fR l) (ordOf l)).hr i, (Scan.homes regs (fF l) (fT l) (fR l) (ordOf l)).hs i⟩
theorem row_of {H : List S40} {n : Nat} (hn : H.length = n) : H = (List.range n).map fun i => ⟨h0 H i, h1 H i⟩ := by
  apply List.ext_getElem (by simp [hn])
  intro i a b
  simp only [List.getElem_map, List.getElem_range]
  unfold h0 h1
  rw [rd40 a]
def scan_Homes.f (l0 : List S38) (a1 : Int) : Option (List S40 × Int) := some (if rgt l0 [] = true ∧ 0 ≤ a1 ∧ a1 ≤ 16 then (homesRow a1.toNat l0, 0) else ([], 1))
end Go.Proofs.Ytncpgclcbdgndaa.S
