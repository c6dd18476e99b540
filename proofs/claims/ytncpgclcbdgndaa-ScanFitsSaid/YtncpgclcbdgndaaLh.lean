import Derived.Test.YtncpgclcbdgndaaOhomes
import Derived.Test.YtncpgclcbdgndaaOused
import Derived.Test.YtncpgclcbdgndaaOat
import Derived.Test.YtncpgclcbdgndaaS9a
namespace Go.Proofs.Ytncpgclcbdgndaa.S
open Go.RowKit Go.Proofs.YtncpgclcbdgndaaW.PrintWords Go.Proofs.YtncpgclcbdgndaaW.PrintLast Go.Proofs.YtncpgclcbdgndaaW.PrintMore
set_option linter.unusedVariables false
/-! ### Slots -/
def i64 (x : Int) : Prop := -9223372036854775808 ≤ x ∧ x ≤ 9223372036854775807
theorem w64 {x : Int} (h : i64 x) : wrap64 x = x := by
  obtain ⟨h1, h2⟩ := h
  unfold wrap64
  omega
def slotStep (n : Int) (x : S40) : Int := if x.f0 = -1 ∧ x.f1 < 9223372036854775807 then max n (x.f1 + 1) else n
def slotsOf (H : List S40) : Int := H.foldl slotStep 0
theorem mx_max (a b : Int) : mx a b = max a b := by
  unfold mx
  (try split) <;> omega
theorem drop_rd40 {H : List S40} {i : Nat} (h : i < H.length) : H.drop i = rd_T40 H (i : Int) :: H.drop (i + 1) := by
  rw [rd40 h]
  exact List.drop_eq_getElem_cons h
theorem drop_rd38 {H : List S38} {i : Nat} (h : i < H.length) : H.drop i = rd_T38 H (i : Int) :: H.drop (i + 1) := by
  rw [rd38 h]
  exact List.drop_eq_getElem_cons h
theorem succ64 {i n : Nat} (h : i < n) (hn : n ≤ 1000000000000) : wrap64 ((i : Int) + 1) = ((i + 1 : Nat) : Int) := by
  unfold wrap64
  omega
theorem slots_loop (H : List S40) (hn : H.length ≤ 1000000000000) (hI : ∀ x ∈ H, i64 x.f1) : ∀ (m k i : Nat) (n : Int), H.length - i = m → i ≤ H.length → m < k → scan_Slots.l0 k n H (H.length : Int) (i : Int) = some ((H.drop i).foldl slotStep n)
  | 0, k + 1, i, n, h1, h2, h3 => by
    simp only [scan_Slots.l0]
    rw [if_neg (by omega), List.drop_of_length_le (by omega)]
    rfl
  | m + 1, k + 1, i, n, h1, h2, h3 => by
    have hi : i < H.length := by omega
    have hx : i64 (rd_T40 H (i : Int)).f1 := by rw [rd40 hi]; exact hI _ (List.getElem_mem hi)
    have ih := slots_loop H hn hI m k (i + 1)
    simp only [scan_Slots.l0]
    rw [if_pos (by omega), if_pos (by omega), if_pos (by omega), drop_rd40 hi, List.foldl_cons, succ64 hi hn]
    unfold slotStep
    by_cases c1 : (rd_T40 H (i : Int)).f0 = -1
    · rw [if_pos c1]
      by_cases c2 : (rd_T40 H (i : Int)).f1 < 9223372036854775807
      · rw [if_pos c2, if_pos ⟨c1, c2⟩, w64 (by obtain ⟨a, b⟩ := hx; exact ⟨by omega, by omega⟩), mx_max]
        exact ih _ (by omega) (by omega) (by omega)
      · rw [if_neg c2, if_neg (fun h => c2 h.2)]
        exact ih _ (by omega) (by omega) (by omega)
    · rw [if_neg c1, if_neg (fun h => c1 h.1)]
      exact ih _ (by omega) (by omega) (by omega)
theorem slots_f (H : List S40) (hn : H.length ≤ 1000000000000) (hI : ∀ x ∈ H, i64 x.f1) (k : Nat) (hk : H.length < k) : scan_Slots.f k H = some (slotsOf H) := by
  unfold scan_Slots.f
  have := slots_loop H hn hI H.length k 0 0 rfl (Nat.zero_le _) hk
  simpa [slotsOf] using this
theorem slots_ge : ∀ (H : List S40) (n : Int), n ≤ H.foldl slotStep n ∧ ∀ x ∈ H, x.f0 = -1 → x.f1 < 9223372036854775807 → x.f1 + 1 ≤ H.foldl slotStep n
  | [], n => by simp
  | x :: H, n => by
    obtain ⟨h1, h2⟩ := slots_ge H (slotStep n x)
    have h3 : n ≤ slotStep n x := by unfold slotStep; split <;> omega
    refine ⟨Int.le_trans h3 h1, fun y hy a b => ?_⟩
    rcases List.mem_cons.1 hy with rfl | hy
    · have : y.f1 + 1 ≤ slotStep n y := by unfold slotStep; rw [if_pos ⟨a, b⟩]; omega
      exact Int.le_trans this h1
    · exact h2 y hy a b
theorem slots_le : ∀ (H : List S40) (n m : Int), n ≤ m → (∀ x ∈ H, x.f0 = -1 → x.f1 + 1 ≤ m) → H.foldl slotStep n ≤ m
  | [], n, m, h, _ => h
  | x :: H, n, m, h, hx => by
    refine slots_le H (slotStep n x) m ?_ (fun y hy => hx y (by simp [hy]))
    unfold slotStep
    split
    · rename_i h2
      have := hx x (by simp) h2.1
      omega
    · exact h
/-! ### The homes' row -/
section
variable {l : List S38} {regs : Nat}
abbrev HS (regs : Nat) (l : List S38) : Scan.St := Scan.homes regs (fF l) (fT l) (fR l) (ordOf l)
theorem homesRow_length : (homesRow regs l).length = l.length := by simp [homesRow]
theorem homesRow_rd {i : Nat} (hi : i < l.length) : rd_T40 (homesRow regs l) (i : Int) = ⟨(HS regs l).hr i, (HS regs l).hs i⟩ := by
  rw [rd40 (by rw [homesRow_length]; exact hi)]
  simp [homesRow]
theorem homesRow_mem {x : S40} (h : x ∈ homesRow regs l) : ∃ i, i < l.length ∧ x = ⟨(HS regs l).hr i, (HS regs l).hs i⟩ := by
  unfold homesRow at h
  rw [List.mem_map] at h
  obtain ⟨i, hi, rfl⟩ := h
  exact ⟨i, List.mem_range.1 hi, rfl⟩
theorem inv_all (h : rgt l [] = true) (hr : regs ≤ 16) : ∃ p, Scan.Inv regs (fF l) (fT l) (ordOf l) p (HS regs l) := by
  obtain ⟨p, hp⟩ := inv_take h hr l.length
  rw [List.take_of_length_le (by rw [ordOf_length]; exact Nat.le_refl _)] at hp
  exact ⟨p, hp⟩
theorem sl_le (h : rgt l [] = true) (hr : regs ≤ 16) : (HS regs l).sl ≤ l.length := by
  obtain ⟨p, hp⟩ := inv_all h hr
  have := hp.sl_le
  rwa [ordOf_length] at this
theorem homes_i64 (h : rgt l [] = true) (hr : regs ≤ 16) : ∀ x ∈ homesRow regs l, i64 x.f1 := by
  intro x hx
  obtain ⟨i, hi, rfl⟩ := homesRow_mem hx
  obtain ⟨p, hp⟩ := inv_all h hr
  have h1 := hp.dom i (ordOf_mem.2 hi)
  have h2 := sl_le h hr
  have h3 := rgt_len h
  show i64 ((HS regs l).hs i)
  rcases h1 with ⟨_, a, b⟩ | ⟨_, _, a⟩
  · exact ⟨by omega, by omega⟩
  · rw [a]; exact ⟨by decide, by decide⟩
theorem slots_homes (h : rgt l [] = true) (hr : regs ≤ 16) (k : Nat) (hk : l.length < k) : scan_Slots.f k (homesRow regs l) = some ((HS regs l).sl : Int) := by
  have hlen := rgt_len h
  rw [slots_f _ (by rw [homesRow_length]; omega) (homes_i64 h hr) k (by rw [homesRow_length]; exact hk)]
  obtain ⟨p, hp⟩ := inv_all h hr
  have hsl := sl_le h hr
  congr 1
  apply Int.le_antisymm
  · refine slots_le _ _ _ (by omega) fun x hx h0 => ?_
    obtain ⟨i, hi, rfl⟩ := homesRow_mem hx
    have h1 := hp.dom i (ordOf_mem.2 hi)
    have h0 : (HS regs l).hr i = -1 := h0
    show (HS regs l).hs i + 1 ≤ _
    rcases h1 with ⟨_, a, b⟩ | ⟨c, _, a⟩
    · omega
    · omega
  · obtain ⟨h1, h2⟩ := slots_ge (homesRow regs l) 0
    by_cases hz : (HS regs l).sl = 0
    · rw [hz]; exact h1
    · obtain ⟨i, hi, ha, hb⟩ := hp.all ((HS regs l).sl - 1) (by omega)
      have hil := ordOf_mem.1 hi
      have := h2 ⟨(HS regs l).hr i, (HS regs l).hs i⟩ (by unfold homesRow; exact List.mem_map.2 ⟨i, List.mem_range.2 hil, rfl⟩) ha (by show (HS regs l).hs i < _; rw [hb]; omega)
      have h3 : (HS regs l).hs i + 1 ≤ slotsOf (homesRow regs l) := this
      rw [hb] at h3
      show ((HS regs l).sl : Int) ≤ slotsOf (homesRow regs l)
      omega
end
theorem homes_f {l : List S38} {a1 : Int} (h : rgt l [] = true) (h0 : 0 ≤ a1) (h1 : a1 ≤ 16) : scan_Homes.f l a1 = some (homesRow a1.toNat l, 0) := by
  unfold scan_Homes.f
  rw [if_pos ⟨h, h0, h1⟩]
/-! ### Most -/
def mostOf (l : List S38) : Int := l.foldl (fun n s => max n ((ats l s.f1).length : Int)) 0
theorem most_loop (l : List S38) (hn : l.length ≤ 1000000000000) : ∀ (m k i : Nat) (n : Int), l.length - i = m → i ≤ l.length → m < k → spans_Most.l0 k l n l (l.length : Int) (i : Int) = some ((l.drop i).foldl (fun n s => max n ((ats l s.f1).length : Int)) n)
  | 0, k + 1, i, n, h1, h2, h3 => by
    simp only [spans_Most.l0]
    rw [if_neg (by omega), List.drop_of_length_le (by omega)]
    rfl
  | m + 1, k + 1, i, n, h1, h2, h3 => by
    have hi : i < l.length := by omega
    have ih := most_loop l hn m k (i + 1)
    simp only [spans_Most.l0]
    rw [if_pos (by omega), if_pos (by omega), if_pos (by omega), drop_rd38 hi, List.foldl_cons, succ64 hi hn]
    unfold spans_At.f
    rw [if_pos hn]
    show spans_Most.l0 k l (mx n ((srt (ats l (rd_T38 l (i : Int)).f1)).length : Int)) l (l.length : Int) ((i + 1 : Nat) : Int) = _
    rw [srt_length, mx_max]
    exact ih _ (by omega) (by omega) (by omega)
theorem most_f (l : List S38) (hn : l.length ≤ 1000000000000) (k : Nat) (hk : l.length < k) : spans_Most.f k l = some (mostOf l) := by
  unfold spans_Most.f
  have := most_loop l hn l.length k 0 0 rfl (Nat.zero_le _) hk
  simpa [mostOf] using this
theorem most_ge {α : Type} (f : α → Int) : ∀ (l : List α) (n : Int), n ≤ l.foldl (fun n s => max n (f s)) n ∧ ∀ x ∈ l, f x ≤ l.foldl (fun n s => max n (f s)) n
  | [], n => by simp
  | x :: l, n => by
    obtain ⟨h1, h2⟩ := most_ge f l (max n (f x))
    refine ⟨Int.le_trans (Int.le_max_left _ _) h1, fun y hy => ?_⟩
    rcases List.mem_cons.1 hy with rfl | hy
    · exact Int.le_trans (Int.le_max_right _ _) h1
    · exact h2 y hy
theorem most_le {α : Type} (f : α → Int) : ∀ (l : List α) (n m : Int), n ≤ m → (∀ x ∈ l, f x ≤ m) → l.foldl (fun n s => max n (f s)) n ≤ m
  | [], n, m, h, _ => h
  | x :: l, n, m, h, hx => most_le f l (max n (f x)) m (by have := hx x (by simp); omega) (fun y hy => hx y (by simp [hy]))
/-- How many there are at a place. -/
theorem ats_cover (l : List S38) (p : Int) : (ats l p).length = Scan.cover (fF l) (fT l) (List.range l.length) p := by
  unfold ats Scan.cover
  rw [List.length_map]
  have e : l = (List.range l.length).map (fun i : Nat => rd_T38 l (i : Int)) := by
    apply List.ext_getElem (by simp)
    intro i a b
    simp only [List.getElem_map, List.getElem_range]
    rw [rd38 a]
  conv => lhs; rw [e]
  rw [List.filter_map, List.length_map]
  rfl
end Go.Proofs.Ytncpgclcbdgndaa.S
