import Derived.Test.YtncpgclcbdgndaaOrup
import Derived.Laws.AppendOwnNone
import Derived.ArgAppend
namespace Go.Proofs.Ytncpgclcbdgndaa.S
open Go.RowKit Go.Proofs.YtncpgclcbdgndaaW.PrintWords Go.Proofs.YtncpgclcbdgndaaW.PrintLast Go.Proofs.YtncpgclcbdgndaaW.PrintMore
set_option linter.unusedVariables false
/-! ### The two appends among the drawn -/
theorem info3' : (Try.prog.info? 3).map (fun i => (i.zero, i.size, i.bytes)) = some (some (.int .i64 0), 1, 8) := by kernel_rfl
theorem nums_cells {w : World} {ad : Addr} {ys : List Int} (hc : ∀ j, j < ys.length → w.cell? (ad.add j) = some (.int .i64 (ys.getD j 0))) : ∀ (j : Nat) (u : Value), (nums .i64 ys)[j]? = some u → w.cell? (ad.add j) = some u := by
  intro j u hu
  have hj : j < ys.length := by
    rcases Nat.lt_or_ge j ys.length with h | h
    · exact h
    · simp [nums, List.getElem?_eq_none h] at hu
  rw [hc j hj]
  simp [nums, List.getElem?_eq_getElem hj] at hu
  rw [← hu]
  simp [List.getD_eq_getElem?_getD, List.getElem?_eq_getElem hj]
theorem nums_one (ys : List Int) : ∀ u ∈ nums .i64 ys, u.oneCell' = true := by
  intro u hu
  simp only [nums, List.mem_map] at hu
  obtain ⟨q, _, rfl⟩ := hu
  rfl
theorem own_Rx {z : Nat} {xs : List Int} {x : Int} {W : World} {base n : Nat} {v : Value} {ys : List Value} (ho : W.ownsRow base 3 1 v n ys) (hv : 0 < n) (hb : z ≤ base) : ∃ g cap cur, v = .slice (some ⟨g, 0, none⟩) n cap ∧ z ≤ g ∧ W.heap[g]? = some (.cells cur 3 (0, 0)) ∧ n ≤ cap ∧ cap ≤ maxLen ∧ cur.size = cap ∧ cur.toList.take n = ys := by
  rcases ho.2 with ⟨_, h⟩ | ⟨g, cap, cur, h1, h2, h3, h4, h5, h6, h7⟩
  · omega
  · exact ⟨g, cap, cur, h1, by omega, h3, h4, h5, by omega, by rwa [Nat.mul_one] at h7⟩
section
variable {ops : Array Oper} {rest : List Oper} {o : Oper} {a : Act} {Q : Exit → Act → World → Prop}
theorem app_first (w' : World) (hgd : o.guard = none) (s x : Operand) (ho : o.op = .call { callee := .builtin .append, args := #[s, x], argTypes := #[35, 35] })
    (z : Nat) (xs : List Int) (y : Int) (g : Nat) (hs : a.eval s = .slice (some ⟨g, 0, none⟩) 0 0) (A : Option Addr) (c : Nat) (hx : a.eval x = .slice A xs.length c) (hAn : A = none → c = 0) (HR : ReadsInt w' .i64 A xs.length xs)
    (hg : z ≤ g) (hb : w'.heap[g]? = some (.cells #[] 3 (0, 0))) (hzs : z ≤ w'.heap.size) (hl : xs.length ≤ 1000000000000) (h : ∀ v1 w1, Sx z xs y w' w1 → Rx z xs y 4 [v1] w1 → wpList Try.prog ops Q rest (a.put o.dst v1) w1) : wpList Try.prog ops Q (o :: rest) a w' := by
  obtain ⟨i0, hi, hzz⟩ := Option.map_eq_some_iff.1 info3'
  simp only [Prod.mk.injEq] at hzz
  obtain ⟨hz0, hz1, hz2⟩ := hzz
  have hown : w'.ownsRow z 3 1 (.slice (some ⟨g, 0, none⟩) 0 0) 0 [] := ⟨by simp, .inr ⟨g, 0, #[], rfl, hg, hb, Nat.le_refl _, by simp [maxLen], by simp, by simp⟩⟩
  by_cases hk : xs = []
  · subst hk
    have hR4 : Rx z [] y 4 [.slice (some ⟨g, 0, none⟩) 0 0] w' := by
      unfold Rx
      rw [if_neg (by decide), if_neg (by decide), if_pos rfl]
      exact ⟨g, 0, #[], rfl, hg, hb, Nat.le_refl _, by simp [maxLen], by simp, by simp [nums]⟩
    rcases A with _ | ad
    · obtain rfl := hAn rfl
      exact wpList_append_own_none hgd s x 35 ho z 3 i0 1 Try.underlying35 hi _ 0 [] hs hown hx (h _ _ (Sx.refl _ _ _ _) hR4)
    · refine wpList_append_arg w' hgd s x 35 ho 3 i0 (.int .i64 0) 1 8 Try.underlying35 hi hz0 hz1 hz2 rfl (by omega) g 0 0 0 [] hs rfl (by simp) ad 0 c [] hx rfl (by simp) (by simp) (fun _ j hj => by simp at hj) (by simp [maxLen]) (by omega) (fun _ => ?_) (fun h => by omega)
      exact h _ _ (Sx.refl _ _ _ _) hR4
  · have hpos : 0 < xs.length := List.length_pos_iff.2 hk
    obtain ⟨ad, rfl, hc⟩ := HR.2.2 hpos
    refine wpList_append_arg w' hgd s x 35 ho 3 i0 (.int .i64 0) 1 8 Try.underlying35 hi hz0 hz1 hz2 rfl (by omega) g 0 0 0 [] hs rfl (by simp) ad xs.length c (nums .i64 xs) hx (by simp [nums]) (nums_cells hc) (nums_one xs) (fun h => by omega) (by simp only [maxLen]; omega) (by omega) (fun h => by omega) (fun _ v1 w1 hown1 hgr => ?_)
    rw [Nat.zero_add, List.nil_append] at hown1
    refine h v1 w1 (Sx.of_below ⟨hgr.os, hgr.tape, hgr.output, hgr.size, fun i hi => hgr.block i hi (by simp)⟩) ?_
    unfold Rx
    rw [if_neg (by decide), if_neg (by decide), if_pos rfl]
    obtain ⟨g1, cap, cur, rfl, r⟩ := own_Rx (z := z) (xs := xs) (x := y) hown1 hpos hzs
    exact ⟨g1, cap, cur, rfl, r⟩
theorem app_second (w' : World) (hgd : o.guard = none) (s x : Operand) (ho : o.op = .call { callee := .builtin .append, args := #[s, x], argTypes := #[35, 35] })
    (z : Nat) (xs : List Int) (y : Int) (v4 v10 : Value) (hs : a.eval s = v4) (hx : a.eval x = v10) (h4 : Rx z xs y 4 [v4] w') (h10 : Rx z xs y 10 [v10] w') (hzs : z ≤ w'.heap.size) (hl : xs.length ≤ 1000000000000)
    (h : ∀ v1 w1, Sx z xs y w' w1 → Rx z xs y 11 [v1] w1 → wpList Try.prog ops Q rest (a.put o.dst v1) w1) : wpList Try.prog ops Q (o :: rest) a w' := by
  obtain ⟨i0, hi, hzz⟩ := Option.map_eq_some_iff.1 info3'
  simp only [Prod.mk.injEq] at hzz
  obtain ⟨hz0, hz1, hz2⟩ := hzz
  unfold Rx at h4 h10
  rw [if_neg (by decide), if_neg (by decide), if_pos rfl] at h4
  rw [if_neg (by decide), if_pos rfl] at h10
  obtain ⟨g, cap, cur, e4, hg, hb, hcap, hmax, hsz, htk⟩ := h4
  obtain ⟨g', e10, hg', hb'⟩ := h10
  obtain rfl : v4 = .slice (some ⟨g, 0, none⟩) xs.length cap := by injection e4
  obtain rfl : v10 = .slice (some ⟨g', 0, none⟩) 1 1 := by injection e10
  refine wpList_append_arg w' hgd s x 35 ho 3 i0 (.int .i64 0) 1 8 Try.underlying35 hi hz0 hz1 hz2 rfl (by omega) g 0 xs.length cap (nums .i64 xs) hs (by simp [nums]) (fun j u hu => ?_) ⟨g', 0, none⟩ 1 1 [.int .i64 y] hx rfl (fun j u hu => ?_) (fun u hu => by simp at hu; rw [hu]; rfl) (fun hr j hj => ?_) (by simp only [maxLen]; omega) (by omega) (fun hr => ?_) (fun _ v1 w1 hown1 hgr => ?_)
  · have hj : j < xs.length := by
      rcases Nat.lt_or_ge j xs.length with h | h
      · exact h
      · simp [nums, List.getElem?_eq_none h] at hu
    rw [Nat.zero_add]
    refine (blk_cell hb j).trans ?_
    rw [← htk, List.getElem?_take_of_lt hj, Array.getElem?_toList] at hu
    exact hu
  · have hj : j = 0 := by
      rcases Nat.eq_zero_or_pos j with h | h
      · exact h
      · rw [List.getElem?_eq_none (by simp; omega)] at hu; cases hu
    subst hj
    simp at hu
    subst hu
    exact blk_cell hb' 0
  · have hj : j = 0 := by simp at hj; exact hj
    subst hj
    have hlt : xs.length < cur.size := by omega
    rw [Nat.zero_add, Nat.mul_one, Nat.add_zero]
    refine ⟨?_, blk_frozen hb xs.length⟩
    rw [blk_cell hb xs.length]
    simp [hlt]
  · have hlt : xs.length < cur.size := by omega
    rw [Nat.zero_add, Nat.mul_one]
    have e1 : w'.setCells g xs.length [.int .i64 y] = w'.setCell ⟨g, xs.length, none⟩ (.int .i64 y) := rfl
    rw [e1]
    have hset := blk_set hb xs.length (.int .i64 y)
    refine h _ _ ⟨rfl, rfl, rfl, by simp [World.setCell], fun i hi => ?_⟩ ?_
    · by_cases e : i = g
      · subst e
        exact .inr ⟨hg, cur, hb, hlt, htk, hset⟩
      · exact .inl (Below.heap_setCell w' _ _ i (fun e2 => e e2))
    · unfold Rx
      rw [if_neg (by decide), if_neg (by decide), if_neg (by decide), if_pos rfl]
      refine ⟨g, cap, _, rfl, hg, hset, hr, hmax, by rw [Array.size_setIfInBounds]; exact hsz, ?_⟩
      rw [Array.toList_setIfInBounds, List.take_succ_eq_append_getElem (by rw [List.length_set, Array.length_toList]; exact hlt), List.take_set_of_le (Nat.le_refl _), htk]
      simp [nums]
  · rw [show nums .i64 xs ++ [.int .i64 y] = nums .i64 (xs ++ [y]) by simp [nums]] at hown1
    refine h v1 w1 (Sx.of_below ⟨hgr.os, hgr.tape, hgr.output, hgr.size, fun i hi => hgr.block i hi (by simp)⟩) ?_
    unfold Rx
    rw [if_neg (by decide), if_neg (by decide), if_neg (by decide), if_pos rfl]
    obtain ⟨g1, cap1, cur1, rfl, r⟩ := own_Rx (z := z) (xs := xs) (x := y) hown1 (by omega) hzs
    exact ⟨g1, cap1, cur1, rfl, r⟩
end
end Go.Proofs.Ytncpgclcbdgndaa.S
