import Derived.Test.YtnkgbnbbmcoiiaaOat
import Derived.Test.YtnkgbnbbmcoiiaaRel
import Derived.Laws.AppendOwnNone
import Derived.ArgAppend
import Derived.Test.YtnkgbnbbmcoiiaaObeh
namespace Go.Proofs.Ytnkgbnbbmcoiiaa.S
open Go.RowKit Go.Proofs.YtnkgbnbbmcoiiaaW.PrintWords Go.Proofs.YtnkgbnbbmcoiiaaW.PrintLast Go.Proofs.YtnkgbnbbmcoiiaaW.PrintMore
set_option linter.unusedVariables false
/-! ### Worlds behind an append in place -/
structure Sx (z : Nat) (xs : List Int) (x : Int) (w w' : World) : Prop where
  os : w'.os = w.os
  tape : w'.tape = w.tape
  output : w'.output = w.output
  size : w.heap.size ≤ w'.heap.size
  block : ∀ g, g < w.heap.size → w'.heap[g]? = w.heap[g]? ∨ (z ≤ g ∧ ∃ cur, w.heap[g]? = some (.cells cur 3 (0, 0)) ∧ xs.length < cur.size ∧ cur.toList.take xs.length = nums .i64 xs ∧ w'.heap[g]? = some (.cells (cur.setIfInBounds xs.length (.int .i64 x)) 3 (0, 0)))
section
variable {z : Nat} {xs : List Int} {x : Int} {w w' w0 : World}
theorem Sx.refl (z : Nat) (xs : List Int) (x : Int) (w : World) : Sx z xs x w w := ⟨rfl, rfl, rfl, Nat.le_refl _, fun _ _ => .inl rfl⟩
theorem Sx.of_below (h : Below w.heap.size w w') : Sx z xs x w w' := ⟨h.os, h.tape, h.output, h.size, fun g hg => .inl (h.block g hg)⟩
theorem Sx.cls (h : Below z w0 w) (k : Sx z xs x w w') (hz : z ≤ w.heap.size) : Below z w0 w' :=
  ⟨k.os.trans h.os, k.tape.trans h.tape, k.output.trans h.output, Nat.le_trans h.size k.size, fun g hg => by
    rcases k.block g (by omega) with h1 | ⟨h1, _⟩
    · exact h1.trans (h.block g hg)
    · omega⟩
/-- What the loud operations tell. -/
def Rx (z : Nat) (xs : List Int) (x : Int) (n : Nat) (vs : List Value) (W : World) : Prop :=
  if n = 0 then ∃ g, vs = [.slice (some ⟨g, 0, none⟩) 0 0] ∧ z ≤ g ∧ W.heap[g]? = some (.cells #[] 3 (0, 0))
  else if n = 10 then ∃ g, vs = [.slice (some ⟨g, 0, none⟩) 1 1] ∧ z ≤ g ∧ W.heap[g]? = some (.cells #[.int .i64 x] 3 (0, 0))
  else if n = 4 then ∃ g cap cur, vs = [.slice (some ⟨g, 0, none⟩) xs.length cap] ∧ z ≤ g ∧ W.heap[g]? = some (.cells cur 3 (0, 0)) ∧ xs.length ≤ cap ∧ cap ≤ maxLen ∧ cur.size = cap ∧ cur.toList.take xs.length = nums .i64 xs
  else if n = 11 then ∃ g cap cur, vs = [.slice (some ⟨g, 0, none⟩) (xs.length + 1) cap] ∧ z ≤ g ∧ W.heap[g]? = some (.cells cur 3 (0, 0)) ∧ xs.length + 1 ≤ cap ∧ cap ≤ maxLen ∧ cur.size = cap ∧ cur.toList.take (xs.length + 1) = nums .i64 (xs ++ [x])
  else True
theorem Sx.lt (h : Sx z xs x w w') {g : Nat} {cur : Array Value} (hg : w.heap[g]? = some (.cells cur 3 (0, 0))) : w'.heap[g]? = some (.cells cur 3 (0, 0)) ∨ (xs.length < cur.size ∧ w'.heap[g]? = some (.cells (cur.setIfInBounds xs.length (.int .i64 x)) 3 (0, 0))) := by
  rcases h.block g (Array.getElem?_eq_some_iff.1 hg).1 with h1 | ⟨_, cur', h1, h2, h3, h4⟩
  · exact .inl (h1.trans hg)
  · rw [hg] at h1
    injection h1 with h1
    injection h1 with h1
    subst h1
    exact .inr ⟨h2, h4⟩
theorem take_set {cur : Array Value} {n : Nat} {v : Value} : (cur.setIfInBounds n v).toList.take n = cur.toList.take n := by
  rw [Array.toList_setIfInBounds, List.take_set_of_le (Nat.le_refl _)]
theorem Rx.keep (n : Nat) (vs : List Value) (a b : World) (h : Rx z xs x n vs a) (k : Sx z xs x a b) : Rx z xs x n vs b := by
  unfold Rx at h ⊢
  split at h
  · rename_i e; rw [if_pos e]
    obtain ⟨g, h1, h2, h3⟩ := h
    refine ⟨g, h1, h2, ?_⟩
    rcases k.lt h3 with h4 | ⟨h4, _⟩
    · exact h4
    · simp at h4
  · rename_i e; rw [if_neg e]
    split at h
    · rename_i e2; rw [if_pos e2]
      obtain ⟨g, h1, h2, h3⟩ := h
      refine ⟨g, h1, h2, ?_⟩
      rcases k.lt h3 with h4 | ⟨h4, h5⟩
      · exact h4
      · have h6 : xs.length = 0 := by simpa using h4
        rw [h5, h6]
        rfl
    · rename_i e2; rw [if_neg e2]
      split at h
      · rename_i e3; rw [if_pos e3]
        obtain ⟨g, cap, cur, h1, h2, h3, h4, h5, h6, h7⟩ := h
        rcases k.lt h3 with h8 | ⟨_, h8⟩
        · exact ⟨g, cap, cur, h1, h2, h8, h4, h5, h6, h7⟩
        · exact ⟨g, cap, _, h1, h2, h8, h4, h5, by rw [Array.size_setIfInBounds]; exact h6, by rw [take_set]; exact h7⟩
      · rename_i e3; rw [if_neg e3]
        split at h
        · rename_i e4; rw [if_pos e4]
          obtain ⟨g, cap, cur, h1, h2, h3, h4, h5, h6, h7⟩ := h
          rcases k.lt h3 with h8 | ⟨hlt, h8⟩
          · exact ⟨g, cap, cur, h1, h2, h8, h4, h5, h6, h7⟩
          · refine ⟨g, cap, _, h1, h2, h8, h4, h5, by rw [Array.size_setIfInBounds]; exact h6, ?_⟩
            have e5 : cur.toList[xs.length]? = some (.int .i64 x) := by
              have e6 := congrArg (·[xs.length]?) h7
              simpa [List.getElem?_take, nums] using e6
            have e7 : cur.setIfInBounds xs.length (.int .i64 x) = cur := by
              apply Array.ext_getElem?
              intro i
              rw [Array.getElem?_setIfInBounds]
              split
              · rename_i e8
                subst e8
                rw [← e5, Array.getElem?_toList]
              · rfl
            rw [e7]
            exact h7
        · rename_i e4; rw [if_neg e4]; trivial
end
/-! ### The insertion -/
def insAt (out : List Int) (k : Nat) (x : Int) : List Int := out.take k ++ [x] ++ out.drop k
end Go.Proofs.Ytnkgbnbbmcoiiaa.S
namespace Go.Proofs.Ytnkgbnbbmcoiiaa.S
open Go.RowKit Go.Proofs.YtnkgbnbbmcoiiaaW.PrintWords Go.Proofs.YtnkgbnbbmcoiiaaW.PrintLast Go.Proofs.YtnkgbnbbmcoiiaaW.PrintMore
set_option linter.unusedVariables false
/-! ### The two appends among the drawn -/
theorem info3' : (Try.prog.info? 3).map (fun i => (i.zero, i.size, i.bytes)) = some (some (.int .i64 0), 1, 8) := by kernel_rfl
theorem nums_cells {w : World} {ad : Addr} {ys : List Int} (hc : ∀ j, j < ys.length → w.cell? (ad.add j) = some (.int .i64 (ys.getD j 0))) : ∀ (j : Nat) (u : Value), (nums .i64 ys)[j]? = some u → w.cell? (ad.add j) = some u := by
  intro j u hu
  have hj : j < ys.length := by
    rcases Nat.lt_or_ge j ys.length with h | h
    · exact h
    · simp [nums, List.getElem?_eq_none h] at hu
  rw [hc j hj]
  simp [nums, List.getElem?_eq_getElem hj] at hu
  rw [← hu]
  simp [List.getD_eq_getElem?_getD, List.getElem?_eq_getElem hj]
theorem nums_one (ys : List Int) : ∀ u ∈ nums .i64 ys, u.oneCell' = true := by
  intro u hu
  simp only [nums, List.mem_map] at hu
  obtain ⟨q, _, rfl⟩ := hu
  rfl
theorem own_Rx {z : Nat} {xs : List Int} {x : Int} {W : World} {base n : Nat} {v : Value} {ys : List Value} (ho : W.ownsRow base 3 1 v n ys) (hv : 0 < n) (hb : z ≤ base) : ∃ g cap cur, v = .slice (some ⟨g, 0, none⟩) n cap ∧ z ≤ g ∧ W.heap[g]? = some (.cells cur 3 (0, 0)) ∧ n ≤ cap ∧ cap ≤ maxLen ∧ cur.size = cap ∧ cur.toList.take n = ys := by
  rcases ho.2 with ⟨_, h⟩ | ⟨g, cap, cur, h1, h2, h3, h4, h5, h6, h7⟩
  · omega
  · exact ⟨g, cap, cur, h1, by omega, h3, h4, h5, by omega, by rwa [Nat.mul_one] at h7⟩
section
variable {ops : Array Oper} {rest : List Oper} {o : Oper} {a : Act} {Q : Exit → Act → World → Prop}
theorem app_first (w' : World) (hgd : o.guard = none) (s x : Operand) (ho : o.op = .call { callee := .builtin .append, args := #[s, x], argTypes := #[28, 28] })
    (z : Nat) (xs : List Int) (y : Int) (g : Nat) (hs : a.eval s = .slice (some ⟨g, 0, none⟩) 0 0) (A : Option Addr) (c : Nat) (hx : a.eval x = .slice A xs.length c) (hAn : A = none → c = 0) (HR : ReadsInt w' .i64 A xs.length xs)
    (hg : z ≤ g) (hb : w'.heap[g]? = some (.cells #[] 3 (0, 0))) (hzs : z ≤ w'.heap.size) (hl : xs.length ≤ 1000000000000) (h : ∀ v1 w1, Sx z xs y w' w1 → Rx z xs y 4 [v1] w1 → wpList Try.prog ops Q rest (a.put o.dst v1) w1) : wpList Try.prog ops Q (o :: rest) a w' := by
  obtain ⟨i0, hi, hzz⟩ := Option.map_eq_some_iff.1 info3'
  simp only [Prod.mk.injEq] at hzz
  obtain ⟨hz0, hz1, hz2⟩ := hzz
  have hown : w'.ownsRow z 3 1 (.slice (some ⟨g, 0, none⟩) 0 0) 0 [] := ⟨by simp, .inr ⟨g, 0, #[], rfl, hg, hb, Nat.le_refl _, by simp [maxLen], by simp, by simp⟩⟩
  by_cases hk : xs = []
  · subst hk
    have hR4 : Rx z [] y 4 [.slice (some ⟨g, 0, none⟩) 0 0] w' := by
      unfold Rx
      rw [if_neg (by decide), if_neg (by decide), if_pos rfl]
      exact ⟨g, 0, #[], rfl, hg, hb, Nat.le_refl _, by simp [maxLen], by simp, by simp [nums]⟩
    rcases A with _ | ad
    · obtain rfl := hAn rfl
      exact wpList_append_own_none hgd s x 28 ho z 3 i0 1 Try.underlying28 hi _ 0 [] hs hown hx (h _ _ (Sx.refl _ _ _ _) hR4)
    · refine wpList_append_arg w' hgd s x 28 ho 3 i0 (.int .i64 0) 1 8 Try.underlying28 hi hz0 hz1 hz2 rfl (by omega) g 0 0 0 [] hs rfl (by simp) ad 0 c [] hx rfl (by simp) (by simp) (fun _ j hj => by simp at hj) (by simp [maxLen]) (by omega) (fun _ => ?_) (fun h => by omega)
      exact h _ _ (Sx.refl _ _ _ _) hR4
  · have hpos : 0 < xs.length := List.length_pos_iff.2 hk
    obtain ⟨ad, rfl, hc⟩ := HR.2.2 hpos
    refine wpList_append_arg w' hgd s x 28 ho 3 i0 (.int .i64 0) 1 8 Try.underlying28 hi hz0 hz1 hz2 rfl (by omega) g 0 0 0 [] hs rfl (by simp) ad xs.length c (nums .i64 xs) hx (by simp [nums]) (nums_cells hc) (nums_one xs) (fun h => by omega) (by simp only [maxLen]; omega) (by omega) (fun h => by omega) (fun _ v1 w1 hown1 hgr => ?_)
    rw [Nat.zero_add, List.nil_append] at hown1
    refine h v1 w1 (Sx.of_below ⟨hgr.os, hgr.tape, hgr.output, hgr.size, fun i hi => hgr.block i hi (by simp)⟩) ?_
    unfold Rx
    rw [if_neg (by decide), if_neg (by decide), if_pos rfl]
    obtain ⟨g1, cap, cur, rfl, r⟩ := own_Rx (z := z) (xs := xs) (x := y) hown1 hpos hzs
    exact ⟨g1, cap, cur, rfl, r⟩
theorem app_second (w' : World) (hgd : o.guard = none) (s x : Operand) (ho : o.op = .call { callee := .builtin .append, args := #[s, x], argTypes := #[28, 28] })
    (z : Nat) (xs : List Int) (y : Int) (v4 v10 : Value) (hs : a.eval s = v4) (hx : a.eval x = v10) (h4 : Rx z xs y 4 [v4] w') (h10 : Rx z xs y 10 [v10] w') (hzs : z ≤ w'.heap.size) (hl : xs.length ≤ 1000000000000)
    (h : ∀ v1 w1, Sx z xs y w' w1 → Rx z xs y 11 [v1] w1 → wpList Try.prog ops Q rest (a.put o.dst v1) w1) : wpList Try.prog ops Q (o :: rest) a w' := by
  obtain ⟨i0, hi, hzz⟩ := Option.map_eq_some_iff.1 info3'
  simp only [Prod.mk.injEq] at hzz
  obtain ⟨hz0, hz1, hz2⟩ := hzz
  unfold Rx at h4 h10
  rw [if_neg (by decide), if_neg (by decide), if_pos rfl] at h4
  rw [if_neg (by decide), if_pos rfl] at h10
  obtain ⟨g, cap, cur, e4, hg, hb, hcap, hmax, hsz, htk⟩ := h4
  obtain ⟨g', e10, hg', hb'⟩ := h10
  obtain rfl : v4 = .slice (some ⟨g, 0, none⟩) xs.length cap := by injection e4
  obtain rfl : v10 = .slice (some ⟨g', 0, none⟩) 1 1 := by injection e10
  refine wpList_append_arg w' hgd s x 28 ho 3 i0 (.int .i64 0) 1 8 Try.underlying28 hi hz0 hz1 hz2 rfl (by omega) g 0 xs.length cap (nums .i64 xs) hs (by simp [nums]) (fun j u hu => ?_) ⟨g', 0, none⟩ 1 1 [.int .i64 y] hx rfl (fun j u hu => ?_) (fun u hu => by simp at hu; rw [hu]; rfl) (fun hr j hj => ?_) (by simp only [maxLen]; omega) (by omega) (fun hr => ?_) (fun _ v1 w1 hown1 hgr => ?_)
  · have hj : j < xs.length := by
      rcases Nat.lt_or_ge j xs.length with h | h
      · exact h
      · simp [nums, List.getElem?_eq_none h] at hu
    rw [Nat.zero_add]
    refine (blk_cell hb j).trans ?_
    rw [← htk, List.getElem?_take_of_lt hj, Array.getElem?_toList] at hu
    exact hu
  · have hj : j = 0 := by
      rcases Nat.eq_zero_or_pos j with h | h
      · exact h
      · rw [List.getElem?_eq_none (by simp; omega)] at hu; cases hu
    subst hj
    simp at hu
    subst hu
    exact blk_cell hb' 0
  · have hj : j = 0 := by simp at hj; exact hj
    subst hj
    have hlt : xs.length < cur.size := by omega
    rw [Nat.zero_add, Nat.mul_one, Nat.add_zero]
    refine ⟨?_, blk_frozen hb xs.length⟩
    rw [blk_cell hb xs.length]
    simp [hlt]
  · have hlt : xs.length < cur.size := by omega
    rw [Nat.zero_add, Nat.mul_one]
    have e1 : w'.setCells g xs.length [.int .i64 y] = w'.setCell ⟨g, xs.length, none⟩ (.int .i64 y) := rfl
    rw [e1]
    have hset := blk_set hb xs.length (.int .i64 y)
    refine h _ _ ⟨rfl, rfl, rfl, by simp [World.setCell], fun i hi => ?_⟩ ?_
    · by_cases e : i = g
      · subst e
        exact .inr ⟨hg, cur, hb, hlt, htk, hset⟩
      · exact .inl (Below.heap_setCell w' _ _ i (fun e2 => e e2))
    · unfold Rx
      rw [if_neg (by decide), if_neg (by decide), if_neg (by decide), if_pos rfl]
      refine ⟨g, cap, _, rfl, hg, hset, hr, hmax, by rw [Array.size_setIfInBounds]; exact hsz, ?_⟩
      rw [Array.toList_setIfInBounds, List.take_succ_eq_append_getElem (by rw [List.length_set, Array.length_toList]; exact hlt), List.take_set_of_le (Nat.le_refl _), htk]
      simp [nums]
  · rw [show nums .i64 xs ++ [.int .i64 y] = nums .i64 (xs ++ [y]) by simp [nums]] at hown1
    refine h v1 w1 (Sx.of_below ⟨hgr.os, hgr.tape, hgr.output, hgr.size, fun i hi => hgr.block i hi (by simp)⟩) ?_
    unfold Rx
    rw [if_neg (by decide), if_neg (by decide), if_neg (by decide), if_pos rfl]
    obtain ⟨g1, cap1, cur1, rfl, r⟩ := own_Rx (z := z) (xs := xs) (x := y) hown1 (by omega) hzs
    exact ⟨g1, cap1, cur1, rfl, r⟩
end
end Go.Proofs.Ytnkgbnbbmcoiiaa.S
namespace Go.Proofs.Ytnkgbnbbmcoiiaa.S
open Go.RowKit Go.Proofs.YtnkgbnbbmcoiiaaW.PrintWords Go.Proofs.YtnkgbnbbmcoiiaaW.PrintLast Go.Proofs.YtnkgbnbbmcoiiaaW.PrintMore Go.RelRegion
set_option linter.unusedVariables false
/-! ### swageref25.At (printed by gen_rat.py) -/
theorem ins_le {out : List Int} (h : out.Pairwise (· ≤ ·)) {k : Nat} (hk : k ≤ out.length) {x : Int} (h1 : ∀ q, q < k → out.getD q 0 ≤ x) (h2 : k < out.length → x < out.getD k 0) : (insAt out k x).Pairwise (· ≤ ·) := by
  unfold insAt
  have h' := h
  rw [← List.take_append_drop k out, List.pairwise_append] at h'
  obtain ⟨a1, a2, a3⟩ := h'
  rw [List.pairwise_append, List.pairwise_append]
  have b1 : ∀ y ∈ out.take k, y ≤ x := fun y hy => by
    obtain ⟨q, hq, rfl⟩ := List.mem_take_iff_getElem.1 hy
    have := h1 q (by omega)
    rwa [List.getD_eq_getElem?_getD, List.getElem?_eq_getElem (by omega)] at this
  have b2 : ∀ y ∈ out.drop k, x ≤ y := fun y hy => by
    obtain ⟨q, hq, rfl⟩ := List.mem_drop_iff_getElem.1 hy
    have hkl : k < out.length := by omega
    have h3 := h2 hkl
    rw [List.getD_eq_getElem?_getD, List.getElem?_eq_getElem hkl] at h3
    simp only [Option.getD_some] at h3
    rw [List.pairwise_iff_getElem] at h
    by_cases e : q = 0
    · subst e; simp; omega
    · have := h k (k + q) hkl (by omega) (by omega)
      omega
  refine ⟨⟨a1, by simp, fun y hy v hv => ?_⟩, a2, fun y hy v hv => ?_⟩
  · simp only [List.mem_singleton] at hv
    rw [hv]
    exact b1 y hy
  · rcases List.mem_append.1 hy with hy | hy
    · exact a3 y hy v hv
    · simp only [List.mem_singleton] at hy
      rw [hy]
      exact b2 v hv
theorem ins_perm (out : List Int) (k : Nat) (x : Int) : (insAt out k x).Perm (out ++ [x]) := by
  unfold insAt
  conv => rhs; rw [← List.take_append_drop k out]
  rw [List.append_assoc, List.append_assoc]
  exact List.Perm.append_left _ List.perm_append_comm
/-- The row so far. -/
def Gd (H : List S26) (p : Int) (i : Nat) (out : List Int) : Prop := out.Pairwise (· ≤ ·) ∧ out.Perm (ats (H.take i) p)
theorem Gd.len {H : List S26} {p : Int} {i : Nat} {out : List Int} (h : Gd H p i out) : out.length ≤ i := by
  rw [h.2.length_eq]
  have := ats_len (H.take i) p
  rw [List.length_take] at this
  omega
theorem Gd.skip {H : List S26} {p : Int} {i : Nat} {out : List Int} (h : Gd H p i out) (hi : i < H.length) (hx : hasP (rd_T26 H (i : Int)) p = false) : Gd H p (i + 1) out := ⟨h.1, by rw [ats_take hi, hx]; exact h.2⟩
theorem Gd.ins {H : List S26} {p : Int} {i : Nat} {out : List Int} (h : Gd H p i out) (hi : i < H.length) (hx : hasP (rd_T26 H (i : Int)) p = true) {k : Nat} (hk : k ≤ out.length) (h1 : ∀ q, q < k → out.getD q 0 ≤ (rd_T26 H (i : Int)).f0) (h2 : k < out.length → (rd_T26 H (i : Int)).f0 < out.getD k 0) : Gd H p (i + 1) (insAt out k (rd_T26 H (i : Int)).f0) := by
  refine ⟨ins_le h.1 hk h1 h2, ?_⟩
  rw [ats_take hi, if_pos hx]
  exact (ins_perm out k _).trans (List.Perm.append_right _ h.2)
theorem Gd.all {H : List S26} {p : Int} {out : List Int} (h : Gd H p H.length out) : out = srt (ats H p) := by
  have h2 := h.2
  rw [List.take_length] at h2
  unfold srt
  rw [← mergeSort_of_perm_i h2]
  exact (List.mergeSort_of_pairwise (h.1.imp (fun hab => by simpa using hab))).symm
set_option maxHeartbeats 8000000 in
set_option maxRecDepth 100000 in
theorem rat_any (A : Option Addr) (c : Nat) (H : List S26) (p : Int) (w : World) (hr : Kd.C k26 w A H.length H) (hn : H.length ≤ 1000000000000) :
    Calls Try.prog 14 #[.slice A H.length c, .int .i64 p] w fun e w' => ∃ v, e = .returned v ∧ w'.ownsRow w.heap.size 3 1 v (srt (ats H p)).length (nums .i64 (srt (ats H p))) ∧ Below w.heap.size w w' := by
  have hu26 := Try.underlying26
  have hu28 := Try.underlying28
  have HR := Aside0.mk hr
  have HN := Aside0.mk hn
  have hn63 := hr.2.1
  clear hr
  go_enter Try.func14, Try.ntmps14
  go_wp2_with fail
  go_loopw [6, 5] (fun v6 v5 wr => ∃ (i : Nat) (out : List Int), i ≤ H.length ∧ v6 = .int .i64 (i : Int) ∧ Aside0 (wr.ownsRow w.heap.size 3 1 v5 out.length (nums .i64 out)) ∧ Aside0 (Gd H p i out) ∧ Aside0 (Below w.heap.size w wr)) (fun v6 _ _ => H.length - (intOf v6).toNat)
  case atStart => exact ⟨0, [], Nat.zero_le _, rfl, ⟨own_nil _ _ _ _⟩, ⟨by simp, by simp [ats]⟩, ⟨Below.refl _ _⟩⟩
  case round =>
    obtain ⟨i, out, hi, rfl, HO, HGD, HB⟩ := hrel
    obtain ⟨A3, c3, rfl⟩ := own_slice HO.out
    by_cases hlt : i < H.length
    · have b1 : decide ((i : Int) < (H.length : Int)) = true := decide_eq_true (by omega)
      have hol := HGD.out.len
      obtain ⟨ad, eA, k0, k1, k2⟩ := at_T26 (Kd.C_below HR.out HB.out) (i : Int) (by omega) (by omega)
      simp only [Int.toNat_natCast] at k0 k1 k2
      have HGS := Aside0.mk (fun (h : hasP (rd_T26 H (i : Int)) p = false) => HGD.out.skip hlt h)
      have HGI := Aside0.mk (fun (h : hasP (rd_T26 H (i : Int)) p = true) (k : Nat) (hk : k ≤ out.length) h1 h2 => HGD.out.ins hlt h hk h1 h2)
      generalize rd_T26 H (i : Int) = x at k0 k1 k2 HGS HGI
      subst eA
      by_cases c1 : p < x.f1
      · have b3 : decide (p < x.f1) = true := decide_eq_true c1
        have HM : Aside0 (Gd H p (i + 1) out) := ⟨HGS.out (by unfold hasP; rw [decide_eq_false (by omega)]; rfl)⟩
        go_wp2
        repeat (go_quiet (fail); try go_wp2)
        go_roundw
        case rel => exact ⟨i + 1, out, by omega, by go_num, ⟨HO.out⟩, HM, HB⟩
        case measure => exact meas1 hlt (Int.natCast_succ i).symm
      · have b3 : decide (p < x.f1) = false := decide_eq_false c1
        by_cases c2 : x.f2 < p
        · have b4 : decide (x.f2 < p) = true := decide_eq_true c2
          have HM : Aside0 (Gd H p (i + 1) out) := ⟨HGS.out (by unfold hasP; rw [decide_eq_false (show ¬ p ≤ x.f2 by omega), Bool.and_false])⟩
          go_wp2
          repeat (go_quiet (fail); try go_wp2)
          go_roundw
          case rel => exact ⟨i + 1, out, by omega, by go_num, ⟨HO.out⟩, HM, HB⟩
          case measure => exact meas1 hlt (Int.natCast_succ i).symm
        · have b4 : decide (x.f2 < p) = false := decide_eq_false c2
          have HHP : Aside0 (hasP x p = true) := ⟨by unfold hasP; rw [decide_eq_true (show x.f1 ≤ p by omega), decide_eq_true (show p ≤ x.f2 by omega)]; rfl⟩
          have HK0 := Aside0.mk k0
          clear HGS
          go_wp2
          go_loopw [7] (fun v7 wi => ∃ k : Nat, k ≤ out.length ∧ v7 = .int .i64 (k : Int) ∧ Aside0 (∀ q, q < k → out.getD q 0 ≤ x.f0) ∧ Aside0 (wi.ownsRow w.heap.size 3 1 (.slice A3 out.length c3) out.length (nums .i64 out)) ∧ Aside0 (Below w.heap.size w wi) ∧ Aside0 (wi.cell? (ad.add (i * 3)) = some (.int .i64 x.f0))) (fun v7 _ => out.length - (intOf v7).toNat)
          case atStart => exact ⟨0, Nat.zero_le _, rfl, ⟨fun q hq => by omega⟩, HO, HB, HK0⟩
          case round =>
            clear HO HB HK0 k0 k1 k2
            obtain ⟨k, hk, rfl, HQ, HO, HB, HK0⟩ := hrel
            have k0 := HK0.out
            by_cases hkl : k < out.length
            · have b2 : decide ((k : Int) < (out.length : Int)) = true := decide_eq_true (by omega)
              obtain ⟨ao, eo, o0⟩ := (own_reads' HO.out).at_ (k : Int) (by omega) (by omega)
              simp only [Int.toNat_natCast] at o0
              have hrd : rd out (k : Int) = out.getD k 0 := by unfold rd; rw [Int.toNat_natCast]
              rw [hrd] at o0
              subst eo
              by_cases hux : out.getD k 0 ≤ x.f0
              · have b5 : decide (out.getD k 0 ≤ x.f0) = true := decide_eq_true hux
                have HUX := Aside0.mk hux
                generalize out.getD k 0 = u at o0 b5
                clear hux
                go_wp2
                repeat (go_quiet (fail); try go_wp2)
                go_roundw
                case rel => exact ⟨k + 1, by omega, by go_num, ⟨fun q hq => by
                  by_cases e : q = k
                  · rw [e]; exact HUX.out
                  · exact HQ.out q (by omega)⟩, ⟨HO.out⟩, ⟨pw_below_drewN HB.out _⟩, HK0⟩
                case measure => exact meas1 hkl (Int.natCast_succ k).symm
              · have b5 : decide (out.getD k 0 ≤ x.f0) = false := decide_eq_false hux
                have HM : Aside0 (Gd H p (i + 1) (insAt out k x.f0)) := ⟨HGI.out HHP.out k hk HQ.out (fun _ => by omega)⟩
                generalize out.getD k 0 = u at o0 b5
                clear hux
                go_wp2
                repeat (go_quiet (fail); try go_wp2)
                obtain ⟨xs9, hxs9⟩ : ∃ xs9, xs9 = out.take k := ⟨_, rfl⟩
                obtain ⟨ys9, hys9⟩ : ∃ ys9, ys9 = out.drop k := ⟨_, rfl⟩
                have HXS := Aside0.mk (And.intro hxs9 hys9)
                have HTL : Aside0 (xs9.length = k) := ⟨by rw [hxs9, List.length_take]; omega⟩
                have HN9 : Aside0 (out.length ≤ 1000000000000) := ⟨by have := HN.out; omega⟩
                obtain ⟨i0, hii, hzz⟩ := Option.map_eq_some_iff.1 info3'
                simp only [Prod.mk.injEq] at hzz
                have hcut1 := cut_to (P := Try.prog) 28 3 .i64 Try.underlying28 hii (some ao) out.length c3 (k : Int) (by omega) (by omega) (own_cap HO.out)
                simp only [Int.toNat_natCast] at hcut1
                obtain ⟨A9, hcut2, hA9⟩ := print_cut (P := Try.prog) 28 3 .i64 Try.underlying28 hii hzz.2.1 (some ao) out.length c3 k (by omega)
                have hR9 : ∀ W, ReadsInt W .i64 (some ao) out.length out → ReadsInt W .i64 A9 ys9.length ys9 := fun W h => by
                  have h2 := hA9 W .i64 out (own_cap HO.out) h
                  rw [← hys9] at h2
                  rwa [show ys9.length = out.length - k by rw [hys9, List.length_drop]]
                have HA9 := Aside0.mk hR9
                have HLY : Aside0 (xs9.length + ys9.length = out.length) := ⟨by rw [hxs9, hys9, List.length_take, List.length_drop]; omega⟩
                rw [show out.length - k = ys9.length by rw [hys9, List.length_drop]] at hcut2
                generalize c3 - k = c9 at hcut2
                have HNIL : Aside0 ((some ao) = none → c3 = 0) := ⟨fun e => by
                  rcases HO.out.2 with ⟨h1, _⟩ | ⟨g, cap, cur, h1, _⟩
                  · injection h1
                  · rw [e] at h1; injection h1 with h1; cases h1⟩
                clear hii hzz hA9 hR9 hxs9 hys9
                refine wp_region_rel 15 (fun n => if n = 0 then some [] else if n = 4 then some [0] else if n = 10 then some [] else if n = 11 then some [4, 10] else none) (fun n => [n]) (Rx wr.heap.size xs9 x.f0) (fun w' => Below wr.heap.size wr w') (Sx wr.heap.size xs9 x.f0) (by kernel_rfl) (by kernel_rfl) ⟨rfl, rfl, rfl, Nat.le_refl _, fun _ _ => rfl⟩ (fun a b h k => Sx.cls h k h.size) (fun n vs a b h k => Rx.keep n vs a b h k) ?_
                simp only [List.take_succ_cons, List.take_zero, List.drop_succ_cons, List.drop_zero]
                iterate 15 (first | (refine relQ_loud rfl ?_) | (apply relQ_step rfl; apply Exists.intro; constructor; (focus (intro w' hw'; have k0 := pw_cell_below hw' k0; unfold Yl; go_wp2_with fail; exact ⟨rfl, _, rfl, rfl, Sx.refl _ _ _ _⟩)); (try simp only [Act.put, List.setIfInBounds_toArray, List.set_cons_zero, List.set_cons_succ])))
                refine relQ_nil (fun xx => ?_)
                refine relL_loud rfl (fun w' hw' _ => ?_) ?_
                · unfold Yl
                  go_wp2_with fail
                  refine ⟨rfl, _, rfl, Sx.of_below (below_alloc (Below.refl _ _) _), ?_⟩
                  unfold Rx
                  rw [if_pos rfl]
                  exact ⟨w'.heap.size, by simp, hw'.size, blk_new w' _⟩
                (try simp only [Act.put, List.setIfInBounds_toArray, List.set_cons_zero, List.set_cons_succ])
                repeat (refine relL_quiet rfl ?_)
                refine relL_loud rfl (fun w' hw' hR => ?_) ?_
                · have r0 := hR 0 (by simp)
                  unfold Rx at r0
                  rw [if_pos rfl] at r0
                  obtain ⟨g, e0, hg, hb⟩ := r0
                  have e0 : xx 0 = .slice (some ⟨g, 0, none⟩) 0 0 := by simpa using e0
                  rw [e0]
                  unfold Yl
                  have HRD := (own_reads' HO.out).below hw'
                  have HRT := HRD.take_ k (by omega)
                  rw [← HXS.out.1] at HRT
                  have HRT2 : ReadsInt w' .i64 (some ao) xs9.length xs9 := by rw [HTL.out]; exact HRT
                  refine app_first w' rfl _ _ rfl wr.heap.size xs9 x.f0 g (by rfl) (some ao) c3 (by rw [HTL.out]; rfl) HNIL.out HRT2 hg hb hw'.size (by have := HN9.out; have := HTL.out; omega) (fun v1 w1 hs hr => ?_)
                  go_wp2_with fail
                  exact ⟨rfl, _, rfl, hs, by simpa using hr⟩
                (try simp only [Act.put, List.setIfInBounds_toArray, List.set_cons_zero, List.set_cons_succ])
                repeat (refine relL_quiet rfl ?_)
                refine relL_loud rfl (fun w' hw' _ => ?_) ?_
                · unfold Yl
                  go_wp2_with fail
                  refine ⟨rfl, _, rfl, Sx.of_below (below_alloc (Below.refl _ _) _), ?_⟩
                  unfold Rx
                  rw [if_neg (by decide), if_pos rfl]
                  exact ⟨w'.heap.size, by simp, hw'.size, blk_new w' _⟩
                (try simp only [Act.put, List.setIfInBounds_toArray, List.set_cons_zero, List.set_cons_succ])
                refine relL_loud rfl (fun w' hw' hR => ?_) ?_
                · have r4 := hR 4 (by simp)
                  have r10 := hR 10 (by simp)
                  unfold Yl
                  refine app_second w' rfl _ _ rfl wr.heap.size xs9 x.f0 (xx 4) (xx 10) (by rfl) (by rfl) (by simpa using r4) (by simpa using r10) hw'.size (by have := HN9.out; have := HTL.out; omega) (fun v1 w1 hs hr => ?_)
                  go_wp2_with fail
                  exact ⟨rfl, _, rfl, hs, by simpa using hr⟩
                (try simp only [Act.put, List.setIfInBounds_toArray, List.set_cons_zero, List.set_cons_succ])
                repeat (refine relL_quiet rfl ?_)
                refine relL_nil (fun w' hw' hR => ?_)
                have r11 := hR 11 (by decide) rfl
                unfold Rx at r11
                rw [if_neg (by decide), if_neg (by decide), if_neg (by decide), if_pos rfl] at r11
                obtain ⟨g, cap, cur, e11, hg, hb, hcap, hmax, hsz, htk⟩ := r11
                have e11 : xx 11 = .slice (some ⟨g, 0, none⟩) (xs9.length + 1) cap := by simpa using e11
                rw [e11]
                have HO11 : Aside0 (w'.ownsRow wr.heap.size 3 1 (.slice (some ⟨g, 0, none⟩) (xs9.length + 1) cap) (xs9 ++ [x.f0]).length (nums .i64 (xs9 ++ [x.f0]))) := ⟨⟨by simp [nums], .inr ⟨g, cap, cur, by simp, hg, hb, by simpa using hcap, hmax, by omega, by rw [List.length_append, Nat.mul_one]; exact htk⟩⟩⟩
                have HB9 := Aside0.mk hw'
                have HR9 := Aside0.mk (HA9.out w' ((own_reads' HO.out).below hw'))
                clear hw' hR hb hcap hmax hsz htk hg k0
                go_wp2_with (at_builtin; refine print_append_row wr.heap.size rfl _ _ 28 3 .i64 8 rfl Try.underlying28 info3' (by decide) _ (xs9 ++ [x.f0]) ys9 A9 ys9.length _ rfl rfl HO11.out HR9.out HB9.out HB9.out.size (by have := HN9.out; have := HLY.out; rw [List.length_append]; simp only [List.length_cons, List.length_nil]; omega) ?_; intro v1 w1 hown hB1 hg1 hat)
                go_roundw
                case rel => exact ⟨i + 1, insAt out k x.f0, by omega, by go_num, ⟨by have := own_less hown HB.out.size; rw [HXS.out.1, HXS.out.2] at this; exact this⟩, HM, ⟨below_then HB.out HB.out.size hB1⟩⟩
                case measure => exact meas1 hlt (Int.natCast_succ i).symm
            · have b2 : decide ((k : Int) < (out.length : Int)) = false := decide_eq_false (by omega)
              obtain rfl : k = out.length := by omega
              have HM : Aside0 (Gd H p (i + 1) (insAt out out.length x.f0)) := ⟨HGI.out HHP.out out.length (Nat.le_refl _) HQ.out (fun h => by omega)⟩
              go_wp2
              repeat (go_quiet (fail); try go_wp2)
              obtain ⟨xs9, hxs9⟩ : ∃ xs9, xs9 = out.take out.length := ⟨_, rfl⟩
              obtain ⟨ys9, hys9⟩ : ∃ ys9, ys9 = out.drop out.length := ⟨_, rfl⟩
              have HXS := Aside0.mk (And.intro hxs9 hys9)
              have HTL : Aside0 (xs9.length = out.length) := ⟨by rw [hxs9, List.length_take]; omega⟩
              have HN9 : Aside0 (out.length ≤ 1000000000000) := ⟨by have := HN.out; omega⟩
              obtain ⟨i0, hii, hzz⟩ := Option.map_eq_some_iff.1 info3'
              simp only [Prod.mk.injEq] at hzz
              have hcut1 := cut_to (P := Try.prog) 28 3 .i64 Try.underlying28 hii A3 out.length c3 (out.length : Int) (by omega) (by omega) (own_cap HO.out)
              simp only [Int.toNat_natCast] at hcut1
              obtain ⟨A9, hcut2, hA9⟩ := print_cut (P := Try.prog) 28 3 .i64 Try.underlying28 hii hzz.2.1 A3 out.length c3 out.length (by omega)
              have hR9 : ∀ W, ReadsInt W .i64 A3 out.length out → ReadsInt W .i64 A9 ys9.length ys9 := fun W h => by
                have h2 := hA9 W .i64 out (own_cap HO.out) h
                rw [← hys9] at h2
                rwa [show ys9.length = out.length - out.length by rw [hys9, List.length_drop]]
              have HA9 := Aside0.mk hR9
              have HLY : Aside0 (xs9.length + ys9.length = out.length) := ⟨by rw [hxs9, hys9, List.length_take, List.length_drop]; omega⟩
              rw [show out.length - out.length = ys9.length by rw [hys9, List.length_drop]] at hcut2
              generalize c3 - out.length = c9 at hcut2
              have HNIL : Aside0 (A3 = none → c3 = 0) := ⟨fun e => by
                rcases HO.out.2 with ⟨h1, _⟩ | ⟨g, cap, cur, h1, _⟩
                · injection h1
                · rw [e] at h1; injection h1 with h1; cases h1⟩
              clear hii hzz hA9 hR9 hxs9 hys9
              refine wp_region_rel 15 (fun n => if n = 0 then some [] else if n = 4 then some [0] else if n = 10 then some [] else if n = 11 then some [4, 10] else none) (fun n => [n]) (Rx wr.heap.size xs9 x.f0) (fun w' => Below wr.heap.size wr w') (Sx wr.heap.size xs9 x.f0) (by kernel_rfl) (by kernel_rfl) ⟨rfl, rfl, rfl, Nat.le_refl _, fun _ _ => rfl⟩ (fun a b h k => Sx.cls h k h.size) (fun n vs a b h k => Rx.keep n vs a b h k) ?_
              simp only [List.take_succ_cons, List.take_zero, List.drop_succ_cons, List.drop_zero]
              iterate 15 (first | (refine relQ_loud rfl ?_) | (apply relQ_step rfl; apply Exists.intro; constructor; (focus (intro w' hw'; have k0 := pw_cell_below hw' k0; unfold Yl; go_wp2_with fail; exact ⟨rfl, _, rfl, rfl, Sx.refl _ _ _ _⟩)); (try simp only [Act.put, List.setIfInBounds_toArray, List.set_cons_zero, List.set_cons_succ])))
              refine relQ_nil (fun xx => ?_)
              refine relL_loud rfl (fun w' hw' _ => ?_) ?_
              · unfold Yl
                go_wp2_with fail
                refine ⟨rfl, _, rfl, Sx.of_below (below_alloc (Below.refl _ _) _), ?_⟩
                unfold Rx
                rw [if_pos rfl]
                exact ⟨w'.heap.size, by simp, hw'.size, blk_new w' _⟩
              (try simp only [Act.put, List.setIfInBounds_toArray, List.set_cons_zero, List.set_cons_succ])
              repeat (refine relL_quiet rfl ?_)
              refine relL_loud rfl (fun w' hw' hR => ?_) ?_
              · have r0 := hR 0 (by simp)
                unfold Rx at r0
                rw [if_pos rfl] at r0
                obtain ⟨g, e0, hg, hb⟩ := r0
                have e0 : xx 0 = .slice (some ⟨g, 0, none⟩) 0 0 := by simpa using e0
                rw [e0]
                unfold Yl
                have HRD := (own_reads' HO.out).below hw'
                have HRT := HRD.take_ out.length (by omega)
                rw [← HXS.out.1] at HRT
                have HRT2 : ReadsInt w' .i64 A3 xs9.length xs9 := by rw [HTL.out]; exact HRT
                refine app_first w' rfl _ _ rfl wr.heap.size xs9 x.f0 g (by rfl) A3 c3 (by rw [HTL.out]; rfl) HNIL.out HRT2 hg hb hw'.size (by have := HN9.out; have := HTL.out; omega) (fun v1 w1 hs hr => ?_)
                go_wp2_with fail
                exact ⟨rfl, _, rfl, hs, by simpa using hr⟩
              (try simp only [Act.put, List.setIfInBounds_toArray, List.set_cons_zero, List.set_cons_succ])
              repeat (refine relL_quiet rfl ?_)
              refine relL_loud rfl (fun w' hw' _ => ?_) ?_
              · unfold Yl
                go_wp2_with fail
                refine ⟨rfl, _, rfl, Sx.of_below (below_alloc (Below.refl _ _) _), ?_⟩
                unfold Rx
                rw [if_neg (by decide), if_pos rfl]
                exact ⟨w'.heap.size, by simp, hw'.size, blk_new w' _⟩
              (try simp only [Act.put, List.setIfInBounds_toArray, List.set_cons_zero, List.set_cons_succ])
              refine relL_loud rfl (fun w' hw' hR => ?_) ?_
              · have r4 := hR 4 (by simp)
                have r10 := hR 10 (by simp)
                unfold Yl
                refine app_second w' rfl _ _ rfl wr.heap.size xs9 x.f0 (xx 4) (xx 10) (by rfl) (by rfl) (by simpa using r4) (by simpa using r10) hw'.size (by have := HN9.out; have := HTL.out; omega) (fun v1 w1 hs hr => ?_)
                go_wp2_with fail
                exact ⟨rfl, _, rfl, hs, by simpa using hr⟩
              (try simp only [Act.put, List.setIfInBounds_toArray, List.set_cons_zero, List.set_cons_succ])
              repeat (refine relL_quiet rfl ?_)
              refine relL_nil (fun w' hw' hR => ?_)
              have r11 := hR 11 (by decide) rfl
              unfold Rx at r11
              rw [if_neg (by decide), if_neg (by decide), if_neg (by decide), if_pos rfl] at r11
              obtain ⟨g, cap, cur, e11, hg, hb, hcap, hmax, hsz, htk⟩ := r11
              have e11 : xx 11 = .slice (some ⟨g, 0, none⟩) (xs9.length + 1) cap := by simpa using e11
              rw [e11]
              have HO11 : Aside0 (w'.ownsRow wr.heap.size 3 1 (.slice (some ⟨g, 0, none⟩) (xs9.length + 1) cap) (xs9 ++ [x.f0]).length (nums .i64 (xs9 ++ [x.f0]))) := ⟨⟨by simp [nums], .inr ⟨g, cap, cur, by simp, hg, hb, by simpa using hcap, hmax, by omega, by rw [List.length_append, Nat.mul_one]; exact htk⟩⟩⟩
              have HB9 := Aside0.mk hw'
              have HR9 := Aside0.mk (HA9.out w' ((own_reads' HO.out).below hw'))
              clear hw' hR hb hcap hmax hsz htk hg k0
              go_wp2_with (at_builtin; refine print_append_row wr.heap.size rfl _ _ 28 3 .i64 8 rfl Try.underlying28 info3' (by decide) _ (xs9 ++ [x.f0]) ys9 A9 ys9.length _ rfl rfl HO11.out HR9.out HB9.out HB9.out.size (by have := HN9.out; have := HLY.out; rw [List.length_append]; simp only [List.length_cons, List.length_nil]; omega) ?_; intro v1 w1 hown hB1 hg1 hat)
              go_roundw
              case rel => exact ⟨i + 1, insAt out out.length x.f0, by omega, by go_num, ⟨by have := own_less hown HB.out.size; rw [HXS.out.1, HXS.out.2] at this; exact this⟩, HM, ⟨below_then HB.out HB.out.size hB1⟩⟩
              case measure => exact meas1 hlt (Int.natCast_succ i).symm
    · have b1 : decide ((i : Int) < (H.length : Int)) = false := decide_eq_false (by omega)
      obtain rfl : i = H.length := by omega
      go_wp2
      go_ret
      exact ⟨_, rfl, by rw [← HGD.out.all]; exact HO.out, HB.out⟩
def swageref25_At.f (l0 : List S26) (a1 : Int) : Option (List Int) := spans_At.f l0 a1
theorem swageref25_At.calls (A0 : Option Addr) (c0 : Nat) (l0 : List S26) (a1 : Int) (r : List Int) (w : World) (hr0 : Kd.C k26 w A0 l0.length l0) (hc0 : l0.length ≤ c0) (h : swageref25_At.f l0 a1 = some r) :
    Calls Try.prog 14 #[.slice A0 l0.length c0, .int .i64 a1] w fun e w' => ∃ v0_, e = .returned v0_ ∧ Kd.R (Kd.int .i64) 3 w' w.heap.size (fun _ => True) v0_ r ∧ Below w.heap.size w w' := by
  unfold swageref25_At.f spans_At.f at h
  by_cases hn : l0.length ≤ 1000000000000
  · rw [if_pos hn] at h
    obtain rfl := Option.some.inj h
    refine (rat_any A0 c0 l0 a1 w hr0 hn).mono ?_
    rintro e w' ⟨v, rfl, ho, hb⟩
    exact ⟨v, rfl, Kd.R_of_own ho (fun _ _ => trivial), hb⟩
  · rw [if_neg hn] at h
    cases h
end Go.Proofs.Ytnkgbnbbmcoiiaa.S
