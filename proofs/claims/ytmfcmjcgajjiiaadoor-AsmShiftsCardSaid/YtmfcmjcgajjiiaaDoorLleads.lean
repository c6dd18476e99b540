import Derived.Test.YtmfcmjcgajjiiaaDoorLasm
namespace Go.Proofs.YtmfcmjcgajjiiaaDoor.S
open Go.RowKit Go.IM
set_option linter.unusedVariables false
set_option linter.unusedSimpArgs false
/-- How many of some lines are instructions. -/
def cn (l : List S38) : Nat := (l.filter fun x => x.f0 == 0).length
theorem cnt_cn (l : List S38) : cnt l = (cn l : Int) := rfl
theorem cn_app (l m : List S38) : cn (l ++ m) = cn l + cn m := by simp [cn]
theorem cn_one (x : S38) : cn [x] = if x.f0 = 0 then 1 else 0 := by
  unfold cn
  by_cases hx : x.f0 = 0 <;> simp [hx]
theorem cn_le (l : List S38) : cn l ≤ l.length := List.length_filter_le _ _
theorem asS_cut {es : List (Int × Value)} : ∀ (m : List S38) (o out : List S32), m.foldl (asS es) (some o) = some out → ∃ r, out = o ++ r ∧ r.length = cn m
  | [], o, out, h => by
    injection h with h
    exact ⟨[], by simp [h], rfl⟩
  | x :: m, o, out, h => by
    rw [List.foldl_cons] at h
    cases hx : asS es (some o) x with
    | none => rw [hx, asS_none] at h; cases h
    | some o' =>
      rw [hx] at h
      obtain ⟨r, hr, hn⟩ := asS_cut m o' out h
      rw [asS_some] at hx
      have e : cn (x :: m) = cn [x] + cn m := cn_app [x] m
      rw [e, cn_one]
      by_cases hz : x.f0 = 0
      · rw [if_pos hz] at hx ⊢
        by_cases ht : x.f2 = 0
        · rw [if_pos ht] at hx
          injection hx with hx
          exact ⟨x.f1 :: r, by rw [hr, ← hx]; simp, by simp [hn]; omega⟩
        · rw [if_neg ht] at hx
          split at hx
          · cases hx
          · rename_i v _
            injection hx with hx
            exact ⟨⟨x.f1.f0, x.f1.f1, x.f1.f2, x.f1.f3, intV v⟩ :: r, by rw [hr, ← hx]; simp, by simp [hn]; omega⟩
      · rw [if_neg hz] at hx ⊢
        injection hx with hx
        exact ⟨r, by rw [hr, ← hx], by omega⟩
theorem right_imm {op a b c i j : Int} (h : RightP op a b c i) (hj : JumpOp op) (h0 : 0 ≤ j) (h1 : j ≤ 2147483647) : RightP op a b c j := by
  obtain ⟨p1, p2, p3, p4, p5, p6⟩ := h
  refine ⟨p1, p2, p3, p4, p5, ?_⟩
  rcases hj with rfl | rfl | rfl <;> simp [shapeTab] <;> omega
/-- What the law asks of line j. -/
def LF1 (l : List S38) (C : List S32) (j : Nat) (y : S38) : Prop :=
  (y.f0 ≠ 0 → cn (l.take (j + 1)) = cn (l.take j)) ∧
  (y.f0 = 0 → cn (l.take (j + 1)) = cn (l.take j) + 1 ∧ cn (l.take j) < C.length ∧
    (y.f2 = 0 → rd_T32 C (cn (l.take j) : Int) = y.f1) ∧
    (y.f2 ≠ 0 → 0 ≤ plc y.f2 l 0 ∧ plc y.f2 l 0 ≤ l.length ∧ rd_T32 C (cn (l.take j) : Int) = ⟨y.f1.f0, y.f1.f1, y.f1.f2, y.f1.f3, plc y.f2 l 0⟩ ∧ RightP y.f1.f0 y.f1.f1 y.f1.f2 y.f1.f3 (plc y.f2 l 0)))
def LF (l : List S38) (C : List S32) : Prop := cn l = C.length ∧ ∀ j, j < l.length → LF1 l C j (rd_T38 l (j : Int))
theorem rd32_at (o r : List S32) (x : S32) : rd_T32 ((o ++ [x]) ++ r) (o.length : Int) = x := by
  unfold rd_T32
  simp [List.getD_eq_getElem?_getD]
theorem lf_ok {l : List S38} {C : List S32} (hl : l.length ≤ 2147483647) (h : asmR rtP l = (C, 0)) : LF l C := by
  unfold asmR at h
  split at h
  · injection h with h1 h2; cases h2
  · rename_i hall
    have hall : l.all rtP = true := by simpa using hall
    split at h
    · injection h with h1 h2; cases h2
    · rename_i es hes
      split at h
      · injection h with h1 h2; cases h2
      · rename_i out hout
        split at h
        · injection h with h1 h2; cases h2
        · injection h with h1 h2
          subst h1
          have hsp := fsP_spec l
          rw [show fsP l = some es from hes] at hsp
          rcases hsp with ⟨h0, _⟩ | ⟨es', h0, _, _, h4⟩
          · cases h0
          · injection h0 with h0
            subst h0
            obtain ⟨r0, hr0, hn0⟩ := asS_cut l [] out hout
            refine ⟨by rw [hr0]; simp [hn0], fun j hj => ?_⟩
            have hmem : rtP (rd_T38 l (j : Int)) = true := List.all_eq_true.1 hall _ (rd38_mem hj)
            have htk := take_snoc38 hj
            have hsplit : l = l.take j ++ (rd_T38 l (j : Int) :: l.drop (j + 1)) := by rw [← drop38 hj, List.take_append_drop]
            cases ho : asG es (l.take j) with
            | none => rw [asG_none ho] at hout; cases hout
            | some o =>
              obtain ⟨r1, hr1, hn1⟩ := asS_cut (l.take j) [] o ho
              have hol : o.length = cn (l.take j) := by rw [hr1]; simp [hn1]
              have hout2 : (rd_T38 l (j : Int) :: l.drop (j + 1)).foldl (asS es) (some o) = some out := by
                have h := hout
                rw [show asG es l = asG es (l.take j ++ (rd_T38 l (j : Int) :: l.drop (j + 1))) from congrArg _ hsplit] at h
                unfold asG at h ho
                rw [List.foldl_append, ho] at h
                exact h
              generalize rd_T38 l (j : Int) = y at hmem htk hout2
              rw [List.foldl_cons, asS_some] at hout2
              have hcn : cn (l.take (j + 1)) = cn (l.take j) + (if y.f0 = 0 then 1 else 0) := by rw [htk, cn_app, cn_one]
              have hR : RtP y := by simpa [rtP] using hmem
              unfold RtP at hR
              refine ⟨fun hz => by rw [hcn, if_neg hz, Nat.add_zero], fun hz => ?_⟩
              rw [if_pos hz] at hcn hout2 hR
              have hpre : ∀ x, (l.drop (j + 1)).foldl (asS es) (some (o ++ [x])) = some out → cn (l.take j) < out.length ∧ rd_T32 out (cn (l.take j) : Int) = x := by
                intro x hx
                obtain ⟨r, hr, _⟩ := asS_cut _ _ _ hx
                rw [hr, ← hol]
                exact ⟨by simp only [List.length_append, List.length_cons, List.length_nil]; omega, rd32_at o r x⟩
              by_cases ht : y.f2 = 0
              · rw [if_pos ht] at hout2
                obtain ⟨p1, p2⟩ := hpre _ hout2
                exact ⟨hcn, p1, fun _ => p2, fun hn => absurd ht hn⟩
              · rw [if_neg ht, h4 _ ht] at hout2
                have hg := plc_ge y.f2 l 0 (by omega)
                by_cases hp : plc y.f2 l 0 = -1
                · rw [if_pos hp] at hout2
                  simp only [asS_none] at hout2
                  cases hout2
                · rw [if_neg hp] at hout2
                  obtain ⟨p1, p2⟩ := hpre _ hout2
                  refine ⟨hcn, p1, fun hn => absurd hn ht, fun _ => ⟨by omega, by omega, p2, ?_⟩⟩
                  rcases hR.2 with h | ⟨h, _, _⟩
                  · exact absurd h ht
                  · exact right_imm hR.1 h (by omega) (by omega)
theorem asmR_bad {l : List S38} {C : List S32} {E : Int} (h : asmR rtP l = (C, E)) (hE : E ≠ 0) : C = [] := by
  unfold asmR at h
  split at h
  · injection h with h1 h2; exact h1.symm
  · split at h
    · injection h with h1 h2; exact h1.symm
    · split at h
      · injection h with h1 h2; exact h1.symm
      · split at h
        · injection h with h1 h2; exact h1.symm
        · injection h with h1 h2; exact absurd h2.symm hE
end Go.Proofs.YtmfcmjcgajjiiaaDoor.S
