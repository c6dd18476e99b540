import Derived.Test.YtmfcmjcgajjiiaaDoorLleads
namespace Go.Proofs.YtmfcmjcgajjiiaaDoor.S
open Go.RowKit Go.IM
set_option linter.unusedVariables false
set_option linter.unusedSimpArgs false
/-- The line that stands ahead. -/
def pA : S38 := ⟨0, ⟨12, 3, 0, 0, 0⟩, 0⟩
theorem rtP_pA : rtP pA = true := by decide +kernel
theorem labs_rep (n : Nat) : labs (List.replicate n pA) = [] := by
  unfold labs
  rw [List.filter_eq_nil_iff.2]
  · rfl
  · intro x hx
    obtain ⟨_, rfl⟩ := List.mem_replicate.1 hx
    decide
theorem cn_rep (n : Nat) : cn (List.replicate n pA) = n := by
  unfold cn
  rw [List.filter_eq_self.2]
  · simp
  · intro x hx
    obtain ⟨_, rfl⟩ := List.mem_replicate.1 hx
    rfl
theorem plc_shift (a d : Int) (hd : 0 ≤ d) : ∀ (l : List S38) (m : Int), 0 ≤ m → plc a l (m + d) = if plc a l m = -1 then -1 else plc a l m + d
  | [], m, h => by simp [plc]
  | x :: xs, m, h => by
    rw [plc_cons, plc_cons]
    by_cases hx : x.f0 = 0
    · rw [if_pos hx, if_pos hx, show m + d + 1 = (m + 1) + d by omega, plc_shift a d hd xs (m + 1) (by omega)]
    · rw [if_neg hx, if_neg hx]
      by_cases ha : x.f0 = a
      · rw [if_pos ha, if_pos ha, if_neg (by omega)]
      · rw [if_neg ha, if_neg ha, plc_shift a d hd xs m h]
theorem plc_ahead (a : Int) (ha : a ≠ 0) (n : Nat) (l : List S38) : plc a (List.replicate n pA ++ l) 0 = if plc a l 0 = -1 then -1 else plc a l 0 + n := by
  rw [plc_app _ _ _ _ (by omega), if_pos ((plc_none a ha _ 0 (by omega)).2 (by rw [labs_rep]; simp)), cnt_cn, cn_rep, plc_shift a n (by omega) l 0 (by omega)]
/-- The same instruction, or a jump moved on. -/
def ShR (n : Nat) (x y : S32) : Prop := y = x ∨ (0 < n ∧ 0 ≤ x.f4 ∧ x.f4 ≤ 1000 ∧ y = ⟨x.f0, x.f1, x.f2, x.f3, x.f4 + n⟩)
def AllR (n : Nat) : List S32 → List S32 → Prop
  | [], [] => True
  | x :: xs, y :: ys => ShR n x y ∧ AllR n xs ys
  | _, _ => False
theorem AllR.len {n : Nat} : ∀ {xs ys : List S32}, AllR n xs ys → ys.length = xs.length
  | [], [], _ => rfl
  | x :: xs, y :: ys, h => by simp only [List.length_cons, AllR.len h.2]
  | [], _ :: _, h => h.elim
  | _ :: _, [], h => h.elim
theorem AllR.get {n : Nat} : ∀ {xs ys : List S32}, AllR n xs ys → ∀ i, i < xs.length → ShR n (xs.getD i z32) (ys.getD i z32)
  | [], [], _, i, hi => absurd hi (Nat.not_lt_zero _)
  | x :: xs, y :: ys, h, 0, _ => h.1
  | x :: xs, y :: ys, h, i + 1, hi => by
    have := AllR.get h.2 i (by simpa using hi)
    simpa using this
  | [], _ :: _, h, _, _ => h.elim
  | _ :: _, [], h, _, _ => h.elim
theorem asS_rel (n : Nat) (l : List S38) (hl : l.length ≤ 1000) (es es' : List (Int × Value)) (h1 : ∀ a, a ≠ 0 → lk es a = if plc a l 0 = -1 then none else some (.int .i64 (plc a l 0)))
    (h2 : ∀ a, a ≠ 0 → lk es' a = if plc a l 0 = -1 then none else some (.int .i64 (plc a l 0 + n))) :
    ∀ (m : List S38) (o o' : List S32), (m.foldl (asS es) (some o) = none ∧ m.foldl (asS es') (some o') = none) ∨ ∃ r r', m.foldl (asS es) (some o) = some (o ++ r) ∧ m.foldl (asS es') (some o') = some (o' ++ r') ∧ AllR n r r'
  | [], o, o' => .inr ⟨[], [], by simp, by simp, trivial⟩
  | x :: m, o, o' => by
    rw [List.foldl_cons, List.foldl_cons, asS_some, asS_some]
    have one : ∀ u v : S32, ShR n u v → (m.foldl (asS es) (some (o ++ [u])) = none ∧ m.foldl (asS es') (some (o' ++ [v])) = none) ∨ ∃ r r', m.foldl (asS es) (some (o ++ [u])) = some (o ++ r) ∧ m.foldl (asS es') (some (o' ++ [v])) = some (o' ++ r') ∧ AllR n r r' := by
      intro u v huv
      rcases asS_rel n l hl es es' h1 h2 m (o ++ [u]) (o' ++ [v]) with h | ⟨r, r', e1, e2, hr⟩
      · exact .inl h
      · exact .inr ⟨u :: r, v :: r', by rw [e1]; simp, by rw [e2]; simp, huv, hr⟩
    by_cases hz : x.f0 = 0
    · rw [if_pos hz, if_pos hz]
      by_cases ht : x.f2 = 0
      · rw [if_pos ht, if_pos ht]
        exact one _ _ (.inl rfl)
      · rw [if_neg ht, if_neg ht, h1 _ ht, h2 _ ht]
        by_cases hp : plc x.f2 l 0 = -1
        · rw [if_pos hp, if_pos hp]
          simp only
          exact .inl ⟨asS_none _ _, asS_none _ _⟩
        · rw [if_neg hp, if_neg hp]
          simp only [intV]
          have hg := plc_ge x.f2 l 0 (by omega)
          refine one _ _ ?_
          by_cases hn : n = 0
          · subst hn
            left
            simp
          · exact .inr ⟨by omega, by simp only; omega, by simp only; omega, rfl⟩
    · rw [if_neg hz, if_neg hz]
      exact asS_rel n l hl es es' h1 h2 m o o'
theorem asG_rep (es : List (Int × Value)) (n : Nat) : asG es (List.replicate n pA) = some (List.replicate n pA.f1) := by
  induction n with
  | zero => rfl
  | succ n ih =>
    rw [List.replicate_succ' (a := pA), asG_snoc, ih, List.replicate_succ' (a := pA.f1)]
    rfl
theorem asG_app (es : List (Int × Value)) (l m : List S38) : asG es (l ++ m) = m.foldl (asS es) (asG es l) := by
  unfold asG
  rw [List.foldl_append]
theorem shift_asm {l : List S38} {n : Nat} {C : List S32} {E : Int} (hl : l.length ≤ 1000) (hn : n ≤ 1000) (h : asmR rtP l = (C, E)) :
    ∃ C', asmR rtP (List.replicate n pA ++ l) = (C', E) ∧ (E = 0 → C'.length = C.length + n ∧ ∀ i : Nat, i < C.length → ShR n (rd_T32 C (i : Int)) (rd_T32 C' ((i + n : Nat) : Int))) := by
  have hall : (List.replicate n pA ++ l).all rtP = l.all rtP := by
    rw [List.all_append, List.all_eq_true.2 (fun x hx => by obtain ⟨_, rfl⟩ := List.mem_replicate.1 hx; exact rtP_pA), Bool.true_and]
  have hlabs : labs (List.replicate n pA ++ l) = labs l := by rw [labs_app, labs_rep, List.nil_append]
  unfold asmR at h ⊢
  rw [hall]
  by_cases ha : l.all rtP = false
  · rw [if_pos ha] at h ⊢
    injection h with e1 e2
    exact ⟨_, by rw [e2], fun h => absurd (e2.trans h) (by decide)⟩
  · rw [if_neg ha] at h ⊢
    have s1 := fsP_spec l
    have s2 := fsP_spec (List.replicate n pA ++ l)
    rw [hlabs] at s2
    unfold fsP at s1 s2
    rcases s1 with ⟨p1, q1⟩ | ⟨es, p1, q1, _, h1⟩
    · rcases s2 with ⟨p2, q2⟩ | ⟨es', p2, q2, _, h2⟩
      · rw [p1] at h
        rw [p2]
        simp only at h ⊢
        injection h with e1 e2
        exact ⟨_, by rw [e2], fun h => absurd (e2.trans h) (by decide)⟩
      · exact absurd q2 q1
    · rcases s2 with ⟨p2, q2⟩ | ⟨es', p2, q2, _, h2⟩
      · exact absurd q1 q2
      · rw [p1] at h
        rw [p2]
        simp only at h ⊢
        have h2' : ∀ a, a ≠ 0 → lk es' a = if plc a l 0 = -1 then none else some (.int .i64 (plc a l 0 + n)) := by
          intro a ha
          rw [h2 a ha, plc_ahead a ha]
          have hg := plc_ge a l 0 (by omega)
          by_cases hp : plc a l 0 = -1
          · rw [if_pos hp, if_pos rfl, if_pos hp]
          · rw [if_neg hp, if_neg (by omega), if_neg hp]
        rw [asG_app, asG_rep]
        have hfold : asG es l = l.foldl (asS es) (some []) := rfl
        rcases asS_rel n l hl es es' h1 h2' l [] (List.replicate n pA.f1) with ⟨g1, g2⟩ | ⟨r, r', g1, g2, hr⟩
        · rw [hfold, g1] at h
          rw [g2]
          simp only at h ⊢
          injection h with e1 e2
          exact ⟨_, by rw [e2], fun h => absurd (e2.trans h) (by decide)⟩
        · have hlen : r.length ≤ l.length := by
            have := asG_len (es := es) (l := l) (out := [] ++ r) g1
            simpa using this
          have hrl := hr.len
          rw [hfold, g1] at h
          rw [g2]
          simp only [List.nil_append] at h ⊢
          rw [if_neg (by omega)] at h
          injection h with e1 e2
          subst e1 e2
          rw [if_neg (by simp only [List.length_append, List.length_replicate]; omega)]
          refine ⟨_, rfl, fun _ => ⟨by simp only [List.length_append, List.length_replicate]; omega, fun i hi => ?_⟩⟩
          have := hr.get i hi
          unfold rd_T32
          simp only [Int.toNat_natCast]
          rw [List.getD_eq_getElem?_getD (l := List.replicate n pA.f1 ++ r'), List.getElem?_append_right (by simp), List.length_replicate, Nat.add_sub_cancel, ← List.getD_eq_getElem?_getD]
          exact this
end Go.Proofs.YtmfcmjcgajjiiaaDoor.S
