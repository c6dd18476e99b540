import Derived.Test.YtmfcmjcgajjiiaaDoorLtx
import Derived.Test.YtmfcmjcgajjiiaaDoorOplaces
import Derived.Test.YtmfcmjcgajjiiaaDoorOreasm
import Derived.Test.YtmfcmjcgajjiiaaDoorS8
namespace Go.Proofs.YtmfcmjcgajjiiaaDoor.S
open Go.RowKit Go.IM Go.Proofs.YtmfcmjcgajjiiaaDoorW.PrintWords Go.Proofs.YtmfcmjcgajjiiaaDoorW.PrintLast Go.Proofs.YtmfcmjcgajjiiaaDoorW.PrintMore
set_option linter.unusedVariables false
set_option linter.unusedSimpArgs false
/-! ### Which lines are right -/
def JumpOp (op : Int) : Prop := op = 7 ∨ op = 8 ∨ op = 9
instance (op : Int) : Decidable (JumpOp op) := by unfold JumpOp; infer_instance
def RtP (x : S38) : Prop :=
  if x.f0 = 0 then RightP x.f1.f0 x.f1.f1 x.f1.f2 x.f1.f3 x.f1.f4 ∧ (x.f2 = 0 ∨ (JumpOp x.f1.f0 ∧ 0 < x.f2 ∧ x.f1.f4 = 0))
  else 0 < x.f0 ∧ x.f1.f0 = 0 ∧ x.f1.f1 = 0 ∧ x.f1.f2 = 0 ∧ x.f1.f3 = 0 ∧ x.f1.f4 = 0 ∧ x.f2 = 0
instance (x : S38) : Decidable (RtP x) := by unfold RtP; infer_instance
theorem rjumps_val (k : Nat) (op a b c imm : Int) : swageref02_Jumps.f (k + 4) op a b c imm = some (if RightP op a b c imm ∧ JumpOp op then (imm, true) else (0, false)) := by
  unfold swageref02_Jumps.f
  rw [rright_eq]
  simp only [Option.bind_some]
  unfold JumpOp
  by_cases hR : RightP op a b c imm
  · simp only [hR, decide_true, if_true, true_and]
    by_cases h7 : op = 7
    · rw [if_pos h7, if_pos (Or.inl h7)]
    · rw [if_neg h7]
      by_cases h8 : op = 8
      · rw [if_pos h8, if_pos (Or.inr (Or.inl h8))]
      · rw [if_neg h8]
        by_cases h9 : op = 9
        · rw [if_pos h9, if_pos (Or.inr (Or.inr h9))]
        · rw [if_neg h9, if_neg (by omega)]
  · simp [hR]
theorem jumps_val (k : Nat) (op a b c imm : Int) (hi : I64 imm) : inst_Jumps.f (k + 5) op a b c imm = some (if RightP op a b c imm ∧ JumpOp op then (imm, true) else (0, false)) := by
  rw [← rjumps_eq k op a b c imm hi]
  exact rjumps_val (k + 1) op a b c imm
theorem rtA_eq {k : Nat} (hk : 5 ≤ k) (x : S38) (h : LI x) : rtA k x = some (decide (RtP x)) := by
  obtain ⟨j, rfl⟩ := Nat.exists_eq_add_of_le' hk
  obtain ⟨h0, h1, h2, h3, h4, h5, h6⟩ := h
  unfold rtA asm_right.f RtP
  rw [jumps_val j _ _ _ _ _ h5, right_ge (by omega) _ _ _ _ _ h5]
  simp only [Option.bind_some]
  by_cases hz : x.f0 = 0
  · rw [if_pos hz]
    simp only [if_pos hz]
    by_cases hR : RightP x.f1.f0 x.f1.f1 x.f1.f2 x.f1.f3 x.f1.f4
    · simp only [hR, decide_true, if_true, true_and]
      by_cases ht : x.f2 = 0
      · simp [ht]
      · rw [if_neg ht]
        by_cases hj : JumpOp x.f1.f0
        · simp only [hj, if_true, true_and]
          by_cases hp : x.f2 > 0
          · rw [if_pos hp]
            congr 1
            rw [Bool.eq_iff_iff]
            simp [ht]
            omega
          · rw [if_neg hp]
            simp [ht]
            omega
        · simp [hj, ht]
    · simp [hR]
  · rw [if_neg hz]
    simp only [if_neg hz]
    by_cases hp : x.f0 > 0
    · rw [if_pos hp]
      unfold asm_Label.f
      simp only [Option.bind_some]
      congr 1
      rw [Bool.eq_iff_iff]
      simp
      omega
    · rw [if_neg hp]
      simp
      omega
theorem rright5_eq {k : Nat} (hk : 4 ≤ k) (x : S38) : swageref05_right.f k x.f0 x.f1.f0 x.f1.f1 x.f1.f2 x.f1.f3 x.f1.f4 x.f2 = some (decide (RtP x)) := by
  obtain ⟨j, rfl⟩ := Nat.exists_eq_add_of_le' hk
  unfold swageref05_right.f RtP
  rw [rjumps_val j, rright_eq]
  simp only [Option.bind_some]
  by_cases hz : x.f0 = 0
  · rw [if_pos hz]
    simp only [if_pos hz]
    by_cases hR : RightP x.f1.f0 x.f1.f1 x.f1.f2 x.f1.f3 x.f1.f4
    · simp only [hR, decide_true, if_true, true_and]
      by_cases ht : x.f2 = 0
      · simp [ht]
      · rw [if_neg ht]
        by_cases hj : JumpOp x.f1.f0
        · simp only [hj, if_true, true_and]
          by_cases hp : x.f2 ≥ 1
          · rw [if_pos hp]
            congr 1
            rw [Bool.eq_iff_iff]
            simp [ht]
            omega
          · rw [if_neg hp]
            simp [ht]
            omega
        · simp [hj, ht]
    · simp [hR]
  · rw [if_neg hz]
    simp only [if_neg hz]
    by_cases hp : x.f0 ≥ 1
    · rw [if_pos hp]
      by_cases hq : (x.f1.f0 == 0 && (x.f1.f1 == 0 && (x.f1.f2 == 0 && (x.f1.f3 == 0 && (x.f1.f4 == 0))))) = true
      · rw [if_pos hq]
        congr 1
        rw [Bool.eq_iff_iff]
        simp at hq ⊢
        omega
      · rw [if_neg hq]
        simp at hq ⊢
        intro h1 h2 h3 h4 h5
        exact fun h6 => absurd h6 (hq h2 h3 h4 h5)
    · rw [if_neg hp]
      simp
      omega
def rtP (x : S38) : Bool := decide (RtP x)
/-! ### Places -/
/-- The place of a label, from n on; -1: it is none. -/
def plc (a : Int) : List S38 → Int → Int
  | [], _ => -1
  | x :: xs, n => if x.f0 = 0 then plc a xs (n + 1) else if x.f0 = a then n else plc a xs n
theorem plc_cons (a : Int) (x : S38) (xs : List S38) (n : Int) : plc a (x :: xs) n = if x.f0 = 0 then plc a xs (n + 1) else if x.f0 = a then n else plc a xs n := rfl
theorem plc_nil (a n : Int) : plc a [] n = -1 := rfl
theorem plc_ge (a : Int) : ∀ (l : List S38) (n : Int), 0 ≤ n → plc a l n = -1 ∨ (n ≤ plc a l n ∧ plc a l n ≤ n + l.length)
  | [], n, h => .inl rfl
  | x :: xs, n, h => by
    unfold plc
    have h1 := plc_ge a xs (n + 1) (by omega)
    have h2 := plc_ge a xs n h
    simp only [List.length_cons]
    split
    · rcases h1 with h1 | h1
      · exact .inl h1
      · right; omega
    · split
      · right; omega
      · rcases h2 with h2 | h2
        · exact .inl h2
        · right; omega
theorem plc_app (a : Int) : ∀ (l m : List S38) (n : Int), 0 ≤ n → plc a (l ++ m) n = if plc a l n = -1 then plc a m (n + cnt l) else plc a l n
  | [], m, n, h => by simp [plc, cnt]
  | x :: xs, m, n, h => by
    have e : cnt (x :: xs) = if x.f0 = 0 then cnt xs + 1 else cnt xs := by
      unfold cnt
      by_cases hx : x.f0 = 0 <;> simp [hx]
    show plc a (x :: (xs ++ m)) n = _
    rw [plc_cons, plc_cons, e]
    by_cases hx : x.f0 = 0
    · rw [if_pos hx, if_pos hx, if_pos hx, plc_app a xs m (n + 1) (by omega)]
      rw [show n + 1 + cnt xs = n + (cnt xs + 1) by omega]
    · rw [if_neg hx, if_neg hx, if_neg hx]
      by_cases ha : x.f0 = a
      · rw [if_pos ha, if_pos ha, if_neg (by omega)]
      · rw [if_neg ha, if_neg ha, plc_app a xs m n h]
/-- The labels of some lines. -/
def labs (l : List S38) : List Int := (l.filter fun x => x.f0 != 0).map (·.f0)
theorem labs_app (l m : List S38) : labs (l ++ m) = labs l ++ labs m := by simp [labs]
theorem plc_none (a : Int) (ha : a ≠ 0) : ∀ (l : List S38) (n : Int), 0 ≤ n → (plc a l n = -1 ↔ a ∉ labs l)
  | [], n, h => by simp [plc, labs]
  | x :: xs, n, h => by
    unfold plc
    have e : labs (x :: xs) = if x.f0 = 0 then labs xs else x.f0 :: labs xs := by
      unfold labs
      by_cases hx : x.f0 = 0 <;> simp [hx]
    rw [e]
    by_cases hx : x.f0 = 0
    · rw [if_pos hx, if_pos hx]
      exact plc_none a ha xs (n + 1) (by omega)
    · rw [if_neg hx, if_neg hx]
      by_cases h2 : x.f0 = a
      · rw [if_pos h2]
        simp [h2]
        omega
      · rw [if_neg h2, plc_none a ha xs n h]
        simp only [List.mem_cons, not_or]
        exact ⟨fun h => ⟨fun e => h2 e.symm, h⟩, fun h => h.2⟩
/-! ### What find finds -/
def fsP (l : List S38) : Option (List (Int × Value)) := fs l (List.range l.length)
theorem fs_cong (l m : List S38) : ∀ k, k ≤ l.length → fs (l ++ m) (List.range k) = fs l (List.range k)
  | 0, _ => rfl
  | k + 1, h => by
    rw [range_succ_, fs_snoc, fs_snoc, fs_cong l m k (by omega)]
    unfold stp
    have e1 : rd_T38 (l ++ m) (k : Int) = rd_T38 l (k : Int) := by
      rw [rd38' (by rw [List.length_append]; omega), rd38' (by omega : k < l.length)]
      exact List.getElem_append_left _
    have e2 : (l ++ m).take k = l.take k := List.take_append_of_le_length (by omega)
    rw [e1, e2]
theorem fsP_snoc (l : List S38) (x : S38) : fsP (l ++ [x]) = (fsP l).bind fun es => if x.f0 = 0 then some es else if (lk es x.f0).isSome = true then none else some (st es x.f0 (.int .i64 (cnt l))) := by
  unfold fsP
  rw [show (l ++ [x]).length = l.length + 1 by simp, range_succ_, fs_snoc, fs_cong l [x] l.length (Nat.le_refl _)]
  unfold stp
  have e1 : rd_T38 (l ++ [x]) ((l.length : Nat) : Int) = x := by
    rw [rd38' (by simp)]
    simp
  have e2 : (l ++ [x]).take l.length = l := by simp
  rw [e1, e2]
theorem lk_st (es : List (Int × Value)) (k a : Int) (v : Value) : lk (st es k v) a = if a = k then some v else lk es a := by
  induction es with
  | nil =>
    unfold st lk
    split
    · rfl
    · rfl
  | cons p es ih =>
    unfold st
    by_cases hk : k = p.1
    · rw [if_pos hk]
      unfold lk
      simp only
      split
      · rfl
      · rename_i h
        rw [if_neg (by rw [← hk]; exact h)]
    · rw [if_neg hk]
      unfold lk
      rw [ih]
      by_cases ha : a = p.1
      · rw [if_pos ha, if_pos ha, if_neg (by omega)]
      · rw [if_neg ha, if_neg ha]
theorem keys_st (es : List (Int × Value)) (k : Int) (v : Value) (h : lk es k = none) : keysOf (st es k v) = keysOf es ++ [k] := by
  induction es with
  | nil => rfl
  | cons p es ih =>
    unfold lk at h
    by_cases hk : k = p.1
    · rw [if_pos hk] at h; cases h
    · rw [if_neg hk] at h
      unfold st
      rw [if_neg hk]
      simp only [keysOf, List.map_cons, List.cons_append, List.cons.injEq, true_and]
      exact ih h
/-- The map that find makes. -/
theorem fsP_spec (l : List S38) : (fsP l = none ∧ ¬ (labs l).Nodup) ∨ ∃ es, fsP l = some es ∧ (labs l).Nodup ∧ keysOf es = labs l ∧ ∀ a, a ≠ 0 → lk es a = if plc a l 0 = -1 then none else some (.int .i64 (plc a l 0)) := by
  refine snoc_ind (P := fun l => (fsP l = none ∧ ¬ (labs l).Nodup) ∨ ∃ es, fsP l = some es ∧ (labs l).Nodup ∧ keysOf es = labs l ∧ ∀ a, a ≠ 0 → lk es a = if plc a l 0 = -1 then none else some (.int .i64 (plc a l 0))) ?_ ?_ l
  · exact .inr ⟨[], rfl, by simp [labs], rfl, fun a ha => by simp [lk, plc]⟩
  · intro l x ih
    rw [fsP_snoc, labs_app]
    have e : labs [x] = if x.f0 = 0 then [] else [x.f0] := by
      unfold labs
      by_cases hx : x.f0 = 0 <;> simp [hx]
    rcases ih with ⟨h1, h2⟩ | ⟨es, h1, h2, h3, h4⟩
    · left
      rw [h1]
      exact ⟨rfl, fun h => h2 (List.nodup_append.1 h).1⟩
    · rw [h1]
      simp only [Option.bind_some]
      by_cases hx : x.f0 = 0
      · rw [if_pos hx, e, if_pos hx]
        right
        refine ⟨es, rfl, by simpa using h2, by simpa using h3, fun a ha => ?_⟩
        rw [h4 a ha, plc_app a l [x] 0 (by omega)]
        by_cases hp : plc a l 0 = -1
        · rw [if_pos hp, if_pos hp]
          simp [plc, hx]
        · rw [if_neg hp, if_neg hp, if_neg hp]
      · rw [if_neg hx, e, if_neg hx]
        have h5 := h4 x.f0 hx
        by_cases hp : plc x.f0 l 0 = -1
        · rw [if_pos hp] at h5
          rw [h5]
          right
          have hnm := (plc_none x.f0 hx l 0 (by omega)).1 hp
          refine ⟨_, if_neg (by simp), ?_, by rw [keys_st _ _ _ h5, h3], fun a ha => ?_⟩
          · rw [List.nodup_append]
            exact ⟨h2, by simp, fun a ha b hb => by simp at hb; subst hb; exact fun e => hnm (e ▸ ha)⟩
          · rw [lk_st, plc_app a l [x] 0 (by omega)]
            by_cases hax : a = x.f0
            · subst hax
              rw [if_pos rfl, if_pos hp]
              have hc := cnt_le l
              rw [plc_cons, if_neg hx, if_pos rfl, Int.zero_add, if_neg (by omega)]
            · rw [if_neg hax, h4 a ha]
              by_cases hq : plc a l 0 = -1
              · rw [if_pos hq, if_pos hq]
                rw [plc_cons, if_neg hx, if_neg (show ¬ x.f0 = a from fun e => hax e.symm), plc_nil, if_pos rfl]
              · rw [if_neg hq, if_neg hq, if_neg hq]
        · rw [if_neg hp] at h5
          rw [h5]
          left
          refine ⟨if_pos rfl, fun h => ?_⟩
          have hm : x.f0 ∈ labs l := by
            by_cases hm : x.f0 ∈ labs l
            · exact hm
            · exact absurd ((plc_none x.f0 hx l 0 (by omega)).2 hm) hp
          have := (List.nodup_append.1 h).2.2 x.f0 hm x.f0 (by simp)
          exact this rfl
/-! ### The document's Place, Places, Assemble -/
theorem w64p {n : Int} (h : -1000000000000000 ≤ n ∧ n ≤ 1000000000000000) : wrap64 (n + 1) = n + 1 := by unfold wrap64; omega
theorem place_loop (l : List S38) (a : Int) (hl : l.length ≤ 1000000000) : ∀ (m j k : Nat) (n : Int), l.length - j = m → j ≤ l.length → m < k → 0 ≤ n → n ≤ j → swageref05_Place.l0 k l a n (j : Int) = some (plc a (l.drop j) n)
  | 0, j, k, n, hm, hj, hk, h0, h1 => by
    obtain ⟨k, rfl⟩ : ∃ q, k = q + 1 := ⟨k - 1, by omega⟩
    rw [swageref05_Place.l0, if_neg (by omega), List.drop_eq_nil_of_le (by omega), plc_nil]
  | m + 1, j, k, n, hm, hj, hk, h0, h1 => by
    obtain ⟨k, rfl⟩ : ∃ q, k = q + 1 := ⟨k - 1, by omega⟩
    have hjl : j < l.length := by omega
    have wj : wrap64 ((j : Int) + 1) = ((j + 1 : Nat) : Int) := by rw [w64p (by omega)]; omega
    rw [swageref05_Place.l0, if_pos (by omega), if_pos (by omega), drop38 hjl, plc_cons, wj, w64p (by omega)]
    by_cases hz : (rd_T38 l (j : Int)).f0 = 0
    · rw [if_pos hz, if_pos hz]
      exact place_loop l a hl m (j + 1) k (n + 1) (by omega) (by omega) (by omega) (by omega) (by omega)
    · rw [if_neg hz, if_neg hz]
      by_cases ha : (rd_T38 l (j : Int)).f0 = a
      · rw [if_pos ha, if_pos ha]
      · rw [if_neg ha, if_neg ha]
        exact place_loop l a hl m (j + 1) k n (by omega) (by omega) (by omega) h0 (by omega)
theorem place_eq {l : List S38} (hl : l.length ≤ 1000000000) {k : Nat} (hk : l.length < k) (a : Int) : swageref05_Place.f k l a = some (plc a l 0) :=
  place_loop l a hl l.length 0 k 0 (by omega) (by omega) hk (by omega) (by omega)
/-- One label more among the rising; none: it is there. -/
def insK (a p : Int) : List S46 → Option (List S46)
  | [] => some [⟨a, p⟩]
  | x :: xs => if x.f0 < a then (insK a p xs).map (x :: ·) else if x.f0 = a then none else some (⟨a, p⟩ :: x :: xs)
theorem insK_cons (a p : Int) (x : S46) (xs : List S46) : insK a p (x :: xs) = if x.f0 < a then (insK a p xs).map (x :: ·) else if x.f0 = a then none else some (⟨a, p⟩ :: x :: xs) := rfl
theorem insK_len (a p : Int) : ∀ (out r : List S46), insK a p out = some r → r.length = out.length + 1
  | [], r, h => by injection h with h; subst h; rfl
  | x :: xs, r, h => by
    unfold insK at h
    split at h
    · obtain ⟨r', h', rfl⟩ := Option.map_eq_some_iff.1 h
      simp only [List.length_cons, insK_len a p xs r' h']
    · split at h
      · cases h
      · injection h with h; subst h; rfl
def plFold (l : List S38) : List S38 → List S46 → List S46 × Int
  | [], out => (out, 0)
  | x :: xs, out => if x.f0 = 0 then plFold l xs out else match insK x.f0 (plc x.f0 l 0) out with
    | none => ([], 4)
    | some r => plFold l xs r
theorem rd46' {l : List S46} {j : Nat} (h : j < l.length) : rd_T46 l (j : Int) = l[j] := by
  unfold rd_T46
  simp [List.getD_eq_getElem?_getD, h]
theorem places_in (l : List S38) (hl : l.length ≤ 1000000000) (out : List S46) (hol : out.length ≤ l.length) (j : Nat) (hj : j < l.length) (hz : ¬ (rd_T38 l (j : Int)).f0 = 0) (B : Nat)
    (hnext : ∀ r k, insK (rd_T38 l (j : Int)).f0 (plc (rd_T38 l (j : Int)).f0 l 0) out = some r → B ≤ k → swageref05_Places.l1 k l r ((j + 1 : Nat) : Int) = some (plFold l (l.drop (j + 1)) r)) :
    ∀ (m i k : Nat), out.length - i = m → i ≤ out.length → B + l.length + m + 3 ≤ k → insK (rd_T38 l (j : Int)).f0 (plc (rd_T38 l (j : Int)).f0 l 0) out = (insK (rd_T38 l (j : Int)).f0 (plc (rd_T38 l (j : Int)).f0 l 0) (out.drop i)).map (out.take i ++ ·) →
      swageref05_Places.l2 k l out (j : Int) (i : Int) = some (match insK (rd_T38 l (j : Int)).f0 (plc (rd_T38 l (j : Int)).f0 l 0) out with
        | none => ([], 4)
        | some r => plFold l (l.drop (j + 1)) r)
  | 0, i, k, hm, hi, hk, hins => by
    obtain ⟨k, rfl⟩ : ∃ q, k = q + 1 := ⟨k - 1, by omega⟩
    obtain rfl : i = out.length := by omega
    have wj : wrap64 ((j : Int) + 1) = ((j + 1 : Nat) : Int) := by rw [w64p (by omega)]; omega
    rw [List.drop_length, List.take_length] at hins
    simp only [insK, Option.map_some] at hins
    rw [swageref05_Places.l2, if_neg (by omega), if_pos (by omega), if_pos (by omega)]
    simp only [Option.bind_some, List.nil_append, Int.toNat_natCast, List.take_length, List.drop_length, List.append_nil, List.length_nil, Nat.zero_add, Nat.add_zero]
    rw [if_pos (by omega), if_pos (by omega), if_pos (by omega), place_eq hl (by omega)]
    simp only [Option.bind_some, List.length_append, List.length_cons, List.length_nil]
    rw [if_pos (by omega), if_pos (by omega), wj, hnext _ k hins (by omega), hins]
  | m + 1, i, k, hm, hi, hk, hins => by
    obtain ⟨k, rfl⟩ : ∃ q, k = q + 1 := ⟨k - 1, by omega⟩
    have hio : i < out.length := by omega
    have wj : wrap64 ((j : Int) + 1) = ((j + 1 : Nat) : Int) := by rw [w64p (by omega)]; omega
    have wi : wrap64 ((i : Int) + 1) = ((i + 1 : Nat) : Int) := by rw [w64p (by omega)]; omega
    have hd : out.drop i = rd_T46 out (i : Int) :: out.drop (i + 1) := by rw [rd46' hio, List.drop_eq_getElem_cons hio]
    have ht : out.take (i + 1) = out.take i ++ [rd_T46 out (i : Int)] := by rw [rd46' hio, List.take_succ_eq_append_getElem hio]
    rw [hd, insK_cons] at hins
    rw [swageref05_Places.l2, if_pos (by omega), if_pos (by omega), if_pos (by omega), if_pos (by omega)]
    by_cases h1 : (rd_T46 out (i : Int)).f0 < (rd_T38 l (j : Int)).f0
    · rw [if_pos h1] at hins ⊢
      rw [wi]
      refine places_in l hl out hol j hj hz B hnext m (i + 1) k (by omega) (by omega) (by omega) ?_
      rw [hins, ht, Option.map_map]
      congr 1
      funext r
      simp
    · rw [if_neg h1] at hins ⊢
      by_cases h2 : (rd_T46 out (i : Int)).f0 = (rd_T38 l (j : Int)).f0
      · rw [if_pos h2] at hins ⊢
        rw [hins]
        rfl
      · rw [if_neg h2] at hins ⊢
        simp only [Option.map_some] at hins
        rw [if_pos (by omega)]
        simp only [Option.bind_some, List.nil_append, Int.toNat_natCast, List.length_nil, Nat.zero_add]
        rw [if_pos (by rw [List.length_take]; omega), place_eq hl (by omega)]
        simp only [Option.bind_some, List.length_append, List.length_cons, List.length_nil]
        rw [if_pos (by rw [List.length_take]; omega), if_pos (by rw [List.length_take, List.length_drop]; omega), wj]
        have e : out.take i ++ [(⟨(rd_T38 l (j : Int)).f0, plc (rd_T38 l (j : Int)).f0 l 0⟩ : S46)] ++ out.drop i = out.take i ++ (⟨(rd_T38 l (j : Int)).f0, plc (rd_T38 l (j : Int)).f0 l 0⟩ :: rd_T46 out (i : Int) :: out.drop (i + 1)) := by
          rw [hd, List.append_assoc]
          rfl
        rw [e, hnext _ k hins (by omega), hins]
theorem places_l1 (l : List S38) (hl : l.length ≤ 1000000) : ∀ (m j k : Nat) (out : List S46), l.length - j = m → j ≤ l.length → out.length ≤ j → (m + 1) * (2 * l.length + 5) ≤ k → swageref05_Places.l1 k l out (j : Int) = some (plFold l (l.drop j) out)
  | 0, j, k, out, hm, hj, ho, hk => by
    obtain ⟨k, rfl⟩ : ∃ q, k = q + 1 := ⟨k - 1, by omega⟩
    rw [swageref05_Places.l1, if_neg (by omega), List.drop_eq_nil_of_le (by omega)]
    rfl
  | m + 1, j, k, out, hm, hj, ho, hk => by
    have hb : (m + 1 + 1) * (2 * l.length + 5) = (m + 1) * (2 * l.length + 5) + (2 * l.length + 5) := by rw [Nat.add_mul (m + 1) 1, Nat.one_mul]
    generalize hB : (m + 1) * (2 * l.length + 5) = B at hb
    rw [hb] at hk
    obtain ⟨k, rfl⟩ : ∃ q, k = q + 1 := ⟨k - 1, by omega⟩
    have hjl : j < l.length := by omega
    have wj : wrap64 ((j : Int) + 1) = ((j + 1 : Nat) : Int) := by rw [w64p (by omega)]; omega
    rw [swageref05_Places.l1, if_pos (by omega), if_pos (by omega), drop38 hjl]
    unfold plFold
    by_cases hz : (rd_T38 l (j : Int)).f0 = 0
    · rw [if_pos hz, if_pos hz, wj]
      exact places_l1 l hl m (j + 1) k out (by omega) (by omega) (by omega) (by omega)
    · rw [if_neg hz, if_neg hz]
      have := places_in l (by omega) out (by omega) j hjl hz B (fun r k' hr hk' => places_l1 l hl m (j + 1) k' r (by omega) (by omega) (by rw [insK_len _ _ _ _ hr]; omega) (by omega)) out.length 0 k (by omega) (by omega) (by omega) (by simp)
      rw [show ((0 : Nat) : Int) = 0 from rfl] at this
      rw [this]
theorem places_l0 (l : List S38) (hl : l.length ≤ 1000000) : ∀ (m j k : Nat), l.length - j = m → j ≤ l.length → (l.length + 2) * (2 * l.length + 5) + m ≤ k → (l.take j).all rtP = true → swageref05_Places.l0 k l (j : Int) = some (if l.all rtP = true then plFold l l [] else ([], 1))
  | 0, j, k, hm, hj, hk, ha => by
    have hb : (l.length + 2) * (2 * l.length + 5) = (l.length + 1) * (2 * l.length + 5) + (2 * l.length + 5) := by rw [show l.length + 2 = l.length + 1 + 1 from rfl, Nat.add_mul (l.length + 1) 1, Nat.one_mul]
    generalize hB : (l.length + 1) * (2 * l.length + 5) = B at hb
    rw [hb] at hk
    obtain ⟨k, rfl⟩ : ∃ q, k = q + 1 := ⟨k - 1, by omega⟩
    rw [List.take_of_length_le (by omega)] at ha
    have h1 := places_l1 l hl l.length 0 k [] (by omega) (by omega) (by simp) (by omega)
    rw [show ((0 : Nat) : Int) = 0 from rfl, List.drop_zero] at h1
    rw [swageref05_Places.l0, if_neg (by omega), if_pos ha, h1]
  | m + 1, j, k, hm, hj, hk, ha => by
    have hb : (l.length + 2) * (2 * l.length + 5) = (l.length + 1) * (2 * l.length + 5) + (2 * l.length + 5) := by rw [show l.length + 2 = l.length + 1 + 1 from rfl, Nat.add_mul (l.length + 1) 1, Nat.one_mul]
    obtain ⟨k, rfl⟩ : ∃ q, k = q + 1 := ⟨k - 1, by omega⟩
    have hjl : j < l.length := by omega
    have wj : wrap64 ((j : Int) + 1) = ((j + 1 : Nat) : Int) := by rw [w64p (by omega)]; omega
    rw [swageref05_Places.l0, if_pos (by omega), if_pos (by omega), rright5_eq (by omega)]
    simp only [Option.bind_some]
    by_cases hr : RtP (rd_T38 l (j : Int))
    · rw [if_pos (by simpa using hr), wj]
      refine places_l0 l hl m (j + 1) k (by omega) (by omega) (by omega) ?_
      rw [take_snoc38 hjl, List.all_append, ha]
      simp [rtP, hr]
    · rw [if_neg (by simpa using hr), if_neg]
      intro h
      exact hr (by simpa [rtP] using List.all_eq_true.1 h _ (rd38_mem hjl))
/-- The document's Places. -/
theorem rplaces_eq (l : List S38) (hl : l.length ≤ 1000000) {k : Nat} (hk : (l.length + 2) * (2 * l.length + 5) + l.length ≤ k) : swageref05_Places.f k l = some (if l.all rtP = true then plFold l l [] else ([], 1)) :=
  places_l0 l hl l.length 0 k (by omega) (by omega) hk (by simp)
/-- A row of labels with their places. -/
def plRow (l : List S38) (ks : List Int) : List S46 := ks.map fun a => ⟨a, plc a l 0⟩
theorem insK_row (l : List S38) (a : Int) : ∀ (ks : List Int), ks.Pairwise (· < ·) → (a ∈ ks ∧ insK a (plc a l 0) (plRow l ks) = none) ∨ (a ∉ ks ∧ ∃ r, r.Pairwise (· < ·) ∧ r.Perm (ks ++ [a]) ∧ insK a (plc a l 0) (plRow l ks) = some (plRow l r))
  | [], _ => .inr ⟨by simp, [a], by simp, List.Perm.refl _, rfl⟩
  | b :: ks, h => by
    rw [List.pairwise_cons] at h
    show (_ ∧ insK a (plc a l 0) (⟨b, plc b l 0⟩ :: plRow l ks) = none) ∨ (_ ∧ ∃ r, _ ∧ _ ∧ insK a (plc a l 0) (⟨b, plc b l 0⟩ :: plRow l ks) = some (plRow l r))
    rw [insK_cons]
    simp only
    by_cases h1 : b < a
    · rw [if_pos h1]
      rcases insK_row l a ks h.2 with ⟨hm, he⟩ | ⟨hm, r, hp, hpe, he⟩
      · left
        rw [he]
        exact ⟨List.mem_cons_of_mem _ hm, rfl⟩
      · right
        rw [he]
        refine ⟨by simp only [List.mem_cons, not_or]; exact ⟨by omega, hm⟩, b :: r, ?_, ?_, rfl⟩
        · rw [List.pairwise_cons]
          refine ⟨fun c hc => ?_, hp⟩
          have := hpe.subset hc
          simp only [List.mem_append, List.mem_singleton] at this
          rcases this with hc | rfl
          · exact h.1 c hc
          · exact h1
        · exact hpe.cons b
    · rw [if_neg h1]
      by_cases h2 : b = a
      · rw [if_pos h2]
        left
        exact ⟨by simp [h2], rfl⟩
      · rw [if_neg h2]
        right
        refine ⟨?_, a :: b :: ks, ?_, ?_, rfl⟩
        · simp only [List.mem_cons, not_or]
          exact ⟨by omega, fun hm => by have := h.1 a hm; omega⟩
        · rw [List.pairwise_cons]
          refine ⟨fun c hc => ?_, List.pairwise_cons.2 h⟩
          rcases List.mem_cons.1 hc with rfl | hc
          · omega
          · have := h.1 c hc; omega
        · exact (List.perm_append_singleton a (b :: ks)).symm
theorem labs_cons (x : S38) (xs : List S38) : labs (x :: xs) = if x.f0 = 0 then labs xs else x.f0 :: labs xs := by
  unfold labs
  by_cases hx : x.f0 = 0 <;> simp [hx]
theorem plFold_spec (l : List S38) : ∀ (xs : List S38) (ks : List Int), ks.Pairwise (· < ·) → (¬ (ks ++ labs xs).Nodup ∧ plFold l xs (plRow l ks) = ([], 4)) ∨ ((ks ++ labs xs).Nodup ∧ ∃ r, r.Pairwise (· < ·) ∧ r.Perm (ks ++ labs xs) ∧ plFold l xs (plRow l ks) = (plRow l r, 0))
  | [], ks, h => .inr ⟨by simp only [labs, List.filter_nil, List.map_nil, List.append_nil]; exact h.imp (fun h => by omega), ks, h, by simp [labs], rfl⟩
  | x :: xs, ks, h => by
    unfold plFold
    rw [labs_cons]
    by_cases hx : x.f0 = 0
    · rw [if_pos hx, if_pos hx]
      exact plFold_spec l xs ks h
    · rw [if_neg hx, if_neg hx]
      rcases insK_row l x.f0 ks h with ⟨hm, he⟩ | ⟨hm, r, hp, hpe, he⟩
      · left
        rw [he]
        refine ⟨fun hn => ?_, rfl⟩
        exact (List.nodup_append.1 hn).2.2 _ hm _ List.mem_cons_self rfl
      · rw [he]
        simp only
        have hperm : (r ++ labs xs).Perm (ks ++ x.f0 :: labs xs) := by
          have := hpe.append_right (labs xs)
          rwa [List.append_assoc] at this
        rcases plFold_spec l xs r hp with ⟨h1, h2⟩ | ⟨h1, r2, h2, h3, h4⟩
        · left
          exact ⟨fun hn => h1 (hperm.nodup_iff.2 hn), h2⟩
        · right
          exact ⟨hperm.nodup_iff.1 h1, r2, h2, h3.trans hperm, h4⟩
/-- The document's Places is that of asm. -/
theorem places_same (l : List S38) : (if l.all rtP = true then plFold l l [] else ([], 1)) = plaR rtP l := by
  unfold plaR
  cases ha : l.all rtP with
  | false => simp
  | true =>
    rw [if_pos rfl, if_neg (by simp)]
    have hf := plFold_spec l l [] List.Pairwise.nil
    rw [List.nil_append] at hf
    rcases fsP_spec l with ⟨h1, h2⟩ | ⟨es, h1, h2, h3, h4⟩
    · unfold fsP at h1
      rw [h1]
      rcases hf with ⟨_, h⟩ | ⟨h, _⟩
      · exact h
      · exact absurd h h2
    · unfold fsP at h1
      rw [h1]
      rcases hf with ⟨h, _⟩ | ⟨_, r, hp, hpe, he⟩
      · exact absurd h2 h
      · have he' : plFold l l [] = (plRow l r, 0) := he
        rw [he']
        have hr : r = sortK es := by
          unfold sortK
          rw [h3]
          have tot : ∀ a b : Int, (decide (a ≤ b) || decide (b ≤ a)) = true := fun a b => by simp; omega
          have tr : ∀ a b c : Int, decide (a ≤ b) = true → decide (b ≤ c) = true → decide (a ≤ c) = true := fun a b c h1 h2 => by simp at *; omega
          refine List.Perm.eq_of_pairwise (le := fun a b => decide (a ≤ b) = true) (fun a b _ _ h1 h2 => by simp at h1 h2; omega) (hp.imp (fun h => by simp; omega)) (List.pairwise_mergeSort tr tot _) (hpe.trans (List.mergeSort_perm _ _).symm)
        rw [hr]
        unfold plRow
        congr 1
        apply List.map_congr_left
        intro a ham
        unfold plP
        have hal : a ∈ labs l := by
          rw [← h3]
          unfold sortK at ham
          rwa [List.mem_mergeSort] at ham
        have ha0 : a ≠ 0 := by
          unfold labs at hal
          obtain ⟨y, hy, rfl⟩ := List.mem_map.1 hal
          have := (List.mem_filter.1 hy).2
          simpa using this
        rw [h4 a ha0, if_neg (fun e => (plc_none a ha0 l 0 (by omega)).1 e hal)]
        rfl
theorem all_getD {l : List S38} (h : ∀ x ∈ l, LI x) : (l.all fun x => (rtA 30 x).getD false) = l.all rtP := by
  induction l with
  | nil => rfl
  | cons x xs ih =>
    rw [List.all_cons, List.all_cons, ih fun y hy => h y (by simp [hy]), rtA_eq (by decide) x (h x (by simp))]
    rfl
theorem all_isSome {l : List S38} (h : ∀ x ∈ l, LI x) : (l.all fun x => (rtA 30 x).isSome) = true := by
  rw [List.all_eq_true]
  intro x hx
  rw [rtA_eq (by decide) x (h x hx)]
  rfl
theorem asm_eq {l : List S38} (h : ∀ x ∈ l, LI x) (hl : l.length ≤ 1000000000000) : asm_Assemble.f l = some (asmR rtP l) := by
  unfold asm_Assemble.f
  rw [if_pos ⟨hl, all_isSome h⟩]
  unfold asmR
  rw [all_getD h]
theorem pla_eq {l : List S38} (h : ∀ x ∈ l, LI x) (hl : l.length ≤ 1000000000000) : asm_Places.f l = some (plaR rtP l) := by
  unfold asm_Places.f
  rw [if_pos ⟨hl, all_isSome h⟩]
  unfold plaR
  rw [all_getD h]
theorem asS_some (es : List (Int × Value)) (out : List S32) (x : S38) : asS es (some out) x = if x.f0 = 0 then (if x.f2 = 0 then some (out ++ [x.f1]) else match lk es x.f2 with
  | none => none
  | some v => some (out ++ [⟨x.f1.f0, x.f1.f1, x.f1.f2, x.f1.f3, intV v⟩])) else some out := rfl
theorem rea_eq (l : List S38) (hl : l.length ≤ 1000000000) (es : List (Int × Value)) (h4 : ∀ a, a ≠ 0 → lk es a = if plc a l 0 = -1 then none else some (.int .i64 (plc a l 0))) {k : Nat} (hk : l.length < k) :
    ∀ (xs : List S38) (out : List S32), reaL k l xs out = some (asmEnd (xs.foldl (asS es) (some out)))
  | [], out => by
    unfold reaL
    rw [List.foldl_nil, asmEnd_some]
    split <;> rfl
  | x :: xs, out => by
    unfold reaL
    rw [List.foldl_cons, asS_some]
    by_cases hz : x.f0 = 0
    · rw [if_pos hz, if_pos hz]
      by_cases ht : x.f2 = 0
      · rw [if_pos ht, if_pos ht]
        exact rea_eq l hl es h4 hk xs _
      · rw [if_neg ht, if_neg ht, place_eq hl hk, h4 _ ht]
        simp only [Option.bind_some]
        have hg := plc_ge x.f2 l 0 (by omega)
        by_cases hp : plc x.f2 l 0 = -1
        · rw [if_pos (by omega), if_pos hp]
          simp only
          rw [asS_none]
          rfl
        · rw [if_neg (by omega), if_neg hp]
          exact rea_eq l hl es h4 hk xs _
    · rw [if_neg hz, if_neg hz]
      exact rea_eq l hl es h4 hk xs _
/-- The document's Assemble is that of asm. -/
theorem rasm_eq {l : List S38} (hl : l.length ≤ 1000000) {k : Nat} (hk : (l.length + 2) * (2 * l.length + 5) + l.length ≤ k) : swageref05_Assemble.f k l = some (asmR rtP l) := by
  unfold swageref05_Assemble.f
  have hk2 : l.length < k := by
    have : 1 * 5 ≤ (l.length + 2) * (2 * l.length + 5) := Nat.mul_le_mul (by omega) (by omega)
    omega
  rw [if_pos (by omega), rplaces_eq l hl hk, places_same]
  simp only [Option.bind_some]
  unfold plaR asmR
  cases ha : l.all rtP with
  | false => simp
  | true =>
    simp only [Bool.true_eq_false, if_false]
    rcases fsP_spec l with ⟨h1, h2⟩ | ⟨es, h1, h2, h3, h4⟩
    · unfold fsP at h1
      rw [h1]
      simp
    · unfold fsP at h1
      rw [h1]
      simp only [if_true]
      rw [rea_eq l (by omega) es h4 hk2 l []]
      rfl
end Go.Proofs.YtmfcmjcgajjiiaaDoor.S
