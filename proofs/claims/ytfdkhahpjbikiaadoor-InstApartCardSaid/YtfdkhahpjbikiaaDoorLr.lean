import Derived.Test.YtfdkhahpjbikiaaDoorLa
import Derived.Test.YtfdkhahpjbikiaaDoorS2
import Derived.Test.YtfdkhahpjbikiaaDoorS3
import Derived.Test.YtfdkhahpjbikiaaDoorS4
import Derived.Test.YtfdkhahpjbikiaaDoorS5
namespace Go.Proofs.YtfdkhahpjbikiaaDoor.S
open Go.RowKit Go.Proofs.YtfdkhahpjbikiaaDoorW.PrintWords Go.Proofs.YtfdkhahpjbikiaaDoorW.PrintLast Go.Proofs.YtfdkhahpjbikiaaDoorW.PrintMore
set_option linter.unusedVariables false
set_option linter.unusedSimpArgs false
theorem rreg_eq (n : Int) (b : Bool) : swageref02_reg.f n b = some (decide (regOk n b)) := by
  unfold swageref02_reg.f regOk
  by_cases h : n = 0
  · simp [h]
  · cases b <;> simp [h]
    split <;> simp_all <;> omega
theorem rfields_eq (k : Nat) (op : Int) (h0 : 0 ≤ op) (h1 : op < 15) : swageref02_fields.f (k + 4) op = some (let s := shapeTab.getD op.toNat (⟨#[]⟩, false, false, false, false, false, false); (s.2.1, s.2.2.1, s.2.2.2.1, s.2.2.2.2.1, true)) := by
  rcases op_cases h0 h1 with rfl | rfl | rfl | rfl | rfl | rfl | rfl | rfl | rfl | rfl | rfl | rfl | rfl | rfl | rfl <;>
    simp [swageref02_fields.f, swageref02_fields.j0, swageref02_fields.j1, swageref02_fields.j2, swageref02_fields.j3, shapeTab]
theorem rfields_no (k : Nat) (op : Int) (h : ¬ (0 ≤ op ∧ op < 15)) : swageref02_fields.f (k + 4) op = some (false, false, false, false, false) := by
  simp only [swageref02_fields.f, swageref02_fields.j0, swageref02_fields.j1, swageref02_fields.j2, swageref02_fields.j3, beq_iff_eq]
  repeat (rw [if_neg (by omega)])
set_option maxHeartbeats 2000000 in
theorem rright_eq (k : Nat) (op a b c imm : Int) : swageref02_Right.f (k + 4) op a b c imm = some (decide (RightP op a b c imm)) := by
  unfold swageref02_Right.f
  by_cases ho : 0 ≤ op ∧ op < 15
  · rw [rfields_eq k op ho.1 ho.2]
    simp only [Option.bind_some, rreg_eq]
    unfold RightP
    rcases op_cases ho.1 ho.2 with rfl | rfl | rfl | rfl | rfl | rfl | rfl | rfl | rfl | rfl | rfl | rfl | rfl | rfl | rfl <;>
      simp [shapeTab, swageref02_Right.j0, swageref01_Known.f, regOk] <;> (repeat' split) <;> (first | omega | (congr 1; rw [Bool.eq_iff_iff]; simp; omega) | (simp; omega))
  · rw [rfields_no k op ho]
    simp [swageref02_Right.j0, RightP]
    omega
theorem rsets_eq (k : Nat) (op a b c imm : Int) (hi : -9223372036854775808 ≤ imm ∧ imm ≤ 9223372036854775807) : swageref02_Sets.f (k + 5) op a b c imm = inst_Sets.f (k + 5) op a b c imm := by
  unfold swageref02_Sets.f inst_Sets.f
  rw [rright_eq (k + 1), right_eq (k + 3) op a b c imm hi]
  simp only [Option.bind_some]
  by_cases h : RightP op a b c imm
  · simp only [h, decide_true, if_true]
    rcases op_cases h.1 h.2.1 with rfl | rfl | rfl | rfl | rfl | rfl | rfl | rfl | rfl | rfl | rfl | rfl | rfl | rfl | rfl <;> simp [swageref02_Sets.j0]
  · simp [h]
theorem w64 (n : Int) (h : -9223372036854775808 ≤ n ∧ n ≤ 9223372036854775807) : wrap64 n = n := by
  unfold wrap64
  omega
theorem rjumps_eq (k : Nat) (op a b c imm : Int) (hi : -9223372036854775808 ≤ imm ∧ imm ≤ 9223372036854775807) : swageref02_Jumps.f (k + 5) op a b c imm = inst_Jumps.f (k + 5) op a b c imm := by
  unfold swageref02_Jumps.f inst_Jumps.f
  rw [rright_eq (k + 1), right_eq (k + 3) op a b c imm hi]
  simp only [Option.bind_some]
  by_cases h : RightP op a b c imm
  · have hs : inst_shapeOf.f op = some (shapeTab.getD op.toNat (⟨#[]⟩, false, false, false, false, false, false)) := by
      unfold inst_shapeOf.f
      rw [if_pos ⟨h.1, h.2.1⟩]
    rw [hs]
    simp only [h, decide_true, if_true, Option.bind_some]
    rcases op_cases h.1 h.2.1 with rfl | rfl | rfl | rfl | rfl | rfl | rfl | rfl | rfl | rfl | rfl | rfl | rfl | rfl | rfl <;> simp [shapeTab]
  · obtain ⟨t, ht⟩ : ∃ t, inst_shapeOf.f op = some t := by
      unfold inst_shapeOf.f
      split <;> exact ⟨_, rfl⟩
    rw [ht]
    simp only [h, decide_false, Option.bind_some]
    (repeat' split) <;> simp_all
theorem rreg_in {n : Int} {b : Bool} (h : regOk n b) : 0 ≤ n ∧ n < 16 := by
  rcases h with rfl | ⟨_, h⟩
  · omega
  · exact h
theorem ruses_both (k : Nat) (b c : Int) (hb : 0 ≤ b ∧ b < 16) (hc : 0 ≤ c ∧ c < 16) : swageref02_Uses.j2 (k + 1) (mn b c) (mx b c) = inst_both.f b c := by
  unfold swageref02_Uses.j2 inst_both.f
  simp only
  have h0 : ¬ mn b c < 0 := by unfold mn; split <;> omega
  rw [if_neg h0]
  by_cases h : b = c
  · subst h
    simp [mn, mx]
  · have : ¬ mx b c ≤ mn b c := by unfold mn mx; split <;> split <;> omega
    rw [if_neg this, if_neg h]
theorem ruses_eq (k : Nat) (op a b c imm : Int) (hi : -9223372036854775808 ≤ imm ∧ imm ≤ 9223372036854775807) : swageref02_Uses.f (k + 5) op a b c imm = inst_Uses.f (k + 5) op a b c imm := by
  unfold swageref02_Uses.f inst_Uses.f
  rw [rright_eq (k + 1), right_eq (k + 3) op a b c imm hi]
  simp only [Option.bind_some]
  by_cases h : RightP op a b c imm
  · simp only [h, decide_true, if_true]
    have ha := rreg_in h.2.2.1
    have hb := rreg_in h.2.2.2.1
    have hc := rreg_in h.2.2.2.2.1
    have e1 := fun j => ruses_both j b c hb hc
    have e2 := fun j => ruses_both j a b ha hb
    have one : ∀ j x, 0 ≤ x → swageref02_Uses.j2 (j + 1) x (-1) = some [x] := fun j x hx => by
      simp only [swageref02_Uses.j2]
      rw [if_neg (by omega), if_pos (by omega)]
    have no : ∀ j, swageref02_Uses.j2 (j + 1) (-1) (-1) = some [] := fun j => by simp [swageref02_Uses.j2]
    rcases op_cases h.1 h.2.1 with rfl | rfl | rfl | rfl | rfl | rfl | rfl | rfl | rfl | rfl | rfl | rfl | rfl | rfl | rfl <;>
      simp [swageref02_Uses.j0, swageref02_Uses.j1, inst_Uses.j0, inst_Uses.j1, e1, e2, one, no, ha.1, hb.1]
  · simp [h]
theorem or16_fin : ∀ a b : Fin 16, Go.bits .or .i64 (wrap64 ((a.val : Int) * 16)) (b.val : Int) = (a.val : Int) * 16 + b.val := by decide +kernel
theorem or16 {a b : Int} (ha : 0 ≤ a ∧ a < 16) (hb : 0 ≤ b ∧ b < 16) : Go.bits .or .i64 (wrap64 (a * 16)) b = a * 16 + b := by
  have := or16_fin ⟨a.toNat, by omega⟩ ⟨b.toNat, by omega⟩
  simpa [Int.toNat_of_nonneg ha.1, Int.toNat_of_nonneg hb.1] using this
/-- The eight bytes of a right instruction. -/
def bytes8 (op a b c imm : Int) : List Int := [op, a * 16 + b, c, 0, imm % 256, imm / 256 % 256, imm / 65536 % 256, imm / 16777216 % 256]
theorem encode_eq (k : Nat) (op a b c imm : Int) (hi : -9223372036854775808 ≤ imm ∧ imm ≤ 9223372036854775807) : inst_Encode.f (k + 6) op a b c imm = if RightP op a b c imm then some (bytes8 op a b c imm, 0) else some ([], 1) := by
  unfold inst_Encode.f
  rw [right_eq (k + 4) op a b c imm hi]
  simp only [Option.bind_some, decide_eq_true_eq]
  by_cases h : RightP op a b c imm
  · have ha := rreg_in h.2.2.1
    have hb := rreg_in h.2.2.2.1
    have hc := rreg_in h.2.2.2.2.1
    have ho := h.1
    have ho' := h.2.1
    rw [if_pos h, if_pos h, or16 ha hb]
    have s0 : shr .i64 imm (wrap64 (8 * 0)) = imm := by
      have e : wrap64 (8 * 0) = 0 := by decide +kernel
      rw [e]; unfold shr; rw [show (2 : Int) ^ min (Int.toNat 0) (IntKind.bits .i64) = 1 by decide +kernel]; omega
    have s1 : shr .i64 imm (wrap64 (8 * 1)) = imm / 256 := by
      have e : wrap64 (8 * 1) = 8 := by decide +kernel
      rw [e]; unfold shr; rw [show (2 : Int) ^ min (Int.toNat 8) (IntKind.bits .i64) = 256 by decide +kernel]
    have s2 : shr .i64 imm (wrap64 (8 * 2)) = imm / 65536 := by
      have e : wrap64 (8 * 2) = 16 := by decide +kernel
      rw [e]; unfold shr; rw [show (2 : Int) ^ min (Int.toNat 16) (IntKind.bits .i64) = 65536 by decide +kernel]
    have s3 : shr .i64 imm (wrap64 (8 * 3)) = imm / 16777216 := by
      have e : wrap64 (8 * 3) = 24 := by decide +kernel
      rw [e]; unfold shr; rw [show (2 : Int) ^ min (Int.toNat 24) (IntKind.bits .i64) = 16777216 by decide +kernel]
    have g0 : 0 ≤ wrap64 (8 * 0) := by decide +kernel
    have g1 : 0 ≤ wrap64 (8 * 1) := by decide +kernel
    have g2 : 0 ≤ wrap64 (8 * 2) := by decide +kernel
    have g3 : 0 ≤ wrap64 (8 * 3) := by decide +kernel
    have i0 : wrap64 (0 + 1) = 1 := by decide +kernel
    have i1 : wrap64 (1 + 1) = 2 := by decide +kernel
    have i2 : wrap64 (2 + 1) = 3 := by decide +kernel
    have i3 : wrap64 (3 + 1) = 4 := by decide +kernel
    have l0 : ∀ j (l : List Int) (i n : Int), i < 4 → 0 ≤ wrap64 (8 * i) → wrap64 (i + 1) = n → l.length < 100 → inst_Encode.l0 (j + 1) l i op a b c imm = inst_Encode.l0 j (l ++ [shr .i64 imm (wrap64 (8 * i)) % 256]) n op a b c imm := by
      intro j l i n h1 h2 h3 h4
      simp only [inst_Encode.l0]
      rw [if_pos h1, if_pos h2, if_pos (by omega), h3]
    rw [l0 (k + 5) _ 0 1 (by decide) g0 i0 (by simp), l0 (k + 4) _ 1 2 (by decide) g1 i1 (by simp), l0 (k + 3) _ 2 3 (by decide) g2 i2 (by simp), l0 (k + 2) _ 3 4 (by decide) g3 i3 (by simp)]
    simp only [inst_Encode.l0]
    rw [if_neg (by decide), s0, s1, s2, s3]
    unfold bytes8
    simp
    omega
  · rw [if_neg h, if_neg h]
theorem imm_in {op a b c imm : Int} (h : RightP op a b c imm) : -2147483648 ≤ imm ∧ imm ≤ 2147483647 := by
  have := h.2.2.2.2.2
  split at this
  · omega
  · split at this
    · omega
    · split at this <;> omega
theorem rencode_eq (k : Nat) (op a b c imm : Int) : swageref02_Encode.f (k + 6) op a b c imm = if RightP op a b c imm then some (bytes8 op a b c imm, 0) else some ([], 1) := by
  unfold swageref02_Encode.f
  rw [rright_eq (k + 2)]
  simp only [Option.bind_some, decide_eq_true_eq]
  by_cases h : RightP op a b c imm
  · have ha := rreg_in h.2.2.1
    have hb := rreg_in h.2.2.2.1
    have hc := rreg_in h.2.2.2.2.1
    have hi := imm_in h
    have ho := h.1
    have ho' := h.2.1
    rw [if_pos h, if_pos h]
    have w0 : wrap64 (16 * a) = 16 * a := w64 _ (by omega)
    have w1 : wrap64 (16 * a + b) = 16 * a + b := w64 _ (by omega)
    split
    · have w2 : wrap64 (imm + 4294967296) = imm + 4294967296 := w64 _ (by omega)
      rw [w0, w1, w2, Int.tmod_eq_emod_of_nonneg (by omega), Int.tdiv_eq_ediv_of_nonneg (by omega), Int.tdiv_eq_ediv_of_nonneg (by omega), Int.tdiv_eq_ediv_of_nonneg (by omega), w64 _ (by omega), w64 _ (by omega), w64 _ (by omega), Int.tmod_eq_emod_of_nonneg (by omega), Int.tmod_eq_emod_of_nonneg (by omega)]
      unfold bytes8
      simp
      omega
    · rw [w0, w1, Int.tmod_eq_emod_of_nonneg (by omega), Int.tdiv_eq_ediv_of_nonneg (by omega), Int.tdiv_eq_ediv_of_nonneg (by omega), Int.tdiv_eq_ediv_of_nonneg (by omega), w64 _ (by omega), w64 _ (by omega), w64 _ (by omega), Int.tmod_eq_emod_of_nonneg (by omega), Int.tmod_eq_emod_of_nonneg (by omega)]
      unfold bytes8
      simp
      omega
  · rw [if_neg h, if_neg h]
theorem cat_list (x y : List UInt8) : (⟨x.toArray⟩ : ByteArray) ++ ⟨y.toArray⟩ = ⟨(x ++ y).toArray⟩ := by
  apply ByteArray.ext
  simp
theorem dig_fin : ∀ d : Fin 10, strOfNums [(wrap64 (48 + (d.val : Int))) % 256] = ⟨[UInt8.ofNat (48 + d.val)].toArray⟩ := by decide +kernel
theorem dig_eq {d : Nat} (h : d < 10) : strOfNums [(wrap64 (48 + (d : Int))) % 256] = ⟨[UInt8.ofNat (48 + d)].toArray⟩ := dig_fin ⟨d, h⟩
theorem number_nat : ∀ (k u : Nat), u < 10 ^ (k + 1) → u < 9223372036854775808 → swageref02_number.f (k + 1) (u : Int) = some ⟨(Lib.decDigits u).toArray⟩
  | k, u, h, hb => by
    have hm : Int.tmod (u : Int) 10 = ((u % 10 : Nat) : Int) := by rw [Int.tmod_eq_emod_of_nonneg (by omega)]; omega
    have hd : Int.tdiv (u : Int) 10 = ((u / 10 : Nat) : Int) := by rw [Int.tdiv_eq_ediv_of_nonneg (by omega)]; omega
    unfold swageref02_number.f
    simp only [Option.bind_some]
    rw [if_neg (by omega), hm, hd, dig_eq (by omega), Lib.decDigits]
    by_cases h1 : u < 10
    · rw [if_pos (by omega), dif_pos h1, Nat.mod_eq_of_lt h1]
    · rw [if_neg (by omega), dif_neg h1]
      have hw : wrap64 ((u / 10 : Nat) : Int) = ((u / 10 : Nat) : Int) := w64 _ (by omega)
      rw [hw]
      cases k with
      | zero => simp at h; omega
      | succ k =>
        rw [number_nat k (u / 10) (by rw [Nat.pow_succ] at h; omega) (by omega)]
        simp only [Option.bind_some]
        have hz : (⟨(Lib.decDigits (u / 10)).toArray⟩ : ByteArray).size ≤ 20 := by
          show (Lib.decDigits (u / 10)).length ≤ 20
          rw [Lib.decDigits_length]
          exact Lib.nDigits_le20 _ (by omega)
        have hz1 : (⟨[UInt8.ofNat (48 + u % 10)].toArray⟩ : ByteArray).size = 1 := rfl
        rw [if_pos (by omega), cat_list]
theorem number_eq (k : Nat) (n : Int) (h : -2147483648 ≤ n ∧ n ≤ 2147483647) : swageref02_number.f (k + 12) n = some (itoaB n) := by
  unfold itoaB Lib.itoa
  by_cases hn : n < 0
  · rw [if_pos hn]
    have hw : wrap64 (-n) = ((n.natAbs : Nat) : Int) := by rw [w64 _ (by omega)]; omega
    have hp : (10 : Nat) ^ 10 ≤ 10 ^ (k + 10 + 1) := Nat.pow_le_pow_right (by decide) (by omega)
    show swageref02_number.f (k + 11 + 1) n = _
    unfold swageref02_number.f
    rw [if_pos hn, hw, number_nat (k + 10) n.natAbs (by omega) (by omega)]
    simp only [Option.bind_some]
    have hz : (⟨(Lib.decDigits n.natAbs).toArray⟩ : ByteArray).size ≤ 20 := by
      show (Lib.decDigits n.natAbs).length ≤ 20
      rw [Lib.decDigits_length]
      exact Lib.nDigits_le20 _ (by omega)
    rw [if_pos (by omega), show (⟨#[45]⟩ : ByteArray) = ⟨[45].toArray⟩ from rfl, cat_list]
    rfl
  · rw [if_neg hn]
    obtain ⟨u, rfl⟩ := Int.eq_ofNat_of_zero_le (by omega : 0 ≤ n)
    have hp : (10 : Nat) ^ 10 ≤ 10 ^ (k + 11 + 1) := Nat.pow_le_pow_right (by decide) (by omega)
    rw [number_nat (k + 11) u (by omega) (by omega)]
    simp
end Go.Proofs.YtfdkhahpjbikiaaDoor.S
