import Derived.Test.YtfdkhahpjbikiaaDoorOap
import Derived.Test.YtfdkhahpjbikiaaDoorLp
import Derived.Test.YtfdkhahpjbikiaaDoorLt
import Derived.Lib.Strings
namespace Go.Proofs.YtfdkhahpjbikiaaDoor.S
open Go.RowKit Go.Proofs.YtfdkhahpjbikiaaDoorW.PrintWords Go.Proofs.YtfdkhahpjbikiaaDoorW.PrintLast Go.Proofs.YtfdkhahpjbikiaaDoorW.PrintMore
set_option linter.unusedVariables false
theorem list_ne {s t : ByteArray} (h : s ≠ t) : (s.toList == t.toList) = false := by
  rw [beq_eq_false_iff_ne]
  intro e
  rw [ByteArray.toList_eq, ByteArray.toList_eq] at e
  exact h (ByteArray.ext (Array.toList_inj.1 e))
theorem inst_ne {a b c d i a' b' c' d' i' : Int} (h : ¬ (a = a' ∧ b = b' ∧ c = c' ∧ d = d' ∧ i = i')) : (a == a' && (b == b' && (c == c' && (d == d' && i == i')))) = false := by
  rw [Bool.eq_false_iff]
  intro e
  simp only [Bool.and_eq_true, beq_iff_eq] at e
  exact h e
theorem apart_law (a b c d i a' b' c' d' i' : Int) (l : List Int) (A0 : Option Addr) (c0 : Nat) (w : World) (hGL : GL w) (hl : Kd.C (Kd.int .u8) w A0 l.length l) (hc : l.length ≤ c0) (hy : ∀ x ∈ l, Byte x) (hm : l.length ≤ 9223372036854775807)
    (hb : I64 b) (hc' : I64 c) (hd : I64 d) (hi : I64 i) (hb' : I64 b') (hc'' : I64 c') (hd' : I64 d') (hi' : I64 i') :
    Calls Tryd.prog 3 #[.agg #[.int .i64 a, .int .i64 b, .int .i64 c, .int .i64 d, .int .i64 i], .agg #[.int .i64 a', .int .i64 b', .int .i64 c', .int .i64 d', .int .i64 i'], .slice A0 l.length c0] w fun e w' => e = .returned (.bool true) ∧ Below w.heap.size w w' := by
  have e1 := encode_eq 24 a b c d i hi
  have e2 := encode_eq 24 a' b' c' d' i' hi'
  have r1 := right_eq 28 a b c d i hi
  have D := decode_law 28 l hm hy
  have E : ∀ z0 z1 z2 z3 z4, RightP z0 z1 z2 z3 z4 → inst_Encode.f 30 z0 z1 z2 z3 z4 = some (bytes8 z0 z1 z2 z3 z4, 0) ∧ inst_Right.f 30 z0 z1 z2 z3 z4 = some true := fun z0 z1 z2 z3 z4 h => by
    have hz : I64 z4 := by have := imm_in h; unfold I64; omega
    have e := encode_eq 24 z0 z1 z2 z3 z4 hz
    have r := right_eq 28 z0 z1 z2 z3 z4 hz
    rw [if_pos h] at e
    refine ⟨e, ?_⟩
    rw [r]
    simp [h]
  by_cases hR : RightP a b c d i
  · rw [if_pos hR] at e1
    have r1 : inst_Right.f 30 a b c d i = some true := by rw [r1]; simp [hR]
    by_cases hR' : RightP a' b' c' d' i'
    · rw [if_pos hR'] at e2
      obtain ⟨t1, x1, _, y1⟩ := text_right (k := 30) (by decide) hb hc' hd hi hR
      obtain ⟨t2, x2, _, y2⟩ := text_right (k := 30) (by decide) hb' hc'' hd' hi' hR'
      by_cases he : a = a' ∧ b = b' ∧ c = c' ∧ d = d' ∧ i = i'
      · obtain ⟨rfl, rfl, rfl, rfl, rfl⟩ := he
        by_cases hg : 1024 < (l.length : Int)
        · exact apart_SG 30 a b c d i 0 0 0 0 0 0 _ l t1 A0 c0 w hGL hl hc e1 e1 r1 x1 x1 hg
        · rcases D with ⟨z0, z1, z2, z3, z4, dz, hz, ez⟩ | dz
          · exact apart_SR 30 a b c d i z0 z1 z2 z3 z4 0 _ l t1 A0 c0 w hGL hl hc e1 e1 r1 x1 x1 (by omega) dz (ez ▸ (E z0 z1 z2 z3 z4 hz).1) (E z0 z1 z2 z3 z4 hz).2
          · exact apart_SW 30 a b c d i 0 0 0 0 0 0 _ l t1 A0 c0 w hGL hl hc e1 e1 r1 x1 x1 (by omega) dz
      · have q1 := list_ne (s := strOfNums (bytes8 a b c d i)) (t := strOfNums (bytes8 a' b' c' d' i')) (fun h => he (bytes8_inj hR hR' (str_inj _ _ (bytes8_byte hR) (bytes8_byte hR') h)))
        have q2 := list_ne (s := t1) (t := t2) (fun h => he (text_inj hR hR' (by rw [← y1, ← y2]; exact h)))
        have q3 := inst_ne he
        by_cases hg : 1024 < (l.length : Int)
        · exact apart_DG 30 a b c d i a' b' c' d' i' 0 0 0 0 0 0 _ _ l t1 t2 A0 c0 w hGL hl hc e1 e2 r1 x1 x2 q1 q2 q3 hg
        · rcases D with ⟨z0, z1, z2, z3, z4, dz, hz, ez⟩ | dz
          · exact apart_DR 30 a b c d i a' b' c' d' i' z0 z1 z2 z3 z4 0 _ _ l t1 t2 A0 c0 w hGL hl hc e1 e2 r1 x1 x2 q1 q2 q3 (by omega) dz (ez ▸ (E z0 z1 z2 z3 z4 hz).1) (E z0 z1 z2 z3 z4 hz).2
          · exact apart_DW 30 a b c d i a' b' c' d' i' 0 0 0 0 0 0 _ _ l t1 t2 A0 c0 w hGL hl hc e1 e2 r1 x1 x2 q1 q2 q3 (by omega) dz
    · rw [if_neg hR'] at e2
      by_cases hg : 1024 < (l.length : Int)
      · exact apart_MG 30 a b c d i a' b' c' d' i' 0 0 0 0 0 0 _ _ l ⟨#[]⟩ ⟨#[]⟩ A0 c0 w hGL hl hc e1 e2 r1 hg
      · rcases D with ⟨z0, z1, z2, z3, z4, dz, hz, ez⟩ | dz
        · exact apart_MR 30 a b c d i a' b' c' d' i' z0 z1 z2 z3 z4 0 _ _ l ⟨#[]⟩ ⟨#[]⟩ A0 c0 w hGL hl hc e1 e2 r1 (by omega) dz (ez ▸ (E z0 z1 z2 z3 z4 hz).1) (E z0 z1 z2 z3 z4 hz).2
        · exact apart_MW 30 a b c d i a' b' c' d' i' 0 0 0 0 0 0 _ _ l ⟨#[]⟩ ⟨#[]⟩ A0 c0 w hGL hl hc e1 e2 r1 (by omega) dz
  · rw [if_neg hR] at e1
    have r1 : inst_Right.f 30 a b c d i = some false := by rw [r1]; simp [hR]
    obtain ⟨l2, f2, e2⟩ : ∃ l2 f2, inst_Encode.f 30 a' b' c' d' i' = some (l2, f2) := by
      by_cases hR' : RightP a' b' c' d' i'
      · rw [if_pos hR'] at e2; exact ⟨_, _, e2⟩
      · rw [if_neg hR'] at e2; exact ⟨_, _, e2⟩
    by_cases hg : 1024 < (l.length : Int)
    · exact apart_NG 30 a b c d i a' b' c' d' i' 0 0 0 0 0 f2 _ _ l ⟨#[]⟩ ⟨#[]⟩ A0 c0 w hGL hl hc e1 e2 r1 hg
    · rcases D with ⟨z0, z1, z2, z3, z4, dz, hz, ez⟩ | dz
      · exact apart_NR 30 a b c d i a' b' c' d' i' z0 z1 z2 z3 z4 f2 _ _ l ⟨#[]⟩ ⟨#[]⟩ A0 c0 w hGL hl hc e1 e2 r1 (by omega) dz (ez ▸ (E z0 z1 z2 z3 z4 hz).1) (E z0 z1 z2 z3 z4 hz).2
      · exact apart_NW 30 a b c d i a' b' c' d' i' 0 0 0 0 0 f2 _ _ l ⟨#[]⟩ ⟨#[]⟩ A0 c0 w hGL hl hc e1 e2 r1 (by omega) dz
end Go.Proofs.YtfdkhahpjbikiaaDoor.S
