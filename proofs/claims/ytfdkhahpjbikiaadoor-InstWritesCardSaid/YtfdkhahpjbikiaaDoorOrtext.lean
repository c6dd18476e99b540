import Derived.Test.YtfdkhahpjbikiaaDoorLr
import Derived.Test.YtfdkhahpjbikiaaDoorLf0
import Derived.Test.YtfdkhahpjbikiaaDoorOrtext1
namespace Go.Proofs.YtfdkhahpjbikiaaDoor.S
open Go.RowKit Go.Proofs.YtfdkhahpjbikiaaDoorW.PrintWords Go.Proofs.YtfdkhahpjbikiaaDoorW.PrintLast Go.Proofs.YtfdkhahpjbikiaaDoorW.PrintMore
set_option linter.unusedVariables false
set_option linter.unusedSimpArgs false
theorem addS_reg (s : ByteArray) (n : Int) : addS true ⟨#[114]⟩ s n = s ++ (⟨#[32, 114]⟩ : ByteArray) ++ itoaB n := by
  unfold addS
  rw [if_pos rfl, show (⟨#[32]⟩ : ByteArray) ++ ⟨#[114]⟩ = ⟨#[32, 114]⟩ from rfl, ← ByteArray.append_assoc]
theorem addS_imm (s : ByteArray) (n : Int) : addS true ⟨#[]⟩ s n = s ++ (⟨#[32]⟩ : ByteArray) ++ itoaB n := by
  unfold addS
  rw [if_pos rfl, show (⟨#[32]⟩ : ByteArray) ++ ⟨#[]⟩ = ⟨#[32]⟩ from rfl, ← ByteArray.append_assoc]
theorem addS_no (p s : ByteArray) (n : Int) : addS false p s n = s := by
  unfold addS
  rw [if_neg (by decide)]
theorem itoaB_30 {n : Int} (h : -2147483648 ≤ n ∧ n ≤ 2147483647) : (itoaB n).size ≤ 30 := Nat.le_trans (itoaB_size n (by omega) (by omega)) (by decide)
theorem reg_32 {n : Int} {b : Bool} (h : regOk n b) : -2147483648 ≤ n ∧ n ≤ 2147483647 := by
  have := rreg_in h
  omega
set_option maxHeartbeats 4000000 in
theorem rtext_calls (op a b c imm : Int) (tx : ByteArray) (w : World) (ha : I64 a) (hb : I64 b) (hc : I64 c) (hi : I64 imm) (h : inst_Text.f 30 op a b c imm = some tx) :
    Calls Tryd.prog 20 #[.agg #[.int .i64 op, .int .i64 a, .int .i64 b, .int .i64 c, .int .i64 imm]] w fun e w' => e = .returned (.string tx) ∧ Below w.heap.size w w' := by
  by_cases hR : RightP op a b c imm
  · obtain ⟨t, e, _, ht⟩ := text_right (k := 30) (by decide) ha hb hc hi hR
    obtain rfl : t = tx := Option.some.inj (e.symm.trans h)
    have hr : swageref02_Right.f 30 op a b c imm = some true := by rw [rright_eq 26]; simp [hR]
    have na := number_eq 18 a (reg_32 hR.2.2.1)
    have nb := number_eq 18 b (reg_32 hR.2.2.2.1)
    have nc := number_eq 18 c (reg_32 hR.2.2.2.2.1)
    have ni := number_eq 18 imm (imm_in hR)
    have za := itoaB_30 (reg_32 hR.2.2.1)
    have zb := itoaB_30 (reg_32 hR.2.2.2.1)
    have zc := itoaB_30 (reg_32 hR.2.2.2.2.1)
    have zi := itoaB_30 (imm_in hR)
    have hf := rfields_eq 26 op hR.1 hR.2.1
    have h1 := hR.1
    have h2 := hR.2.1
    clear hR e h
    subst ht
    rcases op_cases h1 h2 with rfl | rfl | rfl | rfl | rfl | rfl | rfl | rfl | rfl | rfl | rfl | rfl | rfl | rfl | rfl
    · refine (rtext_001 30 0 a b c imm w rfl ⟨#[104, 97, 108, 116]⟩ (itoaB a) (itoaB b) (itoaB imm) false hr rfl hf (by decide) ni zi).mono ?_
      rintro e w' ⟨rfl, hd⟩
      refine ⟨?_, hd⟩
      congr 2
      all_goals simp only [shapeTab, textS, show Int.toNat 0 = 0 from rfl, List.getD_cons_zero, List.getD_cons_succ, addS_reg, addS_imm, addS_no, if_true, Bool.false_eq_true, if_false, ByteArray.append_assoc]
    · refine (rtext_101 30 1 a b c imm w rfl ⟨#[108, 105]⟩ (itoaB a) (itoaB b) (itoaB imm) false hr rfl hf (by decide) na za ni zi).mono ?_
      rintro e w' ⟨rfl, hd⟩
      refine ⟨?_, hd⟩
      congr 2
      all_goals simp only [shapeTab, textS, show Int.toNat 1 = 1 from rfl, List.getD_cons_zero, List.getD_cons_succ, addS_reg, addS_imm, addS_no, if_true, Bool.false_eq_true, if_false, ByteArray.append_assoc]
    · refine (rtext_101 30 2 a b c imm w rfl ⟨#[108, 105, 104]⟩ (itoaB a) (itoaB b) (itoaB imm) false hr rfl hf (by decide) na za ni zi).mono ?_
      rintro e w' ⟨rfl, hd⟩
      refine ⟨?_, hd⟩
      congr 2
      all_goals simp only [shapeTab, textS, show Int.toNat 2 = 2 from rfl, List.getD_cons_zero, List.getD_cons_succ, addS_reg, addS_imm, addS_no, if_true, Bool.false_eq_true, if_false, ByteArray.append_assoc]
    · refine (rtext_110 30 3 a b c imm w rfl ⟨#[109, 111, 118]⟩ (itoaB a) (itoaB b) (itoaB imm) false hr rfl hf (by decide) na za nb zb).mono ?_
      rintro e w' ⟨rfl, hd⟩
      refine ⟨?_, hd⟩
      congr 2
      all_goals simp only [shapeTab, textS, show Int.toNat 3 = 3 from rfl, List.getD_cons_zero, List.getD_cons_succ, addS_reg, addS_imm, addS_no, if_true, Bool.false_eq_true, if_false, ByteArray.append_assoc]
    · refine (rtext_bin 30 4 a b c imm w rfl ⟨#[98, 105, 110]⟩ (itoaB a) (itoaB b) (itoaB c) (itoaB imm) hr rfl (by decide) na za nb zb nc zc ni zi).mono ?_
      rintro e w' ⟨rfl, hd⟩
      refine ⟨?_, hd⟩
      congr 2
      all_goals simp only [shapeTab, textS, show Int.toNat 4 = 4 from rfl, List.getD_cons_zero, List.getD_cons_succ, addS_reg, addS_imm, addS_no, if_true, Bool.false_eq_true, if_false, ByteArray.append_assoc]
    · refine (rtext_111 30 5 a b c imm w rfl ⟨#[108, 100]⟩ (itoaB a) (itoaB b) (itoaB imm) false hr rfl hf (by decide) na za nb zb ni zi).mono ?_
      rintro e w' ⟨rfl, hd⟩
      refine ⟨?_, hd⟩
      congr 2
      all_goals simp only [shapeTab, textS, show Int.toNat 5 = 5 from rfl, List.getD_cons_zero, List.getD_cons_succ, addS_reg, addS_imm, addS_no, if_true, Bool.false_eq_true, if_false, ByteArray.append_assoc]
    · refine (rtext_111 30 6 a b c imm w rfl ⟨#[115, 116]⟩ (itoaB a) (itoaB b) (itoaB imm) false hr rfl hf (by decide) na za nb zb ni zi).mono ?_
      rintro e w' ⟨rfl, hd⟩
      refine ⟨?_, hd⟩
      congr 2
      all_goals simp only [shapeTab, textS, show Int.toNat 6 = 6 from rfl, List.getD_cons_zero, List.getD_cons_succ, addS_reg, addS_imm, addS_no, if_true, Bool.false_eq_true, if_false, ByteArray.append_assoc]
    · refine (rtext_001 30 7 a b c imm w rfl ⟨#[106, 109, 112]⟩ (itoaB a) (itoaB b) (itoaB imm) false hr rfl hf (by decide) ni zi).mono ?_
      rintro e w' ⟨rfl, hd⟩
      refine ⟨?_, hd⟩
      congr 2
      all_goals simp only [shapeTab, textS, show Int.toNat 7 = 7 from rfl, List.getD_cons_zero, List.getD_cons_succ, addS_reg, addS_imm, addS_no, if_true, Bool.false_eq_true, if_false, ByteArray.append_assoc]
    · refine (rtext_101 30 8 a b c imm w rfl ⟨#[106, 122]⟩ (itoaB a) (itoaB b) (itoaB imm) false hr rfl hf (by decide) na za ni zi).mono ?_
      rintro e w' ⟨rfl, hd⟩
      refine ⟨?_, hd⟩
      congr 2
      all_goals simp only [shapeTab, textS, show Int.toNat 8 = 8 from rfl, List.getD_cons_zero, List.getD_cons_succ, addS_reg, addS_imm, addS_no, if_true, Bool.false_eq_true, if_false, ByteArray.append_assoc]
    · refine (rtext_001 30 9 a b c imm w rfl ⟨#[99, 97, 108, 108]⟩ (itoaB a) (itoaB b) (itoaB imm) false hr rfl hf (by decide) ni zi).mono ?_
      rintro e w' ⟨rfl, hd⟩
      refine ⟨?_, hd⟩
      congr 2
      all_goals simp only [shapeTab, textS, show Int.toNat 9 = 9 from rfl, List.getD_cons_zero, List.getD_cons_succ, addS_reg, addS_imm, addS_no, if_true, Bool.false_eq_true, if_false, ByteArray.append_assoc]
    · refine (rtext_000 30 10 a b c imm w rfl ⟨#[114, 101, 116]⟩ (itoaB a) (itoaB b) (itoaB imm) false hr rfl hf (by decide)).mono ?_
      rintro e w' ⟨rfl, hd⟩
      refine ⟨?_, hd⟩
      congr 2
      all_goals simp only [shapeTab, textS, show Int.toNat 10 = 10 from rfl, List.getD_cons_zero, List.getD_cons_succ, addS_reg, addS_imm, addS_no, if_true, Bool.false_eq_true, if_false, ByteArray.append_assoc]
    · refine (rtext_100 30 11 a b c imm w rfl ⟨#[105, 110]⟩ (itoaB a) (itoaB b) (itoaB imm) false hr rfl hf (by decide) na za).mono ?_
      rintro e w' ⟨rfl, hd⟩
      refine ⟨?_, hd⟩
      congr 2
      all_goals simp only [shapeTab, textS, show Int.toNat 11 = 11 from rfl, List.getD_cons_zero, List.getD_cons_succ, addS_reg, addS_imm, addS_no, if_true, Bool.false_eq_true, if_false, ByteArray.append_assoc]
    · refine (rtext_100 30 12 a b c imm w rfl ⟨#[111, 117, 116]⟩ (itoaB a) (itoaB b) (itoaB imm) false hr rfl hf (by decide) na za).mono ?_
      rintro e w' ⟨rfl, hd⟩
      refine ⟨?_, hd⟩
      congr 2
      all_goals simp only [shapeTab, textS, show Int.toNat 12 = 12 from rfl, List.getD_cons_zero, List.getD_cons_succ, addS_reg, addS_imm, addS_no, if_true, Bool.false_eq_true, if_false, ByteArray.append_assoc]
    · refine (rtext_110 30 13 a b c imm w rfl ⟨#[97, 108, 108, 111, 99]⟩ (itoaB a) (itoaB b) (itoaB imm) false hr rfl hf (by decide) na za nb zb).mono ?_
      rintro e w' ⟨rfl, hd⟩
      refine ⟨?_, hd⟩
      congr 2
      all_goals simp only [shapeTab, textS, show Int.toNat 13 = 13 from rfl, List.getD_cons_zero, List.getD_cons_succ, addS_reg, addS_imm, addS_no, if_true, Bool.false_eq_true, if_false, ByteArray.append_assoc]
    · refine (rtext_111 30 14 a b c imm w rfl ⟨#[97, 100, 100, 105]⟩ (itoaB a) (itoaB b) (itoaB imm) false hr rfl hf (by decide) na za nb zb ni zi).mono ?_
      rintro e w' ⟨rfl, hd⟩
      refine ⟨?_, hd⟩
      congr 2
      all_goals simp only [shapeTab, textS, show Int.toNat 14 = 14 from rfl, List.getD_cons_zero, List.getD_cons_succ, addS_reg, addS_imm, addS_no, if_true, Bool.false_eq_true, if_false, ByteArray.append_assoc]
  · have e := text_wrong (k := 30) (by decide) hi hR
    obtain rfl := Option.some.inj (e.symm.trans h)
    exact rtext_no 30 op a b c imm w (by rw [rright_eq 26]; simp [hR])
end Go.Proofs.YtfdkhahpjbikiaaDoor.S
