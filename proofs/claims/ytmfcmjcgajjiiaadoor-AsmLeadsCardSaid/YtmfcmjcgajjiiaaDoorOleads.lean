import Derived.Test.YtmfcmjcgajjiiaaDoorLleads
import Derived.Test.YtmfcmjcgajjiiaaDoorOsmall
import Derived.Test.YtmfcmjcgajjiiaaDoorRel
import Derived.Test.YtmfcmjcgajjiiaaDoorS5
namespace Go.Proofs.YtmfcmjcgajjiiaaDoor.S
open Go.RowKit Go.RelRegion Go.Proofs.YtmfcmjcgajjiiaaDoorW.PrintWords Go.Proofs.YtmfcmjcgajjiiaaDoorW.PrintLast Go.Proofs.YtmfcmjcgajjiiaaDoorW.PrintMore
set_option linter.unusedVariables false
set_option linter.unusedSimpArgs false
attribute [local go_sem high] eqA32
set_option maxHeartbeats 4000000 in
set_option maxRecDepth 100000 in
theorem leads_long (A : Option Addr) (c n : Nat) (w : World) (hGL : GL w) (hl : 150 < n) (hn : n ≤ 9223372036854775807) :
    Calls Tryd.prog 4 #[.slice A n c] w fun e w' => e = .returned (.bool true) ∧ Below w.heap.size w w' := by
  have b1 : decide ((150 : Int) < (n : Int)) = true := decide_eq_true (by omega)
  have HG := Aside0.mk hGL
  clear hGL hl hn
  go_enter Tryd.func4, Tryd.ntmps4
  go_wp2_with (go_at_call 7; refine (small_walk w HG.out).mono ?_; rintro e w1 ⟨rfl, hb1⟩)
  go_ret
  exact ⟨rfl, hb1⟩
set_option maxHeartbeats 4000000 in
set_option maxRecDepth 100000 in
theorem leads_err (A : Option Addr) (c : Nat) (l : List S38) (E : Int) (w : World) (hGL : GL w) (hC : Kd.C k38 w A l.length l) (hc : l.length ≤ c) (hl : l.length ≤ 150) (h1 : asm_Assemble.f l = some ([], E)) (hE : E ≠ 0) :
    Calls Tryd.prog 4 #[.slice A l.length c] w fun e w' => e = .returned (.bool true) ∧ Below w.heap.size w w' := by
  have b1 : decide ((150 : Int) < (l.length : Int)) = false := decide_eq_false (by omega)
  have b2 : (E != 0) = true := bne_iff_ne.2 hE
  have HG := Aside0.mk hGL
  have HC := Aside0.mk hC
  have HCC := Aside0.mk hc
  have H1 := Aside0.mk h1
  clear hGL hC hc hl h1 hE
  go_enter Tryd.func4, Tryd.ntmps4
  go_wp2_with (first
    | (go_at_call 7; refine (small_walk w HG.out).mono ?_; rintro e w1 ⟨rfl, hb1⟩; have HB1 := Aside0.mk hb1; clear hb1)
    | (go_at_call 8; refine (asm_Assemble.calls A c l [] E _ (Kd.C_below HC.out HB1.out) HCC.out H1.out).mono ?_; rintro e w3 ⟨v3, rfl, hr3, hb3⟩; obtain ⟨A3, c3, hv3, hk3, hc3⟩ := Kd.R_reads hr3; subst hv3; have HB3 := Aside0.mk (below_then HB1.out HB1.out.size hb3); clear hr3 hb3 hc3 hk3))
  go_ret
  exact ⟨rfl, HB3.out⟩
set_option maxHeartbeats 16000000 in
set_option maxRecDepth 100000 in
theorem leads_walk (k : Nat) (hk : 2 ≤ k) (A : Option Addr) (c : Nat) (l : List S38) (C : List S32) (w : World) (hGL : GL w) (hC : Kd.C k38 w A l.length l) (hc : l.length ≤ c) (hl : l.length ≤ 150) (h1 : asm_Assemble.f l = some (C, 0)) (hF : LF l C) :
    Calls Tryd.prog 4 #[.slice A l.length c] w fun e w' => e = .returned (.bool true) ∧ Below w.heap.size w w' := by
  have b1 : decide ((150 : Int) < (l.length : Int)) = false := decide_eq_false (by omega)
  have hu38 := Tryd.underlying38
  have hu32 := Tryd.underlying32
  have HG := Aside0.mk hGL
  have HC := Aside0.mk hC
  have HCC := Aside0.mk hc
  have HLL := Aside0.mk hl
  have H1 := Aside0.mk h1
  have HF := Aside0.mk hF
  clear hGL hC hc h1 hF
  go_enter Tryd.func4, Tryd.ntmps4
  go_wp2_with (first
    | (go_at_call 7; refine (small_walk w HG.out).mono ?_; rintro e w1 ⟨rfl, hb1⟩; have HB1 := Aside0.mk hb1; clear hb1)
    | (go_at_call 8; refine (asm_Assemble.calls A c l C 0 _ (Kd.C_below HC.out HB1.out) HCC.out H1.out).mono ?_; rintro e w3 ⟨v3, rfl, hr3, hb3⟩; obtain ⟨A3, c3, hv3, hk3, hc3⟩ := Kd.R_reads hr3; subst hv3; have HC3 := Aside0.mk hc3; have HB3 := Aside0.mk (below_then HB1.out HB1.out.size hb3); clear hr3 hb3 hc3 hk3))
  go_loopw [6, 7] (fun v i wr => ∃ (j : Nat), j ≤ l.length ∧ v = .int .i64 ((cn (l.take j) : Nat) : Int) ∧ i = .int .i64 (j : Int) ∧ Aside0 (Below w3.heap.size w3 wr)) (fun _ i _ => l.length - (intOf i).toNat)
  case atStart => exact ⟨0, Nat.zero_le _, rfl, rfl, ⟨Below.refl _ _⟩⟩
  case round =>
    obtain ⟨j, hj, rfl, rfl, HB⟩ := hrel
    have HBW := Aside0.mk (below_then HB3.out HB3.out.size HB.out)
    by_cases hlt : j < l.length
    · have b2 : decide ((j : Int) < (l.length : Int)) = true := decide_eq_true (by omega)
      obtain ⟨ad, eA, k0, k1, k2, k3, k4, k5, k6⟩ := at_T38 (Kd.C_below HC.out HBW.out) (j : Int) (by omega) (by omega)
      simp only [Int.toNat_natCast] at k0 k1 k2 k3 k4 k5 k6
      have hL := HF.out.2 j hlt
      generalize hy : rd_T38 l (j : Int) = y at k0 k1 k2 k3 k4 k5 k6 hL
      subst eA
      have hcl := cn_le (l.take j)
      rw [List.length_take] at hcl
      by_cases hz : y.f0 = 0
      · have hzb : (y.f0 != 0) = false := bne_eq_false_iff_eq.2 hz
        obtain ⟨hn1, hn2, hx0, hx1⟩ := hL.2 hz
        have HN1 := Aside0.mk hn1
        have b3 : decide ((C.length : Int) ≤ ((cn (l.take j) : Nat) : Int)) = false := decide_eq_false (by omega)
        have b3n : decide (C.length ≤ cn (l.take j)) = false := decide_eq_false (by omega)
        obtain ⟨ae, eE, x0, x1, x2, x3, x4⟩ := at_T32 (Kd.C_below HC3.out HB.out) ((cn (l.take j) : Nat) : Int) (by omega) (by omega)
        simp only [Int.toNat_natCast] at x0 x1 x2 x3 x4
        subst eE
        by_cases ht : y.f2 = 0
        · have htb : (y.f2 == 0) = true := beq_iff_eq.2 ht
          rw [hx0 ht] at x0 x1 x2 x3 x4
          clear hx0 hx1 hz ht hL hn1
          have hba := below_alloc (Below.refl wr.heap.size wr) (.cells #[.int .i64 y.f1.f0, .int .i64 y.f1.f1, .int .i64 y.f1.f2, .int .i64 y.f1.f3, .int .i64 y.f1.f4] 32)
          have m0 := pw_cell_below hba k0
          have m1 := pw_cell_below hba k1
          have m2 := pw_cell_below hba k2
          have m3 := pw_cell_below hba k3
          have m4 := pw_cell_below hba k4
          have m5 := pw_cell_below hba k5
          have m6 := pw_cell_below hba k6
          clear hba
          go_wp2_with fail
          go_quiet (fail)
          go_wp2_with fail
          go_roundw
          case rel => exact ⟨j + 1, by omega, by first | (rw [HN1.out]; go_num) | (rw [HN1.out]; simp), by go_num, ⟨pw_below_drewN (below_alloc HB.out _) _⟩⟩
          case measure => simp [intOf]; omega
        · have htb : (y.f2 == 0) = false := beq_eq_false_iff_ne.2 ht
          obtain ⟨hp0, hp1, hx, hR⟩ := hx1 ht
          rw [hx] at x0 x1 x2 x3 x4
          obtain ⟨q, hq⟩ : ∃ q, plc y.f2 l 0 = q := ⟨_, rfl⟩
          rw [hq] at x4 hp0 hp1 hR
          simp only at x0 x1 x2 x3 x4
          have HRt : Aside0 (inst_Right.f k y.f1.f0 y.f1.f1 y.f1.f2 y.f1.f3 q = some true) := ⟨by rw [right_ge hk _ _ _ _ _ ⟨by omega, by omega⟩, decide_eq_true hR]⟩
          have HT := Aside0.mk ht
          clear hx hx0 hx1 hz ht hL hn1 hR
          have hba := below_alloc (Below.refl wr.heap.size wr) (.cells #[.int .i64 y.f1.f0, .int .i64 y.f1.f1, .int .i64 y.f1.f2, .int .i64 y.f1.f3, .int .i64 q] 32)
          have m2 := pw_cell_below hba k6
          go_wp2_with fail
          have hbx := blk_new wr (.cells #[.int .i64 y.f1.f0, .int .i64 y.f1.f1, .int .i64 y.f1.f2, .int .i64 y.f1.f3, .int .i64 q] 32)
          clear m2
          obtain ⟨W7, hW7⟩ : ∃ W7, wr.alloc (.cells #[.int .i64 y.f1.f0, .int .i64 y.f1.f1, .int .i64 y.f1.f2, .int .i64 y.f1.f3, .int .i64 q] 32) = W7 := ⟨_, rfl⟩
          rw [hW7] at hbx hba ⊢
          clear hW7
          have HB7 := Aside0.mk (below_then HB.out HB.out.size hba)
          have HC7 := Aside0.mk (Kd.C_below (Kd.C_below HC.out HBW.out) hba)
          have x0 := blk_cell hbx 0
          have x1 := blk_cell hbx 1
          have x2 := blk_cell hbx 2
          have x3 := blk_cell hbx 3
          have x4 := blk_cell hbx 4
          simp only [List.getElem?_toArray, List.getElem?_cons_zero, List.getElem?_cons_succ] at x0 x1 x2 x3 x4
          have k0 := pw_cell_below hba k0
          have k1 := pw_cell_below hba k1
          have k2 := pw_cell_below hba k2
          have k6 := pw_cell_below hba k6
          clear hbx hba
          go_loopw [9, 10, 11] (fun a f kk wq => ∃ (j2 : Nat) (n2 : Int) (fb : Bool), j2 ≤ l.length ∧ a = .int .i64 n2 ∧ f = .bool fb ∧ kk = .int .i64 (j2 : Int) ∧ Aside0 (fb = false ∧ plc y.f2 (l.drop j2) n2 = q ∨ fb = true ∧ n2 = q) ∧ Aside0 (0 ≤ n2 ∧ n2 ≤ j2) ∧ Aside0 (Below W7.heap.size W7 wq)) (fun _ _ kk _ => l.length - (intOf kk).toNat)
          case atStart => exact ⟨0, 0, false, Nat.zero_le _, rfl, rfl, rfl, ⟨.inl ⟨rfl, hq⟩⟩, ⟨by omega, by omega⟩, ⟨Below.refl _ _⟩⟩
          case round =>
            obtain ⟨j2, n2, fb, hj2, rfl, rfl, rfl, HP, HN2, HBq⟩ := hrel
            have k0 := pw_cell_below HBq.out k0
            have k1 := pw_cell_below HBq.out k1
            have k2 := pw_cell_below HBq.out k2
            have k6 := pw_cell_below HBq.out k6
            have x0 := pw_cell_below HBq.out x0
            have x1 := pw_cell_below HBq.out x1
            have x2 := pw_cell_below HBq.out x2
            have x3 := pw_cell_below HBq.out x3
            have x4 := pw_cell_below HBq.out x4
            cases fb with
            | false =>
              by_cases hlt2 : j2 < l.length
              · have b4 : decide ((j2 : Int) < (l.length : Int)) = true := decide_eq_true (by omega)
                obtain ⟨ad2, eA2, y0, y1, y2, y3, y4, y5, y6⟩ := at_T38 (Kd.C_below HC7.out HBq.out) (j2 : Int) (by omega) (by omega)
                simp only [Int.toNat_natCast] at y0 y1 y2 y3 y4 y5 y6
                obtain rfl := Option.some.inj eA2
                have hP := HP.out
                rw [drop38 hlt2, plc_cons] at hP
                generalize rd_T38 l (j2 : Int) = y2 at y0 y1 y2 y3 y4 y5 y6 hP
                clear y1 y2 y3 y4 y5 y6
                have hP : (if y2.f0 = 0 then plc y.f2 (l.drop (j2 + 1)) (n2 + 1) else if y2.f0 = y.f2 then n2 else plc y.f2 (l.drop (j2 + 1)) n2) = q := by
                  rcases hP with h | h
                  · exact h.2
                  · exact absurd h.1 (by simp)
                clear HP
                by_cases hz2 : y2.f0 = 0
                · have b5 : (y2.f0 == 0) = true := beq_iff_eq.2 hz2
                  have b6 : (y2.f0 == y.f2) = false := beq_eq_false_iff_ne.2 (fun h => HT.out (by rw [← h, hz2]))
                  rw [if_pos hz2] at hP
                  have HP := Aside0.mk hP
                  clear hP hz2
                  go_wp2_with fail
                  go_quiet (fail)
                  go_wp2_with fail
                  go_roundw
                  case rel => exact ⟨j2 + 1, n2 + 1, false, by omega, by have := HN2.out; rw [w64p ⟨by omega, by omega⟩], rfl, by go_num, ⟨.inl ⟨rfl, HP.out⟩⟩, ⟨by have := HN2.out; omega, by have := HN2.out; omega⟩, ⟨pw_below_drewN HBq.out _⟩⟩
                  case measure => simp [intOf]; omega
                · have b5 : (y2.f0 == 0) = false := beq_eq_false_iff_ne.2 hz2
                  rw [if_neg hz2] at hP
                  by_cases he : y2.f0 = y.f2
                  · have b6 : (y2.f0 == y.f2) = true := beq_iff_eq.2 he
                    rw [if_pos he] at hP
                    have HP := Aside0.mk hP
                    clear hP hz2 he
                    go_wp2_with fail
                    go_quiet (fail)
                    go_wp2_with fail
                    go_roundw
                    case rel => exact ⟨j2 + 1, n2, true, by omega, rfl, rfl, by go_num, ⟨.inr ⟨rfl, HP.out⟩⟩, ⟨by have := HN2.out; omega, by have := HN2.out; omega⟩, ⟨pw_below_drewN HBq.out _⟩⟩
                    case measure => simp [intOf]; omega
                  · have b6 : (y2.f0 == y.f2) = false := beq_eq_false_iff_ne.2 he
                    rw [if_neg he] at hP
                    have HP := Aside0.mk hP
                    clear hP hz2 he
                    go_wp2_with fail
                    go_quiet (fail)
                    go_wp2_with fail
                    go_roundw
                    case rel => exact ⟨j2 + 1, n2, false, by omega, rfl, rfl, by go_num, ⟨.inl ⟨rfl, HP.out⟩⟩, ⟨by have := HN2.out; omega, by have := HN2.out; omega⟩, ⟨pw_below_drewN HBq.out _⟩⟩
                    case measure => simp [intOf]; omega
              · exfalso
                obtain rfl : j2 = l.length := by omega
                have := HP.out
                rw [List.drop_length, plc_nil] at this
                rcases this with h | h
                · omega
                · exact absurd h.1 (by simp)
            | true =>
              obtain rfl : n2 = q := by
                rcases HP.out with h | h
                · exact absurd h.1 (by simp)
                · exact h.2
              obtain ⟨WQ, hWQ⟩ : ∃ WQ, WQ = wr := ⟨_, rfl⟩
              rw [← hWQ] at HBq x0 x1 x2 x3 x4 k0 k1 k2 k6 ⊢
              clear hWQ
              clear HP
              have hd : (decide ((j2 : Int) < (l.length : Int)) = true ∧ decide (j2 < l.length) = true) ∨ (decide ((j2 : Int) < (l.length : Int)) = false ∧ decide (j2 < l.length) = false) := by
                by_cases h : j2 < l.length
                · exact .inl ⟨decide_eq_true (by omega), decide_eq_true h⟩
                · exact .inr ⟨decide_eq_false (by omega), decide_eq_false h⟩
              rcases hd with ⟨b4, b4n⟩ | ⟨b4, b4n⟩
              · go_wp2_with fail
                refine wp_region_rel 35 (fun _ => none) (fun _ => []) (fun _ _ _ => True) (fun w' => Below WQ.heap.size WQ w') (fun a b => Below a.heap.size a b) (by kernel_rfl) (by kernel_rfl) (below_drew (Below.refl _ _)) (fun a b h k => below_then h h.size k) (fun _ _ _ _ _ _ => trivial) ?_
                simp only [List.take_succ_cons, List.take_zero, List.drop_succ_cons, List.drop_zero]
                iterate 35 (apply relQ_step rfl; apply Exists.intro; constructor; (focus (intro w' hw'; have x0 := pw_cell_below hw' x0; have x1 := pw_cell_below hw' x1; have x2 := pw_cell_below hw' x2; have x3 := pw_cell_below hw' x3; have x4 := pw_cell_below hw' x4; have k1 := pw_cell_below hw' k1; have k2 := pw_cell_below hw' k2; unfold Yl; go_wp2_with (go_at_call 20; refine (inst_Right.calls k _ _ _ _ _ true _ HRt.out).mono ?_; rintro e w2 ⟨rfl, hb⟩); first | exact ⟨rfl, _, rfl, rfl, hb⟩ | exact ⟨rfl, _, rfl, rfl, Below.refl _ _⟩)); (try simp only [Act.put, List.setIfInBounds_toArray, List.set_cons_zero, List.set_cons_succ]))
                refine relQ_nil (fun x => ?_)
                repeat (refine relL_quiet rfl ?_)
                refine relL_nil (fun w' hw' _ => ?_)
                have hBe := Aside0.mk (below_then HB7.out HB7.out.size (below_then HBq.out HBq.out.size hw'))
                clear x0 x1 x2 x3 x4 k0 k1 k2 k6 hw'
                go_wp2_with fail
                go_roundw
                case rel => exact ⟨j + 1, by omega, by rw [HN1.out]; simp, by go_num, hBe⟩
                case measure => simp [intOf]; omega
              · go_wp2_with fail
                refine wp_region_rel 35 (fun _ => none) (fun _ => []) (fun _ _ _ => True) (fun w' => Below WQ.heap.size WQ w') (fun a b => Below a.heap.size a b) (by kernel_rfl) (by kernel_rfl) (below_drew (Below.refl _ _)) (fun a b h k => below_then h h.size k) (fun _ _ _ _ _ _ => trivial) ?_
                simp only [List.take_succ_cons, List.take_zero, List.drop_succ_cons, List.drop_zero]
                iterate 35 (apply relQ_step rfl; apply Exists.intro; constructor; (focus (intro w' hw'; have x0 := pw_cell_below hw' x0; have x1 := pw_cell_below hw' x1; have x2 := pw_cell_below hw' x2; have x3 := pw_cell_below hw' x3; have x4 := pw_cell_below hw' x4; have k1 := pw_cell_below hw' k1; have k2 := pw_cell_below hw' k2; unfold Yl; go_wp2_with (go_at_call 20; refine (inst_Right.calls k _ _ _ _ _ true _ HRt.out).mono ?_; rintro e w2 ⟨rfl, hb⟩); first | exact ⟨rfl, _, rfl, rfl, hb⟩ | exact ⟨rfl, _, rfl, rfl, Below.refl _ _⟩)); (try simp only [Act.put, List.setIfInBounds_toArray, List.set_cons_zero, List.set_cons_succ]))
                refine relQ_nil (fun x => ?_)
                repeat (refine relL_quiet rfl ?_)
                refine relL_nil (fun w' hw' _ => ?_)
                have hBe := Aside0.mk (below_then HB7.out HB7.out.size (below_then HBq.out HBq.out.size hw'))
                clear x0 x1 x2 x3 x4 k0 k1 k2 k6 hw'
                go_wp2_with fail
                go_roundw
                case rel => exact ⟨j + 1, by omega, by rw [HN1.out]; simp, by go_num, hBe⟩
                case measure => simp [intOf]; omega
      · have hzb : (y.f0 != 0) = true := bne_iff_ne.2 hz
        have HN1 := Aside0.mk (hL.1 hz)
        clear hz hL
        go_wp2_with fail
        go_roundw
        case rel => exact ⟨j + 1, by omega, by rw [HN1.out], by go_num, HB⟩
        case measure => simp [intOf]; omega
    · have b2 : decide ((j : Int) < (l.length : Int)) = false := decide_eq_false (by omega)
      obtain rfl : j = l.length := by omega
      have e := HF.out.1
      rw [List.take_length, e]
      have b3 : ((C.length : Int) == (C.length : Int)) = true := by simp
      go_wp2_with fail
      go_ret
      exact ⟨rfl, HBW.out⟩
theorem leads_law (A : Option Addr) (c : Nat) (l : List S38) (w : World) (hGL : GL w) (hC : Kd.C k38 w A l.length l) (hc : l.length ≤ c) (hi : ∀ x ∈ l, LI x) :
    Calls Tryd.prog 4 #[.slice A l.length c] w fun e w' => e = .returned (.bool true) ∧ Below w.heap.size w w' := by
  by_cases hl : 150 < l.length
  · exact leads_long A c l.length w hGL hl hC.2.1
  · have e1 := asm_eq hi (by omega : l.length ≤ 1000000000000)
    obtain ⟨⟨C, E⟩, hr⟩ : ∃ r, asmR rtP l = r := ⟨_, rfl⟩
    rw [hr] at e1
    by_cases hE : E = 0
    · subst hE
      exact leads_walk 2 (Nat.le_refl _) A c l C w hGL hC hc (by omega) e1 (lf_ok (by omega) hr)
    · rw [asmR_bad hr hE] at e1
      exact leads_err A c l E w hGL hC hc (by omega) e1 hE
end Go.Proofs.YtmfcmjcgajjiiaaDoor.S
