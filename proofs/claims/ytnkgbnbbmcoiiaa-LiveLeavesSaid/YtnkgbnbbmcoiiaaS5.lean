-- a text of the seat, by a program
import Derived.Test.YtnkgbnbbmcoiiaaS0
import Derived.Test.YtnkgbnbbmcoiiaaS4
namespace Go.Proofs.Ytnkgbnbbmcoiiaa.S
open Go.RowKit Go.Proofs.YtnkgbnbbmcoiiaaW.PrintWords Go.Proofs.YtnkgbnbbmcoiiaaW.PrintLast Go.Proofs.YtnkgbnbbmcoiiaaW.PrintMore
attribute [local go_sem] max2_int min2_int max_two min_two max_three min_three max_four min_four   -- for this text's walks alone
set_option linter.unusedVariables false
set_option linter.unusedSimpArgs false

/-! ### swageref14_Regs: function 44 -/
mutual
def swageref14_Regs.l0 : Nat → Int → Int → Int → List (S43) → Option (Int)
  | 0, _, _, _, _ => none
  | k + 1, x3, x4, x182000, x182001 => if x4 < (x182001.length : Int) then (swageref14_Regs.l1 k x3 x4 0 x182000 x182001) else (some x3)
def swageref14_Regs.l1 : Nat → Int → Int → Int → Int → List (S43) → Option (Int)
  | 0, _, _, _, _, _ => none
  | k + 1, x3, x4, x5, x182000, x182001 => if 0 ≤ x4 then (if x4 < (x182001.length : Int) then (if x5 < (((rd_T43 x182001 x4).f0).length : Int) then (if 0 ≤ x5 then ((swageref14_Sets.f ((rd_T45 ((rd_T43 x182001 x4).f0) x5).f0) ((rd_T45 ((rd_T43 x182001 x4).f0) x5).f1) ((rd_T45 ((rd_T43 x182001 x4).f0) x5).f2) ((rd_T45 ((rd_T43 x182001 x4).f0) x5).f3) ((rd_T45 ((rd_T43 x182001 x4).f0) x5).f4) ((rd_T45 ((rd_T43 x182001 x4).f0) x5).f5)).bind fun t185 => ((swageref14_Uses.f k ((rd_T45 ((rd_T43 x182001 x4).f0) x5).f0) ((rd_T45 ((rd_T43 x182001 x4).f0) x5).f1) ((rd_T45 ((rd_T43 x182001 x4).f0) x5).f2) ((rd_T45 ((rd_T43 x182001 x4).f0) x5).f3) ((rd_T45 ((rd_T43 x182001 x4).f0) x5).f4) ((rd_T45 ((rd_T43 x182001 x4).f0) x5).f5)).bind fun t188 => (swageref14_Regs.l2 k (mx x3 t185) x4 x5 t188 0 x182000 x182001))) else (none)) else ((swageref14_TermUses.f ((rd_T43 x182001 x4).f1.f0) ((rd_T43 x182001 x4).f1.f1) ((rd_T43 x182001 x4).f1.f2) ((rd_T43 x182001 x4).f1.f3)).bind fun t193 => (swageref14_Regs.l3 k x3 x4 t193 0 x182000 x182001))) else (none)) else (none)
def swageref14_Regs.l2 : Nat → Int → Int → Int → List Int → Int → Int → List (S43) → Option (Int)
  | 0, _, _, _, _, _, _, _ => none
  | k + 1, x3, x4, x5, x6, x7, x182000, x182001 => if x7 < (x6.length : Int) then (if 0 ≤ x7 then (swageref14_Regs.l2 k (mx x3 (rd x6 x7)) x4 x5 x6 (wrap64 (x7 + 1)) x182000 x182001) else (none)) else (swageref14_Regs.l1 k x3 x4 (wrap64 (x5 + 1)) x182000 x182001)
def swageref14_Regs.l3 : Nat → Int → Int → List Int → Int → Int → List (S43) → Option (Int)
  | 0, _, _, _, _, _, _ => none
  | k + 1, x3, x4, x8, x9, x182000, x182001 => if x9 < (x8.length : Int) then (if 0 ≤ x9 then (swageref14_Regs.l3 k (mx x3 (rd x8 x9)) x4 x8 (wrap64 (x9 + 1)) x182000 x182001) else (none)) else (swageref14_Regs.l0 k x3 (wrap64 (x4 + 1)) x182000 x182001)
end
def swageref14_Regs.f (k : Nat) (a0_0 : Int) (l0_1 : List (S43)) : Option (Int) := swageref14_Regs.l0 k (mx a0_0 0) 0 a0_0 l0_1
set_option maxHeartbeats 8000000 in
set_option maxRecDepth 100000 in
theorem swageref14_Regs.calls (k : Nat) (a0_0 : Int) (A0_1 : Option Addr) (c0_1 : Nat) (l0_1 : List (S43)) (r : Int) (w : World) (hr0_1 : Kd.C k43 w A0_1 l0_1.length l0_1) (hc0_1 : l0_1.length ≤ c0_1) (h : swageref14_Regs.f k a0_0 l0_1 = some r) :
    Calls Try.prog 44 #[.agg #[.int .i64 a0_0, .slice A0_1 l0_1.length c0_1]] w fun e w' => e = .returned (.int .i64 r) ∧ Below w.heap.size w w' := by
  have hu34 := Try.underlying34
  have hu45 := Try.underlying45
  have hu41 := Try.underlying41
  have HR0_1 := Aside0.mk hr0_1
  have HC0_1 := Aside0.mk hc0_1
  clear hr0_1 hc0_1
  have HB := Aside0.mk (Below.refl w.heap.size w)
  have H : (swageref14_Regs.l0 k (mx a0_0 0) 0 a0_0 l0_1) = some r := h
  clear h
  obtain ⟨ji2, hji2⟩ : ∃ j_ : Int, (mx a0_0 0) = j_ := ⟨_, rfl⟩
  replace H : (swageref14_Regs.l0 k ji2 0 a0_0 l0_1) = some r := by first | (rw [hji2] at H; exact H) | (simp only [hji2] at H ⊢; exact H)
  (try (have hji2l : 0 ≤ ji2 := by (rw [← hji2]; unfold mx; (repeat' split) <;> omega)))
  (try (have hji2m : 0 ≤ ji2 := by omega))
  have hji2_ : (if a0_0 < 0 then 0 else a0_0) = ji2 := hji2
  have H' := Aside0.mk H
  clear H
  go_enter Try.func44, Try.ntmps44
  go_wp2_with (first | ((with_reducible refine gate_dst (N := 1) rfl ?_); refine box_event ?hg (N := 1) ?hd (cs := #[.int .i64 a0_0, .slice A0_1 l0_1.length c0_1]) (t := 34) ?hr ?_; (case hd => rfl); (case hg => rfl); (case hr => first | (go_simp; done) | (go_simp; rfl)); intro gb181 hg w3 hbox hb; have n0_ := Aside0.mk (below_step (by repeat (first | (with_reducible first | exact HB.out | apply below_alloc | apply pw_below_drewN | apply below_drew1) | exact HB.out)) hb); have n1_ := Aside0.mk (hbox); have n2_ := Aside0.mk ((by rw [hg]; exact (below_size (by repeat (first | (with_reducible first | exact HB.out | apply below_alloc | apply pw_below_drewN | apply below_drew1) | exact HB.out))) : w.heap.size ≤ gb181)); have n3_ := Aside0.mk ((by rw [hg]; exact (below_size (by repeat (first | (with_reducible first | exact HB.out | apply below_alloc | apply pw_below_drewN | apply below_drew1) | exact HB.out))) : w.heap.size ≤ gb181)); clear HB; have HB := n0_; have BK181 := n1_; have GW181 := n2_; have GE181 := n3_; clear n0_ n1_ n2_ n3_; clear hb hbox hg; have hcz4_0 : w3.cell? ⟨gb181, 0, none⟩ = some (.int .i64 a0_0) := (blk_cell BK181.out 0).trans rfl; have hcz4_1 : w3.cell? ⟨gb181, 1, none⟩ = some (.slice A0_1 l0_1.length c0_1) := (blk_cell BK181.out 1).trans rfl; have hfz4_0 := blk_frozen BK181.out 0; have hfz4_1 := blk_frozen BK181.out 1))
  go_loopg [3, 4] k (fun kq v3 v4 w' => ∃ (x3_1 : Int) (x4_1 : Int), v3 = .int .i64 x3_1 ∧ v4 = .int .i64 x4_1 ∧ Aside0 (swageref14_Regs.l0 kq x3_1 x4_1 a0_0 l0_1 = some r) ∧ Aside0 (kq ≤ k) ∧ Aside0 (w'.heap[gb181]? = some (.cells #[.int .i64 a0_0, (.slice A0_1 l0_1.length c0_1)] 34 (0, 0))) ∧ Aside0 (Below w.heap.size w w'))
  case atStart => exact ⟨(ji2), (0), (by first | rfl | (simp; done) | (simp only [← hji2] <;> (first | rfl | simp)) | (simp [*]; done)), (by first | rfl | (simp; done) | (simp [*]; done)), H', ⟨Nat.le_refl _⟩, ⟨by (with_reducible repeat (first | refine blk_drewN ?_ _ | refine blk_drew ?_ | refine blk_alloc ?_ _)); exact BK181.out⟩, ⟨by repeat (first | (with_reducible first | exact HB.out | apply below_alloc | apply pw_below_drewN | apply below_drew1 | refine below_set ?_ GE181.out) | exact HB.out)⟩⟩
  case round =>
    clear H'
    try clear p2
    try clear c4
    try clear hcz4_0
    try clear hcz4_1
    try clear hfz4_0
    try clear hfz4_1
    obtain ⟨x3_1, x4_1, rfl, rfl, HA, HK1, BK181, HB⟩ := hrel
    cases gk with
    | zero => exact absurd HA.out (by simp [swageref14_Regs.l0])
    | succ k1 =>
      have H := HA.out
      clear HA
      simp only [swageref14_Regs.l0] at H
      by_cases c5 : x4_1 < (l0_1.length : Int)
      · rw [if_pos c5] at H
        have c5b0 : decide (x4_1 < (l0_1.length : Int)) = true := decide_eq_true c5
        clear c5
        have H' := Aside0.mk H
        clear H
        have hcz6_0 : wr.cell? ⟨gb181, 0, none⟩ = some (.int .i64 a0_0) := (blk_cell BK181.out 0).trans rfl
        have hcz6_1 : wr.cell? ⟨gb181, 1, none⟩ = some (.slice A0_1 l0_1.length c0_1) := (blk_cell BK181.out 1).trans rfl
        have hfz6_0 := blk_frozen BK181.out 0
        have hfz6_1 := blk_frozen BK181.out 1
        go_wp2
        go_loopg [3, 5] k1 (fun kq v3 v5 w' => ∃ (x3_2 : Int) (x5_2 : Int), v3 = .int .i64 x3_2 ∧ v5 = .int .i64 x5_2 ∧ Aside0 (swageref14_Regs.l1 kq x3_2 x4_1 x5_2 a0_0 l0_1 = some r) ∧ Aside0 (kq ≤ k1) ∧ Aside0 (w'.heap[gb181]? = some (.cells #[.int .i64 a0_0, (.slice A0_1 l0_1.length c0_1)] 34 (0, 0))) ∧ Aside0 (Below w.heap.size w w'))
        case atStart => exact ⟨(x3_1), (0), (by first | rfl | (simp; done) | (simp [*]; done)), (by first | rfl | (simp; done) | (simp [*]; done)), H', ⟨Nat.le_refl _⟩, ⟨by (with_reducible repeat (first | refine blk_drewN ?_ _ | refine blk_drew ?_ | refine blk_alloc ?_ _)); exact BK181.out⟩, ⟨by repeat (first | (with_reducible first | exact HB.out | apply below_alloc | apply pw_below_drewN | apply below_drew1 | refine below_set ?_ GE181.out) | exact HB.out)⟩⟩
        case round =>
          clear H'
          try clear p2
          try clear c4
          try clear c5
          try clear c5b0
          try clear hcz4_0
          try clear hcz4_1
          try clear hcz6_0
          try clear hcz6_1
          try clear hfz4_0
          try clear hfz4_1
          try clear hfz6_0
          try clear hfz6_1
          try clear p2
          obtain ⟨x3_2, x5_2, rfl, rfl, HA, HK2, BK181, HB⟩ := hrel
          cases gk with
          | zero => exact absurd HA.out (by simp [swageref14_Regs.l1])
          | succ k2 =>
            have H := HA.out
            clear HA
            simp only [swageref14_Regs.l1] at H
            by_cases c7 : 0 ≤ x4_1
            · rw [if_pos c7] at H
              have c7b0 : decide (0 ≤ x4_1) = true := decide_eq_true c7
              clear c7
              by_cases c8 : x4_1 < (l0_1.length : Int)
              · rw [if_pos c8] at H
                have c8b0 : decide (x4_1 < (l0_1.length : Int)) = true := decide_eq_true c8
                clear c8
                by_cases c9 : x5_2 < (((rd_T43 l0_1 x4_1).f0).length : Int)
                · rw [if_pos c9] at H
                  have c9b0 : decide (x5_2 < (((rd_T43 l0_1 x4_1).f0).length : Int)) = true := decide_eq_true c9
                  clear c9
                  by_cases c10 : 0 ≤ x5_2
                  · rw [if_pos c10] at H
                    have c10b0 : decide (0 ≤ x5_2) = true := decide_eq_true c10
                    clear c10
                    replace H := Option.bind_eq_some_iff.mp H
                    obtain ⟨t185, A110, H⟩ := H
                    replace H : ((swageref14_Uses.f k2 ((rd_T45 ((rd_T43 l0_1 x4_1).f0) x5_2).f0) ((rd_T45 ((rd_T43 l0_1 x4_1).f0) x5_2).f1) ((rd_T45 ((rd_T43 l0_1 x4_1).f0) x5_2).f2) ((rd_T45 ((rd_T43 l0_1 x4_1).f0) x5_2).f3) ((rd_T45 ((rd_T43 l0_1 x4_1).f0) x5_2).f4) ((rd_T45 ((rd_T43 l0_1 x4_1).f0) x5_2).f5)).bind fun t188 => (swageref14_Regs.l2 k2 (mx x3_2 t185) x4_1 x5_2 t188 0 a0_0 l0_1)) = some r := H
                    have A11 := Aside0.mk A110
                    clear A110
                    obtain ⟨ji12, hji12⟩ : ∃ j_ : Int, (mx x3_2 t185) = j_ := ⟨_, rfl⟩
                    replace H : ((swageref14_Uses.f k2 ((rd_T45 ((rd_T43 l0_1 x4_1).f0) x5_2).f0) ((rd_T45 ((rd_T43 l0_1 x4_1).f0) x5_2).f1) ((rd_T45 ((rd_T43 l0_1 x4_1).f0) x5_2).f2) ((rd_T45 ((rd_T43 l0_1 x4_1).f0) x5_2).f3) ((rd_T45 ((rd_T43 l0_1 x4_1).f0) x5_2).f4) ((rd_T45 ((rd_T43 l0_1 x4_1).f0) x5_2).f5)).bind fun t188 => (swageref14_Regs.l2 k2 ji12 x4_1 x5_2 t188 0 a0_0 l0_1)) = some r := by first | (rw [hji12] at H; exact H) | (simp only [hji12] at H ⊢; exact H)
                    (try rw [hji12] at A11)
                    have hji12_ : (if x3_2 < t185 then t185 else x3_2) = ji12 := hji12
                    replace H := Option.bind_eq_some_iff.mp H
                    obtain ⟨t188, A130, H⟩ := H
                    replace H : (swageref14_Regs.l2 k2 ji12 x4_1 x5_2 t188 0 a0_0 l0_1) = some r := H
                    have A13 := Aside0.mk A130
                    clear A130
                    have H' := Aside0.mk H
                    clear H
                    have hcz14_0 : wr.cell? ⟨gb181, 0, none⟩ = some (.int .i64 a0_0) := (blk_cell BK181.out 0).trans rfl
                    have hcz14_1 : wr.cell? ⟨gb181, 1, none⟩ = some (.slice A0_1 l0_1.length c0_1) := (blk_cell BK181.out 1).trans rfl
                    have hfz14_0 := blk_frozen BK181.out 0
                    have hfz14_1 := blk_frozen BK181.out 1
                    have p182 : 0 ≤ (x4_1 : Int) := of_decide_eq_true (by first | (with_reducible assumption) | assumption)
                    have q182 : x4_1 < (l0_1.length : Int) := of_decide_eq_true (by first | (with_reducible assumption) | assumption)
                    obtain ⟨ad182, A182_0, c182_0, e182, hx182_0, hx182_1, hx182_2, hx182_3, hx182_4, hl182_0, hi182_0⟩ := at_T43 HR0_1.out x4_1 p182 q182
                    cases e182
                    replace hx182_0 := (HB.out.cell (World.block_lt_of_cell? w _ hx182_0)).trans hx182_0
                    replace hx182_1 := (HB.out.cell (World.block_lt_of_cell? w _ hx182_1)).trans hx182_1
                    replace hx182_2 := (HB.out.cell (World.block_lt_of_cell? w _ hx182_2)).trans hx182_2
                    replace hx182_3 := (HB.out.cell (World.block_lt_of_cell? w _ hx182_3)).trans hx182_3
                    replace hx182_4 := (HB.out.cell (World.block_lt_of_cell? w _ hx182_4)).trans hx182_4
                    have HR182_0 := Aside0.mk hi182_0
                    have HC182_0 := Aside0.mk hl182_0
                    clear hi182_0 hl182_0
                    replace p182 := eq_true p182
                    replace q182 := eq_true q182
                    have p183 : 0 ≤ (x4_1 : Int) := of_decide_eq_true (by first | (with_reducible assumption) | assumption)
                    have q183 : x4_1 < (l0_1.length : Int) := of_decide_eq_true (by first | (with_reducible assumption) | assumption)
                    obtain ⟨ad183, A183_0, c183_0, e183, hx183_0, hx183_1, hx183_2, hx183_3, hx183_4, hl183_0, hi183_0⟩ := at_T43 HR0_1.out x4_1 p183 q183
                    obtain rfl : ad182 = ad183 := (by injection e183)
                    replace hx183_0 := (HB.out.cell (World.block_lt_of_cell? w _ hx183_0)).trans hx183_0
                    replace hx183_1 := (HB.out.cell (World.block_lt_of_cell? w _ hx183_1)).trans hx183_1
                    replace hx183_2 := (HB.out.cell (World.block_lt_of_cell? w _ hx183_2)).trans hx183_2
                    replace hx183_3 := (HB.out.cell (World.block_lt_of_cell? w _ hx183_3)).trans hx183_3
                    replace hx183_4 := (HB.out.cell (World.block_lt_of_cell? w _ hx183_4)).trans hx183_4
                    have HR183_0 := Aside0.mk hi183_0
                    have HC183_0 := Aside0.mk hl183_0
                    clear hi183_0 hl183_0
                    replace p183 := eq_true p183
                    replace q183 := eq_true q183
                    have ea_ := Option.some.inj (hx182_0.symm.trans hx183_0)
                    injection ea_ with ea_ en_ ec_
                    subst ea_
                    subst ec_
                    clear en_
                    have p184 : 0 ≤ (x5_2 : Int) := of_decide_eq_true (by first | (with_reducible assumption) | assumption)
                    have q184 : x5_2 < (((rd_T43 l0_1 x4_1).f0).length : Int) := of_decide_eq_true (by first | (with_reducible assumption) | assumption)
                    obtain ⟨ad184, A184_5, c184_5, e184, hx184_0, hx184_1, hx184_2, hx184_3, hx184_4, hx184_5, hl184_5, hi184_5⟩ := at_T45 HR183_0.out x5_2 p184 q184
                    cases e184
                    replace hx184_0 := (HB.out.cell (World.block_lt_of_cell? w _ hx184_0)).trans hx184_0
                    replace hx184_1 := (HB.out.cell (World.block_lt_of_cell? w _ hx184_1)).trans hx184_1
                    replace hx184_2 := (HB.out.cell (World.block_lt_of_cell? w _ hx184_2)).trans hx184_2
                    replace hx184_3 := (HB.out.cell (World.block_lt_of_cell? w _ hx184_3)).trans hx184_3
                    replace hx184_4 := (HB.out.cell (World.block_lt_of_cell? w _ hx184_4)).trans hx184_4
                    replace hx184_5 := (HB.out.cell (World.block_lt_of_cell? w _ hx184_5)).trans hx184_5
                    have HR184_5 := Aside0.mk hi184_5
                    have HC184_5 := Aside0.mk hl184_5
                    clear hi184_5 hl184_5
                    replace p184 := eq_true p184
                    replace q184 := eq_true q184
                    go_wp2_with (first | ((with_reducible refine gate_callee (f := 71) rfl ?_); refine goesL_ (some 41) rfl rfl Try.func71 (by kernel_rfl) rfl #[.agg #[.int .i64 ((rd_T45 ((rd_T43 l0_1 x4_1).f0) x5_2).f0), .int .i64 ((rd_T45 ((rd_T43 l0_1 x4_1).f0) x5_2).f1), .int .i64 ((rd_T45 ((rd_T43 l0_1 x4_1).f0) x5_2).f2), .int .i64 ((rd_T45 ((rd_T43 l0_1 x4_1).f0) x5_2).f3), .int .i64 ((rd_T45 ((rd_T43 l0_1 x4_1).f0) x5_2).f4), .slice A184_5 ((rd_T45 ((rd_T43 l0_1 x4_1).f0) x5_2).f5).length c184_5]] rfl (by (try simp only [List.map_toArray, List.map_cons, List.map_nil]); first | done | rfl | (simp only [List.length_drop, List.length_take]; rfl)) ?_; (with_reducible refine (swageref14_Sets.calls ((rd_T45 ((rd_T43 l0_1 x4_1).f0) x5_2).f0) ((rd_T45 ((rd_T43 l0_1 x4_1).f0) x5_2).f1) ((rd_T45 ((rd_T43 l0_1 x4_1).f0) x5_2).f2) ((rd_T45 ((rd_T43 l0_1 x4_1).f0) x5_2).f3) ((rd_T45 ((rd_T43 l0_1 x4_1).f0) x5_2).f4) _ _ ((rd_T45 ((rd_T43 l0_1 x4_1).f0) x5_2).f5) t185 _ ?side1 ?side2 A11.out).mono ?_); (case side1 => repeat (first | exact (Kd.C_below HR184_5.out HB.out) | (with_reducible refine Kd.C_alloc ?_ _) | (with_reducible refine Kd.C_drewN ?_ _) | (with_reducible refine Kd.C_drew ?_))); (case side2 => exact HC184_5.out); rintro e w15 ⟨rfl, hb⟩; refine ⟨_, rfl, ?_⟩; have n0_ := Aside0.mk (blk_below (g := gb181) (o := .cells #[.int .i64 a0_0, .slice (some ad182) l0_1.length c0_1] 34 (0, 0)) (by (with_reducible repeat (first | refine blk_drewN ?_ _ | refine blk_drew ?_ | refine blk_alloc ?_ _)); exact BK181.out) hb); have n1_ := Aside0.mk (below_step (by repeat (first | (with_reducible first | exact HB.out | apply below_alloc | apply pw_below_drewN | apply below_drew1 | refine below_set ?_ GE181.out) | exact HB.out)) hb); clear BK181; clear HB; have BK181 := n0_; have HB := n1_; clear n0_ n1_; (try clear hb); (try clear hb2); (try clear hk); (try clear hi); have hcz16_0 : w15.cell? ⟨gb181, 0, none⟩ = some (.int .i64 a0_0) := (blk_cell BK181.out 0).trans rfl; have hcz16_1 : w15.cell? ⟨gb181, 1, none⟩ = some (.slice (some ad182) l0_1.length c0_1) := (blk_cell BK181.out 1).trans rfl; have hfz16_0 := blk_frozen BK181.out 0; have hfz16_1 := blk_frozen BK181.out 1; have p186 : 0 ≤ (x4_1 : Int) := of_decide_eq_true (by first | (with_reducible assumption) | assumption); have q186 : x4_1 < (l0_1.length : Int) := of_decide_eq_true (by first | (with_reducible assumption) | assumption); obtain ⟨ad186, A186_0, c186_0, e186, hx186_0, hx186_1, hx186_2, hx186_3, hx186_4, hl186_0, hi186_0⟩ := at_T43 HR0_1.out x4_1 p186 q186; obtain rfl : ad182 = ad186 := (by injection e186); replace hx186_0 := (HB.out.cell (World.block_lt_of_cell? w _ hx186_0)).trans hx186_0; replace hx186_1 := (HB.out.cell (World.block_lt_of_cell? w _ hx186_1)).trans hx186_1; replace hx186_2 := (HB.out.cell (World.block_lt_of_cell? w _ hx186_2)).trans hx186_2; replace hx186_3 := (HB.out.cell (World.block_lt_of_cell? w _ hx186_3)).trans hx186_3; replace hx186_4 := (HB.out.cell (World.block_lt_of_cell? w _ hx186_4)).trans hx186_4; have HR186_0 := Aside0.mk hi186_0; have HC186_0 := Aside0.mk hl186_0; clear hi186_0 hl186_0; replace p186 := eq_true p186; replace q186 := eq_true q186; have p187 : 0 ≤ (x5_2 : Int) := of_decide_eq_true (by first | (with_reducible assumption) | assumption); have q187 : x5_2 < (((rd_T43 l0_1 x4_1).f0).length : Int) := of_decide_eq_true (by first | (with_reducible assumption) | assumption); obtain ⟨ad187, A187_5, c187_5, e187, hx187_0, hx187_1, hx187_2, hx187_3, hx187_4, hx187_5, hl187_5, hi187_5⟩ := at_T45 HR186_0.out x5_2 p187 q187; cases e187; replace hx187_0 := (HB.out.cell (World.block_lt_of_cell? w _ hx187_0)).trans hx187_0; replace hx187_1 := (HB.out.cell (World.block_lt_of_cell? w _ hx187_1)).trans hx187_1; replace hx187_2 := (HB.out.cell (World.block_lt_of_cell? w _ hx187_2)).trans hx187_2; replace hx187_3 := (HB.out.cell (World.block_lt_of_cell? w _ hx187_3)).trans hx187_3; replace hx187_4 := (HB.out.cell (World.block_lt_of_cell? w _ hx187_4)).trans hx187_4; replace hx187_5 := (HB.out.cell (World.block_lt_of_cell? w _ hx187_5)).trans hx187_5; have HR187_5 := Aside0.mk hi187_5; have HC187_5 := Aside0.mk hl187_5; clear hi187_5 hl187_5; replace p187 := eq_true p187; replace q187 := eq_true q187) | ((with_reducible refine gate_callee (f := 72) rfl ?_); refine goesL_ (some 52) rfl rfl Try.func72 (by kernel_rfl) rfl #[.agg #[.int .i64 ((rd_T45 ((rd_T43 l0_1 x4_1).f0) x5_2).f0), .int .i64 ((rd_T45 ((rd_T43 l0_1 x4_1).f0) x5_2).f1), .int .i64 ((rd_T45 ((rd_T43 l0_1 x4_1).f0) x5_2).f2), .int .i64 ((rd_T45 ((rd_T43 l0_1 x4_1).f0) x5_2).f3), .int .i64 ((rd_T45 ((rd_T43 l0_1 x4_1).f0) x5_2).f4), .slice A187_5 ((rd_T45 ((rd_T43 l0_1 x4_1).f0) x5_2).f5).length c187_5]] rfl (by (try simp only [List.map_toArray, List.map_cons, List.map_nil]); first | done | rfl | (simp only [List.length_drop, List.length_take]; rfl)) ?_; (with_reducible refine (swageref14_Uses.calls k2 ((rd_T45 ((rd_T43 l0_1 x4_1).f0) x5_2).f0) ((rd_T45 ((rd_T43 l0_1 x4_1).f0) x5_2).f1) ((rd_T45 ((rd_T43 l0_1 x4_1).f0) x5_2).f2) ((rd_T45 ((rd_T43 l0_1 x4_1).f0) x5_2).f3) ((rd_T45 ((rd_T43 l0_1 x4_1).f0) x5_2).f4) _ _ ((rd_T45 ((rd_T43 l0_1 x4_1).f0) x5_2).f5) t188 _ ?side1 ?side2 A13.out).mono ?_); (case side1 => repeat (first | exact (Kd.C_below HR187_5.out HB.out) | (with_reducible refine Kd.C_alloc ?_ _) | (with_reducible refine Kd.C_drewN ?_ _) | (with_reducible refine Kd.C_drew ?_))); (case side2 => exact HC187_5.out); rintro e w17 ⟨v189, rfl, ho0, hb⟩; refine ⟨_, rfl, ?_⟩; have n0_ := Aside0.mk (Kd.R_lower ho0 (below_size (by repeat (first | (with_reducible first | exact HB.out | apply below_alloc | apply pw_below_drewN | apply below_drew1 | refine below_set ?_ GE181.out) | exact HB.out)))); have n1_ := Aside0.mk (blk_below (g := gb181) (o := .cells #[.int .i64 a0_0, .slice (some ad182) l0_1.length c0_1] 34 (0, 0)) (by (with_reducible repeat (first | refine blk_drewN ?_ _ | refine blk_drew ?_ | refine blk_alloc ?_ _)); exact BK181.out) hb); have n2_ := Aside0.mk (below_step (by repeat (first | (with_reducible first | exact HB.out | apply below_alloc | apply pw_below_drewN | apply below_drew1 | refine below_set ?_ GE181.out) | exact HB.out)) hb); clear BK181; clear HB; have HO190 := n0_; have BK181 := n1_; have HB := n2_; clear n0_ n1_ n2_; (try clear hb); (try clear hb2); (try clear hk); (try clear hi); (try clear ho0)))
                    go_loopg [3, 7] k2 (fun kq v3 v7 w' => ∃ (x3_3 : Int) (x7_3 : Int), v3 = .int .i64 x3_3 ∧ v7 = .int .i64 x7_3 ∧ Aside0 (swageref14_Regs.l2 kq x3_3 x4_1 x5_2 t188 x7_3 a0_0 l0_1 = some r) ∧ Aside0 (kq ≤ k2) ∧ Aside0 (Kd.R (Kd.int .i64) 3 w' w.heap.size (fun _ => True) v189 t188) ∧ Aside0 (w'.heap[gb181]? = some (.cells #[.int .i64 a0_0, (.slice (some ad182) l0_1.length c0_1)] 34 (0, 0))) ∧ Aside0 (Below w.heap.size w w'))
                    case atStart => exact ⟨(ji12), (0), (by first | rfl | (simp; done) | (simp only [← hji12] <;> (first | rfl | simp)) | (simp [*]; done)), (by first | rfl | (simp; done) | (simp [*]; done)), H', ⟨Nat.le_refl _⟩, ⟨by (with_reducible repeat (first | apply Kd.R_alloc | apply Kd.R_drewN | apply Kd.R_drew)); exact HO190.out⟩, ⟨by (with_reducible repeat (first | refine blk_drewN ?_ _ | refine blk_drew ?_ | refine blk_alloc ?_ _)); exact BK181.out⟩, ⟨by repeat (first | (with_reducible first | exact HB.out | apply below_alloc | apply pw_below_drewN | apply below_drew1 | refine below_set ?_ GE181.out) | exact HB.out)⟩⟩
                    case round =>
                      clear H'
                      try clear c1
                      try clear p1
                      try clear q1
                      try clear hx1
                      try clear p2
                      try clear c4
                      try clear c5
                      try clear c5b0
                      try clear c7
                      try clear c7b0
                      try clear c8
                      try clear c8b0
                      try clear c9
                      try clear c9b0
                      try clear c10
                      try clear c10b0
                      try clear hcz14_0
                      try clear hcz14_1
                      try clear hcz16_0
                      try clear hcz16_1
                      try clear hcz4_0
                      try clear hcz4_1
                      try clear hcz6_0
                      try clear hcz6_1
                      try clear hfz14_0
                      try clear hfz14_1
                      try clear hfz16_0
                      try clear hfz16_1
                      try clear hfz4_0
                      try clear hfz4_1
                      try clear hfz6_0
                      try clear hfz6_1
                      try clear hx182_0
                      try clear hx182_1
                      try clear hx182_2
                      try clear hx182_3
                      try clear hx182_4
                      try clear hx183_0
                      try clear hx183_1
                      try clear hx183_2
                      try clear hx183_3
                      try clear hx183_4
                      try clear hx184_0
                      try clear hx184_1
                      try clear hx184_2
                      try clear hx184_3
                      try clear hx184_4
                      try clear hx184_5
                      try clear hx186_0
                      try clear hx186_1
                      try clear hx186_2
                      try clear hx186_3
                      try clear hx186_4
                      try clear hx187_0
                      try clear hx187_1
                      try clear hx187_2
                      try clear hx187_3
                      try clear hx187_4
                      try clear hx187_5
                      try clear p182
                      try clear p183
                      try clear p184
                      try clear p186
                      try clear p187
                      try clear p2
                      try clear q182
                      try clear q183
                      try clear q184
                      try clear q186
                      try clear q187
                      obtain ⟨x3_3, x7_3, rfl, rfl, HA, HK3, HO_6, BK181, HB⟩ := hrel
                      cases gk with
                      | zero => exact absurd HA.out (by simp [swageref14_Regs.l2])
                      | succ k3 =>
                        have H := HA.out
                        clear HA
                        simp only [swageref14_Regs.l2] at H
                        by_cases c18 : x7_3 < (t188.length : Int)
                        · rw [if_pos c18] at H
                          have c18b0 : decide (x7_3 < (t188.length : Int)) = true := decide_eq_true c18
                          clear c18
                          by_cases c19 : 0 ≤ x7_3
                          · rw [if_pos c19] at H
                            have c19b0 : decide (0 ≤ x7_3) = true := decide_eq_true c19
                            clear c19
                            obtain ⟨ji20, hji20⟩ : ∃ j_ : Int, (mx x3_3 (rd t188 x7_3)) = j_ := ⟨_, rfl⟩
                            replace H : (swageref14_Regs.l2 k3 ji20 x4_1 x5_2 t188 (wrap64 (x7_3 + 1)) a0_0 l0_1) = some r := by first | (rw [hji20] at H; exact H) | (simp only [hji20] at H ⊢; exact H)
                            have hji20_ : (if x3_3 < (rd t188 x7_3) then (rd t188 x7_3) else x3_3) = ji20 := hji20
                            have H' := Aside0.mk H
                            clear H
                            obtain ⟨Ao21, co21, eo21⟩ := Kd.R_slice HO_6.out
                            subst eo21
                            have p191 : 0 ≤ (x7_3 : Int) := of_decide_eq_true (by first | (with_reducible assumption) | assumption)
                            have q191 : x7_3 < (t188.length : Int) := of_decide_eq_true (by first | (with_reducible assumption) | assumption)
                            obtain ⟨ad191, e191, hx191_0⟩ := Kd.at_int (Kd.R_reads' HO_6.out).2.2 x7_3 p191 q191
                            cases e191
                            replace p191 := eq_true p191
                            replace q191 := eq_true q191
                            go_wp2
                            go_roundg k3
                            case measure => have := HK1.out; have := HK2.out; have := HK3.out; omega
                            case rel => exact ⟨(ji20), (wrap64 (x7_3 + 1)), (by first | rfl | (simp; done) | (simp only [← hji20] <;> (first | rfl | simp)) | (simp [*]; done)), (by first | rfl | (simp; done) | (simp [*]; done)), H', ⟨by have := HK1.out; have := HK2.out; have := HK3.out; omega⟩, ⟨by (with_reducible repeat (first | apply Kd.R_alloc | apply Kd.R_drewN | apply Kd.R_drew)); exact HO_6.out⟩, ⟨by (with_reducible repeat (first | refine blk_drewN ?_ _ | refine blk_drew ?_ | refine blk_alloc ?_ _)); exact BK181.out⟩, ⟨by repeat (first | (with_reducible first | exact HB.out | apply below_alloc | apply pw_below_drewN | apply below_drew1 | refine below_set ?_ GE181.out) | exact HB.out)⟩⟩
                          · rw [if_neg c19] at H
                            exact absurd H (by simp)
                        · rw [if_neg c18] at H
                          have c18b0 : decide (x7_3 < (t188.length : Int)) = false := decide_eq_false c18
                          clear c18
                          have H' := Aside0.mk H
                          clear H
                          obtain ⟨Ao22, co22, eo22⟩ := Kd.R_slice HO_6.out
                          subst eo22
                          go_wp2
                          go_roundg k3
                          case measure => have := HK1.out; have := HK2.out; have := HK3.out; omega
                          case rel => exact ⟨(x3_3), (wrap64 (x5_2 + 1)), (by first | rfl | (simp; done) | (simp [*]; done)), (by first | rfl | (simp; done) | (simp [*]; done)), H', ⟨by have := HK1.out; have := HK2.out; have := HK3.out; omega⟩, ⟨by (with_reducible repeat (first | refine blk_drewN ?_ _ | refine blk_drew ?_ | refine blk_alloc ?_ _)); exact BK181.out⟩, ⟨by repeat (first | (with_reducible first | exact HB.out | apply below_alloc | apply pw_below_drewN | apply below_drew1 | refine below_set ?_ GE181.out) | exact HB.out)⟩⟩
                  · rw [if_neg c10] at H
                    exact absurd H (by simp)
                · rw [if_neg c9] at H
                  have c9b0 : decide (x5_2 < (((rd_T43 l0_1 x4_1).f0).length : Int)) = false := decide_eq_false c9
                  clear c9
                  replace H := Option.bind_eq_some_iff.mp H
                  obtain ⟨t193, A230, H⟩ := H
                  replace H : (swageref14_Regs.l3 k2 x3_2 x4_1 t193 0 a0_0 l0_1) = some r := H
                  have A23 := Aside0.mk A230
                  clear A230
                  have H' := Aside0.mk H
                  clear H
                  have hcz24_0 : wr.cell? ⟨gb181, 0, none⟩ = some (.int .i64 a0_0) := (blk_cell BK181.out 0).trans rfl
                  have hcz24_1 : wr.cell? ⟨gb181, 1, none⟩ = some (.slice A0_1 l0_1.length c0_1) := (blk_cell BK181.out 1).trans rfl
                  have hfz24_0 := blk_frozen BK181.out 0
                  have hfz24_1 := blk_frozen BK181.out 1
                  have p182 : 0 ≤ (x4_1 : Int) := of_decide_eq_true (by first | (with_reducible assumption) | assumption)
                  have q182 : x4_1 < (l0_1.length : Int) := of_decide_eq_true (by first | (with_reducible assumption) | assumption)
                  obtain ⟨ad182, A182_0, c182_0, e182, hx182_0, hx182_1, hx182_2, hx182_3, hx182_4, hl182_0, hi182_0⟩ := at_T43 HR0_1.out x4_1 p182 q182
                  cases e182
                  replace hx182_0 := (HB.out.cell (World.block_lt_of_cell? w _ hx182_0)).trans hx182_0
                  replace hx182_1 := (HB.out.cell (World.block_lt_of_cell? w _ hx182_1)).trans hx182_1
                  replace hx182_2 := (HB.out.cell (World.block_lt_of_cell? w _ hx182_2)).trans hx182_2
                  replace hx182_3 := (HB.out.cell (World.block_lt_of_cell? w _ hx182_3)).trans hx182_3
                  replace hx182_4 := (HB.out.cell (World.block_lt_of_cell? w _ hx182_4)).trans hx182_4
                  have HR182_0 := Aside0.mk hi182_0
                  have HC182_0 := Aside0.mk hl182_0
                  clear hi182_0 hl182_0
                  replace p182 := eq_true p182
                  replace q182 := eq_true q182
                  have p192 : 0 ≤ (x4_1 : Int) := of_decide_eq_true (by first | (with_reducible assumption) | assumption)
                  have q192 : x4_1 < (l0_1.length : Int) := of_decide_eq_true (by first | (with_reducible assumption) | assumption)
                  obtain ⟨ad192, A192_0, c192_0, e192, hx192_0, hx192_1, hx192_2, hx192_3, hx192_4, hl192_0, hi192_0⟩ := at_T43 HR0_1.out x4_1 p192 q192
                  obtain rfl : ad182 = ad192 := (by injection e192)
                  replace hx192_0 := (HB.out.cell (World.block_lt_of_cell? w _ hx192_0)).trans hx192_0
                  replace hx192_1 := (HB.out.cell (World.block_lt_of_cell? w _ hx192_1)).trans hx192_1
                  replace hx192_2 := (HB.out.cell (World.block_lt_of_cell? w _ hx192_2)).trans hx192_2
                  replace hx192_3 := (HB.out.cell (World.block_lt_of_cell? w _ hx192_3)).trans hx192_3
                  replace hx192_4 := (HB.out.cell (World.block_lt_of_cell? w _ hx192_4)).trans hx192_4
                  have HR192_0 := Aside0.mk hi192_0
                  have HC192_0 := Aside0.mk hl192_0
                  clear hi192_0 hl192_0
                  replace p192 := eq_true p192
                  replace q192 := eq_true q192
                  have ea_ := Option.some.inj (hx182_0.symm.trans hx192_0)
                  injection ea_ with ea_ en_ ec_
                  subst ea_
                  subst ec_
                  clear en_
                  go_wp2_with (first | ((with_reducible refine gate_callee (f := 73) rfl ?_); refine goesL_ (some 71) rfl rfl Try.func73 (by kernel_rfl) rfl #[.agg #[.int .i64 ((rd_T43 l0_1 x4_1).f1.f0), .int .i64 ((rd_T43 l0_1 x4_1).f1.f1), .int .i64 ((rd_T43 l0_1 x4_1).f1.f2), .int .i64 ((rd_T43 l0_1 x4_1).f1.f3)]] rfl (by (try simp only [List.map_toArray, List.map_cons, List.map_nil]); first | done | rfl | (simp only [List.length_drop, List.length_take]; rfl)) ?_; (with_reducible refine (swageref14_TermUses.calls ((rd_T43 l0_1 x4_1).f1.f0) ((rd_T43 l0_1 x4_1).f1.f1) ((rd_T43 l0_1 x4_1).f1.f2) ((rd_T43 l0_1 x4_1).f1.f3) t193 _ A23.out).mono ?_); rintro e w25 ⟨v194, rfl, ho0, hb⟩; refine ⟨_, rfl, ?_⟩; have n0_ := Aside0.mk (Kd.R_lower ho0 (below_size (by repeat (first | (with_reducible first | exact HB.out | apply below_alloc | apply pw_below_drewN | apply below_drew1 | refine below_set ?_ GE181.out) | exact HB.out)))); have n1_ := Aside0.mk (blk_below (g := gb181) (o := .cells #[.int .i64 a0_0, .slice (some ad182) l0_1.length c0_1] 34 (0, 0)) (by (with_reducible repeat (first | refine blk_drewN ?_ _ | refine blk_drew ?_ | refine blk_alloc ?_ _)); exact BK181.out) hb); have n2_ := Aside0.mk (below_step (by repeat (first | (with_reducible first | exact HB.out | apply below_alloc | apply pw_below_drewN | apply below_drew1 | refine below_set ?_ GE181.out) | exact HB.out)) hb); clear BK181; clear HB; have HO195 := n0_; have BK181 := n1_; have HB := n2_; clear n0_ n1_ n2_; (try clear hb); (try clear hb2); (try clear hk); (try clear hi); (try clear ho0)))
                  go_loopg [3, 9] k2 (fun kq v3 v9 w' => ∃ (x3_3 : Int) (x9_3 : Int), v3 = .int .i64 x3_3 ∧ v9 = .int .i64 x9_3 ∧ Aside0 (swageref14_Regs.l3 kq x3_3 x4_1 t193 x9_3 a0_0 l0_1 = some r) ∧ Aside0 (kq ≤ k2) ∧ Aside0 (Kd.R (Kd.int .i64) 3 w' w.heap.size (fun _ => True) v194 t193) ∧ Aside0 (w'.heap[gb181]? = some (.cells #[.int .i64 a0_0, (.slice (some ad182) l0_1.length c0_1)] 34 (0, 0))) ∧ Aside0 (Below w.heap.size w w'))
                  case atStart => exact ⟨(x3_2), (0), (by first | rfl | (simp; done) | (simp [*]; done)), (by first | rfl | (simp; done) | (simp [*]; done)), H', ⟨Nat.le_refl _⟩, ⟨by (with_reducible repeat (first | apply Kd.R_alloc | apply Kd.R_drewN | apply Kd.R_drew)); exact HO195.out⟩, ⟨by (with_reducible repeat (first | refine blk_drewN ?_ _ | refine blk_drew ?_ | refine blk_alloc ?_ _)); exact BK181.out⟩, ⟨by repeat (first | (with_reducible first | exact HB.out | apply below_alloc | apply pw_below_drewN | apply below_drew1 | refine below_set ?_ GE181.out) | exact HB.out)⟩⟩
                  case round =>
                    clear H'
                    try clear c1
                    try clear p1
                    try clear q1
                    try clear hx1
                    try clear p2
                    try clear c4
                    try clear c5
                    try clear c5b0
                    try clear p6
                    try clear c7
                    try clear c7b0
                    try clear c8
                    try clear c8b0
                    try clear c9
                    try clear c9b0
                    try clear c10
                    try clear c10b0
                    try clear c18
                    try clear c18b0
                    try clear p18
                    try clear q18
                    try clear hx18
                    try clear c19
                    try clear c19b0
                    try clear p19
                    try clear q19
                    try clear hx19
                    try clear hcz14_0
                    try clear hcz14_1
                    try clear hcz16_0
                    try clear hcz16_1
                    try clear hcz24_0
                    try clear hcz24_1
                    try clear hcz4_0
                    try clear hcz4_1
                    try clear hcz6_0
                    try clear hcz6_1
                    try clear hfz14_0
                    try clear hfz14_1
                    try clear hfz16_0
                    try clear hfz16_1
                    try clear hfz24_0
                    try clear hfz24_1
                    try clear hfz4_0
                    try clear hfz4_1
                    try clear hfz6_0
                    try clear hfz6_1
                    try clear hx182_0
                    try clear hx182_1
                    try clear hx182_2
                    try clear hx182_3
                    try clear hx182_4
                    try clear hx183_0
                    try clear hx183_1
                    try clear hx183_2
                    try clear hx183_3
                    try clear hx183_4
                    try clear hx184_0
                    try clear hx184_1
                    try clear hx184_2
                    try clear hx184_3
                    try clear hx184_4
                    try clear hx184_5
                    try clear hx186_0
                    try clear hx186_1
                    try clear hx186_2
                    try clear hx186_3
                    try clear hx186_4
                    try clear hx187_0
                    try clear hx187_1
                    try clear hx187_2
                    try clear hx187_3
                    try clear hx187_4
                    try clear hx187_5
                    try clear hx191_0
                    try clear hx192_0
                    try clear hx192_1
                    try clear hx192_2
                    try clear hx192_3
                    try clear hx192_4
                    try clear p1
                    try clear p182
                    try clear p183
                    try clear p184
                    try clear p186
                    try clear p187
                    try clear p191
                    try clear p192
                    try clear p2
                    try clear q1
                    try clear q182
                    try clear q183
                    try clear q184
                    try clear q186
                    try clear q187
                    try clear q191
                    try clear q192
                    obtain ⟨x3_3, x9_3, rfl, rfl, HA, HK3, HO_8, BK181, HB⟩ := hrel
                    cases gk with
                    | zero => exact absurd HA.out (by simp [swageref14_Regs.l3])
                    | succ k3 =>
                      have H := HA.out
                      clear HA
                      simp only [swageref14_Regs.l3] at H
                      by_cases c26 : x9_3 < (t193.length : Int)
                      · rw [if_pos c26] at H
                        have c26b0 : decide (x9_3 < (t193.length : Int)) = true := decide_eq_true c26
                        clear c26
                        by_cases c27 : 0 ≤ x9_3
                        · rw [if_pos c27] at H
                          have c27b0 : decide (0 ≤ x9_3) = true := decide_eq_true c27
                          clear c27
                          obtain ⟨ji28, hji28⟩ : ∃ j_ : Int, (mx x3_3 (rd t193 x9_3)) = j_ := ⟨_, rfl⟩
                          replace H : (swageref14_Regs.l3 k3 ji28 x4_1 t193 (wrap64 (x9_3 + 1)) a0_0 l0_1) = some r := by first | (rw [hji28] at H; exact H) | (simp only [hji28] at H ⊢; exact H)
                          have hji28_ : (if x3_3 < (rd t193 x9_3) then (rd t193 x9_3) else x3_3) = ji28 := hji28
                          have H' := Aside0.mk H
                          clear H
                          obtain ⟨Ao29, co29, eo29⟩ := Kd.R_slice HO_8.out
                          subst eo29
                          have p196 : 0 ≤ (x9_3 : Int) := of_decide_eq_true (by first | (with_reducible assumption) | assumption)
                          have q196 : x9_3 < (t193.length : Int) := of_decide_eq_true (by first | (with_reducible assumption) | assumption)
                          obtain ⟨ad196, e196, hx196_0⟩ := Kd.at_int (Kd.R_reads' HO_8.out).2.2 x9_3 p196 q196
                          cases e196
                          replace p196 := eq_true p196
                          replace q196 := eq_true q196
                          go_wp2
                          go_roundg k3
                          case measure => have := HK1.out; have := HK2.out; have := HK3.out; omega
                          case rel => exact ⟨(ji28), (wrap64 (x9_3 + 1)), (by first | rfl | (simp; done) | (simp only [← hji28] <;> (first | rfl | simp)) | (simp [*]; done)), (by first | rfl | (simp; done) | (simp [*]; done)), H', ⟨by have := HK1.out; have := HK2.out; have := HK3.out; omega⟩, ⟨by (with_reducible repeat (first | apply Kd.R_alloc | apply Kd.R_drewN | apply Kd.R_drew)); exact HO_8.out⟩, ⟨by (with_reducible repeat (first | refine blk_drewN ?_ _ | refine blk_drew ?_ | refine blk_alloc ?_ _)); exact BK181.out⟩, ⟨by repeat (first | (with_reducible first | exact HB.out | apply below_alloc | apply pw_below_drewN | apply below_drew1 | refine below_set ?_ GE181.out) | exact HB.out)⟩⟩
                        · rw [if_neg c27] at H
                          exact absurd H (by simp)
                      · rw [if_neg c26] at H
                        have c26b0 : decide (x9_3 < (t193.length : Int)) = false := decide_eq_false c26
                        clear c26
                        have H' := Aside0.mk H
                        clear H
                        obtain ⟨Ao30, co30, eo30⟩ := Kd.R_slice HO_8.out
                        subst eo30
                        go_wp2
                        go_roundg k3
                        case measure => have := HK1.out; have := HK2.out; have := HK3.out; omega
                        case rel => exact ⟨(x3_3), (wrap64 (x4_1 + 1)), (by first | rfl | (simp; done) | (simp [*]; done)), (by first | rfl | (simp; done) | (simp [*]; done)), H', ⟨by have := HK1.out; have := HK2.out; have := HK3.out; omega⟩, ⟨by (with_reducible repeat (first | refine blk_drewN ?_ _ | refine blk_drew ?_ | refine blk_alloc ?_ _)); exact BK181.out⟩, ⟨by repeat (first | (with_reducible first | exact HB.out | apply below_alloc | apply pw_below_drewN | apply below_drew1 | refine below_set ?_ GE181.out) | exact HB.out)⟩⟩
              · rw [if_neg c8] at H
                exact absurd H (by simp)
            · rw [if_neg c7] at H
              exact absurd H (by simp)
      · rw [if_neg c5] at H
        have c5b0 : decide (x4_1 < (l0_1.length : Int)) = false := decide_eq_false c5
        clear c5
        obtain rfl := Option.some.inj H
        have hcz31_0 : wr.cell? ⟨gb181, 0, none⟩ = some (.int .i64 a0_0) := (blk_cell BK181.out 0).trans rfl
        have hcz31_1 : wr.cell? ⟨gb181, 1, none⟩ = some (.slice A0_1 l0_1.length c0_1) := (blk_cell BK181.out 1).trans rfl
        have hfz31_0 := blk_frozen BK181.out 0
        have hfz31_1 := blk_frozen BK181.out 1
        go_wp2
        go_ret
        exact ⟨by first | rfl | (simp [errW_none, errW_some] <;> rfl) | (simp only [← hji2]; first | rfl | (simp [errW_none, errW_some] <;> rfl)) | (simp [*, errW_none, errW_some] <;> rfl), by repeat (first | (with_reducible first | exact HB.out | apply below_alloc | apply pw_below_drewN | apply below_drew1 | refine below_set ?_ GE181.out) | exact HB.out)⟩

end Go.Proofs.Ytnkgbnbbmcoiiaa.S
