-- a text of the seat, by a program
import Derived.Test.YtnkgbnbbmcoiiaaS0
import Derived.Test.YtnkgbnbbmcoiiaaS5
namespace Go.Proofs.Ytnkgbnbbmcoiiaa.S
open Go.RowKit Go.Proofs.YtnkgbnbbmcoiiaaW.PrintWords Go.Proofs.YtnkgbnbbmcoiiaaW.PrintLast Go.Proofs.YtnkgbnbbmcoiiaaW.PrintMore
attribute [local go_sem] max2_int min2_int max_two min_two max_three min_three max_four min_four   -- for this text's walks alone
set_option linter.unusedVariables false
set_option linter.unusedSimpArgs false

/-! ### swagelaw14_Few: function 43 -/
mutual
def swagelaw14_Few.l0 : Nat → Int → Int → Int → List (S43) → Option (Bool)
  | 0, _, _, _, _ => none
  | k + 1, x3, x4, x198000, x198001 => if x4 < (x198001.length : Int) then (swagelaw14_Few.j1 k x3 x4 (decide (x4 < 100)) x198000 x198001) else (swagelaw14_Few.j1 k x3 x4 false x198000 x198001)
def swagelaw14_Few.j1 : Nat → Int → Int → Bool → Int → List (S43) → Option (Bool)
  | 0, _, _, _, _, _ => none
  | k + 1, x3, x4, x14, x198000, x198001 => if x14 = true then (if 0 ≤ x4 then (if x4 < (x198001.length : Int) then (swagelaw14_Few.l1 k (wrap64 (x3 + (((rd_T43 x198001 x4).f0).length : Int))) x4 0 x198000 x198001) else (none)) else (none)) else (if (x198001.length : Int) ≤ 40 then (some (decide (x3 ≤ 250))) else (some false))
def swagelaw14_Few.l1 : Nat → Int → Int → Int → Int → List (S43) → Option (Bool)
  | 0, _, _, _, _, _ => none
  | k + 1, x3, x4, x5, x198000, x198001 => if 0 ≤ x4 then (if x4 < (x198001.length : Int) then (if x5 < (((rd_T43 x198001 x4).f0).length : Int) then (swagelaw14_Few.j3 k x3 x4 x5 (decide (x5 < 300)) x198000 x198001) else (swagelaw14_Few.j3 k x3 x4 x5 false x198000 x198001)) else (none)) else (none)
def swagelaw14_Few.j3 : Nat → Int → Int → Int → Bool → Int → List (S43) → Option (Bool)
  | 0, _, _, _, _, _, _ => none
  | k + 1, x3, x4, x5, x38, x198000, x198001 => if x38 = true then (if 0 ≤ x4 then (if x4 < (x198001.length : Int) then (if 0 ≤ x5 then (if x5 < (((rd_T43 x198001 x4).f0).length : Int) then (if (((rd_T45 ((rd_T43 x198001 x4).f0) x5).f5).length : Int) > 20 then (some false) else (swagelaw14_Few.l1 k x3 x4 (wrap64 (x5 + 1)) x198000 x198001)) else (none)) else (none)) else (none)) else (none)) else (swagelaw14_Few.l0 k x3 (wrap64 (x4 + 1)) x198000 x198001)
end
def swagelaw14_Few.f (k : Nat) (a0_0 : Int) (l0_1 : List (S43)) : Option (Bool) := swagelaw14_Few.l0 k 0 0 a0_0 l0_1
set_option maxHeartbeats 8000000 in
set_option maxRecDepth 100000 in
theorem swagelaw14_Few.calls (k : Nat) (a0_0 : Int) (A0_1 : Option Addr) (c0_1 : Nat) (l0_1 : List (S43)) (r : Bool) (w : World) (hr0_1 : Kd.C k43 w A0_1 l0_1.length l0_1) (hc0_1 : l0_1.length ≤ c0_1) (h : swagelaw14_Few.f k a0_0 l0_1 = some r) :
    Calls Try.prog 43 #[.agg #[.int .i64 a0_0, .slice A0_1 l0_1.length c0_1]] w fun e w' => e = .returned (.bool r) ∧ Below w.heap.size w w' := by
  have hu34 := Try.underlying34
  have HR0_1 := Aside0.mk hr0_1
  have HC0_1 := Aside0.mk hc0_1
  clear hr0_1 hc0_1
  have HB := Aside0.mk (Below.refl w.heap.size w)
  have H : (swagelaw14_Few.l0 k 0 0 a0_0 l0_1) = some r := h
  clear h
  have H' := Aside0.mk H
  clear H
  go_enter Try.func43, Try.ntmps43
  go_wp2_with (first | ((with_reducible refine gate_dst (N := 1) rfl ?_); refine box_event ?hg (N := 1) ?hd (cs := #[.int .i64 a0_0, .slice A0_1 l0_1.length c0_1]) (t := 34) ?hr ?_; (case hd => rfl); (case hg => rfl); (case hr => first | (go_simp; done) | (go_simp; rfl)); intro gb197 hg w2 hbox hb; have n0_ := Aside0.mk (below_step (by repeat (first | (with_reducible first | exact HB.out | apply below_alloc | apply pw_below_drewN | apply below_drew1) | exact HB.out)) hb); have n1_ := Aside0.mk (hbox); have n2_ := Aside0.mk ((by rw [hg]; exact (below_size (by repeat (first | (with_reducible first | exact HB.out | apply below_alloc | apply pw_below_drewN | apply below_drew1) | exact HB.out))) : w.heap.size ≤ gb197)); have n3_ := Aside0.mk ((by rw [hg]; exact (below_size (by repeat (first | (with_reducible first | exact HB.out | apply below_alloc | apply pw_below_drewN | apply below_drew1) | exact HB.out))) : w.heap.size ≤ gb197)); clear HB; have HB := n0_; have BK197 := n1_; have GW197 := n2_; have GE197 := n3_; clear n0_ n1_ n2_ n3_; clear hb hbox hg))
  go_loopg [3, 4] k (fun kq v3 v4 w' => ∃ (x3_1 : Int) (x4_1 : Int), v3 = .int .i64 x3_1 ∧ v4 = .int .i64 x4_1 ∧ Aside0 (swagelaw14_Few.l0 kq x3_1 x4_1 a0_0 l0_1 = some r) ∧ Aside0 (kq ≤ k) ∧ Aside0 (w'.heap[gb197]? = some (.cells #[.int .i64 a0_0, (.slice A0_1 l0_1.length c0_1)] 34 (0, 0))) ∧ Aside0 (Below w.heap.size w w'))
  case atStart => exact ⟨(0), (0), (by first | rfl | (simp; done) | (simp [*]; done)), (by first | rfl | (simp; done) | (simp [*]; done)), H', ⟨Nat.le_refl _⟩, ⟨by (with_reducible repeat (first | refine blk_drewN ?_ _ | refine blk_drew ?_ | refine blk_alloc ?_ _)); exact BK197.out⟩, ⟨by repeat (first | (with_reducible first | exact HB.out | apply below_alloc | apply pw_below_drewN | apply below_drew1 | refine below_set ?_ GE197.out) | exact HB.out)⟩⟩
  case round =>
    clear H'
    try clear p2
    obtain ⟨x3_1, x4_1, rfl, rfl, HA, HK1, BK197, HB⟩ := hrel
    cases gk with
    | zero => exact absurd HA.out (by simp [swagelaw14_Few.l0])
    | succ k1 =>
      have H := HA.out
      clear HA
      simp only [swagelaw14_Few.l0] at H
      have HC3 := Aside0.mk H
      clear H
      go_upto_region 3 with (fail)
      go_cut [14] (fun v14 wc => ∃ (kq : Nat) (x14_2 : Bool), v14 = .bool x14_2 ∧ Aside0 (swagelaw14_Few.j1 kq x3_1 x4_1 x14_2 a0_0 l0_1 = some r) ∧ Aside0 (kq ≤ k1) ∧ Aside0 (wc.heap[gb197]? = some (.cells #[.int .i64 a0_0, (.slice A0_1 l0_1.length c0_1)] 34 (0, 0))) ∧ Aside0 (Below w.heap.size w wc))
      case first =>
        have H := HC3.out
        clear HC3
        by_cases c4 : x4_1 < (l0_1.length : Int)
        · rw [if_pos c4] at H
          have c4b0 : decide (x4_1 < (l0_1.length : Int)) = true := decide_eq_true c4
          clear c4
          (first | rw [c4b0] | (simp only [i64_w, i32_w]; rw [c4b0]) | skip)
          have H' := Aside0.mk H
          clear H
          have hcz5_0 : wr.cell? ⟨gb197, 0, none⟩ = some (.int .i64 a0_0) := (blk_cell BK197.out 0).trans rfl
          have hcz5_1 : wr.cell? ⟨gb197, 1, none⟩ = some (.slice A0_1 l0_1.length c0_1) := (blk_cell BK197.out 1).trans rfl
          have hfz5_0 := blk_frozen BK197.out 0
          have hfz5_1 := blk_frozen BK197.out 1
          go_wp2
          go_meet
          case rel => exact ⟨_, (decide (x4_1 < 100)), (by first | rfl | (simp; done) | (simp [*]; done)), H', ⟨by have := HK1.out; first | omega | exact Nat.le_refl _⟩, ⟨by (with_reducible repeat (first | refine blk_drewN ?_ _ | refine blk_drew ?_ | refine blk_alloc ?_ _)); exact BK197.out⟩, ⟨by repeat (first | (with_reducible first | exact HB.out | apply below_alloc | apply pw_below_drewN | apply below_drew1 | refine below_set ?_ GE197.out) | exact HB.out)⟩⟩
        · rw [if_neg c4] at H
          have c4b0 : decide (x4_1 < (l0_1.length : Int)) = false := decide_eq_false c4
          clear c4
          (first | rw [c4b0] | (simp only [i64_w, i32_w]; rw [c4b0]) | skip)
          have H' := Aside0.mk H
          clear H
          have hcz6_0 : wr.cell? ⟨gb197, 0, none⟩ = some (.int .i64 a0_0) := (blk_cell BK197.out 0).trans rfl
          have hcz6_1 : wr.cell? ⟨gb197, 1, none⟩ = some (.slice A0_1 l0_1.length c0_1) := (blk_cell BK197.out 1).trans rfl
          have hfz6_0 := blk_frozen BK197.out 0
          have hfz6_1 := blk_frozen BK197.out 1
          go_wp2
          go_meet
          case rel => exact ⟨_, (false), (by first | rfl | (simp; done) | (simp [*]; done)), H', ⟨by have := HK1.out; first | omega | exact Nat.le_refl _⟩, ⟨by (with_reducible repeat (first | refine blk_drewN ?_ _ | refine blk_drew ?_ | refine blk_alloc ?_ _)); exact BK197.out⟩, ⟨by repeat (first | (with_reducible first | exact HB.out | apply below_alloc | apply pw_below_drewN | apply below_drew1 | refine below_set ?_ GE197.out) | exact HB.out)⟩⟩
      case rest =>
        clear HC3
        try clear p2
        try clear c4
        try clear c4b0
        try clear hcz5_0
        try clear hcz5_1
        try clear hcz6_0
        try clear hcz6_1
        try clear hfz5_0
        try clear hfz5_1
        try clear hfz6_0
        try clear hfz6_1
        try clear p2
        obtain ⟨kq, x14_2, rfl, HA, HJ2, BK197, HB⟩ := hcut
        cases kq with
        | zero => exact absurd HA.out (by simp [swagelaw14_Few.j1])
        | succ kj2 =>
          have H := HA.out
          clear HA
          simp only [swagelaw14_Few.j1] at H
          by_cases c7 : x14_2 = true
          · subst c7
            have H1 : (if 0 ≤ x4_1 then (if x4_1 < (l0_1.length : Int) then (swagelaw14_Few.l1 kj2 (wrap64 (x3_1 + (((rd_T43 l0_1 x4_1).f0).length : Int))) x4_1 0 a0_0 l0_1) else (none)) else (none)) = some r := by rw [if_pos rfl] at H; exact H
            clear H
            have H := H1
            clear H1
            by_cases c8 : 0 ≤ x4_1
            · rw [if_pos c8] at H
              have c8b0 : decide (0 ≤ x4_1) = true := decide_eq_true c8
              clear c8
              by_cases c9 : x4_1 < (l0_1.length : Int)
              · rw [if_pos c9] at H
                have c9b0 : decide (x4_1 < (l0_1.length : Int)) = true := decide_eq_true c9
                clear c9
                have H' := Aside0.mk H
                clear H
                have hcz10_0 : wc.cell? ⟨gb197, 0, none⟩ = some (.int .i64 a0_0) := (blk_cell BK197.out 0).trans rfl
                have hcz10_1 : wc.cell? ⟨gb197, 1, none⟩ = some (.slice A0_1 l0_1.length c0_1) := (blk_cell BK197.out 1).trans rfl
                have hfz10_0 := blk_frozen BK197.out 0
                have hfz10_1 := blk_frozen BK197.out 1
                have p198 : 0 ≤ (x4_1 : Int) := of_decide_eq_true (by first | (with_reducible assumption) | assumption)
                have q198 : x4_1 < (l0_1.length : Int) := of_decide_eq_true (by first | (with_reducible assumption) | assumption)
                obtain ⟨ad198, A198_0, c198_0, e198, hx198_0, hx198_1, hx198_2, hx198_3, hx198_4, hl198_0, hi198_0⟩ := at_T43 HR0_1.out x4_1 p198 q198
                cases e198
                replace hx198_0 := (HB.out.cell (World.block_lt_of_cell? w _ hx198_0)).trans hx198_0
                replace hx198_1 := (HB.out.cell (World.block_lt_of_cell? w _ hx198_1)).trans hx198_1
                replace hx198_2 := (HB.out.cell (World.block_lt_of_cell? w _ hx198_2)).trans hx198_2
                replace hx198_3 := (HB.out.cell (World.block_lt_of_cell? w _ hx198_3)).trans hx198_3
                replace hx198_4 := (HB.out.cell (World.block_lt_of_cell? w _ hx198_4)).trans hx198_4
                have HR198_0 := Aside0.mk hi198_0
                have HC198_0 := Aside0.mk hl198_0
                clear hi198_0 hl198_0
                replace p198 := eq_true p198
                replace q198 := eq_true q198
                go_wp2
                go_loopg [5] kj2 (fun kq v5 w' => ∃ (x5_3 : Int), v5 = .int .i64 x5_3 ∧ Aside0 (swagelaw14_Few.l1 kq (wrap64 (x3_1 + (((rd_T43 l0_1 x4_1).f0).length : Int))) x4_1 x5_3 a0_0 l0_1 = some r) ∧ Aside0 (kq ≤ kj2) ∧ Aside0 (w'.heap[gb197]? = some (.cells #[.int .i64 a0_0, (.slice (some ad198) l0_1.length c0_1)] 34 (0, 0))) ∧ Aside0 (Below w.heap.size w w'))
                case atStart => exact ⟨(0), (by first | rfl | (simp; done) | (simp [*]; done)), H', ⟨Nat.le_refl _⟩, ⟨by (with_reducible repeat (first | refine blk_drewN ?_ _ | refine blk_drew ?_ | refine blk_alloc ?_ _)); exact BK197.out⟩, ⟨by repeat (first | (with_reducible first | exact HB.out | apply below_alloc | apply pw_below_drewN | apply below_drew1 | refine below_set ?_ GE197.out) | exact HB.out)⟩⟩
                case round =>
                  clear H'
                  try clear c1
                  try clear p1
                  try clear q1
                  try clear hx1
                  try clear p2
                  try clear c4
                  try clear c4b0
                  try clear p6
                  try clear c7
                  try clear c8
                  try clear c8b0
                  try clear c9
                  try clear c9b0
                  try clear hcz10_0
                  try clear hcz10_1
                  try clear hcz5_0
                  try clear hcz5_1
                  try clear hcz6_0
                  try clear hcz6_1
                  try clear hfz10_0
                  try clear hfz10_1
                  try clear hfz5_0
                  try clear hfz5_1
                  try clear hfz6_0
                  try clear hfz6_1
                  try clear hx198_0
                  try clear hx198_1
                  try clear hx198_2
                  try clear hx198_3
                  try clear hx198_4
                  try clear p198
                  try clear p2
                  try clear q198
                  obtain ⟨x5_3, rfl, HA, HK3, BK197, HB⟩ := hrel
                  cases gk with
                  | zero => exact absurd HA.out (by simp [swagelaw14_Few.l1])
                  | succ k3 =>
                    have H := HA.out
                    clear HA
                    simp only [swagelaw14_Few.l1] at H
                    have HC11 := Aside0.mk H
                    clear H
                    go_upto_region 7 with (fail)
                    go_cut [38] (fun v38 wc => ∃ (kq : Nat) (x38_10 : Bool), v38 = .bool x38_10 ∧ Aside0 (swagelaw14_Few.j3 kq (wrap64 (x3_1 + (((rd_T43 l0_1 x4_1).f0).length : Int))) x4_1 x5_3 x38_10 a0_0 l0_1 = some r) ∧ Aside0 (kq ≤ k3) ∧ Aside0 (wc.heap[gb197]? = some (.cells #[.int .i64 a0_0, (.slice (some ad198) l0_1.length c0_1)] 34 (0, 0))) ∧ Aside0 (Below w.heap.size w wc))
                    case first =>
                      have H := HC11.out
                      clear HC11
                      by_cases c12 : 0 ≤ x4_1
                      · rw [if_pos c12] at H
                        have c12b0 : decide (0 ≤ x4_1) = true := decide_eq_true c12
                        clear c12
                        (first | rw [c12b0] | (simp only [i64_w, i32_w]; rw [c12b0]) | skip)
                        by_cases c13 : x4_1 < (l0_1.length : Int)
                        · rw [if_pos c13] at H
                          have c13b0 : decide (x4_1 < (l0_1.length : Int)) = true := decide_eq_true c13
                          clear c13
                          by_cases c14 : x5_3 < (((rd_T43 l0_1 x4_1).f0).length : Int)
                          · rw [if_pos c14] at H
                            have c14b0 : decide (x5_3 < (((rd_T43 l0_1 x4_1).f0).length : Int)) = true := decide_eq_true c14
                            clear c14
                            have H' := Aside0.mk H
                            clear H
                            have hcz15_0 : wr.cell? ⟨gb197, 0, none⟩ = some (.int .i64 a0_0) := (blk_cell BK197.out 0).trans rfl
                            have hcz15_1 : wr.cell? ⟨gb197, 1, none⟩ = some (.slice (some ad198) l0_1.length c0_1) := (blk_cell BK197.out 1).trans rfl
                            have hfz15_0 := blk_frozen BK197.out 0
                            have hfz15_1 := blk_frozen BK197.out 1
                            have p199 : 0 ≤ (x4_1 : Int) := of_decide_eq_true (by first | (with_reducible assumption) | assumption)
                            have q199 : x4_1 < (l0_1.length : Int) := of_decide_eq_true (by first | (with_reducible assumption) | assumption)
                            obtain ⟨ad199, A199_0, c199_0, e199, hx199_0, hx199_1, hx199_2, hx199_3, hx199_4, hl199_0, hi199_0⟩ := at_T43 HR0_1.out x4_1 p199 q199
                            obtain rfl : ad198 = ad199 := (by injection e199)
                            replace hx199_0 := (HB.out.cell (World.block_lt_of_cell? w _ hx199_0)).trans hx199_0
                            replace hx199_1 := (HB.out.cell (World.block_lt_of_cell? w _ hx199_1)).trans hx199_1
                            replace hx199_2 := (HB.out.cell (World.block_lt_of_cell? w _ hx199_2)).trans hx199_2
                            replace hx199_3 := (HB.out.cell (World.block_lt_of_cell? w _ hx199_3)).trans hx199_3
                            replace hx199_4 := (HB.out.cell (World.block_lt_of_cell? w _ hx199_4)).trans hx199_4
                            have HR199_0 := Aside0.mk hi199_0
                            have HC199_0 := Aside0.mk hl199_0
                            clear hi199_0 hl199_0
                            replace p199 := eq_true p199
                            replace q199 := eq_true q199
                            go_wp2
                            go_meet
                            case rel => exact ⟨_, (decide (x5_3 < 300)), (by first | rfl | (simp; done) | (simp [*]; done)), H', ⟨by have := HK1.out; have := HJ2.out; have := HK3.out; first | omega | exact Nat.le_refl _⟩, ⟨by (with_reducible repeat (first | refine blk_drewN ?_ _ | refine blk_drew ?_ | refine blk_alloc ?_ _)); exact BK197.out⟩, ⟨by repeat (first | (with_reducible first | exact HB.out | apply below_alloc | apply pw_below_drewN | apply below_drew1 | refine below_set ?_ GE197.out) | exact HB.out)⟩⟩
                          · rw [if_neg c14] at H
                            have c14b0 : decide (x5_3 < (((rd_T43 l0_1 x4_1).f0).length : Int)) = false := decide_eq_false c14
                            clear c14
                            have H' := Aside0.mk H
                            clear H
                            have hcz16_0 : wr.cell? ⟨gb197, 0, none⟩ = some (.int .i64 a0_0) := (blk_cell BK197.out 0).trans rfl
                            have hcz16_1 : wr.cell? ⟨gb197, 1, none⟩ = some (.slice (some ad198) l0_1.length c0_1) := (blk_cell BK197.out 1).trans rfl
                            have hfz16_0 := blk_frozen BK197.out 0
                            have hfz16_1 := blk_frozen BK197.out 1
                            have p199 : 0 ≤ (x4_1 : Int) := of_decide_eq_true (by first | (with_reducible assumption) | assumption)
                            have q199 : x4_1 < (l0_1.length : Int) := of_decide_eq_true (by first | (with_reducible assumption) | assumption)
                            obtain ⟨ad199, A199_0, c199_0, e199, hx199_0, hx199_1, hx199_2, hx199_3, hx199_4, hl199_0, hi199_0⟩ := at_T43 HR0_1.out x4_1 p199 q199
                            obtain rfl : ad198 = ad199 := (by injection e199)
                            replace hx199_0 := (HB.out.cell (World.block_lt_of_cell? w _ hx199_0)).trans hx199_0
                            replace hx199_1 := (HB.out.cell (World.block_lt_of_cell? w _ hx199_1)).trans hx199_1
                            replace hx199_2 := (HB.out.cell (World.block_lt_of_cell? w _ hx199_2)).trans hx199_2
                            replace hx199_3 := (HB.out.cell (World.block_lt_of_cell? w _ hx199_3)).trans hx199_3
                            replace hx199_4 := (HB.out.cell (World.block_lt_of_cell? w _ hx199_4)).trans hx199_4
                            have HR199_0 := Aside0.mk hi199_0
                            have HC199_0 := Aside0.mk hl199_0
                            clear hi199_0 hl199_0
                            replace p199 := eq_true p199
                            replace q199 := eq_true q199
                            go_wp2
                            go_meet
                            case rel => exact ⟨_, (false), (by first | rfl | (simp; done) | (simp [*]; done)), H', ⟨by have := HK1.out; have := HJ2.out; have := HK3.out; first | omega | exact Nat.le_refl _⟩, ⟨by (with_reducible repeat (first | refine blk_drewN ?_ _ | refine blk_drew ?_ | refine blk_alloc ?_ _)); exact BK197.out⟩, ⟨by repeat (first | (with_reducible first | exact HB.out | apply below_alloc | apply pw_below_drewN | apply below_drew1 | refine below_set ?_ GE197.out) | exact HB.out)⟩⟩
                        · rw [if_neg c13] at H
                          exact absurd H (by simp)
                      · rw [if_neg c12] at H
                        exact absurd H (by simp)
                    case rest =>
                      clear HC11
                      try clear c1
                      try clear p1
                      try clear q1
                      try clear hx1
                      try clear p2
                      try clear c4
                      try clear c4b0
                      try clear p6
                      try clear c7
                      try clear c8
                      try clear c8b0
                      try clear c9
                      try clear c9b0
                      try clear c12
                      try clear c12b0
                      try clear c13
                      try clear c13b0
                      try clear c14
                      try clear c14b0
                      try clear hcz10_0
                      try clear hcz10_1
                      try clear hcz15_0
                      try clear hcz15_1
                      try clear hcz16_0
                      try clear hcz16_1
                      try clear hcz5_0
                      try clear hcz5_1
                      try clear hcz6_0
                      try clear hcz6_1
                      try clear hfz10_0
                      try clear hfz10_1
                      try clear hfz15_0
                      try clear hfz15_1
                      try clear hfz16_0
                      try clear hfz16_1
                      try clear hfz5_0
                      try clear hfz5_1
                      try clear hfz6_0
                      try clear hfz6_1
                      try clear hx198_0
                      try clear hx198_1
                      try clear hx198_2
                      try clear hx198_3
                      try clear hx198_4
                      try clear hx199_0
                      try clear hx199_1
                      try clear hx199_2
                      try clear hx199_3
                      try clear hx199_4
                      try clear p1
                      try clear p198
                      try clear p199
                      try clear p2
                      try clear p6
                      try clear q1
                      try clear q198
                      try clear q199
                      obtain ⟨kq, x38_10, rfl, HA, HJ10, BK197, HB⟩ := hcut
                      cases kq with
                      | zero => exact absurd HA.out (by simp [swagelaw14_Few.j3])
                      | succ kj10 =>
                        have H := HA.out
                        clear HA
                        simp only [swagelaw14_Few.j3] at H
                        by_cases c17 : x38_10 = true
                        · subst c17
                          have H1 : (if 0 ≤ x4_1 then (if x4_1 < (l0_1.length : Int) then (if 0 ≤ x5_3 then (if x5_3 < (((rd_T43 l0_1 x4_1).f0).length : Int) then (if (((rd_T45 ((rd_T43 l0_1 x4_1).f0) x5_3).f5).length : Int) > 20 then (some false) else (swagelaw14_Few.l1 kj10 (wrap64 (x3_1 + (((rd_T43 l0_1 x4_1).f0).length : Int))) x4_1 (wrap64 (x5_3 + 1)) a0_0 l0_1)) else (none)) else (none)) else (none)) else (none)) = some r := by rw [if_pos rfl] at H; exact H
                          clear H
                          have H := H1
                          clear H1
                          by_cases c18 : 0 ≤ x4_1
                          · rw [if_pos c18] at H
                            have c18b0 : decide (0 ≤ x4_1) = true := decide_eq_true c18
                            clear c18
                            by_cases c19 : x4_1 < (l0_1.length : Int)
                            · rw [if_pos c19] at H
                              have c19b0 : decide (x4_1 < (l0_1.length : Int)) = true := decide_eq_true c19
                              clear c19
                              by_cases c20 : 0 ≤ x5_3
                              · rw [if_pos c20] at H
                                have c20b0 : decide (0 ≤ x5_3) = true := decide_eq_true c20
                                clear c20
                                by_cases c21 : x5_3 < (((rd_T43 l0_1 x4_1).f0).length : Int)
                                · rw [if_pos c21] at H
                                  have c21b0 : decide (x5_3 < (((rd_T43 l0_1 x4_1).f0).length : Int)) = true := decide_eq_true c21
                                  clear c21
                                  by_cases c22 : (((rd_T45 ((rd_T43 l0_1 x4_1).f0) x5_3).f5).length : Int) > 20
                                  · rw [if_pos c22] at H
                                    have c22b0 : decide (20 < (((rd_T45 ((rd_T43 l0_1 x4_1).f0) x5_3).f5).length : Int)) = true := decide_eq_true c22
                                    have c22b1 : decide (20 < ((rd_T45 ((rd_T43 l0_1 x4_1).f0) x5_3).f5).length) = true := decide_eq_true (by omega)
                                    clear c22
                                    obtain rfl := Option.some.inj H
                                    have hcz23_0 : wc.cell? ⟨gb197, 0, none⟩ = some (.int .i64 a0_0) := (blk_cell BK197.out 0).trans rfl
                                    have hcz23_1 : wc.cell? ⟨gb197, 1, none⟩ = some (.slice (some ad198) l0_1.length c0_1) := (blk_cell BK197.out 1).trans rfl
                                    have hfz23_0 := blk_frozen BK197.out 0
                                    have hfz23_1 := blk_frozen BK197.out 1
                                    have p200 : 0 ≤ (x4_1 : Int) := of_decide_eq_true (by first | (with_reducible assumption) | assumption)
                                    have q200 : x4_1 < (l0_1.length : Int) := of_decide_eq_true (by first | (with_reducible assumption) | assumption)
                                    obtain ⟨ad200, A200_0, c200_0, e200, hx200_0, hx200_1, hx200_2, hx200_3, hx200_4, hl200_0, hi200_0⟩ := at_T43 HR0_1.out x4_1 p200 q200
                                    obtain rfl : ad198 = ad200 := (by injection e200)
                                    replace hx200_0 := (HB.out.cell (World.block_lt_of_cell? w _ hx200_0)).trans hx200_0
                                    replace hx200_1 := (HB.out.cell (World.block_lt_of_cell? w _ hx200_1)).trans hx200_1
                                    replace hx200_2 := (HB.out.cell (World.block_lt_of_cell? w _ hx200_2)).trans hx200_2
                                    replace hx200_3 := (HB.out.cell (World.block_lt_of_cell? w _ hx200_3)).trans hx200_3
                                    replace hx200_4 := (HB.out.cell (World.block_lt_of_cell? w _ hx200_4)).trans hx200_4
                                    have HR200_0 := Aside0.mk hi200_0
                                    have HC200_0 := Aside0.mk hl200_0
                                    clear hi200_0 hl200_0
                                    replace p200 := eq_true p200
                                    replace q200 := eq_true q200
                                    have p201 : 0 ≤ (x5_3 : Int) := of_decide_eq_true (by first | (with_reducible assumption) | assumption)
                                    have q201 : x5_3 < (((rd_T43 l0_1 x4_1).f0).length : Int) := of_decide_eq_true (by first | (with_reducible assumption) | assumption)
                                    obtain ⟨ad201, A201_5, c201_5, e201, hx201_0, hx201_1, hx201_2, hx201_3, hx201_4, hx201_5, hl201_5, hi201_5⟩ := at_T45 HR200_0.out x5_3 p201 q201
                                    cases e201
                                    replace hx201_0 := (HB.out.cell (World.block_lt_of_cell? w _ hx201_0)).trans hx201_0
                                    replace hx201_1 := (HB.out.cell (World.block_lt_of_cell? w _ hx201_1)).trans hx201_1
                                    replace hx201_2 := (HB.out.cell (World.block_lt_of_cell? w _ hx201_2)).trans hx201_2
                                    replace hx201_3 := (HB.out.cell (World.block_lt_of_cell? w _ hx201_3)).trans hx201_3
                                    replace hx201_4 := (HB.out.cell (World.block_lt_of_cell? w _ hx201_4)).trans hx201_4
                                    replace hx201_5 := (HB.out.cell (World.block_lt_of_cell? w _ hx201_5)).trans hx201_5
                                    have HR201_5 := Aside0.mk hi201_5
                                    have HC201_5 := Aside0.mk hl201_5
                                    clear hi201_5 hl201_5
                                    replace p201 := eq_true p201
                                    replace q201 := eq_true q201
                                    go_wp2
                                    go_ret
                                    exact ⟨by first | rfl | (simp [errW_none, errW_some] <;> rfl) | (simp [*, errW_none, errW_some] <;> rfl), by repeat (first | (with_reducible first | exact HB.out | apply below_alloc | apply pw_below_drewN | apply below_drew1 | refine below_set ?_ GE197.out) | exact HB.out)⟩
                                  · rw [if_neg c22] at H
                                    have c22b0 : decide (20 < (((rd_T45 ((rd_T43 l0_1 x4_1).f0) x5_3).f5).length : Int)) = false := decide_eq_false c22
                                    have c22b1 : decide (20 < ((rd_T45 ((rd_T43 l0_1 x4_1).f0) x5_3).f5).length) = false := decide_eq_false (by omega)
                                    clear c22
                                    have H' := Aside0.mk H
                                    clear H
                                    have hcz24_0 : wc.cell? ⟨gb197, 0, none⟩ = some (.int .i64 a0_0) := (blk_cell BK197.out 0).trans rfl
                                    have hcz24_1 : wc.cell? ⟨gb197, 1, none⟩ = some (.slice (some ad198) l0_1.length c0_1) := (blk_cell BK197.out 1).trans rfl
                                    have hfz24_0 := blk_frozen BK197.out 0
                                    have hfz24_1 := blk_frozen BK197.out 1
                                    have p200 : 0 ≤ (x4_1 : Int) := of_decide_eq_true (by first | (with_reducible assumption) | assumption)
                                    have q200 : x4_1 < (l0_1.length : Int) := of_decide_eq_true (by first | (with_reducible assumption) | assumption)
                                    obtain ⟨ad200, A200_0, c200_0, e200, hx200_0, hx200_1, hx200_2, hx200_3, hx200_4, hl200_0, hi200_0⟩ := at_T43 HR0_1.out x4_1 p200 q200
                                    obtain rfl : ad198 = ad200 := (by injection e200)
                                    replace hx200_0 := (HB.out.cell (World.block_lt_of_cell? w _ hx200_0)).trans hx200_0
                                    replace hx200_1 := (HB.out.cell (World.block_lt_of_cell? w _ hx200_1)).trans hx200_1
                                    replace hx200_2 := (HB.out.cell (World.block_lt_of_cell? w _ hx200_2)).trans hx200_2
                                    replace hx200_3 := (HB.out.cell (World.block_lt_of_cell? w _ hx200_3)).trans hx200_3
                                    replace hx200_4 := (HB.out.cell (World.block_lt_of_cell? w _ hx200_4)).trans hx200_4
                                    have HR200_0 := Aside0.mk hi200_0
                                    have HC200_0 := Aside0.mk hl200_0
                                    clear hi200_0 hl200_0
                                    replace p200 := eq_true p200
                                    replace q200 := eq_true q200
                                    have p201 : 0 ≤ (x5_3 : Int) := of_decide_eq_true (by first | (with_reducible assumption) | assumption)
                                    have q201 : x5_3 < (((rd_T43 l0_1 x4_1).f0).length : Int) := of_decide_eq_true (by first | (with_reducible assumption) | assumption)
                                    obtain ⟨ad201, A201_5, c201_5, e201, hx201_0, hx201_1, hx201_2, hx201_3, hx201_4, hx201_5, hl201_5, hi201_5⟩ := at_T45 HR200_0.out x5_3 p201 q201
                                    cases e201
                                    replace hx201_0 := (HB.out.cell (World.block_lt_of_cell? w _ hx201_0)).trans hx201_0
                                    replace hx201_1 := (HB.out.cell (World.block_lt_of_cell? w _ hx201_1)).trans hx201_1
                                    replace hx201_2 := (HB.out.cell (World.block_lt_of_cell? w _ hx201_2)).trans hx201_2
                                    replace hx201_3 := (HB.out.cell (World.block_lt_of_cell? w _ hx201_3)).trans hx201_3
                                    replace hx201_4 := (HB.out.cell (World.block_lt_of_cell? w _ hx201_4)).trans hx201_4
                                    replace hx201_5 := (HB.out.cell (World.block_lt_of_cell? w _ hx201_5)).trans hx201_5
                                    have HR201_5 := Aside0.mk hi201_5
                                    have HC201_5 := Aside0.mk hl201_5
                                    clear hi201_5 hl201_5
                                    replace p201 := eq_true p201
                                    replace q201 := eq_true q201
                                    go_wp2
                                    go_roundg kj10
                                    case measure => have := HK1.out; have := HJ2.out; have := HK3.out; have := HJ10.out; omega
                                    case rel => exact ⟨(wrap64 (x5_3 + 1)), (by first | rfl | (simp; done) | (simp [*]; done)), H', ⟨by have := HK1.out; have := HJ2.out; have := HK3.out; have := HJ10.out; omega⟩, ⟨by (with_reducible repeat (first | refine blk_drewN ?_ _ | refine blk_drew ?_ | refine blk_alloc ?_ _)); exact BK197.out⟩, ⟨by repeat (first | (with_reducible first | exact HB.out | apply below_alloc | apply pw_below_drewN | apply below_drew1 | refine below_set ?_ GE197.out) | exact HB.out)⟩⟩
                                · rw [if_neg c21] at H
                                  exact absurd H (by simp)
                              · rw [if_neg c20] at H
                                exact absurd H (by simp)
                            · rw [if_neg c19] at H
                              exact absurd H (by simp)
                          · rw [if_neg c18] at H
                            exact absurd H (by simp)
                        · replace c17 := Bool.eq_false_iff.mpr c17
                          subst c17
                          have H1 : (swagelaw14_Few.l0 kj10 (wrap64 (x3_1 + (((rd_T43 l0_1 x4_1).f0).length : Int))) (wrap64 (x4_1 + 1)) a0_0 l0_1) = some r := by rw [if_neg (show ¬ (false = true) by decide)] at H; exact H
                          clear H
                          have H := H1
                          clear H1
                          have H' := Aside0.mk H
                          clear H
                          go_wp2
                          go_roundg kj10
                          case measure => have := HK1.out; have := HJ2.out; have := HK3.out; have := HJ10.out; omega
                          case rel => exact ⟨((wrap64 (x3_1 + (((rd_T43 l0_1 x4_1).f0).length : Int)))), (wrap64 (x4_1 + 1)), (by first | rfl | (simp; done) | (simp [*]; done)), (by first | rfl | (simp; done) | (simp [*]; done)), H', ⟨by have := HK1.out; have := HJ2.out; have := HK3.out; have := HJ10.out; omega⟩, ⟨by (with_reducible repeat (first | refine blk_drewN ?_ _ | refine blk_drew ?_ | refine blk_alloc ?_ _)); exact BK197.out⟩, ⟨by repeat (first | (with_reducible first | exact HB.out | apply below_alloc | apply pw_below_drewN | apply below_drew1 | refine below_set ?_ GE197.out) | exact HB.out)⟩⟩
              · rw [if_neg c9] at H
                exact absurd H (by simp)
            · rw [if_neg c8] at H
              exact absurd H (by simp)
          · replace c7 := Bool.eq_false_iff.mpr c7
            subst c7
            have H1 : (if (l0_1.length : Int) ≤ 40 then (some (decide (x3_1 ≤ 250))) else (some false)) = some r := by rw [if_neg (show ¬ (false = true) by decide)] at H; exact H
            clear H
            have H := H1
            clear H1
            by_cases c25 : (l0_1.length : Int) ≤ 40
            · rw [if_pos c25] at H
              have c25b0 : decide ((l0_1.length : Int) ≤ 40) = true := decide_eq_true c25
              have c25b1 : decide (l0_1.length ≤ 40) = true := decide_eq_true (by omega)
              clear c25
              obtain rfl := Option.some.inj H
              have hcz26_0 : wc.cell? ⟨gb197, 0, none⟩ = some (.int .i64 a0_0) := (blk_cell BK197.out 0).trans rfl
              have hcz26_1 : wc.cell? ⟨gb197, 1, none⟩ = some (.slice A0_1 l0_1.length c0_1) := (blk_cell BK197.out 1).trans rfl
              have hfz26_0 := blk_frozen BK197.out 0
              have hfz26_1 := blk_frozen BK197.out 1
              go_wp2
              go_ret
              exact ⟨by first | rfl | (simp [errW_none, errW_some] <;> rfl) | (simp [*, errW_none, errW_some] <;> rfl), by repeat (first | (with_reducible first | exact HB.out | apply below_alloc | apply pw_below_drewN | apply below_drew1 | refine below_set ?_ GE197.out) | exact HB.out)⟩
            · rw [if_neg c25] at H
              have c25b0 : decide ((l0_1.length : Int) ≤ 40) = false := decide_eq_false c25
              have c25b1 : decide (l0_1.length ≤ 40) = false := decide_eq_false (by omega)
              clear c25
              obtain rfl := Option.some.inj H
              have hcz27_0 : wc.cell? ⟨gb197, 0, none⟩ = some (.int .i64 a0_0) := (blk_cell BK197.out 0).trans rfl
              have hcz27_1 : wc.cell? ⟨gb197, 1, none⟩ = some (.slice A0_1 l0_1.length c0_1) := (blk_cell BK197.out 1).trans rfl
              have hfz27_0 := blk_frozen BK197.out 0
              have hfz27_1 := blk_frozen BK197.out 1
              go_wp2
              go_ret
              exact ⟨by first | rfl | (simp [errW_none, errW_some] <;> rfl) | (simp [*, errW_none, errW_some] <;> rfl), by repeat (first | (with_reducible first | exact HB.out | apply below_alloc | apply pw_below_drewN | apply below_drew1 | refine below_set ?_ GE197.out) | exact HB.out)⟩

/-! ### swagelaw25_few: function 17 -/
def swagelaw25_few.f (k : Nat) (a0_0 : Int) (l0_1 : List (S43)) : Option (Bool) := (swagelaw14_Few.f k a0_0 l0_1).bind fun t203 => (if t203 = true then (if (l0_1.length : Int) ≤ 12 then ((swageref14_Regs.f k a0_0 l0_1).bind fun t204 => (some (decide (t204 ≤ 40)))) else (some false)) else (some false))
/-! ### swagelaw17_few: function 26 -/
def swagelaw17_few.f (k : Nat) (a0_0 : Int) (l0_1 : List (S43)) : Option (Bool) := (swagelaw14_Few.f k a0_0 l0_1).bind fun t206 => (if t206 = true then (if (l0_1.length : Int) ≤ 12 then ((swageref14_Regs.f k a0_0 l0_1).bind fun t207 => (some (decide (t207 ≤ 40)))) else (some false)) else (some false))
set_option maxHeartbeats 8000000 in
set_option maxRecDepth 100000 in
theorem swagelaw17_few.calls (k : Nat) (a0_0 : Int) (A0_1 : Option Addr) (c0_1 : Nat) (l0_1 : List (S43)) (r : Bool) (w : World) (hr0_1 : Kd.C k43 w A0_1 l0_1.length l0_1) (hc0_1 : l0_1.length ≤ c0_1) (h : swagelaw17_few.f k a0_0 l0_1 = some r) :
    Calls Try.prog 26 #[.agg #[.int .i64 a0_0, .slice A0_1 l0_1.length c0_1]] w fun e w' => e = .returned (.bool r) ∧ Below w.heap.size w w' := by
  have hu34 := Try.underlying34
  have HR0_1 := Aside0.mk hr0_1
  have HC0_1 := Aside0.mk hc0_1
  clear hr0_1 hc0_1
  have HB := Aside0.mk (Below.refl w.heap.size w)
  have H : ((swagelaw14_Few.f k a0_0 l0_1).bind fun t206 => (if t206 = true then (if (l0_1.length : Int) ≤ 12 then ((swageref14_Regs.f k a0_0 l0_1).bind fun t207 => (some (decide (t207 ≤ 40)))) else (some false)) else (some false))) = some r := h
  clear h
  replace H := Option.bind_eq_some_iff.mp H
  obtain ⟨t206, A20, H⟩ := H
  replace H : (if t206 = true then (if (l0_1.length : Int) ≤ 12 then ((swageref14_Regs.f k a0_0 l0_1).bind fun t207 => (some (decide (t207 ≤ 40)))) else (some false)) else (some false)) = some r := H
  have A2 := Aside0.mk A20
  clear A20
  by_cases c3 : t206 = true
  · subst c3
    have H1 : (if (l0_1.length : Int) ≤ 12 then ((swageref14_Regs.f k a0_0 l0_1).bind fun t207 => (some (decide (t207 ≤ 40)))) else (some false)) = some r := by rw [if_pos rfl] at H; exact H
    clear H
    have H := H1
    clear H1
    by_cases c4 : (l0_1.length : Int) ≤ 12
    · rw [if_pos c4] at H
      have c4b0 : decide ((l0_1.length : Int) ≤ 12) = true := decide_eq_true c4
      have c4b1 : decide (l0_1.length ≤ 12) = true := decide_eq_true (by omega)
      clear c4
      replace H := Option.bind_eq_some_iff.mp H
      obtain ⟨t207, A50, H⟩ := H
      replace H : (some (decide (t207 ≤ 40))) = some r := H
      have A5 := Aside0.mk A50
      clear A50
      obtain rfl := Option.some.inj H
      go_enter Try.func26, Try.ntmps26
      go_wp2_with (first | ((with_reducible refine gate_dst (N := 1) rfl ?_); (try (refine gate_guard (by rfl) ?_; dsimp only)); refine box_event ?hg (N := 1) ?hd (cs := #[.int .i64 a0_0, .slice A0_1 l0_1.length c0_1]) (t := 34) ?hr ?_; (case hd => rfl); (case hg => rfl); (case hr => first | (go_simp; done) | (go_simp; rfl)); intro gb205 hg w6 hbox hb; have n0_ := Aside0.mk (below_step (by repeat (first | (with_reducible first | exact HB.out | apply below_alloc | apply pw_below_drewN | apply below_drew1) | exact HB.out)) hb); have n1_ := Aside0.mk (hbox); have n2_ := Aside0.mk ((by rw [hg]; exact (below_size (by repeat (first | (with_reducible first | exact HB.out | apply below_alloc | apply pw_below_drewN | apply below_drew1) | exact HB.out))) : w.heap.size ≤ gb205)); have n3_ := Aside0.mk ((by rw [hg]; exact (below_size (by repeat (first | (with_reducible first | exact HB.out | apply below_alloc | apply pw_below_drewN | apply below_drew1) | exact HB.out))) : w.heap.size ≤ gb205)); clear HB; have HB := n0_; have BK205 := n1_; have GW205 := n2_; have GE205 := n3_; clear n0_ n1_ n2_ n3_; clear hb hbox hg; have hcz7_0 : w6.cell? ⟨gb205, 0, none⟩ = some (.int .i64 a0_0) := (blk_cell BK205.out 0).trans rfl; have hcz7_1 : w6.cell? ⟨gb205, 1, none⟩ = some (.slice A0_1 l0_1.length c0_1) := (blk_cell BK205.out 1).trans rfl; have hfz7_0 := blk_frozen BK205.out 0; have hfz7_1 := blk_frozen BK205.out 1) | ((with_reducible refine gate_callee (f := 43) rfl ?_); refine goesL_ (some 5) rfl rfl Try.func43 (by kernel_rfl) rfl #[.agg #[.int .i64 a0_0, .slice A0_1 l0_1.length c0_1]] rfl (by (try simp only [List.map_toArray, List.map_cons, List.map_nil]); first | done | rfl | (simp only [List.length_drop, List.length_take]; rfl)) ?_; (with_reducible refine (swagelaw14_Few.calls k a0_0 _ _ l0_1 true _ ?side1 ?side2 A2.out).mono ?_); (case side1 => repeat (first | exact (Kd.C_below HR0_1.out HB.out) | (with_reducible refine Kd.C_alloc ?_ _) | (with_reducible refine Kd.C_drewN ?_ _) | (with_reducible refine Kd.C_drew ?_))); (case side2 => exact HC0_1.out); rintro e w8 ⟨rfl, hb⟩; refine ⟨_, rfl, ?_⟩; have n0_ := Aside0.mk (blk_below (g := gb205) (o := .cells #[.int .i64 a0_0, .slice A0_1 l0_1.length c0_1] 34 (0, 0)) (by (with_reducible repeat (first | refine blk_drewN ?_ _ | refine blk_drew ?_ | refine blk_alloc ?_ _)); exact BK205.out) hb); have n1_ := Aside0.mk (below_step (by repeat (first | (with_reducible first | exact HB.out | apply below_alloc | apply pw_below_drewN | apply below_drew1 | refine below_set ?_ GE205.out) | exact HB.out)) hb); clear BK205; clear HB; have BK205 := n0_; have HB := n1_; clear n0_ n1_; (try clear hb); (try clear hb2); (try clear hk); (try clear hi); have hcz9_0 : w8.cell? ⟨gb205, 0, none⟩ = some (.int .i64 a0_0) := (blk_cell BK205.out 0).trans rfl; have hcz9_1 : w8.cell? ⟨gb205, 1, none⟩ = some (.slice A0_1 l0_1.length c0_1) := (blk_cell BK205.out 1).trans rfl; have hfz9_0 := blk_frozen BK205.out 0; have hfz9_1 := blk_frozen BK205.out 1) | (go_at_call 44; (with_reducible refine (swageref14_Regs.calls k a0_0 _ _ l0_1 t207 _ ?side1 ?side2 A5.out).mono ?_); (case side1 => repeat (first | exact (Kd.C_below HR0_1.out HB.out) | (with_reducible refine Kd.C_alloc ?_ _) | (with_reducible refine Kd.C_drewN ?_ _) | (with_reducible refine Kd.C_drew ?_))); (case side2 => exact HC0_1.out); rintro e w10 ⟨rfl, hb⟩; have n0_ := Aside0.mk (blk_below (g := gb205) (o := .cells #[.int .i64 a0_0, .slice A0_1 l0_1.length c0_1] 34 (0, 0)) (by (with_reducible repeat (first | refine blk_drewN ?_ _ | refine blk_drew ?_ | refine blk_alloc ?_ _)); exact BK205.out) hb); have n1_ := Aside0.mk (below_step (by repeat (first | (with_reducible first | exact HB.out | apply below_alloc | apply pw_below_drewN | apply below_drew1 | refine below_set ?_ GE205.out) | exact HB.out)) hb); clear BK205; clear HB; have BK205 := n0_; have HB := n1_; clear n0_ n1_; (try clear hb); (try clear hb2); (try clear hk); (try clear hi)))
      go_ret
      exact ⟨by first | rfl | (simp [errW_none, errW_some] <;> rfl) | (simp [*, errW_none, errW_some] <;> rfl), by repeat (first | (with_reducible first | exact HB.out | apply below_alloc | apply pw_below_drewN | apply below_drew1 | refine below_set ?_ GE205.out) | exact HB.out)⟩
    · rw [if_neg c4] at H
      have c4b0 : decide ((l0_1.length : Int) ≤ 12) = false := decide_eq_false c4
      have c4b1 : decide (l0_1.length ≤ 12) = false := decide_eq_false (by omega)
      clear c4
      obtain rfl := Option.some.inj H
      go_enter Try.func26, Try.ntmps26
      go_wp2_with (first | ((with_reducible refine gate_dst (N := 1) rfl ?_); (try (refine gate_guard (by rfl) ?_; dsimp only)); refine box_event ?hg (N := 1) ?hd (cs := #[.int .i64 a0_0, .slice A0_1 l0_1.length c0_1]) (t := 34) ?hr ?_; (case hd => rfl); (case hg => rfl); (case hr => first | (go_simp; done) | (go_simp; rfl)); intro gb205 hg w11 hbox hb; have n0_ := Aside0.mk (below_step (by repeat (first | (with_reducible first | exact HB.out | apply below_alloc | apply pw_below_drewN | apply below_drew1) | exact HB.out)) hb); have n1_ := Aside0.mk (hbox); have n2_ := Aside0.mk ((by rw [hg]; exact (below_size (by repeat (first | (with_reducible first | exact HB.out | apply below_alloc | apply pw_below_drewN | apply below_drew1) | exact HB.out))) : w.heap.size ≤ gb205)); have n3_ := Aside0.mk ((by rw [hg]; exact (below_size (by repeat (first | (with_reducible first | exact HB.out | apply below_alloc | apply pw_below_drewN | apply below_drew1) | exact HB.out))) : w.heap.size ≤ gb205)); clear HB; have HB := n0_; have BK205 := n1_; have GW205 := n2_; have GE205 := n3_; clear n0_ n1_ n2_ n3_; clear hb hbox hg; have hcz12_0 : w11.cell? ⟨gb205, 0, none⟩ = some (.int .i64 a0_0) := (blk_cell BK205.out 0).trans rfl; have hcz12_1 : w11.cell? ⟨gb205, 1, none⟩ = some (.slice A0_1 l0_1.length c0_1) := (blk_cell BK205.out 1).trans rfl; have hfz12_0 := blk_frozen BK205.out 0; have hfz12_1 := blk_frozen BK205.out 1) | ((with_reducible refine gate_callee (f := 43) rfl ?_); refine goesL_ (some 5) rfl rfl Try.func43 (by kernel_rfl) rfl #[.agg #[.int .i64 a0_0, .slice A0_1 l0_1.length c0_1]] rfl (by (try simp only [List.map_toArray, List.map_cons, List.map_nil]); first | done | rfl | (simp only [List.length_drop, List.length_take]; rfl)) ?_; (with_reducible refine (swagelaw14_Few.calls k a0_0 _ _ l0_1 true _ ?side1 ?side2 A2.out).mono ?_); (case side1 => repeat (first | exact (Kd.C_below HR0_1.out HB.out) | (with_reducible refine Kd.C_alloc ?_ _) | (with_reducible refine Kd.C_drewN ?_ _) | (with_reducible refine Kd.C_drew ?_))); (case side2 => exact HC0_1.out); rintro e w13 ⟨rfl, hb⟩; refine ⟨_, rfl, ?_⟩; have n0_ := Aside0.mk (blk_below (g := gb205) (o := .cells #[.int .i64 a0_0, .slice A0_1 l0_1.length c0_1] 34 (0, 0)) (by (with_reducible repeat (first | refine blk_drewN ?_ _ | refine blk_drew ?_ | refine blk_alloc ?_ _)); exact BK205.out) hb); have n1_ := Aside0.mk (below_step (by repeat (first | (with_reducible first | exact HB.out | apply below_alloc | apply pw_below_drewN | apply below_drew1 | refine below_set ?_ GE205.out) | exact HB.out)) hb); clear BK205; clear HB; have BK205 := n0_; have HB := n1_; clear n0_ n1_; (try clear hb); (try clear hb2); (try clear hk); (try clear hi); have hcz14_0 : w13.cell? ⟨gb205, 0, none⟩ = some (.int .i64 a0_0) := (blk_cell BK205.out 0).trans rfl; have hcz14_1 : w13.cell? ⟨gb205, 1, none⟩ = some (.slice A0_1 l0_1.length c0_1) := (blk_cell BK205.out 1).trans rfl; have hfz14_0 := blk_frozen BK205.out 0; have hfz14_1 := blk_frozen BK205.out 1))
      go_ret
      exact ⟨by first | rfl | (simp [errW_none, errW_some] <;> rfl) | (simp [*, errW_none, errW_some] <;> rfl), by repeat (first | (with_reducible first | exact HB.out | apply below_alloc | apply pw_below_drewN | apply below_drew1 | refine below_set ?_ GE205.out) | exact HB.out)⟩
  · replace c3 := Bool.eq_false_iff.mpr c3
    subst c3
    have H1 : (some false) = some r := by rw [if_neg (show ¬ (false = true) by decide)] at H; exact H
    clear H
    have H := H1
    clear H1
    obtain rfl := Option.some.inj H
    go_enter Try.func26, Try.ntmps26
    go_wp2_with (first | ((with_reducible refine gate_dst (N := 1) rfl ?_); (try (refine gate_guard (by rfl) ?_; dsimp only)); refine box_event ?hg (N := 1) ?hd (cs := #[.int .i64 a0_0, .slice A0_1 l0_1.length c0_1]) (t := 34) ?hr ?_; (case hd => rfl); (case hg => rfl); (case hr => first | (go_simp; done) | (go_simp; rfl)); intro gb205 hg w15 hbox hb; have n0_ := Aside0.mk (below_step (by repeat (first | (with_reducible first | exact HB.out | apply below_alloc | apply pw_below_drewN | apply below_drew1) | exact HB.out)) hb); have n1_ := Aside0.mk (hbox); have n2_ := Aside0.mk ((by rw [hg]; exact (below_size (by repeat (first | (with_reducible first | exact HB.out | apply below_alloc | apply pw_below_drewN | apply below_drew1) | exact HB.out))) : w.heap.size ≤ gb205)); have n3_ := Aside0.mk ((by rw [hg]; exact (below_size (by repeat (first | (with_reducible first | exact HB.out | apply below_alloc | apply pw_below_drewN | apply below_drew1) | exact HB.out))) : w.heap.size ≤ gb205)); clear HB; have HB := n0_; have BK205 := n1_; have GW205 := n2_; have GE205 := n3_; clear n0_ n1_ n2_ n3_; clear hb hbox hg; have hcz16_0 : w15.cell? ⟨gb205, 0, none⟩ = some (.int .i64 a0_0) := (blk_cell BK205.out 0).trans rfl; have hcz16_1 : w15.cell? ⟨gb205, 1, none⟩ = some (.slice A0_1 l0_1.length c0_1) := (blk_cell BK205.out 1).trans rfl; have hfz16_0 := blk_frozen BK205.out 0; have hfz16_1 := blk_frozen BK205.out 1) | ((with_reducible refine gate_callee (f := 43) rfl ?_); refine goesL_ (some 5) rfl rfl Try.func43 (by kernel_rfl) rfl #[.agg #[.int .i64 a0_0, .slice A0_1 l0_1.length c0_1]] rfl (by (try simp only [List.map_toArray, List.map_cons, List.map_nil]); first | done | rfl | (simp only [List.length_drop, List.length_take]; rfl)) ?_; (with_reducible refine (swagelaw14_Few.calls k a0_0 _ _ l0_1 false _ ?side1 ?side2 A2.out).mono ?_); (case side1 => repeat (first | exact (Kd.C_below HR0_1.out HB.out) | (with_reducible refine Kd.C_alloc ?_ _) | (with_reducible refine Kd.C_drewN ?_ _) | (with_reducible refine Kd.C_drew ?_))); (case side2 => exact HC0_1.out); rintro e w17 ⟨rfl, hb⟩; refine ⟨_, rfl, ?_⟩; have n0_ := Aside0.mk (blk_below (g := gb205) (o := .cells #[.int .i64 a0_0, .slice A0_1 l0_1.length c0_1] 34 (0, 0)) (by (with_reducible repeat (first | refine blk_drewN ?_ _ | refine blk_drew ?_ | refine blk_alloc ?_ _)); exact BK205.out) hb); have n1_ := Aside0.mk (below_step (by repeat (first | (with_reducible first | exact HB.out | apply below_alloc | apply pw_below_drewN | apply below_drew1 | refine below_set ?_ GE205.out) | exact HB.out)) hb); clear BK205; clear HB; have BK205 := n0_; have HB := n1_; clear n0_ n1_; (try clear hb); (try clear hb2); (try clear hk); (try clear hi)))
    go_ret
    exact ⟨by first | rfl | (simp [errW_none, errW_some] <;> rfl) | (simp [*, errW_none, errW_some] <;> rfl), by repeat (first | (with_reducible first | exact HB.out | apply below_alloc | apply pw_below_drewN | apply below_drew1 | refine below_set ?_ GE205.out) | exact HB.out)⟩

/-! ### swagelaw25_span: function 22 -/
end Go.Proofs.Ytnkgbnbbmcoiiaa.S
