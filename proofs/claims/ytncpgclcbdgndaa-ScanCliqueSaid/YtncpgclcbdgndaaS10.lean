-- a text of the seat, by a program
import Derived.Test.YtncpgclcbdgndaaS0
import Derived.Test.YtncpgclcbdgndaaS9
import Derived.Test.YtncpgclcbdgndaaOhomes
import Derived.Test.YtncpgclcbdgndaaOsmall
namespace Go.Proofs.Ytncpgclcbdgndaa.S
open Go.RowKit Go.Proofs.YtncpgclcbdgndaaW.PrintWords Go.Proofs.YtncpgclcbdgndaaW.PrintLast Go.Proofs.YtncpgclcbdgndaaW.PrintMore
attribute [local go_sem] max2_int min2_int max_two min_two max_three min_three max_four min_four   -- for this text's walks alone
set_option linter.unusedVariables false
set_option linter.unusedSimpArgs false

/-! ### swagelaw26_ScanClique: function 6 -/
mutual
def swagelaw26_ScanClique.j0 : Nat → List Int → Int → Bool → Bool → Option (Bool)
  | 0, _, _, _, _ => none
  | k + 1, x0, x1, x5, x24 => if x24 = true then (some x5) else (swagelaw26_ScanClique.l0 k x0 x1 x5 ([] : List (S38)) 0)
def swagelaw26_ScanClique.l0 : Nat → List Int → Int → Bool → List (S38) → Int → Option (Bool)
  | 0, _, _, _, _, _ => none
  | k + 1, x0, x1, x5, x6, x7 => if x7 < (x0.length : Int) then (if 0 ≤ x7 then (if x6.length < 5864062014805 then (swagelaw26_ScanClique.l0 k x0 x1 x5 (x6 ++ [(⟨wrap64 (x7 + 1), 5, wrap64 (5 + (Go.bits .and .i64 (rd x0 x7) 255))⟩ : S38)]) (wrap64 (x7 + 1))) else (none)) else (none)) else ((scan_Homes.f x6 x1).bind fun bt208 => (if bt208.2 = 0 then (swagelaw26_ScanClique.j2 k x1 x5 x6 bt208.1 ((bt208.1.length : Int) != (x6.length : Int))) else (swagelaw26_ScanClique.j2 k x1 x5 x6 bt208.1 true)))
def swagelaw26_ScanClique.j2 : Nat → Int → Bool → List (S38) → List (S40) → Bool → Option (Bool)
  | 0, _, _, _, _, _ => none
  | k + 1, x1, x5, x6, x8, x58 => if x58 = true then (some false) else (swagelaw26_ScanClique.l1 k x1 x5 x6 x8 0)
def swagelaw26_ScanClique.l1 : Nat → Int → Bool → List (S38) → List (S40) → Int → Option (Bool)
  | 0, _, _, _, _, _ => none
  | k + 1, x1, x5, x6, x8, x10 => if x10 < (x8.length : Int) then (swagelaw26_ScanClique.l2 k x1 x5 x6 x8 x10 0 0) else (if x5 = true then ((scan_Slots.f k x8).bind fun t212 => (some (t212 == (mx (wrap64 ((x6.length : Int) - x1)) 0)))) else (some false))
def swagelaw26_ScanClique.l2 : Nat → Int → Bool → List (S38) → List (S40) → Int → Int → Int → Option (Bool)
  | 0, _, _, _, _, _, _, _ => none
  | k + 1, x1, x5, x6, x8, x10, x11, x12 => if x12 < (x6.length : Int) then (if 0 ≤ x12 then (if 0 ≤ x10 then (if x10 < (x6.length : Int) then (if ((rd_T38 x6 x12).f2) < ((rd_T38 x6 x10).f2) then (swagelaw26_ScanClique.l2 k x1 x5 x6 x8 x10 (wrap64 (x11 + 1)) (wrap64 (x12 + 1))) else (if ((rd_T38 x6 x12).f2) = ((rd_T38 x6 x10).f2) then (if x12 < x10 then (swagelaw26_ScanClique.l2 k x1 x5 x6 x8 x10 (wrap64 (x11 + 1)) (wrap64 (x12 + 1))) else (swagelaw26_ScanClique.l2 k x1 x5 x6 x8 x10 x11 (wrap64 (x12 + 1)))) else (swagelaw26_ScanClique.l2 k x1 x5 x6 x8 x10 x11 (wrap64 (x12 + 1))))) else (none)) else (none)) else (none)) else (if 0 ≤ x10 then (if x10 < (x8.length : Int) then (if ((((rd_T40 x8 x10).f0) == (-1)) != (decide (x11 ≥ x1))) = true then (some false) else (swagelaw26_ScanClique.l1 k x1 x5 x6 x8 (wrap64 (x10 + 1)))) else (none)) else (none))
end
def swagelaw26_ScanClique.f (k : Nat) (l0 : List Int) (a1 : Int) : Option (Bool) := (swagelaw26_small.f).bind fun t203 => (if (l0.length : Int) > 40 then (swagelaw26_ScanClique.j0 k l0 a1 t203 true) else (if a1 < 0 then (swagelaw26_ScanClique.j0 k l0 a1 t203 true) else (swagelaw26_ScanClique.j0 k l0 a1 t203 (decide (a1 > 16)))))
theorem swagelaw26_ScanClique.mono_l : ∀ k, (∀ y0 y1 y2 y3, LeO (swagelaw26_ScanClique.j0 k y0 y1 y2 y3) (swagelaw26_ScanClique.j0 (k + 1) y0 y1 y2 y3)) ∧ (∀ y0 y1 y2 y3 y4, LeO (swagelaw26_ScanClique.l0 k y0 y1 y2 y3 y4) (swagelaw26_ScanClique.l0 (k + 1) y0 y1 y2 y3 y4)) ∧ (∀ y0 y1 y2 y3 y4, LeO (swagelaw26_ScanClique.j2 k y0 y1 y2 y3 y4) (swagelaw26_ScanClique.j2 (k + 1) y0 y1 y2 y3 y4)) ∧ (∀ y0 y1 y2 y3 y4, LeO (swagelaw26_ScanClique.l1 k y0 y1 y2 y3 y4) (swagelaw26_ScanClique.l1 (k + 1) y0 y1 y2 y3 y4)) ∧ (∀ y0 y1 y2 y3 y4 y5 y6, LeO (swagelaw26_ScanClique.l2 k y0 y1 y2 y3 y4 y5 y6) (swagelaw26_ScanClique.l2 (k + 1) y0 y1 y2 y3 y4 y5 y6))
  | 0 => ⟨fun _ _ _ _ r h => by simp [swagelaw26_ScanClique.j0] at h, fun _ _ _ _ _ r h => by simp [swagelaw26_ScanClique.l0] at h, fun _ _ _ _ _ r h => by simp [swagelaw26_ScanClique.j2] at h, fun _ _ _ _ _ r h => by simp [swagelaw26_ScanClique.l1] at h, fun _ _ _ _ _ _ _ r h => by simp [swagelaw26_ScanClique.l2] at h⟩
  | k + 1 => by
    obtain ⟨ih0, ih1, ih2, ih3, ih4⟩ := swagelaw26_ScanClique.mono_l k
    refine ⟨?_, ?_, ?_, ?_, ?_⟩
    · intro y0 y1 y2 y3
      unfold swagelaw26_ScanClique.j0
      repeat' first
      | (with_reducible exact ih0 _ _ _ _)
      | (with_reducible exact ih1 _ _ _ _ _)
      | (with_reducible exact ih2 _ _ _ _ _)
      | (with_reducible exact ih3 _ _ _ _ _)
      | (with_reducible exact ih4 _ _ _ _ _ _ _)
      | (with_reducible exact scan_Slots.mono _ _)
      | (with_reducible exact LeO.refl _)
      | (with_reducible exact LeO.none _)
      | (with_reducible refine LeO.ite ?_ ?_)
      | (with_reducible refine LeO.bind ?_ (fun _ => ?_))
      | exact ih0 _ _ _ _
      | exact ih1 _ _ _ _ _
      | exact ih2 _ _ _ _ _
      | exact ih3 _ _ _ _ _
      | exact ih4 _ _ _ _ _ _ _
      | exact scan_Slots.mono _ _
      | exact LeO.none _
      | refine LeO.ite ?_ ?_
      | refine LeO.bind ?_ (fun _ => ?_)
    · intro y0 y1 y2 y3 y4
      unfold swagelaw26_ScanClique.l0
      repeat' first
      | (with_reducible exact ih0 _ _ _ _)
      | (with_reducible exact ih1 _ _ _ _ _)
      | (with_reducible exact ih2 _ _ _ _ _)
      | (with_reducible exact ih3 _ _ _ _ _)
      | (with_reducible exact ih4 _ _ _ _ _ _ _)
      | (with_reducible exact scan_Slots.mono _ _)
      | (with_reducible exact LeO.refl _)
      | (with_reducible exact LeO.none _)
      | (with_reducible refine LeO.ite ?_ ?_)
      | (with_reducible refine LeO.bind ?_ (fun _ => ?_))
      | exact ih0 _ _ _ _
      | exact ih1 _ _ _ _ _
      | exact ih2 _ _ _ _ _
      | exact ih3 _ _ _ _ _
      | exact ih4 _ _ _ _ _ _ _
      | exact scan_Slots.mono _ _
      | exact LeO.none _
      | refine LeO.ite ?_ ?_
      | refine LeO.bind ?_ (fun _ => ?_)
    · intro y0 y1 y2 y3 y4
      unfold swagelaw26_ScanClique.j2
      repeat' first
      | (with_reducible exact ih0 _ _ _ _)
      | (with_reducible exact ih1 _ _ _ _ _)
      | (with_reducible exact ih2 _ _ _ _ _)
      | (with_reducible exact ih3 _ _ _ _ _)
      | (with_reducible exact ih4 _ _ _ _ _ _ _)
      | (with_reducible exact scan_Slots.mono _ _)
      | (with_reducible exact LeO.refl _)
      | (with_reducible exact LeO.none _)
      | (with_reducible refine LeO.ite ?_ ?_)
      | (with_reducible refine LeO.bind ?_ (fun _ => ?_))
      | exact ih0 _ _ _ _
      | exact ih1 _ _ _ _ _
      | exact ih2 _ _ _ _ _
      | exact ih3 _ _ _ _ _
      | exact ih4 _ _ _ _ _ _ _
      | exact scan_Slots.mono _ _
      | exact LeO.none _
      | refine LeO.ite ?_ ?_
      | refine LeO.bind ?_ (fun _ => ?_)
    · intro y0 y1 y2 y3 y4
      unfold swagelaw26_ScanClique.l1
      repeat' first
      | (with_reducible exact ih0 _ _ _ _)
      | (with_reducible exact ih1 _ _ _ _ _)
      | (with_reducible exact ih2 _ _ _ _ _)
      | (with_reducible exact ih3 _ _ _ _ _)
      | (with_reducible exact ih4 _ _ _ _ _ _ _)
      | (with_reducible exact scan_Slots.mono _ _)
      | (with_reducible exact LeO.refl _)
      | (with_reducible exact LeO.none _)
      | (with_reducible refine LeO.ite ?_ ?_)
      | (with_reducible refine LeO.bind ?_ (fun _ => ?_))
      | exact ih0 _ _ _ _
      | exact ih1 _ _ _ _ _
      | exact ih2 _ _ _ _ _
      | exact ih3 _ _ _ _ _
      | exact ih4 _ _ _ _ _ _ _
      | exact scan_Slots.mono _ _
      | exact LeO.none _
      | refine LeO.ite ?_ ?_
      | refine LeO.bind ?_ (fun _ => ?_)
    · intro y0 y1 y2 y3 y4 y5 y6
      unfold swagelaw26_ScanClique.l2
      repeat' first
      | (with_reducible exact ih0 _ _ _ _)
      | (with_reducible exact ih1 _ _ _ _ _)
      | (with_reducible exact ih2 _ _ _ _ _)
      | (with_reducible exact ih3 _ _ _ _ _)
      | (with_reducible exact ih4 _ _ _ _ _ _ _)
      | (with_reducible exact scan_Slots.mono _ _)
      | (with_reducible exact LeO.refl _)
      | (with_reducible exact LeO.none _)
      | (with_reducible refine LeO.ite ?_ ?_)
      | (with_reducible refine LeO.bind ?_ (fun _ => ?_))
      | exact ih0 _ _ _ _
      | exact ih1 _ _ _ _ _
      | exact ih2 _ _ _ _ _
      | exact ih3 _ _ _ _ _
      | exact ih4 _ _ _ _ _ _ _
      | exact scan_Slots.mono _ _
      | exact LeO.none _
      | refine LeO.ite ?_ ?_
      | refine LeO.bind ?_ (fun _ => ?_)
theorem swagelaw26_ScanClique.mono : ∀ a0 a1 k, LeO (swagelaw26_ScanClique.f k a0 a1) (swagelaw26_ScanClique.f (k + 1) a0 a1) := by
  intro a0 a1 k
  obtain ⟨ih0, ih1, ih2, ih3, ih4⟩ := swagelaw26_ScanClique.mono_l k
  unfold swagelaw26_ScanClique.f
  repeat' first
      | (with_reducible exact ih0 _ _ _ _)
      | (with_reducible exact ih1 _ _ _ _ _)
      | (with_reducible exact ih2 _ _ _ _ _)
      | (with_reducible exact ih3 _ _ _ _ _)
      | (with_reducible exact ih4 _ _ _ _ _ _ _)
      | (with_reducible exact scan_Slots.mono _ _)
      | (with_reducible exact LeO.refl _)
      | (with_reducible exact LeO.none _)
      | (with_reducible refine LeO.ite ?_ ?_)
      | (with_reducible refine LeO.bind ?_ (fun _ => ?_))
      | exact ih0 _ _ _ _
      | exact ih1 _ _ _ _ _
      | exact ih2 _ _ _ _ _
      | exact ih3 _ _ _ _ _
      | exact ih4 _ _ _ _ _ _ _
      | exact scan_Slots.mono _ _
      | exact LeO.none _
      | refine LeO.ite ?_ ?_
      | refine LeO.bind ?_ (fun _ => ?_)
set_option maxHeartbeats 8000000 in
set_option maxRecDepth 100000 in
theorem swagelaw26_ScanClique.calls (k : Nat) (A0 : Option Addr) (c0 : Nat) (l0 : List Int) (a1 : Int) (r : Bool) (w : World) (hr0 : Kd.C (Kd.int .i64) w A0 l0.length l0) (hc0 : l0.length ≤ c0) (h : swagelaw26_ScanClique.f k l0 a1 = some r) :
    Calls Try.prog 6 #[.slice A0 l0.length c0, .int .i64 a1] w fun e w' => e = .returned (.bool r) ∧ Below w.heap.size w w' := by
  have hu38 := Try.underlying38
  have HR0 := Aside0.mk hr0
  have HC0 := Aside0.mk hc0
  clear hr0 hc0
  have HB := Aside0.mk (Below.refl w.heap.size w)
  have H : ((swagelaw26_small.f).bind fun t203 => (if (l0.length : Int) > 40 then (swagelaw26_ScanClique.j0 k l0 a1 t203 true) else (if a1 < 0 then (swagelaw26_ScanClique.j0 k l0 a1 t203 true) else (swagelaw26_ScanClique.j0 k l0 a1 t203 (decide (a1 > 16)))))) = some r := h
  clear h
  replace H := Option.bind_eq_some_iff.mp H
  obtain ⟨t203, A30, H⟩ := H
  replace H : (if (l0.length : Int) > 40 then (swagelaw26_ScanClique.j0 k l0 a1 t203 true) else (if a1 < 0 then (swagelaw26_ScanClique.j0 k l0 a1 t203 true) else (swagelaw26_ScanClique.j0 k l0 a1 t203 (decide (a1 > 16))))) = some r := H
  have A3 := Aside0.mk A30
  clear A30
  have HC4 := Aside0.mk H
  clear H
  go_enter Try.func6, Try.ntmps6
  go_upto_region 2 with (first | (go_at_call 9; (with_reducible refine (swagelaw26_small.calls  t203 _ A3.out).mono ?_); rintro e w5 ⟨rfl, hb⟩; have n0_ := Aside0.mk (below_step (by repeat (first | (with_reducible first | exact HB.out | apply below_alloc | apply pw_below_drewN | apply below_drew1) | exact HB.out)) hb); clear HB; have HB := n0_; clear n0_; (try clear hb); (try clear hb2); (try clear hk); (try clear hi)))
  repeat (go_quiet (first | (go_at_call 9; (with_reducible refine (swagelaw26_small.calls  t203 _ A3.out).mono ?_); rintro e w5 ⟨rfl, hb⟩; have n0_ := Aside0.mk (below_step (by repeat (first | (with_reducible first | exact HB.out | apply below_alloc | apply pw_below_drewN | apply below_drew1) | exact HB.out)) hb); clear HB; have HB := n0_; clear n0_; (try clear hb); (try clear hb2); (try clear hk); (try clear hi))); go_upto_region 2 with (first | (go_at_call 9; (with_reducible refine (swagelaw26_small.calls  t203 _ A3.out).mono ?_); rintro e w5 ⟨rfl, hb⟩; have n0_ := Aside0.mk (below_step (by repeat (first | (with_reducible first | exact HB.out | apply below_alloc | apply pw_below_drewN | apply below_drew1) | exact HB.out)) hb); clear HB; have HB := n0_; clear n0_; (try clear hb); (try clear hb2); (try clear hk); (try clear hi))))
  (try simp only [Act.put, List.setIfInBounds_toArray, List.set_cons_zero, List.set_cons_succ])
  go_cut [24] (fun v24 wc => ∃ (kq : Nat) (x24_3 : Bool), v24 = .bool x24_3 ∧ Aside0 (swagelaw26_ScanClique.j0 kq l0 a1 t203 x24_3 = some r) ∧ Aside0 (kq ≤ k) ∧ Aside0 (Below w.heap.size w wc))
  case first =>
    have H := HC4.out
    clear HC4
    by_cases c6 : (l0.length : Int) > 40
    · rw [if_pos c6] at H
      have c6b0 : decide (40 < (l0.length : Int)) = true := decide_eq_true c6
      have c6b1 : decide (40 < l0.length) = true := decide_eq_true (by omega)
      clear c6
      (first | rw [c6b0] | (simp only [i64_w, i32_w]; rw [c6b0]) | skip)
      have H' := Aside0.mk H
      clear H
      go_wp2
      repeat (go_quiet (fail); try go_wp2)
      go_meet
      case rel => exact ⟨_, (true), (by first | rfl | (simp; done) | (simp [*]; done)), H', ⟨by first | omega | exact Nat.le_refl _⟩, ⟨by repeat (first | (with_reducible first | exact HB.out | apply below_alloc | apply pw_below_drewN | apply below_drew1) | exact HB.out)⟩⟩
    · rw [if_neg c6] at H
      have c6b0 : decide (40 < (l0.length : Int)) = false := decide_eq_false c6
      have c6b1 : decide (40 < l0.length) = false := decide_eq_false (by omega)
      clear c6
      (first | rw [c6b0] | (simp only [i64_w, i32_w]; rw [c6b0]) | skip)
      by_cases c7 : a1 < 0
      · rw [if_pos c7] at H
        have c7b0 : decide (a1 < 0) = true := decide_eq_true c7
        clear c7
        have H' := Aside0.mk H
        clear H
        go_wp2
        repeat (go_quiet (fail); try go_wp2)
        go_meet
        case rel => exact ⟨_, (true), (by first | rfl | (simp; done) | (simp [*]; done)), H', ⟨by first | omega | exact Nat.le_refl _⟩, ⟨by repeat (first | (with_reducible first | exact HB.out | apply below_alloc | apply pw_below_drewN | apply below_drew1) | exact HB.out)⟩⟩
      · rw [if_neg c7] at H
        have c7b0 : decide (a1 < 0) = false := decide_eq_false c7
        clear c7
        have H' := Aside0.mk H
        clear H
        go_wp2
        repeat (go_quiet (fail); try go_wp2)
        go_meet
        case rel => exact ⟨_, (decide (a1 > 16)), (by first | rfl | (simp; done) | (simp [*]; done)), H', ⟨by first | omega | exact Nat.le_refl _⟩, ⟨by repeat (first | (with_reducible first | exact HB.out | apply below_alloc | apply pw_below_drewN | apply below_drew1) | exact HB.out)⟩⟩
  case rest =>
    clear HC4
    try clear p2
    try clear c6
    try clear c6b0
    try clear c6b1
    try clear c7
    try clear c7b0
    obtain ⟨kq, x24_3, rfl, HA, HJ3, HB⟩ := hcut
    cases kq with
    | zero => exact absurd HA.out (by simp [swagelaw26_ScanClique.j0])
    | succ kj3 =>
      have H := HA.out
      clear HA
      simp only [swagelaw26_ScanClique.j0] at H
      by_cases c8 : x24_3 = true
      · subst c8
        have H1 : (some t203) = some r := by rw [if_pos rfl] at H; exact H
        clear H
        have H := H1
        clear H1
        obtain rfl := Option.some.inj H
        go_wp2
        repeat (go_quiet (fail); try go_wp2)
        go_ret
        exact ⟨by first | rfl | (simp [errW_none, errW_some] <;> rfl) | (simp [*, errW_none, errW_some] <;> rfl), by repeat (first | (with_reducible first | exact HB.out | apply below_alloc | apply pw_below_drewN | apply below_drew1) | exact HB.out)⟩
      · replace c8 := Bool.eq_false_iff.mpr c8
        subst c8
        have H1 : (swagelaw26_ScanClique.l0 kj3 l0 a1 t203 ([] : List (S38)) 0) = some r := by rw [if_neg (show ¬ (false = true) by decide)] at H; exact H
        clear H
        have H := H1
        clear H1
        have H' := Aside0.mk H
        clear H
        go_wp2
        repeat (go_quiet (fail); try go_wp2)
        go_loopg [6, 7] kj3 (fun kq v6 v7 w' => ∃ (x6_2 : List (S38)) (x7_2 : Int), v7 = .int .i64 x7_2 ∧ Aside0 (swagelaw26_ScanClique.l0 kq l0 a1 t203 x6_2 x7_2 = some r) ∧ Aside0 (kq ≤ kj3) ∧ Aside0 (Kd.R k38 38 w' w.heap.size (fun _ => True) v6 x6_2) ∧ Aside0 (Below w.heap.size w w'))
        case atStart => exact ⟨(([] : List (S38))), (0), (by first | rfl | (simp; done) | (simp [*]; done)), H', ⟨Nat.le_refl _⟩, ⟨by first | exact Kd.R_nil _ _ _ _ _ | exact Kd.N_nil _ _ _ _ _ | exact Kd.V_nil _ _ _ _ _ | exact Kd.Q_nil _ _ _ _ _ | exact Kd.S_nil _ _ _ _ _⟩, ⟨by repeat (first | (with_reducible first | exact HB.out | apply below_alloc | apply pw_below_drewN | apply below_drew1) | exact HB.out)⟩⟩
        case round =>
          clear H'
          try clear p2
          try clear c6
          try clear c6b0
          try clear c6b1
          try clear c7
          try clear c7b0
          try clear c8
          try clear p2
          obtain ⟨x6_2, x7_2, rfl, HA, HK2, HO_6, HB⟩ := hrel
          cases gk with
          | zero => exact absurd HA.out (by simp [swagelaw26_ScanClique.l0])
          | succ k2 =>
            have H := HA.out
            clear HA
            simp only [swagelaw26_ScanClique.l0] at H
            by_cases c9 : x7_2 < (l0.length : Int)
            · rw [if_pos c9] at H
              have c9b0 : decide (x7_2 < (l0.length : Int)) = true := decide_eq_true c9
              clear c9
              by_cases c10 : 0 ≤ x7_2
              · rw [if_pos c10] at H
                have c10b0 : decide (0 ≤ x7_2) = true := decide_eq_true c10
                clear c10
                by_cases c11 : x6_2.length < 5864062014805
                · rw [if_pos c11] at H
                  have LMc11 := Aside0.mk c11
                  clear c11
                  obtain ⟨y205, hy205⟩ : ∃ y_ : List (S38), y_ = (x6_2 ++ [(⟨wrap64 (x7_2 + 1), 5, wrap64 (5 + (Go.bits .and .i64 (rd l0 x7_2) 255))⟩ : S38)]) := ⟨_, rfl⟩
                  replace H : (swagelaw26_ScanClique.l0 k2 l0 a1 t203 y205 (wrap64 (x7_2 + 1))) = some r := by first | (rw [hy205]; with_reducible exact H) | (have H2_ := (Option.bind_some _ _).symm.trans H; rw [hy205]; with_reducible exact H2_) | (have H2_ := (Option.bind_some _ _).symm.trans H; with_reducible exact H2_) | with_reducible exact H | (rw [hy205]; exact H) | exact H
                  have Ny205 := Aside0.mk hy205
                  clear hy205
                  have H' := Aside0.mk H
                  clear H
                  have p204 : 0 ≤ (x7_2 : Int) := of_decide_eq_true (by first | (with_reducible assumption) | assumption)
                  have q204 : x7_2 < (l0.length : Int) := of_decide_eq_true (by first | (with_reducible assumption) | assumption)
                  obtain ⟨ad204, e204, hx204_0⟩ := Kd.at_int HR0.out x7_2 p204 q204
                  cases e204
                  replace hx204_0 := (HB.out.cell (World.block_lt_of_cell? w _ hx204_0)).trans hx204_0
                  replace p204 := eq_true p204
                  replace q204 := eq_true q204
                  go_wp2_with (first | ((with_reducible refine gate_builtin (b := .append) (xs := #[.tmp 32, .tmp 42]) rfl ?_); (try (refine gate_guard (by rfl) ?_; dsimp only)); at_builtin; refine Kd.R_append k38 (w0 := w) w.heap.size rfl (.tmp 32) (.tmp 42) 22 38 (.agg #[(.int .i64 0), (.int .i64 0), (.int .i64 0)]) 24 rfl Try.underlying22 info38 rfl (by decide) (by omega) u6 x6_2 (⟨wrap64 (x7_2 + 1), 5, wrap64 (5 + (Go.bits .and .i64 (rd l0 x7_2) 255))⟩ : S38) [.int .i64 (wrap64 (x7_2 + 1)), .int .i64 5, .int .i64 (wrap64 (5 + (Go.bits .and .i64 (rd l0 x7_2) 255)))] (fun _ => True) (fun _ => False) rfl rfl ?aP (fun _ hk => hk.elim) ?aF ?aO ?aB ?aS ?aL ?_; (case aP => exact k38_mkM _ _ _ (⟨wrap64 (x7_2 + 1), 5, wrap64 (5 + (Go.bits .and .i64 (rd l0 x7_2) 255))⟩ : S38)); (case aB => exact (by repeat (first | (with_reducible first | exact HB.out | apply below_alloc | apply pw_below_drewN | apply below_drew1) | exact HB.out))); (case aF => exact (fun _ _ => trivial)); (case aO => exact (by (with_reducible repeat (first | apply Kd.R_alloc | apply Kd.R_drewN | apply Kd.R_drew)); exact HO_6.out)); (case aS => exact (below_size (by repeat (first | (with_reducible first | exact HB.out | apply below_alloc | apply pw_below_drewN | apply below_drew1) | exact HB.out)))); (case aL => have := LMc11.out; omega); intro v206 w12 ho hb hg hat; rw [← Ny205.out] at ho; have n0_ := Aside0.mk (hb); have n1_ := Aside0.mk (ho); clear HB; clear HO_6; have HB := n0_; have HO207 := n1_; clear n0_ n1_; clear ho hb hg hat))
                  repeat (go_quiet (first | ((with_reducible refine gate_builtin (b := .append) (xs := #[.tmp 32, .tmp 42]) rfl ?_); (try (refine gate_guard (by rfl) ?_; dsimp only)); at_builtin; refine Kd.R_append k38 (w0 := w) w.heap.size rfl (.tmp 32) (.tmp 42) 22 38 (.agg #[(.int .i64 0), (.int .i64 0), (.int .i64 0)]) 24 rfl Try.underlying22 info38 rfl (by decide) (by omega) u6 x6_2 (⟨wrap64 (x7_2 + 1), 5, wrap64 (5 + (Go.bits .and .i64 (rd l0 x7_2) 255))⟩ : S38) [.int .i64 (wrap64 (x7_2 + 1)), .int .i64 5, .int .i64 (wrap64 (5 + (Go.bits .and .i64 (rd l0 x7_2) 255)))] (fun _ => True) (fun _ => False) rfl rfl ?aP (fun _ hk => hk.elim) ?aF ?aO ?aB ?aS ?aL ?_; (case aP => exact k38_mkM _ _ _ (⟨wrap64 (x7_2 + 1), 5, wrap64 (5 + (Go.bits .and .i64 (rd l0 x7_2) 255))⟩ : S38)); (case aB => exact (by repeat (first | (with_reducible first | exact HB.out | apply below_alloc | apply pw_below_drewN | apply below_drew1) | exact HB.out))); (case aF => exact (fun _ _ => trivial)); (case aO => exact (by (with_reducible repeat (first | apply Kd.R_alloc | apply Kd.R_drewN | apply Kd.R_drew)); exact HO_6.out)); (case aS => exact (below_size (by repeat (first | (with_reducible first | exact HB.out | apply below_alloc | apply pw_below_drewN | apply below_drew1) | exact HB.out)))); (case aL => have := LMc11.out; omega); intro v206 w12 ho hb hg hat; rw [← Ny205.out] at ho; have n0_ := Aside0.mk (hb); have n1_ := Aside0.mk (ho); clear HB; clear HO_6; have HB := n0_; have HO207 := n1_; clear n0_ n1_; clear ho hb hg hat)); try go_wp2_with (first | ((with_reducible refine gate_builtin (b := .append) (xs := #[.tmp 32, .tmp 42]) rfl ?_); (try (refine gate_guard (by rfl) ?_; dsimp only)); at_builtin; refine Kd.R_append k38 (w0 := w) w.heap.size rfl (.tmp 32) (.tmp 42) 22 38 (.agg #[(.int .i64 0), (.int .i64 0), (.int .i64 0)]) 24 rfl Try.underlying22 info38 rfl (by decide) (by omega) u6 x6_2 (⟨wrap64 (x7_2 + 1), 5, wrap64 (5 + (Go.bits .and .i64 (rd l0 x7_2) 255))⟩ : S38) [.int .i64 (wrap64 (x7_2 + 1)), .int .i64 5, .int .i64 (wrap64 (5 + (Go.bits .and .i64 (rd l0 x7_2) 255)))] (fun _ => True) (fun _ => False) rfl rfl ?aP (fun _ hk => hk.elim) ?aF ?aO ?aB ?aS ?aL ?_; (case aP => exact k38_mkM _ _ _ (⟨wrap64 (x7_2 + 1), 5, wrap64 (5 + (Go.bits .and .i64 (rd l0 x7_2) 255))⟩ : S38)); (case aB => exact (by repeat (first | (with_reducible first | exact HB.out | apply below_alloc | apply pw_below_drewN | apply below_drew1) | exact HB.out))); (case aF => exact (fun _ _ => trivial)); (case aO => exact (by (with_reducible repeat (first | apply Kd.R_alloc | apply Kd.R_drewN | apply Kd.R_drew)); exact HO_6.out)); (case aS => exact (below_size (by repeat (first | (with_reducible first | exact HB.out | apply below_alloc | apply pw_below_drewN | apply below_drew1) | exact HB.out)))); (case aL => have := LMc11.out; omega); intro v206 w12 ho hb hg hat; rw [← Ny205.out] at ho; have n0_ := Aside0.mk (hb); have n1_ := Aside0.mk (ho); clear HB; clear HO_6; have HB := n0_; have HO207 := n1_; clear n0_ n1_; clear ho hb hg hat)))
                  go_roundg k2
                  case measure => have := HJ3.out; have := HK2.out; omega
                  case rel => exact ⟨(y205), (wrap64 (x7_2 + 1)), (by first | rfl | (simp; done) | (simp [*]; done)), H', ⟨by have := HJ3.out; have := HK2.out; omega⟩, ⟨by (with_reducible repeat (first | apply Kd.R_alloc | apply Kd.R_drewN | apply Kd.R_drew)); exact HO207.out⟩, ⟨by repeat (first | (with_reducible first | exact HB.out | apply below_alloc | apply pw_below_drewN | apply below_drew1) | exact HB.out)⟩⟩
                · rw [if_neg c11] at H
                  exact absurd H (by simp)
              · rw [if_neg c10] at H
                exact absurd H (by simp)
            · rw [if_neg c9] at H
              have c9b0 : decide (x7_2 < (l0.length : Int)) = false := decide_eq_false c9
              clear c9
              replace H := Option.bind_eq_some_iff.mp H
              obtain ⟨⟨t208, t209⟩, A130, H⟩ := H
              replace H : (if t209 = 0 then (swagelaw26_ScanClique.j2 k2 a1 t203 x6_2 t208 ((t208.length : Int) != (x6_2.length : Int))) else (swagelaw26_ScanClique.j2 k2 a1 t203 x6_2 t208 true)) = some r := H
              have A13 := Aside0.mk A130
              clear A130
              have HC14 := Aside0.mk H
              clear H
              obtain ⟨Ao15, co15, eo15⟩ := Kd.R_slice HO_6.out
              subst eo15
              go_upto_region 10 with (first | (go_at_call 10; (with_reducible refine (scan_Homes.calls _ _ x6_2 a1 t208 t209 _ ?side1 ?side2 A13.out).mono ?_); (case side1 => repeat (first | exact (Kd.R_reads' HO_6.out).2.2 | (with_reducible refine Kd.C_alloc ?_ _) | (with_reducible refine Kd.C_drewN ?_ _) | (with_reducible refine Kd.C_drew ?_))); (case side2 => exact (Kd.R_reads' HO_6.out).2.1); rintro e w16 ⟨v210, rfl, ho0, hb⟩; have n0_ := Aside0.mk (Kd.R_below (by (with_reducible repeat (first | apply Kd.R_alloc | apply Kd.R_drewN | apply Kd.R_drew)); exact HO_6.out) hb); have n1_ := Aside0.mk (Kd.R_lower ho0 (below_size (by repeat (first | (with_reducible first | exact HB.out | apply below_alloc | apply pw_below_drewN | apply below_drew1) | exact HB.out)))); have n2_ := Aside0.mk (below_step (by repeat (first | (with_reducible first | exact HB.out | apply below_alloc | apply pw_below_drewN | apply below_drew1) | exact HB.out)) hb); clear HO_6; clear HB; have HO_6 := n0_; have HO211 := n1_; have HB := n2_; clear n0_ n1_ n2_; (try clear hb); (try clear hb2); (try clear hk); (try clear hi); (try clear ho0)))
              repeat (go_quiet (first | (go_at_call 10; (with_reducible refine (scan_Homes.calls _ _ x6_2 a1 t208 t209 _ ?side1 ?side2 A13.out).mono ?_); (case side1 => repeat (first | exact (Kd.R_reads' HO_6.out).2.2 | (with_reducible refine Kd.C_alloc ?_ _) | (with_reducible refine Kd.C_drewN ?_ _) | (with_reducible refine Kd.C_drew ?_))); (case side2 => exact (Kd.R_reads' HO_6.out).2.1); rintro e w16 ⟨v210, rfl, ho0, hb⟩; have n0_ := Aside0.mk (Kd.R_below (by (with_reducible repeat (first | apply Kd.R_alloc | apply Kd.R_drewN | apply Kd.R_drew)); exact HO_6.out) hb); have n1_ := Aside0.mk (Kd.R_lower ho0 (below_size (by repeat (first | (with_reducible first | exact HB.out | apply below_alloc | apply pw_below_drewN | apply below_drew1) | exact HB.out)))); have n2_ := Aside0.mk (below_step (by repeat (first | (with_reducible first | exact HB.out | apply below_alloc | apply pw_below_drewN | apply below_drew1) | exact HB.out)) hb); clear HO_6; clear HB; have HO_6 := n0_; have HO211 := n1_; have HB := n2_; clear n0_ n1_ n2_; (try clear hb); (try clear hb2); (try clear hk); (try clear hi); (try clear ho0))); go_upto_region 10 with (first | (go_at_call 10; (with_reducible refine (scan_Homes.calls _ _ x6_2 a1 t208 t209 _ ?side1 ?side2 A13.out).mono ?_); (case side1 => repeat (first | exact (Kd.R_reads' HO_6.out).2.2 | (with_reducible refine Kd.C_alloc ?_ _) | (with_reducible refine Kd.C_drewN ?_ _) | (with_reducible refine Kd.C_drew ?_))); (case side2 => exact (Kd.R_reads' HO_6.out).2.1); rintro e w16 ⟨v210, rfl, ho0, hb⟩; have n0_ := Aside0.mk (Kd.R_below (by (with_reducible repeat (first | apply Kd.R_alloc | apply Kd.R_drewN | apply Kd.R_drew)); exact HO_6.out) hb); have n1_ := Aside0.mk (Kd.R_lower ho0 (below_size (by repeat (first | (with_reducible first | exact HB.out | apply below_alloc | apply pw_below_drewN | apply below_drew1) | exact HB.out)))); have n2_ := Aside0.mk (below_step (by repeat (first | (with_reducible first | exact HB.out | apply below_alloc | apply pw_below_drewN | apply below_drew1) | exact HB.out)) hb); clear HO_6; clear HB; have HO_6 := n0_; have HO211 := n1_; have HB := n2_; clear n0_ n1_ n2_; (try clear hb); (try clear hb2); (try clear hk); (try clear hi); (try clear ho0))))
              (try simp only [Act.put, List.setIfInBounds_toArray, List.set_cons_zero, List.set_cons_succ])
              go_cut [58] (fun v58 wc => ∃ (kq : Nat) (x58_13 : Bool), v58 = .bool x58_13 ∧ Aside0 (swagelaw26_ScanClique.j2 kq a1 t203 x6_2 t208 x58_13 = some r) ∧ Aside0 (kq ≤ k2) ∧ Aside0 (Kd.R k38 38 wc w.heap.size (fun _ => True) (.slice Ao15 x6_2.length co15) x6_2) ∧ Aside0 (Kd.R k40 40 wc w.heap.size (fun _ => True) v210 t208) ∧ Aside0 (Below w.heap.size w wc))
              case first =>
                have H := HC14.out
                clear HC14
                by_cases c17 : t209 = 0
                · rw [if_pos c17] at H
                  have c17b0 : (t209 == 0) = true := beq_iff_eq.mpr c17
                  have c17b1 : (t209 != 0) = false := bne_eq_false_iff_eq.mpr c17
                  clear c17
                  (first | rw [c17b0] | (simp only [i64_w, i32_w]; rw [c17b0]) | skip)
                  have H' := Aside0.mk H
                  clear H
                  obtain ⟨Ao18, co18, eo18⟩ := Kd.R_slice HO211.out
                  subst eo18
                  go_wp2
                  repeat (go_quiet (fail); try go_wp2)
                  go_meet
                  case rel => exact ⟨_, (((t208.length : Int) != (x6_2.length : Int))), (by first | rfl | (simp; done) | (simp [*]; done)), H', ⟨by have := HJ3.out; have := HK2.out; first | omega | exact Nat.le_refl _⟩, ⟨by (with_reducible repeat (first | apply Kd.R_alloc | apply Kd.R_drewN | apply Kd.R_drew)); exact HO_6.out⟩, ⟨by (with_reducible repeat (first | apply Kd.R_alloc | apply Kd.R_drewN | apply Kd.R_drew)); exact HO211.out⟩, ⟨by repeat (first | (with_reducible first | exact HB.out | apply below_alloc | apply pw_below_drewN | apply below_drew1) | exact HB.out)⟩⟩
                · rw [if_neg c17] at H
                  have c17b0 : (t209 == 0) = false := beq_eq_false_iff_ne.mpr c17
                  have c17b1 : (t209 != 0) = true := bne_iff_ne.mpr c17
                  (first | rw [c17b0] | (simp only [i64_w, i32_w]; rw [c17b0]) | skip)
                  have H' := Aside0.mk H
                  clear H
                  go_wp2
                  repeat (go_quiet (fail); try go_wp2)
                  go_meet
                  case rel => exact ⟨_, (true), (by first | rfl | (simp; done) | (simp [*]; done)), H', ⟨by have := HJ3.out; have := HK2.out; first | omega | exact Nat.le_refl _⟩, ⟨by (with_reducible repeat (first | apply Kd.R_alloc | apply Kd.R_drewN | apply Kd.R_drew)); exact HO_6.out⟩, ⟨by (with_reducible repeat (first | apply Kd.R_alloc | apply Kd.R_drewN | apply Kd.R_drew)); exact HO211.out⟩, ⟨by repeat (first | (with_reducible first | exact HB.out | apply below_alloc | apply pw_below_drewN | apply below_drew1) | exact HB.out)⟩⟩
              case rest =>
                clear HC14
                try clear c1
                try clear p2
                try clear q2
                try clear hx2
                try clear c6
                try clear c6b0
                try clear c6b1
                try clear p6
                try clear c7
                try clear c7b0
                try clear c8
                try clear c9
                try clear c9b0
                try clear c10
                try clear c10b0
                try clear c11
                try clear c17
                try clear c17b0
                try clear c17b1
                try clear hx204_0
                try clear p2
                try clear p204
                try clear q204
                obtain ⟨kq, x58_13, rfl, HA, HJ13, HO_6, HO_8, HB⟩ := hcut
                cases kq with
                | zero => exact absurd HA.out (by simp [swagelaw26_ScanClique.j2])
                | succ kj13 =>
                  have H := HA.out
                  clear HA
                  simp only [swagelaw26_ScanClique.j2] at H
                  by_cases c19 : x58_13 = true
                  · subst c19
                    have H1 : (some false) = some r := by rw [if_pos rfl] at H; exact H
                    clear H
                    have H := H1
                    clear H1
                    obtain rfl := Option.some.inj H
                    go_wp2
                    repeat (go_quiet (fail); try go_wp2)
                    go_ret
                    exact ⟨by first | rfl | (simp [errW_none, errW_some] <;> rfl) | (simp [*, errW_none, errW_some] <;> rfl), by repeat (first | (with_reducible first | exact HB.out | apply below_alloc | apply pw_below_drewN | apply below_drew1) | exact HB.out)⟩
                  · replace c19 := Bool.eq_false_iff.mpr c19
                    subst c19
                    have H1 : (swagelaw26_ScanClique.l1 kj13 a1 t203 x6_2 t208 0) = some r := by rw [if_neg (show ¬ (false = true) by decide)] at H; exact H
                    clear H
                    have H := H1
                    clear H1
                    have H' := Aside0.mk H
                    clear H
                    go_wp2
                    repeat (go_quiet (fail); try go_wp2)
                    go_loopg [10] kj13 (fun kq v10 w' => ∃ (x10_4 : Int), v10 = .int .i64 x10_4 ∧ Aside0 (swagelaw26_ScanClique.l1 kq a1 t203 x6_2 t208 x10_4 = some r) ∧ Aside0 (kq ≤ kj13) ∧ Aside0 (Kd.R k38 38 w' w.heap.size (fun _ => True) (.slice Ao15 x6_2.length co15) x6_2) ∧ Aside0 (Kd.R k40 40 w' w.heap.size (fun _ => True) v210 t208) ∧ Aside0 (Below w.heap.size w w'))
                    case atStart => exact ⟨(0), (by first | rfl | (simp; done) | (simp [*]; done)), H', ⟨Nat.le_refl _⟩, ⟨by (with_reducible repeat (first | apply Kd.R_alloc | apply Kd.R_drewN | apply Kd.R_drew)); exact HO_6.out⟩, ⟨by (with_reducible repeat (first | apply Kd.R_alloc | apply Kd.R_drewN | apply Kd.R_drew)); exact HO_8.out⟩, ⟨by repeat (first | (with_reducible first | exact HB.out | apply below_alloc | apply pw_below_drewN | apply below_drew1) | exact HB.out)⟩⟩
                    case round =>
                      clear H'
                      try clear c1
                      try clear p2
                      try clear q2
                      try clear hx2
                      try clear c6
                      try clear c6b0
                      try clear c6b1
                      try clear p6
                      try clear c7
                      try clear c7b0
                      try clear c8
                      try clear c9
                      try clear c9b0
                      try clear c10
                      try clear c10b0
                      try clear c11
                      try clear c17
                      try clear c17b0
                      try clear c17b1
                      try clear c19
                      try clear hx204_0
                      try clear p2
                      try clear p204
                      try clear p6
                      try clear q2
                      try clear q204
                      obtain ⟨x10_4, rfl, HA, HK4, HO_6, HO_8, HB⟩ := hrel
                      cases gk with
                      | zero => exact absurd HA.out (by simp [swagelaw26_ScanClique.l1])
                      | succ k4 =>
                        have H := HA.out
                        clear HA
                        simp only [swagelaw26_ScanClique.l1] at H
                        by_cases c20 : x10_4 < (t208.length : Int)
                        · rw [if_pos c20] at H
                          have c20b0 : decide (x10_4 < (t208.length : Int)) = true := decide_eq_true c20
                          clear c20
                          have H' := Aside0.mk H
                          clear H
                          obtain ⟨Ao21, co21, eo21⟩ := Kd.R_slice HO_8.out
                          subst eo21
                          go_wp2
                          repeat (go_quiet (fail); try go_wp2)
                          go_loopg [11, 12] k4 (fun kq v11 v12 w' => ∃ (x11_5 : Int) (x12_5 : Int), v11 = .int .i64 x11_5 ∧ v12 = .int .i64 x12_5 ∧ Aside0 (swagelaw26_ScanClique.l2 kq a1 t203 x6_2 t208 x10_4 x11_5 x12_5 = some r) ∧ Aside0 (kq ≤ k4) ∧ Aside0 (Kd.R k38 38 w' w.heap.size (fun _ => True) (.slice Ao15 x6_2.length co15) x6_2) ∧ Aside0 (Kd.R k40 40 w' w.heap.size (fun _ => True) (.slice Ao21 t208.length co21) t208) ∧ Aside0 (Below w.heap.size w w'))
                          case atStart => exact ⟨(0), (0), (by first | rfl | (simp; done) | (simp [*]; done)), (by first | rfl | (simp; done) | (simp [*]; done)), H', ⟨Nat.le_refl _⟩, ⟨by (with_reducible repeat (first | apply Kd.R_alloc | apply Kd.R_drewN | apply Kd.R_drew)); exact HO_6.out⟩, ⟨by (with_reducible repeat (first | apply Kd.R_alloc | apply Kd.R_drewN | apply Kd.R_drew)); exact HO_8.out⟩, ⟨by repeat (first | (with_reducible first | exact HB.out | apply below_alloc | apply pw_below_drewN | apply below_drew1) | exact HB.out)⟩⟩
                          case round =>
                            clear H'
                            try clear c1
                            try clear c2
                            try clear p2
                            try clear q2
                            try clear hx2
                            try clear c6
                            try clear c6b0
                            try clear c6b1
                            try clear p6
                            try clear c7
                            try clear c7b0
                            try clear c8
                            try clear c9
                            try clear c9b0
                            try clear c10
                            try clear c10b0
                            try clear c11
                            try clear c17
                            try clear c17b0
                            try clear c17b1
                            try clear c19
                            try clear c20
                            try clear c20b0
                            try clear p20
                            try clear q20
                            try clear hx20
                            try clear hx204_0
                            try clear p2
                            try clear p204
                            try clear p6
                            try clear q2
                            try clear q204
                            obtain ⟨x11_5, x12_5, rfl, rfl, HA, HK5, HO_6, HO_8, HB⟩ := hrel
                            cases gk with
                            | zero => exact absurd HA.out (by simp [swagelaw26_ScanClique.l2])
                            | succ k5 =>
                              have H := HA.out
                              clear HA
                              simp only [swagelaw26_ScanClique.l2] at H
                              by_cases c22 : x12_5 < (x6_2.length : Int)
                              · rw [if_pos c22] at H
                                have c22b0 : decide (x12_5 < (x6_2.length : Int)) = true := decide_eq_true c22
                                clear c22
                                by_cases c23 : 0 ≤ x12_5
                                · rw [if_pos c23] at H
                                  have c23b0 : decide (0 ≤ x12_5) = true := decide_eq_true c23
                                  clear c23
                                  by_cases c24 : 0 ≤ x10_4
                                  · rw [if_pos c24] at H
                                    have c24b0 : decide (0 ≤ x10_4) = true := decide_eq_true c24
                                    clear c24
                                    by_cases c25 : x10_4 < (x6_2.length : Int)
                                    · rw [if_pos c25] at H
                                      have c25b0 : decide (x10_4 < (x6_2.length : Int)) = true := decide_eq_true c25
                                      clear c25
                                      by_cases c26 : ((rd_T38 x6_2 x12_5).f2) < ((rd_T38 x6_2 x10_4).f2)
                                      · rw [if_pos c26] at H
                                        have c26b0 : decide (((rd_T38 x6_2 x12_5).f2) < ((rd_T38 x6_2 x10_4).f2)) = true := decide_eq_true c26
                                        clear c26
                                        have H' := Aside0.mk H
                                        clear H
                                        have p213 : 0 ≤ (x12_5 : Int) := of_decide_eq_true (by first | (with_reducible assumption) | assumption)
                                        have q213 : x12_5 < (x6_2.length : Int) := of_decide_eq_true (by first | (with_reducible assumption) | assumption)
                                        obtain ⟨ad213, e213, hx213_0, hx213_1, hx213_2⟩ := at_T38 (Kd.R_reads' HO_6.out).2.2 x12_5 p213 q213
                                        cases e213
                                        replace p213 := eq_true p213
                                        replace q213 := eq_true q213
                                        have p214 : 0 ≤ (x10_4 : Int) := of_decide_eq_true (by first | (with_reducible assumption) | assumption)
                                        have q214 : x10_4 < (x6_2.length : Int) := of_decide_eq_true (by first | (with_reducible assumption) | assumption)
                                        obtain ⟨ad214, e214, hx214_0, hx214_1, hx214_2⟩ := at_T38 (Kd.R_reads' HO_6.out).2.2 x10_4 p214 q214
                                        obtain rfl : ad213 = ad214 := (by injection e214)
                                        replace p214 := eq_true p214
                                        replace q214 := eq_true q214
                                        go_wp2
                                        repeat (go_quiet (fail); try go_wp2)
                                        go_roundg k5
                                        case measure => have := HJ3.out; have := HK2.out; have := HJ13.out; have := HK4.out; have := HK5.out; omega
                                        case rel => exact ⟨(wrap64 (x11_5 + 1)), (wrap64 (x12_5 + 1)), (by first | rfl | (simp; done) | (simp [*]; done)), (by first | rfl | (simp; done) | (simp [*]; done)), H', ⟨by have := HJ3.out; have := HK2.out; have := HJ13.out; have := HK4.out; have := HK5.out; omega⟩, ⟨by (with_reducible repeat (first | apply Kd.R_alloc | apply Kd.R_drewN | apply Kd.R_drew)); exact HO_6.out⟩, ⟨by (with_reducible repeat (first | apply Kd.R_alloc | apply Kd.R_drewN | apply Kd.R_drew)); exact HO_8.out⟩, ⟨by repeat (first | (with_reducible first | exact HB.out | apply below_alloc | apply pw_below_drewN | apply below_drew1) | exact HB.out)⟩⟩
                                      · rw [if_neg c26] at H
                                        have c26b0 : decide (((rd_T38 x6_2 x12_5).f2) < ((rd_T38 x6_2 x10_4).f2)) = false := decide_eq_false c26
                                        clear c26
                                        by_cases c27 : ((rd_T38 x6_2 x12_5).f2) = ((rd_T38 x6_2 x10_4).f2)
                                        · rw [if_pos c27] at H
                                          have c27b0 : (((rd_T38 x6_2 x12_5).f2) == ((rd_T38 x6_2 x10_4).f2)) = true := beq_iff_eq.mpr c27
                                          have c27b1 : (((rd_T38 x6_2 x12_5).f2) != ((rd_T38 x6_2 x10_4).f2)) = false := bne_eq_false_iff_eq.mpr c27
                                          clear c27
                                          by_cases c28 : x12_5 < x10_4
                                          · rw [if_pos c28] at H
                                            have c28b0 : decide (x12_5 < x10_4) = true := decide_eq_true c28
                                            clear c28
                                            have H' := Aside0.mk H
                                            clear H
                                            have p213 : 0 ≤ (x12_5 : Int) := of_decide_eq_true (by first | (with_reducible assumption) | assumption)
                                            have q213 : x12_5 < (x6_2.length : Int) := of_decide_eq_true (by first | (with_reducible assumption) | assumption)
                                            obtain ⟨ad213, e213, hx213_0, hx213_1, hx213_2⟩ := at_T38 (Kd.R_reads' HO_6.out).2.2 x12_5 p213 q213
                                            cases e213
                                            replace p213 := eq_true p213
                                            replace q213 := eq_true q213
                                            have p214 : 0 ≤ (x10_4 : Int) := of_decide_eq_true (by first | (with_reducible assumption) | assumption)
                                            have q214 : x10_4 < (x6_2.length : Int) := of_decide_eq_true (by first | (with_reducible assumption) | assumption)
                                            obtain ⟨ad214, e214, hx214_0, hx214_1, hx214_2⟩ := at_T38 (Kd.R_reads' HO_6.out).2.2 x10_4 p214 q214
                                            obtain rfl : ad213 = ad214 := (by injection e214)
                                            replace p214 := eq_true p214
                                            replace q214 := eq_true q214
                                            have p215 : 0 ≤ (x12_5 : Int) := of_decide_eq_true (by first | (with_reducible assumption) | assumption)
                                            have q215 : x12_5 < (x6_2.length : Int) := of_decide_eq_true (by first | (with_reducible assumption) | assumption)
                                            obtain ⟨ad215, e215, hx215_0, hx215_1, hx215_2⟩ := at_T38 (Kd.R_reads' HO_6.out).2.2 x12_5 p215 q215
                                            obtain rfl : ad213 = ad215 := (by injection e215)
                                            replace p215 := eq_true p215
                                            replace q215 := eq_true q215
                                            have p216 : 0 ≤ (x10_4 : Int) := of_decide_eq_true (by first | (with_reducible assumption) | assumption)
                                            have q216 : x10_4 < (x6_2.length : Int) := of_decide_eq_true (by first | (with_reducible assumption) | assumption)
                                            obtain ⟨ad216, e216, hx216_0, hx216_1, hx216_2⟩ := at_T38 (Kd.R_reads' HO_6.out).2.2 x10_4 p216 q216
                                            obtain rfl : ad213 = ad216 := (by injection e216)
                                            replace p216 := eq_true p216
                                            replace q216 := eq_true q216
                                            go_wp2
                                            repeat (go_quiet (fail); try go_wp2)
                                            go_roundg k5
                                            case measure => have := HJ3.out; have := HK2.out; have := HJ13.out; have := HK4.out; have := HK5.out; omega
                                            case rel => exact ⟨(wrap64 (x11_5 + 1)), (wrap64 (x12_5 + 1)), (by first | rfl | (simp; done) | (simp [*]; done)), (by first | rfl | (simp; done) | (simp [*]; done)), H', ⟨by have := HJ3.out; have := HK2.out; have := HJ13.out; have := HK4.out; have := HK5.out; omega⟩, ⟨by (with_reducible repeat (first | apply Kd.R_alloc | apply Kd.R_drewN | apply Kd.R_drew)); exact HO_6.out⟩, ⟨by (with_reducible repeat (first | apply Kd.R_alloc | apply Kd.R_drewN | apply Kd.R_drew)); exact HO_8.out⟩, ⟨by repeat (first | (with_reducible first | exact HB.out | apply below_alloc | apply pw_below_drewN | apply below_drew1) | exact HB.out)⟩⟩
                                          · rw [if_neg c28] at H
                                            have c28b0 : decide (x12_5 < x10_4) = false := decide_eq_false c28
                                            clear c28
                                            have H' := Aside0.mk H
                                            clear H
                                            have p213 : 0 ≤ (x12_5 : Int) := of_decide_eq_true (by first | (with_reducible assumption) | assumption)
                                            have q213 : x12_5 < (x6_2.length : Int) := of_decide_eq_true (by first | (with_reducible assumption) | assumption)
                                            obtain ⟨ad213, e213, hx213_0, hx213_1, hx213_2⟩ := at_T38 (Kd.R_reads' HO_6.out).2.2 x12_5 p213 q213
                                            cases e213
                                            replace p213 := eq_true p213
                                            replace q213 := eq_true q213
                                            have p214 : 0 ≤ (x10_4 : Int) := of_decide_eq_true (by first | (with_reducible assumption) | assumption)
                                            have q214 : x10_4 < (x6_2.length : Int) := of_decide_eq_true (by first | (with_reducible assumption) | assumption)
                                            obtain ⟨ad214, e214, hx214_0, hx214_1, hx214_2⟩ := at_T38 (Kd.R_reads' HO_6.out).2.2 x10_4 p214 q214
                                            obtain rfl : ad213 = ad214 := (by injection e214)
                                            replace p214 := eq_true p214
                                            replace q214 := eq_true q214
                                            have p215 : 0 ≤ (x12_5 : Int) := of_decide_eq_true (by first | (with_reducible assumption) | assumption)
                                            have q215 : x12_5 < (x6_2.length : Int) := of_decide_eq_true (by first | (with_reducible assumption) | assumption)
                                            obtain ⟨ad215, e215, hx215_0, hx215_1, hx215_2⟩ := at_T38 (Kd.R_reads' HO_6.out).2.2 x12_5 p215 q215
                                            obtain rfl : ad213 = ad215 := (by injection e215)
                                            replace p215 := eq_true p215
                                            replace q215 := eq_true q215
                                            have p216 : 0 ≤ (x10_4 : Int) := of_decide_eq_true (by first | (with_reducible assumption) | assumption)
                                            have q216 : x10_4 < (x6_2.length : Int) := of_decide_eq_true (by first | (with_reducible assumption) | assumption)
                                            obtain ⟨ad216, e216, hx216_0, hx216_1, hx216_2⟩ := at_T38 (Kd.R_reads' HO_6.out).2.2 x10_4 p216 q216
                                            obtain rfl : ad213 = ad216 := (by injection e216)
                                            replace p216 := eq_true p216
                                            replace q216 := eq_true q216
                                            go_wp2
                                            repeat (go_quiet (fail); try go_wp2)
                                            go_roundg k5
                                            case measure => have := HJ3.out; have := HK2.out; have := HJ13.out; have := HK4.out; have := HK5.out; omega
                                            case rel => exact ⟨(x11_5), (wrap64 (x12_5 + 1)), (by first | rfl | (simp; done) | (simp [*]; done)), (by first | rfl | (simp; done) | (simp [*]; done)), H', ⟨by have := HJ3.out; have := HK2.out; have := HJ13.out; have := HK4.out; have := HK5.out; omega⟩, ⟨by (with_reducible repeat (first | apply Kd.R_alloc | apply Kd.R_drewN | apply Kd.R_drew)); exact HO_6.out⟩, ⟨by (with_reducible repeat (first | apply Kd.R_alloc | apply Kd.R_drewN | apply Kd.R_drew)); exact HO_8.out⟩, ⟨by repeat (first | (with_reducible first | exact HB.out | apply below_alloc | apply pw_below_drewN | apply below_drew1) | exact HB.out)⟩⟩
                                        · rw [if_neg c27] at H
                                          have c27b0 : (((rd_T38 x6_2 x12_5).f2) == ((rd_T38 x6_2 x10_4).f2)) = false := beq_eq_false_iff_ne.mpr c27
                                          have c27b1 : (((rd_T38 x6_2 x12_5).f2) != ((rd_T38 x6_2 x10_4).f2)) = true := bne_iff_ne.mpr c27
                                          have H' := Aside0.mk H
                                          clear H
                                          have p213 : 0 ≤ (x12_5 : Int) := of_decide_eq_true (by first | (with_reducible assumption) | assumption)
                                          have q213 : x12_5 < (x6_2.length : Int) := of_decide_eq_true (by first | (with_reducible assumption) | assumption)
                                          obtain ⟨ad213, e213, hx213_0, hx213_1, hx213_2⟩ := at_T38 (Kd.R_reads' HO_6.out).2.2 x12_5 p213 q213
                                          cases e213
                                          replace p213 := eq_true p213
                                          replace q213 := eq_true q213
                                          have p214 : 0 ≤ (x10_4 : Int) := of_decide_eq_true (by first | (with_reducible assumption) | assumption)
                                          have q214 : x10_4 < (x6_2.length : Int) := of_decide_eq_true (by first | (with_reducible assumption) | assumption)
                                          obtain ⟨ad214, e214, hx214_0, hx214_1, hx214_2⟩ := at_T38 (Kd.R_reads' HO_6.out).2.2 x10_4 p214 q214
                                          obtain rfl : ad213 = ad214 := (by injection e214)
                                          replace p214 := eq_true p214
                                          replace q214 := eq_true q214
                                          have p215 : 0 ≤ (x12_5 : Int) := of_decide_eq_true (by first | (with_reducible assumption) | assumption)
                                          have q215 : x12_5 < (x6_2.length : Int) := of_decide_eq_true (by first | (with_reducible assumption) | assumption)
                                          obtain ⟨ad215, e215, hx215_0, hx215_1, hx215_2⟩ := at_T38 (Kd.R_reads' HO_6.out).2.2 x12_5 p215 q215
                                          obtain rfl : ad213 = ad215 := (by injection e215)
                                          replace p215 := eq_true p215
                                          replace q215 := eq_true q215
                                          have p216 : 0 ≤ (x10_4 : Int) := of_decide_eq_true (by first | (with_reducible assumption) | assumption)
                                          have q216 : x10_4 < (x6_2.length : Int) := of_decide_eq_true (by first | (with_reducible assumption) | assumption)
                                          obtain ⟨ad216, e216, hx216_0, hx216_1, hx216_2⟩ := at_T38 (Kd.R_reads' HO_6.out).2.2 x10_4 p216 q216
                                          obtain rfl : ad213 = ad216 := (by injection e216)
                                          replace p216 := eq_true p216
                                          replace q216 := eq_true q216
                                          go_wp2
                                          repeat (go_quiet (fail); try go_wp2)
                                          go_roundg k5
                                          case measure => have := HJ3.out; have := HK2.out; have := HJ13.out; have := HK4.out; have := HK5.out; omega
                                          case rel => exact ⟨(x11_5), (wrap64 (x12_5 + 1)), (by first | rfl | (simp; done) | (simp [*]; done)), (by first | rfl | (simp; done) | (simp [*]; done)), H', ⟨by have := HJ3.out; have := HK2.out; have := HJ13.out; have := HK4.out; have := HK5.out; omega⟩, ⟨by (with_reducible repeat (first | apply Kd.R_alloc | apply Kd.R_drewN | apply Kd.R_drew)); exact HO_6.out⟩, ⟨by (with_reducible repeat (first | apply Kd.R_alloc | apply Kd.R_drewN | apply Kd.R_drew)); exact HO_8.out⟩, ⟨by repeat (first | (with_reducible first | exact HB.out | apply below_alloc | apply pw_below_drewN | apply below_drew1) | exact HB.out)⟩⟩
                                    · rw [if_neg c25] at H
                                      exact absurd H (by simp)
                                  · rw [if_neg c24] at H
                                    exact absurd H (by simp)
                                · rw [if_neg c23] at H
                                  exact absurd H (by simp)
                              · rw [if_neg c22] at H
                                have c22b0 : decide (x12_5 < (x6_2.length : Int)) = false := decide_eq_false c22
                                clear c22
                                by_cases c29 : 0 ≤ x10_4
                                · rw [if_pos c29] at H
                                  have c29b0 : decide (0 ≤ x10_4) = true := decide_eq_true c29
                                  clear c29
                                  by_cases c30 : x10_4 < (t208.length : Int)
                                  · rw [if_pos c30] at H
                                    have c30b0 : decide (x10_4 < (t208.length : Int)) = true := decide_eq_true c30
                                    clear c30
                                    by_cases c31 : ((((rd_T40 t208 x10_4).f0) == (-1)) != (decide (x11_5 ≥ a1))) = true
                                    · rw [if_pos c31] at H
                                      have c31b0 : ((((rd_T40 t208 x10_4).f0) == (-1)) != (decide (x11_5 ≥ a1))) = true := c31
                                      (try (have c31b1 : decide ((((rd_T40 t208 x10_4).f0) == (-1)) = (decide (x11_5 ≥ a1))) = false := by simpa using c31))
                                      (try (have c31b2 : ((((rd_T40 t208 x10_4).f0) == (-1)) == (decide (x11_5 ≥ a1))) = false := by simpa using c31))
                                      (try (have c31b3 : ¬ ((((rd_T40 t208 x10_4).f0) == (-1)) = (decide (x11_5 ≥ a1))) := by simpa using c31))
                                      clear c31
                                      obtain rfl := Option.some.inj H
                                      have p217 : 0 ≤ (x10_4 : Int) := of_decide_eq_true (by first | (with_reducible assumption) | assumption)
                                      have q217 : x10_4 < (t208.length : Int) := of_decide_eq_true (by first | (with_reducible assumption) | assumption)
                                      obtain ⟨ad217, e217, hx217_0, hx217_1⟩ := at_T40 (Kd.R_reads' HO_8.out).2.2 x10_4 p217 q217
                                      cases e217
                                      replace p217 := eq_true p217
                                      replace q217 := eq_true q217
                                      go_wp2
                                      repeat (go_quiet (fail); try go_wp2)
                                      go_ret
                                      exact ⟨by first | rfl | (simp [errW_none, errW_some] <;> rfl) | (simp [*, errW_none, errW_some] <;> rfl), by repeat (first | (with_reducible first | exact HB.out | apply below_alloc | apply pw_below_drewN | apply below_drew1) | exact HB.out)⟩
                                    · rw [if_neg c31] at H
                                      have c31b0 : ((((rd_T40 t208 x10_4).f0) == (-1)) != (decide (x11_5 ≥ a1))) = false := by simpa using c31
                                      (try (have c31b1 : decide ((((rd_T40 t208 x10_4).f0) == (-1)) = (decide (x11_5 ≥ a1))) = true := by simpa using c31))
                                      (try (have c31b2 : ((((rd_T40 t208 x10_4).f0) == (-1)) == (decide (x11_5 ≥ a1))) = true := by simpa using c31))
                                      clear c31
                                      have H' := Aside0.mk H
                                      clear H
                                      have p217 : 0 ≤ (x10_4 : Int) := of_decide_eq_true (by first | (with_reducible assumption) | assumption)
                                      have q217 : x10_4 < (t208.length : Int) := of_decide_eq_true (by first | (with_reducible assumption) | assumption)
                                      obtain ⟨ad217, e217, hx217_0, hx217_1⟩ := at_T40 (Kd.R_reads' HO_8.out).2.2 x10_4 p217 q217
                                      cases e217
                                      replace p217 := eq_true p217
                                      replace q217 := eq_true q217
                                      go_wp2
                                      repeat (go_quiet (fail); try go_wp2)
                                      go_roundg k5
                                      case measure => have := HJ3.out; have := HK2.out; have := HJ13.out; have := HK4.out; have := HK5.out; omega
                                      case rel => exact ⟨(wrap64 (x10_4 + 1)), (by first | rfl | (simp; done) | (simp [*]; done)), H', ⟨by have := HJ3.out; have := HK2.out; have := HJ13.out; have := HK4.out; have := HK5.out; omega⟩, ⟨by (with_reducible repeat (first | apply Kd.R_alloc | apply Kd.R_drewN | apply Kd.R_drew)); exact HO_6.out⟩, ⟨by (with_reducible repeat (first | apply Kd.R_alloc | apply Kd.R_drewN | apply Kd.R_drew)); exact HO_8.out⟩, ⟨by repeat (first | (with_reducible first | exact HB.out | apply below_alloc | apply pw_below_drewN | apply below_drew1) | exact HB.out)⟩⟩
                                  · rw [if_neg c30] at H
                                    exact absurd H (by simp)
                                · rw [if_neg c29] at H
                                  exact absurd H (by simp)
                        · rw [if_neg c20] at H
                          have c20b0 : decide (x10_4 < (t208.length : Int)) = false := decide_eq_false c20
                          clear c20
                          by_cases c32 : t203 = true
                          · subst c32
                            have H1 : ((scan_Slots.f k4 t208).bind fun t212 => (some (t212 == (mx (wrap64 ((x6_2.length : Int) - a1)) 0)))) = some r := by rw [if_pos rfl] at H; exact H
                            clear H
                            have H := H1
                            clear H1
                            replace H := Option.bind_eq_some_iff.mp H
                            obtain ⟨t212, A330, H⟩ := H
                            replace H : (some (t212 == (mx (wrap64 ((x6_2.length : Int) - a1)) 0))) = some r := H
                            have A33 := Aside0.mk A330
                            clear A330
                            obtain ⟨ji34, hji34⟩ : ∃ j_ : Int, (mx (wrap64 ((x6_2.length : Int) - a1)) 0) = j_ := ⟨_, rfl⟩
                            replace H : (some (t212 == (ji34))) = some r := by first | (rw [hji34] at H; exact H) | (simp only [hji34] at H ⊢; exact H)
                            (try rw [hji34] at A33)
                            have hji34_ : (if (wrap64 ((x6_2.length : Int) - a1)) < 0 then 0 else (wrap64 ((x6_2.length : Int) - a1))) = ji34 := hji34
                            obtain rfl := Option.some.inj H
                            obtain ⟨Ao35, co35, eo35⟩ := Kd.R_slice HO_8.out
                            subst eo35
                            go_wp2_with (first | (go_at_call 18; (with_reducible refine (scan_Slots.calls k4 _ _ t208 t212 _ ?side1 ?side2 A33.out).mono ?_); (case side1 => repeat (first | exact (Kd.R_reads' HO_8.out).2.2 | (with_reducible refine Kd.C_alloc ?_ _) | (with_reducible refine Kd.C_drewN ?_ _) | (with_reducible refine Kd.C_drew ?_))); (case side2 => exact (Kd.R_reads' HO_8.out).2.1); rintro e w36 ⟨rfl, hb⟩; have n0_ := Aside0.mk (Kd.R_below (by (with_reducible repeat (first | apply Kd.R_alloc | apply Kd.R_drewN | apply Kd.R_drew)); exact HO_6.out) hb); have n1_ := Aside0.mk (Kd.R_below (by (with_reducible repeat (first | apply Kd.R_alloc | apply Kd.R_drewN | apply Kd.R_drew)); exact HO_8.out) hb); have n2_ := Aside0.mk (below_step (by repeat (first | (with_reducible first | exact HB.out | apply below_alloc | apply pw_below_drewN | apply below_drew1) | exact HB.out)) hb); clear HO_6; clear HO_8; clear HB; have HO_6 := n0_; have HO_8 := n1_; have HB := n2_; clear n0_ n1_ n2_; (try clear hb); (try clear hb2); (try clear hk); (try clear hi)))
                            repeat (go_quiet (first | (go_at_call 18; (with_reducible refine (scan_Slots.calls k4 _ _ t208 t212 _ ?side1 ?side2 A33.out).mono ?_); (case side1 => repeat (first | exact (Kd.R_reads' HO_8.out).2.2 | (with_reducible refine Kd.C_alloc ?_ _) | (with_reducible refine Kd.C_drewN ?_ _) | (with_reducible refine Kd.C_drew ?_))); (case side2 => exact (Kd.R_reads' HO_8.out).2.1); rintro e w36 ⟨rfl, hb⟩; have n0_ := Aside0.mk (Kd.R_below (by (with_reducible repeat (first | apply Kd.R_alloc | apply Kd.R_drewN | apply Kd.R_drew)); exact HO_6.out) hb); have n1_ := Aside0.mk (Kd.R_below (by (with_reducible repeat (first | apply Kd.R_alloc | apply Kd.R_drewN | apply Kd.R_drew)); exact HO_8.out) hb); have n2_ := Aside0.mk (below_step (by repeat (first | (with_reducible first | exact HB.out | apply below_alloc | apply pw_below_drewN | apply below_drew1) | exact HB.out)) hb); clear HO_6; clear HO_8; clear HB; have HO_6 := n0_; have HO_8 := n1_; have HB := n2_; clear n0_ n1_ n2_; (try clear hb); (try clear hb2); (try clear hk); (try clear hi))); try go_wp2_with (first | (go_at_call 18; (with_reducible refine (scan_Slots.calls k4 _ _ t208 t212 _ ?side1 ?side2 A33.out).mono ?_); (case side1 => repeat (first | exact (Kd.R_reads' HO_8.out).2.2 | (with_reducible refine Kd.C_alloc ?_ _) | (with_reducible refine Kd.C_drewN ?_ _) | (with_reducible refine Kd.C_drew ?_))); (case side2 => exact (Kd.R_reads' HO_8.out).2.1); rintro e w36 ⟨rfl, hb⟩; have n0_ := Aside0.mk (Kd.R_below (by (with_reducible repeat (first | apply Kd.R_alloc | apply Kd.R_drewN | apply Kd.R_drew)); exact HO_6.out) hb); have n1_ := Aside0.mk (Kd.R_below (by (with_reducible repeat (first | apply Kd.R_alloc | apply Kd.R_drewN | apply Kd.R_drew)); exact HO_8.out) hb); have n2_ := Aside0.mk (below_step (by repeat (first | (with_reducible first | exact HB.out | apply below_alloc | apply pw_below_drewN | apply below_drew1) | exact HB.out)) hb); clear HO_6; clear HO_8; clear HB; have HO_6 := n0_; have HO_8 := n1_; have HB := n2_; clear n0_ n1_ n2_; (try clear hb); (try clear hb2); (try clear hk); (try clear hi))))
                            go_ret
                            exact ⟨by first | rfl | (simp [errW_none, errW_some] <;> rfl) | (simp only [← hji34]; first | rfl | (simp [errW_none, errW_some] <;> rfl)) | (simp [*, errW_none, errW_some] <;> rfl), by repeat (first | (with_reducible first | exact HB.out | apply below_alloc | apply pw_below_drewN | apply below_drew1) | exact HB.out)⟩
                          · replace c32 := Bool.eq_false_iff.mpr c32
                            subst c32
                            have H1 : (some false) = some r := by rw [if_neg (show ¬ (false = true) by decide)] at H; exact H
                            clear H
                            have H := H1
                            clear H1
                            obtain rfl := Option.some.inj H
                            obtain ⟨Ao37, co37, eo37⟩ := Kd.R_slice HO_8.out
                            subst eo37
                            go_wp2
                            repeat (go_quiet (fail); try go_wp2)
                            go_ret
                            exact ⟨by first | rfl | (simp [errW_none, errW_some] <;> rfl) | (simp [*, errW_none, errW_some] <;> rfl), by repeat (first | (with_reducible first | exact HB.out | apply below_alloc | apply pw_below_drewN | apply below_drew1) | exact HB.out)⟩

end Go.Proofs.Ytncpgclcbdgndaa.S
