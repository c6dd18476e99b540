-- a text of the seat, by a program
import Derived.Test.YtncpgclcbdgndaaS0
import Derived.Test.YtncpgclcbdgndaaS2
import Derived.Test.YtncpgclcbdgndaaS9
import Derived.Test.YtncpgclcbdgndaaOhomes
import Derived.Test.YtncpgclcbdgndaaOsmall
namespace Go.Proofs.Ytncpgclcbdgndaa.S
open Go.RowKit Go.Proofs.YtncpgclcbdgndaaW.PrintWords Go.Proofs.YtncpgclcbdgndaaW.PrintLast Go.Proofs.YtncpgclcbdgndaaW.PrintMore
attribute [local go_sem] max2_int min2_int max_two min_two max_three min_three max_four min_four   -- for this text's walks alone
set_option linter.unusedVariables false
set_option linter.unusedSimpArgs false

attribute [local go_sem high] eqA40
/-! ### swagelaw26_ScanAlone: function 8 -/
mutual
def swagelaw26_ScanAlone.j0 : Nat → List Int → Int → Bool → Bool → Option (Bool)
  | 0, _, _, _, _ => none
  | k + 1, x0, x1, x5, x24 => if x24 = true then (some x5) else (swagelaw26_ScanAlone.l0 k x0 x1 x5 ([] : List (S38)) 0 0)
def swagelaw26_ScanAlone.l0 : Nat → List Int → Int → Bool → List (S38) → Int → Int → Option (Bool)
  | 0, _, _, _, _, _, _ => none
  | k + 1, x0, x1, x5, x6, x7, x8 => if x8 < (x0.length : Int) then (if 0 ≤ x8 then (if x6.length < 5864062014805 then (swagelaw26_ScanAlone.l0 k x0 x1 x5 (x6 ++ [(⟨wrap64 (x8 + 1), x7, wrap64 (x7 + (Go.bits .and .i64 (rd x0 x8) 63))⟩ : S38)]) (wrap64 ((wrap64 (x7 + (Go.bits .and .i64 (rd x0 x8) 63))) + 1)) (wrap64 (x8 + 1))) else (none)) else (none)) else ((scan_Homes.f x6 x1).bind fun bt247 => (if bt247.2 = 0 then (if (bt247.1.length : Int) = (x6.length : Int) then ((spans_Most.f k x6).bind fun t251 => (swagelaw26_ScanAlone.j2 k x1 x5 bt247.1 (decide (t251 > 1)))) else (swagelaw26_ScanAlone.j2 k x1 x5 bt247.1 true)) else (swagelaw26_ScanAlone.j2 k x1 x5 bt247.1 true)))
def swagelaw26_ScanAlone.j2 : Nat → Int → Bool → List (S40) → Bool → Option (Bool)
  | 0, _, _, _, _ => none
  | k + 1, x1, x5, x10, x68 => if x68 = true then (some false) else (swagelaw26_ScanAlone.l1 k x1 x5 x10 0)
def swagelaw26_ScanAlone.l1 : Nat → Int → Bool → List (S40) → Int → Option (Bool)
  | 0, _, _, _, _ => none
  | k + 1, x1, x5, x10, x12 => if x12 < (x10.length : Int) then (if x1 > 0 then (if 0 ≤ x12 then (if (!(((rd_T40 x10 x12).f0) == 0) || (!(((rd_T40 x10 x12).f1) == 0))) = true then (some false) else (if x1 = 0 then (if (!(((rd_T40 x10 x12).f0) == (-1)) || (!(((rd_T40 x10 x12).f1) == x12))) = true then (some false) else (swagelaw26_ScanAlone.l1 k x1 x5 x10 (wrap64 (x12 + 1)))) else (swagelaw26_ScanAlone.l1 k x1 x5 x10 (wrap64 (x12 + 1))))) else (none)) else (if x1 = 0 then (if 0 ≤ x12 then (if (!(((rd_T40 x10 x12).f0) == (-1)) || (!(((rd_T40 x10 x12).f1) == x12))) = true then (some false) else (swagelaw26_ScanAlone.l1 k x1 x5 x10 (wrap64 (x12 + 1)))) else (none)) else (swagelaw26_ScanAlone.l1 k x1 x5 x10 (wrap64 (x12 + 1))))) else (some x5)
end
def swagelaw26_ScanAlone.f (k : Nat) (l0 : List Int) (a1 : Int) : Option (Bool) := (swagelaw26_small.f).bind fun t242 => (if (l0.length : Int) > 60 then (swagelaw26_ScanAlone.j0 k l0 a1 t242 true) else (if a1 < 0 then (swagelaw26_ScanAlone.j0 k l0 a1 t242 true) else (swagelaw26_ScanAlone.j0 k l0 a1 t242 (decide (a1 > 16)))))
theorem swagelaw26_ScanAlone.mono_l : ∀ k, (∀ y0 y1 y2 y3, LeO (swagelaw26_ScanAlone.j0 k y0 y1 y2 y3) (swagelaw26_ScanAlone.j0 (k + 1) y0 y1 y2 y3)) ∧ (∀ y0 y1 y2 y3 y4 y5, LeO (swagelaw26_ScanAlone.l0 k y0 y1 y2 y3 y4 y5) (swagelaw26_ScanAlone.l0 (k + 1) y0 y1 y2 y3 y4 y5)) ∧ (∀ y0 y1 y2 y3, LeO (swagelaw26_ScanAlone.j2 k y0 y1 y2 y3) (swagelaw26_ScanAlone.j2 (k + 1) y0 y1 y2 y3)) ∧ (∀ y0 y1 y2 y3, LeO (swagelaw26_ScanAlone.l1 k y0 y1 y2 y3) (swagelaw26_ScanAlone.l1 (k + 1) y0 y1 y2 y3))
  | 0 => ⟨fun _ _ _ _ r h => by simp [swagelaw26_ScanAlone.j0] at h, fun _ _ _ _ _ _ r h => by simp [swagelaw26_ScanAlone.l0] at h, fun _ _ _ _ r h => by simp [swagelaw26_ScanAlone.j2] at h, fun _ _ _ _ r h => by simp [swagelaw26_ScanAlone.l1] at h⟩
  | k + 1 => by
    obtain ⟨ih0, ih1, ih2, ih3⟩ := swagelaw26_ScanAlone.mono_l k
    refine ⟨?_, ?_, ?_, ?_⟩
    · intro y0 y1 y2 y3
      unfold swagelaw26_ScanAlone.j0
      repeat' first
      | (with_reducible exact ih0 _ _ _ _)
      | (with_reducible exact ih1 _ _ _ _ _ _)
      | (with_reducible exact ih2 _ _ _ _)
      | (with_reducible exact ih3 _ _ _ _)
      | (with_reducible exact spans_Most.mono _ _)
      | (with_reducible exact LeO.refl _)
      | (with_reducible exact LeO.none _)
      | (with_reducible refine LeO.ite ?_ ?_)
      | (with_reducible refine LeO.bind ?_ (fun _ => ?_))
      | exact ih0 _ _ _ _
      | exact ih1 _ _ _ _ _ _
      | exact ih2 _ _ _ _
      | exact ih3 _ _ _ _
      | exact spans_Most.mono _ _
      | exact LeO.none _
      | refine LeO.ite ?_ ?_
      | refine LeO.bind ?_ (fun _ => ?_)
    · intro y0 y1 y2 y3 y4 y5
      unfold swagelaw26_ScanAlone.l0
      repeat' first
      | (with_reducible exact ih0 _ _ _ _)
      | (with_reducible exact ih1 _ _ _ _ _ _)
      | (with_reducible exact ih2 _ _ _ _)
      | (with_reducible exact ih3 _ _ _ _)
      | (with_reducible exact spans_Most.mono _ _)
      | (with_reducible exact LeO.refl _)
      | (with_reducible exact LeO.none _)
      | (with_reducible refine LeO.ite ?_ ?_)
      | (with_reducible refine LeO.bind ?_ (fun _ => ?_))
      | exact ih0 _ _ _ _
      | exact ih1 _ _ _ _ _ _
      | exact ih2 _ _ _ _
      | exact ih3 _ _ _ _
      | exact spans_Most.mono _ _
      | exact LeO.none _
      | refine LeO.ite ?_ ?_
      | refine LeO.bind ?_ (fun _ => ?_)
    · intro y0 y1 y2 y3
      unfold swagelaw26_ScanAlone.j2
      repeat' first
      | (with_reducible exact ih0 _ _ _ _)
      | (with_reducible exact ih1 _ _ _ _ _ _)
      | (with_reducible exact ih2 _ _ _ _)
      | (with_reducible exact ih3 _ _ _ _)
      | (with_reducible exact spans_Most.mono _ _)
      | (with_reducible exact LeO.refl _)
      | (with_reducible exact LeO.none _)
      | (with_reducible refine LeO.ite ?_ ?_)
      | (with_reducible refine LeO.bind ?_ (fun _ => ?_))
      | exact ih0 _ _ _ _
      | exact ih1 _ _ _ _ _ _
      | exact ih2 _ _ _ _
      | exact ih3 _ _ _ _
      | exact spans_Most.mono _ _
      | exact LeO.none _
      | refine LeO.ite ?_ ?_
      | refine LeO.bind ?_ (fun _ => ?_)
    · intro y0 y1 y2 y3
      unfold swagelaw26_ScanAlone.l1
      repeat' first
      | (with_reducible exact ih0 _ _ _ _)
      | (with_reducible exact ih1 _ _ _ _ _ _)
      | (with_reducible exact ih2 _ _ _ _)
      | (with_reducible exact ih3 _ _ _ _)
      | (with_reducible exact spans_Most.mono _ _)
      | (with_reducible exact LeO.refl _)
      | (with_reducible exact LeO.none _)
      | (with_reducible refine LeO.ite ?_ ?_)
      | (with_reducible refine LeO.bind ?_ (fun _ => ?_))
      | exact ih0 _ _ _ _
      | exact ih1 _ _ _ _ _ _
      | exact ih2 _ _ _ _
      | exact ih3 _ _ _ _
      | exact spans_Most.mono _ _
      | exact LeO.none _
      | refine LeO.ite ?_ ?_
      | refine LeO.bind ?_ (fun _ => ?_)
theorem swagelaw26_ScanAlone.mono : ∀ a0 a1 k, LeO (swagelaw26_ScanAlone.f k a0 a1) (swagelaw26_ScanAlone.f (k + 1) a0 a1) := by
  intro a0 a1 k
  obtain ⟨ih0, ih1, ih2, ih3⟩ := swagelaw26_ScanAlone.mono_l k
  unfold swagelaw26_ScanAlone.f
  repeat' first
      | (with_reducible exact ih0 _ _ _ _)
      | (with_reducible exact ih1 _ _ _ _ _ _)
      | (with_reducible exact ih2 _ _ _ _)
      | (with_reducible exact ih3 _ _ _ _)
      | (with_reducible exact spans_Most.mono _ _)
      | (with_reducible exact LeO.refl _)
      | (with_reducible exact LeO.none _)
      | (with_reducible refine LeO.ite ?_ ?_)
      | (with_reducible refine LeO.bind ?_ (fun _ => ?_))
      | exact ih0 _ _ _ _
      | exact ih1 _ _ _ _ _ _
      | exact ih2 _ _ _ _
      | exact ih3 _ _ _ _
      | exact spans_Most.mono _ _
      | exact LeO.none _
      | refine LeO.ite ?_ ?_
      | refine LeO.bind ?_ (fun _ => ?_)
set_option maxHeartbeats 8000000 in
set_option maxRecDepth 100000 in
theorem swagelaw26_ScanAlone.calls (k : Nat) (A0 : Option Addr) (c0 : Nat) (l0 : List Int) (a1 : Int) (r : Bool) (w : World) (hr0 : Kd.C (Kd.int .i64) w A0 l0.length l0) (hc0 : l0.length ≤ c0) (h : swagelaw26_ScanAlone.f k l0 a1 = some r) :
    Calls Try.prog 8 #[.slice A0 l0.length c0, .int .i64 a1] w fun e w' => e = .returned (.bool r) ∧ Below w.heap.size w w' := by
  have hu38 := Try.underlying38
  have hu40 := Try.underlying40
  have HR0 := Aside0.mk hr0
  have HC0 := Aside0.mk hc0
  clear hr0 hc0
  have HB := Aside0.mk (Below.refl w.heap.size w)
  have H : ((swagelaw26_small.f).bind fun t242 => (if (l0.length : Int) > 60 then (swagelaw26_ScanAlone.j0 k l0 a1 t242 true) else (if a1 < 0 then (swagelaw26_ScanAlone.j0 k l0 a1 t242 true) else (swagelaw26_ScanAlone.j0 k l0 a1 t242 (decide (a1 > 16)))))) = some r := h
  clear h
  replace H := Option.bind_eq_some_iff.mp H
  obtain ⟨t242, A30, H⟩ := H
  replace H : (if (l0.length : Int) > 60 then (swagelaw26_ScanAlone.j0 k l0 a1 t242 true) else (if a1 < 0 then (swagelaw26_ScanAlone.j0 k l0 a1 t242 true) else (swagelaw26_ScanAlone.j0 k l0 a1 t242 (decide (a1 > 16))))) = some r := H
  have A3 := Aside0.mk A30
  clear A30
  have HC4 := Aside0.mk H
  clear H
  go_enter Try.func8, Try.ntmps8
  go_upto_region 2 with (first | ((with_reducible refine gate_callee (f := 9) rfl ?_); refine goesL_ (some 13) rfl rfl Try.func9 (by kernel_rfl) rfl #[] rfl (by (try simp only [List.map_toArray, List.map_cons, List.map_nil]); first | done | rfl | (simp only [List.length_drop, List.length_take]; rfl)) ?_; (with_reducible refine (swagelaw26_small.calls  t242 _ A3.out).mono ?_); rintro e w5 ⟨rfl, hb⟩; refine ⟨_, rfl, ?_⟩; have n0_ := Aside0.mk (below_step (by repeat (first | (with_reducible first | exact HB.out | apply below_alloc | apply pw_below_drewN | apply below_drew1) | exact HB.out)) hb); clear HB; have HB := n0_; clear n0_; (try clear hb); (try clear hb2); (try clear hk); (try clear hi)))
  (try simp only [Act.put, List.setIfInBounds_toArray, List.set_cons_zero, List.set_cons_succ])
  go_cut [24] (fun v24 wc => ∃ (kq : Nat) (x24_3 : Bool), v24 = .bool x24_3 ∧ Aside0 (swagelaw26_ScanAlone.j0 kq l0 a1 t242 x24_3 = some r) ∧ Aside0 (kq ≤ k) ∧ Aside0 (Below w.heap.size w wc))
  case first =>
    have H := HC4.out
    clear HC4
    by_cases c6 : (l0.length : Int) > 60
    · rw [if_pos c6] at H
      have c6b0 : decide (60 < (l0.length : Int)) = true := decide_eq_true c6
      have c6b1 : decide (60 < l0.length) = true := decide_eq_true (by omega)
      clear c6
      (first | rw [c6b0] | (simp only [i64_w, i32_w]; rw [c6b0]) | skip)
      have H' := Aside0.mk H
      clear H
      go_wp2
      go_meet
      case rel => exact ⟨_, (true), (by first | rfl | (simp; done) | (simp [*]; done)), H', ⟨by first | omega | exact Nat.le_refl _⟩, ⟨by repeat (first | (with_reducible first | exact HB.out | apply below_alloc | apply pw_below_drewN | apply below_drew1) | exact HB.out)⟩⟩
    · rw [if_neg c6] at H
      have c6b0 : decide (60 < (l0.length : Int)) = false := decide_eq_false c6
      have c6b1 : decide (60 < l0.length) = false := decide_eq_false (by omega)
      clear c6
      (first | rw [c6b0] | (simp only [i64_w, i32_w]; rw [c6b0]) | skip)
      by_cases c7 : a1 < 0
      · rw [if_pos c7] at H
        have c7b0 : decide (a1 < 0) = true := decide_eq_true c7
        clear c7
        have H' := Aside0.mk H
        clear H
        go_wp2
        go_meet
        case rel => exact ⟨_, (true), (by first | rfl | (simp; done) | (simp [*]; done)), H', ⟨by first | omega | exact Nat.le_refl _⟩, ⟨by repeat (first | (with_reducible first | exact HB.out | apply below_alloc | apply pw_below_drewN | apply below_drew1) | exact HB.out)⟩⟩
      · rw [if_neg c7] at H
        have c7b0 : decide (a1 < 0) = false := decide_eq_false c7
        clear c7
        have H' := Aside0.mk H
        clear H
        go_wp2
        go_meet
        case rel => exact ⟨_, (decide (a1 > 16)), (by first | rfl | (simp; done) | (simp [*]; done)), H', ⟨by first | omega | exact Nat.le_refl _⟩, ⟨by repeat (first | (with_reducible first | exact HB.out | apply below_alloc | apply pw_below_drewN | apply below_drew1) | exact HB.out)⟩⟩
  case rest =>
    clear HC4
    try clear p2
    try clear c6
    try clear c6b0
    try clear c6b1
    try clear c7
    try clear c7b0
    obtain ⟨kq, x24_3, rfl, HA, HJ3, HB⟩ := hcut
    cases kq with
    | zero => exact absurd HA.out (by simp [swagelaw26_ScanAlone.j0])
    | succ kj3 =>
      have H := HA.out
      clear HA
      simp only [swagelaw26_ScanAlone.j0] at H
      by_cases c8 : x24_3 = true
      · subst c8
        have H1 : (some t242) = some r := by rw [if_pos rfl] at H; exact H
        clear H
        have H := H1
        clear H1
        obtain rfl := Option.some.inj H
        go_wp2
        go_ret
        exact ⟨by first | rfl | (simp [errW_none, errW_some] <;> rfl) | (simp [*, errW_none, errW_some] <;> rfl), by repeat (first | (with_reducible first | exact HB.out | apply below_alloc | apply pw_below_drewN | apply below_drew1) | exact HB.out)⟩
      · replace c8 := Bool.eq_false_iff.mpr c8
        subst c8
        have H1 : (swagelaw26_ScanAlone.l0 kj3 l0 a1 t242 ([] : List (S38)) 0 0) = some r := by rw [if_neg (show ¬ (false = true) by decide)] at H; exact H
        clear H
        have H := H1
        clear H1
        have H' := Aside0.mk H
        clear H
        go_wp2
        go_loopg [6, 7, 8] kj3 (fun kq v6 v7 v8 w' => ∃ (x6_2 : List (S38)) (x7_2 : Int) (x8_2 : Int), v7 = .int .i64 x7_2 ∧ v8 = .int .i64 x8_2 ∧ Aside0 (swagelaw26_ScanAlone.l0 kq l0 a1 t242 x6_2 x7_2 x8_2 = some r) ∧ Aside0 (kq ≤ kj3) ∧ Aside0 (Kd.R k38 38 w' w.heap.size (fun _ => True) v6 x6_2) ∧ Aside0 (Below w.heap.size w w'))
        case atStart => exact ⟨(([] : List (S38))), (0), (0), (by first | rfl | (simp; done) | (simp [*]; done)), (by first | rfl | (simp; done) | (simp [*]; done)), H', ⟨Nat.le_refl _⟩, ⟨by first | exact Kd.R_nil _ _ _ _ _ | exact Kd.N_nil _ _ _ _ _ | exact Kd.V_nil _ _ _ _ _ | exact Kd.Q_nil _ _ _ _ _ | exact Kd.S_nil _ _ _ _ _⟩, ⟨by repeat (first | (with_reducible first | exact HB.out | apply below_alloc | apply pw_below_drewN | apply below_drew1) | exact HB.out)⟩⟩
        case round =>
          clear H'
          try clear p2
          try clear c6
          try clear c6b0
          try clear c6b1
          try clear c7
          try clear c7b0
          try clear c8
          try clear p2
          obtain ⟨x6_2, x7_2, x8_2, rfl, rfl, HA, HK2, HO_6, HB⟩ := hrel
          cases gk with
          | zero => exact absurd HA.out (by simp [swagelaw26_ScanAlone.l0])
          | succ k2 =>
            have H := HA.out
            clear HA
            simp only [swagelaw26_ScanAlone.l0] at H
            by_cases c9 : x8_2 < (l0.length : Int)
            · rw [if_pos c9] at H
              have c9b0 : decide (x8_2 < (l0.length : Int)) = true := decide_eq_true c9
              clear c9
              by_cases c10 : 0 ≤ x8_2
              · rw [if_pos c10] at H
                have c10b0 : decide (0 ≤ x8_2) = true := decide_eq_true c10
                clear c10
                by_cases c11 : x6_2.length < 5864062014805
                · rw [if_pos c11] at H
                  have LMc11 := Aside0.mk c11
                  clear c11
                  obtain ⟨y244, hy244⟩ : ∃ y_ : List (S38), y_ = (x6_2 ++ [(⟨wrap64 (x8_2 + 1), x7_2, wrap64 (x7_2 + (Go.bits .and .i64 (rd l0 x8_2) 63))⟩ : S38)]) := ⟨_, rfl⟩
                  replace H : (swagelaw26_ScanAlone.l0 k2 l0 a1 t242 y244 (wrap64 ((wrap64 (x7_2 + (Go.bits .and .i64 (rd l0 x8_2) 63))) + 1)) (wrap64 (x8_2 + 1))) = some r := by first | (rw [hy244]; with_reducible exact H) | (have H2_ := (Option.bind_some _ _).symm.trans H; rw [hy244]; with_reducible exact H2_) | (have H2_ := (Option.bind_some _ _).symm.trans H; with_reducible exact H2_) | with_reducible exact H | (rw [hy244]; exact H) | exact H
                  have Ny244 := Aside0.mk hy244
                  clear hy244
                  have H' := Aside0.mk H
                  clear H
                  have p243 : 0 ≤ (x8_2 : Int) := of_decide_eq_true (by first | (with_reducible assumption) | assumption)
                  have q243 : x8_2 < (l0.length : Int) := of_decide_eq_true (by first | (with_reducible assumption) | assumption)
                  obtain ⟨ad243, e243, hx243_0⟩ := Kd.at_int HR0.out x8_2 p243 q243
                  cases e243
                  replace hx243_0 := (HB.out.cell (World.block_lt_of_cell? w _ hx243_0)).trans hx243_0
                  replace p243 := eq_true p243
                  replace q243 := eq_true q243
                  go_wp2_with (first | ((with_reducible refine gate_builtin (b := .append) (xs := #[.tmp 39, .tmp 45]) rfl ?_); (try (refine gate_guard (by rfl) ?_; dsimp only)); at_builtin; refine Kd.R_append k38 (w0 := w) w.heap.size rfl (.tmp 39) (.tmp 45) 22 38 (.agg #[(.int .i64 0), (.int .i64 0), (.int .i64 0)]) 24 rfl Try.underlying22 info38 rfl (by decide) (by omega) u6 x6_2 (⟨wrap64 (x8_2 + 1), x7_2, wrap64 (x7_2 + (Go.bits .and .i64 (rd l0 x8_2) 63))⟩ : S38) [.int .i64 (wrap64 (x8_2 + 1)), .int .i64 x7_2, .int .i64 (wrap64 (x7_2 + (Go.bits .and .i64 (rd l0 x8_2) 63)))] (fun _ => True) (fun _ => False) rfl rfl ?aP (fun _ hk => hk.elim) ?aF ?aO ?aB ?aS ?aL ?_; (case aP => exact k38_mkM _ _ _ (⟨wrap64 (x8_2 + 1), x7_2, wrap64 (x7_2 + (Go.bits .and .i64 (rd l0 x8_2) 63))⟩ : S38)); (case aB => exact (by repeat (first | (with_reducible first | exact HB.out | apply below_alloc | apply pw_below_drewN | apply below_drew1) | exact HB.out))); (case aF => exact (fun _ _ => trivial)); (case aO => exact (by (with_reducible repeat (first | apply Kd.R_alloc | apply Kd.R_drewN | apply Kd.R_drew)); exact HO_6.out)); (case aS => exact (below_size (by repeat (first | (with_reducible first | exact HB.out | apply below_alloc | apply pw_below_drewN | apply below_drew1) | exact HB.out)))); (case aL => have := LMc11.out; omega); intro v245 w12 ho hb hg hat; rw [← Ny244.out] at ho; have n0_ := Aside0.mk (hb); have n1_ := Aside0.mk (ho); clear HB; clear HO_6; have HB := n0_; have HO246 := n1_; clear n0_ n1_; clear ho hb hg hat))
                  go_roundg k2
                  case measure => have := HJ3.out; have := HK2.out; omega
                  case rel => exact ⟨(y244), (wrap64 ((wrap64 (x7_2 + (Go.bits .and .i64 (rd l0 x8_2) 63))) + 1)), (wrap64 (x8_2 + 1)), (by first | rfl | (simp; done) | (simp [*]; done)), (by first | rfl | (simp; done) | (simp [*]; done)), H', ⟨by have := HJ3.out; have := HK2.out; omega⟩, ⟨by (with_reducible repeat (first | apply Kd.R_alloc | apply Kd.R_drewN | apply Kd.R_drew)); exact HO246.out⟩, ⟨by repeat (first | (with_reducible first | exact HB.out | apply below_alloc | apply pw_below_drewN | apply below_drew1) | exact HB.out)⟩⟩
                · rw [if_neg c11] at H
                  exact absurd H (by simp)
              · rw [if_neg c10] at H
                exact absurd H (by simp)
            · rw [if_neg c9] at H
              have c9b0 : decide (x8_2 < (l0.length : Int)) = false := decide_eq_false c9
              clear c9
              replace H := Option.bind_eq_some_iff.mp H
              obtain ⟨⟨t247, t248⟩, A130, H⟩ := H
              replace H : (if t248 = 0 then (if (t247.length : Int) = (x6_2.length : Int) then ((spans_Most.f k2 x6_2).bind fun t251 => (swagelaw26_ScanAlone.j2 k2 a1 t242 t247 (decide (t251 > 1)))) else (swagelaw26_ScanAlone.j2 k2 a1 t242 t247 true)) else (swagelaw26_ScanAlone.j2 k2 a1 t242 t247 true)) = some r := H
              have A13 := Aside0.mk A130
              clear A130
              have HC14 := Aside0.mk H
              clear H
              obtain ⟨Ao15, co15, eo15⟩ := Kd.R_slice HO_6.out
              subst eo15
              go_upto_region 13 with (first | ((with_reducible refine gate_callee (f := 10) rfl ?_); refine goesL_ (some 52) rfl rfl Try.func10 (by kernel_rfl) rfl #[.slice Ao15 x6_2.length co15, .int .i64 a1] rfl (by (try simp only [List.map_toArray, List.map_cons, List.map_nil]); first | done | rfl | (simp only [List.length_drop, List.length_take]; rfl)) ?_; (with_reducible refine (scan_Homes.calls _ _ x6_2 a1 t247 t248 _ ?side1 ?side2 A13.out).mono ?_); (case side1 => repeat (first | exact (Kd.R_reads' HO_6.out).2.2 | (with_reducible refine Kd.C_alloc ?_ _) | (with_reducible refine Kd.C_drewN ?_ _) | (with_reducible refine Kd.C_drew ?_))); (case side2 => exact (Kd.R_reads' HO_6.out).2.1); rintro e w16 ⟨v249, rfl, ho0, hb⟩; refine ⟨_, rfl, ?_⟩; have n0_ := Aside0.mk (Kd.R_below (by (with_reducible repeat (first | apply Kd.R_alloc | apply Kd.R_drewN | apply Kd.R_drew)); exact HO_6.out) hb); have n1_ := Aside0.mk (Kd.R_lower ho0 (below_size (by repeat (first | (with_reducible first | exact HB.out | apply below_alloc | apply pw_below_drewN | apply below_drew1) | exact HB.out)))); have n2_ := Aside0.mk (below_step (by repeat (first | (with_reducible first | exact HB.out | apply below_alloc | apply pw_below_drewN | apply below_drew1) | exact HB.out)) hb); clear HO_6; clear HB; have HO_6 := n0_; have HO250 := n1_; have HB := n2_; clear n0_ n1_ n2_; (try clear hb); (try clear hb2); (try clear hk); (try clear hi); (try clear ho0)))
              (try simp only [Act.put, List.setIfInBounds_toArray, List.set_cons_zero, List.set_cons_succ])
              go_cut [68] (fun v68 wc => ∃ (kq : Nat) (x68_13 : Bool), v68 = .bool x68_13 ∧ Aside0 (swagelaw26_ScanAlone.j2 kq a1 t242 t247 x68_13 = some r) ∧ Aside0 (kq ≤ k2) ∧ Aside0 (Kd.R k40 40 wc w.heap.size (fun _ => True) v249 t247) ∧ Aside0 (Below w.heap.size w wc))
              case first =>
                have H := HC14.out
                clear HC14
                by_cases c17 : t248 = 0
                · rw [if_pos c17] at H
                  have c17b0 : (t248 == 0) = true := beq_iff_eq.mpr c17
                  have c17b1 : (t248 != 0) = false := bne_eq_false_iff_eq.mpr c17
                  clear c17
                  (first | rw [c17b0] | (simp only [i64_w, i32_w]; rw [c17b0]) | skip)
                  by_cases c18 : (t247.length : Int) = (x6_2.length : Int)
                  · rw [if_pos c18] at H
                    have c18b0 : ((t247.length : Int) == (x6_2.length : Int)) = true := beq_iff_eq.mpr c18
                    have c18b1 : ((t247.length : Int) != (x6_2.length : Int)) = false := bne_eq_false_iff_eq.mpr c18
                    have c18b2 : (t247.length == x6_2.length) = true := by first | simpa using c18 | (simp at c18 ⊢; omega)
                    clear c18
                    replace H := Option.bind_eq_some_iff.mp H
                    obtain ⟨t251, A190, H⟩ := H
                    replace H : (swagelaw26_ScanAlone.j2 k2 a1 t242 t247 (decide (t251 > 1))) = some r := H
                    have A19 := Aside0.mk A190
                    clear A190
                    have H' := Aside0.mk H
                    clear H
                    obtain ⟨Ao20, co20, eo20⟩ := Kd.R_slice HO250.out
                    subst eo20
                    go_wp2_with (first | (go_at_call 23; (with_reducible refine (spans_Most.calls k2 _ _ x6_2 t251 _ ?side1 ?side2 A19.out).mono ?_); (case side1 => repeat (first | exact (Kd.R_reads' HO_6.out).2.2 | (with_reducible refine Kd.C_alloc ?_ _) | (with_reducible refine Kd.C_drewN ?_ _) | (with_reducible refine Kd.C_drew ?_))); (case side2 => exact (Kd.R_reads' HO_6.out).2.1); rintro e w21 ⟨rfl, hb⟩; have n0_ := Aside0.mk (Kd.R_below (by (with_reducible repeat (first | apply Kd.R_alloc | apply Kd.R_drewN | apply Kd.R_drew)); exact HO_6.out) hb); have n1_ := Aside0.mk (Kd.R_below (by (with_reducible repeat (first | apply Kd.R_alloc | apply Kd.R_drewN | apply Kd.R_drew)); exact HO250.out) hb); have n2_ := Aside0.mk (below_step (by repeat (first | (with_reducible first | exact HB.out | apply below_alloc | apply pw_below_drewN | apply below_drew1) | exact HB.out)) hb); clear HO_6; clear HO250; clear HB; have HO_6 := n0_; have HO250 := n1_; have HB := n2_; clear n0_ n1_ n2_; (try clear hb); (try clear hb2); (try clear hk); (try clear hi)))
                    go_meet
                    case rel => exact ⟨_, (decide (t251 > 1)), (by first | rfl | (simp; done) | (simp [*]; done)), H', ⟨by have := HJ3.out; have := HK2.out; first | omega | exact Nat.le_refl _⟩, ⟨by (with_reducible repeat (first | apply Kd.R_alloc | apply Kd.R_drewN | apply Kd.R_drew)); exact HO250.out⟩, ⟨by repeat (first | (with_reducible first | exact HB.out | apply below_alloc | apply pw_below_drewN | apply below_drew1) | exact HB.out)⟩⟩
                  · rw [if_neg c18] at H
                    have c18b0 : ((t247.length : Int) == (x6_2.length : Int)) = false := beq_eq_false_iff_ne.mpr c18
                    have c18b1 : ((t247.length : Int) != (x6_2.length : Int)) = true := bne_iff_ne.mpr c18
                    have c18b2 : (t247.length == x6_2.length) = false := by first | simpa using c18 | (simp at c18 ⊢; omega)
                    have H' := Aside0.mk H
                    clear H
                    obtain ⟨Ao22, co22, eo22⟩ := Kd.R_slice HO250.out
                    subst eo22
                    go_wp2
                    go_meet
                    case rel => exact ⟨_, (true), (by first | rfl | (simp; done) | (simp [*]; done)), H', ⟨by have := HJ3.out; have := HK2.out; first | omega | exact Nat.le_refl _⟩, ⟨by (with_reducible repeat (first | apply Kd.R_alloc | apply Kd.R_drewN | apply Kd.R_drew)); exact HO250.out⟩, ⟨by repeat (first | (with_reducible first | exact HB.out | apply below_alloc | apply pw_below_drewN | apply below_drew1) | exact HB.out)⟩⟩
                · rw [if_neg c17] at H
                  have c17b0 : (t248 == 0) = false := beq_eq_false_iff_ne.mpr c17
                  have c17b1 : (t248 != 0) = true := bne_iff_ne.mpr c17
                  (first | rw [c17b0] | (simp only [i64_w, i32_w]; rw [c17b0]) | skip)
                  have H' := Aside0.mk H
                  clear H
                  go_wp2
                  go_meet
                  case rel => exact ⟨_, (true), (by first | rfl | (simp; done) | (simp [*]; done)), H', ⟨by have := HJ3.out; have := HK2.out; first | omega | exact Nat.le_refl _⟩, ⟨by (with_reducible repeat (first | apply Kd.R_alloc | apply Kd.R_drewN | apply Kd.R_drew)); exact HO250.out⟩, ⟨by repeat (first | (with_reducible first | exact HB.out | apply below_alloc | apply pw_below_drewN | apply below_drew1) | exact HB.out)⟩⟩
              case rest =>
                clear HC14
                try clear c1
                try clear p2
                try clear q2
                try clear hx2
                try clear c6
                try clear c6b0
                try clear c6b1
                try clear p6
                try clear c7
                try clear c7b0
                try clear c8
                try clear c9
                try clear c9b0
                try clear c10
                try clear c10b0
                try clear c11
                try clear c17
                try clear c17b0
                try clear c17b1
                try clear c18
                try clear c18b0
                try clear c18b1
                try clear c18b2
                try clear hx243_0
                try clear p2
                try clear p243
                try clear q243
                obtain ⟨kq, x68_13, rfl, HA, HJ13, HO_10, HB⟩ := hcut
                cases kq with
                | zero => exact absurd HA.out (by simp [swagelaw26_ScanAlone.j2])
                | succ kj13 =>
                  have H := HA.out
                  clear HA
                  simp only [swagelaw26_ScanAlone.j2] at H
                  by_cases c23 : x68_13 = true
                  · subst c23
                    have H1 : (some false) = some r := by rw [if_pos rfl] at H; exact H
                    clear H
                    have H := H1
                    clear H1
                    obtain rfl := Option.some.inj H
                    go_wp2
                    go_ret
                    exact ⟨by first | rfl | (simp [errW_none, errW_some] <;> rfl) | (simp [*, errW_none, errW_some] <;> rfl), by repeat (first | (with_reducible first | exact HB.out | apply below_alloc | apply pw_below_drewN | apply below_drew1) | exact HB.out)⟩
                  · replace c23 := Bool.eq_false_iff.mpr c23
                    subst c23
                    have H1 : (swagelaw26_ScanAlone.l1 kj13 a1 t242 t247 0) = some r := by rw [if_neg (show ¬ (false = true) by decide)] at H; exact H
                    clear H
                    have H := H1
                    clear H1
                    have H' := Aside0.mk H
                    clear H
                    go_wp2
                    go_loopg [12] kj13 (fun kq v12 w' => ∃ (x12_4 : Int), v12 = .int .i64 x12_4 ∧ Aside0 (swagelaw26_ScanAlone.l1 kq a1 t242 t247 x12_4 = some r) ∧ Aside0 (kq ≤ kj13) ∧ Aside0 (Kd.R k40 40 w' w.heap.size (fun _ => True) v249 t247) ∧ Aside0 (Below w.heap.size w w'))
                    case atStart => exact ⟨(0), (by first | rfl | (simp; done) | (simp [*]; done)), H', ⟨Nat.le_refl _⟩, ⟨by (with_reducible repeat (first | apply Kd.R_alloc | apply Kd.R_drewN | apply Kd.R_drew)); exact HO_10.out⟩, ⟨by repeat (first | (with_reducible first | exact HB.out | apply below_alloc | apply pw_below_drewN | apply below_drew1) | exact HB.out)⟩⟩
                    case round =>
                      clear H'
                      try clear c1
                      try clear c2
                      try clear p2
                      try clear q2
                      try clear hx2
                      try clear c6
                      try clear c6b0
                      try clear c6b1
                      try clear p6
                      try clear c7
                      try clear c7b0
                      try clear c8
                      try clear c9
                      try clear c9b0
                      try clear c10
                      try clear c10b0
                      try clear c11
                      try clear c17
                      try clear c17b0
                      try clear c17b1
                      try clear c18
                      try clear c18b0
                      try clear c18b1
                      try clear c18b2
                      try clear c23
                      try clear hx243_0
                      try clear p2
                      try clear p243
                      try clear p6
                      try clear q2
                      try clear q243
                      obtain ⟨x12_4, rfl, HA, HK4, HO_10, HB⟩ := hrel
                      cases gk with
                      | zero => exact absurd HA.out (by simp [swagelaw26_ScanAlone.l1])
                      | succ k4 =>
                        have H := HA.out
                        clear HA
                        simp only [swagelaw26_ScanAlone.l1] at H
                        by_cases c24 : x12_4 < (t247.length : Int)
                        · rw [if_pos c24] at H
                          have c24b0 : decide (x12_4 < (t247.length : Int)) = true := decide_eq_true c24
                          clear c24
                          by_cases c25 : a1 > 0
                          · rw [if_pos c25] at H
                            have c25b0 : decide (0 < a1) = true := decide_eq_true c25
                            clear c25
                            by_cases c26 : 0 ≤ x12_4
                            · rw [if_pos c26] at H
                              have c26b0 : decide (0 ≤ x12_4) = true := decide_eq_true c26
                              clear c26
                              by_cases c27 : (!(((rd_T40 t247 x12_4).f0) == 0) || (!(((rd_T40 t247 x12_4).f1) == 0))) = true
                              · rw [if_pos c27] at H
                                have c27b0 : (!(((rd_T40 t247 x12_4).f0) == 0) || (!(((rd_T40 t247 x12_4).f1) == 0))) = true := c27
                                clear c27
                                obtain rfl := Option.some.inj H
                                obtain ⟨Ao28, co28, eo28⟩ := Kd.R_slice HO_10.out
                                subst eo28
                                have p252 : 0 ≤ (x12_4 : Int) := of_decide_eq_true (by first | (with_reducible assumption) | assumption)
                                have q252 : x12_4 < (t247.length : Int) := of_decide_eq_true (by first | (with_reducible assumption) | assumption)
                                obtain ⟨ad252, e252, hx252_0, hx252_1⟩ := at_T40 (Kd.R_reads' HO_10.out).2.2 x12_4 p252 q252
                                cases e252
                                replace p252 := eq_true p252
                                replace q252 := eq_true q252
                                go_wp2
                                go_ret
                                exact ⟨by first | rfl | (simp [errW_none, errW_some] <;> rfl) | (simp [*, errW_none, errW_some] <;> rfl), by repeat (first | (with_reducible first | exact HB.out | apply below_alloc | apply pw_below_drewN | apply below_drew1) | exact HB.out)⟩
                              · rw [if_neg c27] at H
                                have c27b0 : (!(((rd_T40 t247 x12_4).f0) == 0) || (!(((rd_T40 t247 x12_4).f1) == 0))) = false := by simpa using c27
                                clear c27
                                by_cases c29 : a1 = 0
                                · rw [if_pos c29] at H
                                  have c29b0 : (a1 == 0) = true := beq_iff_eq.mpr c29
                                  have c29b1 : (a1 != 0) = false := bne_eq_false_iff_eq.mpr c29
                                  clear c29
                                  by_cases c30 : (!(((rd_T40 t247 x12_4).f0) == (-1)) || (!(((rd_T40 t247 x12_4).f1) == x12_4))) = true
                                  · rw [if_pos c30] at H
                                    have c30b0 : (!(((rd_T40 t247 x12_4).f0) == (-1)) || (!(((rd_T40 t247 x12_4).f1) == x12_4))) = true := c30
                                    clear c30
                                    obtain rfl := Option.some.inj H
                                    obtain ⟨Ao31, co31, eo31⟩ := Kd.R_slice HO_10.out
                                    subst eo31
                                    have p252 : 0 ≤ (x12_4 : Int) := of_decide_eq_true (by first | (with_reducible assumption) | assumption)
                                    have q252 : x12_4 < (t247.length : Int) := of_decide_eq_true (by first | (with_reducible assumption) | assumption)
                                    obtain ⟨ad252, e252, hx252_0, hx252_1⟩ := at_T40 (Kd.R_reads' HO_10.out).2.2 x12_4 p252 q252
                                    cases e252
                                    replace p252 := eq_true p252
                                    replace q252 := eq_true q252
                                    have p253 : 0 ≤ (x12_4 : Int) := of_decide_eq_true (by first | (with_reducible assumption) | assumption)
                                    have q253 : x12_4 < (t247.length : Int) := of_decide_eq_true (by first | (with_reducible assumption) | assumption)
                                    obtain ⟨ad253, e253, hx253_0, hx253_1⟩ := at_T40 (Kd.R_reads' HO_10.out).2.2 x12_4 p253 q253
                                    obtain rfl : ad252 = ad253 := (by injection e253)
                                    replace p253 := eq_true p253
                                    replace q253 := eq_true q253
                                    go_wp2
                                    go_ret
                                    exact ⟨by first | rfl | (simp [errW_none, errW_some] <;> rfl) | (simp [*, errW_none, errW_some] <;> rfl), by repeat (first | (with_reducible first | exact HB.out | apply below_alloc | apply pw_below_drewN | apply below_drew1) | exact HB.out)⟩
                                  · rw [if_neg c30] at H
                                    have c30b0 : (!(((rd_T40 t247 x12_4).f0) == (-1)) || (!(((rd_T40 t247 x12_4).f1) == x12_4))) = false := by simpa using c30
                                    clear c30
                                    have H' := Aside0.mk H
                                    clear H
                                    obtain ⟨Ao32, co32, eo32⟩ := Kd.R_slice HO_10.out
                                    subst eo32
                                    have p252 : 0 ≤ (x12_4 : Int) := of_decide_eq_true (by first | (with_reducible assumption) | assumption)
                                    have q252 : x12_4 < (t247.length : Int) := of_decide_eq_true (by first | (with_reducible assumption) | assumption)
                                    obtain ⟨ad252, e252, hx252_0, hx252_1⟩ := at_T40 (Kd.R_reads' HO_10.out).2.2 x12_4 p252 q252
                                    cases e252
                                    replace p252 := eq_true p252
                                    replace q252 := eq_true q252
                                    have p253 : 0 ≤ (x12_4 : Int) := of_decide_eq_true (by first | (with_reducible assumption) | assumption)
                                    have q253 : x12_4 < (t247.length : Int) := of_decide_eq_true (by first | (with_reducible assumption) | assumption)
                                    obtain ⟨ad253, e253, hx253_0, hx253_1⟩ := at_T40 (Kd.R_reads' HO_10.out).2.2 x12_4 p253 q253
                                    obtain rfl : ad252 = ad253 := (by injection e253)
                                    replace p253 := eq_true p253
                                    replace q253 := eq_true q253
                                    go_wp2
                                    go_roundg k4
                                    case measure => have := HJ3.out; have := HK2.out; have := HJ13.out; have := HK4.out; omega
                                    case rel => exact ⟨(wrap64 (x12_4 + 1)), (by first | rfl | (simp; done) | (simp [*]; done)), H', ⟨by have := HJ3.out; have := HK2.out; have := HJ13.out; have := HK4.out; omega⟩, ⟨by (with_reducible repeat (first | apply Kd.R_alloc | apply Kd.R_drewN | apply Kd.R_drew)); exact HO_10.out⟩, ⟨by repeat (first | (with_reducible first | exact HB.out | apply below_alloc | apply pw_below_drewN | apply below_drew1) | exact HB.out)⟩⟩
                                · rw [if_neg c29] at H
                                  have c29b0 : (a1 == 0) = false := beq_eq_false_iff_ne.mpr c29
                                  have c29b1 : (a1 != 0) = true := bne_iff_ne.mpr c29
                                  have H' := Aside0.mk H
                                  clear H
                                  obtain ⟨Ao33, co33, eo33⟩ := Kd.R_slice HO_10.out
                                  subst eo33
                                  have p252 : 0 ≤ (x12_4 : Int) := of_decide_eq_true (by first | (with_reducible assumption) | assumption)
                                  have q252 : x12_4 < (t247.length : Int) := of_decide_eq_true (by first | (with_reducible assumption) | assumption)
                                  obtain ⟨ad252, e252, hx252_0, hx252_1⟩ := at_T40 (Kd.R_reads' HO_10.out).2.2 x12_4 p252 q252
                                  cases e252
                                  replace p252 := eq_true p252
                                  replace q252 := eq_true q252
                                  go_wp2
                                  go_roundg k4
                                  case measure => have := HJ3.out; have := HK2.out; have := HJ13.out; have := HK4.out; omega
                                  case rel => exact ⟨(wrap64 (x12_4 + 1)), (by first | rfl | (simp; done) | (simp [*]; done)), H', ⟨by have := HJ3.out; have := HK2.out; have := HJ13.out; have := HK4.out; omega⟩, ⟨by (with_reducible repeat (first | apply Kd.R_alloc | apply Kd.R_drewN | apply Kd.R_drew)); exact HO_10.out⟩, ⟨by repeat (first | (with_reducible first | exact HB.out | apply below_alloc | apply pw_below_drewN | apply below_drew1) | exact HB.out)⟩⟩
                            · rw [if_neg c26] at H
                              exact absurd H (by simp)
                          · rw [if_neg c25] at H
                            have c25b0 : decide (0 < a1) = false := decide_eq_false c25
                            clear c25
                            by_cases c34 : a1 = 0
                            · rw [if_pos c34] at H
                              have c34b0 : (a1 == 0) = true := beq_iff_eq.mpr c34
                              have c34b1 : (a1 != 0) = false := bne_eq_false_iff_eq.mpr c34
                              clear c34
                              by_cases c35 : 0 ≤ x12_4
                              · rw [if_pos c35] at H
                                have c35b0 : decide (0 ≤ x12_4) = true := decide_eq_true c35
                                clear c35
                                by_cases c36 : (!(((rd_T40 t247 x12_4).f0) == (-1)) || (!(((rd_T40 t247 x12_4).f1) == x12_4))) = true
                                · rw [if_pos c36] at H
                                  have c36b0 : (!(((rd_T40 t247 x12_4).f0) == (-1)) || (!(((rd_T40 t247 x12_4).f1) == x12_4))) = true := c36
                                  clear c36
                                  obtain rfl := Option.some.inj H
                                  obtain ⟨Ao37, co37, eo37⟩ := Kd.R_slice HO_10.out
                                  subst eo37
                                  have p254 : 0 ≤ (x12_4 : Int) := of_decide_eq_true (by first | (with_reducible assumption) | assumption)
                                  have q254 : x12_4 < (t247.length : Int) := of_decide_eq_true (by first | (with_reducible assumption) | assumption)
                                  obtain ⟨ad254, e254, hx254_0, hx254_1⟩ := at_T40 (Kd.R_reads' HO_10.out).2.2 x12_4 p254 q254
                                  cases e254
                                  replace p254 := eq_true p254
                                  replace q254 := eq_true q254
                                  go_wp2
                                  go_ret
                                  exact ⟨by first | rfl | (simp [errW_none, errW_some] <;> rfl) | (simp [*, errW_none, errW_some] <;> rfl), by repeat (first | (with_reducible first | exact HB.out | apply below_alloc | apply pw_below_drewN | apply below_drew1) | exact HB.out)⟩
                                · rw [if_neg c36] at H
                                  have c36b0 : (!(((rd_T40 t247 x12_4).f0) == (-1)) || (!(((rd_T40 t247 x12_4).f1) == x12_4))) = false := by simpa using c36
                                  clear c36
                                  have H' := Aside0.mk H
                                  clear H
                                  obtain ⟨Ao38, co38, eo38⟩ := Kd.R_slice HO_10.out
                                  subst eo38
                                  have p254 : 0 ≤ (x12_4 : Int) := of_decide_eq_true (by first | (with_reducible assumption) | assumption)
                                  have q254 : x12_4 < (t247.length : Int) := of_decide_eq_true (by first | (with_reducible assumption) | assumption)
                                  obtain ⟨ad254, e254, hx254_0, hx254_1⟩ := at_T40 (Kd.R_reads' HO_10.out).2.2 x12_4 p254 q254
                                  cases e254
                                  replace p254 := eq_true p254
                                  replace q254 := eq_true q254
                                  go_wp2
                                  go_roundg k4
                                  case measure => have := HJ3.out; have := HK2.out; have := HJ13.out; have := HK4.out; omega
                                  case rel => exact ⟨(wrap64 (x12_4 + 1)), (by first | rfl | (simp; done) | (simp [*]; done)), H', ⟨by have := HJ3.out; have := HK2.out; have := HJ13.out; have := HK4.out; omega⟩, ⟨by (with_reducible repeat (first | apply Kd.R_alloc | apply Kd.R_drewN | apply Kd.R_drew)); exact HO_10.out⟩, ⟨by repeat (first | (with_reducible first | exact HB.out | apply below_alloc | apply pw_below_drewN | apply below_drew1) | exact HB.out)⟩⟩
                              · rw [if_neg c35] at H
                                exact absurd H (by simp)
                            · rw [if_neg c34] at H
                              have c34b0 : (a1 == 0) = false := beq_eq_false_iff_ne.mpr c34
                              have c34b1 : (a1 != 0) = true := bne_iff_ne.mpr c34
                              have H' := Aside0.mk H
                              clear H
                              obtain ⟨Ao39, co39, eo39⟩ := Kd.R_slice HO_10.out
                              subst eo39
                              go_wp2
                              go_roundg k4
                              case measure => have := HJ3.out; have := HK2.out; have := HJ13.out; have := HK4.out; omega
                              case rel => exact ⟨(wrap64 (x12_4 + 1)), (by first | rfl | (simp; done) | (simp [*]; done)), H', ⟨by have := HJ3.out; have := HK2.out; have := HJ13.out; have := HK4.out; omega⟩, ⟨by (with_reducible repeat (first | apply Kd.R_alloc | apply Kd.R_drewN | apply Kd.R_drew)); exact HO_10.out⟩, ⟨by repeat (first | (with_reducible first | exact HB.out | apply below_alloc | apply pw_below_drewN | apply below_drew1) | exact HB.out)⟩⟩
                        · rw [if_neg c24] at H
                          have c24b0 : decide (x12_4 < (t247.length : Int)) = false := decide_eq_false c24
                          clear c24
                          obtain rfl := Option.some.inj H
                          obtain ⟨Ao40, co40, eo40⟩ := Kd.R_slice HO_10.out
                          subst eo40
                          go_wp2
                          go_ret
                          exact ⟨by first | rfl | (simp [errW_none, errW_some] <;> rfl) | (simp [*, errW_none, errW_some] <;> rfl), by repeat (first | (with_reducible first | exact HB.out | apply below_alloc | apply pw_below_drewN | apply below_drew1) | exact HB.out)⟩

end Go.Proofs.Ytncpgclcbdgndaa.S
