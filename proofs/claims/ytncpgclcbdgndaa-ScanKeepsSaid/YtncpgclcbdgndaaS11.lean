-- a text of the seat, by a program
import Derived.Test.YtncpgclcbdgndaaS0
import Derived.Test.YtncpgclcbdgndaaS8
import Derived.Test.YtncpgclcbdgndaaS9
import Derived.Test.YtncpgclcbdgndaaOhomes
import Derived.Test.YtncpgclcbdgndaaOright
import Derived.Test.YtncpgclcbdgndaaOsmall
import Derived.Test.YtncpgclcbdgndaaOused
namespace Go.Proofs.Ytncpgclcbdgndaa.S
open Go.RowKit Go.Proofs.YtncpgclcbdgndaaW.PrintWords Go.Proofs.YtncpgclcbdgndaaW.PrintLast Go.Proofs.YtncpgclcbdgndaaW.PrintMore
attribute [local go_sem] max2_int min2_int max_two min_two max_three min_three max_four min_four   -- for this text's walks alone
set_option linter.unusedVariables false
set_option linter.unusedSimpArgs false

/-! ### swagelaw26_ScanKeeps: function 7 -/
mutual
def swagelaw26_ScanKeeps.j0 : Nat → List (S38) → Int → Bool → Bool → Option (Bool)
  | 0, _, _, _, _ => none
  | k + 1, x0, x1, x5, x27 => if x27 = true then (some x5) else ((scan_Homes.f x0 x1).bind fun bt220 => (if bt220.2 = 0 then (if (bt220.1.length : Int) = (x0.length : Int) then ((scan_Fits.f k x0 bt220.1 x1).bind fun t224 => (swagelaw26_ScanKeeps.j1 k x0 x1 x5 bt220.1 (!t224))) else (swagelaw26_ScanKeeps.j1 k x0 x1 x5 bt220.1 true)) else (swagelaw26_ScanKeeps.j1 k x0 x1 x5 bt220.1 true)))
def swagelaw26_ScanKeeps.j1 : Nat → List (S38) → Int → Bool → List (S40) → Bool → Option (Bool)
  | 0, _, _, _, _, _ => none
  | k + 1, x0, x1, x5, x6, x50 => if x50 = true then (some false) else ((scan_Slots.f k x6).bind fun t225 => (if 0 ≤ (wrap64 ((x0.length : Int) + 1)) then (if (wrap64 ((x0.length : Int) + 1) : Int).toNat ≤ 281474976710656 then (swagelaw26_ScanKeeps.l0 k x0 x1 x5 x6 t225 (List.replicate (wrap64 ((x0.length : Int) + 1) : Int).toNat false) 0) else (none)) else (none)))
def swagelaw26_ScanKeeps.l0 : Nat → List (S38) → Int → Bool → List (S40) → Int → List Bool → Int → Option (Bool)
  | 0, _, _, _, _, _, _, _ => none
  | k + 1, x0, x1, x5, x6, x8, x9, x10 => if x10 < (x6.length : Int) then (if 0 ≤ x10 then (if ((rd_T40 x6 x10).f0) = (-1) then (if ((rd_T40 x6 x10).f1) ≥ x8 then (some false) else (if 0 ≤ ((rd_T40 x6 x10).f1) then (if ((rd_T40 x6 x10).f1) < (x9.length : Int) then (if rdOf false x9 ((rd_T40 x6 x10).f1) = true then (some false) else (swagelaw26_ScanKeeps.l0 k x0 x1 x5 x6 x8 (x9.set (((rd_T40 x6 x10).f1) : Int).toNat true) (wrap64 (x10 + 1)))) else (none)) else (none))) else (swagelaw26_ScanKeeps.l0 k x0 x1 x5 x6 x8 x9 (wrap64 (x10 + 1)))) else (none)) else (if x5 = true then ((spans_Most.f k x0).bind fun t229 => (if t229 > x1 then ((scan_Used.f x6).bind fun t230 => (some (decide ((t230.length : Int) ≤ x1)))) else (if x8 = 0 then ((scan_Used.f x6).bind fun t233 => (some (decide ((t233.length : Int) ≤ x1)))) else (some false)))) else (some false))
end
def swagelaw26_ScanKeeps.f (k : Nat) (l0 : List (S38)) (a1 : Int) : Option (Bool) := (swagelaw26_small.f).bind fun t218 => (if (l0.length : Int) > 60 then (swagelaw26_ScanKeeps.j0 k l0 a1 t218 true) else (if a1 < 0 then (swagelaw26_ScanKeeps.j0 k l0 a1 t218 true) else (if a1 > 16 then (swagelaw26_ScanKeeps.j0 k l0 a1 t218 true) else ((scan_Right.f l0).bind fun t219 => (swagelaw26_ScanKeeps.j0 k l0 a1 t218 (!t219))))))
theorem swagelaw26_ScanKeeps.mono_l : ∀ k, (∀ y0 y1 y2 y3, LeO (swagelaw26_ScanKeeps.j0 k y0 y1 y2 y3) (swagelaw26_ScanKeeps.j0 (k + 1) y0 y1 y2 y3)) ∧ (∀ y0 y1 y2 y3 y4, LeO (swagelaw26_ScanKeeps.j1 k y0 y1 y2 y3 y4) (swagelaw26_ScanKeeps.j1 (k + 1) y0 y1 y2 y3 y4)) ∧ (∀ y0 y1 y2 y3 y4 y5 y6, LeO (swagelaw26_ScanKeeps.l0 k y0 y1 y2 y3 y4 y5 y6) (swagelaw26_ScanKeeps.l0 (k + 1) y0 y1 y2 y3 y4 y5 y6))
  | 0 => ⟨fun _ _ _ _ r h => by simp [swagelaw26_ScanKeeps.j0] at h, fun _ _ _ _ _ r h => by simp [swagelaw26_ScanKeeps.j1] at h, fun _ _ _ _ _ _ _ r h => by simp [swagelaw26_ScanKeeps.l0] at h⟩
  | k + 1 => by
    obtain ⟨ih0, ih1, ih2⟩ := swagelaw26_ScanKeeps.mono_l k
    refine ⟨?_, ?_, ?_⟩
    · intro y0 y1 y2 y3
      unfold swagelaw26_ScanKeeps.j0
      repeat' first
      | (with_reducible exact ih0 _ _ _ _)
      | (with_reducible exact ih1 _ _ _ _ _)
      | (with_reducible exact ih2 _ _ _ _ _ _ _)
      | (with_reducible exact scan_Fits.mono _ _ _ _)
      | (with_reducible exact scan_Slots.mono _ _)
      | (with_reducible exact spans_Most.mono _ _)
      | (with_reducible exact LeO.refl _)
      | (with_reducible exact LeO.none _)
      | (with_reducible refine LeO.ite ?_ ?_)
      | (with_reducible refine LeO.bind ?_ (fun _ => ?_))
      | exact ih0 _ _ _ _
      | exact ih1 _ _ _ _ _
      | exact ih2 _ _ _ _ _ _ _
      | exact scan_Fits.mono _ _ _ _
      | exact scan_Slots.mono _ _
      | exact spans_Most.mono _ _
      | exact LeO.none _
      | refine LeO.ite ?_ ?_
      | refine LeO.bind ?_ (fun _ => ?_)
    · intro y0 y1 y2 y3 y4
      unfold swagelaw26_ScanKeeps.j1
      repeat' first
      | (with_reducible exact ih0 _ _ _ _)
      | (with_reducible exact ih1 _ _ _ _ _)
      | (with_reducible exact ih2 _ _ _ _ _ _ _)
      | (with_reducible exact scan_Fits.mono _ _ _ _)
      | (with_reducible exact scan_Slots.mono _ _)
      | (with_reducible exact spans_Most.mono _ _)
      | (with_reducible exact LeO.refl _)
      | (with_reducible exact LeO.none _)
      | (with_reducible refine LeO.ite ?_ ?_)
      | (with_reducible refine LeO.bind ?_ (fun _ => ?_))
      | exact ih0 _ _ _ _
      | exact ih1 _ _ _ _ _
      | exact ih2 _ _ _ _ _ _ _
      | exact scan_Fits.mono _ _ _ _
      | exact scan_Slots.mono _ _
      | exact spans_Most.mono _ _
      | exact LeO.none _
      | refine LeO.ite ?_ ?_
      | refine LeO.bind ?_ (fun _ => ?_)
    · intro y0 y1 y2 y3 y4 y5 y6
      unfold swagelaw26_ScanKeeps.l0
      repeat' first
      | (with_reducible exact ih0 _ _ _ _)
      | (with_reducible exact ih1 _ _ _ _ _)
      | (with_reducible exact ih2 _ _ _ _ _ _ _)
      | (with_reducible exact scan_Fits.mono _ _ _ _)
      | (with_reducible exact scan_Slots.mono _ _)
      | (with_reducible exact spans_Most.mono _ _)
      | (with_reducible exact LeO.refl _)
      | (with_reducible exact LeO.none _)
      | (with_reducible refine LeO.ite ?_ ?_)
      | (with_reducible refine LeO.bind ?_ (fun _ => ?_))
      | exact ih0 _ _ _ _
      | exact ih1 _ _ _ _ _
      | exact ih2 _ _ _ _ _ _ _
      | exact scan_Fits.mono _ _ _ _
      | exact scan_Slots.mono _ _
      | exact spans_Most.mono _ _
      | exact LeO.none _
      | refine LeO.ite ?_ ?_
      | refine LeO.bind ?_ (fun _ => ?_)
theorem swagelaw26_ScanKeeps.mono : ∀ a0 a1 k, LeO (swagelaw26_ScanKeeps.f k a0 a1) (swagelaw26_ScanKeeps.f (k + 1) a0 a1) := by
  intro a0 a1 k
  obtain ⟨ih0, ih1, ih2⟩ := swagelaw26_ScanKeeps.mono_l k
  unfold swagelaw26_ScanKeeps.f
  repeat' first
      | (with_reducible exact ih0 _ _ _ _)
      | (with_reducible exact ih1 _ _ _ _ _)
      | (with_reducible exact ih2 _ _ _ _ _ _ _)
      | (with_reducible exact scan_Fits.mono _ _ _ _)
      | (with_reducible exact scan_Slots.mono _ _)
      | (with_reducible exact spans_Most.mono _ _)
      | (with_reducible exact LeO.refl _)
      | (with_reducible exact LeO.none _)
      | (with_reducible refine LeO.ite ?_ ?_)
      | (with_reducible refine LeO.bind ?_ (fun _ => ?_))
      | exact ih0 _ _ _ _
      | exact ih1 _ _ _ _ _
      | exact ih2 _ _ _ _ _ _ _
      | exact scan_Fits.mono _ _ _ _
      | exact scan_Slots.mono _ _
      | exact spans_Most.mono _ _
      | exact LeO.none _
      | refine LeO.ite ?_ ?_
      | refine LeO.bind ?_ (fun _ => ?_)
set_option maxHeartbeats 8000000 in
set_option maxRecDepth 100000 in
theorem swagelaw26_ScanKeeps.calls (k : Nat) (A0 : Option Addr) (c0 : Nat) (l0 : List (S38)) (a1 : Int) (r : Bool) (w : World) (hr0 : Kd.C k38 w A0 l0.length l0) (hc0 : l0.length ≤ c0) (h : swagelaw26_ScanKeeps.f k l0 a1 = some r) :
    Calls Try.prog 7 #[.slice A0 l0.length c0, .int .i64 a1] w fun e w' => e = .returned (.bool r) ∧ Below w.heap.size w w' := by
  have HR0 := Aside0.mk hr0
  have HC0 := Aside0.mk hc0
  clear hr0 hc0
  have HB := Aside0.mk (Below.refl w.heap.size w)
  have H : ((swagelaw26_small.f).bind fun t218 => (if (l0.length : Int) > 60 then (swagelaw26_ScanKeeps.j0 k l0 a1 t218 true) else (if a1 < 0 then (swagelaw26_ScanKeeps.j0 k l0 a1 t218 true) else (if a1 > 16 then (swagelaw26_ScanKeeps.j0 k l0 a1 t218 true) else ((scan_Right.f l0).bind fun t219 => (swagelaw26_ScanKeeps.j0 k l0 a1 t218 (!t219))))))) = some r := h
  clear h
  replace H := Option.bind_eq_some_iff.mp H
  obtain ⟨t218, A30, H⟩ := H
  replace H : (if (l0.length : Int) > 60 then (swagelaw26_ScanKeeps.j0 k l0 a1 t218 true) else (if a1 < 0 then (swagelaw26_ScanKeeps.j0 k l0 a1 t218 true) else (if a1 > 16 then (swagelaw26_ScanKeeps.j0 k l0 a1 t218 true) else ((scan_Right.f l0).bind fun t219 => (swagelaw26_ScanKeeps.j0 k l0 a1 t218 (!t219)))))) = some r := H
  have A3 := Aside0.mk A30
  clear A30
  have HC4 := Aside0.mk H
  clear H
  go_enter Try.func7, Try.ntmps7
  go_upto_region 2 with (first | ((with_reducible refine gate_callee (f := 9) rfl ?_); refine goesL_ (some 11) rfl rfl Try.func9 (by kernel_rfl) rfl #[] rfl (by (try simp only [List.map_toArray, List.map_cons, List.map_nil]); first | done | rfl | (simp only [List.length_drop, List.length_take]; rfl)) ?_; (with_reducible refine (swagelaw26_small.calls  t218 _ A3.out).mono ?_); rintro e w5 ⟨rfl, hb⟩; refine ⟨_, rfl, ?_⟩; have n0_ := Aside0.mk (below_step (by repeat (first | (with_reducible first | exact HB.out | apply below_alloc | apply pw_below_drewN | apply below_drew1) | exact HB.out)) hb); clear HB; have HB := n0_; clear n0_; (try clear hb); (try clear hb2); (try clear hk); (try clear hi)))
  (try simp only [Act.put, List.setIfInBounds_toArray, List.set_cons_zero, List.set_cons_succ])
  go_cut [27] (fun v27 wc => ∃ (kq : Nat) (x27_3 : Bool), v27 = .bool x27_3 ∧ Aside0 (swagelaw26_ScanKeeps.j0 kq l0 a1 t218 x27_3 = some r) ∧ Aside0 (kq ≤ k) ∧ Aside0 (Below w.heap.size w wc))
  case first =>
    have H := HC4.out
    clear HC4
    by_cases c6 : (l0.length : Int) > 60
    · rw [if_pos c6] at H
      have c6b0 : decide (60 < (l0.length : Int)) = true := decide_eq_true c6
      have c6b1 : decide (60 < l0.length) = true := decide_eq_true (by omega)
      clear c6
      (first | rw [c6b0] | (simp only [i64_w, i32_w]; rw [c6b0]) | skip)
      have H' := Aside0.mk H
      clear H
      go_wp2
      go_meet
      case rel => exact ⟨_, (true), (by first | rfl | (simp; done) | (simp [*]; done)), H', ⟨by first | omega | exact Nat.le_refl _⟩, ⟨by repeat (first | (with_reducible first | exact HB.out | apply below_alloc | apply pw_below_drewN | apply below_drew1) | exact HB.out)⟩⟩
    · rw [if_neg c6] at H
      have c6b0 : decide (60 < (l0.length : Int)) = false := decide_eq_false c6
      have c6b1 : decide (60 < l0.length) = false := decide_eq_false (by omega)
      clear c6
      (first | rw [c6b0] | (simp only [i64_w, i32_w]; rw [c6b0]) | skip)
      by_cases c7 : a1 < 0
      · rw [if_pos c7] at H
        have c7b0 : decide (a1 < 0) = true := decide_eq_true c7
        clear c7
        have H' := Aside0.mk H
        clear H
        go_wp2
        go_meet
        case rel => exact ⟨_, (true), (by first | rfl | (simp; done) | (simp [*]; done)), H', ⟨by first | omega | exact Nat.le_refl _⟩, ⟨by repeat (first | (with_reducible first | exact HB.out | apply below_alloc | apply pw_below_drewN | apply below_drew1) | exact HB.out)⟩⟩
      · rw [if_neg c7] at H
        have c7b0 : decide (a1 < 0) = false := decide_eq_false c7
        clear c7
        by_cases c8 : a1 > 16
        · rw [if_pos c8] at H
          have c8b0 : decide (16 < a1) = true := decide_eq_true c8
          clear c8
          have H' := Aside0.mk H
          clear H
          go_wp2
          go_meet
          case rel => exact ⟨_, (true), (by first | rfl | (simp; done) | (simp [*]; done)), H', ⟨by first | omega | exact Nat.le_refl _⟩, ⟨by repeat (first | (with_reducible first | exact HB.out | apply below_alloc | apply pw_below_drewN | apply below_drew1) | exact HB.out)⟩⟩
        · rw [if_neg c8] at H
          have c8b0 : decide (16 < a1) = false := decide_eq_false c8
          clear c8
          replace H := Option.bind_eq_some_iff.mp H
          obtain ⟨t219, A90, H⟩ := H
          replace H : (swagelaw26_ScanKeeps.j0 k l0 a1 t218 (!t219)) = some r := H
          have A9 := Aside0.mk A90
          clear A90
          have H' := Aside0.mk H
          clear H
          go_wp2_with (first | (go_at_call 13; (with_reducible refine (scan_Right.calls _ _ l0 t219 _ ?side1 ?side2 A9.out).mono ?_); (case side1 => repeat (first | exact (Kd.C_below HR0.out HB.out) | (with_reducible refine Kd.C_alloc ?_ _) | (with_reducible refine Kd.C_drewN ?_ _) | (with_reducible refine Kd.C_drew ?_))); (case side2 => exact HC0.out); rintro e w10 ⟨rfl, hb⟩; have n0_ := Aside0.mk (below_step (by repeat (first | (with_reducible first | exact HB.out | apply below_alloc | apply pw_below_drewN | apply below_drew1) | exact HB.out)) hb); clear HB; have HB := n0_; clear n0_; (try clear hb); (try clear hb2); (try clear hk); (try clear hi)))
          go_meet
          case rel => exact ⟨_, (!t219), (by first | rfl | (simp; done) | (simp [*]; done)), H', ⟨by first | omega | exact Nat.le_refl _⟩, ⟨by repeat (first | (with_reducible first | exact HB.out | apply below_alloc | apply pw_below_drewN | apply below_drew1) | exact HB.out)⟩⟩
  case rest =>
    clear HC4
    try clear p2
    try clear c6
    try clear c6b0
    try clear c6b1
    try clear c7
    try clear c7b0
    try clear c8
    try clear c8b0
    try clear c9
    obtain ⟨kq, x27_3, rfl, HA, HJ3, HB⟩ := hcut
    cases kq with
    | zero => exact absurd HA.out (by simp [swagelaw26_ScanKeeps.j0])
    | succ kj3 =>
      have H := HA.out
      clear HA
      simp only [swagelaw26_ScanKeeps.j0] at H
      by_cases c11 : x27_3 = true
      · subst c11
        have H1 : (some t218) = some r := by rw [if_pos rfl] at H; exact H
        clear H
        have H := H1
        clear H1
        obtain rfl := Option.some.inj H
        go_wp2
        go_ret
        exact ⟨by first | rfl | (simp [errW_none, errW_some] <;> rfl) | (simp [*, errW_none, errW_some] <;> rfl), by repeat (first | (with_reducible first | exact HB.out | apply below_alloc | apply pw_below_drewN | apply below_drew1) | exact HB.out)⟩
      · replace c11 := Bool.eq_false_iff.mpr c11
        subst c11
        have H1 : ((scan_Homes.f l0 a1).bind fun bt220 => (if bt220.2 = 0 then (if (bt220.1.length : Int) = (l0.length : Int) then ((scan_Fits.f kj3 l0 bt220.1 a1).bind fun t224 => (swagelaw26_ScanKeeps.j1 kj3 l0 a1 t218 bt220.1 (!t224))) else (swagelaw26_ScanKeeps.j1 kj3 l0 a1 t218 bt220.1 true)) else (swagelaw26_ScanKeeps.j1 kj3 l0 a1 t218 bt220.1 true))) = some r := by rw [if_neg (show ¬ (false = true) by decide)] at H; exact H
        clear H
        have H := H1
        clear H1
        replace H := Option.bind_eq_some_iff.mp H
        obtain ⟨⟨t220, t221⟩, A120, H⟩ := H
        replace H : (if t221 = 0 then (if (t220.length : Int) = (l0.length : Int) then ((scan_Fits.f kj3 l0 t220 a1).bind fun t224 => (swagelaw26_ScanKeeps.j1 kj3 l0 a1 t218 t220 (!t224))) else (swagelaw26_ScanKeeps.j1 kj3 l0 a1 t218 t220 true)) else (swagelaw26_ScanKeeps.j1 kj3 l0 a1 t218 t220 true)) = some r := H
        have A12 := Aside0.mk A120
        clear A120
        have HC13 := Aside0.mk H
        clear H
        go_upto_region 5 with (first | ((with_reducible refine gate_callee (f := 10) rfl ?_); refine goesL_ (some 32) rfl rfl Try.func10 (by kernel_rfl) rfl #[.slice A0 l0.length c0, .int .i64 a1] rfl (by (try simp only [List.map_toArray, List.map_cons, List.map_nil]); first | done | rfl | (simp only [List.length_drop, List.length_take]; rfl)) ?_; (with_reducible refine (scan_Homes.calls _ _ l0 a1 t220 t221 _ ?side1 ?side2 A12.out).mono ?_); (case side1 => repeat (first | exact (Kd.C_below HR0.out HB.out) | (with_reducible refine Kd.C_alloc ?_ _) | (with_reducible refine Kd.C_drewN ?_ _) | (with_reducible refine Kd.C_drew ?_))); (case side2 => exact HC0.out); rintro e w14 ⟨v222, rfl, ho0, hb⟩; refine ⟨_, rfl, ?_⟩; have n0_ := Aside0.mk (Kd.R_lower ho0 (below_size (by repeat (first | (with_reducible first | exact HB.out | apply below_alloc | apply pw_below_drewN | apply below_drew1) | exact HB.out)))); have n1_ := Aside0.mk (below_step (by repeat (first | (with_reducible first | exact HB.out | apply below_alloc | apply pw_below_drewN | apply below_drew1) | exact HB.out)) hb); clear HB; have HO223 := n0_; have HB := n1_; clear n0_ n1_; (try clear hb); (try clear hb2); (try clear hk); (try clear hi); (try clear ho0)))
        (try simp only [Act.put, List.setIfInBounds_toArray, List.set_cons_zero, List.set_cons_succ])
        go_cut [50] (fun v50 wc => ∃ (kq : Nat) (x50_12 : Bool), v50 = .bool x50_12 ∧ Aside0 (swagelaw26_ScanKeeps.j1 kq l0 a1 t218 t220 x50_12 = some r) ∧ Aside0 (kq ≤ kj3) ∧ Aside0 (Kd.R k40 40 wc w.heap.size (fun _ => True) v222 t220) ∧ Aside0 (Below w.heap.size w wc))
        case first =>
          have H := HC13.out
          clear HC13
          by_cases c15 : t221 = 0
          · rw [if_pos c15] at H
            have c15b0 : (t221 == 0) = true := beq_iff_eq.mpr c15
            have c15b1 : (t221 != 0) = false := bne_eq_false_iff_eq.mpr c15
            clear c15
            (first | rw [c15b0] | (simp only [i64_w, i32_w]; rw [c15b0]) | skip)
            by_cases c16 : (t220.length : Int) = (l0.length : Int)
            · rw [if_pos c16] at H
              have c16b0 : ((t220.length : Int) == (l0.length : Int)) = true := beq_iff_eq.mpr c16
              have c16b1 : ((t220.length : Int) != (l0.length : Int)) = false := bne_eq_false_iff_eq.mpr c16
              have c16b2 : (t220.length == l0.length) = true := by first | simpa using c16 | (simp at c16 ⊢; omega)
              clear c16
              replace H := Option.bind_eq_some_iff.mp H
              obtain ⟨t224, A170, H⟩ := H
              replace H : (swagelaw26_ScanKeeps.j1 kj3 l0 a1 t218 t220 (!t224)) = some r := H
              have A17 := Aside0.mk A170
              clear A170
              have H' := Aside0.mk H
              clear H
              obtain ⟨Ao18, co18, eo18⟩ := Kd.R_slice HO223.out
              subst eo18
              go_wp2_with (first | (go_at_call 16; (with_reducible refine (scan_Fits.calls kj3 _ _ l0 _ _ t220 a1 t224 _ ?side1 ?side2 ?side3 ?side4 A17.out).mono ?_); (case side1 => repeat (first | exact (Kd.C_below HR0.out HB.out) | (with_reducible refine Kd.C_alloc ?_ _) | (with_reducible refine Kd.C_drewN ?_ _) | (with_reducible refine Kd.C_drew ?_))); (case side2 => exact HC0.out); (case side3 => repeat (first | exact (Kd.R_reads' HO223.out).2.2 | (with_reducible refine Kd.C_alloc ?_ _) | (with_reducible refine Kd.C_drewN ?_ _) | (with_reducible refine Kd.C_drew ?_))); (case side4 => exact (Kd.R_reads' HO223.out).2.1); rintro e w19 ⟨rfl, hb⟩; have n0_ := Aside0.mk (Kd.R_below (by (with_reducible repeat (first | apply Kd.R_alloc | apply Kd.R_drewN | apply Kd.R_drew)); exact HO223.out) hb); have n1_ := Aside0.mk (below_step (by repeat (first | (with_reducible first | exact HB.out | apply below_alloc | apply pw_below_drewN | apply below_drew1) | exact HB.out)) hb); clear HO223; clear HB; have HO223 := n0_; have HB := n1_; clear n0_ n1_; (try clear hb); (try clear hb2); (try clear hk); (try clear hi)))
              go_meet
              case rel => exact ⟨_, (!t224), (by first | rfl | (simp; done) | (simp [*]; done)), H', ⟨by have := HJ3.out; first | omega | exact Nat.le_refl _⟩, ⟨by (with_reducible repeat (first | apply Kd.R_alloc | apply Kd.R_drewN | apply Kd.R_drew)); exact HO223.out⟩, ⟨by repeat (first | (with_reducible first | exact HB.out | apply below_alloc | apply pw_below_drewN | apply below_drew1) | exact HB.out)⟩⟩
            · rw [if_neg c16] at H
              have c16b0 : ((t220.length : Int) == (l0.length : Int)) = false := beq_eq_false_iff_ne.mpr c16
              have c16b1 : ((t220.length : Int) != (l0.length : Int)) = true := bne_iff_ne.mpr c16
              have c16b2 : (t220.length == l0.length) = false := by first | simpa using c16 | (simp at c16 ⊢; omega)
              have H' := Aside0.mk H
              clear H
              obtain ⟨Ao20, co20, eo20⟩ := Kd.R_slice HO223.out
              subst eo20
              go_wp2
              go_meet
              case rel => exact ⟨_, (true), (by first | rfl | (simp; done) | (simp [*]; done)), H', ⟨by have := HJ3.out; first | omega | exact Nat.le_refl _⟩, ⟨by (with_reducible repeat (first | apply Kd.R_alloc | apply Kd.R_drewN | apply Kd.R_drew)); exact HO223.out⟩, ⟨by repeat (first | (with_reducible first | exact HB.out | apply below_alloc | apply pw_below_drewN | apply below_drew1) | exact HB.out)⟩⟩
          · rw [if_neg c15] at H
            have c15b0 : (t221 == 0) = false := beq_eq_false_iff_ne.mpr c15
            have c15b1 : (t221 != 0) = true := bne_iff_ne.mpr c15
            (first | rw [c15b0] | (simp only [i64_w, i32_w]; rw [c15b0]) | skip)
            have H' := Aside0.mk H
            clear H
            go_wp2
            go_meet
            case rel => exact ⟨_, (true), (by first | rfl | (simp; done) | (simp [*]; done)), H', ⟨by have := HJ3.out; first | omega | exact Nat.le_refl _⟩, ⟨by (with_reducible repeat (first | apply Kd.R_alloc | apply Kd.R_drewN | apply Kd.R_drew)); exact HO223.out⟩, ⟨by repeat (first | (with_reducible first | exact HB.out | apply below_alloc | apply pw_below_drewN | apply below_drew1) | exact HB.out)⟩⟩
        case rest =>
          clear HC13
          try clear c1
          try clear p2
          try clear c6
          try clear c6b0
          try clear c6b1
          try clear c7
          try clear c7b0
          try clear c8
          try clear c8b0
          try clear c9
          try clear c10
          try clear c11
          try clear c15
          try clear c15b0
          try clear c15b1
          try clear c16
          try clear c16b0
          try clear c16b1
          try clear c16b2
          try clear p2
          obtain ⟨kq, x50_12, rfl, HA, HJ12, HO_6, HB⟩ := hcut
          cases kq with
          | zero => exact absurd HA.out (by simp [swagelaw26_ScanKeeps.j1])
          | succ kj12 =>
            have H := HA.out
            clear HA
            simp only [swagelaw26_ScanKeeps.j1] at H
            by_cases c21 : x50_12 = true
            · subst c21
              have H1 : (some false) = some r := by rw [if_pos rfl] at H; exact H
              clear H
              have H := H1
              clear H1
              obtain rfl := Option.some.inj H
              go_wp2
              go_ret
              exact ⟨by first | rfl | (simp [errW_none, errW_some] <;> rfl) | (simp [*, errW_none, errW_some] <;> rfl), by repeat (first | (with_reducible first | exact HB.out | apply below_alloc | apply pw_below_drewN | apply below_drew1) | exact HB.out)⟩
            · replace c21 := Bool.eq_false_iff.mpr c21
              subst c21
              have H1 : ((scan_Slots.f kj12 t220).bind fun t225 => (if 0 ≤ (wrap64 ((l0.length : Int) + 1)) then (if (wrap64 ((l0.length : Int) + 1) : Int).toNat ≤ 281474976710656 then (swagelaw26_ScanKeeps.l0 kj12 l0 a1 t218 t220 t225 (List.replicate (wrap64 ((l0.length : Int) + 1) : Int).toNat false) 0) else (none)) else (none))) = some r := by rw [if_neg (show ¬ (false = true) by decide)] at H; exact H
              clear H
              have H := H1
              clear H1
              replace H := Option.bind_eq_some_iff.mp H
              obtain ⟨t225, A220, H⟩ := H
              replace H : (if 0 ≤ (wrap64 ((l0.length : Int) + 1)) then (if (wrap64 ((l0.length : Int) + 1) : Int).toNat ≤ 281474976710656 then (swagelaw26_ScanKeeps.l0 kj12 l0 a1 t218 t220 t225 (List.replicate (wrap64 ((l0.length : Int) + 1) : Int).toNat false) 0) else (none)) else (none)) = some r := H
              have A22 := Aside0.mk A220
              clear A220
              obtain ⟨ji23, hji23⟩ : ∃ j_ : Int, (wrap64 ((l0.length : Int) + 1)) = j_ := ⟨_, rfl⟩
              replace H : (if 0 ≤ (ji23) then (if (ji23 : Int).toNat ≤ 281474976710656 then (swagelaw26_ScanKeeps.l0 kj12 l0 a1 t218 t220 t225 (List.replicate (ji23 : Int).toNat false) 0) else (none)) else (none)) = some r := by first | (rw [hji23] at H; exact H) | (simp only [hji23] at H ⊢; exact H)
              (try rw [hji23] at A22)
              have hji23w : (IntKind.i64.wrap ((l0.length : Int) + 1)) = ji23 := (i64_w _).trans hji23
              by_cases c24 : 0 ≤ (ji23)
              · rw [if_pos c24] at H
                have c24b0 := eq_true c24
                have c24b1 : decide (0 ≤ (ji23)) = true := decide_eq_true c24
                clear c24
                by_cases c25 : (ji23 : Int).toNat ≤ 281474976710656
                · rw [if_pos c25] at H
                  have c25b0 := eq_true c25
                  have c25b1 : decide ((ji23 : Int).toNat ≤ 281474976710656) = true := decide_eq_true c25
                  clear c25
                  obtain ⟨y226, hy226⟩ : ∃ y_ : List Bool, y_ = (List.replicate (ji23 : Int).toNat false) := ⟨_, rfl⟩
                  replace H : (swagelaw26_ScanKeeps.l0 kj12 l0 a1 t218 t220 t225 y226 0) = some r := by first | (rw [hy226]; with_reducible exact H) | (have H2_ := (Option.bind_some _ _).symm.trans H; rw [hy226]; with_reducible exact H2_) | (have H2_ := (Option.bind_some _ _).symm.trans H; with_reducible exact H2_) | with_reducible exact H | (rw [hy226]; exact H) | exact H
                  have Ny226 := Aside0.mk hy226
                  clear hy226
                  have H' := Aside0.mk H
                  clear H
                  obtain ⟨Ao26, co26, eo26⟩ := Kd.R_slice HO_6.out
                  subst eo26
                  go_wp2_with (first | ((with_reducible refine gate_callee (f := 18) rfl ?_); refine goesL_ (some 52) rfl rfl Try.func18 (by kernel_rfl) rfl #[.slice Ao26 t220.length co26] rfl (by (try simp only [List.map_toArray, List.map_cons, List.map_nil]); first | done | rfl | (simp only [List.length_drop, List.length_take]; rfl)) ?_; (with_reducible refine (scan_Slots.calls kj12 _ _ t220 t225 _ ?side1 ?side2 A22.out).mono ?_); (case side1 => repeat (first | exact (Kd.R_reads' HO_6.out).2.2 | (with_reducible refine Kd.C_alloc ?_ _) | (with_reducible refine Kd.C_drewN ?_ _) | (with_reducible refine Kd.C_drew ?_))); (case side2 => exact (Kd.R_reads' HO_6.out).2.1); rintro e w27 ⟨rfl, hb⟩; refine ⟨_, rfl, ?_⟩; have n0_ := Aside0.mk (Kd.R_below (by (with_reducible repeat (first | apply Kd.R_alloc | apply Kd.R_drewN | apply Kd.R_drew)); exact HO_6.out) hb); have n1_ := Aside0.mk (below_step (by repeat (first | (with_reducible first | exact HB.out | apply below_alloc | apply pw_below_drewN | apply below_drew1) | exact HB.out)) hb); clear HO_6; clear HB; have HO_6 := n0_; have HB := n1_; clear n0_ n1_; (try clear hb); (try clear hb2); (try clear hk); (try clear hi)) | ((with_reducible refine gate_dst (N := 56) rfl ?_); (try (refine gate_guard (by rfl) ?_; dsimp only)); refine Kd.R_make Kd.bool _ 4 rfl (N := 56) rfl 42 _ _ rfl ji23 rfl rfl Try.underlying42 (.bool false) 1 info4 rfl (by decide) (by omega) false (ok := fun _ => True) (okp := fun _ => True) rfl (fun _ hk => hk) trivial (of_decide_eq_true (by first | (with_reducible assumption) | assumption)) (Nat.le_trans (Nat.mul_le_mul_right _ (of_decide_eq_true (by first | (with_reducible assumption) | assumption) : ji23.toNat ≤ 281474976710656)) (by omega)) (Below.refl _ _) (Nat.le_refl _) ?_; intro v227 w28 ho29 hb hg_ hnew_; clear hg_ hnew_; (first | rw [← Ny226.out] at ho29 | (simp only [Int.reduceToNat] at ho29; rw [← Ny226.out] at ho29)); have n0_ := Aside0.mk (Kd.R_below (by (with_reducible repeat (first | apply Kd.R_alloc | apply Kd.R_drewN | apply Kd.R_drew)); exact HO_6.out) hb); have n1_ := Aside0.mk (Kd.R_lower ho29 (below_size (by repeat (first | (with_reducible first | exact HB.out | apply below_alloc | apply pw_below_drewN | apply below_drew1) | exact HB.out)))); have n2_ := Aside0.mk (below_step (by repeat (first | (with_reducible first | exact HB.out | apply below_alloc | apply pw_below_drewN | apply below_drew1) | exact HB.out)) hb); clear HO_6; clear HB; have HO_6 := n0_; have HO228 := n1_; have HB := n2_; clear n0_ n1_ n2_; clear hb ho29))
                  go_loopg [10] kj12 (fun kq v10 w' => ∃ (x9_3 : List Bool) (x10_3 : Int), v10 = .int .i64 x10_3 ∧ Aside0 (swagelaw26_ScanKeeps.l0 kq l0 a1 t218 t220 t225 x9_3 x10_3 = some r) ∧ Aside0 (kq ≤ kj12) ∧ Aside0 (Kd.R k40 40 w' w.heap.size (fun _ => True) (.slice Ao26 t220.length co26) t220) ∧ Aside0 (Kd.R Kd.bool 4 w' w.heap.size (fun _ => True) v227 x9_3) ∧ Aside0 (Below w.heap.size w w'))
                  case atStart => exact ⟨(y226), (0), (by first | rfl | (simp; done) | (simp [*]; done)), H', ⟨Nat.le_refl _⟩, ⟨by (with_reducible repeat (first | apply Kd.R_alloc | apply Kd.R_drewN | apply Kd.R_drew)); exact HO_6.out⟩, ⟨by (with_reducible repeat (first | apply Kd.R_alloc | apply Kd.R_drewN | apply Kd.R_drew)); exact HO228.out⟩, ⟨by repeat (first | (with_reducible first | exact HB.out | apply below_alloc | apply pw_below_drewN | apply below_drew1) | exact HB.out)⟩⟩
                  case round =>
                    clear H'
                    try clear c1
                    try clear c2
                    try clear p2
                    try clear c6
                    try clear c6b0
                    try clear c6b1
                    try clear p6
                    try clear c7
                    try clear c7b0
                    try clear c8
                    try clear c8b0
                    try clear c9
                    try clear c10
                    try clear c11
                    try clear c15
                    try clear c15b0
                    try clear c15b1
                    try clear c16
                    try clear c16b0
                    try clear c16b1
                    try clear c16b2
                    try clear c18
                    try clear c21
                    try clear c24
                    try clear c24b0
                    try clear c24b1
                    try clear c25
                    try clear c25b0
                    try clear c25b1
                    try clear p2
                    obtain ⟨x9_3, x10_3, rfl, HA, HK3, HO_6, HO_9, HB⟩ := hrel
                    cases gk with
                    | zero => exact absurd HA.out (by simp [swagelaw26_ScanKeeps.l0])
                    | succ k3 =>
                      have H := HA.out
                      clear HA
                      simp only [swagelaw26_ScanKeeps.l0] at H
                      by_cases c30 : x10_3 < (t220.length : Int)
                      · rw [if_pos c30] at H
                        have c30b0 : decide (x10_3 < (t220.length : Int)) = true := decide_eq_true c30
                        clear c30
                        by_cases c31 : 0 ≤ x10_3
                        · rw [if_pos c31] at H
                          have c31b0 : decide (0 ≤ x10_3) = true := decide_eq_true c31
                          clear c31
                          by_cases c32 : ((rd_T40 t220 x10_3).f0) = (-1)
                          · rw [if_pos c32] at H
                            have c32b0 : (((rd_T40 t220 x10_3).f0) == (-1)) = true := beq_iff_eq.mpr c32
                            have c32b1 : (((rd_T40 t220 x10_3).f0) != (-1)) = false := bne_eq_false_iff_eq.mpr c32
                            clear c32
                            by_cases c33 : ((rd_T40 t220 x10_3).f1) ≥ t225
                            · rw [if_pos c33] at H
                              have c33b0 : decide (t225 ≤ ((rd_T40 t220 x10_3).f1)) = true := decide_eq_true c33
                              clear c33
                              obtain rfl := Option.some.inj H
                              have p236 : 0 ≤ (x10_3 : Int) := of_decide_eq_true (by first | (with_reducible assumption) | assumption)
                              have q236 : x10_3 < (t220.length : Int) := of_decide_eq_true (by first | (with_reducible assumption) | assumption)
                              obtain ⟨ad236, e236, hx236_0, hx236_1⟩ := at_T40 (Kd.R_reads' HO_6.out).2.2 x10_3 p236 q236
                              cases e236
                              replace p236 := eq_true p236
                              replace q236 := eq_true q236
                              have p237 : 0 ≤ (x10_3 : Int) := of_decide_eq_true (by first | (with_reducible assumption) | assumption)
                              have q237 : x10_3 < (t220.length : Int) := of_decide_eq_true (by first | (with_reducible assumption) | assumption)
                              obtain ⟨ad237, e237, hx237_0, hx237_1⟩ := at_T40 (Kd.R_reads' HO_6.out).2.2 x10_3 p237 q237
                              obtain rfl : ad236 = ad237 := (by injection e237)
                              replace p237 := eq_true p237
                              replace q237 := eq_true q237
                              go_wp2
                              go_ret
                              exact ⟨by first | rfl | (simp [errW_none, errW_some] <;> rfl) | (simp only [← hji23]; first | rfl | (simp [errW_none, errW_some] <;> rfl)) | (simp [*, errW_none, errW_some] <;> rfl), by repeat (first | (with_reducible first | exact HB.out | apply below_alloc | apply pw_below_drewN | apply below_drew1) | exact HB.out)⟩
                            · rw [if_neg c33] at H
                              have c33b0 : decide (t225 ≤ ((rd_T40 t220 x10_3).f1)) = false := decide_eq_false c33
                              clear c33
                              by_cases c34 : 0 ≤ ((rd_T40 t220 x10_3).f1)
                              · rw [if_pos c34] at H
                                have c34b0 : decide (0 ≤ ((rd_T40 t220 x10_3).f1)) = true := decide_eq_true c34
                                clear c34
                                by_cases c35 : ((rd_T40 t220 x10_3).f1) < (x9_3.length : Int)
                                · rw [if_pos c35] at H
                                  have c35b0 : decide (((rd_T40 t220 x10_3).f1) < (x9_3.length : Int)) = true := decide_eq_true c35
                                  clear c35
                                  obtain ⟨bq36, hbq36⟩ : ∃ b_ : Bool, b_ = (rdOf false x9_3 ((rd_T40 t220 x10_3).f1)) := ⟨_, rfl⟩
                                  replace H : (if bq36 = true then (some false) else (swagelaw26_ScanKeeps.l0 k3 l0 a1 t218 t220 t225 (x9_3.set (((rd_T40 t220 x10_3).f1) : Int).toNat true) (wrap64 (x10_3 + 1)))) = some r := by rw [← hbq36] at H; exact H
                                  have Nbq36 := Aside0.mk hbq36
                                  clear hbq36
                                  by_cases c37 : bq36 = true
                                  · subst c37
                                    have H1 : (some false) = some r := by rw [if_pos rfl] at H; exact H
                                    clear H
                                    have H := H1
                                    clear H1
                                    obtain rfl := Option.some.inj H
                                    have p236 : 0 ≤ (x10_3 : Int) := of_decide_eq_true (by first | (with_reducible assumption) | assumption)
                                    have q236 : x10_3 < (t220.length : Int) := of_decide_eq_true (by first | (with_reducible assumption) | assumption)
                                    obtain ⟨ad236, e236, hx236_0, hx236_1⟩ := at_T40 (Kd.R_reads' HO_6.out).2.2 x10_3 p236 q236
                                    cases e236
                                    replace p236 := eq_true p236
                                    replace q236 := eq_true q236
                                    have p237 : 0 ≤ (x10_3 : Int) := of_decide_eq_true (by first | (with_reducible assumption) | assumption)
                                    have q237 : x10_3 < (t220.length : Int) := of_decide_eq_true (by first | (with_reducible assumption) | assumption)
                                    obtain ⟨ad237, e237, hx237_0, hx237_1⟩ := at_T40 (Kd.R_reads' HO_6.out).2.2 x10_3 p237 q237
                                    obtain rfl : ad236 = ad237 := (by injection e237)
                                    replace p237 := eq_true p237
                                    replace q237 := eq_true q237
                                    have p238 : 0 ≤ (x10_3 : Int) := of_decide_eq_true (by first | (with_reducible assumption) | assumption)
                                    have q238 : x10_3 < (t220.length : Int) := of_decide_eq_true (by first | (with_reducible assumption) | assumption)
                                    obtain ⟨ad238, e238, hx238_0, hx238_1⟩ := at_T40 (Kd.R_reads' HO_6.out).2.2 x10_3 p238 q238
                                    obtain rfl : ad236 = ad238 := (by injection e238)
                                    replace p238 := eq_true p238
                                    replace q238 := eq_true q238
                                    obtain ⟨Ao38, co38, eo38⟩ := Kd.R_slice HO_9.out
                                    subst eo38
                                    have p239 : 0 ≤ (((rd_T40 t220 x10_3).f1) : Int) := of_decide_eq_true (by first | (with_reducible assumption) | assumption)
                                    have q239 : ((rd_T40 t220 x10_3).f1) < (x9_3.length : Int) := of_decide_eq_true (by first | (with_reducible assumption) | assumption)
                                    obtain ⟨ad239, e239, hx239_0⟩ := Kd.at_bool (Kd.R_reads' HO_9.out).2.2 ((rd_T40 t220 x10_3).f1) p239 q239
                                    (try rw [← Nbq36.out] at hx239_0)
                                    cases e239
                                    replace p239 := eq_true p239
                                    replace q239 := eq_true q239
                                    go_wp2
                                    go_ret
                                    exact ⟨by first | rfl | (simp [errW_none, errW_some] <;> rfl) | (simp only [← hji23]; first | rfl | (simp [errW_none, errW_some] <;> rfl)) | (simp [*, errW_none, errW_some] <;> rfl), by repeat (first | (with_reducible first | exact HB.out | apply below_alloc | apply pw_below_drewN | apply below_drew1) | exact HB.out)⟩
                                  · replace c37 := Bool.eq_false_iff.mpr c37
                                    subst c37
                                    have H1 : (swagelaw26_ScanKeeps.l0 k3 l0 a1 t218 t220 t225 (x9_3.set (((rd_T40 t220 x10_3).f1) : Int).toNat true) (wrap64 (x10_3 + 1))) = some r := by rw [if_neg (show ¬ (false = true) by decide)] at H; exact H
                                    clear H
                                    have H := H1
                                    clear H1
                                    obtain ⟨y241, hy241⟩ : ∃ y_ : List Bool, y_ = (x9_3.set (((rd_T40 t220 x10_3).f1) : Int).toNat true) := ⟨_, rfl⟩
                                    replace H : (swagelaw26_ScanKeeps.l0 k3 l0 a1 t218 t220 t225 y241 (wrap64 (x10_3 + 1))) = some r := by first | (rw [hy241]; with_reducible exact H) | (have H2_ := (Option.bind_some _ _).symm.trans H; rw [hy241]; with_reducible exact H2_) | (have H2_ := (Option.bind_some _ _).symm.trans H; with_reducible exact H2_) | with_reducible exact H | (rw [hy241]; exact H) | exact H
                                    have Ny241 := Aside0.mk hy241
                                    clear hy241
                                    have H' := Aside0.mk H
                                    clear H
                                    have p236 : 0 ≤ (x10_3 : Int) := of_decide_eq_true (by first | (with_reducible assumption) | assumption)
                                    have q236 : x10_3 < (t220.length : Int) := of_decide_eq_true (by first | (with_reducible assumption) | assumption)
                                    obtain ⟨ad236, e236, hx236_0, hx236_1⟩ := at_T40 (Kd.R_reads' HO_6.out).2.2 x10_3 p236 q236
                                    cases e236
                                    replace p236 := eq_true p236
                                    replace q236 := eq_true q236
                                    have p237 : 0 ≤ (x10_3 : Int) := of_decide_eq_true (by first | (with_reducible assumption) | assumption)
                                    have q237 : x10_3 < (t220.length : Int) := of_decide_eq_true (by first | (with_reducible assumption) | assumption)
                                    obtain ⟨ad237, e237, hx237_0, hx237_1⟩ := at_T40 (Kd.R_reads' HO_6.out).2.2 x10_3 p237 q237
                                    obtain rfl : ad236 = ad237 := (by injection e237)
                                    replace p237 := eq_true p237
                                    replace q237 := eq_true q237
                                    have p238 : 0 ≤ (x10_3 : Int) := of_decide_eq_true (by first | (with_reducible assumption) | assumption)
                                    have q238 : x10_3 < (t220.length : Int) := of_decide_eq_true (by first | (with_reducible assumption) | assumption)
                                    obtain ⟨ad238, e238, hx238_0, hx238_1⟩ := at_T40 (Kd.R_reads' HO_6.out).2.2 x10_3 p238 q238
                                    obtain rfl : ad236 = ad238 := (by injection e238)
                                    replace p238 := eq_true p238
                                    replace q238 := eq_true q238
                                    obtain ⟨Ao40, co40, eo40⟩ := Kd.R_slice HO_9.out
                                    subst eo40
                                    have p239 : 0 ≤ (((rd_T40 t220 x10_3).f1) : Int) := of_decide_eq_true (by first | (with_reducible assumption) | assumption)
                                    have q239 : ((rd_T40 t220 x10_3).f1) < (x9_3.length : Int) := of_decide_eq_true (by first | (with_reducible assumption) | assumption)
                                    obtain ⟨ad239, e239, hx239_0⟩ := Kd.at_bool (Kd.R_reads' HO_9.out).2.2 ((rd_T40 t220 x10_3).f1) p239 q239
                                    (try rw [← Nbq36.out] at hx239_0)
                                    cases e239
                                    replace p239 := eq_true p239
                                    replace q239 := eq_true q239
                                    have p240 : 0 ≤ (x10_3 : Int) := of_decide_eq_true (by first | (with_reducible assumption) | assumption)
                                    have q240 : x10_3 < (t220.length : Int) := of_decide_eq_true (by first | (with_reducible assumption) | assumption)
                                    obtain ⟨ad240, e240, hx240_0, hx240_1⟩ := at_T40 (Kd.R_reads' HO_6.out).2.2 x10_3 p240 q240
                                    obtain rfl : ad236 = ad240 := (by injection e240)
                                    replace p240 := eq_true p240
                                    replace q240 := eq_true q240
                                    have p39 : 0 ≤ (((rd_T40 t220 x10_3).f1) : Int) := of_decide_eq_true (by first | (with_reducible assumption) | assumption)
                                    have q39 : (((rd_T40 t220 x10_3).f1) : Int) < ((x9_3.length : Int) : Int) := of_decide_eq_true (by first | (with_reducible assumption) | assumption)
                                    obtain ⟨go39, co39, eo39, gb39, gl39, cl39, HG39⟩ := Kd.R_form HO_9.out (by omega)
                                    (first | cases eo39 | (injection eo39 with ea_ en_ ec_; (first | subst ea_ | (injection ea_ with ea_; subst ea_)); subst ec_; clear en_))
                                    have GB39 := Aside0.mk gb39
                                    have GG39 := Aside0.mk HG39
                                    clear gb39 gl39 HG39
                                    (first | simp only [add_plain] at hx239_0 | skip)
                                    obtain ⟨hx39_0, hf39_0⟩ := Kd.R_celln false HO_9.out (((rd_T40 t220 x10_3).f1) : Int) p39 q39
                                    replace p39 := eq_true p39
                                    replace q39 := eq_true q39
                                    have HP41 := Kd.R_putg HO_9.out (((rd_T40 t220 x10_3).f1) : Int) true
                                    go_wp2_with (first | ((with_reducible refine gate_store (t := 4) (p := 92) rfl ?_); refine store_event (t := 4) (p := 92) (v := ?vo_w42) (w1 := (wr.setCell ⟨go39, (((rd_T40 t220 x10_3).f1) : Int).toNat, none⟩ (.bool true))) ?hg ?ho ?hn ?hr ?_; (case ho => rfl); (case hg => rfl); (case hn => rfl); (case hr => first | (go_simp; done) | (go_simp; rfl)); intro w42 hw; have hg : wr.grownBy w42 (some go39) := (by rw [hw]; exact HP41.2); have hp_ : Kd.R Kd.bool 4 w42 w.heap.size (fun _ => True) (.slice (some ⟨go39, 0, none⟩) x9_3.length co40) y241 := (by rw [hw, Ny241.out]; exact HP41.1); clear HP41; have n0_ := Aside0.mk (Kd.R_over' (v := (.slice (some ⟨go39, 0, none⟩) x9_3.length co40)) (by (with_reducible repeat (first | apply Kd.R_alloc | apply Kd.R_drewN | apply Kd.R_drew)); exact HO_6.out) (Kd.R_typed HO_9.out) (by decide) hg); have n1_ := Aside0.mk (hp_); have n2_ := Aside0.mk ((by rw [hw]; exact below_set (HB.out) GB39.out : Below w.heap.size w w42)); clear HO_6; clear HO_9; clear HB; have HO_6 := n0_; have HO_9 := n1_; have HB := n2_; clear n0_ n1_ n2_; clear hg hw hp_))
                                    go_roundg k3
                                    case measure => have := HJ3.out; have := HJ12.out; have := HK3.out; omega
                                    case rel => exact ⟨(y241), (wrap64 (x10_3 + 1)), (by first | rfl | (simp; done) | (simp [*]; done)), H', ⟨by have := HJ3.out; have := HJ12.out; have := HK3.out; omega⟩, ⟨by (with_reducible repeat (first | apply Kd.R_alloc | apply Kd.R_drewN | apply Kd.R_drew)); exact HO_6.out⟩, ⟨by (with_reducible repeat (first | apply Kd.R_alloc | apply Kd.R_drewN | apply Kd.R_drew)); exact HO_9.out⟩, ⟨by repeat (first | (with_reducible first | exact HB.out | apply below_alloc | apply pw_below_drewN | apply below_drew1) | exact HB.out)⟩⟩
                                · rw [if_neg c35] at H
                                  exact absurd H (by simp)
                              · rw [if_neg c34] at H
                                exact absurd H (by simp)
                          · rw [if_neg c32] at H
                            have c32b0 : (((rd_T40 t220 x10_3).f0) == (-1)) = false := beq_eq_false_iff_ne.mpr c32
                            have c32b1 : (((rd_T40 t220 x10_3).f0) != (-1)) = true := bne_iff_ne.mpr c32
                            have H' := Aside0.mk H
                            clear H
                            have p236 : 0 ≤ (x10_3 : Int) := of_decide_eq_true (by first | (with_reducible assumption) | assumption)
                            have q236 : x10_3 < (t220.length : Int) := of_decide_eq_true (by first | (with_reducible assumption) | assumption)
                            obtain ⟨ad236, e236, hx236_0, hx236_1⟩ := at_T40 (Kd.R_reads' HO_6.out).2.2 x10_3 p236 q236
                            cases e236
                            replace p236 := eq_true p236
                            replace q236 := eq_true q236
                            go_wp2
                            go_roundg k3
                            case measure => have := HJ3.out; have := HJ12.out; have := HK3.out; omega
                            case rel => exact ⟨(x9_3), (wrap64 (x10_3 + 1)), (by first | rfl | (simp; done) | (simp [*]; done)), H', ⟨by have := HJ3.out; have := HJ12.out; have := HK3.out; omega⟩, ⟨by (with_reducible repeat (first | apply Kd.R_alloc | apply Kd.R_drewN | apply Kd.R_drew)); exact HO_6.out⟩, ⟨by (with_reducible repeat (first | apply Kd.R_alloc | apply Kd.R_drewN | apply Kd.R_drew)); exact HO_9.out⟩, ⟨by repeat (first | (with_reducible first | exact HB.out | apply below_alloc | apply pw_below_drewN | apply below_drew1) | exact HB.out)⟩⟩
                        · rw [if_neg c31] at H
                          exact absurd H (by simp)
                      · rw [if_neg c30] at H
                        have c30b0 : decide (x10_3 < (t220.length : Int)) = false := decide_eq_false c30
                        clear c30
                        by_cases c43 : t218 = true
                        · subst c43
                          have H1 : ((spans_Most.f k3 l0).bind fun t229 => (if t229 > a1 then ((scan_Used.f t220).bind fun t230 => (some (decide ((t230.length : Int) ≤ a1)))) else (if t225 = 0 then ((scan_Used.f t220).bind fun t233 => (some (decide ((t233.length : Int) ≤ a1)))) else (some false)))) = some r := by rw [if_pos rfl] at H; exact H
                          clear H
                          have H := H1
                          clear H1
                          replace H := Option.bind_eq_some_iff.mp H
                          obtain ⟨t229, A440, H⟩ := H
                          replace H : (if t229 > a1 then ((scan_Used.f t220).bind fun t230 => (some (decide ((t230.length : Int) ≤ a1)))) else (if t225 = 0 then ((scan_Used.f t220).bind fun t233 => (some (decide ((t233.length : Int) ≤ a1)))) else (some false))) = some r := H
                          have A44 := Aside0.mk A440
                          clear A440
                          by_cases c45 : t229 > a1
                          · rw [if_pos c45] at H
                            have c45b0 : decide (a1 < t229) = true := decide_eq_true c45
                            clear c45
                            replace H := Option.bind_eq_some_iff.mp H
                            obtain ⟨t230, A460, H⟩ := H
                            replace H : (some (decide ((t230.length : Int) ≤ a1))) = some r := H
                            have A46 := Aside0.mk A460
                            clear A460
                            obtain rfl := Option.some.inj H
                            go_wp2_with (first | (go_at_call 23; (with_reducible refine (spans_Most.calls k3 _ _ l0 t229 _ ?side1 ?side2 A44.out).mono ?_); (case side1 => repeat (first | exact (Kd.C_below HR0.out HB.out) | (with_reducible refine Kd.C_alloc ?_ _) | (with_reducible refine Kd.C_drewN ?_ _) | (with_reducible refine Kd.C_drew ?_))); (case side2 => exact HC0.out); rintro e w47 ⟨rfl, hb⟩; have n0_ := Aside0.mk (Kd.R_below (by (with_reducible repeat (first | apply Kd.R_alloc | apply Kd.R_drewN | apply Kd.R_drew)); exact HO_6.out) hb); have n1_ := Aside0.mk (Kd.R_below (by (with_reducible repeat (first | apply Kd.R_alloc | apply Kd.R_drewN | apply Kd.R_drew)); exact HO_9.out) hb); have n2_ := Aside0.mk (below_step (by repeat (first | (with_reducible first | exact HB.out | apply below_alloc | apply pw_below_drewN | apply below_drew1) | exact HB.out)) hb); clear HO_6; clear HO_9; clear HB; have HO_6 := n0_; have HO_9 := n1_; have HB := n2_; clear n0_ n1_ n2_; (try clear hb); (try clear hb2); (try clear hk); (try clear hi)) | (go_at_call 21; (with_reducible refine (scan_Used.calls _ _ t220 t230 _ ?side1 ?side2 A46.out).mono ?_); (case side1 => repeat (first | exact (Kd.R_reads' HO_6.out).2.2 | (with_reducible refine Kd.C_alloc ?_ _) | (with_reducible refine Kd.C_drewN ?_ _) | (with_reducible refine Kd.C_drew ?_))); (case side2 => exact (Kd.R_reads' HO_6.out).2.1); rintro e w48 ⟨v231, rfl, ho0, hb⟩; have n0_ := Aside0.mk (Kd.R_below (by (with_reducible repeat (first | apply Kd.R_alloc | apply Kd.R_drewN | apply Kd.R_drew)); exact HO_6.out) hb); have n1_ := Aside0.mk (Kd.R_below (by (with_reducible repeat (first | apply Kd.R_alloc | apply Kd.R_drewN | apply Kd.R_drew)); exact HO_9.out) hb); have n2_ := Aside0.mk (Kd.R_lower ho0 (below_size (by repeat (first | (with_reducible first | exact HB.out | apply below_alloc | apply pw_below_drewN | apply below_drew1) | exact HB.out)))); have n3_ := Aside0.mk (below_step (by repeat (first | (with_reducible first | exact HB.out | apply below_alloc | apply pw_below_drewN | apply below_drew1) | exact HB.out)) hb); clear HO_6; clear HO_9; clear HB; have HO_6 := n0_; have HO_9 := n1_; have HO232 := n2_; have HB := n3_; clear n0_ n1_ n2_ n3_; (try clear hb); (try clear hb2); (try clear hk); (try clear hi); (try clear ho0); obtain ⟨Ao49, co49, eo49⟩ := Kd.R_slice HO232.out; subst eo49))
                            go_ret
                            exact ⟨by first | rfl | (simp [errW_none, errW_some] <;> rfl) | (simp only [← hji23]; first | rfl | (simp [errW_none, errW_some] <;> rfl)) | (simp [*, errW_none, errW_some] <;> rfl), by repeat (first | (with_reducible first | exact HB.out | apply below_alloc | apply pw_below_drewN | apply below_drew1) | exact HB.out)⟩
                          · rw [if_neg c45] at H
                            have c45b0 : decide (a1 < t229) = false := decide_eq_false c45
                            clear c45
                            by_cases c50 : t225 = 0
                            · rw [if_pos c50] at H
                              have c50b0 : (t225 == 0) = true := beq_iff_eq.mpr c50
                              have c50b1 : (t225 != 0) = false := bne_eq_false_iff_eq.mpr c50
                              clear c50
                              replace H := Option.bind_eq_some_iff.mp H
                              obtain ⟨t233, A510, H⟩ := H
                              replace H : (some (decide ((t233.length : Int) ≤ a1))) = some r := H
                              have A51 := Aside0.mk A510
                              clear A510
                              obtain rfl := Option.some.inj H
                              go_wp2_with (first | (go_at_call 23; (with_reducible refine (spans_Most.calls k3 _ _ l0 t229 _ ?side1 ?side2 A44.out).mono ?_); (case side1 => repeat (first | exact (Kd.C_below HR0.out HB.out) | (with_reducible refine Kd.C_alloc ?_ _) | (with_reducible refine Kd.C_drewN ?_ _) | (with_reducible refine Kd.C_drew ?_))); (case side2 => exact HC0.out); rintro e w52 ⟨rfl, hb⟩; have n0_ := Aside0.mk (Kd.R_below (by (with_reducible repeat (first | apply Kd.R_alloc | apply Kd.R_drewN | apply Kd.R_drew)); exact HO_6.out) hb); have n1_ := Aside0.mk (Kd.R_below (by (with_reducible repeat (first | apply Kd.R_alloc | apply Kd.R_drewN | apply Kd.R_drew)); exact HO_9.out) hb); have n2_ := Aside0.mk (below_step (by repeat (first | (with_reducible first | exact HB.out | apply below_alloc | apply pw_below_drewN | apply below_drew1) | exact HB.out)) hb); clear HO_6; clear HO_9; clear HB; have HO_6 := n0_; have HO_9 := n1_; have HB := n2_; clear n0_ n1_ n2_; (try clear hb); (try clear hb2); (try clear hk); (try clear hi)) | (go_at_call 21; (with_reducible refine (scan_Used.calls _ _ t220 t233 _ ?side1 ?side2 A51.out).mono ?_); (case side1 => repeat (first | exact (Kd.R_reads' HO_6.out).2.2 | (with_reducible refine Kd.C_alloc ?_ _) | (with_reducible refine Kd.C_drewN ?_ _) | (with_reducible refine Kd.C_drew ?_))); (case side2 => exact (Kd.R_reads' HO_6.out).2.1); rintro e w53 ⟨v234, rfl, ho0, hb⟩; have n0_ := Aside0.mk (Kd.R_below (by (with_reducible repeat (first | apply Kd.R_alloc | apply Kd.R_drewN | apply Kd.R_drew)); exact HO_6.out) hb); have n1_ := Aside0.mk (Kd.R_below (by (with_reducible repeat (first | apply Kd.R_alloc | apply Kd.R_drewN | apply Kd.R_drew)); exact HO_9.out) hb); have n2_ := Aside0.mk (Kd.R_lower ho0 (below_size (by repeat (first | (with_reducible first | exact HB.out | apply below_alloc | apply pw_below_drewN | apply below_drew1) | exact HB.out)))); have n3_ := Aside0.mk (below_step (by repeat (first | (with_reducible first | exact HB.out | apply below_alloc | apply pw_below_drewN | apply below_drew1) | exact HB.out)) hb); clear HO_6; clear HO_9; clear HB; have HO_6 := n0_; have HO_9 := n1_; have HO235 := n2_; have HB := n3_; clear n0_ n1_ n2_ n3_; (try clear hb); (try clear hb2); (try clear hk); (try clear hi); (try clear ho0); obtain ⟨Ao54, co54, eo54⟩ := Kd.R_slice HO235.out; subst eo54))
                              go_ret
                              exact ⟨by first | rfl | (simp [errW_none, errW_some] <;> rfl) | (simp only [← hji23]; first | rfl | (simp [errW_none, errW_some] <;> rfl)) | (simp [*, errW_none, errW_some] <;> rfl), by repeat (first | (with_reducible first | exact HB.out | apply below_alloc | apply pw_below_drewN | apply below_drew1) | exact HB.out)⟩
                            · rw [if_neg c50] at H
                              have c50b0 : (t225 == 0) = false := beq_eq_false_iff_ne.mpr c50
                              have c50b1 : (t225 != 0) = true := bne_iff_ne.mpr c50
                              obtain rfl := Option.some.inj H
                              go_wp2_with (first | (go_at_call 23; (with_reducible refine (spans_Most.calls k3 _ _ l0 t229 _ ?side1 ?side2 A44.out).mono ?_); (case side1 => repeat (first | exact (Kd.C_below HR0.out HB.out) | (with_reducible refine Kd.C_alloc ?_ _) | (with_reducible refine Kd.C_drewN ?_ _) | (with_reducible refine Kd.C_drew ?_))); (case side2 => exact HC0.out); rintro e w55 ⟨rfl, hb⟩; have n0_ := Aside0.mk (Kd.R_below (by (with_reducible repeat (first | apply Kd.R_alloc | apply Kd.R_drewN | apply Kd.R_drew)); exact HO_6.out) hb); have n1_ := Aside0.mk (Kd.R_below (by (with_reducible repeat (first | apply Kd.R_alloc | apply Kd.R_drewN | apply Kd.R_drew)); exact HO_9.out) hb); have n2_ := Aside0.mk (below_step (by repeat (first | (with_reducible first | exact HB.out | apply below_alloc | apply pw_below_drewN | apply below_drew1) | exact HB.out)) hb); clear HO_6; clear HO_9; clear HB; have HO_6 := n0_; have HO_9 := n1_; have HB := n2_; clear n0_ n1_ n2_; (try clear hb); (try clear hb2); (try clear hk); (try clear hi)))
                              go_ret
                              exact ⟨by first | rfl | (simp [errW_none, errW_some] <;> rfl) | (simp only [← hji23]; first | rfl | (simp [errW_none, errW_some] <;> rfl)) | (simp [*, errW_none, errW_some] <;> rfl), by repeat (first | (with_reducible first | exact HB.out | apply below_alloc | apply pw_below_drewN | apply below_drew1) | exact HB.out)⟩
                        · replace c43 := Bool.eq_false_iff.mpr c43
                          subst c43
                          have H1 : (some false) = some r := by rw [if_neg (show ¬ (false = true) by decide)] at H; exact H
                          clear H
                          have H := H1
                          clear H1
                          obtain rfl := Option.some.inj H
                          go_wp2
                          go_ret
                          exact ⟨by first | rfl | (simp [errW_none, errW_some] <;> rfl) | (simp only [← hji23]; first | rfl | (simp [errW_none, errW_some] <;> rfl)) | (simp [*, errW_none, errW_some] <;> rfl), by repeat (first | (with_reducible first | exact HB.out | apply below_alloc | apply pw_below_drewN | apply below_drew1) | exact HB.out)⟩
                · rw [if_neg c25] at H
                  exact absurd H (by simp)
              · rw [if_neg c24] at H
                exact absurd H (by simp)

end Go.Proofs.Ytncpgclcbdgndaa.S
