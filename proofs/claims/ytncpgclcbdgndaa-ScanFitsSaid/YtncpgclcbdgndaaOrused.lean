import Derived.Test.YtncpgclcbdgndaaOapp
namespace Go.Proofs.Ytncpgclcbdgndaa.S
open Go.RowKit Go.Proofs.YtncpgclcbdgndaaW.PrintWords Go.Proofs.YtncpgclcbdgndaaW.PrintLast Go.Proofs.YtncpgclcbdgndaaW.PrintMore Go.RelRegion
set_option linter.unusedVariables false
/-! ### The document's Used -/
set_option maxHeartbeats 8000000 in
set_option maxRecDepth 100000 in
theorem rused_any (A : Option Addr) (c : Nat) (H : List S40) (w : World) (hr : Kd.C k40 w A H.length H) (hn : H.length ≤ 1000000000000) :
    Calls Try.prog 22 #[.slice A H.length c] w fun e w' => ∃ v, e = .returned v ∧ w'.ownsRow w.heap.size 3 1 v (Lib.compact (srt (used H))).length (nums .i64 (Lib.compact (srt (used H)))) ∧ Below w.heap.size w w' := by
  have hu40 := Try.underlying40
  have hu35 := Try.underlying35
  have HR := Aside0.mk hr
  have HN := Aside0.mk hn
  have hn63 := hr.2.1
  clear hr
  go_enter Try.func22, Try.ntmps22
  go_wp2_with fail
  go_loopw [4, 3] (fun v4 v3 wr => ∃ (i : Nat) (out : List Int), i ≤ H.length ∧ v4 = .int .i64 (i : Int) ∧ Aside0 (wr.ownsRow w.heap.size 3 1 v3 out.length (nums .i64 out)) ∧ Aside0 (Good H i out) ∧ Aside0 (Below w.heap.size w wr)) (fun v4 _ _ => H.length - (intOf v4).toNat)
  case atStart => exact ⟨0, [], Nat.zero_le _, rfl, ⟨own_nil _ _ _ _⟩, ⟨by simp, fun y => by simp [used]⟩, ⟨Below.refl _ _⟩⟩
  case round =>
    obtain ⟨i, out, hi, rfl, HO, HGD, HB⟩ := hrel
    obtain ⟨A3, c3, rfl⟩ := own_slice HO.out
    by_cases hlt : i < H.length
    · have b1 : decide ((i : Int) < (H.length : Int)) = true := decide_eq_true (by omega)
      have hol := HGD.out.len
      go_wp2
      go_loopw [5] (fun v5 wi => ∃ k : Nat, k ≤ out.length ∧ v5 = .int .i64 (k : Int) ∧ Aside0 (∀ q, q < k → out.getD q 0 < (rd_T40 H (i : Int)).f0) ∧ Aside0 (wi.ownsRow w.heap.size 3 1 (.slice A3 out.length c3) out.length (nums .i64 out)) ∧ Aside0 (Below w.heap.size w wi)) (fun v5 _ => out.length - (intOf v5).toNat)
      case atStart => exact ⟨0, Nat.zero_le _, rfl, ⟨fun q hq => by omega⟩, HO, HB⟩
      case round =>
        clear HO HB
        obtain ⟨k, hk, rfl, HQ, HO, HB⟩ := hrel
        obtain ⟨ad, eA, k0, k1⟩ := at_T40 (Kd.C_below HR.out HB.out) (i : Int) (by omega) (by omega)
        simp only [Int.toNat_natCast] at k0 k1
        have HGS := Aside0.mk (fun (h : ¬ 0 ≤ (rd_T40 H (i : Int)).f0) => HGD.out.skip hlt h)
        have HGH := Aside0.mk (fun (h : 0 ≤ (rd_T40 H (i : Int)).f0) => HGD.out.have hlt h)
        have HGI := Aside0.mk (fun (h : 0 ≤ (rd_T40 H (i : Int)).f0) => HGD.out.ins hlt h hk HQ.out)
        generalize rd_T40 H (i : Int) = x at k0 k1 HGS HGH HGI HQ
        subst eA
        by_cases hkl : k < out.length
        · have b2 : decide ((k : Int) < (out.length : Int)) = true := decide_eq_true (by omega)
          obtain ⟨ao, eo, o0⟩ := (own_reads' HO.out).at_ (k : Int) (by omega) (by omega)
          simp only [Int.toNat_natCast] at o0
          have hrd : rd out (k : Int) = out.getD k 0 := by unfold rd; rw [Int.toNat_natCast]
          rw [hrd] at o0
          have HOV : Aside0 (∀ u, u = out.getD k 0 → u < x.f0 → out.getD k 0 < x.f0) := ⟨fun u e h => e ▸ h⟩
          subst eo
          by_cases hux : out.getD k 0 < x.f0
          · have b3 : decide (out.getD k 0 < x.f0) = true := decide_eq_true hux
            have HUX := Aside0.mk hux
            generalize out.getD k 0 = u at o0 b3
            clear hux HOV
            go_wp2
            repeat (go_quiet (fail); try go_wp2)
            go_roundw
            case rel => exact ⟨k + 1, by omega, by go_num, ⟨fun q hq => by
              by_cases e : q = k
              · rw [e]; exact HUX.out
              · exact HQ.out q (by omega)⟩, ⟨HO.out⟩, ⟨pw_below_drewN HB.out _⟩⟩
            case measure => exact meas hkl (Int.natCast_succ k).symm
          · have b3 : decide (out.getD k 0 < x.f0) = false := decide_eq_false hux
            have HUX := Aside0.mk hux
            by_cases hx0 : 0 ≤ x.f0
            · have b4 : decide (0 ≤ x.f0) = true := decide_eq_true hx0
              have b5 : ((k : Int) == (out.length : Int)) = false := by simp; omega
              by_cases hue : out.getD k 0 = x.f0
              · have HM : Aside0 (Good H (i + 1) out) := ⟨HGH.out hx0 (by rw [← hue, List.getD_eq_getElem?_getD, List.getElem?_eq_getElem hkl]; exact List.getElem_mem hkl)⟩
                rw [hue] at o0
                have b3 : decide (x.f0 < x.f0) = false := decide_eq_false (by omega)
                clear hux hue HOV
                go_wp2
                repeat (go_quiet (fail); try go_wp2)
                go_roundw
                case rel => exact ⟨i + 1, out, by omega, by go_num, ⟨HO.out⟩, HM, ⟨pw_below_drewN HB.out _⟩⟩
                case measure => exact meas1 hlt (Int.natCast_succ i).symm
              · have HM : Aside0 (Good H (i + 1) (insAt out k x.f0)) := ⟨HGI.out hx0 (fun _ => by omega)⟩
                have b6 : (out.getD k 0 != x.f0) = true := by simpa using hue
                generalize out.getD k 0 = u at o0 b3 b6
                clear hux hue HOV HUX
                go_wp2
                repeat (go_quiet (fail); try go_wp2)
                obtain ⟨xs9, hxs9⟩ : ∃ xs9, xs9 = out.take k := ⟨_, rfl⟩
                obtain ⟨ys9, hys9⟩ : ∃ ys9, ys9 = out.drop k := ⟨_, rfl⟩
                have HXS := Aside0.mk (And.intro hxs9 hys9)
                have HTL : Aside0 (xs9.length = k) := ⟨by rw [hxs9, List.length_take]; omega⟩
                have HN9 : Aside0 (out.length ≤ 1000000000000) := ⟨by have := HN.out; omega⟩
                obtain ⟨i0, hii, hzz⟩ := Option.map_eq_some_iff.1 info3'
                simp only [Prod.mk.injEq] at hzz
                have hcut1 := cut_to (P := Try.prog) 35 3 .i64 Try.underlying35 hii (some ao) out.length c3 (k : Int) (by omega) (by omega) (own_cap HO.out)
                simp only [Int.toNat_natCast] at hcut1
                obtain ⟨A9, hcut2, hA9⟩ := print_cut (P := Try.prog) 35 3 .i64 Try.underlying35 hii hzz.2.1 (some ao) out.length c3 k (by omega)
                have hR9 : ∀ W, ReadsInt W .i64 (some ao) out.length out → ReadsInt W .i64 A9 ys9.length ys9 := fun W h => by
                  have h2 := hA9 W .i64 out (own_cap HO.out) h
                  rw [← hys9] at h2
                  rwa [show ys9.length = out.length - k by rw [hys9, List.length_drop]]
                have HA9 := Aside0.mk hR9
                have HLY : Aside0 (xs9.length + ys9.length = out.length) := ⟨by rw [hxs9, hys9, List.length_take, List.length_drop]; omega⟩
                rw [show out.length - k = ys9.length by rw [hys9, List.length_drop]] at hcut2
                generalize c3 - k = c9 at hcut2
                have HNIL : Aside0 ((some ao) = none → c3 = 0) := ⟨fun e => by
                  rcases HO.out.2 with ⟨h1, _⟩ | ⟨g, cap, cur, h1, _⟩
                  · injection h1
                  · rw [e] at h1; injection h1 with h1; cases h1⟩
                clear hii hzz hA9 hR9 hxs9 hys9
                refine wp_region_rel 15 (fun n => if n = 0 then some [] else if n = 4 then some [0] else if n = 10 then some [] else if n = 11 then some [4, 10] else none) (fun n => [n]) (Rx wr.heap.size xs9 x.f0) (fun w' => Below wr.heap.size wr w') (Sx wr.heap.size xs9 x.f0) (by kernel_rfl) (by kernel_rfl) ⟨rfl, rfl, rfl, Nat.le_refl _, fun _ _ => rfl⟩ (fun a b h k => Sx.cls h k h.size) (fun n vs a b h k => Rx.keep n vs a b h k) ?_
                simp only [List.take_succ_cons, List.take_zero, List.drop_succ_cons, List.drop_zero]
                iterate 15 (first | (refine relQ_loud rfl ?_) | (apply relQ_step rfl; apply Exists.intro; constructor; (focus (intro w' hw'; have k0 := pw_cell_below hw' k0; unfold Yl; go_wp2_with fail; exact ⟨rfl, _, rfl, rfl, Sx.refl _ _ _ _⟩)); (try simp only [Act.put, List.setIfInBounds_toArray, List.set_cons_zero, List.set_cons_succ])))
                refine relQ_nil (fun xx => ?_)
                refine relL_loud rfl (fun w' hw' _ => ?_) ?_
                · unfold Yl
                  go_wp2_with fail
                  refine ⟨rfl, _, rfl, Sx.of_below (below_alloc (Below.refl _ _) _), ?_⟩
                  unfold Rx
                  rw [if_pos rfl]
                  exact ⟨w'.heap.size, by simp, hw'.size, blk_new w' _⟩
                (try simp only [Act.put, List.setIfInBounds_toArray, List.set_cons_zero, List.set_cons_succ])
                repeat (refine relL_quiet rfl ?_)
                refine relL_loud rfl (fun w' hw' hR => ?_) ?_
                · have r0 := hR 0 (by simp)
                  unfold Rx at r0
                  rw [if_pos rfl] at r0
                  obtain ⟨g, e0, hg, hb⟩ := r0
                  have e0 : xx 0 = .slice (some ⟨g, 0, none⟩) 0 0 := by simpa using e0
                  rw [e0]
                  unfold Yl
                  have HRD := (own_reads' HO.out).below hw'
                  have HRT := HRD.take_ k (by omega)
                  rw [← HXS.out.1] at HRT
                  have HRT2 : ReadsInt w' .i64 (some ao) xs9.length xs9 := by rw [HTL.out]; exact HRT
                  refine app_first w' rfl _ _ rfl wr.heap.size xs9 x.f0 g (by rfl) (some ao) c3 (by rw [HTL.out]; rfl) HNIL.out HRT2 hg hb hw'.size (by have := HN9.out; have := HTL.out; omega) (fun v1 w1 hs hr => ?_)
                  go_wp2_with fail
                  exact ⟨rfl, _, rfl, hs, by simpa using hr⟩
                (try simp only [Act.put, List.setIfInBounds_toArray, List.set_cons_zero, List.set_cons_succ])
                repeat (refine relL_quiet rfl ?_)
                refine relL_loud rfl (fun w' hw' _ => ?_) ?_
                · unfold Yl
                  go_wp2_with fail
                  refine ⟨rfl, _, rfl, Sx.of_below (below_alloc (Below.refl _ _) _), ?_⟩
                  unfold Rx
                  rw [if_neg (by decide), if_pos rfl]
                  exact ⟨w'.heap.size, by simp, hw'.size, blk_new w' _⟩
                (try simp only [Act.put, List.setIfInBounds_toArray, List.set_cons_zero, List.set_cons_succ])
                refine relL_loud rfl (fun w' hw' hR => ?_) ?_
                · have r4 := hR 4 (by simp)
                  have r10 := hR 10 (by simp)
                  unfold Yl
                  refine app_second w' rfl _ _ rfl wr.heap.size xs9 x.f0 (xx 4) (xx 10) (by rfl) (by rfl) (by simpa using r4) (by simpa using r10) hw'.size (by have := HN9.out; have := HTL.out; omega) (fun v1 w1 hs hr => ?_)
                  go_wp2_with fail
                  exact ⟨rfl, _, rfl, hs, by simpa using hr⟩
                (try simp only [Act.put, List.setIfInBounds_toArray, List.set_cons_zero, List.set_cons_succ])
                repeat (refine relL_quiet rfl ?_)
                refine relL_nil (fun w' hw' hR => ?_)
                have r11 := hR 11 (by decide) rfl
                unfold Rx at r11
                rw [if_neg (by decide), if_neg (by decide), if_neg (by decide), if_pos rfl] at r11
                obtain ⟨g, cap, cur, e11, hg, hb, hcap, hmax, hsz, htk⟩ := r11
                have e11 : xx 11 = .slice (some ⟨g, 0, none⟩) (xs9.length + 1) cap := by simpa using e11
                rw [e11]
                have HO11 : Aside0 (w'.ownsRow wr.heap.size 3 1 (.slice (some ⟨g, 0, none⟩) (xs9.length + 1) cap) (xs9 ++ [x.f0]).length (nums .i64 (xs9 ++ [x.f0]))) := ⟨⟨by simp [nums], .inr ⟨g, cap, cur, by simp, hg, hb, by simpa using hcap, hmax, by omega, by rw [List.length_append, Nat.mul_one]; exact htk⟩⟩⟩
                have HB9 := Aside0.mk hw'
                have HR9 := Aside0.mk (HA9.out w' ((own_reads' HO.out).below hw'))
                clear hw' hR hb hcap hmax hsz htk hg k0 k1
                go_wp2_with (at_builtin; refine print_append_row wr.heap.size rfl _ _ 35 3 .i64 8 rfl Try.underlying35 info3' (by decide) _ (xs9 ++ [x.f0]) ys9 A9 ys9.length _ rfl rfl HO11.out HR9.out HB9.out HB9.out.size (by have := HN9.out; have := HLY.out; rw [List.length_append]; simp only [List.length_cons, List.length_nil]; omega) ?_; intro v1 w1 hown hB1 hg1 hat)
                go_roundw
                case rel => exact ⟨i + 1, insAt out k x.f0, by omega, by go_num, ⟨by have := own_less hown HB.out.size; rw [HXS.out.1, HXS.out.2] at this; exact this⟩, HM, ⟨below_then HB.out HB.out.size hB1⟩⟩
                case measure => exact meas1 hlt (Int.natCast_succ i).symm
            · have b4 : decide (0 ≤ x.f0) = false := decide_eq_false hx0
              have HM : Aside0 (Good H (i + 1) out) := ⟨HGS.out hx0⟩
              generalize out.getD k 0 = u at o0 b3
              clear hux HOV HUX
              go_wp2
              repeat (go_quiet (fail); try go_wp2)
              go_roundw
              case rel => exact ⟨i + 1, out, by omega, by go_num, ⟨HO.out⟩, HM, ⟨pw_below_drewN HB.out _⟩⟩
              case measure => exact meas1 hlt (Int.natCast_succ i).symm
        · have b2 : decide ((k : Int) < (out.length : Int)) = false := decide_eq_false (by omega)
          obtain rfl : k = out.length := by omega
          by_cases hx0 : 0 ≤ x.f0
          · have b4 : decide (0 ≤ x.f0) = true := decide_eq_true hx0
            have HM : Aside0 (Good H (i + 1) (insAt out out.length x.f0)) := ⟨HGI.out hx0 (fun h => by omega)⟩
            go_wp2
            repeat (go_quiet (fail); try go_wp2)
            obtain ⟨xs9, hxs9⟩ : ∃ xs9, xs9 = out.take out.length := ⟨_, rfl⟩
            obtain ⟨ys9, hys9⟩ : ∃ ys9, ys9 = out.drop out.length := ⟨_, rfl⟩
            have HXS := Aside0.mk (And.intro hxs9 hys9)
            have HTL : Aside0 (xs9.length = out.length) := ⟨by rw [hxs9, List.length_take]; omega⟩
            have HN9 : Aside0 (out.length ≤ 1000000000000) := ⟨by have := HN.out; omega⟩
            obtain ⟨i0, hii, hzz⟩ := Option.map_eq_some_iff.1 info3'
            simp only [Prod.mk.injEq] at hzz
            have hcut1 := cut_to (P := Try.prog) 35 3 .i64 Try.underlying35 hii A3 out.length c3 (out.length : Int) (by omega) (by omega) (own_cap HO.out)
            simp only [Int.toNat_natCast] at hcut1
            obtain ⟨A9, hcut2, hA9⟩ := print_cut (P := Try.prog) 35 3 .i64 Try.underlying35 hii hzz.2.1 A3 out.length c3 out.length (by omega)
            have hR9 : ∀ W, ReadsInt W .i64 A3 out.length out → ReadsInt W .i64 A9 ys9.length ys9 := fun W h => by
              have h2 := hA9 W .i64 out (own_cap HO.out) h
              rw [← hys9] at h2
              rwa [show ys9.length = out.length - out.length by rw [hys9, List.length_drop]]
            have HA9 := Aside0.mk hR9
            have HLY : Aside0 (xs9.length + ys9.length = out.length) := ⟨by rw [hxs9, hys9, List.length_take, List.length_drop]; omega⟩
            rw [show out.length - out.length = ys9.length by rw [hys9, List.length_drop]] at hcut2
            generalize c3 - out.length = c9 at hcut2
            have HNIL : Aside0 (A3 = none → c3 = 0) := ⟨fun e => by
              rcases HO.out.2 with ⟨h1, _⟩ | ⟨g, cap, cur, h1, _⟩
              · injection h1
              · rw [e] at h1; injection h1 with h1; cases h1⟩
            clear hii hzz hA9 hR9 hxs9 hys9
            refine wp_region_rel 15 (fun n => if n = 0 then some [] else if n = 4 then some [0] else if n = 10 then some [] else if n = 11 then some [4, 10] else none) (fun n => [n]) (Rx wr.heap.size xs9 x.f0) (fun w' => Below wr.heap.size wr w') (Sx wr.heap.size xs9 x.f0) (by kernel_rfl) (by kernel_rfl) ⟨rfl, rfl, rfl, Nat.le_refl _, fun _ _ => rfl⟩ (fun a b h k => Sx.cls h k h.size) (fun n vs a b h k => Rx.keep n vs a b h k) ?_
            simp only [List.take_succ_cons, List.take_zero, List.drop_succ_cons, List.drop_zero]
            iterate 15 (first | (refine relQ_loud rfl ?_) | (apply relQ_step rfl; apply Exists.intro; constructor; (focus (intro w' hw'; have k0 := pw_cell_below hw' k0; unfold Yl; go_wp2_with fail; exact ⟨rfl, _, rfl, rfl, Sx.refl _ _ _ _⟩)); (try simp only [Act.put, List.setIfInBounds_toArray, List.set_cons_zero, List.set_cons_succ])))
            refine relQ_nil (fun xx => ?_)
            refine relL_loud rfl (fun w' hw' _ => ?_) ?_
            · unfold Yl
              go_wp2_with fail
              refine ⟨rfl, _, rfl, Sx.of_below (below_alloc (Below.refl _ _) _), ?_⟩
              unfold Rx
              rw [if_pos rfl]
              exact ⟨w'.heap.size, by simp, hw'.size, blk_new w' _⟩
            (try simp only [Act.put, List.setIfInBounds_toArray, List.set_cons_zero, List.set_cons_succ])
            repeat (refine relL_quiet rfl ?_)
            refine relL_loud rfl (fun w' hw' hR => ?_) ?_
            · have r0 := hR 0 (by simp)
              unfold Rx at r0
              rw [if_pos rfl] at r0
              obtain ⟨g, e0, hg, hb⟩ := r0
              have e0 : xx 0 = .slice (some ⟨g, 0, none⟩) 0 0 := by simpa using e0
              rw [e0]
              unfold Yl
              have HRD := (own_reads' HO.out).below hw'
              have HRT := HRD.take_ out.length (by omega)
              rw [← HXS.out.1] at HRT
              have HRT2 : ReadsInt w' .i64 A3 xs9.length xs9 := by rw [HTL.out]; exact HRT
              refine app_first w' rfl _ _ rfl wr.heap.size xs9 x.f0 g (by rfl) A3 c3 (by rw [HTL.out]; rfl) HNIL.out HRT2 hg hb hw'.size (by have := HN9.out; have := HTL.out; omega) (fun v1 w1 hs hr => ?_)
              go_wp2_with fail
              exact ⟨rfl, _, rfl, hs, by simpa using hr⟩
            (try simp only [Act.put, List.setIfInBounds_toArray, List.set_cons_zero, List.set_cons_succ])
            repeat (refine relL_quiet rfl ?_)
            refine relL_loud rfl (fun w' hw' _ => ?_) ?_
            · unfold Yl
              go_wp2_with fail
              refine ⟨rfl, _, rfl, Sx.of_below (below_alloc (Below.refl _ _) _), ?_⟩
              unfold Rx
              rw [if_neg (by decide), if_pos rfl]
              exact ⟨w'.heap.size, by simp, hw'.size, blk_new w' _⟩
            (try simp only [Act.put, List.setIfInBounds_toArray, List.set_cons_zero, List.set_cons_succ])
            refine relL_loud rfl (fun w' hw' hR => ?_) ?_
            · have r4 := hR 4 (by simp)
              have r10 := hR 10 (by simp)
              unfold Yl
              refine app_second w' rfl _ _ rfl wr.heap.size xs9 x.f0 (xx 4) (xx 10) (by rfl) (by rfl) (by simpa using r4) (by simpa using r10) hw'.size (by have := HN9.out; have := HTL.out; omega) (fun v1 w1 hs hr => ?_)
              go_wp2_with fail
              exact ⟨rfl, _, rfl, hs, by simpa using hr⟩
            (try simp only [Act.put, List.setIfInBounds_toArray, List.set_cons_zero, List.set_cons_succ])
            repeat (refine relL_quiet rfl ?_)
            refine relL_nil (fun w' hw' hR => ?_)
            have r11 := hR 11 (by decide) rfl
            unfold Rx at r11
            rw [if_neg (by decide), if_neg (by decide), if_neg (by decide), if_pos rfl] at r11
            obtain ⟨g, cap, cur, e11, hg, hb, hcap, hmax, hsz, htk⟩ := r11
            have e11 : xx 11 = .slice (some ⟨g, 0, none⟩) (xs9.length + 1) cap := by simpa using e11
            rw [e11]
            have HO11 : Aside0 (w'.ownsRow wr.heap.size 3 1 (.slice (some ⟨g, 0, none⟩) (xs9.length + 1) cap) (xs9 ++ [x.f0]).length (nums .i64 (xs9 ++ [x.f0]))) := ⟨⟨by simp [nums], .inr ⟨g, cap, cur, by simp, hg, hb, by simpa using hcap, hmax, by omega, by rw [List.length_append, Nat.mul_one]; exact htk⟩⟩⟩
            have HB9 := Aside0.mk hw'
            have HR9 := Aside0.mk (HA9.out w' ((own_reads' HO.out).below hw'))
            clear hw' hR hb hcap hmax hsz htk hg k0 k1
            go_wp2_with (at_builtin; refine print_append_row wr.heap.size rfl _ _ 35 3 .i64 8 rfl Try.underlying35 info3' (by decide) _ (xs9 ++ [x.f0]) ys9 A9 ys9.length _ rfl rfl HO11.out HR9.out HB9.out HB9.out.size (by have := HN9.out; have := HLY.out; rw [List.length_append]; simp only [List.length_cons, List.length_nil]; omega) ?_; intro v1 w1 hown hB1 hg1 hat)
            go_roundw
            case rel => exact ⟨i + 1, insAt out out.length x.f0, by omega, by go_num, ⟨by have := own_less hown HB.out.size; rw [HXS.out.1, HXS.out.2] at this; exact this⟩, HM, ⟨below_then HB.out HB.out.size hB1⟩⟩
            case measure => exact meas1 hlt (Int.natCast_succ i).symm
          · have b4 : decide (0 ≤ x.f0) = false := decide_eq_false hx0
            have HM : Aside0 (Good H (i + 1) out) := ⟨HGS.out hx0⟩
            go_wp2
            repeat (go_quiet (fail); try go_wp2)
            go_roundw
            case rel => exact ⟨i + 1, out, by omega, by go_num, ⟨HO.out⟩, HM, ⟨pw_below_drewN HB.out _⟩⟩
            case measure => exact meas1 hlt (Int.natCast_succ i).symm
    · have b1 : decide ((i : Int) < (H.length : Int)) = false := decide_eq_false (by omega)
      obtain rfl : i = H.length := by omega
      go_wp2
      go_ret
      exact ⟨_, rfl, by rw [← HGD.out.all]; exact HO.out, HB.out⟩
theorem swageref26_Used.calls (A0 : Option Addr) (c0 : Nat) (l0 : List S40) (r : List Int) (w : World) (hr0 : Kd.C k40 w A0 l0.length l0) (hc0 : l0.length ≤ c0) (h : swageref26_Used.f l0 = some r) :
    Calls Try.prog 22 #[.slice A0 l0.length c0] w fun e w' => ∃ v0_, e = .returned v0_ ∧ Kd.R (Kd.int .i64) 3 w' w.heap.size (fun _ => True) v0_ r ∧ Below w.heap.size w w' := by
  unfold swageref26_Used.f scan_Used.f at h
  by_cases hn : l0.length ≤ 1000000000000
  · rw [if_pos hn] at h
    obtain rfl := Option.some.inj h
    refine (rused_any A0 c0 l0 w hr0 hn).mono ?_
    rintro e w' ⟨v, rfl, ho, hb⟩
    exact ⟨v, rfl, Kd.R_of_own ho (fun _ _ => trivial), hb⟩
  · rw [if_neg hn] at h
    cases h
end Go.Proofs.Ytncpgclcbdgndaa.S
