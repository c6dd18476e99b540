import Derived.Test.YtncpgclcbdgndaaOrr
import Derived.StillTailTactics
namespace Go.Proofs.Ytncpgclcbdgndaa.S
open Go.RowKit Go.Proofs.YtncpgclcbdgndaaW.PrintWords Go.Proofs.YtncpgclcbdgndaaW.PrintLast Go.Proofs.YtncpgclcbdgndaaW.PrintMore
set_option linter.unusedVariables false
/-! ### The document's Homes -/
set_option maxHeartbeats 8000000 in
set_option maxRecDepth 100000 in
theorem rhomes_bad (A : Option Addr) (c : Nat) (l : List S38) (a1 : Int) (w : World) (hr : Kd.C k38 w A l.length l) (hc : l.length ≤ c) (hb : ¬ (rgt l [] = true ∧ 0 ≤ a1 ∧ a1 ≤ 16)) :
    Calls Try.prog 11 #[.slice A l.length c, .int .i64 a1] w fun e w' => HP l a1 w e w' := by
  obtain ⟨K, hK⟩ := rright_f l hr.2.1
  have hright := Aside0.mk (swageref26_Right.calls (K + 1) A c l _ w hr hc (hK (K + 1) (by omega)))
  have HBad := Aside0.mk hb
  clear hr hK
  by_cases hg : rgt l [] = true
  · rw [hg] at hright
    by_cases h0 : a1 < 0
    · have b1 : decide (a1 < 0) = true := decide_eq_true h0
      clear hb hg h0
      go_enter Try.func11, Try.ntmps11
      go_wp2_with (go_at_call 14; refine hright.out.mono ?_; rintro e w5 ⟨rfl, hd⟩)
      go_ret2
      exact hp_bad HBad.out hd.below
    · have b1 : decide (a1 < 0) = false := decide_eq_false h0
      have b2 : decide (16 < a1) = true := decide_eq_true (Int.not_le.1 fun h => hb ⟨hg, by omega, h⟩)
      clear hb hg h0
      go_enter Try.func11, Try.ntmps11
      go_wp2_with (go_at_call 14; refine hright.out.mono ?_; rintro e w5 ⟨rfl, hd⟩)
      go_ret2
      exact hp_bad HBad.out hd.below
  · rw [Bool.eq_false_iff.2 hg] at hright
    clear hb hg
    go_enter Try.func11, Try.ntmps11
    go_wp2_with (go_at_call 14; refine hright.out.mono ?_; rintro e w5 ⟨rfl, hd⟩)
    go_ret2
    exact hp_bad HBad.out hd.below
theorem last_snoc {T R : Nat → Int} (S : List Nat) (k i : Nat) : Scan.last T R (S ++ [i]) k = if Scan.gt T R i (Scan.last T R S k) = true then i else Scan.last T R S k := by
  unfold Scan.last
  rw [List.foldl_append]
  rfl
set_option maxHeartbeats 8000000 in
set_option maxRecDepth 100000 in
theorem rhomes_good (A : Option Addr) (c : Nat) (l : List S38) (a1 : Int) (w : World) (hr : Kd.C k38 w A l.length l) (hc : l.length ≤ c) (hg : rgt l [] = true ∧ 0 ≤ a1 ∧ a1 ≤ 16) :
    Calls Try.prog 11 #[.slice A l.length c, .int .i64 a1] w fun e w' => HP l a1 w e w' := by
  have hu38 := Try.underlying38
  have hu40 := Try.underlying40
  have hu55 := Try.underlying55
  obtain ⟨K, hK⟩ := rright_f l hr.2.1
  have hright := swageref26_Right.calls (K + 1) A c l _ w hr hc (hK (K + 1) (by omega))
  rw [hg.1] at hright
  have hright := Aside0.mk hright
  have HR := Aside0.mk hr
  have HC := Aside0.mk hc
  have HG := Aside0.mk hg
  have HN := Aside0.mk (rgt_len hg.1)
  have hmk := make40 l.length (rgt_len hg.1)
  have hmk2 := make42 l.length (rgt_len hg.1)
  have b1 : decide (a1 < 0) = false := decide_eq_false (by omega)
  have b2 : decide (16 < a1) = false := decide_eq_false (by omega)
  have hn63 := hr.2.1
  clear hr hg hK
  go_enter Try.func11, Try.ntmps11
  go_wp2_with (go_at_call 14; refine hright.out.mono ?_; rintro e w5 ⟨rfl, hd⟩)
  have HB0 : Aside0 (Below w.heap.size w ((w5.alloc (.cells (c40 (List.replicate l.length ⟨0, 0⟩)).toArray 40)).alloc (.cells (bz l.length) 4))) := ⟨below_alloc (below_alloc hd.below _) _⟩
  have HO0 : Aside0 (((w5.alloc (.cells (c40 (List.replicate l.length ⟨0, 0⟩)).toArray 40)).alloc (.cells (bz l.length) 4)).heap[w5.heap.size]? = some (.cells (c40 (List.replicate l.length ⟨0, 0⟩)).toArray 40 (0, 0))) := ⟨blk_alloc (blk_new w5 _) _⟩
  have HD0 : Aside0 (((w5.alloc (.cells (c40 (List.replicate l.length ⟨0, 0⟩)).toArray 40)).alloc (.cells (bz l.length) 4)).heap[w5.heap.size + 1]? = some (.cells ((List.replicate l.length false).map Value.bool).toArray 4 (0, 0))) := ⟨by
    have := blk_new (w5.alloc (.cells (c40 (List.replicate l.length ⟨0, 0⟩)).toArray 40)) (.cells (bz l.length) 4)
    rwa [World.size_alloc] at this⟩
  have HWS : Aside0 (w.heap.size ≤ w5.heap.size) := ⟨hd.below.size⟩
  generalize w5.heap.size = ob at *
  clear hd hmk hmk2 b1 b2
  go_loopw [10, 9] (fun v10 v9 wr => ∃ (j sl : Nat) (H : List S40) (D : List Bool), j ≤ l.length ∧ v10 = .int .i64 (j : Int) ∧ v9 = .int .i64 (sl : Int) ∧ Aside0 (H.length = l.length) ∧ Aside0 (wr.heap[ob]? = some (.cells (c40 H).toArray 40 (0, 0))) ∧ Aside0 (wr.heap[ob + 1]? = some (.cells (D.map Value.bool).toArray 4 (0, 0))) ∧ Aside0 (Done l j D) ∧ Aside0 (∃ act, Scan.homes a1.toNat (fF l) (fT l) (fR l) ((ordOf l).take j) = ⟨act, h0 H, h1 H, sl⟩) ∧ Aside0 (Below w.heap.size w wr)) (fun v10 _ _ => l.length - (intOf v10).toNat)
  case atStart => exact ⟨0, 0, List.replicate l.length ⟨0, 0⟩, List.replicate l.length false, Nat.zero_le _, rfl, rfl, ⟨List.length_replicate⟩, HO0, ⟨HD0.out⟩, ⟨⟨List.length_replicate, fun q hq => by simp [hq]⟩⟩, ⟨[], by rw [(h_rep _).1, (h_rep _).2]; rfl⟩, HB0⟩
  case round =>
    clear HO0 HD0 HB0
    obtain ⟨j, sl, H, D, hj, rfl, rfl, HL, HO, HD, HDN, HST, HB⟩ := hrel
    by_cases hlt : j < l.length
    · have b3 : decide ((j : Int) < (l.length : Int)) = true := decide_eq_true (by omega)
      have hjo : j < (ordOf l).length := by rw [ordOf_length]; exact hlt
      have HNX := next_f HG.out.1 hjo HDN.out
      have HDN1 := Aside0.mk (HDN.out.next hjo)
      have HHS := Aside0.mk (homes_succ a1.toNat l hjo)
      have HIN := Aside0.mk (inv_from HG.out.1 (regs := a1.toNat) (by have := HG.out; omega) j hjo)
      have hkl : (ordOf l)[j] < l.length := ordOf_mem.1 (List.getElem_mem hjo)
      have HSP := Aside0.mk (fun {act : List Nat} {sl : Nat} {p : Int} => rS_perm (l := l) (regs := a1.toNat) hjo HDN.out (H := H) (act := act) (sl := sl) (p := p))
      generalize (ordOf l)[j] = k at HNX HDN1 HHS HIN hkl HSP
      have hC := C_bools D HD.out (by rw [HDN.out.1]; exact hn63)
      have HNC := swageref26_next.calls (l.length + 1) A c l _ l.length D _ wr (Kd.C_below HR.out HB.out) HC.out hC (by rw [HDN.out.1]; exact Nat.le_refl _) HNX
      rw [HDN.out.1] at HNC
      have HNC := Aside0.mk HNC
      clear hC HNX
      go_wp2_with (go_at_call 31; refine HNC.out.mono ?_; rintro e w6 ⟨rfl, hd6⟩)
      have HB6 := Aside0.mk (below_then HB.out HB.out.size hd6)
      have HO6 := Aside0.mk (blk_below HO.out hd6)
      have HD6 := Aside0.mk (blk_below HD.out hd6)
      have HOL : Aside0 (ob + 1 < w6.heap.size) := ⟨blk_lt HD6.out⟩
      have HT6 : Aside0 ((w6.alloc (.cells #[.bool false, .bool false, .bool false, .bool false, .bool false, .bool false, .bool false, .bool false, .bool false, .bool false, .bool false, .bool false, .bool false, .bool false, .bool false, .bool false] 55)).heap[w6.heap.size]? = some (.cells ((tk2 (h0 H) (rS l D H k 0)).map Value.bool).toArray 55 (0, 0))) := ⟨blk_new w6 _⟩
      have HB7 := Aside0.mk (below_alloc HB6.out (.cells #[.bool false, .bool false, .bool false, .bool false, .bool false, .bool false, .bool false, .bool false, .bool false, .bool false, .bool false, .bool false, .bool false, .bool false, .bool false, .bool false] 55))
      have HO7 := Aside0.mk (blk_alloc HO6.out (.cells #[.bool false, .bool false, .bool false, .bool false, .bool false, .bool false, .bool false, .bool false, .bool false, .bool false, .bool false, .bool false, .bool false, .bool false, .bool false, .bool false] 55))
      have HD7 := Aside0.mk (blk_alloc HD6.out (.cells #[.bool false, .bool false, .bool false, .bool false, .bool false, .bool false, .bool false, .bool false, .bool false, .bool false, .bool false, .bool false, .bool false, .bool false, .bool false, .bool false] 55))
      have HKL := Aside0.mk hkl
      have HH16 : Aside0 (∀ q, q < l.length → D.getD q false = true → 0 ≤ h0 H q → h0 H q < 16) := ⟨fun q hq hd h0q => by
        obtain ⟨p, hp, hI⟩ := HIN.out
        obtain ⟨act, hact⟩ := HST.out
        rw [hact] at hI
        have h3 := hI.dom q ((HDN.out.2 q hq).1 hd)
        have := HG.out
        rcases h3 with ⟨h5, _⟩ | ⟨_, h5, _⟩
        · have h5 : h0 H q = -1 := h5
          omega
        · have h5 : h0 H q < (a1.toNat : Int) := h5
          omega⟩
      generalize w6.heap.size = tb at *
      clear hd6 HB HO HD HO6 HD6 HB6 HNC hkl
      go_loopw [15, 13, 14] (fun v15 v13 v14 wi => ∃ i b : Nat, i ≤ l.length ∧ b < l.length ∧ v15 = .int .i64 (i : Int) ∧ v13 = .int .i64 ((rS l D H k i).length : Int) ∧ v14 = .int .i64 (b : Int) ∧ Aside0 (b = Scan.last (fT l) (fR l) (rS l D H k i) k) ∧ Aside0 (wi.heap[tb]? = some (.cells ((tk2 (h0 H) (rS l D H k i)).map Value.bool).toArray 55 (0, 0))) ∧ Aside0 (wi.heap[ob]? = some (.cells (c40 H).toArray 40 (0, 0))) ∧ Aside0 (wi.heap[ob + 1]? = some (.cells (D.map Value.bool).toArray 4 (0, 0))) ∧ Aside0 (Below w.heap.size w wi)) (fun v15 _ _ _ => l.length - (intOf v15).toNat)
      case atStart => exact ⟨0, k, Nat.zero_le _, HKL.out, rfl, rfl, rfl, ⟨rfl⟩, HT6, HO7, HD7, HB7⟩
      case round =>
        obtain ⟨i, b, hi, hbl, rfl, rfl, rfl, HLB, HT, HO, HD, HB⟩ := hrel
        clear HT6 HO7 HD7 HB7
        by_cases hil : i < l.length
        · have b4 : decide ((i : Int) < (l.length : Int)) = true := decide_eq_true (by omega)
          have hiH : i < H.length := by rw [HL.out]; exact hil
          have hiD : i < D.length := by rw [HDN.out.1]; exact hil
          have e1 : wr.cell? ⟨ob + 1, i, none⟩ = some (.bool (D.getD i false)) := by
            refine (blk_cell HD.out i).trans ?_
            simp [List.getD_eq_getElem?_getD, hiD]
          have e2 : wr.cell? ⟨ob, i * 2, none⟩ = some (.int .i64 (h0 H i)) := by
            refine (blk_cell HO.out (i * 2)).trans ?_
            rw [List.getElem?_toArray, (c40_at H i hiH).1]
            unfold h0
            rw [rd40 hiH]
          obtain ⟨ad, eA, i0, i1, i2⟩ := at_T38 (Kd.C_below HR.out HB.out) (i : Int) (by omega) (by omega)
          obtain ⟨ad', eA', k0, k1, k2⟩ := at_T38 (Kd.C_below HR.out HB.out) (k : Int) (by omega) (by have := HKL.out; omega)
          rw [eA] at eA'
          obtain rfl : ad = ad' := by injection eA'
          obtain ⟨ad', eA', c0, c1, c2⟩ := at_T38 (Kd.C_below HR.out HB.out) (b : Int) (by omega) (by omega)
          rw [eA] at eA'
          obtain rfl : ad = ad' := by injection eA'
          simp only [Int.toNat_natCast] at i0 i1 i2 k0 k1 k2 c0 c1 c2
          have HRS := Aside0.mk (rS_succ l D H k i)
          have HFI : Aside0 ((rd_T38 l (i : Int)).f2 = fT l i) := ⟨rfl⟩
          have HFK : Aside0 ((rd_T38 l (k : Int)).f1 = fF l k) := ⟨rfl⟩
          have HLF := Aside0.mk (longer_f l i b)
          have hkl := HKL.out
          obtain ⟨x, hx⟩ : ∃ x, x = rd_T38 l (i : Int) := ⟨_, rfl⟩
          rw [← hx] at i0 i1 i2 HFI HLF
          have HX := Aside0.mk hx
          clear hx
          generalize rd_T38 l (k : Int) = y at k0 k1 k2 HFK
          obtain ⟨z, hz⟩ : ∃ z, z = rd_T38 l (b : Int) := ⟨_, rfl⟩
          rw [← hz] at c0 c1 c2 HLF
          have HZ := Aside0.mk hz
          clear hz
          subst eA
          by_cases d1 : D.getD i false = true
          · rw [d1] at e1
            by_cases d2 : 0 ≤ h0 H i
            · have b5 : decide (0 ≤ h0 H i) = true := decide_eq_true d2
              obtain ⟨r, hr0⟩ := Int.eq_ofNat_of_zero_le d2
              by_cases d3 : fF l k ≤ fT l i
              · have b6 : decide (y.f1 ≤ x.f2) = true := by rw [HFI.out, HFK.out]; exact decide_eq_true d3
                have HS : Aside0 (rS l D H k (i + 1) = rS l D H k i ++ [i]) := ⟨by rw [HRS.out, if_pos (by rw [d1, decide_eq_true d2, decide_eq_true d3]; rfl)]⟩
                have hr16 : r < 16 := by have := HH16.out i hil d1 d2; omega
                have HRR : Aside0 (h0 H i = (r : Int)) := ⟨hr0⟩
                have tl : ∀ S, (tk2 (h0 H) S).length = 16 := fun S => tk2_length _ _
                have e3 : wr.cell? ⟨tb, r, none⟩ = some (.bool ((tk2 (h0 H) (rS l D H k i))[r]'(by rw [tl]; exact hr16))) := by
                  refine (blk_cell HT.out r).trans ?_
                  simp [tl, hr16]
                have e4 := blk_frozen HT.out r
                rw [hr0] at e2
                have hlen := rS_len l D H k i
                clear d1 d2 d3 hr0 b5
                go_wp2
                repeat (go_quiet (fail); try go_wp2)
                have HT2 : Aside0 (((wr.drewN nq).setCell ⟨tb, r, none⟩ (.bool true)).heap[tb]? = some (.cells ((tk2 (h0 H) (rS l D H k (i + 1))).map Value.bool).toArray 55 (0, 0))) := ⟨by
                  have h1 := blk_set (show (wr.drewN nq).heap[tb]? = some (.cells ((tk2 (h0 H) (rS l D H k i)).map Value.bool).toArray 55 (0, 0)) from HT.out) r (.bool true)
                  rw [h1, HS.out, ← tk2_set _ _ _ _ HRR.out]
                  simp [List.map_set]⟩
                have HO2 : Aside0 (((wr.drewN nq).setCell ⟨tb, r, none⟩ (.bool true)).heap[ob]? = some (.cells (c40 H).toArray 40 (0, 0))) := ⟨blk_far (show (wr.drewN nq).heap[ob]? = _ from HO.out) (by show ob ≠ tb; have := HOL.out; omega) _⟩
                have HD2 : Aside0 (((wr.drewN nq).setCell ⟨tb, r, none⟩ (.bool true)).heap[ob + 1]? = some (.cells (D.map Value.bool).toArray 4 (0, 0))) := ⟨blk_far (show (wr.drewN nq).heap[ob + 1]? = _ from HD.out) (by show ob + 1 ≠ tb; have := HOL.out; omega) _⟩
                have HB2 : Aside0 (Below w.heap.size w ((wr.drewN nq).setCell ⟨tb, r, none⟩ (.bool true))) := ⟨(pw_below_drewN HB.out nq).setCell (by show w.heap.size ≤ tb; have := HOL.out; have := HWS.out; omega) _⟩
                generalize ((wr.drewN nq).setCell ⟨tb, r, none⟩ (.bool true)) = W2 at HT2 HO2 HD2 HB2 ⊢
                obtain ⟨ad2, eA2, g0, g1, g2⟩ := at_T38 (Kd.C_below HR.out HB2.out) (i : Int) (by omega) (by omega)
                obtain rfl : ad = ad2 := by injection eA2
                obtain ⟨ad2, eA2, m0, m1, m2⟩ := at_T38 (Kd.C_below HR.out HB2.out) (b : Int) (by omega) (by omega)
                obtain rfl : ad = ad2 := by injection eA2
                rw [Int.toNat_natCast, ← HX.out] at g0 g1 g2
                rw [Int.toNat_natCast, ← HZ.out] at m0 m1 m2
                clear i0 i1 i2 k0 k1 k2 c0 c1 c2 e1 e2 e3 e4
                cases hgt : Scan.gt (fT l) (fR l) i b with
                | true =>
                  rw [hgt] at HLF
                  have HLC := Aside0.mk (fun W => swageref26_longer.calls x.f0 x.f1 x.f2 z.f0 z.f1 z.f2 _ W HLF.out)
                  have HGT := Aside0.mk hgt
                  clear hgt
                  go_still_tail 8, (by kernel_rfl)
                  go_wp2_with (go_at_call 32; refine (HLC.out _).mono ?_; rintro e w8 ⟨rfl, hd8⟩)
                  go_roundw
                  case rel => exact ⟨i + 1, i, by omega, hil, by go_num, by rw [HS.out, List.length_append]; rfl, rfl, ⟨by rw [HS.out, last_snoc, ← HLB.out, HGT.out]; rfl⟩, ⟨blk_below (blk_drew HT2.out) hd8⟩, ⟨blk_below (blk_drew HO2.out) hd8⟩, ⟨blk_below (blk_drew HD2.out) hd8⟩, ⟨below_then (below_drew1 HB2.out) HB2.out.size hd8⟩⟩
                  case measure => exact meas hil (Int.natCast_succ i).symm
                | false =>
                  rw [hgt] at HLF
                  have HLC := Aside0.mk (fun W => swageref26_longer.calls x.f0 x.f1 x.f2 z.f0 z.f1 z.f2 _ W HLF.out)
                  have HGT := Aside0.mk hgt
                  clear hgt
                  go_still_tail 8, (by kernel_rfl)
                  go_wp2_with (go_at_call 32; refine (HLC.out _).mono ?_; rintro e w8 ⟨rfl, hd8⟩)
                  go_roundw
                  case rel => exact ⟨i + 1, b, by omega, hbl, by go_num, by rw [HS.out, List.length_append]; rfl, rfl, ⟨by rw [HS.out, last_snoc, ← HLB.out, HGT.out]; rfl⟩, ⟨blk_below (blk_drew HT2.out) hd8⟩, ⟨blk_below (blk_drew HO2.out) hd8⟩, ⟨blk_below (blk_drew HD2.out) hd8⟩, ⟨below_then (below_drew1 HB2.out) HB2.out.size hd8⟩⟩
                  case measure => exact meas hil (Int.natCast_succ i).symm
              · have b6 : decide (y.f1 ≤ x.f2) = false := by rw [HFI.out, HFK.out]; exact decide_eq_false d3
                have HS : Aside0 (rS l D H k (i + 1) = rS l D H k i) := ⟨by rw [HRS.out, if_neg (by rw [decide_eq_false d3]; simp), List.append_nil]⟩
                rw [hr0] at e2
                clear d1 d2 d3 hr0 b5
                go_wp2
                repeat (go_quiet (fail); try go_wp2)
                go_roundw
                case rel => exact ⟨i + 1, b, by omega, hbl, by go_num, by rw [HS.out], rfl, ⟨by rw [HS.out]; exact HLB.out⟩, ⟨by rw [HS.out]; exact HT.out⟩, ⟨HO.out⟩, ⟨HD.out⟩, ⟨pw_below_drewN HB.out _⟩⟩
                case measure => exact meas hil (Int.natCast_succ i).symm
            · have b5 : decide (0 ≤ h0 H i) = false := decide_eq_false d2
              have HS : Aside0 (rS l D H k (i + 1) = rS l D H k i) := ⟨by rw [HRS.out, if_neg (by rw [decide_eq_false d2]; simp), List.append_nil]⟩
              generalize h0 H i = hx at e2 b5
              clear d1 d2
              go_wp2
              repeat (go_quiet (fail); try go_wp2)
              go_roundw
              case rel => exact ⟨i + 1, b, by omega, hbl, by go_num, by rw [HS.out], rfl, ⟨by rw [HS.out]; exact HLB.out⟩, ⟨by rw [HS.out]; exact HT.out⟩, ⟨HO.out⟩, ⟨HD.out⟩, ⟨pw_below_drewN HB.out _⟩⟩
              case measure => exact meas hil (Int.natCast_succ i).symm
          · rw [Bool.eq_false_iff.2 d1] at e1
            have HS : Aside0 (rS l D H k (i + 1) = rS l D H k i) := ⟨by rw [HRS.out, if_neg (by rw [Bool.eq_false_iff.2 d1]; simp), List.append_nil]⟩
            clear d1
            go_wp2
            repeat (go_quiet (fail); try go_wp2)
            go_roundw
            case rel => exact ⟨i + 1, b, by omega, hbl, by go_num, by rw [HS.out], rfl, ⟨by rw [HS.out]; exact HLB.out⟩, ⟨by rw [HS.out]; exact HT.out⟩, ⟨HO.out⟩, ⟨HD.out⟩, ⟨pw_below_drewN HB.out _⟩⟩
            case measure => exact meas hil (Int.natCast_succ i).symm
        · have b4 : decide ((i : Int) < (l.length : Int)) = false := decide_eq_false (by omega)
          obtain rfl : i = l.length := by omega
          have hkl := HKL.out
          have hkD : k < D.length := by rw [HDN.out.1]; exact hkl
          have hkH : k < H.length := by rw [HL.out]; exact hkl
          have HCORE : Aside0 (∃ act', Scan.homes a1.toNat (fF l) (fT l) (fR l) ((ordOf l).take (j + 1)) = (if (rS l D H k l.length).length < a1.toNat then (⟨act', Scan.upd (h0 H) k (Scan.free (h0 H) (rS l D H k l.length)), Scan.upd (h1 H) k 0, sl⟩ : Scan.St) else if b = k then ⟨act', Scan.upd (h0 H) k (-1), Scan.upd (h1 H) k sl, sl + 1⟩ else ⟨act', Scan.upd (Scan.upd (h0 H) k (h0 H b)) b (-1), Scan.upd (Scan.upd (h1 H) k 0) b sl, sl + 1⟩)) := ⟨by
            obtain ⟨p, hp, hI⟩ := HIN.out
            obtain ⟨act, hact⟩ := HST.out
            rw [hact] at hI
            have hperm := HSP.out hp hI
            obtain ⟨act', hc⟩ := core_perm (regs := a1.toNat) (k := k) (T := fT l) (R := fR l) (s := ⟨act, h0 H, h1 H, sl⟩) hperm (fun a ha b hb hab => by
              have q : ∀ x ∈ k :: rS l D H k l.length, x < l.length := fun x hx => by
                rcases List.mem_cons.1 hx with rfl | hx
                · exact hkl
                · unfold rS at hx
                  exact List.mem_range.1 (List.mem_filter.1 hx).1
              exact rgt_inj HG.out.1 (q a ha) (q b hb) hab)
            refine ⟨act', ?_⟩
            rw [HHS.out, hact, HLB.out]
            exact hc⟩
          have e1 : wr.cell? ⟨ob + 1, k, none⟩ = some (.bool (D.getD k false)) := by
            refine (blk_cell HD.out k).trans ?_
            simp [List.getD_eq_getElem?_getD, hkD]
          have e1f := blk_frozen HD.out k
          have HO3 : Aside0 ((wr.setCell ⟨ob + 1, k, none⟩ (.bool true)).heap[ob]? = some (.cells (c40 H).toArray 40 (0, 0))) := ⟨blk_far HO.out (by show ob ≠ ob + 1; omega) _⟩
          have HT3 : Aside0 ((wr.setCell ⟨ob + 1, k, none⟩ (.bool true)).heap[tb]? = some (.cells ((tk2 (h0 H) (rS l D H k l.length)).map Value.bool).toArray 55 (0, 0))) := ⟨blk_far HT.out (by show tb ≠ ob + 1; have := HOL.out; omega) _⟩
          have HD3 : Aside0 ((wr.setCell ⟨ob + 1, k, none⟩ (.bool true)).heap[ob + 1]? = some (.cells ((D.set k true).map Value.bool).toArray 4 (0, 0))) := ⟨by
            have h1 := blk_set HD.out k (.bool true)
            rw [h1]
            simp [List.map_set]⟩
          have HB3 : Aside0 (Below w.heap.size w (wr.setCell ⟨ob + 1, k, none⟩ (.bool true))) := ⟨HB.out.setCell (by show w.heap.size ≤ ob + 1; have := HWS.out; omega) _⟩
          go_upto_region 23 with (fail)
          generalize (wr.setCell ⟨ob + 1, k, none⟩ (.bool true)) = W3 at HO3 HT3 HD3 HB3 ⊢
          clear e1 e1f HO HT HD HB
          have hbH : b < H.length := by rw [HL.out]; exact hbl
          have eh0 : W3.cell? ⟨ob, k * 2, none⟩ = some (.int .i64 (h0 H k)) := by
            refine (blk_cell HO3.out (k * 2)).trans ?_
            rw [List.getElem?_toArray, (c40_at H k hkH).1]
            unfold h0
            rw [rd40 hkH]
          have eh1 : W3.cell? ⟨ob, k * 2 + 1, none⟩ = some (.int .i64 (h1 H k)) := by
            refine (blk_cell HO3.out (k * 2 + 1)).trans ?_
            rw [List.getElem?_toArray, (c40_at H k hkH).2]
            unfold h1
            rw [rd40 hkH]
          have ef0 := blk_frozen HO3.out (k * 2)
          have ef1 := blk_frozen HO3.out (k * 2 + 1)
          by_cases hact : (rS l D H k l.length).length < a1.toNat
          · have b5 : decide (((rS l D H k l.length).length : Int) < a1) = true := decide_eq_true (by omega)
            obtain ⟨fr, hfr, hfr16, hfrn⟩ := Scan.free_lt (hr := h0 H) (a := rS l D H k l.length) (m := a1.toNat) hact (by have := HG.out; omega)
            have hfr2 : fr < 16 := by have := HG.out; omega
            have tl : (tk2 (h0 H) (rS l D H k l.length)).length = 16 := tk2_length _ _
            have HTR : Aside0 (∀ r, r < fr → (rS l D H k l.length).any (fun q => h0 H q == (r : Int)) = true) := ⟨fun r hr => by
              unfold Scan.free at hfr
              split at hfr
              · rename_i r' h1
                have : r' = fr := by omega
                subst this
                have h2 := (List.find?_range_eq_some.1 h1).2.2 r hr
                simpa using h2
              · omega⟩
            have HCORE2 := HCORE.out
            rw [hfr] at HCORE2
            have HCORE3 := Aside0.mk HCORE2
            have HACT := Aside0.mk hact
            have HFN : Aside0 ((rS l D H k l.length).any (fun q => h0 H q == (fr : Int)) = false) := ⟨by
              rw [List.any_eq_false]
              intro q hq
              simpa using hfrn q hq⟩
            clear HCORE2 hfr hfr16 hfrn hact HCORE
            go_wp2
            go_loopw [16] (fun v16 wi => ∃ r : Nat, r ≤ fr ∧ v16 = .int .i64 (r : Int) ∧ wi = W3) (fun v16 _ => fr - (intOf v16).toNat)
            case atStart => exact ⟨0, Nat.zero_le _, rfl, rfl⟩
            case round =>
              obtain ⟨r, hr, rfl, rfl⟩ := hrel
              have hr16 : r < 16 := by omega
              have e5 : wr.cell? ⟨tb, r, none⟩ = some (.bool ((rS l D H k l.length).any (fun q => h0 H q == (r : Int)))) := by
                refine (blk_cell HT3.out r).trans ?_
                unfold tk2
                simp [hr16]
              by_cases hrf : r < fr
              · rw [HTR.out r hrf] at e5
                go_wp2
                go_roundw
                case rel => first | exact ⟨r + 1, by omega, by go_num, rfl⟩ | exact ⟨r + 1, by omega, by go_num, trivial⟩
                case measure => exact meas hrf (Int.natCast_succ r).symm
              · obtain rfl : r = fr := by omega
                rw [HFN.out] at e5
                go_wp2
                have HL' := HL.out
                go_roundw
                case rel => exact ⟨j + 1, sl, H.set k ⟨(r : Int), 0⟩, D.set k true, by omega, by go_num, rfl, ⟨by rw [List.length_set]; exact HL'⟩, ⟨c40_blk HO3.out hkH (r : Int) 0⟩, ⟨(blk_far (blk_far HD3.out (show ob + 1 ≠ ob by omega) _) (show ob + 1 ≠ ob by omega) _)⟩, HDN1, ⟨by
                  obtain ⟨act', e⟩ := HCORE3.out
                  exact ⟨act', by rw [e, if_pos HACT.out, h0_set hkH, h1_set hkH]⟩⟩, ⟨((HB3.out.setCell HWS.out _).setCell HWS.out _)⟩⟩
                case measure => exact meas hlt (Int.natCast_succ j).symm
          · have b5 : decide (((rS l D H k l.length).length : Int) < a1) = false := decide_eq_false (by omega)
            have HACT := Aside0.mk hact
            have hsl : sl < l.length := by
              obtain ⟨p, hp, hI⟩ := HIN.out
              obtain ⟨act, hact⟩ := HST.out
              rw [hact] at hI
              have h2 := hI.sl_le
              have h3 : sl ≤ ((ordOf l).take j).length := h2
              rw [List.length_take] at h3
              omega
            clear hact
            have HL' := HL.out
            by_cases hbk : b = k
            · subst hbk
              go_wp2
              go_roundw
              case rel => exact ⟨j + 1, sl + 1, H.set b ⟨-1, (sl : Int)⟩, D.set b true, by omega, by go_num, by go_num, ⟨by rw [List.length_set]; exact HL'⟩, ⟨c40_blk HO3.out hkH (-1) (sl : Int)⟩, ⟨(blk_far (blk_far HD3.out (show ob + 1 ≠ ob by omega) _) (show ob + 1 ≠ ob by omega) _)⟩, HDN1, ⟨by
                obtain ⟨act', e⟩ := HCORE.out
                exact ⟨act', by rw [e, if_neg HACT.out, if_pos rfl, h0_set hkH, h1_set hkH]⟩⟩, ⟨((HB3.out.setCell HWS.out _).setCell HWS.out _)⟩⟩
              case measure => exact meas hlt (Int.natCast_succ j).symm
            · have HBK := Aside0.mk hbk
              have b6 : ((b : Int) != (k : Int)) = true := by simp; omega
              have eb : W3.cell? ⟨ob, b * 2, none⟩ = some (.int .i64 (h0 H b)) := by
                refine (blk_cell HO3.out (b * 2)).trans ?_
                rw [List.getElem?_toArray, (c40_at H b hbH).1]
                unfold h0
                rw [rd40 hbH]
              have HO4 : Aside0 (((W3.setCell ⟨ob, k * 2, none⟩ (.int .i64 (h0 H b))).setCell ⟨ob, k * 2 + 1, none⟩ (.int .i64 0)).heap[ob]? = some (.cells (c40 (H.set k ⟨h0 H b, 0⟩)).toArray 40 (0, 0))) := ⟨c40_blk HO3.out hkH (h0 H b) 0⟩
              have HD4 : Aside0 (((W3.setCell ⟨ob, k * 2, none⟩ (.int .i64 (h0 H b))).setCell ⟨ob, k * 2 + 1, none⟩ (.int .i64 0)).heap[ob + 1]? = some (.cells ((D.set k true).map Value.bool).toArray 4 (0, 0))) := ⟨(blk_far (blk_far HD3.out (show ob + 1 ≠ ob by omega) _) (show ob + 1 ≠ ob by omega) _)⟩
              have HB4 : Aside0 (Below w.heap.size w ((W3.setCell ⟨ob, k * 2, none⟩ (.int .i64 (h0 H b))).setCell ⟨ob, k * 2 + 1, none⟩ (.int .i64 0))) := ⟨((HB3.out.setCell HWS.out _).setCell HWS.out _)⟩
              clear hbk
              go_upto_region 31 with (fail)
              generalize ((W3.setCell ⟨ob, k * 2, none⟩ (.int .i64 (h0 H b))).setCell ⟨ob, k * 2 + 1, none⟩ (.int .i64 0)) = W4 at HO4 HD4 HB4 ⊢
              have hbH4 : b < (H.set k ⟨h0 H b, 0⟩).length := by rw [List.length_set]; exact hbH
              have eb0 : W4.cell? ⟨ob, b * 2, none⟩ = some (.int .i64 ((H.set k ⟨h0 H b, 0⟩)[b]).f0) := by
                refine (blk_cell HO4.out (b * 2)).trans ?_
                rw [List.getElem?_toArray, (c40_at _ b hbH4).1]
              have eb1 : W4.cell? ⟨ob, b * 2 + 1, none⟩ = some (.int .i64 ((H.set k ⟨h0 H b, 0⟩)[b]).f1) := by
                refine (blk_cell HO4.out (b * 2 + 1)).trans ?_
                rw [List.getElem?_toArray, (c40_at _ b hbH4).2]
              have eg0 := blk_frozen HO4.out (b * 2)
              have eg1 := blk_frozen HO4.out (b * 2 + 1)
              generalize ((H.set k ⟨h0 H b, 0⟩)[b]).f0 = q0 at eb0
              generalize ((H.set k ⟨h0 H b, 0⟩)[b]).f1 = q1 at eb1
              clear eh0 eh1 ef0 ef1 eb
              go_wp2
              go_roundw
              case rel => exact ⟨j + 1, sl + 1, (H.set k ⟨h0 H b, 0⟩).set b ⟨-1, (sl : Int)⟩, D.set k true, by omega, by go_num, by go_num, ⟨by rw [List.length_set, List.length_set]; exact HL'⟩, ⟨c40_blk HO4.out hbH4 (-1) (sl : Int)⟩, ⟨(blk_far (blk_far HD4.out (show ob + 1 ≠ ob by omega) _) (show ob + 1 ≠ ob by omega) _)⟩, HDN1, ⟨by
                obtain ⟨act', e⟩ := HCORE.out
                exact ⟨act', by rw [e, if_neg HACT.out, if_neg HBK.out, h0_set hbH4, h1_set hbH4, h0_set hkH, h1_set hkH]⟩⟩, ⟨((HB4.out.setCell HWS.out _).setCell HWS.out _)⟩⟩
              case measure => exact meas hlt (Int.natCast_succ j).symm
    · have b3 : decide ((j : Int) < (l.length : Int)) = false := decide_eq_false (by omega)
      obtain rfl : j = l.length := by omega
      go_wp2_with fail
      go_ret2
      refine hp_good HG.out ?_ HB.out
      have e : homesRow a1.toNat l = H := by
        rw [row_of HL.out]
        unfold homesRow
        obtain ⟨act, h2⟩ := HST.out
        rw [List.take_of_length_le (by rw [ordOf_length]; exact Nat.le_refl _)] at h2
        rw [h2]
      rw [e]
      exact R40_of HO.out HL.out HWS.out HN.out
theorem swageref26_Homes.calls (A0 : Option Addr) (c0 : Nat) (l0 : List S38) (a1 : Int) (r1 : List S40) (r2 : Int) (w : World) (hr0 : Kd.C k38 w A0 l0.length l0) (hc0 : l0.length ≤ c0) (h : swageref26_Homes.f l0 a1 = some (r1, r2)) :
    Calls Try.prog 11 #[.slice A0 l0.length c0, .int .i64 a1] w fun e w' => ∃ v0_, e = .returned (.tuple #[v0_, .int .i64 r2]) ∧ Kd.R k40 40 w' w.heap.size (fun _ => True) v0_ r1 ∧ Below w.heap.size w w' := by
  have e := Option.some.inj h
  by_cases hg : rgt l0 [] = true ∧ 0 ≤ a1 ∧ a1 ≤ 16
  · rw [if_pos hg] at e
    cases e
    refine (rhomes_good A0 c0 l0 a1 w hr0 hc0 hg).mono ?_
    rintro e w' ⟨v0, h1, h2⟩
    rw [if_pos hg] at h1
    exact ⟨v0, h1.1, h1.2, h2⟩
  · rw [if_neg hg] at e
    cases e
    refine (rhomes_bad A0 c0 l0 a1 w hr0 hc0 hg).mono ?_
    rintro e w' ⟨v0, h1, h2⟩
    rw [if_neg hg] at h1
    obtain ⟨h1, rfl⟩ := h1
    exact ⟨_, h1, Kd.R_nil _ _ _ _ _, h2⟩
end Go.Proofs.Ytncpgclcbdgndaa.S
