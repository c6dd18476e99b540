import Derived.Test.YtnkgbnbbmcoiiaaOafter
import Derived.Test.YtnkgbnbbmcoiiaaLsm
import Derived.Test.YtnkgbnbbmcoiiaaLv2
import Derived.Test.YtnkgbnbbmcoiiaaRel
import Derived.Test.YtnkgbnbbmcoiiaaOover
import Derived.Test.YtnkgbnbbmcoiiaaS6
import Derived.Test.YtnkgbnbbmcoiiaaS8
import Derived.Test.YtnkgbnbbmcoiiaaRf
import Derived.Test.YtnkgbnbbmcoiiaaOpw
namespace Go.Proofs.Ytnkgbnbbmcoiiaa.S
open Go.RowKit Go.IM Go.Proofs.YtnkgbnbbmcoiiaaW.PrintWords Go.Proofs.YtnkgbnbbmcoiiaaW.PrintLast Go.Proofs.YtnkgbnbbmcoiiaaW.PrintMore
set_option linter.unusedVariables false
set_option linter.unusedSimpArgs false
theorem after_any (p : Int) (A : Option Addr) (c : Nat) (bs : List S43) (fn : Int) (A1 : Option Addr) (x : Nat) (w : World) (hC : Kd.C k43 w A bs.length bs) (hRP : RightP p bs fn) (hM : MapsAt w A1 bs.length (fun i r => Lv.At (gOf bs) r i 0)) (hxn : x < bs.length) :
    Calls Try.prog 60 #[.agg #[.int .i64 p, .slice A bs.length c], .slice A1 bs.length bs.length, .int .i64 (x : Int)] w (AfterP bs x w) := callsIn_wide.1 (after_in p A c bs fn A1 x w hC hRP hM hxn)
set_option maxHeartbeats 4000000 in
set_option maxRecDepth 100000 in
theorem After_ok (p : Int) (A : Option Addr) (c : Nat) (bs : List S43) (x : Nat) (w : World) (hC : Kd.C k43 w A bs.length bs) (hR : rightF p bs 256 = true) (hx : x < bs.length) :
    Calls Try.prog 32 #[.agg #[.int .i64 p, .slice A bs.length c], .int .i64 (x : Int)] w fun e w' => ∃ v, e = .returned v ∧ Kd.R (Kd.slice 3 (Kd.int .i64)) 28 w' w.heap.size (fun _ => True) v (afterL bs x) ∧ Below w.heap.size w w' := by
  have RP := Aside0.mk (rightF_iff hR)
  have HR := Aside0.mk hR
  have HC := Aside0.mk hC
  have HB0 := Aside0.mk (below_alloc (Below.refl w.heap.size w) (.cells #[.int .i64 p, .slice A bs.length c] 34))
  have HF0 := Aside0.mk (blk_new w (.cells #[.int .i64 p, .slice A bs.length c] 34))
  have hu34 := Try.underlying34
  clear hC hR
  have h0 : ¬ ((x : Int) < 0) := by omega
  have b1 : decide ((x : Int) < 0) = false := decide_eq_false h0
  have h2 : ¬ (bs.length : Int) ≤ (x : Int) := by omega
  have h2' : ¬ bs.length ≤ x := by omega
  have b2 : decide ((bs.length : Int) ≤ (x : Int)) = false := decide_eq_false h2
  have b2' : decide (bs.length ≤ x) = false := decide_eq_false h2'
  go_enter Try.func32, Try.ntmps32
  go_wp2_with (first
    | (go_at_call 57; refine (sets_ok p A c bs _ (Kd.C_below HC.out HB0.out) HR.out).mono ?_; rintro e w1 ⟨A1, rfl, hm, hb⟩; have HM1 := Aside0.mk hm; have HB1 := Aside0.mk (below_then HB0.out HB0.out.size hb); have HF1 := Aside0.mk (blk_below HF0.out hb); have c0 := blk_cell HF1.out 0; have c1 := blk_cell HF1.out 1; simp only [List.getElem?_toArray, List.getElem?_cons_zero, List.getElem?_cons_succ] at c0 c1; clear hb hm)
    | (go_at_call 60; refine (after_any p A c bs 256 A1 x _ (Kd.C_below HC.out HB1.out) RP.out HM1.out hx).mono ?_; rintro e w2 ⟨v2, rfl, hr, hb⟩; have HR2 := Aside0.mk hr; have HB2 := Aside0.mk (below_then HB1.out HB1.out.size hb); clear hr hb))
  go_ret
  exact ⟨_, rfl, Kd.R_lower HR2.out HB1.out.size, HB2.out⟩
end Go.Proofs.Ytnkgbnbbmcoiiaa.S
namespace Go.Proofs.Ytnkgbnbbmcoiiaa.S
open Go.RowKit Go.IM Go.RelRegion Go.Proofs.YtnkgbnbbmcoiiaaW.PrintWords Go.Proofs.YtnkgbnbbmcoiiaaW.PrintLast Go.Proofs.YtnkgbnbbmcoiiaaW.PrintMore
set_option linter.unusedVariables false
set_option linter.unusedSimpArgs false
/-! ### live.Most -/
theorem max2_nat (ats : Array TypeId) (ty : TypeId) (a b : Nat) : Builtin.max_ ats ty #[.int .i64 (a : Int), .int .i64 (b : Int)] = pure (.int .i64 ((max a b : Nat) : Int)) := by
  rw [max_two, max2_int, pure_bind]
  congr 2
  split <;> omega
theorem max3_nat (ats : Array TypeId) (ty : TypeId) (a b c : Nat) : Builtin.max_ ats ty #[.int .i64 (a : Int), .int .i64 (b : Int), .int .i64 (c : Int)] = pure (.int .i64 ((max (max a b) c : Nat) : Int)) := by
  rw [max_three, max2_int, pure_bind, max2_int, pure_bind]
  congr 2
  split <;> split <;> omega
theorem rd_afterL {bs : List S43} {x k : Nat} (h : k < opLen bs x) : rd_L1 (afterL bs x) (k : Int) = liveRow bs x (k + 1) := by
  unfold rd_L1 afterL
  simp [List.getD_eq_getElem?_getD, h]
theorem end_sz {p : Int} {bs : List S43} {fn : Int} (h : RightP p bs fn) {x : Nat} {es : List (Int × Value)} (hk : KS es (fun r => r ∈ tuseT (rd_T43 bs (x : Int)).f1 ∨ ∃ j : Nat, (j : Int) ∈ succT (rd_T43 bs (x : Int)).f1 ∧ Lv.At (gOf bs) r j 0)) {a1 : Nat} (ha : (liveRow bs x (opLen bs x)).length = a1) : es.length = a1 := by
  have hs := liveRow_sz h x (opLen bs x)
  rw [ha] at hs
  refine hk.sz.uniq (hs.imp (fun r => ?_))
  have e := Lv.at_end (g := gOf bs) (r := r) (i := x)
  exact e
/-- What the loud of 'max(most, len(s), len(behind(in, code.Succ(f)[i], b.Term)))' tell. -/
def RMo (bs : List S43) (x a : Nat) (k : Nat) (vs : List Value) (w' : World) : Prop :=
  if k = 5 then ∃ A2 c2, vs = [.slice A2 (succL bs).length c2] ∧ Kd.C (Kd.slice 3 (Kd.int .i64)) w' A2 (succL bs).length (succL bs)
  else if k = 7 then ∃ ad A0 cb, vs = [.pointer (some ad)] ∧ w'.cell? ad = some (.slice A0 (rd_L1 (succL bs) (x : Int)).length cb) ∧ Kd.C (Kd.int .i64) w' A0 (rd_L1 (succL bs) (x : Int)).length (rd_L1 (succL bs) (x : Int))
  else if k = 8 then ∃ A0 cb, vs = [.slice A0 (rd_L1 (succL bs) (x : Int)).length cb] ∧ Kd.C (Kd.int .i64) w' A0 (rd_L1 (succL bs) (x : Int)).length (rd_L1 (succL bs) (x : Int))
  else if k = 15 then ∃ m es, vs = [.map (some m)] ∧ At w' m es ∧ es.length = a
  else if k = 16 then vs = [.int .i64 (a : Int)] else True
theorem RMo.below {bs : List S43} {x a k : Nat} {vs : List Value} {w' w2 : World} (h : RMo bs x a k vs w') (hb : Below w'.heap.size w' w2) : RMo bs x a k vs w2 := by
  unfold RMo at h ⊢
  repeat' split at h
  · rename_i h1
    rw [if_pos h1]
    obtain ⟨A2, c2, e, h⟩ := h
    exact ⟨A2, c2, e, Kd.C_below h hb⟩
  · rename_i h1 h2
    rw [if_neg h1, if_pos h2]
    obtain ⟨ad, A0, cb, e, hc, h⟩ := h
    exact ⟨ad, A0, cb, e, pw_cell_below hb hc, Kd.C_below h hb⟩
  · rename_i h1 h2 h3
    rw [if_neg h1, if_neg h2, if_pos h3]
    obtain ⟨A0, cb, e, h⟩ := h
    exact ⟨A0, cb, e, Kd.C_below h hb⟩
  · rename_i h1 h2 h3 h4
    rw [if_neg h1, if_neg h2, if_neg h3, if_pos h4]
    obtain ⟨m, es, e, ha, hk⟩ := h
    exact ⟨m, es, e, ha.below hb ha.lt, hk⟩
  · rename_i h1 h2 h3 h4 h5
    rw [if_neg h1, if_neg h2, if_neg h3, if_neg h4, if_pos h5]
    exact h
  · rename_i h1 h2 h3 h4 h5
    rw [if_neg h1, if_neg h2, if_neg h3, if_neg h4, if_neg h5]
    trivial
attribute [local go_sem] max2_nat max3_nat
set_option maxHeartbeats 8000000 in
set_option maxRecDepth 100000 in
theorem most_ok (p : Int) (A : Option Addr) (c : Nat) (bs : List S43) (w : World) (hC : Kd.C k43 w A bs.length bs) (hR : rightF p bs 256 = true) :
    Calls Try.prog 33 #[.agg #[.int .i64 p, .slice A bs.length c]] w fun e w' => ∃ m : Nat, e = .returned (.int .i64 (m : Int)) ∧ MaxOf (Sizes bs bs.length) m ∧ Below w.heap.size w w' := by
  have RP := Aside0.mk (rightF_iff hR)
  have HR := Aside0.mk hR
  have HC := Aside0.mk hC
  have HB0 := Aside0.mk (below_alloc (Below.refl w.heap.size w) (.cells #[.int .i64 p, .slice A bs.length c] 34))
  have HF0 := Aside0.mk (blk_new w (.cells #[.int .i64 p, .slice A bs.length c] 34))
  have hu34 := Try.underlying34
  have hu43 := Try.underlying43
  have hu41 := Try.underlying41
  have hlen := RP.out.len
  clear hC hR
  go_enter Try.func33, Try.ntmps33
  go_wp2_with (go_at_call 57; refine (sets_ok p A c bs _ (Kd.C_below HC.out HB0.out) HR.out).mono ?_; rintro e w1 ⟨A1, rfl, hm, hb⟩; have HM := Aside0.mk hm; have HF1 := Aside0.mk (blk_below HF0.out hb); have HB1 := Aside0.mk (below_then HB0.out HB0.out.size hb); clear hb hm)
  go_loopw [5, 17] (fun v i wr => ∃ j m : Nat, j ≤ bs.length ∧ i = .int .i64 (j : Int) ∧ v = .int .i64 (m : Int) ∧ Aside0 (MaxOf (Sizes bs j) m) ∧ Aside0 (Below w1.heap.size w1 wr)) (fun _ i _ => bs.length - (intOf i).toNat)
  case atStart => exact ⟨0, 0, Nat.zero_le _, rfl, rfl, ⟨MaxOf.zero.imp (fun x => ⟨False.elim, fun ⟨i, _, h, _⟩ => absurd h (Nat.not_lt_zero _)⟩)⟩, ⟨Below.refl _ _⟩⟩
  case round =>
    obtain ⟨x, m, hx, rfl, rfl, HMX, HB⟩ := hrel
    by_cases hlt : x < bs.length
    · have b1 : decide ((x : Int) < (bs.length : Int)) = true := decide_eq_true (by omega)
      have hw1 : wrap64 ((x : Int) + 1) = (x : Int) + 1 := (wr3 (z := 0) (by decide) (by omega)).2.2
      have q1 : (0 : Int) ≤ (x : Int) := by omega
      have q2 : (x : Int) < (bs.length : Int) := by omega
      obtain ⟨adm, b, es, eM, hcm, hat, hks⟩ := (HM.out.below HB.out) x hlt
      have HAT := Aside0.mk hat
      have HE0 := Aside0.mk (hks.sz.uniq (liveRow_sz RP.out x 0))
      clear hat hks
      subst eM
      obtain ⟨ad, A5, c5, eA, h0, h1, h2, h3, h4, l5, g5⟩ := at_T43 (Kd.C_below HC.out (below_then HB1.out HB1.out.size HB.out)) (x : Int) q1 q2
      simp only [Int.toNat_natCast] at h0 h1 h2 h3 h4
      subst eA
      clear h0 l5 g5
      have c0 := blk_cell (blk_below HF1.out HB.out) 0
      have c1 := blk_cell (blk_below HF1.out HB.out) 1
      simp only [List.getElem?_toArray, List.getElem?_cons_zero, List.getElem?_cons_succ] at c0 c1
      have HSL := Aside0.mk (succL_at hlt)
      have HSC := Aside0.mk (RP.out.succ hlt)
      have hsll := succL_length bs
      obtain ⟨a1, ha1⟩ : ∃ a1, (liveRow bs x (opLen bs x)).length = a1 := ⟨_, rfl⟩
      have HA1 := Aside0.mk ha1
      clear ha1
      go_wp2_with fail
      refine wp_region_rel 17 (fun k => if k = 5 then some [] else if k = 7 then some [5] else if k = 8 then some [7] else if k = 15 then some [8] else if k = 16 then some [15] else none) (fun k => [k]) (RMo bs x a1) (fun w' => Below wr.heap.size wr w') (fun a b => Below a.heap.size a b) (by kernel_rfl) (by kernel_rfl) (below_drew (Below.refl _ _)) (fun a b h k => below_then h h.size k) (fun _ _ _ _ h hb => h.below hb) ?_
      simp only [List.take_succ_cons, List.take_zero, List.drop_succ_cons, List.drop_zero]
      iterate 17 (first | (refine relQ_loud rfl ?_) | (apply relQ_step rfl; apply Exists.intro; constructor; (focus (intro w' hw'; have c0 := pw_cell_below hw' c0; have c1 := pw_cell_below hw' c1; have h1 := pw_cell_below hw' h1; have h2 := pw_cell_below hw' h2; have h3 := pw_cell_below hw' h3; have h4 := pw_cell_below hw' h4; unfold Yl; go_wp2_with (at_len; refine IM.wpl_len _ rfl _ 91 rfl 3 4 Try.underlying91 b es rfl (HAT.out.below hw' HAT.out.lt) ?_); exact ⟨rfl, _, rfl, rfl, Below.refl _ _⟩)); (try simp only [Act.put, List.setIfInBounds_toArray, List.set_cons_zero, List.set_cons_succ])))
      refine relQ_nil (fun xx => ?_)
      repeat (refine relL_quiet rfl ?_)
      refine relL_loud rfl (fun w' hw' _ => ?_) ?_
      · unfold Yl
        go_wp2_with (go_at_call 29; refine (succ_any p (some ad) c bs _ (Kd.C_below HC.out (below_then HB1.out HB1.out.size (below_then HB.out HB.out.size hw'))) RP.out.len.2).mono ?_; rintro e w6 ⟨v2, rfl, hr2, hb⟩)
        obtain ⟨A2, c2, rfl, _, hC2⟩ := Kd.R_reads hr2
        refine ⟨rfl, _, rfl, hb, ?_⟩
        unfold RMo
        rw [if_pos rfl]
        exact ⟨A2, c2, by simp, hC2⟩
      (try simp only [Act.put, List.setIfInBounds_toArray, List.set_cons_zero, List.set_cons_succ])
      repeat (refine relL_quiet rfl ?_)
      refine relL_loud rfl (fun w' hw' hR => ?_) ?_
      · have r2 := hR 5 (by simp)
        unfold RMo at r2
        rw [if_pos rfl] at r2
        obtain ⟨A2, c2, e2, hC2⟩ := r2
        have e2 : xx 5 = .slice A2 (succL bs).length c2 := by simpa using e2
        rw [e2]
        obtain ⟨ad2, A0, cb, eA2, sE, hcb, hCr⟩ := at_L1 hC2 (x : Int) (by omega) (by omega)
        rw [Int.toNat_natCast] at sE
        subst eA2
        have q3 : (x : Int) < ((succL bs).length : Int) := by omega
        have HCR := Aside0.mk hCr
        clear hCr hcb hC2
        unfold Yl
        go_wp2_with fail
        refine ⟨rfl, _, rfl, Below.refl _ _, ?_⟩
        unfold RMo
        rw [if_neg (by decide), if_pos rfl]
        exact ⟨ad2.add x, A0, cb, by simp, sE, HCR.out⟩
      (try simp only [Act.put, List.setIfInBounds_toArray, List.set_cons_zero, List.set_cons_succ])
      refine relL_loud rfl (fun w' hw' hR => ?_) ?_
      · have r4 := hR 7 (by simp)
        unfold RMo at r4
        rw [if_neg (by decide), if_pos rfl] at r4
        obtain ⟨adx, A0, cb, e4, sE, hCr⟩ := r4
        have e4 : xx 7 = .pointer (some adx) := by simpa using e4
        rw [e4]
        have HCR := Aside0.mk hCr
        clear hCr
        unfold Yl
        go_wp2_with fail
        refine ⟨rfl, _, rfl, Below.refl _ _, ?_⟩
        unfold RMo
        rw [if_neg (by decide), if_neg (by decide), if_pos rfl]
        exact ⟨A0, cb, by simp, HCR.out⟩
      (try simp only [Act.put, List.setIfInBounds_toArray, List.set_cons_zero, List.set_cons_succ])
      repeat (refine relL_quiet rfl ?_)
      refine relL_loud rfl (fun w' hw' hR => ?_) ?_
      · have r5 := hR 8 (by simp)
        unfold RMo at r5
        rw [if_neg (by decide), if_neg (by decide), if_pos rfl] at r5
        obtain ⟨A0, cb, e5, hCr⟩ := r5
        have e5 : xx 8 = .slice A0 (rd_L1 (succL bs) (x : Int)).length cb := by simpa using e5
        rw [e5]
        have hb61 := behind_any (some adm) bs.length bs.length (fun i r => Lv.At (gOf bs) r i 0) A0 cb (rd_L1 (succL bs) (x : Int)) (rd_T43 bs (x : Int)).f1 w' (by omega) (HM.out.below (below_then HB.out HB.out.size hw')) hCr (by rw [HSL.out]; exact HSC.out)
        have HB61 := Aside0.mk hb61
        clear hb61 hCr
        unfold Yl
        go_wp2_with (go_at_call 61; refine HB61.out.mono ?_; rintro e w6 ⟨m, es, rfl, ha, hk, hms, hb⟩)
        refine ⟨rfl, _, rfl, hb, ?_⟩
        unfold RMo
        rw [if_neg (by decide), if_neg (by decide), if_neg (by decide), if_pos rfl]
        refine ⟨m, es, by simp, ha, ?_⟩
        rw [HSL.out] at hk
        exact end_sz RP.out hk HA1.out
      (try simp only [Act.put, List.setIfInBounds_toArray, List.set_cons_zero, List.set_cons_succ])
      refine relL_loud rfl (fun w' hw' hR => ?_) ?_
      · have r5 := hR 15 (by simp)
        unfold RMo at r5
        rw [if_neg (by decide), if_neg (by decide), if_neg (by decide), if_pos rfl] at r5
        obtain ⟨m5, es5, e5, ha5, hl5⟩ := r5
        have e5 : xx 15 = .map (some m5) := by simpa using e5
        rw [e5]
        have HA5 := Aside0.mk ha5
        clear ha5
        unfold Yl
        go_wp2_with (at_len; refine IM.wpl_len _ rfl _ 91 rfl 3 4 Try.underlying91 m5 es5 rfl HA5.out ?_)
        refine ⟨rfl, _, rfl, Below.refl _ _, ?_⟩
        unfold RMo
        rw [if_neg (by decide), if_neg (by decide), if_neg (by decide), if_neg (by decide), if_pos rfl]
      (try simp only [Act.put, List.setIfInBounds_toArray, List.set_cons_zero, List.set_cons_succ])
      refine relL_nil (fun w2 hw2 hRR => ?_)
      have r16 := hRR 16 (by decide) rfl
      unfold RMo at r16
      rw [if_neg (by decide), if_neg (by decide), if_neg (by decide), if_neg (by decide), if_pos rfl] at r16
      have r16 : xx 16 = .int .i64 (a1 : Int) := by simpa using r16
      rw [r16]
      have HB2 := Aside0.mk (below_then HB.out HB.out.size hw2)
      have c0 := pw_cell_below hw2 c0
      have c1 := pw_cell_below hw2 c1
      have HM0 : Aside0 (MaxOf (fun y => SizesTo bs x 0 y ∨ Sizes bs x y) (max m (max es.length a1))) := ⟨by
        rw [← Nat.max_assoc]
        exact ((HMX.out.add es.length).add a1).imp (fun y => by
        rw [sizesTo_zero, HA1.out, HE0.out, or_assoc])⟩
      obtain ⟨L, hL⟩ : ∃ L, afterL bs x = L := ⟨_, rfl⟩
      have HL := Aside0.mk hL
      have HLL : Aside0 (L.length = opLen bs x) := ⟨by rw [← hL, afterL, List.length_map, List.length_range]⟩
      have HLA : Aside0 (∀ k : Nat, k < L.length → rd_L1 L (k : Int) = liveRow bs x (k + 1)) := ⟨fun k hk => by
        rw [HLL.out] at hk
        rw [← hL]
        exact rd_afterL hk⟩
      clear hL hw2 hRR h1 h2 h3 h4 hcm
      go_wp2_with (go_at_call 60; refine (after_any p (some ad) c bs 256 (some adm) x _ (Kd.C_below HC.out (below_then HB1.out HB1.out.size HB2.out)) RP.out (HM.out.below HB2.out) hlt).mono ?_; rintro e w3 ⟨v3, rfl, hr, hb⟩; obtain ⟨A3, c3, rfl, _, hC3⟩ := Kd.R_reads hr; rw [HL.out] at hC3 ⊢; have HC3 := Aside0.mk hC3; have HB3 := Aside0.mk (below_then HB2.out HB2.out.size hb); clear hr hb hC3 c0 c1)
      generalize max m (max es.length a1) = m2 at HM0 ⊢
      go_loopw [5, 45] (fun v i wr => ∃ k m3 : Nat, k ≤ L.length ∧ i = .int .i64 (k : Int) ∧ v = .int .i64 (m3 : Int) ∧ Aside0 (MaxOf (fun y => SizesTo bs x k y ∨ Sizes bs x y) m3) ∧ Aside0 (Below w3.heap.size w3 wr)) (fun _ i _ => L.length - (intOf i).toNat)
      case atStart => exact ⟨0, m2, Nat.zero_le _, rfl, rfl, HM0, ⟨Below.refl _ _⟩⟩
      case round =>
        clear HMX HB HB2 HM0
        obtain ⟨k, m3, hk, rfl, rfl, HMX, HB⟩ := hrel
        by_cases hlk : k < L.length
        · have b2 : decide ((k : Int) < (L.length : Int)) = true := decide_eq_true (Int.ofNat_lt.2 hlk)
          have hw2 : wrap64 ((k : Int) + 1) = (k : Int) + 1 := (wr3 (z := 0) (by decide) (by have := RP.out.opLen_le x; have := HLL.out; omega)).2.2
          obtain ⟨adk, A0, k0, eI, hi0, hi1, hi2⟩ := row_cell (Kd.C_below HC3.out HB.out) hlk (HLA.out k hlk)
          subst eI
          have HMN : Aside0 (MaxOf (fun y => SizesTo bs x (k + 1) y ∨ Sizes bs x y) (max m3 (liveRow bs x (k + 1)).length)) := ⟨(HMX.out.add (liveRow bs x (k + 1)).length).imp (fun y => by rw [sizesTo_succ, or_assoc])⟩
          generalize (liveRow bs x (k + 1)).length = n1 at hi0 HMN
          clear hi1 hi2
          go_wp2_with fail
          go_roundw
          case rel => exact ⟨k + 1, _, hlk, by first | (rw [hw2]; exact num_cast k) | (with_reducible exact num_cast k), rfl, HMN, HB⟩
          case measure => first | (rw [hw2]; exact num_meas hlk) | (with_reducible exact num_meas hlk)
        · have b2 : decide ((k : Int) < (L.length : Int)) = false := decide_eq_false (fun h => hlk (Int.ofNat_lt.1 h))
          have ek : k = opLen bs x := (Nat.le_antisymm hk (Nat.le_of_not_lt hlk)).trans HLL.out
          have HMN : Aside0 (MaxOf (Sizes bs (x + 1)) m3) := ⟨HMX.out.imp (fun y => by rw [ek]; exact sizes_succ bs x y)⟩
          clear ek
          go_wp2_with fail
          go_roundw
          case rel => exact ⟨x + 1, m3, hlt, by first | (rw [hw1]; exact num_cast x) | (with_reducible exact num_cast x), rfl, HMN, ⟨below_then HB3.out HB3.out.size HB.out⟩⟩
          case measure => first | (rw [hw1]; exact num_meas hlt) | (with_reducible exact num_meas hlt)
    · have b1 : decide ((x : Int) < (bs.length : Int)) = false := decide_eq_false (by omega)
      obtain rfl : x = bs.length := Nat.le_antisymm hx (Nat.le_of_not_lt hlt)
      go_wp2_with fail
      go_ret
      exact ⟨m, rfl, HMX.out, below_then HB1.out HB1.out.size HB.out⟩
end Go.Proofs.Ytnkgbnbbmcoiiaa.S
namespace Go.Proofs.Ytnkgbnbbmcoiiaa.S
open Go.RowKit Go.IM Go.RelRegion Go.Proofs.YtnkgbnbbmcoiiaaW.PrintWords Go.Proofs.YtnkgbnbbmcoiiaaW.PrintLast Go.Proofs.YtnkgbnbbmcoiiaaW.PrintMore
set_option linter.unusedVariables false
set_option linter.unusedSimpArgs false
/-! ### swagelaw25.SpansMeet -/
theorem MaxOf.ex {P : Nat → Prop} : ∀ B, (∀ x, P x → x ≤ B) → ∃ m, MaxOf P m
  | 0, h => ⟨0, fun x hx => h x hx, .inl rfl⟩
  | B + 1, h => by
    by_cases e : P (B + 1)
    · exact ⟨B + 1, fun x hx => h x hx, .inr e⟩
    · exact MaxOf.ex B (fun x hx => by
        have := h x hx
        by_cases e2 : x = B + 1
        · subst e2; exact absurd hx e
        · omega)
/-- live.Most's answer. -/
theorem most_fix {p : Int} {bs : List S43} {fn : Int} (h : RightP p bs fn) : ∃ m, MaxOf (Sizes bs bs.length) m := MaxOf.ex 4096 (fun x hx => by
  obtain ⟨i, k, _, _, e⟩ := hx
  rw [e]
  exact liveRow_le h i k)
theorem most_at (p : Int) (A : Option Addr) (c : Nat) (bs : List S43) (w : World) (hC : Kd.C k43 w A bs.length bs) (hR : rightF p bs 256 = true) {m : Nat} (hm : MaxOf (Sizes bs bs.length) m) :
    Calls Try.prog 33 #[.agg #[.int .i64 p, .slice A bs.length c]] w fun e w' => e = .returned (.int .i64 (m : Int)) ∧ Below w.heap.size w w' := by
  refine (most_ok p A c bs w hC hR).mono ?_
  rintro e w' ⟨n, rfl, hn, hb⟩
  rw [hn.uniq hm]
  exact ⟨rfl, hb⟩
/-- What the loud of 'append([][]int{in[i]}, live.After(f, i)...)' tell. -/
def R18 (g0 : Tri) (L : List (List Int)) (k : Nat) (vs : List Value) (w' : World) : Prop :=
  if k = 4 then ∃ g, vs = [.slice (some ⟨g, 0, none⟩) 1 1] ∧ w'.heap[g]? = some (.cells #[slv g0] 28 (0, 0))
  else if k = 7 then ∃ A c gs, vs = [.slice A L.length c] ∧ (A = none → c = 0) ∧ ReadsOf slv zt w' A L.length gs ∧ Tells .i64 w' gs L else True
theorem R18.below {g0 : Tri} {L : List (List Int)} {k : Nat} {vs : List Value} {w' w2 : World} (h : R18 g0 L k vs w') (hb : Below w'.heap.size w' w2) : R18 g0 L k vs w2 := by
  unfold R18 at h ⊢
  split at h
  · rename_i h1
    rw [if_pos h1]
    obtain ⟨g, e, h⟩ := h
    exact ⟨g, e, blk_below h hb⟩
  · rename_i h1
    rw [if_neg h1]
    split at h
    · rename_i h2
      rw [if_pos h2]
      obtain ⟨A, c, gs, e, h0, h1, h2⟩ := h
      exact ⟨A, c, gs, e, h0, h1.below hb, h2.below hb⟩
    · rename_i h2
      rw [if_neg h2]
      trivial
end Go.Proofs.Ytnkgbnbbmcoiiaa.S
