import Derived.Test.YtnkgbnbbmcoiiaaOout
import Derived.Test.YtnkgbnbbmcoiiaaLv
import Derived.Test.YtnkgbnbbmcoiiaaOof
import Derived.Test.YtnkgbnbbmcoiiaaOafter
import Derived.Test.YtnkgbnbbmcoiiaaRel
import Derived.Test.YtnkgbnbbmcoiiaaOback
import Derived.Test.YtnkgbnbbmcoiiaaLregs
import Derived.Test.YtnkgbnbbmcoiiaaS8
namespace Go.Proofs.Ytnkgbnbbmcoiiaa.S
open Go.RowKit Go.IM Go.Proofs.YtnkgbnbbmcoiiaaW.PrintWords Go.Proofs.YtnkgbnbbmcoiiaaW.PrintLast Go.Proofs.YtnkgbnbbmcoiiaaW.PrintMore
set_option linter.unusedVariables false
/-! ### The greatest of some numbers -/
/-- m is the greatest of those of which P tells, or 0. -/
structure MaxOf (P : Nat → Prop) (m : Nat) : Prop where mk ::
  le : ∀ x, P x → x ≤ m
  is : m = 0 ∨ P m
theorem MaxOf.zero : MaxOf (fun _ => False) 0 := ⟨fun _ h => h.elim, .inl rfl⟩
theorem MaxOf.imp {P Q : Nat → Prop} {m : Nat} (h : MaxOf P m) (hq : ∀ x, P x ↔ Q x) : MaxOf Q m := ⟨fun x hx => h.le x ((hq x).2 hx), h.is.imp id (hq m).1⟩
theorem MaxOf.add {P : Nat → Prop} {m : Nat} (h : MaxOf P m) (a : Nat) : MaxOf (fun x => x = a ∨ P x) (max m a) := by
  by_cases hlt : m < a
  · rw [Nat.max_eq_right (Nat.le_of_lt hlt)]
    exact ⟨fun x hx => by
      rcases hx with rfl | hx
      · exact Nat.le_refl _
      · have := h.le x hx; omega, .inr (.inl rfl)⟩
  · rw [Nat.max_eq_left (Nat.le_of_not_lt hlt)]
    exact ⟨fun x hx => by
      rcases hx with rfl | hx
      · omega
      · exact h.le x hx, h.is.imp id .inr⟩
theorem MaxOf.uniq {P : Nat → Prop} {m n : Nat} (h : MaxOf P m) (k : MaxOf P n) : m = n := by
  have h1 : m ≤ n := by
    rcases h.is with e | e
    · omega
    · exact k.le m e
  have h2 : n ≤ m := by
    rcases k.is with e | e
    · omega
    · exact h.le n e
  omega
/-- The sizes of the rows ahead of block n. -/
def Sizes (bs : List S43) (n x : Nat) : Prop := ∃ i k, i < n ∧ k ≤ opLen bs i ∧ x = (liveRow bs i k).length
/-- Those of block i, at places 1 to k, and at its two ends. -/
def SizesTo (bs : List S43) (i k x : Nat) : Prop := x = (liveRow bs i 0).length ∨ x = (liveRow bs i (opLen bs i)).length ∨ ∃ q, q < k ∧ x = (liveRow bs i (q + 1)).length
theorem sizes_succ (bs : List S43) (i x : Nat) : (SizesTo bs i (opLen bs i) x ∨ Sizes bs i x) ↔ Sizes bs (i + 1) x := by
  constructor
  · rintro ((h | h | ⟨q, hq, h⟩) | ⟨j, k, hj, hk, h⟩)
    · exact ⟨i, 0, Nat.lt_succ_self i, Nat.zero_le _, h⟩
    · exact ⟨i, _, Nat.lt_succ_self i, Nat.le_refl _, h⟩
    · exact ⟨i, q + 1, Nat.lt_succ_self i, hq, h⟩
    · exact ⟨j, k, Nat.lt_succ_of_lt hj, hk, h⟩
  · rintro ⟨j, k, hj, hk, h⟩
    by_cases e : j = i
    · subst e
      left
      by_cases e0 : k = 0
      · subst e0; exact .inl h
      · refine .inr (.inr ⟨k - 1, by omega, ?_⟩)
        rw [Nat.sub_add_cancel (Nat.pos_of_ne_zero e0)]; exact h
    · exact .inr ⟨j, k, by omega, hk, h⟩
theorem sizesTo_zero (bs : List S43) (i y : Nat) : SizesTo bs i 0 y ↔ (y = (liveRow bs i (opLen bs i)).length ∨ y = (liveRow bs i 0).length) := by
  constructor
  · rintro (h | h | ⟨q, hq, _⟩)
    · exact .inr h
    · exact .inl h
    · exact absurd hq (Nat.not_lt_zero _)
  · rintro (h | h)
    · exact .inr (.inl h)
    · exact .inl h
theorem sizesTo_succ (bs : List S43) (i k y : Nat) : SizesTo bs i (k + 1) y ↔ (y = (liveRow bs i (k + 1)).length ∨ SizesTo bs i k y) := by
  constructor
  · rintro (h | h | ⟨q, hq, h⟩)
    · exact .inr (.inl h)
    · exact .inr (.inr (.inl h))
    · by_cases e : q = k
      · subst e; exact .inl h
      · exact .inr (.inr (.inr ⟨q, by omega, h⟩))
  · rintro (h | h | h | ⟨q, hq, h⟩)
    · exact .inr (.inr ⟨k, Nat.lt_succ_self k, h⟩)
    · exact .inl h
    · exact .inr (.inl h)
    · exact .inr (.inr ⟨q, by omega, h⟩)
theorem liveRow_nodup (bs : List S43) (i k : Nat) : (liveRow bs i k).Nodup := (liveRow_rise bs i k).imp (fun h => by omega)
theorem liveRow_sz {p : Int} {bs : List S43} {fn : Int} (h : RightP p bs fn) (i k : Nat) : Lv.Sz (fun r => Lv.At (gOf bs) r i k) (liveRow bs i k).length := ⟨_, liveRow_nodup bs i k, fun r => mem_liveRow h, rfl⟩
theorem liveRow_le {p : Int} {bs : List S43} {fn : Int} (h : RightP p bs fn) (i k : Nat) : (liveRow bs i k).length ≤ 4096 := (liveRow_sz h i k).regs (fun r ha => h.at_reg ha)
end Go.Proofs.Ytnkgbnbbmcoiiaa.S
namespace Go.Proofs.Ytnkgbnbbmcoiiaa.S
open Go.RowKit Go.IM Go.RelRegion Go.Proofs.YtnkgbnbbmcoiiaaW.PrintWords Go.Proofs.YtnkgbnbbmcoiiaaW.PrintLast Go.Proofs.YtnkgbnbbmcoiiaaW.PrintMore
set_option linter.unusedVariables false
set_option linter.unusedSimpArgs false
/-! ### live.Most -/
theorem max2_nat (ats : Array TypeId) (ty : TypeId) (a b : Nat) : Builtin.max_ ats ty #[.int .i64 (a : Int), .int .i64 (b : Int)] = pure (.int .i64 ((max a b : Nat) : Int)) := by
  rw [max_two, max2_int, pure_bind]
  congr 2
  split <;> omega
theorem max3_nat (ats : Array TypeId) (ty : TypeId) (a b c : Nat) : Builtin.max_ ats ty #[.int .i64 (a : Int), .int .i64 (b : Int), .int .i64 (c : Int)] = pure (.int .i64 ((max (max a b) c : Nat) : Int)) := by
  rw [max_three, max2_int, pure_bind, max2_int, pure_bind]
  congr 2
  split <;> split <;> omega
theorem rd_afterL {bs : List S43} {x k : Nat} (h : k < opLen bs x) : rd_L1 (afterL bs x) (k : Int) = liveRow bs x (k + 1) := by
  unfold rd_L1 afterL
  simp [List.getD_eq_getElem?_getD, h]
theorem end_sz {p : Int} {bs : List S43} {fn : Int} (h : RightP p bs fn) {x : Nat} {es : List (Int × Value)} (hk : KS es (fun r => r ∈ tuseT (rd_T43 bs (x : Int)).f1 ∨ ∃ j : Nat, (j : Int) ∈ succT (rd_T43 bs (x : Int)).f1 ∧ Lv.At (gOf bs) r j 0)) {a1 : Nat} (ha : (liveRow bs x (opLen bs x)).length = a1) : es.length = a1 := by
  have hs := liveRow_sz h x (opLen bs x)
  rw [ha] at hs
  refine hk.sz.uniq (hs.imp (fun r => ?_))
  have e := Lv.at_end (g := gOf bs) (r := r) (i := x)
  exact e
/-- What the loud of 'max(most, len(s), len(behind(in, code.Succ(f)[i], b.Term)))' tell. -/
def RMo (bs : List S43) (x a : Nat) (k : Nat) (vs : List Value) (w' : World) : Prop :=
  if k = 5 then ∃ A2 c2, vs = [.slice A2 (succL bs).length c2] ∧ Kd.C (Kd.slice 3 (Kd.int .i64)) w' A2 (succL bs).length (succL bs)
  else if k = 7 then ∃ ad A0 cb, vs = [.pointer (some ad)] ∧ w'.cell? ad = some (.slice A0 (rd_L1 (succL bs) (x : Int)).length cb) ∧ Kd.C (Kd.int .i64) w' A0 (rd_L1 (succL bs) (x : Int)).length (rd_L1 (succL bs) (x : Int))
  else if k = 8 then ∃ A0 cb, vs = [.slice A0 (rd_L1 (succL bs) (x : Int)).length cb] ∧ Kd.C (Kd.int .i64) w' A0 (rd_L1 (succL bs) (x : Int)).length (rd_L1 (succL bs) (x : Int))
  else if k = 15 then ∃ m es, vs = [.map (some m)] ∧ At w' m es ∧ es.length = a
  else if k = 16 then vs = [.int .i64 (a : Int)] else True
theorem RMo.below {bs : List S43} {x a k : Nat} {vs : List Value} {w' w2 : World} (h : RMo bs x a k vs w') (hb : Below w'.heap.size w' w2) : RMo bs x a k vs w2 := by
  unfold RMo at h ⊢
  repeat' split at h
  · rename_i h1
    rw [if_pos h1]
    obtain ⟨A2, c2, e, h⟩ := h
    exact ⟨A2, c2, e, Kd.C_below h hb⟩
  · rename_i h1 h2
    rw [if_neg h1, if_pos h2]
    obtain ⟨ad, A0, cb, e, hc, h⟩ := h
    exact ⟨ad, A0, cb, e, pw_cell_below hb hc, Kd.C_below h hb⟩
  · rename_i h1 h2 h3
    rw [if_neg h1, if_neg h2, if_pos h3]
    obtain ⟨A0, cb, e, h⟩ := h
    exact ⟨A0, cb, e, Kd.C_below h hb⟩
  · rename_i h1 h2 h3 h4
    rw [if_neg h1, if_neg h2, if_neg h3, if_pos h4]
    obtain ⟨m, es, e, ha, hk⟩ := h
    exact ⟨m, es, e, ha.below hb ha.lt, hk⟩
  · rename_i h1 h2 h3 h4 h5
    rw [if_neg h1, if_neg h2, if_neg h3, if_neg h4, if_pos h5]
    exact h
  · rename_i h1 h2 h3 h4 h5
    rw [if_neg h1, if_neg h2, if_neg h3, if_neg h4, if_neg h5]
    trivial
attribute [local go_sem] max2_nat max3_nat
set_option maxHeartbeats 8000000 in
set_option maxRecDepth 100000 in
theorem most_ok (p : Int) (A : Option Addr) (c : Nat) (bs : List S43) (w : World) (hC : Kd.C k43 w A bs.length bs) (hR : rightF p bs 256 = true) :
    Calls Try.prog 33 #[.agg #[.int .i64 p, .slice A bs.length c]] w fun e w' => ∃ m : Nat, e = .returned (.int .i64 (m : Int)) ∧ MaxOf (Sizes bs bs.length) m ∧ Below w.heap.size w w' := by
  have RP := Aside0.mk (rightF_iff hR)
  have HR := Aside0.mk hR
  have HC := Aside0.mk hC
  have HB0 := Aside0.mk (below_alloc (Below.refl w.heap.size w) (.cells #[.int .i64 p, .slice A bs.length c] 34))
  have HF0 := Aside0.mk (blk_new w (.cells #[.int .i64 p, .slice A bs.length c] 34))
  have hu34 := Try.underlying34
  have hu43 := Try.underlying43
  have hu41 := Try.underlying41
  have hlen := RP.out.len
  clear hC hR
  go_enter Try.func33, Try.ntmps33
  go_wp2_with (go_at_call 57; refine (sets_ok p A c bs _ (Kd.C_below HC.out HB0.out) HR.out).mono ?_; rintro e w1 ⟨A1, rfl, hm, hb⟩; have HM := Aside0.mk hm; have HF1 := Aside0.mk (blk_below HF0.out hb); have HB1 := Aside0.mk (below_then HB0.out HB0.out.size hb); clear hb hm)
  go_loopw [5, 17] (fun v i wr => ∃ j m : Nat, j ≤ bs.length ∧ i = .int .i64 (j : Int) ∧ v = .int .i64 (m : Int) ∧ Aside0 (MaxOf (Sizes bs j) m) ∧ Aside0 (Below w1.heap.size w1 wr)) (fun _ i _ => bs.length - (intOf i).toNat)
  case atStart => exact ⟨0, 0, Nat.zero_le _, rfl, rfl, ⟨MaxOf.zero.imp (fun x => ⟨False.elim, fun ⟨i, _, h, _⟩ => absurd h (Nat.not_lt_zero _)⟩)⟩, ⟨Below.refl _ _⟩⟩
  case round =>
    obtain ⟨x, m, hx, rfl, rfl, HMX, HB⟩ := hrel
    by_cases hlt : x < bs.length
    · have b1 : decide ((x : Int) < (bs.length : Int)) = true := decide_eq_true (by omega)
      have hw1 : wrap64 ((x : Int) + 1) = (x : Int) + 1 := (wr3 (z := 0) (by decide) (by omega)).2.2
      have q1 : (0 : Int) ≤ (x : Int) := by omega
      have q2 : (x : Int) < (bs.length : Int) := by omega
      obtain ⟨adm, b, es, eM, hcm, hat, hks⟩ := (HM.out.below HB.out) x hlt
      have HAT := Aside0.mk hat
      have HE0 := Aside0.mk (hks.sz.uniq (liveRow_sz RP.out x 0))
      clear hat hks
      subst eM
      obtain ⟨ad, A5, c5, eA, h0, h1, h2, h3, h4, l5, g5⟩ := at_T43 (Kd.C_below HC.out (below_then HB1.out HB1.out.size HB.out)) (x : Int) q1 q2
      simp only [Int.toNat_natCast] at h0 h1 h2 h3 h4
      subst eA
      clear h0 l5 g5
      have c0 := blk_cell (blk_below HF1.out HB.out) 0
      have c1 := blk_cell (blk_below HF1.out HB.out) 1
      simp only [List.getElem?_toArray, List.getElem?_cons_zero, List.getElem?_cons_succ] at c0 c1
      have HSL := Aside0.mk (succL_at hlt)
      have HSC := Aside0.mk (RP.out.succ hlt)
      have hsll := succL_length bs
      obtain ⟨a1, ha1⟩ : ∃ a1, (liveRow bs x (opLen bs x)).length = a1 := ⟨_, rfl⟩
      have HA1 := Aside0.mk ha1
      clear ha1
      go_wp2_with fail
      refine wp_region_rel 17 (fun k => if k = 5 then some [] else if k = 7 then some [5] else if k = 8 then some [7] else if k = 15 then some [8] else if k = 16 then some [15] else none) (fun k => [k]) (RMo bs x a1) (fun w' => Below wr.heap.size wr w') (fun a b => Below a.heap.size a b) (by kernel_rfl) (by kernel_rfl) (below_drew (Below.refl _ _)) (fun a b h k => below_then h h.size k) (fun _ _ _ _ h hb => h.below hb) ?_
      simp only [List.take_succ_cons, List.take_zero, List.drop_succ_cons, List.drop_zero]
      iterate 17 (first | (refine relQ_loud rfl ?_) | (apply relQ_step rfl; apply Exists.intro; constructor; (focus (intro w' hw'; have c0 := pw_cell_below hw' c0; have c1 := pw_cell_below hw' c1; have h1 := pw_cell_below hw' h1; have h2 := pw_cell_below hw' h2; have h3 := pw_cell_below hw' h3; have h4 := pw_cell_below hw' h4; unfold Yl; go_wp2_with (at_len; refine IM.wpl_len _ rfl _ 91 rfl 3 4 Try.underlying91 b es rfl (HAT.out.below hw' HAT.out.lt) ?_); exact ⟨rfl, _, rfl, rfl, Below.refl _ _⟩)); (try simp only [Act.put, List.setIfInBounds_toArray, List.set_cons_zero, List.set_cons_succ])))
      refine relQ_nil (fun xx => ?_)
      repeat (refine relL_quiet rfl ?_)
      refine relL_loud rfl (fun w' hw' _ => ?_) ?_
      · unfold Yl
        go_wp2_with (go_at_call 29; refine (succ_any p (some ad) c bs _ (Kd.C_below HC.out (below_then HB1.out HB1.out.size (below_then HB.out HB.out.size hw'))) RP.out.len.2).mono ?_; rintro e w6 ⟨v2, rfl, hr2, hb⟩)
        obtain ⟨A2, c2, rfl, _, hC2⟩ := Kd.R_reads hr2
        refine ⟨rfl, _, rfl, hb, ?_⟩
        unfold RMo
        rw [if_pos rfl]
        exact ⟨A2, c2, by simp, hC2⟩
      (try simp only [Act.put, List.setIfInBounds_toArray, List.set_cons_zero, List.set_cons_succ])
      repeat (refine relL_quiet rfl ?_)
      refine relL_loud rfl (fun w' hw' hR => ?_) ?_
      · have r2 := hR 5 (by simp)
        unfold RMo at r2
        rw [if_pos rfl] at r2
        obtain ⟨A2, c2, e2, hC2⟩ := r2
        have e2 : xx 5 = .slice A2 (succL bs).length c2 := by simpa using e2
        rw [e2]
        obtain ⟨ad2, A0, cb, eA2, sE, hcb, hCr⟩ := at_L1 hC2 (x : Int) (by omega) (by omega)
        rw [Int.toNat_natCast] at sE
        subst eA2
        have q3 : (x : Int) < ((succL bs).length : Int) := by omega
        have HCR := Aside0.mk hCr
        clear hCr hcb hC2
        unfold Yl
        go_wp2_with fail
        refine ⟨rfl, _, rfl, Below.refl _ _, ?_⟩
        unfold RMo
        rw [if_neg (by decide), if_pos rfl]
        exact ⟨ad2.add x, A0, cb, by simp, sE, HCR.out⟩
      (try simp only [Act.put, List.setIfInBounds_toArray, List.set_cons_zero, List.set_cons_succ])
      refine relL_loud rfl (fun w' hw' hR => ?_) ?_
      · have r4 := hR 7 (by simp)
        unfold RMo at r4
        rw [if_neg (by decide), if_pos rfl] at r4
        obtain ⟨adx, A0, cb, e4, sE, hCr⟩ := r4
        have e4 : xx 7 = .pointer (some adx) := by simpa using e4
        rw [e4]
        have HCR := Aside0.mk hCr
        clear hCr
        unfold Yl
        go_wp2_with fail
        refine ⟨rfl, _, rfl, Below.refl _ _, ?_⟩
        unfold RMo
        rw [if_neg (by decide), if_neg (by decide), if_pos rfl]
        exact ⟨A0, cb, by simp, HCR.out⟩
      (try simp only [Act.put, List.setIfInBounds_toArray, List.set_cons_zero, List.set_cons_succ])
      repeat (refine relL_quiet rfl ?_)
      refine relL_loud rfl (fun w' hw' hR => ?_) ?_
      · have r5 := hR 8 (by simp)
        unfold RMo at r5
        rw [if_neg (by decide), if_neg (by decide), if_pos rfl] at r5
        obtain ⟨A0, cb, e5, hCr⟩ := r5
        have e5 : xx 8 = .slice A0 (rd_L1 (succL bs) (x : Int)).length cb := by simpa using e5
        rw [e5]
        have hb61 := behind_any (some adm) bs.length bs.length (fun i r => Lv.At (gOf bs) r i 0) A0 cb (rd_L1 (succL bs) (x : Int)) (rd_T43 bs (x : Int)).f1 w' (by omega) (HM.out.below (below_then HB.out HB.out.size hw')) hCr (by rw [HSL.out]; exact HSC.out)
        have HB61 := Aside0.mk hb61
        clear hb61 hCr
        unfold Yl
        go_wp2_with (go_at_call 61; refine HB61.out.mono ?_; rintro e w6 ⟨m, es, rfl, ha, hk, hms, hb⟩)
        refine ⟨rfl, _, rfl, hb, ?_⟩
        unfold RMo
        rw [if_neg (by decide), if_neg (by decide), if_neg (by decide), if_pos rfl]
        refine ⟨m, es, by simp, ha, ?_⟩
        rw [HSL.out] at hk
        exact end_sz RP.out hk HA1.out
      (try simp only [Act.put, List.setIfInBounds_toArray, List.set_cons_zero, List.set_cons_succ])
      refine relL_loud rfl (fun w' hw' hR => ?_) ?_
      · have r5 := hR 15 (by simp)
        unfold RMo at r5
        rw [if_neg (by decide), if_neg (by decide), if_neg (by decide), if_pos rfl] at r5
        obtain ⟨m5, es5, e5, ha5, hl5⟩ := r5
        have e5 : xx 15 = .map (some m5) := by simpa using e5
        rw [e5]
        have HA5 := Aside0.mk ha5
        clear ha5
        unfold Yl
        go_wp2_with (at_len; refine IM.wpl_len _ rfl _ 91 rfl 3 4 Try.underlying91 m5 es5 rfl HA5.out ?_)
        refine ⟨rfl, _, rfl, Below.refl _ _, ?_⟩
        unfold RMo
        rw [if_neg (by decide), if_neg (by decide), if_neg (by decide), if_neg (by decide), if_pos rfl]
      (try simp only [Act.put, List.setIfInBounds_toArray, List.set_cons_zero, List.set_cons_succ])
      refine relL_nil (fun w2 hw2 hRR => ?_)
      have r16 := hRR 16 (by decide) rfl
      unfold RMo at r16
      rw [if_neg (by decide), if_neg (by decide), if_neg (by decide), if_neg (by decide), if_pos rfl] at r16
      have r16 : xx 16 = .int .i64 (a1 : Int) := by simpa using r16
      rw [r16]
      have HB2 := Aside0.mk (below_then HB.out HB.out.size hw2)
      have c0 := pw_cell_below hw2 c0
      have c1 := pw_cell_below hw2 c1
      have HM0 : Aside0 (MaxOf (fun y => SizesTo bs x 0 y ∨ Sizes bs x y) (max m (max es.length a1))) := ⟨by
        rw [← Nat.max_assoc]
        exact ((HMX.out.add es.length).add a1).imp (fun y => by
        rw [sizesTo_zero, HA1.out, HE0.out, or_assoc])⟩
      obtain ⟨L, hL⟩ : ∃ L, afterL bs x = L := ⟨_, rfl⟩
      have HL := Aside0.mk hL
      have HLL : Aside0 (L.length = opLen bs x) := ⟨by rw [← hL, afterL, List.length_map, List.length_range]⟩
      have HLA : Aside0 (∀ k : Nat, k < L.length → rd_L1 L (k : Int) = liveRow bs x (k + 1)) := ⟨fun k hk => by
        rw [HLL.out] at hk
        rw [← hL]
        exact rd_afterL hk⟩
      clear hL hw2 hRR h1 h2 h3 h4 hcm
      go_wp2_with (go_at_call 60; refine (after_any p (some ad) c bs 256 (some adm) x _ (Kd.C_below HC.out (below_then HB1.out HB1.out.size HB2.out)) RP.out (HM.out.below HB2.out) hlt).mono ?_; rintro e w3 ⟨v3, rfl, hr, hb⟩; obtain ⟨A3, c3, rfl, _, hC3⟩ := Kd.R_reads hr; rw [HL.out] at hC3 ⊢; have HC3 := Aside0.mk hC3; have HB3 := Aside0.mk (below_then HB2.out HB2.out.size hb); clear hr hb hC3 c0 c1)
      generalize max m (max es.length a1) = m2 at HM0 ⊢
      go_loopw [5, 45] (fun v i wr => ∃ k m3 : Nat, k ≤ L.length ∧ i = .int .i64 (k : Int) ∧ v = .int .i64 (m3 : Int) ∧ Aside0 (MaxOf (fun y => SizesTo bs x k y ∨ Sizes bs x y) m3) ∧ Aside0 (Below w3.heap.size w3 wr)) (fun _ i _ => L.length - (intOf i).toNat)
      case atStart => exact ⟨0, m2, Nat.zero_le _, rfl, rfl, HM0, ⟨Below.refl _ _⟩⟩
      case round =>
        clear HMX HB HB2 HM0
        obtain ⟨k, m3, hk, rfl, rfl, HMX, HB⟩ := hrel
        by_cases hlk : k < L.length
        · have b2 : decide ((k : Int) < (L.length : Int)) = true := decide_eq_true (Int.ofNat_lt.2 hlk)
          have hw2 : wrap64 ((k : Int) + 1) = (k : Int) + 1 := (wr3 (z := 0) (by decide) (by have := RP.out.opLen_le x; have := HLL.out; omega)).2.2
          obtain ⟨adk, A0, k0, eI, hi0, hi1, hi2⟩ := row_cell (Kd.C_below HC3.out HB.out) hlk (HLA.out k hlk)
          subst eI
          have HMN : Aside0 (MaxOf (fun y => SizesTo bs x (k + 1) y ∨ Sizes bs x y) (max m3 (liveRow bs x (k + 1)).length)) := ⟨(HMX.out.add (liveRow bs x (k + 1)).length).imp (fun y => by rw [sizesTo_succ, or_assoc])⟩
          generalize (liveRow bs x (k + 1)).length = n1 at hi0 HMN
          clear hi1 hi2
          go_wp2_with fail
          go_roundw
          case rel => exact ⟨k + 1, _, hlk, by first | (rw [hw2]; exact num_cast k) | (with_reducible exact num_cast k), rfl, HMN, HB⟩
          case measure => first | (rw [hw2]; exact num_meas hlk) | (with_reducible exact num_meas hlk)
        · have b2 : decide ((k : Int) < (L.length : Int)) = false := decide_eq_false (fun h => hlk (Int.ofNat_lt.1 h))
          have ek : k = opLen bs x := (Nat.le_antisymm hk (Nat.le_of_not_lt hlk)).trans HLL.out
          have HMN : Aside0 (MaxOf (Sizes bs (x + 1)) m3) := ⟨HMX.out.imp (fun y => by rw [ek]; exact sizes_succ bs x y)⟩
          clear ek
          go_wp2_with fail
          go_roundw
          case rel => exact ⟨x + 1, m3, hlt, by first | (rw [hw1]; exact num_cast x) | (with_reducible exact num_cast x), rfl, HMN, ⟨below_then HB3.out HB3.out.size HB.out⟩⟩
          case measure => first | (rw [hw1]; exact num_meas hlt) | (with_reducible exact num_meas hlt)
    · have b1 : decide ((x : Int) < (bs.length : Int)) = false := decide_eq_false (by omega)
      obtain rfl : x = bs.length := Nat.le_antisymm hx (Nat.le_of_not_lt hlt)
      go_wp2_with fail
      go_ret
      exact ⟨m, rfl, HMX.out, below_then HB1.out HB1.out.size HB.out⟩
end Go.Proofs.Ytnkgbnbbmcoiiaa.S
namespace Go.Proofs.Ytnkgbnbbmcoiiaa.S
open Go.RowKit Go.IM Go.Proofs.YtnkgbnbbmcoiiaaW.PrintWords Go.Proofs.YtnkgbnbbmcoiiaaW.PrintLast Go.Proofs.YtnkgbnbbmcoiiaaW.PrintMore
set_option linter.unusedVariables false
/-! ### SpansMeet, plain -/
def Tt' {α : Type} (g : Nat → Option α) (v : α) : Prop := ∃ k0, ∀ k, k0 ≤ k → g k = some v
theorem pts_lo {p : Int} {bs : List S43} {fn : Int} (h : RightP p bs fn) {i k : Nat} (hi : i < bs.length) (hk : k ≤ opLen bs i) {r : Int} (ha : Lv.At (gOf bs) r i k) : ∃ q, Pts p bs bs.length r q ∧ q ≤ (pos bs i : Int) + (k : Int) := by
  rcases Lv.at_lo (g := gOf bs) hk ha with h0 | ⟨k', h1, h2⟩
  · exact ⟨(pos bs i : Int), .inr ⟨i, hi, .inl ⟨(mem_liveRow h).2 h0, rfl⟩⟩, by omega⟩
  · have hr := h.at_reg ha
    have h2' : setX (opOf bs (i, k')) = r := h2
    refine ⟨(pos bs i : Int) + (k' : Int) + 1, .inr ⟨i, hi, .inr (.inr (.inr ⟨k', by omega, .inr ⟨by omega, h2'.symm, rfl⟩⟩))⟩, by omega⟩
theorem pts_hi {p : Int} {bs : List S43} {fn : Int} (h : RightP p bs fn) {i k : Nat} (hi : i < bs.length) (hk : k ≤ opLen bs i) {r : Int} (ha : Lv.At (gOf bs) r i k) : ∃ q, Pts p bs bs.length r q ∧ (pos bs i : Int) + (k : Int) ≤ q := by
  have hp := pos_succ bs i
  rcases Lv.at_hi ha with ⟨k', h1, h2, h3⟩ | h1 | ⟨j, h1, h2⟩
  · exact ⟨(pos bs i : Int) + (k' : Int), .inr ⟨i, hi, .inr (.inr (.inr ⟨k', h2, .inl ⟨h3, rfl⟩⟩))⟩, by omega⟩
  · exact ⟨(pos bs (i + 1) : Int) - 1, .inr ⟨i, hi, .inr (.inr (.inl ⟨h1, rfl⟩))⟩, by omega⟩
  · refine ⟨(pos bs (i + 1) : Int), .inr ⟨i, hi, .inr (.inl ⟨(mem_outRow h).2 ⟨j, h1, h2⟩, rfl⟩)⟩, by omega⟩
/-- A live register's span is there, and has the place. -/
theorem cover {p : Int} {bs : List S43} {fn : Int} (h : RightP p bs fn) {out : List S26} (hq : OfQ (Pts p bs bs.length) out) {i k : Nat} (hi : i < bs.length) (hk : k ≤ opLen bs i) {r : Int} (ha : Lv.At (gOf bs) r i k) :
    ∃ a b, spanF out r = (r, a, b, true) ∧ a ≤ (pos bs i : Int) + (k : Int) ∧ (pos bs i : Int) + (k : Int) ≤ b := by
  obtain ⟨q1, hp1, hl1⟩ := pts_lo h hi hk ha
  obtain ⟨q2, hp2, hl2⟩ := pts_hi h hi hk ha
  obtain ⟨a, b, e, ha1, hb1⟩ := hq.spanF hp1
  obtain ⟨a', b', e', ha2, hb2⟩ := hq.spanF hp2
  rw [e] at e'
  simp only [Prod.mk.injEq, true_and, and_true] at e'
  obtain ⟨rfl, rfl⟩ := e'
  exact ⟨a, b, e, by omega, by omega⟩
theorem cover_mem {p : Int} {bs : List S43} {fn : Int} (h : RightP p bs fn) {out : List S26} (hq : OfQ (Pts p bs bs.length) out) {i k : Nat} (hi : i < bs.length) (hk : k ≤ opLen bs i) {r : Int} (ha : Lv.At (gOf bs) r i k) : r ∈ ats out ((pos bs i : Int) + (k : Int)) := by
  obtain ⟨q1, hp1, hl1⟩ := pts_lo h hi hk ha
  obtain ⟨q2, hp2, hl2⟩ := pts_hi h hi hk ha
  obtain ⟨x, hx, e⟩ := hq.all r q1 hp1
  have hs := hq.span x hx
  rw [e] at hs
  have h1 := hs.all q1 hp1
  have h2 := hs.all q2 hp2
  unfold ats
  refine List.mem_map.2 ⟨x, List.mem_filter.2 ⟨hx, ?_⟩, e⟩
  unfold hasP
  simp only [Bool.and_eq_true, decide_eq_true_eq]
  exact ⟨by omega, by omega⟩
theorem live_ats {p : Int} {bs : List S43} {fn : Int} (h : RightP p bs fn) {out : List S26} (hq : OfQ (Pts p bs bs.length) out) {i k : Nat} (hi : i < bs.length) (hk : k ≤ opLen bs i) : (liveRow bs i k).length ≤ (ats out ((pos bs i : Int) + (k : Int))).length :=
  Lv.nodup_le (liveRow_nodup bs i k) (fun r hr => cover_mem h hq hi hk ((mem_liveRow h).1 hr))
/-- The greatest of some. -/
theorem best {α : Type} (f : α → Int) : ∀ (l : List α), l ≠ [] → ∃ x ∈ l, ∀ y ∈ l, f y ≤ f x
  | [x], _ => ⟨x, List.mem_cons_self, fun y hy => by rw [List.mem_singleton] at hy; rw [hy]; exact Int.le_refl _⟩
  | x :: z :: l, _ => by
    obtain ⟨b, hb, h⟩ := best f (z :: l) (by simp)
    by_cases e : f b ≤ f x
    · exact ⟨x, List.mem_cons_self, fun y hy => by
        rcases List.mem_cons.1 hy with rfl | hy
        · exact Int.le_refl _
        · have := h y hy; omega⟩
    · exact ⟨b, List.mem_cons_of_mem _ hb, fun y hy => by
        rcases List.mem_cons.1 hy with rfl | hy
        · omega
        · exact h y hy⟩
theorem ats_best (l : List S26) (q : Int) : ats l q = [] ∨ ∃ x ∈ l, (ats l q).length ≤ (ats l x.f1).length := by
  by_cases he : l.filter (fun x => hasP x q) = []
  · left; unfold ats; rw [he]; rfl
  · right
    obtain ⟨x, hx, hb⟩ := best (fun x : S26 => x.f1) _ he
    refine ⟨x, (List.mem_filter.1 hx).1, ?_⟩
    unfold ats
    rw [List.length_map, List.length_map, ← List.countP_eq_length_filter, ← List.countP_eq_length_filter]
    refine List.countP_mono_left (fun y hy hq => ?_)
    have h1 := hb y (List.mem_filter.2 ⟨hy, hq⟩)
    have h2 := (List.mem_filter.1 hx).2
    unfold hasP at hq h2 ⊢
    simp only [Bool.and_eq_true, decide_eq_true_eq] at hq h2 ⊢
    exact ⟨h1, by omega⟩
theorem most_up (l : List S26) (hl : l.length ≤ 4096) : ∀ m j, j + m = l.length → ∀ acc : Int, ∃ v, Tt' (fun k => spans_Most.l0 k l acc l (l.length : Int) (j : Int)) v ∧ acc ≤ v ∧ ∀ i, j ≤ i → i < l.length → ((ats l (rd_T26 l (i : Int)).f1).length : Int) ≤ v
  | 0, j, hm, acc => ⟨acc, ⟨1, fun k hk => by
      obtain ⟨k', rfl⟩ : ∃ k', k = k' + 1 := ⟨k - 1, by omega⟩
      show spans_Most.l0 (k' + 1) l acc l (l.length : Int) (j : Int) = some acc
      rw [spans_Most.l0, if_neg (by omega)]⟩, Int.le_refl _, fun i h1 h2 => by omega⟩
  | m + 1, j, hm, acc => by
      have hj : j < l.length := by omega
      obtain ⟨v, ⟨k0, hv⟩, ha, hi⟩ := most_up l hl m (j + 1) (by omega) (mx acc ((srt (ats l (rd_T26 l (j : Int)).f1)).length : Int))
      have hmx : acc ≤ mx acc ((srt (ats l (rd_T26 l (j : Int)).f1)).length : Int) ∧ ((srt (ats l (rd_T26 l (j : Int)).f1)).length : Int) ≤ mx acc ((srt (ats l (rd_T26 l (j : Int)).f1)).length : Int) := by
        unfold mx
        split <;> constructor <;> omega
      rw [srt_length] at hmx
      refine ⟨v, ⟨k0 + 1, fun k hk => ?_⟩, ?_, fun i h1 h2 => ?_⟩
      · obtain ⟨k', rfl⟩ : ∃ k', k = k' + 1 := ⟨k - 1, by omega⟩
        show spans_Most.l0 (k' + 1) l acc l (l.length : Int) (j : Int) = some v
        rw [spans_Most.l0, if_pos (by omega), if_pos (Int.natCast_nonneg j), if_pos (by omega)]
        unfold spans_At.f
        rw [if_pos (by omega), Option.bind_some, num_inc hj hl]
        exact hv k' (by omega)
      · rw [srt_length] at ha
        omega
      · by_cases e : i = j
        · subst e
          rw [srt_length] at ha
          omega
        · exact hi i (by omega) h2
theorem most_ge (l : List S26) (hl : l.length ≤ 4096) : ∃ k v, spans_Most.f k l = some v ∧ 0 ≤ v ∧ ∀ q, ((ats l q).length : Int) ≤ v := by
  obtain ⟨v, ⟨k0, hv⟩, h0, hi⟩ := most_up l hl l.length 0 (Nat.zero_add _) 0
  refine ⟨k0, v, hv k0 (Nat.le_refl _), h0, fun q => ?_⟩
  rcases ats_best l q with e | ⟨x, hx, h⟩
  · rw [e]; exact h0
  · obtain ⟨i, hi', e⟩ := List.getElem_of_mem hx
    have := hi i (Nat.zero_le _) hi'
    rw [rd26s hi', e] at this
    omega
/-- What SpansMeet asks last. -/
theorem meet_most {p : Int} {bs : List S43} {fn : Int} (h : RightP p bs fn) {out : List S26} (hq : OfQ (Pts p bs bs.length) out) {v : Int} (h0 : 0 ≤ v) (hv : ∀ q, ((ats out q).length : Int) ≤ v) {m : Nat} (hm : MaxOf (Sizes bs bs.length) m) : (m : Int) ≤ v := by
  rcases hm.is with e | ⟨i, k, hi, hk, e⟩
  · omega
  · have h1 := live_ats h hq hi hk
    have h2 := hv ((pos bs i : Int) + (k : Int))
    omega
/-- All points lie in the function. -/
theorem pts_in {p : Int} {bs : List S43} {r q : Int} (h : Pts p bs bs.length r q) : 0 ≤ q ∧ q ≤ (pos bs bs.length : Int) := by
  rcases h with ⟨rfl, _⟩ | ⟨i, hi, h⟩
  · exact ⟨Int.le_refl _, Int.natCast_nonneg _⟩
  · have h1 := pos_mono bs (i := i + 1) (j := bs.length) hi
    have h2 := pos_succ bs i
    rcases h with ⟨_, rfl⟩ | ⟨_, rfl⟩ | ⟨_, rfl⟩ | ⟨k, hk, ⟨_, rfl⟩ | ⟨_, _, rfl⟩⟩ <;> constructor <;> omega
theorem span_in {p : Int} {bs : List S43} {out : List S26} (hq : OfQ (Pts p bs bs.length) out) {x : S26} (hx : x ∈ out) : x.f1 ≤ x.f2 ∧ 0 ≤ x.f1 ∧ x.f2 ≤ (pos bs bs.length : Int) := by
  have hs := hq.span x hx
  have h1 := pts_in hs.lo
  have h2 := pts_in hs.hi
  have h3 := hs.all _ hs.hi
  omega
end Go.Proofs.Ytnkgbnbbmcoiiaa.S
