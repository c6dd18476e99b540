import Derived.Test.YtncpgclcbdgndaaOsc
namespace Go.Proofs.Ytncpgclcbdgndaa.S
open Go.RowKit Go.Proofs.YtncpgclcbdgndaaW.PrintWords Go.Proofs.YtncpgclcbdgndaaW.PrintLast Go.Proofs.YtncpgclcbdgndaaW.PrintMore
set_option linter.unusedVariables false
/-! ### expire -/
set_option maxHeartbeats 4000000 in
set_option maxRecDepth 100000 in
/-- The closure: has span k ended ahead of the place? -/
theorem ended_any (px pp s : Nat) (A : Option Addr) (c : Nat) (l : List S38) (p : Int) (k : Nat) (v : Bool) (w : World) (hx : w.cell? ⟨px, 0, none⟩ = some (.pointer (some ⟨s, 0, none⟩))) (hp : w.cell? ⟨pp, 0, none⟩ = some (.int .i64 p))
    (h0 : w.cell? ⟨s, 0, none⟩ = some (.slice A l.length c)) (hl : Kd.C k38 w A l.length l) (hk : k < l.length) :
    Calls Try.prog 44 #[.int .i64 (k : Int), .bool v, .pointer (some ⟨px, 0, none⟩), .pointer (some ⟨pp, 0, none⟩)] w fun e w' => e = .returned (.bool (decide (l[k].f2 < p))) ∧ ∃ n, w' = w.drewN n := by
  have hu48 := Try.underlying48
  have hu38 := Try.underlying38
  have hn : l.length ≤ 9223372036854775807 := hl.2.1
  obtain ⟨ad, eA, k0, k1, k2⟩ := at_T38 hl (k : Int) (by omega) (by omega)
  rw [rd38 hk] at k0 k1 k2
  simp only [Int.toNat_natCast] at k0 k1 k2
  subst eA
  have q1 : (0 : Int) ≤ (k : Int) := by omega
  have q2 : (k : Int) < (l.length : Int) := by omega
  clear hl
  generalize l[k] = x at *
  go_enter Try.func44, Try.ntmps44
  go_wp2_with fail
  repeat (go_quiet (fail); try go_wp2)
  go_ret
  exact ⟨rfl, _, rfl⟩
/-- What is left of the set, while some are still to be asked. -/
def keepL (F T : Nat → Int) (k : Nat) (a lf : List Nat) : List Nat := a.filter fun i => decide (F k ≤ T i) || lf.contains i
def keepQ (p : Int) (T : Nat → Int) (a lf : List Nat) : List Nat := a.filter fun i => decide (p ≤ T i) || lf.contains i
theorem keepQ_start (p : Int) (T : Nat → Int) (a : List Nat) : keepQ p T a a = a := by
  unfold keepQ
  rw [List.filter_eq_self]
  intro i hi
  simp [hi]
theorem keepQ_end (p : Int) (T : Nat → Int) (a : List Nat) : keepQ p T a [] = a.filter fun i => decide (p ≤ T i) := by
  unfold keepQ
  apply List.filter_congr
  intro i _
  simp
theorem keepQ_stay {p : Int} {T : Nat → Int} {a lf : List Nat} {j k : Nat} (hn : lf.Nodup) (hj : lf[j]? = some k) (hk : p ≤ T k) : keepQ p T a (lf.eraseIdx j) = keepQ p T a lf := by
  unfold keepQ
  apply List.filter_congr
  intro i _
  by_cases hi : i = k
  · subst hi
    simp [hk]
  · have : (lf.eraseIdx j).contains i = lf.contains i := by
      rw [Bool.eq_iff_iff]
      simp only [List.contains_iff_mem, eraseIdx_mem hn hj i]
      exact ⟨fun h => h.1, fun h => ⟨h, hi⟩⟩
    rw [this]
theorem keepQ_strike {p : Int} {T : Nat → Int} {a lf : List Nat} {j k : Nat} (ha : a.Nodup) (hn : lf.Nodup) (hj : lf[j]? = some k) (hk : ¬ p ≤ T k) : (keepQ p T a lf).erase k = keepQ p T a (lf.eraseIdx j) := by
  unfold keepQ
  rw [(ha.sublist List.filter_sublist).erase_eq_filter, List.filter_filter]
  apply List.filter_congr
  intro i _
  rw [Bool.eq_iff_iff]
  simp only [Bool.and_eq_true, Bool.or_eq_true, decide_eq_true_eq, List.contains_iff_mem, bne_iff_ne, eraseIdx_mem hn hj i]
  constructor
  · rintro ⟨h1, h2 | h2⟩
    · exact .inl h2
    · exact .inr ⟨h2, h1⟩
  · rintro (h1 | ⟨h1, h2⟩)
    · exact ⟨fun e => hk (e ▸ h1), .inl h1⟩
    · exact ⟨h2, .inr h1⟩
/-- A row that is read, where the one map that turned is none of it. -/
theorem C_other {w w' : World} {A : Option Addr} {n mb : Nat} {l : List S38} {es : List (Int × Value)} (h : Kd.C k38 w A n l) (hm : IM.At w mb es) (hg : w.grownBy w' (some mb)) : Kd.C k38 w' A n l := by
  obtain ⟨h1, h2, h3⟩ := h
  refine ⟨h1, h2, fun hn => ?_⟩
  obtain ⟨ad, e, hc⟩ := h3 hn
  refine ⟨ad, e, fun j p hj => ?_⟩
  obtain ⟨c, hl, hk, hu⟩ := hc j p hj
  refine ⟨c, hl, by rw [k38_open hk]; exact k38_mk _ _, fun i u hi => ?_⟩
  have h4 := hu i u hi
  have hlt := World.block_lt_of_cell? w _ h4
  refine (World.cell?_of_block (w := w) (hg.block _ hlt (fun e => ?_))).trans h4
  obtain ⟨en, ck, hb, _⟩ := hm
  injection e with e
  simp [World.cell?, e, hb] at h4
set_option maxHeartbeats 8000000 in
set_option maxRecDepth 100000 in
/-- maps.DeleteFunc, with that closure. -/
theorem del_any (px pp s mb : Nat) (A : Option Addr) (c : Nat) (l : List S38) (p : Int) (a : List Nat) (w : World) (hx : w.cell? ⟨px, 0, none⟩ = some (.pointer (some ⟨s, 0, none⟩))) (hp : w.cell? ⟨pp, 0, none⟩ = some (.int .i64 p))
    (h0 : w.cell? ⟨s, 0, none⟩ = some (.slice A l.length c)) (hl : Kd.C k38 w A l.length l) (hm : IM.At w mb (akeys a)) (ha : a.Nodup) (hal : ∀ i ∈ a, i < l.length) :
    Calls Try.prog 43 #[.map (some mb), .func (.func 44) #[] #[.pointer (some ⟨px, 0, none⟩), .pointer (some ⟨pp, 0, none⟩)]] w fun e w' => e = .returned (.tuple #[]) ∧ IM.At w' mb (akeys (a.filter fun i => decide (p ≤ (rd_T38 l (i : Int)).f2))) ∧ w.grownBy w' (some mb) := by
  have HX := Aside0.mk hx
  have HP := Aside0.mk hp
  have H0 := Aside0.mk h0
  have HL := Aside0.mk hl
  have HM := Aside0.mk hm
  have HA := Aside0.mk ha
  have HAL := Aside0.mk hal
  have ne : ∀ {b : Nat} {u : Value}, w.cell? ⟨b, 0, none⟩ = some u → b ≠ mb := fun {b u} h e => by
    subst e
    obtain ⟨en, ck, hb, _⟩ := hm
    simp [World.cell?, hb] at h
  have NX := Aside0.mk (ne hx)
  have NP := Aside0.mk (ne hp)
  have NS := Aside0.mk (ne h0)
  clear hx hp h0 hl hm ha hal ne
  go_enter Try.func43, Try.ntmps43
  go_wp2_with (at_range; refine IM.wpl_range _ rfl _ 46 rfl 3 4 Try.underlying46 mb _ rfl HM.out ?_; intro w0 hrg0 hg0 hs0; clear hs0)
  go_frame
  go_loopw [8] (fun _ wr => ∃ lf : List Nat, Aside0 (IM.Rng wr mb w.heap.size (akeys (keepQ p (fun i => (rd_T38 l (i : Int)).f2) a lf)) (akeys lf)) ∧ Aside0 (lf.Nodup ∧ ∀ i ∈ lf, i ∈ a) ∧ Aside0 (w.grownBy wr (some mb))) (fun _ wr => wr.rangeLeft mb w.heap.size)
  case atStart => exact ⟨a, ⟨by rw [keepQ_start]; exact hrg0⟩, ⟨HA.out, fun _ h => h⟩, ⟨hg0.but _⟩⟩
  case round =>
    clear hrg0 hg0
    obtain ⟨lf, HR, HN, HG⟩ := hrel
    go_wp2_with (at_next; refine wpl_next_set _ rfl _ rfl mb w.heap.size _ lf rfl HR.out ?_ ?_)
    · intro hl0
      have hl0 := hl0.out
      go_wp2
      go_end0
      refine ⟨rfl, ?_, HG.out⟩
      have := HR.out.at'
      rw [hl0, keepQ_end] at this
      exact this
    · intro j i w1 hji hr1 hlt hg1 hen
      have HLT := Aside0.mk hlt.out
      have HG1 : Aside0 (w.grownBy w1 (some mb)) := ⟨HG.out.andThen hg1 (fun q e => by cases e; exact .inl (Nat.le_refl _))⟩
      have HR1 := Aside0.mk hr1
      have hil : i < l.length := HAL.out i (HN.out.2 i (List.mem_of_getElem? hji.out))
      have hB : ∀ {q : Nat} {u : Value}, w.cell? ⟨q, 0, none⟩ = some u → q ≠ mb → w1.cell? ⟨q, 0, none⟩ = some u := fun {q u} h hq => by
        have hq' := World.block_lt_of_cell? w _ h
        exact (World.cell?_of_block (w := w) (HG1.out.block q hq' (fun e => hq (by cases e; rfl)))).trans h
      have hcall := ended_any px pp s A c l p i true w1 (hB HX.out NX.out) (hB HP.out NP.out) (hB H0.out NS.out) (C_other HL.out HM.out HG1.out) hil
      rw [← rd38 hil] at hcall
      have HC := Aside0.mk hcall
      clear hcall hB hr1 hlt hg1
      have HJ := Aside0.mk hji.out
      clear hji
      generalize hq : (rd_T38 l (i : Int)).f2 = q at HC
      have HQ := Aside0.mk hq
      clear hq
      by_cases hd : q < p
      · have hd1 : decide (q < p) = true := decide_eq_true hd
        rw [hd1] at HC
        have hnk : ¬ p ≤ (rd_T38 l (i : Int)).f2 := by rw [HQ.out]; omega
        have HD : Aside0 (IM.dl (akeys (keepQ p (fun i => (rd_T38 l (i : Int)).f2) a lf)) (i : Int) = akeys (keepQ p (fun i => (rd_T38 l (i : Int)).f2) a (lf.eraseIdx j))) := ⟨by rw [dl_akeys, keepQ_strike HA.out HN.out.1 HJ.out hnk]⟩
        have HNK : Aside0 (∀ q ∈ akeys (lf.eraseIdx j), q.1 ≠ (i : Int)) := ⟨fun q hq he => by
          obtain ⟨m, hm⟩ := List.mem_iff_getElem?.1 hq
          obtain ⟨i', hi', rfl⟩ := akeys_get hm
          exact ((eraseIdx_mem HN.out.1 HJ.out i').1 (List.mem_of_getElem? hi')).2 (by simp only at he; omega)⟩
        clear hd hd1 hnk
        go_wp2_with (first | (go_at_call 44; refine HC.out.mono ?_; rintro e w2 ⟨rfl, n2, rfl⟩) | (at_delete; refine IM.wpl_delete_rng _ rfl _ _ 46 3 rfl 4 Try.underlying46 Try.underlying3 mb w.heap.size _ _ rfl HR1.out (i : Int) rfl HNK.out ?_; intro w3 hr3 hg3 hs3; clear hs3; rw [HD.out] at hr3; go_frame))
        go_roundw
        case rel => exact ⟨lf.eraseIdx j, ⟨hr3⟩, ⟨HN.out.1.sublist (List.eraseIdx_sublist _ _), fun x hx => HN.out.2 x ((List.eraseIdx_sublist _ _).subset hx)⟩, ⟨World.grownBy.andThen (b' := w1.drewN n2) ⟨HG1.out.os, HG1.out.tape, HG1.out.output, HG1.out.size, HG1.out.block⟩ hg3 (fun q e => by cases e; exact .inr rfl)⟩⟩
        case measure => have := HLT.out; rw [hr3.left_eq]; rw [HR1.out.left_eq] at this; exact this
      · have hd1 : decide (q < p) = false := decide_eq_false hd
        rw [hd1] at HC
        have HD : Aside0 (keepQ p (fun i => (rd_T38 l (i : Int)).f2) a lf = keepQ p (fun i => (rd_T38 l (i : Int)).f2) a (lf.eraseIdx j)) := ⟨by rw [keepQ_stay HN.out.1 HJ.out (by rw [HQ.out]; omega)]⟩
        clear hd hd1
        go_wp2_with (go_at_call 44; refine HC.out.mono ?_; rintro e w2 ⟨rfl, n2, rfl⟩)
        go_roundw
        case rel => exact ⟨lf.eraseIdx j, ⟨by rw [← HD.out]; exact HR1.out⟩, ⟨HN.out.1.sublist (List.eraseIdx_sublist _ _), fun x hx => HN.out.2 x ((List.eraseIdx_sublist _ _).subset hx)⟩, ⟨⟨HG1.out.os, HG1.out.tape, HG1.out.output, HG1.out.size, HG1.out.block⟩⟩⟩
        case measure => exact HLT.out
set_option maxHeartbeats 4000000 in
set_option maxRecDepth 100000 in
theorem expire_any (w0 : World) (s : Nat) (A : Option Addr) (c : Nat) (l : List S38) (hb hc : Nat) (H : List S40) (mb : Nat) (a : List Nat) (sl p : Int) (w : World) (h : Sc w0 w s A c l hb hc H mb a sl) (ha : a.Nodup) (hal : ∀ i ∈ a, i < l.length) :
    Calls Try.prog 26 #[.pointer (some ⟨s, 0, none⟩), .int .i64 p] w fun e w' => e = .returned (.tuple #[]) ∧ Sc w0 w' s A c l hb hc H mb (a.filter fun i => decide (p ≤ (rd_T38 l (i : Int)).f2)) sl ∧ Fr w w' [mb] := by
  have hu48 := Try.underlying48
  obtain ⟨q0, q1, q2, q3⟩ := h.cells
  have hsl : s < w.heap.size := blk_lt h.hs
  have hml : mb < w.heap.size := h.hm.lt
  have HSC := Aside0.mk h
  have HA := Aside0.mk ha
  have HAL := Aside0.mk hal
  have nsm := Aside0.mk h.ne_sm
  clear h ha hal
  go_enter Try.func26, Try.ntmps26
  obtain ⟨W, hW⟩ : ∃ W, (w.alloc (.cells #[.pointer (some ⟨s, 0, none⟩)] 45)).alloc (.cells #[.int .i64 p] 3) = W := ⟨_, rfl⟩
  have hBW : Below w.heap.size w W := by rw [← hW]; exact below_alloc (below_alloc (Below.refl _ _) _) _
  have hx : W.cell? ⟨w.heap.size, 0, none⟩ = some (.pointer (some ⟨s, 0, none⟩)) := by rw [← hW]; exact blk_cell (blk_alloc (blk_new w _) _) 0
  have hp : W.cell? ⟨w.heap.size + 1, 0, none⟩ = some (.int .i64 p) := by
    rw [← hW]
    have := blk_cell (blk_new (w.alloc (.cells #[.pointer (some ⟨s, 0, none⟩)] 45)) (.cells #[.int .i64 p] 3)) 0
    rwa [World.size_alloc] at this
  have hS := HSC.out.below hBW
  have hcall := del_any _ _ s mb A c l p a W hx hp hS.cells.1 hS.hl hS.hm HA.out HAL.out
  rw [← hW] at hcall
  have HC := Aside0.mk hcall
  have HW := Aside0.mk hW
  have HBW := Aside0.mk hBW
  have HS := Aside0.mk hS
  clear hW hBW hx hp hS hcall
  go_wp2_with (go_at_call 43; refine HC.out.mono ?_; rintro e w1 ⟨rfl, hm1, hg1⟩)
  go_end0
  rw [HW.out] at hg1
  exact ⟨rfl, HS.out.map hg1 hm1, (Fr.of_below HBW.out [mb]).trans (Fr.of_grown hg1 (by simp)) (fun i hi => .inl hi)⟩
end Go.Proofs.Ytncpgclcbdgndaa.S
