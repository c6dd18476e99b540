import Derived.Test.YtnkgbnbbmcoiiaaOregs
import Derived.Test.YtnkgbnbbmcoiiaaOflows
import Derived.Test.YtnkgbnbbmcoiiaaOmeet
namespace Go.Proofs.Ytnkgbnbbmcoiiaa.S
open Go.RowKit Go.IM Go.RelRegion Go.Proofs.YtnkgbnbbmcoiiaaW.PrintWords Go.Proofs.YtnkgbnbbmcoiiaaW.PrintLast Go.Proofs.YtnkgbnbbmcoiiaaW.PrintMore
set_option linter.unusedVariables false
set_option linter.unusedSimpArgs false
/-! ### swagelaw17.LiveBounds -/
theorem at_top {p : Int} {bs : List S43} {fn : Int} (h : RightP p bs fn) {r : Int} {i k : Nat} (ha : Lv.At (gOf bs) r i k) : r ≤ regsF p bs := by
  refine Lv.at_some (g := gOf bs) (Q := fun r => r ≤ regsF p bs) (fun i k r hr => ?_) (fun i r hr => ?_) ha
  · have hr : r ∈ useX (opOf bs (i, k)) := hr
    by_cases hq : i < bs.length ∧ k < opLen bs i
    · have hm : r ∈ (plcs bs bs.length).flatMap fun q => opR (opOf bs q) := List.mem_flatMap.2 ⟨(i, k), mem_plcs.2 hq, List.mem_cons_of_mem _ hr⟩
      exact Int.le_trans (mx_mem _ _ _ hm) (mx_ge _ _)
    · rw [opOf_far hq] at hr
      cases hr
  · have hr : r ∈ tuseT (rd_T43 bs (i : Int)).f1 := hr
    by_cases hi : i < bs.length
    · exact mx_mem _ _ _ (List.mem_flatMap.2 ⟨i, List.mem_range.2 hi, hr⟩)
    · have e : rd_T43 bs (i : Int) = z43 := by
        unfold rd_T43
        rw [List.getD_eq_getElem?_getD, Int.toNat_natCast, List.getElem?_eq_none (by omega)]
        rfl
      rw [e] at hr
      cases hr
theorem regsF_nonneg (p : Int) (bs : List S43) : 0 ≤ regsF p bs := by
  have h1 := mx_ge ((List.range bs.length).flatMap fun (i : Nat) => tuseT (rd_T43 bs (i : Int)).f1) (mx (max 0 p) ((plcs bs bs.length).flatMap fun q => opR (opOf bs q)))
  have h2 := mx_ge ((plcs bs bs.length).flatMap fun q => opR (opOf bs q)) (max 0 p)
  unfold regsF
  omega
theorem rise_len : ∀ (l : List Int) (a n : Int), Rise l → (∀ r ∈ l, a ≤ r ∧ r ≤ n) → a ≤ n + 1 → (l.length : Int) ≤ n + 1 - a
  | [], a, n, _, _, h => by simp; omega
  | x :: l, a, n, hr, hm, h => by
    have hx := hm x List.mem_cons_self
    have hp := List.pairwise_cons.1 hr
    have := rise_len l (x + 1) n hp.2 (fun r hr => ⟨by have := hp.1 r hr; omega, (hm r (List.mem_cons_of_mem _ hr)).2⟩) (by omega)
    simp only [List.length_cons]
    omega
/-- What LiveBounds asks of a row. -/
structure RowQ (n : Int) (m k : Nat) (l : List Int) : Prop where mk ::
  rise : Rise l
  regs : ∀ r ∈ l, 1 ≤ r ∧ r ≤ n
  len : l.length ≤ 4096
  most : k ≠ 1 → l.length ≤ m
theorem rowQ_live {p : Int} {bs : List S43} {fn : Int} (h : RightP p bs fn) {m : Nat} (hm : MaxOf (Sizes bs bs.length) m) {i : Nat} (hi : i < bs.length) {k : Nat} (hk : k ≤ opLen bs i) (j : Nat) : RowQ (regsF p bs) m j (liveRow bs i k) :=
  ⟨liveRow_rise bs i k, fun r hr => ⟨(h.at_reg ((mem_liveRow h).1 hr)).1, at_top h ((mem_liveRow h).1 hr)⟩, liveRow_le h i k, fun _ => hm.le _ ⟨i, k, hi, hk, rfl⟩⟩
theorem rowQ_out {p : Int} {bs : List S43} {fn : Int} (h : RightP p bs fn) (m : Nat) (i : Nat) : RowQ (regsF p bs) m 1 (outRow bs i) :=
  ⟨outRow_rise bs i, fun r hr => by
    obtain ⟨j, _, ha⟩ := (mem_outRow h).1 hr
    exact ⟨(h.at_reg ha).1, at_top h ha⟩, outRow_len h i, fun e => absurd rfl e⟩
theorem rowQ_rows {p : Int} {bs : List S43} {fn : Int} (h : RightP p bs fn) {m : Nat} (hm : MaxOf (Sizes bs bs.length) m) {i : Nat} (hi : i < bs.length) (k : Nat) (hk : k < 2 + (afterL bs i).length) :
    RowQ (regsF p bs) m k (rd_L1 (liveRow bs i 0 :: outRow bs i :: afterL bs i) (k : Int)) := by
  have hl : (afterL bs i).length = opLen bs i := by rw [afterL, List.length_map, List.length_range]
  match k, hk with
  | 0, _ => rw [rd_L1_zero]; exact rowQ_live h hm hi (Nat.zero_le _) 0
  | 1, _ => rw [show ((1 : Nat) : Int) = ((0 + 1 : Nat) : Int) from rfl, rd_L1_succ, rd_L1_zero]; exact rowQ_out h m i
  | k + 2, hk =>
    rw [rd_L1_succ, rd_L1_succ, rd_afterL (by omega)]
    exact rowQ_live h hm hi (by omega) (k + 2)
theorem most_regs {p : Int} {bs : List S43} {fn : Int} (h : RightP p bs fn) {m : Nat} (hm : MaxOf (Sizes bs bs.length) m) : (m : Int) ≤ regsF p bs := by
  have h0 := regsF_nonneg p bs
  rcases hm.is with e | ⟨i, k, hi, hk, e⟩
  · omega
  · have hq := rowQ_live h hm hi hk 0
    have := rise_len _ 1 (regsF p bs) hq.rise hq.regs (by omega)
    omega
theorem rise_at {l : List Int} (h : Rise l) {q : Nat} (hq : q + 1 < l.length) : rd l (q : Int) < rd l ((q + 1 : Nat) : Int) := by
  rw [rd_mem (by omega : q < l.length), rd_mem hq]
  exact List.pairwise_iff_getElem.1 h q (q + 1) (by omega) hq (by omega)
/-- What the loud of 'append([][]int{in[i], out[i]}, live.After(f, i)...)' tell. -/
def R14 (g0 g1 : Tri) (L : List (List Int)) (k : Nat) (vs : List Value) (w' : World) : Prop :=
  if k = 8 then ∃ g, vs = [.slice (some ⟨g, 0, none⟩) 2 2] ∧ w'.heap[g]? = some (.cells #[slv g0, slv g1] 28 (0, 0))
  else if k = 11 then ∃ A c gs, vs = [.slice A L.length c] ∧ (A = none → c = 0) ∧ ReadsOf slv zt w' A L.length gs ∧ Tells .i64 w' gs L else True
theorem R14.below {g0 g1 : Tri} {L : List (List Int)} {k : Nat} {vs : List Value} {w' w2 : World} (h : R14 g0 g1 L k vs w') (hb : Below w'.heap.size w' w2) : R14 g0 g1 L k vs w2 := by
  unfold R14 at h ⊢
  split at h
  · rename_i h1
    rw [if_pos h1]
    obtain ⟨g, e, h⟩ := h
    exact ⟨g, e, blk_below h hb⟩
  · rename_i h1
    rw [if_neg h1]
    split at h
    · rename_i h2
      rw [if_pos h2]
      obtain ⟨A, c, gs, e, h0, h1, h2⟩ := h
      exact ⟨A, c, gs, e, h0, h1.below hb, h2.below hb⟩
    · rename_i h2
      rw [if_neg h2]
      trivial
set_option maxHeartbeats 16000000 in
set_option maxRecDepth 100000 in
theorem bounds_few (p : Int) (A : Option Addr) (c : Nat) (bs : List S43) (w : World) (k : Nat) (hC : Kd.C k43 w A bs.length bs) (hc : bs.length ≤ c) (hf : swagelaw17_few.f k p bs = some false) :
    Calls Try.prog 7 #[.agg #[.int .i64 p, .slice A bs.length c]] w fun e w' => e = .returned (.bool true) ∧ Below w.heap.size w w' := by
  have hu34 := Try.underlying34
  have HF := Aside0.mk hf
  have HC := Aside0.mk hC
  have HCc := Aside0.mk hc
  have HB0 := Aside0.mk (below_alloc (Below.refl w.heap.size w) (.cells #[.int .i64 p, .slice A bs.length c] 34))
  have HF0 := Aside0.mk (blk_new w (.cells #[.int .i64 p, .slice A bs.length c] 34))
  clear hC hf hc
  go_enter Try.func7, Try.ntmps7
  go_wp2_with (first
    | (go_at_call 25; refine (small17_walk _).mono ?_; rintro e w1 ⟨rfl, hb⟩; have HB1 := Aside0.mk (below_then HB0.out HB0.out.size hb); have HF1 := Aside0.mk (blk_below HF0.out hb); have c0 := blk_cell HF1.out 0; have c1 := blk_cell HF1.out 1; simp only [List.getElem?_toArray, List.getElem?_cons_zero, List.getElem?_cons_succ] at c0 c1; clear hb)
    | (go_at_call 26; refine (swagelaw17_few.calls k p A c bs false _ (Kd.C_below HC.out HB1.out) HCc.out HF.out).mono ?_; rintro e w2 ⟨rfl, hb⟩; have HB2 := Aside0.mk (below_then HB1.out HB1.out.size hb); have HF2 := Aside0.mk (blk_below HF1.out hb); clear c0 c1; have c0 := blk_cell HF2.out 0; have c1 := blk_cell HF2.out 1; simp only [List.getElem?_toArray, List.getElem?_cons_zero, List.getElem?_cons_succ] at c0 c1; clear hb))
  go_ret
  exact ⟨rfl, HB2.out⟩
set_option maxHeartbeats 16000000 in
set_option maxRecDepth 100000 in
theorem bounds_bad (p : Int) (A : Option Addr) (c : Nat) (bs : List S43) (w : World) (k : Nat) (hC : Kd.C k43 w A bs.length bs) (hc : bs.length ≤ c) (hf : swagelaw17_few.f k p bs = some true) (hR : rightF p bs 256 = false) :
    Calls Try.prog 7 #[.agg #[.int .i64 p, .slice A bs.length c]] w fun e w' => e = .returned (.bool true) ∧ Below w.heap.size w w' := by
  have HR := Aside0.mk hR
  have hu34 := Try.underlying34
  have HF := Aside0.mk hf
  have HC := Aside0.mk hC
  have HCc := Aside0.mk hc
  have HB0 := Aside0.mk (below_alloc (Below.refl w.heap.size w) (.cells #[.int .i64 p, .slice A bs.length c] 34))
  have HF0 := Aside0.mk (blk_new w (.cells #[.int .i64 p, .slice A bs.length c] 34))
  clear hC hf hc hR
  go_enter Try.func7, Try.ntmps7
  go_wp2_with (first
    | (go_at_call 25; refine (small17_walk _).mono ?_; rintro e w1 ⟨rfl, hb⟩; have HB1 := Aside0.mk (below_then HB0.out HB0.out.size hb); have HF1 := Aside0.mk (blk_below HF0.out hb); have c0 := blk_cell HF1.out 0; have c1 := blk_cell HF1.out 1; simp only [List.getElem?_toArray, List.getElem?_cons_zero, List.getElem?_cons_succ] at c0 c1; clear hb)
    | (go_at_call 26; refine (swagelaw17_few.calls k p A c bs true _ (Kd.C_below HC.out HB1.out) HCc.out HF.out).mono ?_; rintro e w2 ⟨rfl, hb⟩; have HB2 := Aside0.mk (below_then HB1.out HB1.out.size hb); have HF2 := Aside0.mk (blk_below HF1.out hb); clear c0 c1; have c0 := blk_cell HF2.out 0; have c1 := blk_cell HF2.out 1; simp only [List.getElem?_toArray, List.getElem?_cons_zero, List.getElem?_cons_succ] at c0 c1; clear hb)
    | (go_at_call 18; refine (right_any p A c bs 256 _ (Kd.C_below HC.out HB2.out)).mono ?_; rintro e w3 ⟨rfl, hb⟩; rw [HR.out]; have HB3 := Aside0.mk (below_then HB2.out HB2.out.size hb); have HF3 := Aside0.mk (blk_below HF2.out hb); clear c0 c1; have c0 := blk_cell HF3.out 0; have c1 := blk_cell HF3.out 1; simp only [List.getElem?_toArray, List.getElem?_cons_zero, List.getElem?_cons_succ] at c0 c1; clear hb))
  go_ret
  exact ⟨rfl, HB3.out⟩
set_option maxHeartbeats 16000000 in
set_option maxRecDepth 100000 in
theorem bounds_ok (p : Int) (A : Option Addr) (c : Nat) (bs : List S43) (w : World) (k : Nat) (hC : Kd.C k43 w A bs.length bs) (hc : bs.length ≤ c) (hf : swagelaw17_few.f k p bs = some true) (hR : rightF p bs 256 = true) :
    Calls Try.prog 7 #[.agg #[.int .i64 p, .slice A bs.length c]] w fun e w' => e = .returned (.bool true) ∧ Below w.heap.size w w' := by
  have RP := Aside0.mk (rightF_iff hR)
  have HR := Aside0.mk hR
  have HLI : Aside0 ((inL bs).length = bs.length) := ⟨inL_length bs⟩
  have HLO : Aside0 ((outL bs).length = bs.length) := ⟨outL_length bs⟩
  have hlen4 := RP.out.len.2
  have HLN : Aside0 (bs.length ≤ 1000000000000) := ⟨Nat.le_trans hlen4 (by decide)⟩
  have HA5 : Aside0 (∀ q, (opOf bs q).f5.length ≤ 1000000000000) := ⟨fun q => Nat.le_trans (RP.out.opA q).2 (by decide)⟩
  obtain ⟨m, hm⟩ := most_fix RP.out
  have HM := Aside0.mk hm
  have HRQ := Aside0.mk (fun i (hi : i < bs.length) k hk => rowQ_rows RP.out hm (i := i) hi k hk)
  have HMR := Aside0.mk (most_regs RP.out hm)
  obtain ⟨rg, hrg⟩ : ∃ rg, regsF p bs = rg := ⟨_, rfl⟩
  rw [hrg] at HRQ HMR
  have HRG := Aside0.mk hrg
  clear hm hrg
  have hu34 := Try.underlying34
  have HF := Aside0.mk hf
  have HC := Aside0.mk hC
  have HCc := Aside0.mk hc
  have HB0 := Aside0.mk (below_alloc (Below.refl w.heap.size w) (.cells #[.int .i64 p, .slice A bs.length c] 34))
  have HF0 := Aside0.mk (blk_new w (.cells #[.int .i64 p, .slice A bs.length c] 34))
  clear hC hf hc hR
  go_enter Try.func7, Try.ntmps7
  go_wp2_with (first
    | (go_at_call 25; refine (small17_walk _).mono ?_; rintro e w1 ⟨rfl, hb⟩; have HB1 := Aside0.mk (below_then HB0.out HB0.out.size hb); have HF1 := Aside0.mk (blk_below HF0.out hb); have c0 := blk_cell HF1.out 0; have c1 := blk_cell HF1.out 1; simp only [List.getElem?_toArray, List.getElem?_cons_zero, List.getElem?_cons_succ] at c0 c1; clear hb)
    | (go_at_call 26; refine (swagelaw17_few.calls k p A c bs true _ (Kd.C_below HC.out HB1.out) HCc.out HF.out).mono ?_; rintro e w2 ⟨rfl, hb⟩; have HB2 := Aside0.mk (below_then HB1.out HB1.out.size hb); have HF2 := Aside0.mk (blk_below HF1.out hb); clear c0 c1; have c0 := blk_cell HF2.out 0; have c1 := blk_cell HF2.out 1; simp only [List.getElem?_toArray, List.getElem?_cons_zero, List.getElem?_cons_succ] at c0 c1; clear hb)
    | (go_at_call 18; refine (right_any p A c bs 256 _ (Kd.C_below HC.out HB2.out)).mono ?_; rintro e w3 ⟨rfl, hb⟩; rw [HR.out]; have HB3 := Aside0.mk (below_then HB2.out HB2.out.size hb); have HF3 := Aside0.mk (blk_below HF2.out hb); clear c0 c1; have c0 := blk_cell HF3.out 0; have c1 := blk_cell HF3.out 1; simp only [List.getElem?_toArray, List.getElem?_cons_zero, List.getElem?_cons_succ] at c0 c1; clear hb)
    | (go_at_call 34; refine (regs_any p A c bs _ (Kd.C_below HC.out HB3.out) HLN.out HA5.out).mono ?_; rintro e w4 ⟨rfl, hb⟩; rw [HRG.out]; have HB4 := Aside0.mk (below_then HB3.out HB3.out.size hb); have HF4 := Aside0.mk (blk_below HF3.out hb); clear c0 c1; have c0 := blk_cell HF4.out 0; have c1 := blk_cell HF4.out 1; simp only [List.getElem?_toArray, List.getElem?_cons_zero, List.getElem?_cons_succ] at c0 c1; clear hb)
    | (go_at_call 33; refine (most_at p A c bs _ (Kd.C_below HC.out HB4.out) HR.out HM.out).mono ?_; rintro e w5 ⟨rfl, hb⟩; have HB5 := Aside0.mk (below_then HB4.out HB4.out.size hb); have HF5 := Aside0.mk (blk_below HF4.out hb); clear c0 c1; have c0 := blk_cell HF5.out 0; have c1 := blk_cell HF5.out 1; simp only [List.getElem?_toArray, List.getElem?_cons_zero, List.getElem?_cons_succ] at c0 c1; clear hb)
    | (go_at_call 27; refine (in_ok p A c bs _ (Kd.C_below HC.out HB5.out) HR.out).mono ?_; rintro e w6 ⟨vi, rfl, hr, hb⟩; obtain ⟨Ai, ci, rfl, ki, hCi⟩ := Kd.R_reads hr; rw [HLI.out]; rw [HLI.out] at hCi; have HI6 := Aside0.mk hCi; clear hr hCi ki; have HB6 := Aside0.mk (below_then HB5.out HB5.out.size hb); have HF6 := Aside0.mk (blk_below HF5.out hb); clear c0 c1; have c0 := blk_cell HF6.out 0; have c1 := blk_cell HF6.out 1; simp only [List.getElem?_toArray, List.getElem?_cons_zero, List.getElem?_cons_succ] at c0 c1; clear hb)
    | (go_at_call 28; refine (out_ok p A c bs _ (Kd.C_below HC.out HB6.out) HR.out).mono ?_; rintro e w7 ⟨vo, rfl, hr, hb⟩; obtain ⟨Ao, co, rfl, ko, hCo⟩ := Kd.R_reads hr; rw [HLO.out]; rw [HLO.out] at hCo; have HO7 := Aside0.mk hCo; have HI7 := Aside0.mk (Kd.C_below HI6.out hb); clear hr hCo ko; have HB7 := Aside0.mk (below_then HB6.out HB6.out.size hb); have HF7 := Aside0.mk (blk_below HF6.out hb); clear c0 c1; have c0 := blk_cell HF7.out 0; have c1 := blk_cell HF7.out 1; simp only [List.getElem?_toArray, List.getElem?_cons_zero, List.getElem?_cons_succ] at c0 c1; clear hb))
  clear c0 c1
  go_loopw [9] (fun i wr => ∃ j : Nat, j ≤ bs.length ∧ i = .int .i64 (j : Int) ∧ Aside0 (Below w7.heap.size w7 wr)) (fun i _ => bs.length - (intOf i).toNat)
  case atStart => exact ⟨0, Nat.zero_le _, rfl, ⟨Below.refl _ _⟩⟩
  case round =>
    obtain ⟨j, hj, rfl, HB⟩ := hrel
    have c0 := blk_cell (blk_below HF7.out HB.out) 0
    have c1 := blk_cell (blk_below HF7.out HB.out) 1
    simp only [List.getElem?_toArray, List.getElem?_cons_zero, List.getElem?_cons_succ] at c0 c1
    by_cases hlt : j < bs.length
    · have b1 : decide ((j : Int) < (bs.length : Int)) = true := decide_eq_true (Int.ofNat_lt.2 hlt)
      have hw1 : wrap64 ((j : Int) + 1) = (j : Int) + 1 := (wr3 (z := 0) (by decide) (by omega)).2.2
      obtain ⟨adi, Ai0, ki0, eI, hi0, hi1, hi2⟩ := row_cell (Kd.C_below HI7.out HB.out) hlt (rd_inL hlt)
      obtain ⟨ado, Ao0, ko0, eO, ho0, ho1, ho2⟩ := row_cell (Kd.C_below HO7.out HB.out) hlt (rd_outL hlt)
      subst eI eO
      have HI1 := Aside0.mk hi1
      have HI2 := Aside0.mk hi2
      have HO1 := Aside0.mk ho1
      have HO2 := Aside0.mk ho2
      have HRW := Aside0.mk (HRQ.out j hlt)
      have HAT := Aside0.mk (fun w' (hb : Below w.heap.size w w') => after_tri p A c bs j w' (Kd.C_below HC.out hb) HR.out hlt)
      have HAL : Aside0 ((afterL bs j).length ≤ 16384) := ⟨by rw [afterL, List.length_map, List.length_range]; exact RP.out.opLen_le j⟩
      generalize afterL bs j = L at HRW HAL HAT
      generalize liveRow bs j 0 = l0 at hi0 HI1 HI2 HRW
      generalize outRow bs j = lo at ho0 HO1 HO2 HRW
      clear hi1 hi2 ho1 ho2
      have hL12 : 2 + L.length ≤ 1000000000000 := by have := HAL.out; omega
      go_wp2_with fail
      refine wp_region_rel 12 (fun k => if k = 8 then some [] else if k = 11 then some [] else none) (fun k => [k]) (R14 (Ai0, l0.length, ki0) (Ao0, lo.length, ko0) L) (fun w' => Below wr.heap.size wr w') (fun a b => Below a.heap.size a b) (by kernel_rfl) (by kernel_rfl) (below_drew (Below.refl _ _)) (fun a b h k => below_then h h.size k) (fun _ _ _ _ h hb => h.below hb) ?_
      simp only [List.take_succ_cons, List.take_zero, List.drop_succ_cons, List.drop_zero]
      iterate 12 (first | (refine relQ_loud rfl ?_) | (apply relQ_step rfl; apply Exists.intro; constructor; (focus (intro w' hw'; have c0 := pw_cell_below hw' c0; have c1 := pw_cell_below hw' c1; have hi0 := pw_cell_below hw' hi0; have ho0 := pw_cell_below hw' ho0; unfold Yl; go_wp2_with fail; exact ⟨rfl, _, rfl, rfl, Below.refl _ _⟩)); (try simp only [Act.put, List.setIfInBounds_toArray, List.set_cons_zero, List.set_cons_succ])))
      refine relQ_nil (fun xx => ?_)
      repeat (refine relL_quiet rfl ?_)
      refine relL_loud rfl (fun w' hw' _ => ?_) ?_
      · unfold Yl
        go_wp2_with fail
        refine ⟨rfl, _, rfl, below_alloc (Below.refl _ _) _, ?_⟩
        unfold R14
        rw [if_pos rfl]
        exact ⟨w'.heap.size, by simp, blk_new w' _⟩
      (try simp only [Act.put, List.setIfInBounds_toArray, List.set_cons_zero, List.set_cons_succ])
      repeat (refine relL_quiet rfl ?_)
      refine relL_loud rfl (fun w' hw' _ => ?_) ?_
      · unfold Yl
        go_wp2_with (go_at_call 32; refine (HAT.out _ (below_then HB7.out HB7.out.size (below_then HB.out HB.out.size hw'))).mono ?_; rintro e w8 ⟨A7, c7, gs, rfl, hn7, hr7, ht7, hb⟩)
        refine ⟨rfl, _, rfl, hb, ?_⟩
        unfold R14
        rw [if_neg (by decide), if_pos rfl]
        exact ⟨A7, c7, gs, by simp, hn7, hr7, ht7⟩
      (try simp only [Act.put, List.setIfInBounds_toArray, List.set_cons_zero, List.set_cons_succ])
      refine relL_nil (fun w2 hw2 hRR => ?_)
      have r4 := hRR 8 (by decide) rfl
      have r7 := hRR 11 (by decide) rfl
      unfold R14 at r4 r7
      rw [if_pos rfl] at r4
      rw [if_neg (by decide), if_pos rfl] at r7
      obtain ⟨g, e4, hg4⟩ := r4
      obtain ⟨A7, c7, gs, e7, hn7, hr7, ht7⟩ := r7
      have e4 : xx 8 = .slice (some ⟨g, 0, none⟩) 2 2 := by simpa using e4
      have e7 : xx 11 = .slice A7 L.length c7 := by simpa using e7
      rw [e4, e7]
      have HB2 := Aside0.mk (below_then HB.out HB.out.size hw2)
      have HI2b := Aside0.mk (Kd.C_below HI2.out hw2)
      have HO2b := Aside0.mk (Kd.C_below HO2.out hw2)
      clear hRR e4 e7 hw2 c0 c1 hi0 ho0
      go_wp2_with (at_builtin; refine append_slices _ rfl _ _ 50 28 rfl Try.underlying50 info28 g 2 [(Ai0, l0.length, ki0), (Ao0, lo.length, ko0)] gs rfl hg4 rfl A7 L.length c7 rfl hn7 hr7 hL12 ?_; intro A8 c8 w8 hle8 hr8 hb8; have HC8 := Aside0.mk (tells_C (e := 3) hr8 (((((Tells.one HI2b.out HI1.out).append (Tells.one HO2b.out HO1.out))).append ht7).below hb8)); have HB8 := Aside0.mk (below_then HB2.out HB2.out.size hb8); clear hle8 hr8 hb8)
      clear hg4 hn7 hr7 ht7 hL12 b1
      obtain ⟨N, hN⟩ : ∃ N, 2 + L.length = N := ⟨_, rfl⟩
      rw [hN] at HC8 HRW ⊢
      have HNL : Aside0 (N ≤ 16386) := ⟨by have := HAL.out; omega⟩
      clear hN
      go_loopw [11] (fun i wr => ∃ k : Nat, k ≤ N ∧ i = .int .i64 (k : Int) ∧ Aside0 (Below w8.heap.size w8 wr)) (fun i _ => N - (intOf i).toNat)
      case atStart => exact ⟨0, Nat.zero_le _, rfl, ⟨Below.refl _ _⟩⟩
      case round =>
        clear HB
        obtain ⟨k, hk, rfl, HB⟩ := hrel
        by_cases hlk : k < N
        · have b2 : decide ((k : Int) < (N : Int)) = true := decide_eq_true (Int.ofNat_lt.2 hlk)
          have hw2 : wrap64 ((k : Int) + 1) = (k : Int) + 1 := inc63 hlk (Nat.le_trans HNL.out (by decide))
          obtain ⟨adr, Ak, ck, eR, hk0, hk1, hk2⟩ := row_cell HC8.out hlk rfl
          subst eR
          have hrq := HRW.out k hlk
          have HK0 := Aside0.mk hk0
          have HK2 := Aside0.mk hk2
          have HRL : Aside0 (rd_L1 ([(l0), (lo)] ++ L) (k : Int) = rd_L1 (l0 :: lo :: L) (k : Int)) := ⟨rfl⟩
          have HK0 : Aside0 (w8.cell? (adr.add k) = some (.slice Ak (rd_L1 (l0 :: lo :: L) (k : Int)).length ck)) := HK0
          have HK2 : Aside0 (Kd.C (Kd.int .i64) w8 Ak (rd_L1 (l0 :: lo :: L) (k : Int)).length (rd_L1 (l0 :: lo :: L) (k : Int))) := HK2
          have HRK := Aside0.mk hrq
          clear hk0 hk1 hk2 hrq HRL
          generalize rd_L1 (l0 :: lo :: L) (k : Int) = l at HK0 HK2 HRK
          have hkN : k < N := hlk
          go_wp2_with fail
          clear b2
          have HBk := HB
          clear HB
          go_loopw [12] (fun i wr => ∃ q : Nat, q ≤ l.length ∧ i = .int .i64 (q : Int) ∧ Aside0 (Below w8.heap.size w8 wr)) (fun i _ => l.length - (intOf i).toNat)
          case atStart => exact ⟨0, Nat.zero_le _, rfl, HBk⟩
          case round =>
            clear HBk
            obtain ⟨q, hq, rfl, HB⟩ := hrel
            have k0 := pw_cell_below HB.out HK0.out
            by_cases hlq : q < l.length
            · have b3 : decide ((q : Int) < (l.length : Int)) = true := decide_eq_true (Int.ofNat_lt.2 hlq)
              have hw6 : wrap64 ((q : Int) + 1) = (q : Int) + 1 := inc63 hlq HK2.out.2.1
              obtain ⟨adq, eQ, hcq⟩ := Kd.at_int (Kd.C_below HK2.out HB.out) (q : Int) (Int.natCast_nonneg q) (Int.ofNat_lt.2 hlq)
              rw [Int.toNat_natCast] at hcq
              have hrr := HRK.out.regs (rd l (q : Int)) (by rw [rd_mem hlq]; exact List.getElem_mem _)
              have b4 : decide (rd l (q : Int) < 1) = false := decide_eq_false (by omega)
              have b5 : decide (rg < rd l (q : Int)) = false := decide_eq_false (by omega)
              clear hrr
              by_cases hq0 : q = 0
              · have b7 : decide ((0 : Int) < (q : Int)) = false := decide_eq_false (by omega)
                have b7n : decide (0 < q) = false := decide_eq_false (by omega)
                generalize rd l (q : Int) = r at hcq b4 b5
                subst eQ
                clear hq0
                go_wp2_with fail
                refine wp_region_rel 41 (fun _ => none) (fun _ => []) (fun _ _ _ => True) (fun wq => Below wr.heap.size wr wq) (fun a b => Below a.heap.size a b) (by kernel_rfl) (by kernel_rfl) (below_drew (Below.refl _ _)) (fun a b h k => below_then h h.size k) (fun _ _ _ _ h _ => h) ?_
                simp only [List.take_succ_cons, List.take_zero, List.drop_succ_cons, List.drop_zero]
                iterate 41 (apply relQ_step rfl; apply Exists.intro; constructor; (focus (intro wq hwq; have k0 := pw_cell_below hwq k0; have hcq := pw_cell_below hwq hcq; unfold Yl; go_wp2_with fail; exact ⟨rfl, _, rfl, rfl, Below.refl _ _⟩)); (try simp only [Act.put, List.setIfInBounds_toArray, List.set_cons_zero, List.set_cons_succ]))
                refine relQ_nil (fun xx => ?_)
                repeat (refine relL_quiet rfl ?_)
                refine relL_nil (fun w13 hw13 _ => ?_)
                have HB13 := Aside0.mk (below_then HB.out HB.out.size hw13)
                clear k0 hcq hw13
                go_wp2_with fail
                go_roundw
                case rel => exact ⟨q + 1, hlq, by first | (rw [hw6]; exact num_cast q) | (with_reducible exact num_cast q), HB13⟩
                case measure => first | (rw [hw6]; exact num_meas hlq) | (with_reducible exact num_meas hlq)
              · obtain ⟨q1, hq1⟩ : ∃ q1 : Nat, q = q1 + 1 := ⟨q - 1, by omega⟩
                have hw7 : wrap64 ((q : Int) - 1) = (q1 : Int) := by
                  have := HRK.out.len
                  unfold wrap64
                  omega
                have b7 : decide ((0 : Int) < (q : Int)) = true := decide_eq_true (by omega)
                have b7n : decide (0 < q) = true := decide_eq_true (by omega)
                have hq1l : q1 < l.length := by omega
                have b9 : decide ((q1 : Int) < (l.length : Int)) = true := decide_eq_true (Int.ofNat_lt.2 hq1l)
                obtain ⟨adq', eQ', hcp⟩ := Kd.at_int (Kd.C_below HK2.out HB.out) (q1 : Int) (Int.natCast_nonneg q1) (Int.ofNat_lt.2 hq1l)
                rw [Int.toNat_natCast] at hcp
                have hrs : rd l (q1 : Int) < rd l (q : Int) := by
                  have := rise_at HRK.out.rise (q := q1) (by omega)
                  rw [← hq1] at this
                  exact this
                rw [eQ] at eQ'
                obtain rfl := Option.some.inj eQ'
                generalize rd l (q : Int) = r at hcq b4 b5 hrs
                generalize rd l (q1 : Int) = r1 at hcp hrs
                have b8 : decide (r ≤ r1) = false := decide_eq_false (by omega)
                subst eQ
                clear hq0 hq1 hrs
                go_wp2_with fail
                refine wp_region_rel 41 (fun _ => none) (fun _ => []) (fun _ _ _ => True) (fun wq => Below wr.heap.size wr wq) (fun a b => Below a.heap.size a b) (by kernel_rfl) (by kernel_rfl) (below_drew (Below.refl _ _)) (fun a b h k => below_then h h.size k) (fun _ _ _ _ h _ => h) ?_
                simp only [List.take_succ_cons, List.take_zero, List.drop_succ_cons, List.drop_zero]
                iterate 41 (apply relQ_step rfl; apply Exists.intro; constructor; (focus (intro wq hwq; have k0 := pw_cell_below hwq k0; have hcq := pw_cell_below hwq hcq; have hcp := pw_cell_below hwq hcp; unfold Yl; go_wp2_with fail; exact ⟨rfl, _, rfl, rfl, Below.refl _ _⟩)); (try simp only [Act.put, List.setIfInBounds_toArray, List.set_cons_zero, List.set_cons_succ]))
                refine relQ_nil (fun xx => ?_)
                repeat (refine relL_quiet rfl ?_)
                refine relL_nil (fun w13 hw13 _ => ?_)
                have HB13 := Aside0.mk (below_then HB.out HB.out.size hw13)
                clear k0 hcq hcp hw13
                go_wp2_with fail
                go_roundw
                case rel => exact ⟨q + 1, hlq, by first | (rw [hw6]; exact num_cast q) | (with_reducible exact num_cast q), HB13⟩
                case measure => first | (rw [hw6]; exact num_meas hlq) | (with_reducible exact num_meas hlq)
            · have b3 : decide ((q : Int) < (l.length : Int)) = false := decide_eq_false (fun h => hlq (Int.ofNat_lt.1 h))
              by_cases hk1 : k = 1
              · have b4 : decide ((k : Int) = 1) = true := decide_eq_true (by omega)
                have b4b : ((k : Int) == 1) = true := by rw [show ((k : Int) == 1) = decide ((k : Int) = 1) from rfl]; exact b4
                have b4c : ((k : Int) != 1) = false := by rw [bne, b4b]; rfl
                clear hk1
                go_wp2_with fail
                go_roundw
                case rel => exact ⟨k + 1, hlk, by first | (rw [hw2]; exact num_cast k) | (with_reducible exact num_cast k), HB⟩
                case measure => first | (rw [hw2]; exact num_meas hlk) | (with_reducible exact num_meas hlk)
              · have b4 : decide ((k : Int) = 1) = false := decide_eq_false (by omega)
                have b4b : ((k : Int) == 1) = false := by rw [show ((k : Int) == 1) = decide ((k : Int) = 1) from rfl]; exact b4
                have b4c : ((k : Int) != 1) = true := by rw [bne, b4b]; rfl
                have hml := HRK.out.most hk1
                have b5 : decide ((m : Int) < (l.length : Int)) = false := decide_eq_false (by omega)
                have b5n : decide (m < l.length) = false := decide_eq_false (by omega)
                clear hml
                go_wp2_with fail
                go_roundw
                case rel => exact ⟨k + 1, hlk, by first | (rw [hw2]; exact num_cast k) | (with_reducible exact num_cast k), HB⟩
                case measure => first | (rw [hw2]; exact num_meas hlk) | (with_reducible exact num_meas hlk)
        · have b2 : decide ((k : Int) < (N : Int)) = false := decide_eq_false (fun h => hlk (Int.ofNat_lt.1 h))
          go_wp2_with fail
          go_roundw
          case rel => exact ⟨j + 1, hlt, by first | (rw [hw1]; exact num_cast j) | (with_reducible exact num_cast j), ⟨below_then HB8.out HB8.out.size HB.out⟩⟩
          case measure => first | (rw [hw1]; exact num_meas hlt) | (with_reducible exact num_meas hlt)
    · have b1 : decide ((j : Int) < (bs.length : Int)) = false := decide_eq_false (fun h => hlt (Int.ofNat_lt.1 h))
      have b6 : decide ((m : Int) ≤ rg) = true := decide_eq_true HMR.out
      have hmr : (m : Int) ≤ rg := HMR.out
      go_wp2_with fail
      go_ret
      exact ⟨rfl, below_then HB7.out HB7.out.size HB.out⟩
theorem liveBounds_true (p : Int) (A : Option Addr) (c : Nat) (bs : List S43) (w : World) (hC : Kd.C k43 w A bs.length bs) (hc : bs.length ≤ c) (hr : Room bs) :
    Calls Try.prog 7 #[.agg #[.int .i64 p, .slice A bs.length c]] w fun e w' => e = .returned (.bool true) ∧ Below w.heap.size w w' := by
  obtain ⟨k, b, hf⟩ := few17_total p bs hr
  have hf := hf k (Nat.le_refl _)
  cases b with
  | false => exact bounds_few p A c bs w k hC hc hf
  | true =>
    cases hR : rightF p bs 256 with
    | false => exact bounds_bad p A c bs w k hC hc hf hR
    | true => exact bounds_ok p A c bs w k hC hc hf hR
end Go.Proofs.Ytnkgbnbbmcoiiaa.S
