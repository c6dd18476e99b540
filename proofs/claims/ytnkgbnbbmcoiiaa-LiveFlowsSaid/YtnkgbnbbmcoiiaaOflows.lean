import Derived.Test.YtnkgbnbbmcoiiaaOsmall17
import Derived.Test.YtnkgbnbbmcoiiaaRf
import Derived.Test.YtnkgbnbbmcoiiaaOmeet
import Derived.Test.YtnkgbnbbmcoiiaaS6
import Derived.Test.YtnkgbnbbmcoiiaaS7
namespace Go.Proofs.Ytnkgbnbbmcoiiaa.S
open Go.RowKit Go.IM Go.Proofs.YtnkgbnbbmcoiiaaW.PrintWords Go.Proofs.YtnkgbnbbmcoiiaaW.PrintLast Go.Proofs.YtnkgbnbbmcoiiaaW.PrintMore
set_option linter.unusedVariables false
set_option linter.unusedSimpArgs false
/-! ### swagelaw17.LiveFlows -/
theorem has_l0 (l : List Int) (x : Int) (hl : l.length ≤ 4096) : ∀ m j k, j + m = l.length → m < k → swagelaw17_has.l0 k l x (j : Int) = some (decide (x ∈ l.drop j))
  | m, j, 0, hm, hk => absurd hk (Nat.not_lt_zero _)
  | 0, j, k + 1, hm, hk => by
    rw [swagelaw17_has.l0, if_neg (by omega), List.drop_eq_nil_of_le (by omega)]
    simp
  | m + 1, j, k + 1, hm, hk => by
    have hj : j < l.length := by omega
    rw [swagelaw17_has.l0, if_pos (by omega), if_pos (Int.natCast_nonneg j), rd_mem hj, List.drop_eq_getElem_cons hj]
    by_cases e : l[j] = x
    · rw [if_pos e]
      simp [e]
    · rw [if_neg e, num_inc hj hl, has_l0 l x hl m (j + 1) k (by omega) (by omega)]
      have e2 : ¬ x = l[j] := fun h => e h.symm
      congr 1
      exact decide_eq_decide.2 ⟨fun h => List.mem_cons_of_mem _ h, fun h => (List.mem_cons.1 h).resolve_left e2⟩
theorem has_any (A : Option Addr) (c : Nat) (l : List Int) (x : Int) (w : World) (hC : Kd.C (Kd.int .i64) w A l.length l) (hc : l.length ≤ c) (hl : l.length ≤ 4096) :
    Calls Try.prog 30 #[.slice A l.length c, .int .i64 x] w fun e w' => e = .returned (.bool (decide (x ∈ l))) ∧ Below w.heap.size w w' := by
  have h := has_l0 l x hl l.length 0 (l.length + 1) (Nat.zero_add _) (Nat.lt_succ_self _)
  rw [List.drop_zero] at h
  refine (swagelaw17_has.calls (l.length + 1) A c l x _ w hC hc h).mono ?_
  rintro e w' ⟨rfl, hd⟩
  exact ⟨rfl, hd.below⟩
theorem uses_le (x : S45) (A : Option Addr) (c : Nat) (w : World) (hx : x.f5.length ≤ 1000000000000) (hC : Kd.C (Kd.int .i64) w A x.f5.length x.f5) (hc : x.f5.length ≤ c) :
    Calls Try.prog 21 #[.agg #[.int .i64 x.f0, .int .i64 x.f1, .int .i64 x.f2, .int .i64 x.f3, .int .i64 x.f4, .slice A x.f5.length c]] w fun e w' => ∃ A' c', e = .returned (.slice A' (useX x).length c') ∧ (useX x).length ≤ c' ∧ Kd.C (Kd.int .i64) w' A' (useX x).length (useX x) ∧ Below w.heap.size w w' := by
  refine (code_Uses.calls 10 x.f0 x.f1 x.f2 x.f3 x.f4 A c x.f5 (useX x) w hC hc (uses_eq x hx)).mono ?_
  rintro e w' ⟨v, rfl, hr, hb⟩
  obtain ⟨A, c, rfl, k, hc⟩ := Kd.R_reads hr
  exact ⟨A, c, rfl, k, hc, hb⟩
theorem termUses_le (t : S41) (w : World) :
    Calls Try.prog 31 #[.agg #[.int .i64 t.f0, .int .i64 t.f1, .int .i64 t.f2, .int .i64 t.f3]] w fun e w' => ∃ A c, e = .returned (.slice A (tuseT t).length c) ∧ (tuseT t).length ≤ c ∧ Kd.C (Kd.int .i64) w' A (tuseT t).length (tuseT t) ∧ Below w.heap.size w w' := by
  refine (code_TermUses.calls t.f0 t.f1 t.f2 t.f3 (tuseT t) w (by
    unfold code_TermUses.f tuseT
    by_cases h2 : t.f0 = 2
    · simp [h2]
    · by_cases h3 : t.f0 = 3 <;> simp [h2, h3])).mono ?_
  rintro e w' ⟨v, rfl, hr, hb⟩
  obtain ⟨A, c, rfl, k, hc⟩ := Kd.R_reads hr
  exact ⟨A, c, rfl, k, hc, hb⟩
theorem useX_len (x : S45) (h : x.f5.length ≤ 1000) : (useX x).length ≤ 4096 := by
  unfold useX
  simp only [List.length_append]
  repeat' split
  all_goals (simp only [List.length_cons, List.length_nil]; omega)
theorem sub1 {n : Nat} (h : n ≤ 16384) : wrap64 ((n : Int) - 1) = (n : Int) - 1 := by
  unfold wrap64
  omega
theorem dn_meas (k : Nat) : (intOf (.int .i64 ((k : Int) - 1)) + 1).toNat < (intOf (.int .i64 (k : Int)) + 1).toNat := by
  show ((k : Int) - 1 + 1).toNat < ((k : Int) + 1).toNat
  omega
/-- What is live ahead, of some blocks. -/
noncomputable def fromB (bs : List S43) (r : Int) (l : List Int) : Bool := l.any fun t => decide (r ∈ liveRow bs t.toNat 0)
theorem fromB_snoc (bs : List S43) (r : Int) (l : List Int) (t : Int) : fromB bs r (l ++ [t]) = (fromB bs r l || decide (r ∈ liveRow bs t.toNat 0)) := by simp [fromB]
theorem fromB_out {p : Int} {bs : List S43} {fn : Int} (h : RightP p bs fn) {i : Nat} (hi : i < bs.length) (r : Int) : fromB bs r (succT (rd_T43 bs (i : Int)).f1) = decide (r ∈ outRow bs i) := by
  rw [Bool.eq_iff_iff, decide_eq_true_eq, mem_outRow h]
  unfold fromB
  rw [List.any_eq_true]
  constructor
  · rintro ⟨t, ht, hd⟩
    have h0 := h.succ hi t ht
    refine ⟨t.toNat, ?_, (mem_liveRow h).1 (of_decide_eq_true hd)⟩
    rw [Int.toNat_of_nonneg h0.1]
    exact ht
  · rintro ⟨j, hj, ha⟩
    exact ⟨(j : Int), hj, decide_eq_true (by rw [Int.toNat_natCast]; exact (mem_liveRow h).2 ha)⟩
/-- Is a register live at a place? -/
noncomputable def avB (bs : List S43) (r : Int) (i k : Nat) : Bool := decide (r ∈ liveRow bs i k)
theorem avB_end {p : Int} {bs : List S43} {fn : Int} (h : RightP p bs fn) (i : Nat) (r : Int) : avB bs r i (opLen bs i) = (decide (r ∈ outRow bs i) || decide (r ∈ tuseT (rd_T43 bs (i : Int)).f1)) := by
  rw [Bool.eq_iff_iff]
  unfold avB
  simp only [Bool.or_eq_true, decide_eq_true_eq]
  rw [mem_liveRow h, mem_outRow h]
  have e := Lv.at_end (g := gOf bs) (r := r) (i := i)
  exact e.trans or_comm
theorem avB_step {p : Int} {bs : List S43} {fn : Int} (h : RightP p bs fn) {i k : Nat} (hk : k < opLen bs i) (r : Int) : avB bs r i k = (avB bs r i (k + 1) && decide (setX (opOf bs (i, k)) ≠ r) || decide (r ∈ useX (opOf bs (i, k)))) := by
  rw [Bool.eq_iff_iff]
  unfold avB
  simp only [Bool.or_eq_true, Bool.and_eq_true, decide_eq_true_eq]
  rw [mem_liveRow h, mem_liveRow h]
  have e := Lv.at_iff (g := gOf bs) (r := r) (i := i) (k := k) hk
  refine e.trans ?_
  constructor
  · rintro (h1 | ⟨h1, h2⟩)
    · exact .inr h1
    · exact .inl ⟨h2, fun e => h1 e.symm⟩
  · rintro (⟨h1, h2⟩ | h1)
    · exact .inr ⟨fun e => h2 e.symm, h1⟩
    · exact .inl h1
theorem avB_pos {p : Int} {bs : List S43} {fn : Int} (h : RightP p bs fn) {i k : Nat} {r : Int} (ha : avB bs r i k = true) : r ≠ 0 := by
  have := h.at_reg ((mem_liveRow h).1 (of_decide_eq_true ha))
  omega
theorem outRow_len {p : Int} {bs : List S43} {fn : Int} (h : RightP p bs fn) (i : Nat) : (outRow bs i).length ≤ 4096 := Lv.regs_le ((outRow_rise bs i).imp (fun h => by omega)) (fun r hr => by
  obtain ⟨j, _, ha⟩ := (mem_outRow h).1 hr
  exact h.at_reg ha)
set_option maxHeartbeats 8000000 in
set_option maxRecDepth 100000 in
theorem flows_few (p : Int) (A : Option Addr) (c : Nat) (bs : List S43) (r : Int) (w : World) (k : Nat) (hC : Kd.C k43 w A bs.length bs) (hc : bs.length ≤ c) (hf : swagelaw17_few.f k p bs = some false) :
    Calls Try.prog 5 #[.agg #[.int .i64 p, .slice A bs.length c], .int .i64 r] w fun e w' => e = .returned (.bool true) ∧ Below w.heap.size w w' := by
  have hu34 := Try.underlying34
  have HF := Aside0.mk hf
  have HC := Aside0.mk hC
  have HCc := Aside0.mk hc
  have HB0 := Aside0.mk (below_alloc (Below.refl w.heap.size w) (.cells #[.int .i64 p, .slice A bs.length c] 34))
  have HF0 := Aside0.mk (blk_new w (.cells #[.int .i64 p, .slice A bs.length c] 34))
  clear hC hf hc
  go_enter Try.func5, Try.ntmps5
  go_wp2_with (first
    | (go_at_call 25; refine (small17_walk _).mono ?_; rintro e w1 ⟨rfl, hb⟩; have HB1 := Aside0.mk (below_then HB0.out HB0.out.size hb); have HF1 := Aside0.mk (blk_below HF0.out hb); have c0 := blk_cell HF1.out 0; have c1 := blk_cell HF1.out 1; simp only [List.getElem?_toArray, List.getElem?_cons_zero, List.getElem?_cons_succ] at c0 c1; clear hb)
    | (go_at_call 26; refine (swagelaw17_few.calls k p A c bs false _ (Kd.C_below HC.out HB1.out) HCc.out HF.out).mono ?_; rintro e w2 ⟨rfl, hb⟩; have HB2 := Aside0.mk (below_then HB1.out HB1.out.size hb); have HF2 := Aside0.mk (blk_below HF1.out hb); clear c0 c1; have c0 := blk_cell HF2.out 0; have c1 := blk_cell HF2.out 1; simp only [List.getElem?_toArray, List.getElem?_cons_zero, List.getElem?_cons_succ] at c0 c1; clear hb))
  go_ret
  exact ⟨rfl, HB2.out⟩
set_option maxHeartbeats 8000000 in
set_option maxRecDepth 100000 in
theorem flows_bad (p : Int) (A : Option Addr) (c : Nat) (bs : List S43) (r : Int) (w : World) (k : Nat) (hC : Kd.C k43 w A bs.length bs) (hc : bs.length ≤ c) (hf : swagelaw17_few.f k p bs = some true) (hR : rightF p bs 256 = false) :
    Calls Try.prog 5 #[.agg #[.int .i64 p, .slice A bs.length c], .int .i64 r] w fun e w' => e = .returned (.bool true) ∧ Below w.heap.size w w' := by
  have HR := Aside0.mk hR
  have hu34 := Try.underlying34
  have HF := Aside0.mk hf
  have HC := Aside0.mk hC
  have HCc := Aside0.mk hc
  have HB0 := Aside0.mk (below_alloc (Below.refl w.heap.size w) (.cells #[.int .i64 p, .slice A bs.length c] 34))
  have HF0 := Aside0.mk (blk_new w (.cells #[.int .i64 p, .slice A bs.length c] 34))
  clear hC hf hc hR
  go_enter Try.func5, Try.ntmps5
  go_wp2_with (first
    | (go_at_call 25; refine (small17_walk _).mono ?_; rintro e w1 ⟨rfl, hb⟩; have HB1 := Aside0.mk (below_then HB0.out HB0.out.size hb); have HF1 := Aside0.mk (blk_below HF0.out hb); have c0 := blk_cell HF1.out 0; have c1 := blk_cell HF1.out 1; simp only [List.getElem?_toArray, List.getElem?_cons_zero, List.getElem?_cons_succ] at c0 c1; clear hb)
    | (go_at_call 26; refine (swagelaw17_few.calls k p A c bs true _ (Kd.C_below HC.out HB1.out) HCc.out HF.out).mono ?_; rintro e w2 ⟨rfl, hb⟩; have HB2 := Aside0.mk (below_then HB1.out HB1.out.size hb); have HF2 := Aside0.mk (blk_below HF1.out hb); clear c0 c1; have c0 := blk_cell HF2.out 0; have c1 := blk_cell HF2.out 1; simp only [List.getElem?_toArray, List.getElem?_cons_zero, List.getElem?_cons_succ] at c0 c1; clear hb)
    | (go_at_call 18; refine (right_any p A c bs 256 _ (Kd.C_below HC.out HB2.out)).mono ?_; rintro e w3 ⟨rfl, hb⟩; rw [HR.out]; have HB3 := Aside0.mk (below_then HB2.out HB2.out.size hb); have HF3 := Aside0.mk (blk_below HF2.out hb); clear c0 c1; have c0 := blk_cell HF3.out 0; have c1 := blk_cell HF3.out 1; simp only [List.getElem?_toArray, List.getElem?_cons_zero, List.getElem?_cons_succ] at c0 c1; clear hb))
  go_ret
  exact ⟨rfl, HB3.out⟩
set_option maxHeartbeats 16000000 in
set_option maxRecDepth 100000 in
theorem flows_ok (p : Int) (A : Option Addr) (c : Nat) (bs : List S43) (r : Int) (w : World) (k : Nat) (hC : Kd.C k43 w A bs.length bs) (hc : bs.length ≤ c) (hf : swagelaw17_few.f k p bs = some true) (hR : rightF p bs 256 = true) :
    Calls Try.prog 5 #[.agg #[.int .i64 p, .slice A bs.length c], .int .i64 r] w fun e w' => e = .returned (.bool true) ∧ Below w.heap.size w w' := by
  have RP := Aside0.mk (rightF_iff hR)
  have HR := Aside0.mk hR
  have hu43 := Try.underlying43
  have hu41 := Try.underlying41
  have hu45 := Try.underlying45
  have HLI : Aside0 ((inL bs).length = bs.length) := ⟨inL_length bs⟩
  have HLO : Aside0 ((outL bs).length = bs.length) := ⟨outL_length bs⟩
  have HLS : Aside0 ((succL bs).length = bs.length) := ⟨succL_length bs⟩
  have hlen4 := RP.out.len.2
  have hu34 := Try.underlying34
  have HF := Aside0.mk hf
  have HC := Aside0.mk hC
  have HCc := Aside0.mk hc
  have HB0 := Aside0.mk (below_alloc (Below.refl w.heap.size w) (.cells #[.int .i64 p, .slice A bs.length c] 34))
  have HF0 := Aside0.mk (blk_new w (.cells #[.int .i64 p, .slice A bs.length c] 34))
  clear hC hf hc hR
  go_enter Try.func5, Try.ntmps5
  go_wp2_with (first
    | (go_at_call 25; refine (small17_walk _).mono ?_; rintro e w1 ⟨rfl, hb⟩; have HB1 := Aside0.mk (below_then HB0.out HB0.out.size hb); have HF1 := Aside0.mk (blk_below HF0.out hb); have c0 := blk_cell HF1.out 0; have c1 := blk_cell HF1.out 1; simp only [List.getElem?_toArray, List.getElem?_cons_zero, List.getElem?_cons_succ] at c0 c1; clear hb)
    | (go_at_call 26; refine (swagelaw17_few.calls k p A c bs true _ (Kd.C_below HC.out HB1.out) HCc.out HF.out).mono ?_; rintro e w2 ⟨rfl, hb⟩; have HB2 := Aside0.mk (below_then HB1.out HB1.out.size hb); have HF2 := Aside0.mk (blk_below HF1.out hb); clear c0 c1; have c0 := blk_cell HF2.out 0; have c1 := blk_cell HF2.out 1; simp only [List.getElem?_toArray, List.getElem?_cons_zero, List.getElem?_cons_succ] at c0 c1; clear hb)
    | (go_at_call 18; refine (right_any p A c bs 256 _ (Kd.C_below HC.out HB2.out)).mono ?_; rintro e w3 ⟨rfl, hb⟩; rw [HR.out]; have HB3 := Aside0.mk (below_then HB2.out HB2.out.size hb); have HF3 := Aside0.mk (blk_below HF2.out hb); clear c0 c1; have c0 := blk_cell HF3.out 0; have c1 := blk_cell HF3.out 1; simp only [List.getElem?_toArray, List.getElem?_cons_zero, List.getElem?_cons_succ] at c0 c1; clear hb)
    | (go_at_call 27; refine (in_ok p A c bs _ (Kd.C_below HC.out HB3.out) HR.out).mono ?_; rintro e w4 ⟨vi, rfl, hr, hb⟩; obtain ⟨Ai, ci, rfl, ki, hCi⟩ := Kd.R_reads hr; rw [HLI.out]; rw [HLI.out] at hCi; have HI4 := Aside0.mk hCi; clear hr hCi ki; have HB4 := Aside0.mk (below_then HB3.out HB3.out.size hb); have HF4 := Aside0.mk (blk_below HF3.out hb); clear c0 c1; have c0 := blk_cell HF4.out 0; have c1 := blk_cell HF4.out 1; simp only [List.getElem?_toArray, List.getElem?_cons_zero, List.getElem?_cons_succ] at c0 c1; clear hb)
    | (go_at_call 28; refine (out_ok p A c bs _ (Kd.C_below HC.out HB4.out) HR.out).mono ?_; rintro e w5 ⟨vo, rfl, hr, hb⟩; obtain ⟨Ao, co, rfl, ko, hCo⟩ := Kd.R_reads hr; rw [HLO.out]; rw [HLO.out] at hCo; have HO5 := Aside0.mk hCo; have HI5 := Aside0.mk (Kd.C_below HI4.out hb); clear hr hCo ko; have HB5 := Aside0.mk (below_then HB4.out HB4.out.size hb); have HF5 := Aside0.mk (blk_below HF4.out hb); clear c0 c1; have c0 := blk_cell HF5.out 0; have c1 := blk_cell HF5.out 1; simp only [List.getElem?_toArray, List.getElem?_cons_zero, List.getElem?_cons_succ] at c0 c1; clear hb)
    | (go_at_call 29; refine (succ_any p A c bs _ (Kd.C_below HC.out HB5.out) RP.out.len.2).mono ?_; rintro e w6 ⟨vs, rfl, hr, hb⟩; obtain ⟨As, cs, rfl, ks, hCs⟩ := Kd.R_reads hr; rw [HLS.out]; rw [HLS.out] at hCs; have HS6 := Aside0.mk hCs; have HO6 := Aside0.mk (Kd.C_below HO5.out hb); have HI6 := Aside0.mk (Kd.C_below HI5.out hb); clear hr hCs ks; have HB6 := Aside0.mk (below_then HB5.out HB5.out.size hb); have HF6 := Aside0.mk (blk_below HF5.out hb); clear c0 c1; have c0 := blk_cell HF6.out 0; have c1 := blk_cell HF6.out 1; simp only [List.getElem?_toArray, List.getElem?_cons_zero, List.getElem?_cons_succ] at c0 c1; clear hb))
  clear c0 c1
  go_loopw [10] (fun i wr => ∃ j : Nat, j ≤ bs.length ∧ i = .int .i64 (j : Int) ∧ Aside0 (Below w6.heap.size w6 wr)) (fun i _ => bs.length - (intOf i).toNat)
  case atStart => exact ⟨0, Nat.zero_le _, rfl, ⟨Below.refl _ _⟩⟩
  case round =>
    obtain ⟨j, hj, rfl, HB⟩ := hrel
    have c0 := blk_cell (blk_below HF6.out HB.out) 0
    have c1 := blk_cell (blk_below HF6.out HB.out) 1
    simp only [List.getElem?_toArray, List.getElem?_cons_zero, List.getElem?_cons_succ] at c0 c1
    by_cases hlt : j < bs.length
    · have b1 : decide ((j : Int) < (bs.length : Int)) = true := decide_eq_true (Int.ofNat_lt.2 hlt)
      have hw1 : wrap64 ((j : Int) + 1) = (j : Int) + 1 := (wr3 (z := 0) (by decide) (by omega)).2.2
      obtain ⟨adi, Ai0, ki0, eI, hi0, hi1, hi2⟩ := row_cell HI6.out hlt (rd_inL hlt)
      obtain ⟨ado, Ao0, ko0, eO, ho0, ho1, ho2⟩ := row_cell HO6.out hlt (rd_outL hlt)
      obtain ⟨ads, As0, ks0, eS, hs0, hs1, hs2⟩ := row_cell HS6.out hlt (succL_at hlt)
      subst eI eO eS
      have HIc := Aside0.mk hi0
      have HI1 := Aside0.mk hi1
      have HI2 := Aside0.mk hi2
      have HO1 := Aside0.mk ho1
      have HO2 := Aside0.mk ho2
      have HSc := Aside0.mk hs0
      have HS2 := Aside0.mk hs2
      have HOLn := Aside0.mk (outRow_len RP.out j)
      have HILn := Aside0.mk (liveRow_le RP.out j 0)
      have HFO := Aside0.mk (fromB_out RP.out hlt r)
      have HSB := Aside0.mk (RP.out.succ hlt)
      have HEND := Aside0.mk (avB_end RP.out j r)
      have hq0 : avB bs r j 0 = decide (r ∈ liveRow bs j 0) := rfl
      have HQ0 := Aside0.mk hq0
      clear hi0 hi1 hi2
      generalize liveRow bs j 0 = li at HIc HI1 HI2 HILn HQ0
      have HIN : Aside0 (∀ t : Nat, t < bs.length → ∃ A0 k0, w6.cell? (adi.add t) = some (.slice A0 (liveRow bs t 0).length k0) ∧ (liveRow bs t 0).length ≤ k0 ∧ Kd.C (Kd.int .i64) w6 A0 (liveRow bs t 0).length (liveRow bs t 0)) := ⟨fun t ht => by
        obtain ⟨adx, Ax, kx, eX, hx0, hx1, hx2⟩ := row_cell HI6.out ht (rd_inL ht)
        cases eX
        exact ⟨Ax, kx, hx0, hx1, hx2⟩⟩
      have ho0 := pw_cell_below HB.out ho0
      clear ho1 ho2 hs1 hs2 hq0 hs0
      go_wp2_with (go_at_call 30; refine (has_any Ao0 ko0 (outRow bs j) r _ (Kd.C_below HO2.out HB.out) HO1.out HOLn.out).mono ?_; rintro e w7 ⟨rfl, hb⟩; have HB7 := Aside0.mk (below_then HB.out HB.out.size hb); clear hb)
      clear ho0
      obtain ⟨sl, hsl⟩ : ∃ sl, succT (rd_T43 bs (j : Int)).f1 = sl := ⟨_, rfl⟩
      rw [hsl] at HSc HS2 HFO HSB
      clear hsl
      generalize decide (r ∈ outRow bs j) = b0 at HFO HEND ⊢
      go_loopw [12, 13] (fun v i wi => ∃ q : Nat, q ≤ sl.length ∧ i = .int .i64 (q : Int) ∧ v = .bool (fromB bs r (sl.take q)) ∧ Aside0 (Below w6.heap.size w6 wi)) (fun _ i _ => sl.length - (intOf i).toNat)
      case atStart => exact ⟨0, Nat.zero_le _, rfl, rfl, HB7⟩
      case round =>
        clear HB HB7
        obtain ⟨q, hq, rfl, rfl, HB⟩ := hrel
        have s0 := pw_cell_below HB.out HSc.out
        by_cases hlq : q < sl.length
        · have b3 : decide ((q : Int) < (sl.length : Int)) = true := decide_eq_true (Int.ofNat_lt.2 hlq)
          have hw6 : wrap64 ((q : Int) + 1) = (q : Int) + 1 := inc63 hlq HS2.out.2.1
          obtain ⟨adq, eQ, hcq⟩ := Kd.at_int (Kd.C_below HS2.out HB.out) (q : Int) (Int.natCast_nonneg q) (Int.ofNat_lt.2 hlq)
          rw [Int.toNat_natCast] at hcq
          subst eQ
          have hsb := HSB.out (rd sl (q : Int)) (by rw [rd_mem hlq]; exact List.getElem_mem _)
          have HTK : Aside0 (fromB bs r (sl.take (q + 1)) = (fromB bs r (sl.take q) || decide (r ∈ liveRow bs (rd sl (q : Int)).toNat 0))) := ⟨by
            rw [List.take_succ_eq_append_getElem hlq, fromB_snoc, rd_mem hlq]⟩
          obtain ⟨t, ht⟩ : ∃ t : Nat, rd sl (q : Int) = (t : Int) := ⟨_, (Int.toNat_of_nonneg hsb.1).symm⟩
          rw [ht] at hcq hsb HTK
          rw [Int.toNat_natCast] at HTK
          have htn : t < bs.length := by omega
          obtain ⟨A0, k0, hx0, hx1, hx2⟩ := HIN.out t htn
          have hx0 := pw_cell_below HB.out hx0
          have HX1 := Aside0.mk hx1
          have HX2 := Aside0.mk hx2
          have HXL := Aside0.mk (liveRow_le RP.out t 0)
          generalize liveRow bs t 0 = lt at hx0 HX1 HX2 HXL HTK
          clear hx1 hx2 ht hsb
          cases hfb : fromB bs r (sl.take q) with
          | true =>
            have HV : Aside0 (fromB bs r (sl.take (q + 1)) = true) := ⟨by rw [HTK.out, hfb]; rfl⟩
            clear hfb
            go_wp2_with fail
            go_roundw
            case rel => exact ⟨q + 1, hlq, by first | (rw [hw6]; exact num_cast q) | (with_reducible exact num_cast q), by rw [HV.out], HB⟩
            case measure => first | (rw [hw6]; exact num_meas hlq) | (with_reducible exact num_meas hlq)
          | false =>
            have HV : Aside0 (fromB bs r (sl.take (q + 1)) = decide (r ∈ lt)) := ⟨by rw [HTK.out, hfb]; rfl⟩
            clear hfb
            go_wp2_with (go_at_call 30; refine (has_any A0 k0 lt r _ (Kd.C_below HX2.out HB.out) HX1.out HXL.out).mono ?_; rintro e w8 ⟨rfl, hb⟩; have HB8 := Aside0.mk (below_then HB.out HB.out.size hb); clear hb)
            go_roundw
            case rel => exact ⟨q + 1, hlq, by first | (rw [hw6]; exact num_cast q) | (with_reducible exact num_cast q), by rw [HV.out], HB8⟩
            case measure => first | (rw [hw6]; exact num_meas hlq) | (with_reducible exact num_meas hlq)
        · have b3 : decide ((q : Int) < (sl.length : Int)) = false := decide_eq_false (fun h => hlq (Int.ofNat_lt.1 h))
          have hfe : fromB bs r (sl.take q) = b0 := by rw [List.take_of_length_le (Nat.le_of_not_lt hlq)]; exact HFO.out
          rw [hfe]
          clear hfe
          have hbf := blk_below HF6.out HB.out
          have c0 := blk_cell hbf 0
          have c1 := blk_cell hbf 1
          simp only [List.getElem?_toArray, List.getElem?_cons_zero, List.getElem?_cons_succ] at c0 c1
          obtain ⟨adb, A5, c5, eA, h0, h1, h2, h3, h4, l5, g5⟩ := at_T43 HC.out (j : Int) (Int.natCast_nonneg j) (Int.ofNat_lt.2 hlt)
          simp only [Int.toNat_natCast] at h0 h1 h2 h3 h4
          subst eA
          have HH0 := Aside0.mk h0
          have HG5 := Aside0.mk g5
          have hbw := below_then HB6.out HB6.out.size HB.out
          have h1 := pw_cell_below hbw h1
          have h2 := pw_cell_below hbw h2
          have h3 := pw_cell_below hbw h3
          have h4 := pw_cell_below hbw h4
          have HTU := Aside0.mk (termUses_le (rd_T43 bs (j : Int)).f1)
          have HTL : Aside0 ((tuseT (rd_T43 bs (j : Int)).f1).length ≤ 4096) := ⟨by unfold tuseT; split <;> simp⟩
          clear h0 g5 l5
          have HOL : Aside0 (opLen bs j = (rd_T43 bs (j : Int)).f0.length) := ⟨rfl⟩
          have HOP : Aside0 (∀ k : Nat, opOf bs (j, k) = rd_T45 (rd_T43 bs (j : Int)).f0 (k : Int)) := ⟨fun k => rfl⟩
          generalize (rd_T43 bs (j : Int)).f0 = xs at HH0 HG5 HOL HOP
          generalize (rd_T43 bs (j : Int)).f1 = tm at h1 h2 h3 h4 HTU HTL HEND
          have HXL : Aside0 (xs.length ≤ 16384) := ⟨by rw [← HOL.out]; exact RP.out.opLen_le j⟩
          have HX64 : Aside0 (∀ k : Nat, (rd_T45 xs (k : Int)).f5.length ≤ 1000) := ⟨fun k => by
            have := (RP.out.opA (j, k)).2
            rw [HOP.out k] at this
            exact Nat.le_trans this (by decide)⟩
          obtain ⟨L, hL⟩ : ∃ L, afterL bs j = L := ⟨_, rfl⟩
          have HL := Aside0.mk hL
          have HLL : Aside0 (L.length = xs.length) := ⟨by rw [← hL, afterL, List.length_map, List.length_range, HOL.out]⟩
          have HLA : Aside0 (∀ k : Nat, k < L.length → rd_L1 L (k : Int) = liveRow bs j (k + 1)) := ⟨fun k hk => by
            rw [HLL.out, ← HOL.out] at hk
            rw [← hL]
            exact rd_afterL hk⟩
          clear hL hbw hbf
          cases hb0 : b0 with
          | true =>
            have HVE : Aside0 (avB bs r j (opLen bs j) = true) := ⟨by rw [HEND.out, hb0]; rfl⟩
            clear hb0
            have HBt := HB
            clear HB
            go_wp2_with (go_at_call 32; refine (After_ok p _ c bs j _ (Kd.C_below HC.out (below_then HB6.out HB6.out.size HBt.out)) HR.out hlt).mono ?_; rintro e w9 ⟨v9, rfl, hr, hb⟩; rw [HL.out] at hr; obtain ⟨A9, c9, rfl, k9, hC9⟩ := Kd.R_reads hr; rw [HLL.out] at hC9 k9 ⊢; have HB9 := Aside0.mk (below_then HBt.out HBt.out.size hb); have HC9 := Aside0.mk hC9; have h0 := pw_cell_below (below_then HB6.out HB6.out.size HB9.out) HH0.out; clear c0 c1; have c0 := blk_cell (blk_below HF6.out HB9.out) 0; have c1 := blk_cell (blk_below HF6.out HB9.out) 1; simp only [List.getElem?_toArray, List.getElem?_cons_zero, List.getElem?_cons_succ] at c0 c1; have hwl : wrap64 ((xs.length : Int) - 1) = (xs.length : Int) - 1 := sub1 HXL.out; clear hr hC9 k9 hb)
            go_loopw [11, 15] (fun v i wi => ∃ m : Nat, m ≤ xs.length ∧ i = .int .i64 ((m : Int) - 1) ∧ v = .bool (avB bs r j m) ∧ Aside0 (Below w9.heap.size w9 wi)) (fun _ i _ => (intOf i + 1).toNat)
            case atStart => exact ⟨xs.length, Nat.le_refl _, by first | (with_reducible rfl) | rw [hwl], by rw [← HOL.out, HVE.out], ⟨Below.refl _ _⟩⟩
            case round =>
              clear c0 c1 h0
              try clear hwl
              obtain ⟨m, hm, rfl, rfl, HB⟩ := hrel
              have hbq := below_then HB9.out HB9.out.size HB.out
              have c0 := blk_cell (blk_below HF6.out hbq) 0
              have c1 := blk_cell (blk_below HF6.out hbq) 1
              simp only [List.getElem?_toArray, List.getElem?_cons_zero, List.getElem?_cons_succ] at c0 c1
              cases m with
              | zero =>
                have hz : ((0 : Nat) : Int) - 1 = -1 := rfl
                rw [hz]
                clear hz
                have hbi := pw_cell_below hbq HIc.out
                rw [HQ0.out]
                obtain ⟨B2, hB2⟩ : ∃ B2, decide (r ∈ li) = B2 := ⟨_, rfl⟩
                rw [hB2]
                have HBQ := Aside0.mk hB2
                have HBq := Aside0.mk hbq
                clear hbq hB2
                cases hB3 : B2 with
                | true =>
                  rw [hB3] at HBQ
                  clear hB3
                  go_wp2_with (go_at_call 30; refine (has_any Ai0 ki0 li r _ (Kd.C_below HI2.out HBq.out) HI1.out HILn.out).mono ?_; rintro e wa ⟨rfl, hb⟩; rw [HBQ.out]; have HBa := Aside0.mk (below_then HBq.out HBq.out.size hb); clear hb)
                  go_roundw
                  case rel => exact ⟨j + 1, hlt, by first | (rw [hw1]; exact num_cast j) | (with_reducible exact num_cast j), HBa⟩
                  case measure => first | (rw [hw1]; exact num_meas hlt) | (with_reducible exact num_meas hlt)
                | false =>
                  rw [hB3] at HBQ
                  clear hB3
                  go_wp2_with (go_at_call 30; refine (has_any Ai0 ki0 li r _ (Kd.C_below HI2.out HBq.out) HI1.out HILn.out).mono ?_; rintro e wa ⟨rfl, hb⟩; rw [HBQ.out]; have HBa := Aside0.mk (below_then HBq.out HBq.out.size hb); clear hb)
                  go_roundw
                  case rel => exact ⟨j + 1, hlt, by first | (rw [hw1]; exact num_cast j) | (with_reducible exact num_cast j), HBa⟩
                  case measure => first | (rw [hw1]; exact num_meas hlt) | (with_reducible exact num_meas hlt)
              | succ k =>
                have ek : ((k + 1 : Nat) : Int) - 1 = (k : Int) := by omega
                rw [ek]
                clear ek
                have hkx : k < xs.length := hm
                have hbw := below_then HB6.out HB6.out.size hbq
                have h0 := pw_cell_below hbw HH0.out
                have hwk : wrap64 ((k : Int) - 1) = (k : Int) - 1 := sub1 (Nat.le_trans (Nat.le_of_lt hkx) HXL.out)
                have b2 : decide ((0 : Int) ≤ (k : Int)) = true := decide_eq_true (Int.natCast_nonneg k)
                have b2' : (0 : Int) ≤ (k : Int) := Int.natCast_nonneg k
                obtain ⟨adr, A0, k0, eI, hi0, hi1, hi2⟩ := row_cell HC9.out hkx (HLA.out k (by rw [HLL.out]; exact hkx))
                subst eI
                have hi0 := pw_cell_below HB.out hi0
                obtain ⟨adk, A6, c6, eA, x0, x1, x2, x3, x4, x5, x6, x7⟩ := at_T45 (Kd.C_below HG5.out hbw) (k : Int) (Int.natCast_nonneg k) (Int.ofNat_lt.2 hkx)
                simp only [Int.toNat_natCast] at x0 x1 x2 x3 x4 x5
                subst eA
                have hst := avB_step RP.out (i := j) (k := k) (by rw [HOL.out]; exact hkx) r
                rw [HOP.out k] at hst
                have hq : avB bs r j (k + 1) = decide (r ∈ liveRow bs j (k + 1)) := rfl
                have HPOS : Aside0 (avB bs r j (k + 1) = true → r ≠ 0) := ⟨avB_pos RP.out⟩
                have HL4 := Aside0.mk (liveRow_le RP.out j (k + 1))
                have hX5 := HX64.out k
                generalize rd_T45 xs (k : Int) = X at x0 x1 x2 x3 x4 x5 x6 x7 hst hX5
                generalize liveRow bs j (k + 1) = l at hi0 hi1 hi2 hq HL4
                have HUL := Aside0.mk (useX_len X hX5)
                have HX12 : Aside0 (X.f5.length ≤ 1000000000000) := ⟨Nat.le_trans hX5 (by decide)⟩
                have hbA := below_alloc (Below.refl wr.heap.size wr) (.cells #[.int .i64 X.f0, .int .i64 X.f1, .int .i64 X.f2, .int .i64 X.f3, .int .i64 X.f4, .slice A6 X.f5.length c6] 45)
                have HX6 := Aside0.mk x6
                have HX7 := Aside0.mk (Kd.C_below x7 hbA)
                have HXB := Aside0.mk (blk_new wr (.cells #[.int .i64 X.f0, .int .i64 X.f1, .int .i64 X.f2, .int .i64 X.f3, .int .i64 X.f4, .slice A6 X.f5.length c6] 45))
                have HB3 := Aside0.mk (below_alloc HB.out (.cells #[.int .i64 X.f0, .int .i64 X.f1, .int .i64 X.f2, .int .i64 X.f3, .int .i64 X.f4, .slice A6 X.f5.length c6] 45))
                have HI1 := Aside0.mk hi1
                have hi0 := pw_cell_below hbA hi0
                have HI3 := Aside0.mk (Kd.C_below (Kd.C_below hi2 HB.out) hbA)
                clear x6 x7 hi1 hi2 hbA hbw hbq hX5
                rw [hq]
                rw [hq] at HPOS hst
                obtain ⟨B, hB⟩ : ∃ B, decide (r ∈ l) = B := ⟨_, rfl⟩
                rw [hB]
                rw [hB] at HPOS hst
                have HBQ := Aside0.mk hB
                clear hB hq
                cases hB : B with
                | false =>
                  rw [hB] at hst HBQ
                  have HST : Aside0 (avB bs r j k = decide (r ∈ useX X)) := ⟨by rw [hst]; rfl⟩
                  clear hB hst HPOS
                  go_wp2_with (first
                    | (have := HCU; go_at_call 30; refine (has_any A7 c7 (useX X) r _ HCU.out HKU.out HUL.out).mono ?_; rintro e wd ⟨rfl, hb⟩; have HBa := Aside0.mk (below_then HBa.out HBa.out.size hb); clear hb)
                    | (go_at_call 30; refine (has_any A0 k0 l r _ HI3.out HI1.out HL4.out).mono ?_; rintro e wa ⟨rfl, hb⟩; rw [HBQ.out]; have HBa := Aside0.mk (below_then HB3.out HB3.out.size hb); have HX7 := Aside0.mk (Kd.C_below HX7.out hb); have HXC := Aside0.mk (blk_below HXB.out hb); have y0 := blk_cell HXC.out 0; have y1 := blk_cell HXC.out 1; have y2 := blk_cell HXC.out 2; have y3 := blk_cell HXC.out 3; have y4 := blk_cell HXC.out 4; have y5 := blk_cell HXC.out 5; simp only [List.getElem?_toArray, List.getElem?_cons_zero, List.getElem?_cons_succ] at y0 y1 y2 y3 y4 y5; clear hb)
                    | (go_at_call 21; refine (uses_le X A6 c6 _ HX12.out HX7.out HX6.out).mono ?_; rintro e wc ⟨A7, c7, rfl, k7, hC7, hb⟩; have HBa := Aside0.mk (below_then HBa.out HBa.out.size hb); have HKU := Aside0.mk k7; have HCU := Aside0.mk hC7; clear hb k7 hC7))
                  go_roundw
                  case rel => exact ⟨k, Nat.le_of_lt hkx, by first | (with_reducible rfl) | rw [hwk], by rw [HST.out], HBa⟩
                  case measure => first | (rw [hwk]; exact dn_meas k) | (with_reducible exact dn_meas k)
                | true =>
                  rw [hB] at hst HBQ HPOS
                  have hr0 := HPOS.out rfl
                  have b7 : decide (r = 0) = false := decide_eq_false hr0
                  by_cases hs : setX X = r
                  · have b6 : decide (setX X = r) = true := decide_eq_true hs
                    have HST : Aside0 (avB bs r j k = decide (r ∈ useX X)) := ⟨by rw [hst]; simp [hs]⟩
                    clear hB hst HPOS
                    go_wp2_with (first
                      | (have := HCU; go_at_call 30; refine (has_any A7 c7 (useX X) r _ HCU.out HKU.out HUL.out).mono ?_; rintro e wd ⟨rfl, hb⟩; have HBa := Aside0.mk (below_then HBa.out HBa.out.size hb); clear hb)
                      | (go_at_call 30; refine (has_any A0 k0 l r _ HI3.out HI1.out HL4.out).mono ?_; rintro e wa ⟨rfl, hb⟩; rw [HBQ.out]; have HBa := Aside0.mk (below_then HB3.out HB3.out.size hb); have HX7 := Aside0.mk (Kd.C_below HX7.out hb); have HXC := Aside0.mk (blk_below HXB.out hb); have y0 := blk_cell HXC.out 0; have y1 := blk_cell HXC.out 1; have y2 := blk_cell HXC.out 2; have y3 := blk_cell HXC.out 3; have y4 := blk_cell HXC.out 4; have y5 := blk_cell HXC.out 5; simp only [List.getElem?_toArray, List.getElem?_cons_zero, List.getElem?_cons_succ] at y0 y1 y2 y3 y4 y5; clear hb)
                      | (go_at_call 23; refine (sets1_any X A6 c6 _ HX7.out HX6.out).mono ?_; rintro e wb ⟨rfl, hb⟩; have HBa := Aside0.mk (below_then HBa.out HBa.out.size hb); have HX7 := Aside0.mk (Kd.C_below HX7.out hb); have HXC := Aside0.mk (blk_below HXC.out hb); clear y0 y1 y2 y3 y4 y5; have y0 := blk_cell HXC.out 0; have y1 := blk_cell HXC.out 1; have y2 := blk_cell HXC.out 2; have y3 := blk_cell HXC.out 3; have y4 := blk_cell HXC.out 4; have y5 := blk_cell HXC.out 5; simp only [List.getElem?_toArray, List.getElem?_cons_zero, List.getElem?_cons_succ] at y0 y1 y2 y3 y4 y5; clear hb)
                      | (go_at_call 21; refine (uses_le X A6 c6 _ HX12.out HX7.out HX6.out).mono ?_; rintro e wc ⟨A7, c7, rfl, k7, hC7, hb⟩; have HBa := Aside0.mk (below_then HBa.out HBa.out.size hb); have HKU := Aside0.mk k7; have HCU := Aside0.mk hC7; clear hb k7 hC7))
                    go_roundw
                    case rel => exact ⟨k, Nat.le_of_lt hkx, by first | (with_reducible rfl) | rw [hwk], by rw [HST.out]; first | done | simp [hr0], HBa⟩
                    case measure => first | (rw [hwk]; exact dn_meas k) | (with_reducible exact dn_meas k)
                  · have b6 : decide (setX X = r) = false := decide_eq_false hs
                    have HST : Aside0 (avB bs r j k = true) := ⟨by rw [hst]; simp [hs]⟩
                    clear hB hst HPOS
                    go_wp2_with (first
                      | (go_at_call 30; refine (has_any A0 k0 l r _ HI3.out HI1.out HL4.out).mono ?_; rintro e wa ⟨rfl, hb⟩; rw [HBQ.out]; have HBa := Aside0.mk (below_then HB3.out HB3.out.size hb); have HX7 := Aside0.mk (Kd.C_below HX7.out hb); have HXC := Aside0.mk (blk_below HXB.out hb); have y0 := blk_cell HXC.out 0; have y1 := blk_cell HXC.out 1; have y2 := blk_cell HXC.out 2; have y3 := blk_cell HXC.out 3; have y4 := blk_cell HXC.out 4; have y5 := blk_cell HXC.out 5; simp only [List.getElem?_toArray, List.getElem?_cons_zero, List.getElem?_cons_succ] at y0 y1 y2 y3 y4 y5; clear hb)
                      | (go_at_call 23; refine (sets1_any X A6 c6 _ HX7.out HX6.out).mono ?_; rintro e wb ⟨rfl, hb⟩; have HBa := Aside0.mk (below_then HBa.out HBa.out.size hb); have HX7 := Aside0.mk (Kd.C_below HX7.out hb); have HXC := Aside0.mk (blk_below HXC.out hb); clear y0 y1 y2 y3 y4 y5; have y0 := blk_cell HXC.out 0; have y1 := blk_cell HXC.out 1; have y2 := blk_cell HXC.out 2; have y3 := blk_cell HXC.out 3; have y4 := blk_cell HXC.out 4; have y5 := blk_cell HXC.out 5; simp only [List.getElem?_toArray, List.getElem?_cons_zero, List.getElem?_cons_succ] at y0 y1 y2 y3 y4 y5; clear hb))
                    go_roundw
                    case rel => exact ⟨k, Nat.le_of_lt hkx, by first | (with_reducible rfl) | rw [hwk], by rw [HST.out], HBa⟩
                    case measure => first | (rw [hwk]; exact dn_meas k) | (with_reducible exact dn_meas k)
          | false =>
            have HVE : Aside0 (avB bs r j (opLen bs j) = decide (r ∈ tuseT tm)) := ⟨by rw [HEND.out, hb0]; rfl⟩
            clear hb0
            go_wp2_with (first
                          | (go_at_call 31; refine (HTU.out _).mono ?_; rintro e w7a ⟨A7, c7, rfl, k7, hC7, hb⟩; have HBa := Aside0.mk (below_then HB.out HB.out.size hb); have HK7 := Aside0.mk k7; have HC7 := Aside0.mk hC7; clear hb k7 hC7)
                          | (go_at_call 30; refine (has_any A7 c7 (tuseT tm) r _ HC7.out HK7.out HTL.out).mono ?_; rintro e w8a ⟨rfl, hb⟩; have HBt := Aside0.mk (below_then HBa.out HBa.out.size hb); clear c0 c1 h1 h2 h3 h4; have c0 := blk_cell (blk_below HF6.out HBt.out) 0; have c1 := blk_cell (blk_below HF6.out HBt.out) 1; simp only [List.getElem?_toArray, List.getElem?_cons_zero, List.getElem?_cons_succ] at c0 c1; clear hb)
                          | (go_at_call 32; refine (After_ok p _ c bs j _ (Kd.C_below HC.out (below_then HB6.out HB6.out.size HBt.out)) HR.out hlt).mono ?_; rintro e w9 ⟨v9, rfl, hr, hb⟩; rw [HL.out] at hr; obtain ⟨A9, c9, rfl, k9, hC9⟩ := Kd.R_reads hr; rw [HLL.out] at hC9 k9 ⊢; have HB9 := Aside0.mk (below_then HBt.out HBt.out.size hb); have HC9 := Aside0.mk hC9; have h0 := pw_cell_below (below_then HB6.out HB6.out.size HB9.out) HH0.out; clear c0 c1; have c0 := blk_cell (blk_below HF6.out HB9.out) 0; have c1 := blk_cell (blk_below HF6.out HB9.out) 1; simp only [List.getElem?_toArray, List.getElem?_cons_zero, List.getElem?_cons_succ] at c0 c1; have hwl : wrap64 ((xs.length : Int) - 1) = (xs.length : Int) - 1 := sub1 HXL.out; clear hr hC9 k9 hb))
            go_loopw [11, 15] (fun v i wi => ∃ m : Nat, m ≤ xs.length ∧ i = .int .i64 ((m : Int) - 1) ∧ v = .bool (avB bs r j m) ∧ Aside0 (Below w9.heap.size w9 wi)) (fun _ i _ => (intOf i + 1).toNat)
            case atStart => exact ⟨xs.length, Nat.le_refl _, by first | (with_reducible rfl) | rw [hwl], by rw [← HOL.out, HVE.out], ⟨Below.refl _ _⟩⟩
            case round =>
              clear c0 c1 h0
              try clear hwl
              obtain ⟨m, hm, rfl, rfl, HB⟩ := hrel
              have hbq := below_then HB9.out HB9.out.size HB.out
              have c0 := blk_cell (blk_below HF6.out hbq) 0
              have c1 := blk_cell (blk_below HF6.out hbq) 1
              simp only [List.getElem?_toArray, List.getElem?_cons_zero, List.getElem?_cons_succ] at c0 c1
              cases m with
              | zero =>
                have hz : ((0 : Nat) : Int) - 1 = -1 := rfl
                rw [hz]
                clear hz
                have hbi := pw_cell_below hbq HIc.out
                rw [HQ0.out]
                obtain ⟨B2, hB2⟩ : ∃ B2, decide (r ∈ li) = B2 := ⟨_, rfl⟩
                rw [hB2]
                have HBQ := Aside0.mk hB2
                have HBq := Aside0.mk hbq
                clear hbq hB2
                cases hB3 : B2 with
                | true =>
                  rw [hB3] at HBQ
                  clear hB3
                  go_wp2_with (go_at_call 30; refine (has_any Ai0 ki0 li r _ (Kd.C_below HI2.out HBq.out) HI1.out HILn.out).mono ?_; rintro e wa ⟨rfl, hb⟩; rw [HBQ.out]; have HBa := Aside0.mk (below_then HBq.out HBq.out.size hb); clear hb)
                  go_roundw
                  case rel => exact ⟨j + 1, hlt, by first | (rw [hw1]; exact num_cast j) | (with_reducible exact num_cast j), HBa⟩
                  case measure => first | (rw [hw1]; exact num_meas hlt) | (with_reducible exact num_meas hlt)
                | false =>
                  rw [hB3] at HBQ
                  clear hB3
                  go_wp2_with (go_at_call 30; refine (has_any Ai0 ki0 li r _ (Kd.C_below HI2.out HBq.out) HI1.out HILn.out).mono ?_; rintro e wa ⟨rfl, hb⟩; rw [HBQ.out]; have HBa := Aside0.mk (below_then HBq.out HBq.out.size hb); clear hb)
                  go_roundw
                  case rel => exact ⟨j + 1, hlt, by first | (rw [hw1]; exact num_cast j) | (with_reducible exact num_cast j), HBa⟩
                  case measure => first | (rw [hw1]; exact num_meas hlt) | (with_reducible exact num_meas hlt)
              | succ k =>
                have ek : ((k + 1 : Nat) : Int) - 1 = (k : Int) := by omega
                rw [ek]
                clear ek
                have hkx : k < xs.length := hm
                have hbw := below_then HB6.out HB6.out.size hbq
                have h0 := pw_cell_below hbw HH0.out
                have hwk : wrap64 ((k : Int) - 1) = (k : Int) - 1 := sub1 (Nat.le_trans (Nat.le_of_lt hkx) HXL.out)
                have b2 : decide ((0 : Int) ≤ (k : Int)) = true := decide_eq_true (Int.natCast_nonneg k)
                have b2' : (0 : Int) ≤ (k : Int) := Int.natCast_nonneg k
                obtain ⟨adr, A0, k0, eI, hi0, hi1, hi2⟩ := row_cell HC9.out hkx (HLA.out k (by rw [HLL.out]; exact hkx))
                subst eI
                have hi0 := pw_cell_below HB.out hi0
                obtain ⟨adk, A6, c6, eA, x0, x1, x2, x3, x4, x5, x6, x7⟩ := at_T45 (Kd.C_below HG5.out hbw) (k : Int) (Int.natCast_nonneg k) (Int.ofNat_lt.2 hkx)
                simp only [Int.toNat_natCast] at x0 x1 x2 x3 x4 x5
                subst eA
                have hst := avB_step RP.out (i := j) (k := k) (by rw [HOL.out]; exact hkx) r
                rw [HOP.out k] at hst
                have hq : avB bs r j (k + 1) = decide (r ∈ liveRow bs j (k + 1)) := rfl
                have HPOS : Aside0 (avB bs r j (k + 1) = true → r ≠ 0) := ⟨avB_pos RP.out⟩
                have HL4 := Aside0.mk (liveRow_le RP.out j (k + 1))
                have hX5 := HX64.out k
                generalize rd_T45 xs (k : Int) = X at x0 x1 x2 x3 x4 x5 x6 x7 hst hX5
                generalize liveRow bs j (k + 1) = l at hi0 hi1 hi2 hq HL4
                have HUL := Aside0.mk (useX_len X hX5)
                have HX12 : Aside0 (X.f5.length ≤ 1000000000000) := ⟨Nat.le_trans hX5 (by decide)⟩
                have hbA := below_alloc (Below.refl wr.heap.size wr) (.cells #[.int .i64 X.f0, .int .i64 X.f1, .int .i64 X.f2, .int .i64 X.f3, .int .i64 X.f4, .slice A6 X.f5.length c6] 45)
                have HX6 := Aside0.mk x6
                have HX7 := Aside0.mk (Kd.C_below x7 hbA)
                have HXB := Aside0.mk (blk_new wr (.cells #[.int .i64 X.f0, .int .i64 X.f1, .int .i64 X.f2, .int .i64 X.f3, .int .i64 X.f4, .slice A6 X.f5.length c6] 45))
                have HB3 := Aside0.mk (below_alloc HB.out (.cells #[.int .i64 X.f0, .int .i64 X.f1, .int .i64 X.f2, .int .i64 X.f3, .int .i64 X.f4, .slice A6 X.f5.length c6] 45))
                have HI1 := Aside0.mk hi1
                have hi0 := pw_cell_below hbA hi0
                have HI3 := Aside0.mk (Kd.C_below (Kd.C_below hi2 HB.out) hbA)
                clear x6 x7 hi1 hi2 hbA hbw hbq hX5
                rw [hq]
                rw [hq] at HPOS hst
                obtain ⟨B, hB⟩ : ∃ B, decide (r ∈ l) = B := ⟨_, rfl⟩
                rw [hB]
                rw [hB] at HPOS hst
                have HBQ := Aside0.mk hB
                clear hB hq
                cases hB : B with
                | false =>
                  rw [hB] at hst HBQ
                  have HST : Aside0 (avB bs r j k = decide (r ∈ useX X)) := ⟨by rw [hst]; rfl⟩
                  clear hB hst HPOS
                  go_wp2_with (first
                    | (have := HCU; go_at_call 30; refine (has_any A7 c7 (useX X) r _ HCU.out HKU.out HUL.out).mono ?_; rintro e wd ⟨rfl, hb⟩; have HBa := Aside0.mk (below_then HBa.out HBa.out.size hb); clear hb)
                    | (go_at_call 30; refine (has_any A0 k0 l r _ HI3.out HI1.out HL4.out).mono ?_; rintro e wa ⟨rfl, hb⟩; rw [HBQ.out]; have HBa := Aside0.mk (below_then HB3.out HB3.out.size hb); have HX7 := Aside0.mk (Kd.C_below HX7.out hb); have HXC := Aside0.mk (blk_below HXB.out hb); have y0 := blk_cell HXC.out 0; have y1 := blk_cell HXC.out 1; have y2 := blk_cell HXC.out 2; have y3 := blk_cell HXC.out 3; have y4 := blk_cell HXC.out 4; have y5 := blk_cell HXC.out 5; simp only [List.getElem?_toArray, List.getElem?_cons_zero, List.getElem?_cons_succ] at y0 y1 y2 y3 y4 y5; clear hb)
                    | (go_at_call 21; refine (uses_le X A6 c6 _ HX12.out HX7.out HX6.out).mono ?_; rintro e wc ⟨A7, c7, rfl, k7, hC7, hb⟩; have HBa := Aside0.mk (below_then HBa.out HBa.out.size hb); have HKU := Aside0.mk k7; have HCU := Aside0.mk hC7; clear hb k7 hC7))
                  go_roundw
                  case rel => exact ⟨k, Nat.le_of_lt hkx, by first | (with_reducible rfl) | rw [hwk], by rw [HST.out], HBa⟩
                  case measure => first | (rw [hwk]; exact dn_meas k) | (with_reducible exact dn_meas k)
                | true =>
                  rw [hB] at hst HBQ HPOS
                  have hr0 := HPOS.out rfl
                  have b7 : decide (r = 0) = false := decide_eq_false hr0
                  by_cases hs : setX X = r
                  · have b6 : decide (setX X = r) = true := decide_eq_true hs
                    have HST : Aside0 (avB bs r j k = decide (r ∈ useX X)) := ⟨by rw [hst]; simp [hs]⟩
                    clear hB hst HPOS
                    go_wp2_with (first
                      | (have := HCU; go_at_call 30; refine (has_any A7 c7 (useX X) r _ HCU.out HKU.out HUL.out).mono ?_; rintro e wd ⟨rfl, hb⟩; have HBa := Aside0.mk (below_then HBa.out HBa.out.size hb); clear hb)
                      | (go_at_call 30; refine (has_any A0 k0 l r _ HI3.out HI1.out HL4.out).mono ?_; rintro e wa ⟨rfl, hb⟩; rw [HBQ.out]; have HBa := Aside0.mk (below_then HB3.out HB3.out.size hb); have HX7 := Aside0.mk (Kd.C_below HX7.out hb); have HXC := Aside0.mk (blk_below HXB.out hb); have y0 := blk_cell HXC.out 0; have y1 := blk_cell HXC.out 1; have y2 := blk_cell HXC.out 2; have y3 := blk_cell HXC.out 3; have y4 := blk_cell HXC.out 4; have y5 := blk_cell HXC.out 5; simp only [List.getElem?_toArray, List.getElem?_cons_zero, List.getElem?_cons_succ] at y0 y1 y2 y3 y4 y5; clear hb)
                      | (go_at_call 23; refine (sets1_any X A6 c6 _ HX7.out HX6.out).mono ?_; rintro e wb ⟨rfl, hb⟩; have HBa := Aside0.mk (below_then HBa.out HBa.out.size hb); have HX7 := Aside0.mk (Kd.C_below HX7.out hb); have HXC := Aside0.mk (blk_below HXC.out hb); clear y0 y1 y2 y3 y4 y5; have y0 := blk_cell HXC.out 0; have y1 := blk_cell HXC.out 1; have y2 := blk_cell HXC.out 2; have y3 := blk_cell HXC.out 3; have y4 := blk_cell HXC.out 4; have y5 := blk_cell HXC.out 5; simp only [List.getElem?_toArray, List.getElem?_cons_zero, List.getElem?_cons_succ] at y0 y1 y2 y3 y4 y5; clear hb)
                      | (go_at_call 21; refine (uses_le X A6 c6 _ HX12.out HX7.out HX6.out).mono ?_; rintro e wc ⟨A7, c7, rfl, k7, hC7, hb⟩; have HBa := Aside0.mk (below_then HBa.out HBa.out.size hb); have HKU := Aside0.mk k7; have HCU := Aside0.mk hC7; clear hb k7 hC7))
                    go_roundw
                    case rel => exact ⟨k, Nat.le_of_lt hkx, by first | (with_reducible rfl) | rw [hwk], by rw [HST.out]; first | done | simp [hr0], HBa⟩
                    case measure => first | (rw [hwk]; exact dn_meas k) | (with_reducible exact dn_meas k)
                  · have b6 : decide (setX X = r) = false := decide_eq_false hs
                    have HST : Aside0 (avB bs r j k = true) := ⟨by rw [hst]; simp [hs]⟩
                    clear hB hst HPOS
                    go_wp2_with (first
                      | (go_at_call 30; refine (has_any A0 k0 l r _ HI3.out HI1.out HL4.out).mono ?_; rintro e wa ⟨rfl, hb⟩; rw [HBQ.out]; have HBa := Aside0.mk (below_then HB3.out HB3.out.size hb); have HX7 := Aside0.mk (Kd.C_below HX7.out hb); have HXC := Aside0.mk (blk_below HXB.out hb); have y0 := blk_cell HXC.out 0; have y1 := blk_cell HXC.out 1; have y2 := blk_cell HXC.out 2; have y3 := blk_cell HXC.out 3; have y4 := blk_cell HXC.out 4; have y5 := blk_cell HXC.out 5; simp only [List.getElem?_toArray, List.getElem?_cons_zero, List.getElem?_cons_succ] at y0 y1 y2 y3 y4 y5; clear hb)
                      | (go_at_call 23; refine (sets1_any X A6 c6 _ HX7.out HX6.out).mono ?_; rintro e wb ⟨rfl, hb⟩; have HBa := Aside0.mk (below_then HBa.out HBa.out.size hb); have HX7 := Aside0.mk (Kd.C_below HX7.out hb); have HXC := Aside0.mk (blk_below HXC.out hb); clear y0 y1 y2 y3 y4 y5; have y0 := blk_cell HXC.out 0; have y1 := blk_cell HXC.out 1; have y2 := blk_cell HXC.out 2; have y3 := blk_cell HXC.out 3; have y4 := blk_cell HXC.out 4; have y5 := blk_cell HXC.out 5; simp only [List.getElem?_toArray, List.getElem?_cons_zero, List.getElem?_cons_succ] at y0 y1 y2 y3 y4 y5; clear hb))
                    go_roundw
                    case rel => exact ⟨k, Nat.le_of_lt hkx, by first | (with_reducible rfl) | rw [hwk], by rw [HST.out], HBa⟩
                    case measure => first | (rw [hwk]; exact dn_meas k) | (with_reducible exact dn_meas k)
    · have b1 : decide ((j : Int) < (bs.length : Int)) = false := decide_eq_false (by omega)
      go_wp2_with fail
      go_ret
      exact ⟨rfl, below_then HB6.out HB6.out.size HB.out⟩
theorem liveFlows_true (p : Int) (A : Option Addr) (c : Nat) (bs : List S43) (r : Int) (w : World) (hC : Kd.C k43 w A bs.length bs) (hc : bs.length ≤ c) (hr : Room bs) :
    Calls Try.prog 5 #[.agg #[.int .i64 p, .slice A bs.length c], .int .i64 r] w fun e w' => e = .returned (.bool true) ∧ Below w.heap.size w w' := by
  obtain ⟨k, b, hf⟩ := few17_total p bs hr
  have hf := hf k (Nat.le_refl _)
  cases b with
  | false => exact flows_few p A c bs r w k hC hc hf
  | true =>
    cases hR : rightF p bs 256 with
    | false => exact flows_bad p A c bs r w k hC hc hf hR
    | true => exact flows_ok p A c bs r w k hC hc hf hR
end Go.Proofs.Ytnkgbnbbmcoiiaa.S
