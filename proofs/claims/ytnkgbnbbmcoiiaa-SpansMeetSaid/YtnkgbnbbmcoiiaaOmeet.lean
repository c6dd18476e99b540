import Derived.Test.YtnkgbnbbmcoiiaaLmost
import Derived.Test.YtnkgbnbbmcoiiaaOplc
import Derived.Test.YtnkgbnbbmcoiiaaOpw
namespace Go.Proofs.Ytnkgbnbbmcoiiaa.S
open Go.RowKit Go.IM Go.RelRegion Go.Proofs.YtnkgbnbbmcoiiaaW.PrintWords Go.Proofs.YtnkgbnbbmcoiiaaW.PrintLast Go.Proofs.YtnkgbnbbmcoiiaaW.PrintMore
set_option linter.unusedVariables false
set_option linter.unusedSimpArgs false
/-! ### swagelaw25.SpansMeet -/
theorem MaxOf.ex {P : Nat → Prop} : ∀ B, (∀ x, P x → x ≤ B) → ∃ m, MaxOf P m
  | 0, h => ⟨0, fun x hx => h x hx, .inl rfl⟩
  | B + 1, h => by
    by_cases e : P (B + 1)
    · exact ⟨B + 1, fun x hx => h x hx, .inr e⟩
    · exact MaxOf.ex B (fun x hx => by
        have := h x hx
        by_cases e2 : x = B + 1
        · subst e2; exact absurd hx e
        · omega)
/-- live.Most's answer. -/
theorem most_fix {p : Int} {bs : List S43} {fn : Int} (h : RightP p bs fn) : ∃ m, MaxOf (Sizes bs bs.length) m := MaxOf.ex 4096 (fun x hx => by
  obtain ⟨i, k, _, _, e⟩ := hx
  rw [e]
  exact liveRow_le h i k)
theorem most_at (p : Int) (A : Option Addr) (c : Nat) (bs : List S43) (w : World) (hC : Kd.C k43 w A bs.length bs) (hR : rightF p bs 256 = true) {m : Nat} (hm : MaxOf (Sizes bs bs.length) m) :
    Calls Try.prog 33 #[.agg #[.int .i64 p, .slice A bs.length c]] w fun e w' => e = .returned (.int .i64 (m : Int)) ∧ Below w.heap.size w w' := by
  refine (most_ok p A c bs w hC hR).mono ?_
  rintro e w' ⟨n, rfl, hn, hb⟩
  rw [hn.uniq hm]
  exact ⟨rfl, hb⟩
/-- What the loud of 'append([][]int{in[i]}, live.After(f, i)...)' tell. -/
def R18 (g0 : Tri) (L : List (List Int)) (k : Nat) (vs : List Value) (w' : World) : Prop :=
  if k = 4 then ∃ g, vs = [.slice (some ⟨g, 0, none⟩) 1 1] ∧ w'.heap[g]? = some (.cells #[slv g0] 28 (0, 0))
  else if k = 7 then ∃ A c gs, vs = [.slice A L.length c] ∧ (A = none → c = 0) ∧ ReadsOf slv zt w' A L.length gs ∧ Tells .i64 w' gs L else True
theorem R18.below {g0 : Tri} {L : List (List Int)} {k : Nat} {vs : List Value} {w' w2 : World} (h : R18 g0 L k vs w') (hb : Below w'.heap.size w' w2) : R18 g0 L k vs w2 := by
  unfold R18 at h ⊢
  split at h
  · rename_i h1
    rw [if_pos h1]
    obtain ⟨g, e, h⟩ := h
    exact ⟨g, e, blk_below h hb⟩
  · rename_i h1
    rw [if_neg h1]
    split at h
    · rename_i h2
      rw [if_pos h2]
      obtain ⟨A, c, gs, e, h0, h1, h2⟩ := h
      exact ⟨A, c, gs, e, h0, h1.below hb, h2.below hb⟩
    · rename_i h2
      rw [if_neg h2]
      trivial
theorem after_tri (p : Int) (A : Option Addr) (c : Nat) (bs : List S43) (x : Nat) (w : World) (hC : Kd.C k43 w A bs.length bs) (hR : rightF p bs 256 = true) (hx : x < bs.length) :
    Calls Try.prog 32 #[.agg #[.int .i64 p, .slice A bs.length c], .int .i64 (x : Int)] w fun e w' => ∃ A' c' gs, e = .returned (.slice A' (afterL bs x).length c') ∧ (A' = none → c' = 0) ∧ ReadsOf slv zt w' A' (afterL bs x).length gs ∧ Tells .i64 w' gs (afterL bs x) ∧ Below w.heap.size w w' := by
  refine (After_ok p A c bs x w hC hR hx).mono ?_
  rintro e w' ⟨v, rfl, hr, hb⟩
  obtain ⟨inner, ho⟩ := Kd.R_own hr
  obtain ⟨A2, c2, rfl, hk, hC2⟩ := Kd.R_reads hr
  obtain ⟨gs, h1, h2⟩ := C_tells hC2
  refine ⟨A2, c2, gs, rfl, ?_, h1, h2, hb⟩
  rintro rfl
  rcases ho.2 with ⟨e, _⟩ | ⟨g, cap, cur, e, _⟩
  · injection e
  · cases e
theorem rd_L1_zero (a : List Int) (l : List (List Int)) : rd_L1 (a :: l) ((0 : Nat) : Int) = a := rfl
theorem rd_L1_succ (a : List Int) (l : List (List Int)) (k : Nat) : rd_L1 (a :: l) ((k + 1 : Nat) : Int) = rd_L1 l (k : Int) := by
  unfold rd_L1
  rw [Int.toNat_natCast, Int.toNat_natCast]
  rfl
theorem rows_at {bs : List S43} {x k : Nat} (h : k ≤ opLen bs x) : rd_L1 (liveRow bs x 0 :: afterL bs x) (k : Int) = liveRow bs x k := by
  by_cases e : k = 0
  · subst e; exact rd_L1_zero _ _
  · obtain ⟨k', rfl⟩ : ∃ k', k = k' + 1 := ⟨k - 1, by omega⟩
    rw [rd_L1_succ]
    exact rd_afterL (bs := bs) (x := x) (k := k') (by omega)
set_option maxHeartbeats 8000000 in
set_option maxRecDepth 100000 in
theorem meet_few (p : Int) (A : Option Addr) (c : Nat) (bs : List S43) (w : World) (k : Nat) (hC : Kd.C k43 w A bs.length bs) (hc : bs.length ≤ c) (hf : swagelaw25_few.f k p bs = some false) :
    Calls Try.prog 6 #[.agg #[.int .i64 p, .slice A bs.length c]] w fun e w' => e = .returned (.bool true) ∧ Below w.heap.size w w' := by
  have hu34 := Try.underlying34
  have HF := Aside0.mk hf
  have HC := Aside0.mk hC
  have HCc := Aside0.mk hc
  have HB0 := Aside0.mk (below_alloc (Below.refl w.heap.size w) (.cells #[.int .i64 p, .slice A bs.length c] 34))
  have HF0 := Aside0.mk (blk_new w (.cells #[.int .i64 p, .slice A bs.length c] 34))
  clear hC hf hc
  go_enter Try.func6, Try.ntmps6
  go_wp2_with (first
    | (go_at_call 9; refine (small_walk _).mono ?_; rintro e w1 ⟨rfl, hb⟩; have HB1 := Aside0.mk (below_then HB0.out HB0.out.size hb); have HF1 := Aside0.mk (blk_below HF0.out hb); have c0 := blk_cell HF1.out 0; have c1 := blk_cell HF1.out 1; simp only [List.getElem?_toArray, List.getElem?_cons_zero, List.getElem?_cons_succ] at c0 c1; clear hb)
    | (go_at_call 17; refine (swagelaw25_few.calls k p A c bs false _ (Kd.C_below HC.out HB1.out) HCc.out HF.out).mono ?_; rintro e w2 ⟨rfl, hb⟩; have HB2 := Aside0.mk (below_then HB1.out HB1.out.size hb); have HF2 := Aside0.mk (blk_below HF1.out hb); clear c0 c1; have c0 := blk_cell HF2.out 0; have c1 := blk_cell HF2.out 1; simp only [List.getElem?_toArray, List.getElem?_cons_zero, List.getElem?_cons_succ] at c0 c1; clear hb))
  go_ret
  exact ⟨rfl, HB2.out⟩
set_option maxHeartbeats 8000000 in
set_option maxRecDepth 100000 in
theorem meet_bad (p : Int) (A : Option Addr) (c : Nat) (bs : List S43) (w : World) (k : Nat) (hC : Kd.C k43 w A bs.length bs) (hc : bs.length ≤ c) (hf : swagelaw25_few.f k p bs = some true) (hR : rightF p bs 256 = false) :
    Calls Try.prog 6 #[.agg #[.int .i64 p, .slice A bs.length c]] w fun e w' => e = .returned (.bool true) ∧ Below w.heap.size w w' := by
  have HR := Aside0.mk hR
  have hu34 := Try.underlying34
  have HF := Aside0.mk hf
  have HC := Aside0.mk hC
  have HCc := Aside0.mk hc
  have HB0 := Aside0.mk (below_alloc (Below.refl w.heap.size w) (.cells #[.int .i64 p, .slice A bs.length c] 34))
  have HF0 := Aside0.mk (blk_new w (.cells #[.int .i64 p, .slice A bs.length c] 34))
  clear hC hf hc hR
  go_enter Try.func6, Try.ntmps6
  go_wp2_with (first
    | (go_at_call 9; refine (small_walk _).mono ?_; rintro e w1 ⟨rfl, hb⟩; have HB1 := Aside0.mk (below_then HB0.out HB0.out.size hb); have HF1 := Aside0.mk (blk_below HF0.out hb); have c0 := blk_cell HF1.out 0; have c1 := blk_cell HF1.out 1; simp only [List.getElem?_toArray, List.getElem?_cons_zero, List.getElem?_cons_succ] at c0 c1; clear hb)
    | (go_at_call 17; refine (swagelaw25_few.calls k p A c bs true _ (Kd.C_below HC.out HB1.out) HCc.out HF.out).mono ?_; rintro e w2 ⟨rfl, hb⟩; have HB2 := Aside0.mk (below_then HB1.out HB1.out.size hb); have HF2 := Aside0.mk (blk_below HF1.out hb); clear c0 c1; have c0 := blk_cell HF2.out 0; have c1 := blk_cell HF2.out 1; simp only [List.getElem?_toArray, List.getElem?_cons_zero, List.getElem?_cons_succ] at c0 c1; clear hb)
    | (go_at_call 18; refine (right_any p A c bs 256 _ (Kd.C_below HC.out HB2.out)).mono ?_; rintro e w3 ⟨rfl, hb⟩; rw [HR.out]; have HB3 := Aside0.mk (below_then HB2.out HB2.out.size hb); have HF3 := Aside0.mk (blk_below HF2.out hb); clear c0 c1; have c0 := blk_cell HF3.out 0; have c1 := blk_cell HF3.out 1; simp only [List.getElem?_toArray, List.getElem?_cons_zero, List.getElem?_cons_succ] at c0 c1; clear hb))
  go_ret
  exact ⟨rfl, HB3.out⟩
set_option maxHeartbeats 16000000 in
set_option maxRecDepth 100000 in
theorem meet_ok (p : Int) (A : Option Addr) (c : Nat) (bs : List S43) (w : World) (k : Nat) (hC : Kd.C k43 w A bs.length bs) (hc : bs.length ≤ c) (hf : swagelaw25_few.f k p bs = some true) (hR : rightF p bs 256 = true) :
    Calls Try.prog 6 #[.agg #[.int .i64 p, .slice A bs.length c]] w fun e w' => e = .returned (.bool true) ∧ Below w.heap.size w w' := by
  have RP := Aside0.mk (rightF_iff hR)
  have HR := Aside0.mk hR
  have hu43 := Try.underlying43
  have hu26 := Try.underlying26
  have HLN : Aside0 ((numL bs).length = bs.length + 1) := ⟨numL_length bs⟩
  have HLI : Aside0 ((inL bs).length = bs.length) := ⟨inL_length bs⟩
  have hlen4 := RP.out.len.2
  have hw0 : wrap64 ((bs.length : Int) + 1) = (bs.length : Int) + 1 := (wr3 (z := 0) (by decide) (by omega)).2.2
  have hu34 := Try.underlying34
  have HF := Aside0.mk hf
  have HC := Aside0.mk hC
  have HCc := Aside0.mk hc
  have HB0 := Aside0.mk (below_alloc (Below.refl w.heap.size w) (.cells #[.int .i64 p, .slice A bs.length c] 34))
  have HF0 := Aside0.mk (blk_new w (.cells #[.int .i64 p, .slice A bs.length c] 34))
  clear hC hf hc hR
  go_enter Try.func6, Try.ntmps6
  go_wp2_with (first
    | (go_at_call 9; refine (small_walk _).mono ?_; rintro e w1 ⟨rfl, hb⟩; have HB1 := Aside0.mk (below_then HB0.out HB0.out.size hb); have HF1 := Aside0.mk (blk_below HF0.out hb); have c0 := blk_cell HF1.out 0; have c1 := blk_cell HF1.out 1; simp only [List.getElem?_toArray, List.getElem?_cons_zero, List.getElem?_cons_succ] at c0 c1; clear hb)
    | (go_at_call 17; refine (swagelaw25_few.calls k p A c bs true _ (Kd.C_below HC.out HB1.out) HCc.out HF.out).mono ?_; rintro e w2 ⟨rfl, hb⟩; have HB2 := Aside0.mk (below_then HB1.out HB1.out.size hb); have HF2 := Aside0.mk (blk_below HF1.out hb); clear c0 c1; have c0 := blk_cell HF2.out 0; have c1 := blk_cell HF2.out 1; simp only [List.getElem?_toArray, List.getElem?_cons_zero, List.getElem?_cons_succ] at c0 c1; clear hb)
    | (go_at_call 18; refine (right_any p A c bs 256 _ (Kd.C_below HC.out HB2.out)).mono ?_; rintro e w3 ⟨rfl, hb⟩; rw [HR.out]; have HB3 := Aside0.mk (below_then HB2.out HB2.out.size hb); have HF3 := Aside0.mk (blk_below HF2.out hb); clear c0 c1; have c0 := blk_cell HF3.out 0; have c1 := blk_cell HF3.out 1; simp only [List.getElem?_toArray, List.getElem?_cons_zero, List.getElem?_cons_succ] at c0 c1; clear hb)
    | (go_at_call 20; refine (of_ok p A c bs _ (Kd.C_below HC.out HB3.out) HCc.out HR.out).mono ?_; rintro e w4 ⟨vl, out, rfl, hr, hq, hb⟩; obtain ⟨Al, cl, rfl, kl, hCl⟩ := Kd.R_reads hr; have HQ := Aside0.mk hq; have HL4 := Aside0.mk hCl; have HKL := Aside0.mk kl; clear hr hq hCl kl; have HB4 := Aside0.mk (below_then HB3.out HB3.out.size hb); have HF4 := Aside0.mk (blk_below HF3.out hb); clear c0 c1; have c0 := blk_cell HF4.out 0; have c1 := blk_cell HF4.out 1; simp only [List.getElem?_toArray, List.getElem?_cons_zero, List.getElem?_cons_succ] at c0 c1; clear hb)
    | (go_at_call 19; refine (number_ok p A c bs _ (Kd.C_below HC.out HB4.out) HCc.out HR.out).mono ?_; rintro e w5 ⟨adn, cn, rfl, hcn, hb⟩; rw [HLN.out]; rw [HLN.out] at hcn; have HN5 := Aside0.mk hcn; have HL5 := Aside0.mk (Kd.C_below HL4.out hb); clear hcn; have HB5 := Aside0.mk (below_then HB4.out HB4.out.size hb); have HF5 := Aside0.mk (blk_below HF4.out hb); clear c0 c1; have c0 := blk_cell HF5.out 0; have c1 := blk_cell HF5.out 1; simp only [List.getElem?_toArray, List.getElem?_cons_zero, List.getElem?_cons_succ] at c0 c1; clear hb)
    | (go_at_call 27; refine (in_ok p A c bs _ (Kd.C_below HC.out HB5.out) HR.out).mono ?_; rintro e w6 ⟨vi, rfl, hr, hb⟩; obtain ⟨Ai, ci, rfl, ki, hCi⟩ := Kd.R_reads hr; rw [HLI.out]; rw [HLI.out] at hCi; have HI6 := Aside0.mk hCi; have HN6 := Aside0.mk (Kd.C_below HN5.out hb); have HL6 := Aside0.mk (Kd.C_below HL5.out hb); clear hr hCi ki; have HB6 := Aside0.mk (below_then HB5.out HB5.out.size hb); have HF6 := Aside0.mk (blk_below HF5.out hb); clear c0 c1; have c0 := blk_cell HF6.out 0; have c1 := blk_cell HF6.out 1; simp only [List.getElem?_toArray, List.getElem?_cons_zero, List.getElem?_cons_succ] at c0 c1; clear hb))
  clear c0 c1
  have HLL : Aside0 (out.length ≤ 4096) := ⟨ofq_len RP.out HQ.out⟩
  have HRI := Aside0.mk (List.pairwise_iff_getElem.1 HQ.out.rise)
  have HSI := Aside0.mk (fun (x : S26) hx => span_in HQ.out (x := x) hx)
  have hzn : (numL bs).length = bs.length + 1 := HLN.out
  clear hzn
  go_loopw [8] (fun i wr => ∃ q : Nat, q ≤ out.length ∧ i = .int .i64 (q : Int) ∧ Aside0 (Below w6.heap.size w6 wr)) (fun i _ => out.length - (intOf i).toNat)
  case atStart => exact ⟨0, Nat.zero_le _, rfl, ⟨Below.refl _ _⟩⟩
  case round =>
    obtain ⟨q, hq, rfl, HB⟩ := hrel
    by_cases hlq : q < out.length
    · have b3 : decide ((q : Int) < (out.length : Int)) = true := decide_eq_true (Int.ofNat_lt.2 hlq)
      have hw6 : wrap64 ((q : Int) + 1) = (q : Int) + 1 := (wr3 (z := 0) (by decide) (by have := HLL.out; omega)).2.2
      obtain ⟨adl, eL, k0, k1, k2⟩ := at_T26 (Kd.C_below HL6.out HB.out) (q : Int) (Int.natCast_nonneg q) (Int.ofNat_lt.2 hlq)
      simp only [Int.toNat_natCast] at k0 k1 k2
      subst eL
      obtain ⟨hs1, hs2, hs3⟩ := HSI.out _ (List.getElem_mem hlq)
      rw [← rd26s hlq] at hs1 hs2 hs3
      have c1 := blk_cell (blk_below HF6.out HB.out) 1
      simp only [List.getElem?_toArray, List.getElem?_cons_zero, List.getElem?_cons_succ] at c1
      have n0 := num_cell (Kd.C_below HN6.out HB.out) rfl (j := bs.length) (Nat.le_refl _)
      generalize pos bs bs.length = z0 at n0 hs3
      have b4 : decide ((rd_T26 out (q : Int)).f2 < (rd_T26 out (q : Int)).f1) = false := decide_eq_false (by omega)
      have b5 : decide ((rd_T26 out (q : Int)).f1 < 0) = false := decide_eq_false (by omega)
      have b6 : decide ((z0 : Int) < (rd_T26 out (q : Int)).f2) = false := decide_eq_false (by omega)
      by_cases hq0 : q = 0
      · have b7 : decide ((0 : Int) < (q : Int)) = false := decide_eq_false (by omega)
        have b7n : decide (0 < q) = false := decide_eq_false (by omega)
        generalize rd_T26 out (q : Int) = x at k0 k1 k2 b4 b5 b6
        clear hs1 hs2 hs3 hq0
        go_wp2_with fail
        refine wp_region_rel 51 (fun _ => none) (fun _ => []) (fun _ _ _ => True) (fun wq => Below wr.heap.size wr wq) (fun a b => Below a.heap.size a b) (by kernel_rfl) (by kernel_rfl) (below_drew (Below.refl _ _)) (fun a b h k => below_then h h.size k) (fun _ _ _ _ h _ => h) ?_
        simp only [List.take_succ_cons, List.take_zero, List.drop_succ_cons, List.drop_zero]
        iterate 51 (apply relQ_step rfl; apply Exists.intro; constructor; (focus (intro wq hwq; have k0 := pw_cell_below hwq k0; have k1 := pw_cell_below hwq k1; have k2 := pw_cell_below hwq k2; have c1 := pw_cell_below hwq c1; have n0 := pw_cell_below hwq n0; unfold Yl; go_wp2_with fail; exact ⟨rfl, _, rfl, rfl, Below.refl _ _⟩)); (try simp only [Act.put, List.setIfInBounds_toArray, List.set_cons_zero, List.set_cons_succ]))
        refine relQ_nil (fun xx => ?_)
        repeat (refine relL_quiet rfl ?_)
        refine relL_nil (fun w13 hw13 _ => ?_)
        have HB13 := Aside0.mk (below_then HB.out HB.out.size hw13)
        clear k0 k1 k2 c1 n0 hw13
        go_wp2_with fail
        go_roundw
        case rel => exact ⟨q + 1, hlq, by first | (rw [hw6]; exact num_cast q) | (with_reducible exact num_cast q), HB13⟩
        case measure => first | (rw [hw6]; exact num_meas hlq) | (with_reducible exact num_meas hlq)
      · obtain ⟨q1, hq1⟩ : ∃ q1 : Nat, q1 = q - 1 := ⟨_, rfl⟩
        have hw7 : wrap64 ((q : Int) - 1) = (q1 : Int) := by
          have := HLL.out
          unfold wrap64
          omega
        have b7 : decide ((0 : Int) < (q : Int)) = true := decide_eq_true (by omega)
        have b7n : decide (0 < q) = true := decide_eq_true (by omega)
        have hq1l : q1 < out.length := by omega
        obtain ⟨adl', eL, m0, m1, m2⟩ := at_T26 (Kd.C_below HL6.out HB.out) (q1 : Int) (Int.natCast_nonneg q1) (Int.ofNat_lt.2 hq1l)
        simp only [Int.toNat_natCast] at m0 m1 m2
        obtain rfl := Option.some.inj eL
        have hr := HRI.out q1 q (by simpa using hq1l) (by simpa using hlq) (by omega)
        rw [List.getElem_map, List.getElem_map, ← rd26s hq1l, ← rd26s hlq] at hr
        generalize rd_T26 out (q : Int) = x at k0 k1 k2 b4 b5 b6 hr hs1 hs2 hs3
        generalize rd_T26 out (q1 : Int) = y at m0 m1 m2 hr
        have b8 : decide (x.f0 ≤ y.f0) = false := decide_eq_false (by omega)
        clear hs1 hs2 hs3 hr m1 m2 eL hq1
        go_wp2_with fail
        refine wp_region_rel 51 (fun _ => none) (fun _ => []) (fun _ _ _ => True) (fun wq => Below wr.heap.size wr wq) (fun a b => Below a.heap.size a b) (by kernel_rfl) (by kernel_rfl) (below_drew (Below.refl _ _)) (fun a b h k => below_then h h.size k) (fun _ _ _ _ h _ => h) ?_
        simp only [List.take_succ_cons, List.take_zero, List.drop_succ_cons, List.drop_zero]
        iterate 51 (apply relQ_step rfl; apply Exists.intro; constructor; (focus (intro wq hwq; have k0 := pw_cell_below hwq k0; have k1 := pw_cell_below hwq k1; have k2 := pw_cell_below hwq k2; have c1 := pw_cell_below hwq c1; have n0 := pw_cell_below hwq n0; have m0 := pw_cell_below hwq m0; unfold Yl; go_wp2_with fail; exact ⟨rfl, _, rfl, rfl, Below.refl _ _⟩)); (try simp only [Act.put, List.setIfInBounds_toArray, List.set_cons_zero, List.set_cons_succ]))
        refine relQ_nil (fun xx => ?_)
        repeat (refine relL_quiet rfl ?_)
        refine relL_nil (fun w13 hw13 _ => ?_)
        have HB13 := Aside0.mk (below_then HB.out HB.out.size hw13)
        clear k0 k1 k2 c1 n0 m0 hw13
        go_wp2_with fail
        go_roundw
        case rel => exact ⟨q + 1, hlq, by first | (rw [hw6]; exact num_cast q) | (with_reducible exact num_cast q), HB13⟩
        case measure => first | (rw [hw6]; exact num_meas hlq) | (with_reducible exact num_meas hlq)
    · have b3 : decide ((q : Int) < (out.length : Int)) = false := decide_eq_false (fun h => hlq (Int.ofNat_lt.1 h))
      go_wp2_with fail
      clear hlq hq
      have HBo := HB
      clear HB
      go_loopw [9] (fun i wr => ∃ j : Nat, j ≤ bs.length ∧ i = .int .i64 (j : Int) ∧ Aside0 (Below w6.heap.size w6 wr)) (fun i _ => bs.length - (intOf i).toNat)
      case atStart => exact ⟨0, Nat.zero_le _, rfl, HBo⟩
      case round =>
        clear HBo
        obtain ⟨j, hj, rfl, HB⟩ := hrel
        have c0 := blk_cell (blk_below HF6.out HB.out) 0
        have c1 := blk_cell (blk_below HF6.out HB.out) 1
        simp only [List.getElem?_toArray, List.getElem?_cons_zero, List.getElem?_cons_succ] at c0 c1
        by_cases hlt : j < bs.length
        · have b1 : decide ((j : Int) < (bs.length : Int)) = true := decide_eq_true (Int.ofNat_lt.2 hlt)
          have hw1 : wrap64 ((j : Int) + 1) = (j : Int) + 1 := (wr3 (z := 0) (by decide) (by omega)).2.2
          obtain ⟨adi, A0, k0, eI, hi0, hi1, hi2⟩ := row_cell (Kd.C_below HI6.out HB.out) hlt (rd_inL hlt)
          subst eI
          have HL0 := Aside0.mk hi1
          have HC0 := Aside0.mk hi2
          have HRW := Aside0.mk (fun k (hk : k ≤ opLen bs j) => rows_at (bs := bs) (x := j) hk)
          have HCV := Aside0.mk (fun k (hk : k ≤ opLen bs j) r (hr : r ∈ liveRow bs j k) => cover RP.out HQ.out hlt hk ((mem_liveRow RP.out).1 hr))
          have HOL := Aside0.mk (RP.out.opLen_le j)
          have HAL : Aside0 ((afterL bs j).length = opLen bs j) := ⟨by rw [afterL, List.length_map, List.length_range]⟩
          have HZL := Aside0.mk (pos_le RP.out hj)
          have HN0 := Aside0.mk (num_cell (Kd.C_below HN6.out (Below.refl w6.heap.size w6)) rfl (j := j) hj)
          generalize pos bs j = z0 at HN0 HZL HCV
          have HAT := Aside0.mk (fun w' (hb : Below w.heap.size w w') => after_tri p A c bs j w' (Kd.C_below HC.out hb) HR.out hlt)
          generalize afterL bs j = L at HRW HAL HAT
          generalize hl0 : liveRow bs j 0 = l0 at hi0 HL0 HC0 HRW
          clear hi1 hi2 hl0
          have hL12 : 1 + L.length ≤ 1000000000000 := by have := HAL.out; have := HOL.out; omega
          go_wp2_with fail
          refine wp_region_rel 8 (fun k => if k = 4 then some [] else if k = 7 then some [] else none) (fun k => [k]) (R18 (A0, l0.length, k0) L) (fun w' => Below wr.heap.size wr w') (fun a b => Below a.heap.size a b) (by kernel_rfl) (by kernel_rfl) (below_drew (Below.refl _ _)) (fun a b h k => below_then h h.size k) (fun _ _ _ _ h hb => h.below hb) ?_
          simp only [List.take_succ_cons, List.take_zero, List.drop_succ_cons, List.drop_zero]
          iterate 8 (first | (refine relQ_loud rfl ?_) | (apply relQ_step rfl; apply Exists.intro; constructor; (focus (intro w' hw'; have c0 := pw_cell_below hw' c0; have c1 := pw_cell_below hw' c1; have hi0 := pw_cell_below hw' hi0; unfold Yl; go_wp2_with fail; exact ⟨rfl, _, rfl, rfl, Below.refl _ _⟩)); (try simp only [Act.put, List.setIfInBounds_toArray, List.set_cons_zero, List.set_cons_succ])))
          refine relQ_nil (fun xx => ?_)
          repeat (refine relL_quiet rfl ?_)
          refine relL_loud rfl (fun w' hw' _ => ?_) ?_
          · unfold Yl
            go_wp2_with fail
            refine ⟨rfl, _, rfl, below_alloc (Below.refl _ _) _, ?_⟩
            unfold R18
            rw [if_pos rfl]
            exact ⟨w'.heap.size, by simp, blk_new w' _⟩
          (try simp only [Act.put, List.setIfInBounds_toArray, List.set_cons_zero, List.set_cons_succ])
          repeat (refine relL_quiet rfl ?_)
          refine relL_loud rfl (fun w' hw' _ => ?_) ?_
          · unfold Yl
            go_wp2_with (go_at_call 32; refine (HAT.out _ (below_then HB6.out HB6.out.size (below_then HB.out HB.out.size hw'))).mono ?_; rintro e w7 ⟨A7, c7, gs, rfl, hn7, hr7, ht7, hb⟩)
            refine ⟨rfl, _, rfl, hb, ?_⟩
            unfold R18
            rw [if_neg (by decide), if_pos rfl]
            exact ⟨A7, c7, gs, by simp, hn7, hr7, ht7⟩
          (try simp only [Act.put, List.setIfInBounds_toArray, List.set_cons_zero, List.set_cons_succ])
          refine relL_nil (fun w2 hw2 hRR => ?_)
          have r4 := hRR 4 (by decide) rfl
          have r7 := hRR 7 (by decide) rfl
          unfold R18 at r4 r7
          rw [if_pos rfl] at r4
          rw [if_neg (by decide), if_pos rfl] at r7
          obtain ⟨g, e4, hg4⟩ := r4
          obtain ⟨A7, c7, gs, e7, hn7, hr7, ht7⟩ := r7
          have e4 : xx 4 = .slice (some ⟨g, 0, none⟩) 1 1 := by simpa using e4
          have e7 : xx 7 = .slice A7 L.length c7 := by simpa using e7
          rw [e4, e7]
          have HB2 := Aside0.mk (below_then HB.out HB.out.size hw2)
          have HC02 := Aside0.mk (Kd.C_below HC0.out hw2)
          clear hRR e4 e7 hw2 c0 c1 hi0
          go_wp2_with (at_builtin; refine append_slices _ rfl _ _ 50 28 rfl Try.underlying50 info28 g 1 [(A0, l0.length, k0)] gs rfl hg4 rfl A7 L.length c7 rfl hn7 hr7 hL12 ?_; intro A8 c8 w8 hle8 hr8 hb8; have HC8 := Aside0.mk (tells_C (e := 3) hr8 (((Tells.one HC02.out HL0.out).append ht7).below hb8)); have HB8 := Aside0.mk (below_then HB2.out HB2.out.size hb8); clear hle8 hr8 hb8)
          clear hg4 hn7 hr7 ht7 hL12 b1
          obtain ⟨N, hN⟩ : ∃ N, 1 + L.length = N := ⟨_, rfl⟩
          rw [hN] at HC8 ⊢
          have HNO : Aside0 (N = opLen bs j + 1) := ⟨by rw [← hN, HAL.out]; omega⟩
          clear hN
          go_loopw [11] (fun i wr => ∃ k : Nat, k ≤ N ∧ i = .int .i64 (k : Int) ∧ Aside0 (Below w8.heap.size w8 wr)) (fun i _ => N - (intOf i).toNat)
          case atStart => exact ⟨0, Nat.zero_le _, rfl, ⟨Below.refl _ _⟩⟩
          case round =>
            clear HB
            obtain ⟨k, hk, rfl, HB⟩ := hrel
            by_cases hlk : k < N
            · have b2 : decide ((k : Int) < (N : Int)) = true := decide_eq_true (Int.ofNat_lt.2 hlk)
              have hkO : k ≤ opLen bs j := by have := HNO.out; omega
              have hw2 : wrap64 ((k : Int) + 1) = (k : Int) + 1 := (wr3 (z := 0) (by decide) (by have := HOL.out; omega)).2.2
              have HWZ := Aside0.mk (wr3 HZL.out (Nat.le_trans hkO HOL.out)).1
              obtain ⟨adr, Ak, ck, eR, hk0, hk1, hk2⟩ := row_cell HC8.out hlk (HRW.out k hkO)
              subst eR
              have HK0 := Aside0.mk hk0
              have HK2 := Aside0.mk hk2
              have HCK := Aside0.mk (HCV.out k hkO)
              generalize liveRow bs j k = l at HK0 HK2 HCK
              clear hk0 hk1 hk2 hkO
              go_wp2_with fail
              clear b2
              have HBk := HB
              clear HB
              go_loopw [12] (fun i wr => ∃ q : Nat, q ≤ l.length ∧ i = .int .i64 (q : Int) ∧ Aside0 (Below w8.heap.size w8 wr)) (fun i _ => l.length - (intOf i).toNat)
              case atStart => exact ⟨0, Nat.zero_le _, rfl, HBk⟩
              case round =>
                clear HBk
                obtain ⟨q, hq, rfl, HB⟩ := hrel
                have k0 := pw_cell_below HB.out HK0.out
                have hkN : k < N := hlk
                by_cases hlq : q < l.length
                · have b3 : decide ((q : Int) < (l.length : Int)) = true := decide_eq_true (Int.ofNat_lt.2 hlq)
                  have hw6 : wrap64 ((q : Int) + 1) = (q : Int) + 1 := inc63 hlq HK2.out.2.1
                  obtain ⟨adq, eQ, hcq⟩ := Kd.at_int (Kd.C_below HK2.out HB.out) (q : Int) (Int.natCast_nonneg q) (Int.ofNat_lt.2 hlq)
                  rw [Int.toNat_natCast] at hcq
                  subst eQ
                  obtain ⟨s1, s2, hsp, hs1, hs2⟩ := HCK.out (rd l (q : Int)) (by rw [rd_mem hlq]; exact List.getElem_mem _)
                  generalize rd l (q : Int) = r at hcq hsp
                  have HSP := Aside0.mk hsp
                  have b4 : decide ((z0 : Int) + (k : Int) < s1) = false := decide_eq_false (by omega)
                  have b5 : decide (s2 < (z0 : Int) + (k : Int)) = false := decide_eq_false (by omega)
                  have hw3 := HWZ.out
                  have HBq := Aside0.mk (below_then HB8.out HB8.out.size HB.out)
                  clear hsp hs1 hs2
                  go_wp2_with (go_at_call 22; refine (span_any Al cl out r s1 s2 _ (Kd.C_below HL6.out HBq.out) HKL.out HLL.out HSP.out).mono ?_; rintro e w9 ⟨rfl, hb⟩; have hbA := below_alloc (Below.refl w9.heap.size w9) (.cells #[.int .i64 r, .int .i64 s1, .int .i64 s2] 26); have HB9 := Aside0.mk (below_then HB.out HB.out.size (below_then hb hb.size hbA)); have HXS := Aside0.mk (blk_new w9 (.cells #[.int .i64 r, .int .i64 s1, .int .i64 s2] 26)); clear hb hbA)
                  obtain ⟨W, hW⟩ : ∃ W, w9.alloc (.cells #[.int .i64 r, .int .i64 s1, .int .i64 s2] 26) = W := ⟨_, rfl⟩
                  rw [hW] at HB9 HXS ⊢
                  clear hW hcq k0
                  generalize w9.heap.size = g2 at HXS ⊢
                  have t1 := blk_cell HXS.out 1
                  have t2 := blk_cell HXS.out 2
                  simp only [List.getElem?_toArray, List.getElem?_cons_zero, List.getElem?_cons_succ] at t1 t2
                  have n0 := pw_cell_below (below_then HB8.out HB8.out.size HB9.out) HN0.out
                  have hnj : j < bs.length + 1 := Nat.lt_succ_of_lt hlt
                  refine wp_region_rel 24 (fun _ => none) (fun _ => []) (fun _ _ _ => True) (fun wq => Below W.heap.size W wq) (fun a b => Below a.heap.size a b) (by kernel_rfl) (by kernel_rfl) (below_drew (Below.refl _ _)) (fun a b h k => below_then h h.size k) (fun _ _ _ _ h _ => h) ?_
                  simp only [List.take_succ_cons, List.take_zero, List.drop_succ_cons, List.drop_zero]
                  iterate 24 (apply relQ_step rfl; apply Exists.intro; constructor; (focus (intro wq hwq; have t1 := pw_cell_below hwq t1; have t2 := pw_cell_below hwq t2; have n0 := pw_cell_below hwq n0; unfold Yl; go_wp2_with fail; exact ⟨rfl, _, rfl, rfl, Below.refl _ _⟩)); (try simp only [Act.put, List.setIfInBounds_toArray, List.set_cons_zero, List.set_cons_succ]))
                  refine relQ_nil (fun xx => ?_)
                  repeat (refine relL_quiet rfl ?_)
                  refine relL_nil (fun w13 hw13 _ => ?_)
                  have HB13 := Aside0.mk (below_then HB9.out HB9.out.size hw13)
                  clear t1 t2 n0 hw13
                  go_wp2_with fail
                  go_roundw
                  case rel => exact ⟨q + 1, hlq, by first | (rw [hw6]; exact num_cast q) | (with_reducible exact num_cast q), HB13⟩
                  case measure => first | (rw [hw6]; exact num_meas hlq) | (with_reducible exact num_meas hlq)
                · have b3 : decide ((q : Int) < (l.length : Int)) = false := decide_eq_false (fun h => hlq (Int.ofNat_lt.1 h))
                  go_wp2_with fail
                  go_roundw
                  case rel => exact ⟨k + 1, hlk, by first | (rw [hw2]; exact num_cast k) | (with_reducible exact num_cast k), HB⟩
                  case measure => first | (rw [hw2]; exact num_meas hlk) | (with_reducible exact num_meas hlk)
            · have b2 : decide ((k : Int) < (N : Int)) = false := decide_eq_false (fun h => hlk (Int.ofNat_lt.1 h))
              go_wp2_with fail
              go_roundw
              case rel => exact ⟨j + 1, hlt, by first | (rw [hw1]; exact num_cast j) | (with_reducible exact num_cast j), ⟨below_then HB8.out HB8.out.size HB.out⟩⟩
              case measure => first | (rw [hw1]; exact num_meas hlt) | (with_reducible exact num_meas hlt)
        · have b1 : decide ((j : Int) < (bs.length : Int)) = false := decide_eq_false (fun h => hlt (Int.ofNat_lt.1 h))
          obtain ⟨m, hm⟩ := most_fix RP.out
          obtain ⟨km, v, hv, hv0, hvq⟩ := most_ge out HLL.out
          have hge := meet_most RP.out HQ.out hv0 hvq hm
          have b6 : decide ((m : Int) ≤ v) = true := decide_eq_true hge
          have HM := Aside0.mk hm
          have HV := Aside0.mk hv
          clear hm hv hv0 hvq
          have hbw := HB
          go_wp2_with fail
          refine wp_region_rel 9 (fun _ => none) (fun _ => []) (fun _ _ _ => True) (fun wq => Below wr.heap.size wr wq) (fun a b => Below a.heap.size a b) (by kernel_rfl) (by kernel_rfl) (below_drew (Below.refl _ _)) (fun a b h k => below_then h h.size k) (fun _ _ _ _ h _ => h) ?_
          simp only [List.take_succ_cons, List.take_zero, List.drop_succ_cons, List.drop_zero]
          iterate 9 (apply relQ_step rfl; apply Exists.intro; constructor; (focus (intro wq hwq; have c0 := pw_cell_below hwq c0; have c1 := pw_cell_below hwq c1; unfold Yl; go_wp2_with (first | (go_at_call 15; refine (spans_Most.calls km Al cl out v _ (Kd.C_below HL6.out (below_then HB.out HB.out.size hwq)) HKL.out HV.out).mono ?_; rintro e w9 ⟨rfl, hbq⟩) | (go_at_call 33; refine (most_at p A c bs _ (Kd.C_below HC.out (below_then HB6.out HB6.out.size (below_then HB.out HB.out.size hwq))) HR.out HM.out).mono ?_; rintro e w9 ⟨rfl, hbq⟩)); first | exact ⟨rfl, _, rfl, rfl, Below.refl _ _⟩ | exact ⟨rfl, _, rfl, rfl, hbq⟩)); (try simp only [Act.put, List.setIfInBounds_toArray, List.set_cons_zero, List.set_cons_succ]))
          refine relQ_nil (fun xx => ?_)
          repeat (refine relL_quiet rfl ?_)
          refine relL_nil (fun w13 hw13 _ => ?_)
          go_wp2_with fail
          go_ret
          exact ⟨rfl, below_then HB6.out HB6.out.size (below_then HB.out HB.out.size hw13)⟩
theorem spansMeet_true (p : Int) (A : Option Addr) (c : Nat) (bs : List S43) (w : World) (hC : Kd.C k43 w A bs.length bs) (hc : bs.length ≤ c) (hr : Room bs) :
    Calls Try.prog 6 #[.agg #[.int .i64 p, .slice A bs.length c]] w fun e w' => e = .returned (.bool true) ∧ Below w.heap.size w w' := by
  obtain ⟨k, b, hf⟩ := few25_total p bs hr
  have hf := hf k (Nat.le_refl _)
  cases b with
  | false => exact meet_few p A c bs w k hC hc hf
  | true =>
    cases hR : rightF p bs 256 with
    | false => exact meet_bad p A c bs w k hC hc hf hR
    | true => exact meet_ok p A c bs w k hC hc hf hR
end Go.Proofs.Ytnkgbnbbmcoiiaa.S
