import Derived.Test.YtnkgbnbbmcoiiaaLregs
import Derived.Test.YtnkgbnbbmcoiiaaOsmall
import Derived.Test.YtnkgbnbbmcoiiaaS6
namespace Go.Proofs.Ytnkgbnbbmcoiiaa.S
open Go.RowKit Go.IM Go.RelRegion Go.Proofs.YtnkgbnbbmcoiiaaW.PrintWords Go.Proofs.YtnkgbnbbmcoiiaaW.PrintLast Go.Proofs.YtnkgbnbbmcoiiaaW.PrintMore
set_option linter.unusedVariables false
set_option linter.unusedSimpArgs false
/-! ### swagelaw25.SpansPlaces -/
def RiseTo (l : List Int) (z : Int) : Prop := l.Pairwise (· < ·) ∧ ∀ x ∈ l, x < z
theorem RiseTo.snoc {l : List Int} {z : Int} (h : RiseTo l z) : RiseTo (l ++ [z]) (z + 1) := by
  refine ⟨List.pairwise_append.2 ⟨h.1, List.pairwise_singleton _ _, fun a ha b hb => ?_⟩, fun x hx => ?_⟩
  · rw [List.mem_singleton] at hb
    subst hb
    exact h.2 a ha
  · rcases List.mem_append.1 hx with hx | hx
    · have := h.2 x hx; omega
    · rw [List.mem_singleton] at hx; omega
theorem callsP_row (bs : List S43) (j : Nat) (h : RiseTo (callsP bs (plcs bs j)) (pos bs j : Int)) : ∀ k, RiseTo (callsP bs (plcs bs j ++ rowP j k)) ((pos bs j : Int) + (k : Int))
  | 0 => by rw [rowP_zero, List.append_nil]; exact ⟨h.1, fun x hx => by have := h.2 x hx; omega⟩
  | k + 1 => by
    have ih := callsP_row bs j h k
    rw [rowP_succ, ← List.append_assoc, callsP_snoc]
    by_cases e : (opOf bs (j, k)).f0 = 7
    · rw [if_pos e]
      have := ih.snoc
      rw [Int.natCast_succ, ← Int.add_assoc]
      exact this
    · rw [if_neg e]
      exact ⟨ih.1, fun x hx => by have := ih.2 x hx; omega⟩
theorem callsP_riseTo (bs : List S43) : ∀ n, RiseTo (callsP bs (plcs bs n)) (pos bs n : Int)
  | 0 => by simp [RiseTo, callsP, plcs]
  | n + 1 => by
    have h := callsP_row bs n (callsP_riseTo bs n) (opLen bs n)
    rw [plcs_succ, pos_succ]
    exact ⟨h.1, fun x hx => by have := h.2 x hx; omega⟩
theorem callsP_rise (bs : List S43) (n : Nat) : (callsP bs (plcs bs n)).Pairwise (· < ·) := (callsP_riseTo bs n).1
theorem inc63 {j n : Nat} (h : j < n) (hn : n ≤ 9223372036854775807) : wrap64 ((j : Int) + 1) = (j : Int) + 1 := by
  unfold wrap64
  omega
theorem num_first {w : World} {bs : List S43} {adn : Addr} {n : Nat} (h : Kd.C (Kd.int .i64) w (some adn) n (numL bs)) (hn : n = bs.length + 1) : w.cell? adn = some (.int .i64 0) := by
  have := num_cell h hn (j := 0) (Nat.zero_le _)
  rw [pos_zero] at this
  simpa [Addr.add] using this
theorem calls_ok2 (p : Int) (A : Option Addr) (c : Nat) (bs : List S43) (w : World) (hC : Kd.C k43 w A bs.length bs) (hc : bs.length ≤ c) (hR : rightF p bs 256 = true) :
    Calls Try.prog 24 #[.agg #[.int .i64 p, .slice A bs.length c]] w fun e w' => ∃ Ac cc, e = .returned (.slice Ac (callsP bs (plcs bs bs.length)).length cc) ∧ Kd.C (Kd.int .i64) w' Ac (callsP bs (plcs bs bs.length)).length (callsP bs (plcs bs bs.length)) ∧ Below w.heap.size w w' := by
  refine (calls_ok p A c bs w hC hc hR).mono ?_
  rintro e w' ⟨v, rfl, ho, hb⟩
  have hr : Kd.R (Kd.int .i64) 3 w' w.heap.size (fun _ => True) v (callsP bs (plcs bs bs.length)) := Kd.R_of_own ho (fun _ _ => trivial)
  obtain ⟨Ac, cc, rfl, _, hCc⟩ := Kd.R_reads hr
  exact ⟨Ac, cc, rfl, hCc, hb⟩
theorem span_any (A : Option Addr) (c : Nat) (l : List S26) (r : Int) (a b : Int) (w : World) (hC : Kd.C k26 w A l.length l) (hc : l.length ≤ c) (hl : l.length ≤ 4096) (h : spanF l r = (r, a, b, true)) :
    Calls Try.prog 22 #[.slice A l.length c, .int .i64 r] w fun e w' => e = .returned (.tuple #[.agg #[.int .i64 r, .int .i64 a, .int .i64 b], .bool true]) ∧ Below w.heap.size w w' :=
  swagelaw25_span.calls (l.length + 1) A c l r r a b true w hC hc ((span_f l r hl).trans (by rw [h]))
theorem span_zero (A : Option Addr) (c : Nat) (l : List S26) (r : Int) (w : World) (hC : Kd.C k26 w A l.length l) (hc : l.length ≤ c) (hl : l.length ≤ 4096) :
    Calls Try.prog 22 #[.slice A l.length c, .int .i64 r] w fun e w' => ∃ x a b t, e = .returned (.tuple #[.agg #[.int .i64 x, .int .i64 a, .int .i64 b], .bool t]) ∧ Below w.heap.size w w' := by
  refine (swagelaw25_span.calls (l.length + 1) A c l r (spanF l r).1 (spanF l r).2.1 (spanF l r).2.2.1 (spanF l r).2.2.2 w hC hc ((span_f l r hl).trans rfl)).mono ?_
  rintro e w' ⟨h, hb⟩
  exact ⟨_, _, _, _, h, hb⟩
theorem ofq_len {p : Int} {bs : List S43} (h : RightP p bs 256) {out : List S26} (hq : OfQ (Pts p bs bs.length) out) : out.length ≤ 4096 := by
  have hn : (out.map (·.f0)).Nodup := hq.rise.imp (fun h => by omega)
  have := Lv.regs_le hn (fun r hr => by
    obtain ⟨x, hx, rfl⟩ := List.mem_map.1 hr
    have hs := hq.span x hx
    exact pts_reg h (Nat.le_refl _) hs.1)
  simpa using this
set_option maxHeartbeats 8000000 in
set_option maxRecDepth 100000 in
theorem places_few (p : Int) (A : Option Addr) (c : Nat) (bs : List S43) (w : World) (k : Nat) (hC : Kd.C k43 w A bs.length bs) (hc : bs.length ≤ c) (hf : swagelaw25_few.f k p bs = some false) :
    Calls Try.prog 4 #[.agg #[.int .i64 p, .slice A bs.length c]] w fun e w' => e = .returned (.bool true) ∧ Below w.heap.size w w' := by
  have hu34 := Try.underlying34
  have HF := Aside0.mk hf
  have HC := Aside0.mk hC
  have HCc := Aside0.mk hc
  have HB0 := Aside0.mk (below_alloc (Below.refl w.heap.size w) (.cells #[.int .i64 p, .slice A bs.length c] 34))
  have HF0 := Aside0.mk (blk_new w (.cells #[.int .i64 p, .slice A bs.length c] 34))
  clear hC hf hc
  go_enter Try.func4, Try.ntmps4
  go_wp2_with (first
    | (go_at_call 9; refine (small_walk _).mono ?_; rintro e w1 ⟨rfl, hb⟩; have HB1 := Aside0.mk (below_then HB0.out HB0.out.size hb); have HF1 := Aside0.mk (blk_below HF0.out hb); have c0 := blk_cell HF1.out 0; have c1 := blk_cell HF1.out 1; simp only [List.getElem?_toArray, List.getElem?_cons_zero, List.getElem?_cons_succ] at c0 c1; clear hb)
    | (go_at_call 17; refine (swagelaw25_few.calls k p A c bs false _ (Kd.C_below HC.out HB1.out) HCc.out HF.out).mono ?_; rintro e w2 ⟨rfl, hb⟩; have HB2 := Aside0.mk (below_then HB1.out HB1.out.size hb); clear hb c0 c1))
  go_ret
  exact ⟨rfl, HB2.out⟩
set_option maxHeartbeats 8000000 in
set_option maxRecDepth 100000 in
theorem places_bad (p : Int) (A : Option Addr) (c : Nat) (bs : List S43) (w : World) (k : Nat) (hC : Kd.C k43 w A bs.length bs) (hc : bs.length ≤ c) (hf : swagelaw25_few.f k p bs = some true) (hR : rightF p bs 256 = false) :
    Calls Try.prog 4 #[.agg #[.int .i64 p, .slice A bs.length c]] w fun e w' => e = .returned (.bool true) ∧ Below w.heap.size w w' := by
  have hu34 := Try.underlying34
  have HF := Aside0.mk hf
  have HR := Aside0.mk hR
  have HC := Aside0.mk hC
  have HCc := Aside0.mk hc
  have HB0 := Aside0.mk (below_alloc (Below.refl w.heap.size w) (.cells #[.int .i64 p, .slice A bs.length c] 34))
  have HF0 := Aside0.mk (blk_new w (.cells #[.int .i64 p, .slice A bs.length c] 34))
  clear hC hf hc hR
  go_enter Try.func4, Try.ntmps4
  go_wp2_with (first
    | (go_at_call 9; refine (small_walk _).mono ?_; rintro e w1 ⟨rfl, hb⟩; have HB1 := Aside0.mk (below_then HB0.out HB0.out.size hb); have HF1 := Aside0.mk (blk_below HF0.out hb); have c0 := blk_cell HF1.out 0; have c1 := blk_cell HF1.out 1; simp only [List.getElem?_toArray, List.getElem?_cons_zero, List.getElem?_cons_succ] at c0 c1; clear hb)
    | (go_at_call 17; refine (swagelaw25_few.calls k p A c bs true _ (Kd.C_below HC.out HB1.out) HCc.out HF.out).mono ?_; rintro e w2 ⟨rfl, hb⟩; have HB2 := Aside0.mk (below_then HB1.out HB1.out.size hb); have HF2 := Aside0.mk (blk_below HF1.out hb); clear c0 c1; have c0 := blk_cell HF2.out 0; have c1 := blk_cell HF2.out 1; simp only [List.getElem?_toArray, List.getElem?_cons_zero, List.getElem?_cons_succ] at c0 c1; clear hb)
    | (go_at_call 18; refine (right_any p A c bs 256 _ (Kd.C_below HC.out HB2.out)).mono ?_; rintro e w3 ⟨rfl, hb⟩; rw [HR.out]; have HB3 := Aside0.mk (below_then HB2.out HB2.out.size hb); clear hb c0 c1))
  go_ret
  exact ⟨rfl, HB3.out⟩
set_option maxHeartbeats 16000000 in
set_option maxRecDepth 100000 in
theorem places_ok (p : Int) (A : Option Addr) (c : Nat) (bs : List S43) (w : World) (k : Nat) (hC : Kd.C k43 w A bs.length bs) (hc : bs.length ≤ c) (hf : swagelaw25_few.f k p bs = some true) (hR : rightF p bs 256 = true) :
    Calls Try.prog 4 #[.agg #[.int .i64 p, .slice A bs.length c]] w fun e w' => e = .returned (.bool true) ∧ Below w.heap.size w w' := by
  have hu34 := Try.underlying34
  have hu43 := Try.underlying43
  have hu45 := Try.underlying45
  have hu26 := Try.underlying26
  have RP := Aside0.mk (rightF_iff hR)
  have HF := Aside0.mk hf
  have HR := Aside0.mk hR
  have HC := Aside0.mk hC
  have HCc := Aside0.mk hc
  have HB0 := Aside0.mk (below_alloc (Below.refl w.heap.size w) (.cells #[.int .i64 p, .slice A bs.length c] 34))
  have HF0 := Aside0.mk (blk_new w (.cells #[.int .i64 p, .slice A bs.length c] 34))
  have HLN : Aside0 ((numL bs).length = bs.length + 1) := ⟨numL_length bs⟩
  have hlen4 := RP.out.len.2
  have hw0 : wrap64 ((bs.length : Int) + 1) = (bs.length : Int) + 1 := (wr3 (z := 0) (by decide) (by omega)).2.2
  clear hC hf hc hR
  go_enter Try.func4, Try.ntmps4
  go_wp2_with (first
    | (go_at_call 9; refine (small_walk _).mono ?_; rintro e w1 ⟨rfl, hb⟩; have HB1 := Aside0.mk (below_then HB0.out HB0.out.size hb); have HF1 := Aside0.mk (blk_below HF0.out hb); have c0 := blk_cell HF1.out 0; have c1 := blk_cell HF1.out 1; simp only [List.getElem?_toArray, List.getElem?_cons_zero, List.getElem?_cons_succ] at c0 c1; clear hb)
    | (go_at_call 17; refine (swagelaw25_few.calls k p A c bs true _ (Kd.C_below HC.out HB1.out) HCc.out HF.out).mono ?_; rintro e w2 ⟨rfl, hb⟩; have HB2 := Aside0.mk (below_then HB1.out HB1.out.size hb); have HF2 := Aside0.mk (blk_below HF1.out hb); clear c0 c1; have c0 := blk_cell HF2.out 0; have c1 := blk_cell HF2.out 1; simp only [List.getElem?_toArray, List.getElem?_cons_zero, List.getElem?_cons_succ] at c0 c1; clear hb)
    | (go_at_call 18; refine (right_any p A c bs 256 _ (Kd.C_below HC.out HB2.out)).mono ?_; rintro e w3 ⟨rfl, hb⟩; rw [HR.out]; have HB3 := Aside0.mk (below_then HB2.out HB2.out.size hb); have HF3 := Aside0.mk (blk_below HF2.out hb); clear c0 c1; have c0 := blk_cell HF3.out 0; have c1 := blk_cell HF3.out 1; simp only [List.getElem?_toArray, List.getElem?_cons_zero, List.getElem?_cons_succ] at c0 c1; clear hb)
    | (go_at_call 19; refine (number_ok p A c bs _ (Kd.C_below HC.out HB3.out) HCc.out HR.out).mono ?_; rintro e w4 ⟨adn, cn, rfl, hcn, hb⟩; have HN4 := Aside0.mk hcn; have HB4 := Aside0.mk (below_then HB3.out HB3.out.size hb); have HF4 := Aside0.mk (blk_below HF3.out hb); clear c0 c1; have c0 := blk_cell HF4.out 0; have c1 := blk_cell HF4.out 1; simp only [List.getElem?_toArray, List.getElem?_cons_zero, List.getElem?_cons_succ] at c0 c1; clear hb hcn)
    | (go_at_call 20; refine (of_ok p A c bs _ (Kd.C_below HC.out HB4.out) HCc.out HR.out).mono ?_; rintro e w5 ⟨vl, out, rfl, hr, hq, hb⟩; obtain ⟨Al, cl, rfl, kl, hCl⟩ := Kd.R_reads hr; have HQ := Aside0.mk hq; have HL5 := Aside0.mk hCl; have HKL := Aside0.mk kl; have HB5 := Aside0.mk (below_then HB4.out HB4.out.size hb); have HF5 := Aside0.mk (blk_below HF4.out hb); have HN5 := Aside0.mk (Kd.C_below HN4.out hb); clear c0 c1; have c0 := blk_cell HF5.out 0; have c1 := blk_cell HF5.out 1; simp only [List.getElem?_toArray, List.getElem?_cons_zero, List.getElem?_cons_succ] at c0 c1; have n0 := num_first HN5.out HLN.out; rw [HLN.out]; clear hb hr hq hCl kl))
  clear c0 n0 c1
  have HOL0 := Aside0.mk (fun r q h => OfQ.spanF (r := r) (q := q) HQ.out h)
  have HLL : Aside0 (out.length ≤ 4096) := ⟨ofq_len RP.out HQ.out⟩
  go_loopw [7, 8] (fun cv i wr => ∃ j : Nat, j ≤ bs.length ∧ i = .int .i64 (j : Int) ∧ cv = .int .i64 ((callsP bs (plcs bs j)).length : Int) ∧ Aside0 (Below w5.heap.size w5 wr)) (fun _ i _ => bs.length - (intOf i).toNat)
  case atStart => exact ⟨0, Nat.zero_le _, rfl, rfl, ⟨Below.refl _ _⟩⟩
  case round =>
    obtain ⟨j, hj, rfl, rfl, HB⟩ := hrel
    have c1 := blk_cell (blk_below HF5.out HB.out) 1
    simp only [List.getElem?_toArray, List.getElem?_cons_zero, List.getElem?_cons_succ] at c1
    by_cases hlt : j < bs.length
    · have b1 : decide ((j : Int) < (bs.length : Int)) = true := decide_eq_true (Int.ofNat_lt.2 hlt)
      have hw1 : wrap64 ((j : Int) + 1) = (j : Int) + 1 := (wr3 (z := 0) (by decide) (by omega)).2.2
      have hn0 : j < bs.length + 1 := by omega
      have hn1 : j + 1 < bs.length + 1 := by omega
      obtain ⟨ad, A5, c5, eA, h0, h1, h2, h3, h4, l5, g5⟩ := at_T43 HC.out (j : Int) (Int.natCast_nonneg j) (Int.ofNat_lt.2 hlt)
      simp only [Int.toNat_natCast] at h0 h1 h2 h3 h4
      clear h1 h2 h3 h4
      subst eA
      have HG5 := Aside0.mk g5
      have HH0 := Aside0.mk h0
      have hN0 := num_cell (Kd.C_below HN5.out HB.out) HLN.out (j := j) hj
      have hN1 := num_cell (Kd.C_below HN5.out HB.out) HLN.out (j := j + 1) hlt
      have HOL : Aside0 (opLen bs j = (rd_T43 bs (j : Int)).f0.length) := ⟨rfl⟩
      have HOP : Aside0 (∀ k : Nat, opOf bs (j, k) = rd_T45 (rd_T43 bs (j : Int)).f0 (k : Int)) := ⟨fun k => rfl⟩
      have HXL : Aside0 ((rd_T43 bs (j : Int)).f0.length ≤ 16384) := ⟨RP.out.opLen_le j⟩
      have HZL := Aside0.mk (pos_le RP.out hj)
      have hps := num_step (pos_succ bs j) (pos_le RP.out hlt)
      have HPL : Aside0 (∀ k, k ≤ opLen bs j → (callsP bs (plcs bs j ++ rowP j k)).length ≤ 16384) := ⟨fun k hk => Nat.le_trans (callsP_len _ _) (part_le RP.out hlt hk)⟩
      have HST := Aside0.mk (fun k : Nat => callsP_snoc bs (plcs bs j ++ rowP j k) j k)
      have hPU : ∀ k, k < opLen bs j → ∀ r ∈ useX (opOf bs (j, k)), Pts p bs bs.length r ((pos bs j : Int) + (k : Int)) := fun k hk r hr => .inr ⟨j, hlt, .inr (.inr (.inr ⟨k, hk, .inl ⟨hr, rfl⟩⟩))⟩
      have hPS : ∀ k, k < opLen bs j → setX (opOf bs (j, k)) ≠ 0 → Pts p bs bs.length (setX (opOf bs (j, k))) ((pos bs j : Int) + (k : Int) + 1) := fun k hk hr => .inr ⟨j, hlt, .inr (.inr (.inr ⟨k, hk, .inr ⟨hr, rfl, rfl⟩⟩))⟩
      have HPU := Aside0.mk hPU
      have HPS := Aside0.mk hPS
      clear g5 hPU hPS h0
      have h0 := pw_cell_below (below_then HB5.out HB5.out.size HB.out) HH0.out
      generalize (rd_T43 bs (j : Int)).f0 = xs at h0 HH0 l5 HG5 HOL HOP HXL
      rw [HOL.out] at hps HPL HPU HPS
      have hps1 := (wr3 HZL.out HXL.out).1
      rw [hps1] at hps
      generalize pos bs (j + 1) = z1 at hN1 hps
      have HN0 := Aside0.mk (num_cell (Kd.C_below HN5.out (Below.refl w5.heap.size w5)) HLN.out (j := j) hj)
      generalize pos bs j = z0 at hN0 HN0 hps hps1 HZL HPU HPS
      have hne : (((z1 : Int) != (z1 : Int)) = false) := by simp
      have n1 : wr.cell? ⟨adn.block, adn.off + (j + 1), none⟩ = some (.int .i64 (z1 : Int)) := hN1
      have n0 := hN0
      clear hN0 hN1
      go_wp2_with fail
      refine wp_region_rel 19 (fun _ => none) (fun _ => []) (fun _ _ _ => True) (fun wq => Below wr.heap.size wr wq) (fun a b => Below a.heap.size a b) (by kernel_rfl) (by kernel_rfl) (below_drew (Below.refl _ _)) (fun a b h k => below_then h h.size k) (fun _ _ _ _ h _ => h) ?_
      simp only [List.take_succ_cons, List.take_zero, List.drop_succ_cons, List.drop_zero]
      iterate 19 (apply relQ_step rfl; apply Exists.intro; constructor; (focus (intro wq hwq; have c1 := pw_cell_below hwq c1; have h0 := pw_cell_below hwq h0; have n0 := pw_cell_below hwq n0; have n1 := pw_cell_below hwq n1; unfold Yl; go_wp2_with fail; exact ⟨rfl, _, rfl, rfl, Below.refl _ _⟩)); (try simp only [Act.put, List.setIfInBounds_toArray, List.set_cons_zero, List.set_cons_succ]))
      refine relQ_nil (fun xx => ?_)
      repeat (refine relL_quiet rfl ?_)
      refine relL_nil (fun wr2 hwr2 _ => ?_)
      have HBr := Aside0.mk (below_then HB.out HB.out.size hwr2)
      clear HB hwr2 n0 n1
      go_wp2_with fail
      clear hps hps1 hne b1 h0 c1
      go_loopw [7, 9] (fun cv i wi => ∃ k : Nat, k ≤ xs.length ∧ i = .int .i64 (k : Int) ∧ cv = .int .i64 ((callsP bs (plcs bs j ++ rowP j k)).length : Int) ∧ Aside0 (Below w5.heap.size w5 wi)) (fun _ i _ => xs.length - (intOf i).toNat)
      case atStart => exact ⟨0, Nat.zero_le _, rfl, by rw [rowP_zero, List.append_nil], HBr⟩
      case round =>
        clear HBr
        obtain ⟨k, hk, rfl, rfl, HB⟩ := hrel
        have c1 := blk_cell (blk_below HF5.out HB.out) 1
        simp only [List.getElem?_toArray, List.getElem?_cons_zero, List.getElem?_cons_succ] at c1
        have h0 := pw_cell_below (below_then HB5.out HB5.out.size HB.out) HH0.out
        by_cases hlk : k < xs.length
        · have b2 : decide ((k : Int) < (xs.length : Int)) = true := decide_eq_true (Int.ofNat_lt.2 hlk)
          have HWK := Aside0.mk (wr3 HZL.out (Nat.le_trans (Nat.le_of_lt hlk) HXL.out))
          obtain ⟨adk, A6, c6, eA, x0, x1, x2, x3, x4, x5, x6, x7⟩ := at_T45 (Kd.C_below HG5.out (below_then HB5.out HB5.out.size HB.out)) (k : Int) (Int.natCast_nonneg k) (Int.ofNat_lt.2 hlk)
          simp only [Int.toNat_natCast] at x0 x1 x2 x3 x4 x5
          subst eA
          have HS := Aside0.mk (HST.out k)
          rw [HOP.out k] at HS
          have HU := Aside0.mk (HPU.out k hlk)
          have HV := Aside0.mk (HPS.out k hlk)
          rw [HOP.out k] at HU HV
          have hA8 := (RP.out.opA (j, k)).2
          rw [HOP.out k] at hA8
          have HL := Aside0.mk (HPL.out k hk)
          generalize rd_T45 xs (k : Int) = x at x0 x1 x2 x3 x4 x5 x6 x7 HS HU HV hA8
          have HA8 := Aside0.mk hA8
          have HX6 := Aside0.mk x6
          have HX7 := Aside0.mk (Kd.C_below x7 (below_alloc (Below.refl wr.heap.size wr) (.cells #[.int .i64 x.f0, .int .i64 x.f1, .int .i64 x.f2, .int .i64 x.f3, .int .i64 x.f4, .slice A6 x.f5.length c6] 45)))
          have HXB := Aside0.mk (blk_new wr (.cells #[.int .i64 x.f0, .int .i64 x.f1, .int .i64 x.f2, .int .i64 x.f3, .int .i64 x.f4, .slice A6 x.f5.length c6] 45))
          have HB3 := Aside0.mk (below_alloc HB.out (.cells #[.int .i64 x.f0, .int .i64 x.f1, .int .i64 x.f2, .int .i64 x.f3, .int .i64 x.f4, .slice A6 x.f5.length c6] 45))
          obtain ⟨us, hus⟩ : ∃ us, useX x = us := ⟨_, rfl⟩
          rw [hus] at HU
          have HUS := Aside0.mk hus
          clear x6 x7 hA8 hus
          generalize callsP bs (plcs bs j ++ rowP j k) = L at HL HS
          go_wp2_with (go_at_call 21; refine (uses_any x A6 c6 _ (Nat.le_trans HA8.out (by decide)) HX7.out HX6.out).mono ?_; rintro e w7 ⟨A7, c7, rfl, hC7, hb⟩; rw [HUS.out] at hC7 ⊢; have HC7 := Aside0.mk hC7; have HB7 := Aside0.mk (below_then HB3.out HB3.out.size hb); have HX77 := Aside0.mk (Kd.C_below HX7.out hb); have HXB7 := Aside0.mk (blk_below HXB.out hb); clear hC7 hb)
          clear x0 x1 x2 x3 x4 x5 c1 h0
          generalize wr.heap.size = g at HXB7 ⊢
          go_loopw [12] (fun i wu => ∃ q : Nat, q ≤ us.length ∧ i = .int .i64 (q : Int) ∧ Aside0 (Below w7.heap.size w7 wu)) (fun i _ => us.length - (intOf i).toNat)
          case atStart => exact ⟨0, Nat.zero_le _, rfl, ⟨Below.refl _ _⟩⟩
          case round =>
            obtain ⟨q, hq, rfl, HBu⟩ := hrel
            have HB7u := Aside0.mk (below_then HB7.out HB7.out.size HBu.out)
            by_cases hlq : q < us.length
            · have b3 : decide ((q : Int) < (us.length : Int)) = true := decide_eq_true (Int.ofNat_lt.2 hlq)
              have hw6 : wrap64 ((q : Int) + 1) = (q : Int) + 1 := inc63 hlq HC7.out.2.1
              obtain ⟨ad7, e7, hc7⟩ := Kd.at_int (Kd.C_below HC7.out HBu.out) (q : Int) (Int.natCast_nonneg q) (Int.ofNat_lt.2 hlq)
              rw [Int.toNat_natCast] at hc7
              subst e7
              obtain ⟨s1, s2, hsp, hs1, hs2⟩ := HOL0.out _ _ (HU.out (rd us (q : Int)) (by rw [rd_mem hlq]; exact List.getElem_mem _))
              generalize rd us (q : Int) = r at hc7 hsp
              have HSP := Aside0.mk hsp
              have b4 : decide ((z0 : Int) + (k : Int) < s1) = false := decide_eq_false (by omega)
              have b5 : decide (s2 < (z0 : Int) + (k : Int)) = false := decide_eq_false (by omega)
              have hw3 := HWK.out.1
              clear hsp hs1 hs2
              go_wp2_with (go_at_call 22; refine (span_any Al cl out r s1 s2 _ (Kd.C_below HL5.out HB7u.out) HKL.out HLL.out HSP.out).mono ?_; rintro e w8 ⟨rfl, hb⟩; have hbA := below_alloc (Below.refl w8.heap.size w8) (.cells #[.int .i64 r, .int .i64 s1, .int .i64 s2] 26); have HB8 := Aside0.mk (below_then HBu.out HBu.out.size (below_then hb hb.size hbA)); have HXS := Aside0.mk (blk_new w8 (.cells #[.int .i64 r, .int .i64 s1, .int .i64 s2] 26)); clear hb hbA)
              obtain ⟨W, hW⟩ : ∃ W, w8.alloc (.cells #[.int .i64 r, .int .i64 s1, .int .i64 s2] 26) = W := ⟨_, rfl⟩
              rw [hW] at HB8 HXS ⊢
              clear hW hc7
              generalize w8.heap.size = g2 at HXS ⊢
              have t1 := blk_cell HXS.out 1
              have t2 := blk_cell HXS.out 2
              simp only [List.getElem?_toArray, List.getElem?_cons_zero, List.getElem?_cons_succ] at t1 t2
              have n0 := pw_cell_below (below_then HB7.out HB7.out.size HB8.out) HN0.out
              refine wp_region_rel 24 (fun _ => none) (fun _ => []) (fun _ _ _ => True) (fun wq => Below W.heap.size W wq) (fun a b => Below a.heap.size a b) (by kernel_rfl) (by kernel_rfl) (below_drew (Below.refl _ _)) (fun a b h k => below_then h h.size k) (fun _ _ _ _ h _ => h) ?_
              simp only [List.take_succ_cons, List.take_zero, List.drop_succ_cons, List.drop_zero]
              iterate 24 (apply relQ_step rfl; apply Exists.intro; constructor; (focus (intro wq hwq; have t1 := pw_cell_below hwq t1; have t2 := pw_cell_below hwq t2; have n0 := pw_cell_below hwq n0; unfold Yl; go_wp2_with fail; exact ⟨rfl, _, rfl, rfl, Below.refl _ _⟩)); (try simp only [Act.put, List.setIfInBounds_toArray, List.set_cons_zero, List.set_cons_succ]))
              refine relQ_nil (fun xx => ?_)
              repeat (refine relL_quiet rfl ?_)
              refine relL_nil (fun w13 hw13 _ => ?_)
              have HB13 := Aside0.mk (below_then HB8.out HB8.out.size hw13)
              clear t1 t2 n0 hw13
              go_wp2_with fail
              go_roundw
              case rel => exact ⟨q + 1, hlq, by first | (rw [hw6]; exact num_cast q) | (with_reducible exact num_cast q), HB13⟩
              case measure => first | (rw [hw6]; exact num_meas hlq) | (with_reducible exact num_meas hlq)
            · have b3 : decide ((q : Int) < (us.length : Int)) = false := decide_eq_false (fun h => hlq (Int.ofNat_lt.1 h))
              clear hq
              have HXBu := Aside0.mk (blk_below HXB7.out HBu.out)
              have y0 := blk_cell HXBu.out 0
              have y1 := blk_cell HXBu.out 1
              have y2 := blk_cell HXBu.out 2
              have y3 := blk_cell HXBu.out 3
              have y4 := blk_cell HXBu.out 4
              have y5 := blk_cell HXBu.out 5
              simp only [List.getElem?_toArray, List.getElem?_cons_zero, List.getElem?_cons_succ] at y0 y1 y2 y3 y4 y5
              have hw5 := HWK.out.2.2
              obtain ⟨s, hs⟩ : ∃ s, setX x = s := ⟨_, rfl⟩
              rw [hs] at HV
              have HSX := Aside0.mk hs
              clear hs
              by_cases hs0 : s = 0
              · subst hs0
                go_wp2_with (first
                  | (go_at_call 23; refine (sets1_any x A6 c6 _ (Kd.C_below HX77.out HBu.out) HX6.out).mono ?_; rintro e w9 ⟨rfl, hb⟩; rw [HSX.out]; have HB9 := Aside0.mk (below_then HB7u.out HB7u.out.size hb); have HX9 := Aside0.mk (Kd.C_below (Kd.C_below HX77.out HBu.out) hb); have HXB9 := Aside0.mk (blk_below HXBu.out hb); clear hb y0 y1 y2 y3 y4 y5)
                  | (go_at_call 22; refine (span_zero Al cl out 0 _ (Kd.C_below HL5.out HB9.out) HKL.out HLL.out).mono ?_; rintro e w10 ⟨sx, s1, s2, st, rfl, hb⟩; have hbA := below_alloc (Below.refl w10.heap.size w10) (.cells #[.int .i64 sx, .int .i64 s1, .int .i64 s2] 26); have HB10 := Aside0.mk (below_then HB9.out HB9.out.size (below_then hb hb.size hbA)); have HX10 := Aside0.mk (Kd.C_below (Kd.C_below HX9.out hb) hbA); have HXB10 := Aside0.mk (blk_alloc (blk_below HXB9.out hb) (.cells #[.int .i64 sx, .int .i64 s1, .int .i64 s2] 26)); have HXS := Aside0.mk (blk_new w10 (.cells #[.int .i64 sx, .int .i64 s1, .int .i64 s2] 26)); clear hb hbA))
                obtain ⟨W, hW⟩ : ∃ W, w10.alloc (.cells #[.int .i64 sx, .int .i64 s1, .int .i64 s2] 26) = W := ⟨_, rfl⟩
                rw [hW] at HB10 HX10 HXB10 HXS ⊢
                clear hW
                generalize w10.heap.size = g2 at HXS ⊢
                have y0 := blk_cell HXB10.out 0
                have y1 := blk_cell HXB10.out 1
                have y2 := blk_cell HXB10.out 2
                have y3 := blk_cell HXB10.out 3
                have y4 := blk_cell HXB10.out 4
                have y5 := blk_cell HXB10.out 5
                have t1 := blk_cell HXS.out 1
                have t2 := blk_cell HXS.out 2
                simp only [List.getElem?_toArray, List.getElem?_cons_zero, List.getElem?_cons_succ] at y0 y1 y2 y3 y4 y5 t1 t2
                have n0 := pw_cell_below HB10.out HN0.out
                refine wp_region_rel 31 (fun _ => none) (fun _ => []) (fun _ _ _ => True) (fun wq => Below W.heap.size W wq) (fun a b => Below a.heap.size a b) (by kernel_rfl) (by kernel_rfl) (below_drew (Below.refl _ _)) (fun a b h k => below_then h h.size k) (fun _ _ _ _ h _ => h) ?_
                simp only [List.take_succ_cons, List.take_zero, List.drop_succ_cons, List.drop_zero]
                iterate 31 (apply relQ_step rfl; apply Exists.intro; constructor; (focus (intro wq hwq; have y0 := pw_cell_below hwq y0; have y1 := pw_cell_below hwq y1; have y2 := pw_cell_below hwq y2; have y3 := pw_cell_below hwq y3; have y4 := pw_cell_below hwq y4; have y5 := pw_cell_below hwq y5; have t1 := pw_cell_below hwq t1; have t2 := pw_cell_below hwq t2; have n0 := pw_cell_below hwq n0; unfold Yl; go_wp2_with (go_at_call 23; refine (sets1_any x A6 c6 _ (Kd.C_below HX10.out hwq) HX6.out).mono ?_; rintro e w11 ⟨rfl, hbq⟩; rw [HSX.out]); first | exact ⟨rfl, _, rfl, rfl, Below.refl _ _⟩ | exact ⟨rfl, _, rfl, rfl, hbq⟩)); (try simp only [Act.put, List.setIfInBounds_toArray, List.set_cons_zero, List.set_cons_succ]))
                refine relQ_nil (fun xx => ?_)
                repeat (refine relL_quiet rfl ?_)
                refine relL_nil (fun w13 hw13 _ => ?_)
                have y0 := pw_cell_below hw13 y0
                have HB13 := Aside0.mk (below_then HB10.out HB10.out.size hw13)
                clear y1 y2 y3 y4 y5 t1 t2 n0 hw13
                by_cases h7 : x.f0 = 7
                · have b8 : decide (x.f0 = 7) = true := decide_eq_true h7
                  have b9 : (x.f0 == 7) = true := by rw [h7]; rfl
                  have HS2 : Aside0 ((callsP bs (plcs bs j ++ rowP j (k + 1))).length = L.length + 1) := ⟨by rw [rowP_succ, ← List.append_assoc, HS.out, if_pos h7, List.length_append]; rfl⟩
                  have hwL : wrap64 ((L.length : Int) + 1) = (L.length : Int) + 1 := inc63 (Nat.lt_succ_self _) (Nat.le_trans (Nat.succ_le_succ HL.out) (by decide))
                  clear h7
                  go_wp2_with fail
                  go_roundw
                  case rel => exact ⟨k + 1, hlk, by first | (rw [hw5]; exact num_cast k) | (with_reducible exact num_cast k), by rw [HS2.out]; first | (rw [hwL]; exact num_cast _) | (with_reducible exact num_cast _), HB13⟩
                  case measure => first | (rw [hw5]; exact num_meas hlk) | (with_reducible exact num_meas hlk)
                · have b8 : decide (x.f0 = 7) = false := decide_eq_false h7
                  have b9 : (x.f0 == 7) = false := by simpa using h7
                  have HS2 : Aside0 ((callsP bs (plcs bs j ++ rowP j (k + 1))).length = L.length) := ⟨by rw [rowP_succ, ← List.append_assoc, HS.out, if_neg h7]⟩
                  clear h7
                  go_wp2_with fail
                  go_roundw
                  case rel => exact ⟨k + 1, hlk, by first | (rw [hw5]; exact num_cast k) | (with_reducible exact num_cast k), by rw [HS2.out], HB13⟩
                  case measure => first | (rw [hw5]; exact num_meas hlk) | (with_reducible exact num_meas hlk)
              · have b4 : decide (s = 0) = false := decide_eq_false hs0
                have b4' : (s == 0) = false := by simpa using hs0
                have b4n : (s != 0) = true := by simpa using hs0
                obtain ⟨s1, s2, hsp, hs1, hs2⟩ := HOL0.out _ _ (HV.out hs0)
                have HSP := Aside0.mk hsp
                have b5 : decide ((z0 : Int) + (k : Int) + 1 < s1) = false := decide_eq_false (by omega)
                have b6 : decide (s2 < (z0 : Int) + (k : Int) + 1) = false := decide_eq_false (by omega)
                have hw3 := HWK.out.1
                have hw4 := HWK.out.2.1
                clear hsp hs1 hs2 hs0
                go_wp2_with (first
                  | (go_at_call 23; refine (sets1_any x A6 c6 _ (Kd.C_below HX77.out HBu.out) HX6.out).mono ?_; rintro e w9 ⟨rfl, hb⟩; rw [HSX.out]; have HB9 := Aside0.mk (below_then HB7u.out HB7u.out.size hb); have HX9 := Aside0.mk (Kd.C_below (Kd.C_below HX77.out HBu.out) hb); have HXB9 := Aside0.mk (blk_below HXBu.out hb); clear hb y0 y1 y2 y3 y4 y5)
                  | (go_at_call 22; refine (span_any Al cl out s s1 s2 _ (Kd.C_below HL5.out HB9.out) HKL.out HLL.out HSP.out).mono ?_; rintro e w10 ⟨rfl, hb⟩; have hbA := below_alloc (Below.refl w10.heap.size w10) (.cells #[.int .i64 s, .int .i64 s1, .int .i64 s2] 26); have HB10 := Aside0.mk (below_then HB9.out HB9.out.size (below_then hb hb.size hbA)); have HX10 := Aside0.mk (Kd.C_below (Kd.C_below HX9.out hb) hbA); have HXB10 := Aside0.mk (blk_alloc (blk_below HXB9.out hb) (.cells #[.int .i64 s, .int .i64 s1, .int .i64 s2] 26)); have HXS := Aside0.mk (blk_new w10 (.cells #[.int .i64 s, .int .i64 s1, .int .i64 s2] 26)); clear hb hbA))
                obtain ⟨W, hW⟩ : ∃ W, w10.alloc (.cells #[.int .i64 s, .int .i64 s1, .int .i64 s2] 26) = W := ⟨_, rfl⟩
                rw [hW] at HB10 HX10 HXB10 HXS ⊢
                clear hW
                generalize w10.heap.size = g2 at HXS ⊢
                have y0 := blk_cell HXB10.out 0
                have y1 := blk_cell HXB10.out 1
                have y2 := blk_cell HXB10.out 2
                have y3 := blk_cell HXB10.out 3
                have y4 := blk_cell HXB10.out 4
                have y5 := blk_cell HXB10.out 5
                have t1 := blk_cell HXS.out 1
                have t2 := blk_cell HXS.out 2
                simp only [List.getElem?_toArray, List.getElem?_cons_zero, List.getElem?_cons_succ] at y0 y1 y2 y3 y4 y5 t1 t2
                have n0 := pw_cell_below HB10.out HN0.out
                refine wp_region_rel 31 (fun _ => none) (fun _ => []) (fun _ _ _ => True) (fun wq => Below W.heap.size W wq) (fun a b => Below a.heap.size a b) (by kernel_rfl) (by kernel_rfl) (below_drew (Below.refl _ _)) (fun a b h k => below_then h h.size k) (fun _ _ _ _ h _ => h) ?_
                simp only [List.take_succ_cons, List.take_zero, List.drop_succ_cons, List.drop_zero]
                iterate 31 (apply relQ_step rfl; apply Exists.intro; constructor; (focus (intro wq hwq; have y0 := pw_cell_below hwq y0; have y1 := pw_cell_below hwq y1; have y2 := pw_cell_below hwq y2; have y3 := pw_cell_below hwq y3; have y4 := pw_cell_below hwq y4; have y5 := pw_cell_below hwq y5; have t1 := pw_cell_below hwq t1; have t2 := pw_cell_below hwq t2; have n0 := pw_cell_below hwq n0; unfold Yl; go_wp2_with (go_at_call 23; refine (sets1_any x A6 c6 _ (Kd.C_below HX10.out hwq) HX6.out).mono ?_; rintro e w11 ⟨rfl, hbq⟩; rw [HSX.out]); first | exact ⟨rfl, _, rfl, rfl, Below.refl _ _⟩ | exact ⟨rfl, _, rfl, rfl, hbq⟩)); (try simp only [Act.put, List.setIfInBounds_toArray, List.set_cons_zero, List.set_cons_succ]))
                refine relQ_nil (fun xx => ?_)
                repeat (refine relL_quiet rfl ?_)
                refine relL_nil (fun w13 hw13 _ => ?_)
                have y0 := pw_cell_below hw13 y0
                have HB13 := Aside0.mk (below_then HB10.out HB10.out.size hw13)
                clear y1 y2 y3 y4 y5 t1 t2 n0 hw13
                by_cases h7 : x.f0 = 7
                · have b8 : decide (x.f0 = 7) = true := decide_eq_true h7
                  have b9 : (x.f0 == 7) = true := by rw [h7]; rfl
                  have HS2 : Aside0 ((callsP bs (plcs bs j ++ rowP j (k + 1))).length = L.length + 1) := ⟨by rw [rowP_succ, ← List.append_assoc, HS.out, if_pos h7, List.length_append]; rfl⟩
                  have hwL : wrap64 ((L.length : Int) + 1) = (L.length : Int) + 1 := inc63 (Nat.lt_succ_self _) (Nat.le_trans (Nat.succ_le_succ HL.out) (by decide))
                  clear h7
                  go_wp2_with fail
                  go_roundw
                  case rel => exact ⟨k + 1, hlk, by first | (rw [hw5]; exact num_cast k) | (with_reducible exact num_cast k), by rw [HS2.out]; first | (rw [hwL]; exact num_cast _) | (with_reducible exact num_cast _), HB13⟩
                  case measure => first | (rw [hw5]; exact num_meas hlk) | (with_reducible exact num_meas hlk)
                · have b8 : decide (x.f0 = 7) = false := decide_eq_false h7
                  have b9 : (x.f0 == 7) = false := by simpa using h7
                  have HS2 : Aside0 ((callsP bs (plcs bs j ++ rowP j (k + 1))).length = L.length) := ⟨by rw [rowP_succ, ← List.append_assoc, HS.out, if_neg h7]⟩
                  clear h7
                  go_wp2_with fail
                  go_roundw
                  case rel => exact ⟨k + 1, hlk, by first | (rw [hw5]; exact num_cast k) | (with_reducible exact num_cast k), by rw [HS2.out], HB13⟩
                  case measure => first | (rw [hw5]; exact num_meas hlk) | (with_reducible exact num_meas hlk)
        · have b2 : decide ((k : Int) < (xs.length : Int)) = false := decide_eq_false (fun h => hlk (Int.ofNat_lt.1 h))
          have ek : k = xs.length := Nat.le_antisymm hk (Nat.le_of_not_lt hlk)
          have HFc : Aside0 (callsP bs (plcs bs j ++ rowP j k) = callsP bs (plcs bs (j + 1))) := ⟨by rw [plcs_succ, HOL.out, ek]⟩
          clear ek
          go_wp2_with fail
          go_roundw
          case rel => exact ⟨j + 1, hlt, by first | (rw [hw1]; exact num_cast j) | (with_reducible exact num_cast j), by rw [HFc.out], HB⟩
          case measure => first | (rw [hw1]; exact num_meas hlt) | (with_reducible exact num_meas hlt)
    · have b1 : decide ((j : Int) < (bs.length : Int)) = false := decide_eq_false (fun h => hlt (Int.ofNat_lt.1 h))
      obtain rfl : j = bs.length := Nat.le_antisymm hj (Nat.le_of_not_lt hlt)
      have c0 := blk_cell (blk_below HF5.out HB.out) 0
      simp only [List.getElem?_toArray, List.getElem?_cons_zero, List.getElem?_cons_succ] at c0
      have HCR := Aside0.mk (callsP_rise bs bs.length)
      generalize hLL : callsP bs (plcs bs bs.length) = L
      rw [hLL] at HCR
      have HLE := Aside0.mk hLL
      clear hLL
      go_wp2_with (go_at_call 24; refine (calls_ok2 p A c bs _ (Kd.C_below HC.out (below_then HB5.out HB5.out.size HB.out)) HCc.out HR.out).mono ?_; rintro e w6 ⟨Ac, cc, rfl, hCc, hb⟩; rw [HLE.out] at hCc ⊢; have HCL := Aside0.mk hCc; have HB6 := Aside0.mk (below_then HB5.out HB5.out.size (below_then HB.out HB.out.size hb)); clear hb hCc)
      clear c0 hlt hj
      go_loopw [18] (fun i wr => ∃ q : Nat, i = .int .i64 ((q : Int) + 1) ∧ (q = 0 ∨ q < L.length) ∧ Aside0 (Below w6.heap.size w6 wr)) (fun i _ => L.length - (intOf i).toNat)
      case atStart => exact ⟨0, rfl, .inl rfl, ⟨Below.refl _ _⟩⟩
      case round =>
        clear HB
        obtain ⟨q, rfl, hq, HB⟩ := hrel
        by_cases hlq : q + 1 < L.length
        · have b3 : decide ((q : Int) + 1 < (L.length : Int)) = true := decide_eq_true (by omega)
          have hp3 : (q : Int) + 1 < (L.length : Int) := by omega
          have hw6 : wrap64 ((q : Int) + 1 + 1) = (q : Int) + 1 + 1 := by
            have := HCL.out.2.1
            unfold wrap64
            omega
          have hw8 : wrap64 (q : Int) = (q : Int) := by
            have := HCL.out.2.1
            unfold wrap64
            omega
          have hw7 : wrap64 ((q : Int) + 1 - 1) = (q : Int) := by
            have := HCL.out.2.1
            unfold wrap64
            omega
          obtain ⟨adc, ec, k0⟩ := Kd.at_int (Kd.C_below HCL.out HB.out) (q : Int) (Int.natCast_nonneg q) (by omega)
          obtain ⟨adc2, ec2, k1⟩ := Kd.at_int (Kd.C_below HCL.out HB.out) ((q + 1 : Nat) : Int) (Int.natCast_nonneg _) (by omega)
          rw [Int.toNat_natCast] at k0 k1
          subst ec
          obtain rfl := Option.some.inj ec2
          have hl0 : q < L.length := by omega
          rw [rd_mem hl0] at k0
          rw [rd_mem hlq] at k1
          have hr := List.pairwise_iff_getElem.1 HCR.out q (q + 1) hl0 hlq (Nat.lt_succ_self q)
          generalize L[q] = e0 at k0 hr
          generalize L[q + 1] = e1 at k1 hr
          have b4 : decide (e1 ≤ e0) = false := decide_eq_false (by omega)
          have k1 : wr.cell? ⟨adc.block, adc.off + (q + 1), none⟩ = some (.int .i64 e1) := k1
          clear hr ec2
          go_wp2_with fail
          refine wp_region_rel 10 (fun _ => none) (fun _ => []) (fun _ _ _ => True) (fun wq => Below wr.heap.size wr wq) (fun a b => Below a.heap.size a b) (by kernel_rfl) (by kernel_rfl) (below_drew (Below.refl _ _)) (fun a b h k => below_then h h.size k) (fun _ _ _ _ h _ => h) ?_
          simp only [List.take_succ_cons, List.take_zero, List.drop_succ_cons, List.drop_zero]
          iterate 10 (apply relQ_step rfl; apply Exists.intro; constructor; (focus (intro wq hwq; have k0 := pw_cell_below hwq k0; have k1 := pw_cell_below hwq k1; unfold Yl; go_wp2_with fail; exact ⟨rfl, _, rfl, rfl, Below.refl _ _⟩)); (try simp only [Act.put, List.setIfInBounds_toArray, List.set_cons_zero, List.set_cons_succ]))
          refine relQ_nil (fun xx => ?_)
          repeat (refine relL_quiet rfl ?_)
          refine relL_nil (fun w13 hw13 _ => ?_)
          have HB13 := Aside0.mk (below_then HB.out HB.out.size hw13)
          clear k0 k1 hw13
          go_wp2_with fail
          go_roundw
          case rel => exact ⟨q + 1, by first | (rw [hw6]; rfl) | rfl, .inr hlq, HB13⟩
          case measure => first | (rw [hw6]; simp only [intOf]; omega) | (simp only [intOf]; omega)
        · have b3 : decide ((q : Int) + 1 < (L.length : Int)) = false := decide_eq_false (by omega)
          have hp3 : ¬ (q : Int) + 1 < (L.length : Int) := by omega
          go_wp2_with fail
          go_ret
          exact ⟨rfl, below_then HB6.out HB6.out.size HB.out⟩
end Go.Proofs.Ytnkgbnbbmcoiiaa.S
