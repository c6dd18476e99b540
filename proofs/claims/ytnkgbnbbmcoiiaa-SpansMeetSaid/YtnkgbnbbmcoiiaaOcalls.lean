import Derived.Test.YtnkgbnbbmcoiiaaOof
namespace Go.Proofs.Ytnkgbnbbmcoiiaa.S
open Go.RowKit Go.IM Go.Proofs.YtnkgbnbbmcoiiaaW.PrintWords Go.Proofs.YtnkgbnbbmcoiiaaW.PrintLast Go.Proofs.YtnkgbnbbmcoiiaaW.PrintMore
set_option linter.unusedVariables false
set_option linter.unusedSimpArgs false
/-! ### spans.Calls -/
def callsP (bs : List S43) (qs : List (Nat × Nat)) : List Int := (qs.filter fun q => decide ((opOf bs q).f0 = 7)).map fun q => (pos bs q.1 : Int) + (q.2 : Int)
theorem callsP_snoc (bs : List S43) (qs : List (Nat × Nat)) (j k : Nat) : callsP bs (qs ++ [(j, k)]) = if (opOf bs (j, k)).f0 = 7 then callsP bs qs ++ [(pos bs j : Int) + (k : Int)] else callsP bs qs := by
  unfold callsP
  rw [List.filter_append, List.map_append]
  by_cases h : (opOf bs (j, k)).f0 = 7 <;> simp [h]
theorem callsP_len (bs : List S43) (qs : List (Nat × Nat)) : (callsP bs qs).length ≤ qs.length := by
  unfold callsP
  rw [List.length_map]
  exact List.length_filter_le _ _
theorem part_le {p : Int} {bs : List S43} (h : RightP p bs 256) {j k : Nat} (hj : j < bs.length) (hk : k ≤ opLen bs j) : (plcs bs j ++ rowP j k).length ≤ 16384 := by
  obtain ⟨rest, hr⟩ := part_prefix hj hk
  have h1 := congrArg List.length hr
  have h2 := h.few
  rw [List.length_append] at h1
  omega
set_option maxHeartbeats 8000000 in
set_option maxRecDepth 100000 in
theorem calls_ok (p : Int) (A : Option Addr) (c : Nat) (bs : List S43) (w : World) (hC : Kd.C k43 w A bs.length bs) (hc : bs.length ≤ c) (hR : rightF p bs 256 = true) :
    Calls Try.prog 24 #[.agg #[.int .i64 p, .slice A bs.length c]] w fun e w' => ∃ v, e = .returned v ∧ w'.ownsRow w.heap.size 3 1 v (callsP bs (plcs bs bs.length)).length (nums .i64 (callsP bs (plcs bs bs.length))) ∧ Below w.heap.size w w' := by
  have hu34 := Try.underlying34
  have hu43 := Try.underlying43
  have hu45 := Try.underlying45
  have RP := Aside0.mk (rightF_iff hR)
  have HR := Aside0.mk hR
  have HC := Aside0.mk hC
  have HCc := Aside0.mk hc
  have HB0 := Aside0.mk (below_alloc (Below.refl w.heap.size w) (.cells #[.int .i64 p, .slice A bs.length c] 34))
  have HF0 := Aside0.mk (blk_new w (.cells #[.int .i64 p, .slice A bs.length c] 34))
  have hb34 := RP.out.len.2
  clear hC hR hc
  go_enter Try.func24, Try.ntmps24
  go_wp2_with (go_at_call 19; refine (number_ok p A c bs _ (Kd.C_below HC.out HB0.out) HCc.out HR.out).mono ?_; rintro e w1 ⟨adn, cn, rfl, hcn, hb⟩; have HN1 := Aside0.mk hcn; have HB1 := Aside0.mk (below_then HB0.out HB0.out.size hb); have HF1 := Aside0.mk (blk_below HF0.out hb); have c0 := blk_cell HF1.out 0; have c1 := blk_cell HF1.out 1; simp only [List.getElem?_toArray, List.getElem?_cons_zero, List.getElem?_cons_succ] at c0 c1; have hnil := eq28nil adn (numL bs).length cn w1; clear hb hcn)
  clear c0 c1 hnil
  have HLN : Aside0 ((numL bs).length = bs.length + 1) := ⟨numL_length bs⟩
  go_loopw [4, 16] (fun v i wr => ∃ j : Nat, j ≤ bs.length ∧ i = .int .i64 (j : Int) ∧ Aside0 (wr.ownsRow w1.heap.size 3 1 v (callsP bs (plcs bs j)).length (nums .i64 (callsP bs (plcs bs j)))) ∧ Aside0 (Below w1.heap.size w1 wr)) (fun _ i _ => bs.length - (intOf i).toNat)
  case atStart => exact ⟨0, Nat.zero_le _, rfl, ⟨own_nil _ _ _ _⟩, ⟨Below.refl _ _⟩⟩
  case round =>
    obtain ⟨j, hj, rfl, HO, HB⟩ := hrel
    by_cases hlt : j < bs.length
    · have b1 : decide ((j : Int) < (bs.length : Int)) = true := decide_eq_true (Int.ofNat_lt.2 hlt)
      have hw1 : wrap64 ((j : Int) + 1) = (j : Int) + 1 := (wr3 (z := 0) (by decide) (by omega)).2.2
      have hn0 : j < (numL bs).length := by rw [HLN.out]; omega
      obtain ⟨ad, A5, c5, eA, h0, h1, h2, h3, h4, l5, g5⟩ := at_T43 HC.out (j : Int) (Int.natCast_nonneg j) (Int.ofNat_lt.2 hlt)
      simp only [Int.toNat_natCast] at h0 h1 h2 h3 h4
      have hbw := below_then HB1.out HB1.out.size HB.out
      have h0 := pw_cell_below hbw h0
      have h1 := pw_cell_below hbw h1
      have h2 := pw_cell_below hbw h2
      have h3 := pw_cell_below hbw h3
      have h4 := pw_cell_below hbw h4
      clear hbw
      subst eA
      have HG5 := Aside0.mk g5
      have HOL : Aside0 (opLen bs j = (rd_T43 bs (j : Int)).f0.length) := ⟨rfl⟩
      have HOP : Aside0 (∀ k : Nat, opOf bs (j, k) = rd_T45 (rd_T43 bs (j : Int)).f0 (k : Int)) := ⟨fun k => rfl⟩
      have HXL : Aside0 ((rd_T43 bs (j : Int)).f0.length ≤ 16384) := ⟨RP.out.opLen_le j⟩
      have HZL := Aside0.mk (pos_le RP.out hj)
      have HPL : Aside0 (∀ k, k ≤ opLen bs j → (callsP bs (plcs bs j ++ rowP j k)).length ≤ 16384) := ⟨fun k hk => Nat.le_trans (callsP_len _ _) (part_le RP.out hlt hk)⟩
      have HST := Aside0.mk (fun k : Nat => callsP_snoc bs (plcs bs j ++ rowP j k) j k)
      clear g5
      generalize (rd_T43 bs (j : Int)).f0 = xs at h0 l5 HG5 HOL HOP HXL
      go_wp2_with fail
      have HO2 := Aside0.mk (own_alloc HO.out (.cells #[.slice A5 xs.length c5, .int .i64 (rd_T43 bs (j : Int)).f1.f0, .int .i64 (rd_T43 bs (j : Int)).f1.f1, .int .i64 (rd_T43 bs (j : Int)).f1.f2, .int .i64 (rd_T43 bs (j : Int)).f1.f3] 43))
      have HB2 := Aside0.mk (below_alloc HB.out (.cells #[.slice A5 xs.length c5, .int .i64 (rd_T43 bs (j : Int)).f1.f0, .int .i64 (rd_T43 bs (j : Int)).f1.f1, .int .i64 (rd_T43 bs (j : Int)).f1.f2, .int .i64 (rd_T43 bs (j : Int)).f1.f3] 43))
      clear HO HB h0 h1 h2 h3 h4 b1
      go_loopw [4, 24] (fun v i wi => ∃ k : Nat, k ≤ xs.length ∧ i = .int .i64 (k : Int) ∧ Aside0 (wi.ownsRow w1.heap.size 3 1 v (callsP bs (plcs bs j ++ rowP j k)).length (nums .i64 (callsP bs (plcs bs j ++ rowP j k)))) ∧ Aside0 (Below w1.heap.size w1 wi)) (fun _ i _ => xs.length - (intOf i).toNat)
      case atStart => exact ⟨0, Nat.zero_le _, rfl, ⟨by rw [rowP_zero, List.append_nil]; exact HO2.out⟩, HB2⟩
      case round =>
        clear HO2 HB2
        obtain ⟨k, hk, rfl, HO, HB⟩ := hrel
        by_cases hlk : k < xs.length
        · have b2 : decide ((k : Int) < (xs.length : Int)) = true := decide_eq_true (Int.ofNat_lt.2 hlk)
          have HWK := wr3 HZL.out (Nat.le_trans (Nat.le_of_lt hlk) HXL.out)
          have hw3 := HWK.1
          have hw5 := HWK.2.2
          clear HWK
          obtain ⟨adk, A6, c6, eA, x0, x1, x2, x3, x4, x5, x6, x7⟩ := at_T45 (Kd.C_below HG5.out (below_then HB1.out HB1.out.size HB.out)) (k : Int) (Int.natCast_nonneg k) (Int.ofNat_lt.2 hlk)
          simp only [Int.toNat_natCast] at x0 x1 x2 x3 x4 x5
          subst eA
          have HS := Aside0.mk (HST.out k)
          rw [HOP.out k] at HS
          have HL := Aside0.mk (HPL.out k (by rw [HOL.out]; exact hk))
          generalize rd_T45 xs (k : Int) = x at x0 x1 x2 x3 x4 x5 x6 x7 HS
          clear x6 x7
          have hblk := blk_new wr (.cells #[.int .i64 x.f0, .int .i64 x.f1, .int .i64 x.f2, .int .i64 x.f3, .int .i64 x.f4, .slice A6 x.f5.length c6] 45)
          have HB3 := Aside0.mk (below_alloc HB.out (.cells #[.int .i64 x.f0, .int .i64 x.f1, .int .i64 x.f2, .int .i64 x.f3, .int .i64 x.f4, .slice A6 x.f5.length c6] 45))
          have HO3 := Aside0.mk (own_alloc HO.out (.cells #[.int .i64 x.f0, .int .i64 x.f1, .int .i64 x.f2, .int .i64 x.f3, .int .i64 x.f4, .slice A6 x.f5.length c6] 45))
          have n0 := num_cell (Kd.C_below HN1.out HB3.out) HLN.out (j := j) hj
          by_cases h7 : x.f0 = 7
          · have b3 : decide (x.f0 = 7) = true := decide_eq_true h7
            have b4 : (x.f0 == 7) = true := by rw [h7]; rfl
            have HS2 : Aside0 (callsP bs (plcs bs j ++ rowP j (k + 1)) = callsP bs (plcs bs j ++ rowP j k) ++ [(pos bs j : Int) + (k : Int)]) := ⟨by rw [rowP_succ, ← List.append_assoc, HS.out, if_pos h7]⟩
            clear h7
            generalize pos bs j = z0 at n0 hw3 HS2
            generalize callsP bs (plcs bs j ++ rowP j k) = L at HO HO3 HL HS2
            go_wp2_with (at_builtin; refine print_append_num w1.heap.size rfl _ _ 28 3 .i64 8 rfl Try.underlying28 (by kernel_rfl) (by decide) u4 L ((z0 : Int) + (k : Int)) rfl (by rw [World.size_alloc]; rfl) HO3.out HB3.out HB3.out.size (by have := HL.out; omega) ?_; intro v1 w5 hown hB1 hg1 hat; have HO5 := Aside0.mk hown; have HB5 := Aside0.mk hB1; clear hown hB1 hg1 hat)
            go_roundw
            case rel => exact ⟨k + 1, hlk, by first | (rw [hw5]; exact num_cast k) | (with_reducible exact num_cast k), ⟨by rw [HS2.out]; exact HO5.out⟩, HB5⟩
            case measure => first | (rw [hw5]; exact num_meas hlk) | (with_reducible exact num_meas hlk)
          · have b3 : decide (x.f0 = 7) = false := decide_eq_false h7
            have b4 : (x.f0 == 7) = false := by simpa using h7
            have HS2 : Aside0 (callsP bs (plcs bs j ++ rowP j (k + 1)) = callsP bs (plcs bs j ++ rowP j k)) := ⟨by rw [rowP_succ, ← List.append_assoc, HS.out, if_neg h7]⟩
            clear h7
            go_wp2_with fail
            go_roundw
            case rel => exact ⟨k + 1, hlk, by first | (rw [hw5]; exact num_cast k) | (with_reducible exact num_cast k), ⟨by rw [HS2.out]; exact HO3.out⟩, HB3⟩
            case measure => first | (rw [hw5]; exact num_meas hlk) | (with_reducible exact num_meas hlk)
        · have b2 : decide ((k : Int) < (xs.length : Int)) = false := decide_eq_false (fun h => hlk (Int.ofNat_lt.1 h))
          have ek : k = xs.length := Nat.le_antisymm hk (Nat.le_of_not_lt hlk)
          have HF : Aside0 (callsP bs (plcs bs j ++ rowP j k) = callsP bs (plcs bs (j + 1))) := ⟨by rw [plcs_succ, HOL.out, ek]⟩
          rw [HF.out] at HO
          clear ek HF
          go_wp2_with fail
          go_roundw
          case rel => exact ⟨j + 1, hlt, by first | (rw [hw1]; exact num_cast j) | (with_reducible exact num_cast j), HO, HB⟩
          case measure => first | (rw [hw1]; exact num_meas hlt) | (with_reducible exact num_meas hlt)
    · have b1 : decide ((j : Int) < (bs.length : Int)) = false := decide_eq_false (fun h => hlt (Int.ofNat_lt.1 h))
      obtain rfl : j = bs.length := Nat.le_antisymm hj (Nat.le_of_not_lt hlt)
      go_wp2_with fail
      go_ret
      exact ⟨_, rfl, own_less HO.out HB1.out.size, below_then HB1.out HB1.out.size HB.out⟩
end Go.Proofs.Ytnkgbnbbmcoiiaa.S
