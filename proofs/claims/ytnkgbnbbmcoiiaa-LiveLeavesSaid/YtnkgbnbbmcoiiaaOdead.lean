import Derived.Test.YtnkgbnbbmcoiiaaRf
import Derived.Test.YtnkgbnbbmcoiiaaOmeet
import Derived.Test.YtnkgbnbbmcoiiaaLsm
import Derived.Test.YtnkgbnbbmcoiiaaOpw
namespace Go.Proofs.Ytnkgbnbbmcoiiaa.S
open Go.RowKit Go.IM Go.Proofs.YtnkgbnbbmcoiiaaW.PrintWords Go.Proofs.YtnkgbnbbmcoiiaaW.PrintLast Go.Proofs.YtnkgbnbbmcoiiaaW.PrintMore
set_option linter.unusedVariables false
set_option linter.unusedSimpArgs false
/-! ### live.Dead -/
theorem info86 : (Try.prog.info? 86).map (fun i => (i.zero, i.size, i.bytes)) = some (some (.agg #[.int .i64 0, .int .i64 0]), 2, 16) := by kernel_rfl
theorem prC_one (q : Nat × Nat) : ∀ u ∈ prC q, u.oneCell' = true := by
  intro u hu
  simp only [prC, List.mem_cons, List.not_mem_nil, or_false] at hu
  rcases hu with rfl | rfl <;> rfl
section
variable {ops : Array Oper} {rest : List Oper} {o : Oper} {a : Act} {Q : Exit → Act → World → Prop}
theorem app86 {w0 W : World} (base : Nat) (hgd : o.guard = none) (s x : Operand) (ho : o.op = .call { callee := .builtin .append, args := #[s, x], argTypes := #[57, 57] })
    (v : Value) (D : List (Nat × Nat)) (i k : Nat) (hs : a.eval s = v) (hx : a.eval x = .slice (some ⟨W.heap.size, 0, none⟩) 1 1) (HO : W.ownsRow base 86 2 v D.length (prCs D)) (HB : Below base w0 W) (hbase : base ≤ W.heap.size) (hl : D.length ≤ 16384)
    (h : ∀ v1 w1, w1.ownsRow base 86 2 v1 (D ++ [(i, k)]).length (prCs (D ++ [(i, k)])) → Below base w0 w1 → TX 86 W w1 → wpList Try.prog ops Q rest (a.put o.dst v1) w1) : wpList Try.prog ops Q (o :: rest) a (W.alloc (.cells #[.int .i64 (i : Int), .int .i64 (k : Int)] 86)) := by
  refine print_append_cells (w0 := w0) (W := W) base hgd s x 57 86 (.agg #[.int .i64 0, .int .i64 0]) 2 16 ho Try.underlying57 info86 rfl (by decide) (by decide) v D.length (prCs D) (prC (i, k)) hs hx rfl (prC_one (i, k)) HO HB hbase (by omega) ?_
  intro v1 w1 ho1 hb1 hg1 _
  exact h v1 w1 (by rw [List.length_append, prCs_snoc]; exact ho1) hb1 (TX.of_append HO hg1)
end
set_option maxHeartbeats 8000000 in
set_option maxRecDepth 100000 in
theorem dead_ok (p : Int) (A : Option Addr) (c : Nat) (bs : List S43) (w : World) (hC : Kd.C k43 w A bs.length bs) (hR : rightF p bs 256 = true) :
    Calls Try.prog 36 #[.agg #[.int .i64 p, .slice A bs.length c]] w fun e w' => ∃ v, e = .returned v ∧ w'.ownsRow w.heap.size 86 2 v (deadP bs (plcs bs bs.length)).length (prCs (deadP bs (plcs bs bs.length))) ∧ Below w.heap.size w w' := by
  have RP := Aside0.mk (rightF_iff hR)
  have HR := Aside0.mk hR
  have HC := Aside0.mk hC
  have HB0 := Aside0.mk (below_alloc (Below.refl w.heap.size w) (.cells #[.int .i64 p, .slice A bs.length c] 34))
  have HF0 := Aside0.mk (blk_new w (.cells #[.int .i64 p, .slice A bs.length c] 34))
  have hu34 := Try.underlying34
  have hu43 := Try.underlying43
  have hu41 := Try.underlying41
  have hu45 := Try.underlying45
  have hu86 := Try.underlying86
  have hlen := RP.out.len
  clear hC hR
  go_enter Try.func36, Try.ntmps36
  go_wp2_with (go_at_call 57; refine (sets_ok p A c bs _ (Kd.C_below HC.out HB0.out) HR.out).mono ?_; rintro e w1 ⟨A1, rfl, hm, hb⟩; have HM := Aside0.mk hm; have HF1 := Aside0.mk (blk_below HF0.out hb); have HB1 := Aside0.mk (below_then HB0.out HB0.out.size hb); have c0 := blk_cell HF1.out 0; have c1 := blk_cell HF1.out 1; simp only [List.getElem?_toArray, List.getElem?_cons_zero, List.getElem?_cons_succ] at c0 c1; clear hb hm)
  clear c0 c1
  go_loopw [5, 21] (fun v i wr => ∃ x : Nat, x ≤ bs.length ∧ i = .int .i64 (x : Int) ∧ Aside0 (wr.ownsRow w1.heap.size 86 2 v (deadP bs (plcs bs x)).length (prCs (deadP bs (plcs bs x)))) ∧ Aside0 (Below w1.heap.size w1 wr)) (fun _ i _ => bs.length - (intOf i).toNat)
  case atStart => exact ⟨0, Nat.zero_le _, rfl, ⟨own_nil _ _ _ _⟩, ⟨Below.refl _ _⟩⟩
  case round =>
    obtain ⟨x, hx, rfl, HO, HB⟩ := hrel
    by_cases hlt : x < bs.length
    · have b1 : decide ((x : Int) < (bs.length : Int)) = true := decide_eq_true (by omega)
      have hw1 : wrap64 ((x : Int) + 1) = (x : Int) + 1 := (wr3 (z := 0) (by decide) (by omega)).2.2
      have q1 : (0 : Int) ≤ (x : Int) := by omega
      have q2 : (x : Int) < (bs.length : Int) := by omega
      obtain ⟨ad, A5, c5, eA, h0, h1, h2, h3, h4, l5, g5⟩ := at_T43 HC.out (x : Int) q1 q2
      simp only [Int.toNat_natCast] at h0 h1 h2 h3 h4
      subst eA
      have hbw := below_then HB1.out HB1.out.size HB.out
      have h0 := pw_cell_below hbw h0
      have h1 := pw_cell_below hbw h1
      have h2 := pw_cell_below hbw h2
      have h3 := pw_cell_below hbw h3
      have h4 := pw_cell_below hbw h4
      clear hbw
      have HG5 := Aside0.mk g5
      have HOL : Aside0 (opLen bs x = (rd_T43 bs (x : Int)).f0.length) := ⟨rfl⟩
      have HOP : Aside0 (∀ k : Nat, opOf bs (x, k) = rd_T45 (rd_T43 bs (x : Int)).f0 (k : Int)) := ⟨fun k => rfl⟩
      have HXL : Aside0 ((rd_T43 bs (x : Int)).f0.length ≤ 16384) := ⟨RP.out.opLen_le x⟩
      have HPL : Aside0 (∀ k, k ≤ opLen bs x → (deadP bs (plcs bs x ++ rowP x k)).length ≤ 16384) := ⟨fun k hk => Nat.le_trans (deadP_len _ _) (part_le RP.out hlt hk)⟩
      have HST := Aside0.mk (fun k : Nat => deadP_snoc bs (plcs bs x ++ rowP x k) (x, k))
      generalize (rd_T43 bs (x : Int)).f0 = xs at h0 l5 HG5 HOL HOP HXL
      generalize (rd_T43 bs (x : Int)).f1.f0 = t0 at h1
      generalize (rd_T43 bs (x : Int)).f1.f1 = t1 at h2
      generalize (rd_T43 bs (x : Int)).f1.f2 = t2 at h3
      generalize (rd_T43 bs (x : Int)).f1.f3 = t3 at h4
      obtain ⟨L, hL⟩ : ∃ L, afterL bs x = L := ⟨_, rfl⟩
      have HL := Aside0.mk hL
      have HLL : Aside0 (L.length = xs.length) := ⟨by rw [← hL, afterL, List.length_map, List.length_range, HOL.out]⟩
      have HLA : Aside0 (∀ k : Nat, k < L.length → rd_L1 L (k : Int) = liveRow bs x (k + 1)) := ⟨fun k hk => by
        rw [HLL.out, ← HOL.out] at hk
        rw [← hL]
        exact rd_afterL hk⟩
      have hbA := below_alloc (Below.refl wr.heap.size wr) (.cells #[.slice A5 xs.length c5, .int .i64 t0, .int .i64 t1, .int .i64 t2, .int .i64 t3] 43)
      have HB2 := Aside0.mk (below_alloc HB.out (.cells #[.slice A5 xs.length c5, .int .i64 t0, .int .i64 t1, .int .i64 t2, .int .i64 t3] 43))
      have HO2 := Aside0.mk (own_alloc HO.out (.cells #[.slice A5 xs.length c5, .int .i64 t0, .int .i64 t1, .int .i64 t2, .int .i64 t3] 43))
      have HX2 := Aside0.mk (blk_new wr (.cells #[.slice A5 xs.length c5, .int .i64 t0, .int .i64 t1, .int .i64 t2, .int .i64 t3] 43))
      have c0 := blk_cell (blk_below (blk_below HF1.out HB.out) hbA) 0
      have c1 := blk_cell (blk_below (blk_below HF1.out HB.out) hbA) 1
      simp only [List.getElem?_toArray, List.getElem?_cons_zero, List.getElem?_cons_succ] at c0 c1
      clear hL g5 hbA
      go_wp2_with (go_at_call 60; refine (after_any p (some ad) c bs 256 A1 x _ (Kd.C_below HC.out (below_then HB1.out HB1.out.size HB2.out)) RP.out (HM.out.below HB2.out) hlt).mono ?_; rintro e w3 ⟨v3, rfl, hr, hb⟩; rw [HL.out] at hr; have HR3 := Aside0.mk hr; obtain ⟨A3, c3, rfl, k3, hC3⟩ := Kd.R_reads hr; have HB3 := Aside0.mk (below_then HB2.out HB2.out.size hb); have HO3 := Aside0.mk (pw_own_below HO2.out hb); have HX3 := Aside0.mk (blk_below HX2.out hb); clear hr hb hC3 k3 c0 c1)
      clear h0 h1 h2 h3 h4 HO HB HB2 HO2 HX2
      generalize wr.heap.size = g at HX3 ⊢
      go_loopw [5, 31] (fun v i wr => ∃ k : Nat, k ≤ L.length ∧ i = .int .i64 (k : Int) ∧ Aside0 (wr.ownsRow w1.heap.size 86 2 v (deadP bs (plcs bs x ++ rowP x k)).length (prCs (deadP bs (plcs bs x ++ rowP x k)))) ∧ Aside0 (TX 86 w3 wr) ∧ Aside0 (Below w1.heap.size w1 wr)) (fun _ i _ => L.length - (intOf i).toNat)
      case atStart => exact ⟨0, Nat.zero_le _, rfl, ⟨by rw [rowP_zero, List.append_nil]; exact HO3.out⟩, ⟨TX.refl _ _⟩, HB3⟩
      case round =>
        clear HO3 HB3
        obtain ⟨k, hk, rfl, HO, HT, HB⟩ := hrel
        by_cases hlk : k < L.length
        · have b2 : decide ((k : Int) < (L.length : Int)) = true := decide_eq_true (Int.ofNat_lt.2 hlk)
          have hkx : k < xs.length := by rw [← HLL.out]; exact hlk
          have hw2 : wrap64 ((k : Int) + 1) = (k : Int) + 1 := (wr3 (z := 0) (by decide) (Nat.le_trans (Nat.le_of_lt hkx) HXL.out)).2.2
          obtain ⟨A3', c3', e3, k3, hC3⟩ := Kd.R_reads (HT.out.R HR3.out (by intro q hq; simp [Kd.slice, Kd.int, Kd.scalar] at hq; omega))
          obtain ⟨rfl, rfl⟩ : A3' = A3 ∧ c3' = c3 := by
            injection e3 with e3 _ e4
            exact ⟨e3.symm, e4.symm⟩
          clear e3 k3
          obtain ⟨adr, A0, k0, eI, hi0, hi1, hi2⟩ := row_cell hC3 hlk (HLA.out k hlk)
          subst eI
          have HI1 := Aside0.mk hi1
          have HI2 := Aside0.mk hi2
          have y0 := blk_cell (HT.out.blk HX3.out (by decide)) 0
          simp only [List.getElem?_toArray, List.getElem?_cons_zero, List.getElem?_cons_succ] at y0
          obtain ⟨adk, A6, c6, eA, x0, x1, x2, x3, x4, x5, x6, x7⟩ := at_T45 (Kd.C_below HG5.out (below_then HB1.out HB1.out.size HB.out)) (k : Int) (Int.natCast_nonneg k) (Int.ofNat_lt.2 hkx)
          simp only [Int.toNat_natCast] at x0 x1 x2 x3 x4 x5
          subst eA
          have HS := Aside0.mk (HST.out k)
          have hD : deadB bs (x, k) = (pureX (opOf bs (x, k)) && !decide ((opOf bs (x, k)).f1 ∈ liveRow bs x (k + 1))) := rfl
          rw [HOP.out k] at hD
          have HLN := Aside0.mk (HPL.out k (by rw [HOL.out]; omega))
          have HL4 := Aside0.mk (liveRow_le RP.out x (k + 1))
          generalize rd_T45 xs (k : Int) = X at x0 x1 x2 x3 x4 x5 x6 x7 hD
          generalize liveRow bs x (k + 1) = l at hi0 HI1 HI2 hD HL4
          have hbA := below_alloc (Below.refl wr.heap.size wr) (.cells #[.int .i64 X.f0, .int .i64 X.f1, .int .i64 X.f2, .int .i64 X.f3, .int .i64 X.f4, .slice A6 X.f5.length c6] 45)
          have HX6 := Aside0.mk x6
          have HX7 := Aside0.mk (Kd.C_below x7 hbA)
          have HXB := Aside0.mk (blk_new wr (.cells #[.int .i64 X.f0, .int .i64 X.f1, .int .i64 X.f2, .int .i64 X.f3, .int .i64 X.f4, .slice A6 X.f5.length c6] 45))
          have HB3 := Aside0.mk (below_alloc HB.out (.cells #[.int .i64 X.f0, .int .i64 X.f1, .int .i64 X.f2, .int .i64 X.f3, .int .i64 X.f4, .slice A6 X.f5.length c6] 45))
          have HO3 := Aside0.mk (own_alloc HO.out (.cells #[.int .i64 X.f0, .int .i64 X.f1, .int .i64 X.f2, .int .i64 X.f3, .int .i64 X.f4, .slice A6 X.f5.length c6] 45))
          have HT3 := Aside0.mk (HT.out.trans (TX.of_below hbA))
          have HI3 := Aside0.mk (Kd.C_below HI2.out hbA)
          clear x6 x7 hi1 hi2 hbA hC3
          generalize deadP bs (plcs bs x ++ rowP x k) = D at HO3 HS HLN
          cases hp : pureX X with
          | false =>
            have HP := Aside0.mk hp
            have HS2 : Aside0 (deadP bs (plcs bs x ++ rowP x (k + 1)) = D) := ⟨by rw [rowP_succ, ← List.append_assoc, HS.out, hD, hp]; rfl⟩
            clear hp hD
            go_wp2_with (go_at_call 39; refine (pure_any X A6 c6 _ HX7.out HX6.out).mono ?_; rintro e w4 ⟨rfl, hb⟩; rw [HP.out]; have HB4 := Aside0.mk (below_then HB3.out HB3.out.size hb); have HO4 := Aside0.mk (pw_own_below HO3.out hb); have HT4 := Aside0.mk (HT3.out.trans (TX.of_below hb)); have HI4 := Aside0.mk (Kd.C_below HI3.out hb); have z1 := blk_cell (blk_below HXB.out hb) 1; simp only [List.getElem?_toArray, List.getElem?_cons_zero, List.getElem?_cons_succ] at z1; clear hb)
            go_roundw
            case rel => exact ⟨k + 1, hlk, by first | (rw [hw2]; exact num_cast k) | (with_reducible exact num_cast k), ⟨by rw [HS2.out]; exact HO4.out⟩, HT4, HB4⟩
            case measure => first | (rw [hw2]; exact num_meas hlk) | (with_reducible exact num_meas hlk)
          | true =>
            have HP := Aside0.mk hp
            cases hm : decide (X.f1 ∈ l) with
            | true =>
              have HM1 := Aside0.mk hm
              have HS2 : Aside0 (deadP bs (plcs bs x ++ rowP x (k + 1)) = D) := ⟨by rw [rowP_succ, ← List.append_assoc, HS.out, hD, hp, hm]; rfl⟩
              clear hp hD hm
              go_wp2_with (first
                | (go_at_call 39; refine (pure_any X A6 c6 _ HX7.out HX6.out).mono ?_; rintro e w4 ⟨rfl, hb⟩; rw [HP.out]; have HB4 := Aside0.mk (below_then HB3.out HB3.out.size hb); have HO4 := Aside0.mk (pw_own_below HO3.out hb); have HT4 := Aside0.mk (HT3.out.trans (TX.of_below hb)); have HI4 := Aside0.mk (Kd.C_below HI3.out hb); have z1 := blk_cell (blk_below HXB.out hb) 1; simp only [List.getElem?_toArray, List.getElem?_cons_zero, List.getElem?_cons_succ] at z1; clear hb)
                | (go_at_call 64; refine (contains_any A0 k0 l X.f1 _ HI4.out HI1.out HL4.out).mono ?_; rintro e w5 ⟨rfl, hb⟩; rw [HM1.out]; have HB5 := Aside0.mk (below_then HB4.out HB4.out.size hb); have HO5 := Aside0.mk (pw_own_below HO4.out hb); have HT5 := Aside0.mk (HT4.out.trans (TX.of_below hb)); clear hb))
              go_roundw
              case rel => exact ⟨k + 1, hlk, by first | (rw [hw2]; exact num_cast k) | (with_reducible exact num_cast k), ⟨by rw [HS2.out]; exact HO5.out⟩, HT5, HB5⟩
              case measure => first | (rw [hw2]; exact num_meas hlk) | (with_reducible exact num_meas hlk)
            | false =>
              have HM1 := Aside0.mk hm
              have HS2 : Aside0 (deadP bs (plcs bs x ++ rowP x (k + 1)) = D ++ [(x, k)]) := ⟨by rw [rowP_succ, ← List.append_assoc, HS.out, hD, hp, hm]; rfl⟩
              clear hp hD hm
              go_wp2_with (first
                | (go_at_call 39; refine (pure_any X A6 c6 _ HX7.out HX6.out).mono ?_; rintro e w4 ⟨rfl, hb⟩; rw [HP.out]; have HB4 := Aside0.mk (below_then HB3.out HB3.out.size hb); have HO4 := Aside0.mk (pw_own_below HO3.out hb); have HT4 := Aside0.mk (HT3.out.trans (TX.of_below hb)); have HI4 := Aside0.mk (Kd.C_below HI3.out hb); have z1 := blk_cell (blk_below HXB.out hb) 1; simp only [List.getElem?_toArray, List.getElem?_cons_zero, List.getElem?_cons_succ] at z1; clear hb)
                | (go_at_call 64; refine (contains_any A0 k0 l X.f1 _ HI4.out HI1.out HL4.out).mono ?_; rintro e w5 ⟨rfl, hb⟩; rw [HM1.out]; have HB5 := Aside0.mk (below_then HB4.out HB4.out.size hb); have HO5 := Aside0.mk (pw_own_below HO4.out hb); have HT5 := Aside0.mk (HT4.out.trans (TX.of_below hb)); clear hb)
                | (at_builtin; refine app86 (w0 := w1) w1.heap.size rfl _ _ rfl u5 D x k rfl rfl HO5.out HB5.out HB5.out.size HLN.out ?_; intro v6 w6 ho6 hb6 ht6; have HO6 := Aside0.mk ho6; have HB6 := Aside0.mk hb6; have HT6 := Aside0.mk (HT5.out.trans ht6); clear ho6 hb6 ht6))
              go_roundw
              case rel => exact ⟨k + 1, hlk, by first | (rw [hw2]; exact num_cast k) | (with_reducible exact num_cast k), ⟨by rw [HS2.out]; exact HO6.out⟩, HT6, HB6⟩
              case measure => first | (rw [hw2]; exact num_meas hlk) | (with_reducible exact num_meas hlk)
        · have b2 : decide ((k : Int) < (L.length : Int)) = false := decide_eq_false (fun h => hlk (Int.ofNat_lt.1 h))
          have ek : k = xs.length := (Nat.le_antisymm hk (Nat.le_of_not_lt hlk)).trans HLL.out
          have HF : Aside0 (deadP bs (plcs bs x ++ rowP x k) = deadP bs (plcs bs (x + 1))) := ⟨by rw [plcs_succ, HOL.out, ek]⟩
          rw [HF.out] at HO
          clear ek HF
          go_wp2_with fail
          go_roundw
          case rel => exact ⟨x + 1, hlt, by first | (rw [hw1]; exact num_cast x) | (with_reducible exact num_cast x), HO, HB⟩
          case measure => first | (rw [hw1]; exact num_meas hlt) | (with_reducible exact num_meas hlt)
    · have b1 : decide ((x : Int) < (bs.length : Int)) = false := decide_eq_false (by omega)
      obtain rfl : x = bs.length := Nat.le_antisymm hx (Nat.le_of_not_lt hlt)
      go_wp2_with fail
      go_ret
      exact ⟨_, rfl, own_less HO.out HB1.out.size, below_then HB1.out HB1.out.size HB.out⟩
end Go.Proofs.Ytnkgbnbbmcoiiaa.S
