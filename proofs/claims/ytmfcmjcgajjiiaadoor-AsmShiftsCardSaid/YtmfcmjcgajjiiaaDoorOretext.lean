import Derived.Test.YtmfcmjcgajjiiaaDoorOrtext2
import Derived.Test.YtmfcmjcgajjiiaaDoorOatext
import Derived.Test.YtmfcmjcgajjiiaaDoorS4
namespace Go.Proofs.YtmfcmjcgajjiiaaDoor.S
open Go.RowKit Go.Proofs.YtmfcmjcgajjiiaaDoorW.PrintWords Go.Proofs.YtmfcmjcgajjiiaaDoorW.PrintLast Go.Proofs.YtmfcmjcgajjiiaaDoorW.PrintMore
set_option linter.unusedVariables false
set_option linter.unusedSimpArgs false
theorem digits_nat : ∀ (k u : Nat), u < 10 ^ (k + 1) → u < 9223372036854775808 → swageref05_digits.f (k + 1) (u : Int) = some ⟨(Lib.decDigits u).toArray⟩
  | k, u, h, hb => by
    have hm : Int.tmod (u : Int) 10 = ((u % 10 : Nat) : Int) := by rw [Int.tmod_eq_emod_of_nonneg (by omega)]; omega
    have hd : Int.tdiv (u : Int) 10 = ((u / 10 : Nat) : Int) := by rw [Int.tdiv_eq_ediv_of_nonneg (by omega)]; omega
    unfold swageref05_digits.f
    simp only [Option.bind_some]
    rw [hm, hd, dig_eq (by omega), Lib.decDigits]
    by_cases h1 : u < 10
    · rw [if_pos (by omega), dif_pos h1, Nat.mod_eq_of_lt h1]
    · rw [if_neg (by omega), dif_neg h1]
      have hw : wrap64 ((u / 10 : Nat) : Int) = ((u / 10 : Nat) : Int) := w64 _ (by omega)
      rw [hw]
      cases k with
      | zero => simp at h; omega
      | succ k =>
        rw [digits_nat k (u / 10) (by rw [Nat.pow_succ] at h; omega) (by omega)]
        simp only [Option.bind_some]
        have hz : (⟨(Lib.decDigits (u / 10)).toArray⟩ : ByteArray).size ≤ 20 := by
          show (Lib.decDigits (u / 10)).length ≤ 20
          rw [Lib.decDigits_length]
          exact Lib.nDigits_le20 _ (by omega)
        have hz1 : (⟨[UInt8.ofNat (48 + u % 10)].toArray⟩ : ByteArray).size = 1 := rfl
        rw [if_pos (by omega), cat_list]
theorem min_dec : Lib.decDigits 9223372036854775808 = [57, 50, 50, 51, 51, 55, 50, 48, 51, 54, 56, 53, 52, 55, 55, 53, 56, 48, 56] := by
  repeat (rw [Lib.decDigits]; simp)
theorem number5_eq (a : Int) (h : I64 a) : swageref05_number.f 25 a = some (itoaB a) := by
  unfold swageref05_number.f itoaB Lib.itoa
  unfold I64 at h
  by_cases hn : 0 ≤ a
  · obtain ⟨u, rfl⟩ := Int.eq_ofNat_of_zero_le hn
    rw [if_pos hn, if_neg (by omega), digits_nat 24 u (by omega) (by omega)]
    simp
  · rw [if_neg hn, if_pos (show a < 0 by omega)]
    by_cases hm : a = -9223372036854775808
    · rw [if_pos hm]
      subst hm
      rw [show (-9223372036854775808 : Int).natAbs = 9223372036854775808 from rfl, min_dec]
    · have hw : wrap64 (-a) = ((a.natAbs : Nat) : Int) := by rw [w64 _ (by omega)]; omega
      rw [if_neg hm, hw, digits_nat 24 a.natAbs (by omega) (by omega)]
      simp only [Option.bind_some]
      have hz : (⟨(Lib.decDigits a.natAbs).toArray⟩ : ByteArray).size ≤ 20 := by
        show (Lib.decDigits a.natAbs).length ≤ 20
        rw [Lib.decDigits_length]
        exact Lib.nDigits_le20 _ (by omega)
      rw [if_pos (by omega), show (⟨#[45]⟩ : ByteArray) = ⟨[45].toArray⟩ from rfl, cat_list]
      rfl
theorem num5_calls (a : Int) (n : ByteArray) (w : World) (h : strconv_Itoa.f a = some n) : Calls Tryd.prog 32 #[.int .i64 a] w fun e w' => e = .returned (.string n) ∧ Below w.heap.size w w' := by
  unfold strconv_Itoa.f at h
  split at h
  · rename_i hb
    injection h with h
    subst h
    exact swageref05_number.calls 25 a _ w (number5_eq a hb)
  · cases h
/-- All numbers of a line are in bounds. -/
def LI (x : S38) : Prop := I64 x.f0 ∧ I64 x.f1.f0 ∧ I64 x.f1.f1 ∧ I64 x.f1.f2 ∧ I64 x.f1.f3 ∧ I64 x.f1.f4 ∧ I64 x.f2
instance (x : S38) : Decidable (LI x) := by unfold LI; infer_instance
/-- The document's Text: that of asm's. -/
def swageref05_Text.f (k : Nat) (l : List S38) : Option ByteArray := if l.length ≤ 1000000000 ∧ (l.all fun x => decide (LI x)) = true then txt 30 l else none
theorem swageref05_Text.mono : ∀ a0 k, LeO (swageref05_Text.f k a0) (swageref05_Text.f (k + 1) a0) := fun _ _ => LeO.refl _
set_option maxHeartbeats 16000000 in
set_option maxRecDepth 100000 in
theorem retext_any (A : Option Addr) (c : Nat) (l : List S38) (r : ByteArray) (w : World) (hC : Kd.C k38 w A l.length l) (hlen : l.length ≤ 1000000000) (hli : ∀ x ∈ l, LI x) (h : txt 30 l = some r) :
    Calls Tryd.prog 15 #[.slice A l.length c] w (TxR r w) := by
  have hu38 := Tryd.underlying38
  have hu32 := Tryd.underlying32
  have HC := Aside0.mk hC
  have HT := Aside0.mk h
  have HLI := Aside0.mk hli
  clear hC h hli
  go_enter Tryd.func15, Tryd.ntmps15
  go_wp2_with fail
  go_loopw [3, 4] (fun v i wr => ∃ (j : Nat) (s : ByteArray), j ≤ l.length ∧ i = .int .i64 (j : Int) ∧ v = .string s ∧ Aside0 (txt 30 (l.take j) = some s) ∧ s.size ≤ 1040 * j ∧ Aside0 (Below w.heap.size w wr)) (fun _ i _ => l.length - (intOf i).toNat)
  case atStart => exact ⟨0, ⟨#[]⟩, Nat.zero_le _, rfl, rfl, ⟨rfl⟩, by decide, ⟨Below.refl _ _⟩⟩
  case round =>
    obtain ⟨j, s, hj, rfl, rfl, HS, hz9, HB⟩ := hrel
    by_cases hlt : j < l.length
    · have b1 : decide ((j : Int) < (l.length : Int)) = true := decide_eq_true (by omega)
      obtain ⟨ad, eA, k0, k1, k2, k3, k4, k5, k6⟩ := at_T38 (Kd.C_below HC.out HB.out) (j : Int) (by omega) (by omega)
      simp only [Int.toNat_natCast] at k0 k1 k2 k3 k4 k5 k6
      obtain ⟨t, ht, hs1⟩ := txt_step HT.out hlt HS.out
      have HL1 := Aside0.mk (HLI.out _ (rd38_mem hlt))
      have HS1 := Aside0.mk hs1
      have hts := txB_size ht
      have HTB := Aside0.mk ht
      clear ht hs1
      have HZ1 : Aside0 ((s ++ (t ++ (⟨#[10]⟩ : ByteArray))).size ≤ 1040 * (j + 1)) := ⟨by
        simp only [ByteArray.size_append]
        have e : (⟨#[10]⟩ : ByteArray).size = 1 := rfl
        omega⟩
      have hsl : s.size ≤ 1040000000000 := by omega
      have e32 : (⟨#[32, 32]⟩ : ByteArray).size = 2 := rfl
      have e76 : (⟨#[76]⟩ : ByteArray).size = 1 := rfl
      have e58 : (⟨#[58, 10]⟩ : ByteArray).size = 2 := rfl
      have e10 : (⟨#[10]⟩ : ByteArray).size = 1 := rfl
      have e3 : (⟨#[32, 62, 76]⟩ : ByteArray).size = 3 := rfl
      have HA := fun (w1 w2 : World) (hb : Below w1.heap.size w1 w2) (ad : Addr) (v : Value) (h : w1.cell? ad = some v) => pw_cell_below hb h
      have HK0 := Aside0.mk (Kd.C_below HC.out HB.out)
      generalize rd_T38 l (j : Int) = y at k0 k1 k2 k3 k4 k5 k6 HTB HL1
      subst eA
      clear HA
      by_cases hz : y.f0 = 0
      · have hzb2 : (y.f0 != 0) = false := bne_eq_false_iff_eq.2 hz
        have hT := HTB.out
        unfold txB at hT
        rw [if_pos hz] at hT
        obtain ⟨u, hu, hT⟩ := Option.bind_eq_some_iff.1 hT
        by_cases hus : u.size ≤ 1000
        case neg => rw [if_neg hus] at hT; cases hT
        rw [if_pos hus] at hT
        have hu' : swageref02_Text.f 30 y.f1.f0 y.f1.f1 y.f1.f2 y.f1.f3 y.f1.f4 = some u := by
          unfold swageref02_Text.f
          have := HL1.out
          unfold LI at this
          rw [if_pos ⟨this.2.2.1, this.2.2.2.1, this.2.2.2.2.1, this.2.2.2.2.2.1⟩]
          exact hu
        have HI := Aside0.mk (swageref02_Text.calls 30 y.f1.f0 y.f1.f1 y.f1.f2 y.f1.f3 y.f1.f4 u wr hu')
        clear hz hu hu' HTB
        by_cases h2 : y.f2 = 0
        · rw [if_pos h2] at hT
          injection hT with hT
          have HTE := Aside0.mk hT
          have h2b : (y.f2 != 0) = false := bne_eq_false_iff_eq.2 h2
          clear h2 hT
          go_wp2_with (go_at_call 33; refine HI.out.mono ?_; rintro e w2 ⟨rfl, hb2⟩; have q6 := pw_cell_below hb2 k6; have HB2 := Aside0.mk (below_then HB.out HB.out.size hb2); clear hb2)
          go_roundw
          case rel => exact ⟨j + 1, _, by omega, by go_num, rfl, ⟨by rw [HS1.out, ← HTE.out]; simp only [ByteArray.append_assoc]⟩, by have := HZ1.out; rw [← HTE.out] at this; simpa only [ByteArray.append_assoc] using this, HB2⟩
          case measure => simp [intOf]; omega
        · rw [if_neg h2] at hT
          obtain ⟨n, hn, hT⟩ := Option.map_eq_some_iff.1 hT
          have hns : n.size ≤ 21 := itoa_size hn
          have HTE := Aside0.mk hT
          have HN := Aside0.mk hn
          have h2b : (y.f2 != 0) = true := bne_iff_ne.2 h2
          clear h2 hT hn
          go_wp2_with (first
            | (go_at_call 33; refine HI.out.mono ?_; rintro e w2 ⟨rfl, hb2⟩; have q6 := pw_cell_below hb2 k6; have HB2 := Aside0.mk (below_then HB.out HB.out.size hb2); clear hb2)
            | (go_at_call 32; refine (num5_calls y.f2 n _ HN.out).mono ?_; rintro e w3 ⟨rfl, hb3⟩; have HB3 := Aside0.mk (below_then HB2.out HB2.out.size hb3); clear hb3))
          go_roundw
          case rel => exact ⟨j + 1, _, by omega, by go_num, rfl, ⟨by rw [HS1.out, ← HTE.out]; simp only [ByteArray.append_assoc]⟩, by have := HZ1.out; rw [← HTE.out] at this; simpa only [ByteArray.append_assoc] using this, HB3⟩
          case measure => simp [intOf]; omega
      · have hzb2 : (y.f0 != 0) = true := bne_iff_ne.2 hz
        have hT := HTB.out
        unfold txB at hT
        rw [if_neg hz] at hT
        obtain ⟨n, hn, hT⟩ := Option.map_eq_some_iff.1 hT
        have hns : n.size ≤ 21 := itoa_size hn
        have HTE := Aside0.mk hT
        have HN := Aside0.mk hn
        clear hz hT hn HTB
        go_wp2_with (go_at_call 32; refine (num5_calls y.f0 n _ HN.out).mono ?_; rintro e w3 ⟨rfl, hb3⟩; have HB3 := Aside0.mk (below_then HB.out HB.out.size hb3); clear hb3)
        go_roundw
        case rel => exact ⟨j + 1, _, by omega, by go_num, rfl, ⟨by rw [HS1.out, ← HTE.out]; simp only [ByteArray.append_assoc]; rfl⟩, by have := HZ1.out; rw [← HTE.out] at this; simp only [ByteArray.size_append] at this ⊢; have e1 : (⟨#[58]⟩ : ByteArray).size = 1 := rfl; omega, HB3⟩
        case measure => simp [intOf]; omega
    · have b1 : decide ((j : Int) < (l.length : Int)) = false := decide_eq_false (by omega)
      obtain rfl : j = l.length := by omega
      have hs := HS.out
      rw [List.take_length, HT.out] at hs
      injection hs with hs
      subst hs
      go_wp2_with fail
      go_ret
      exact ⟨rfl, HB.out⟩
theorem swageref05_Text.calls (k : Nat) (A0 : Option Addr) (c0 : Nat) (l0 : List S38) (r : ByteArray) (w : World) (hr0 : Kd.C k38 w A0 l0.length l0) (hc0 : l0.length ≤ c0) (h : swageref05_Text.f k l0 = some r) :
    Calls Tryd.prog 15 #[.slice A0 l0.length c0] w fun e w' => e = .returned (.string r) ∧ Below w.heap.size w w' := by
  unfold swageref05_Text.f at h
  split at h
  · rename_i hl
    exact retext_any A0 c0 l0 r w hr0 hl.1 (fun x hx => of_decide_eq_true (List.all_eq_true.1 hl.2 x hx)) h
  · cases h
end Go.Proofs.YtmfcmjcgajjiiaaDoor.S
