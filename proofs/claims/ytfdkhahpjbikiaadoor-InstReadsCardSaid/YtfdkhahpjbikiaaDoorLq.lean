import Derived.Test.YtfdkhahpjbikiaaDoorS4
import Derived.Test.YtfdkhahpjbikiaaDoorS6
import Derived.Test.YtfdkhahpjbikiaaDoorS7
import Derived.Test.YtfdkhahpjbikiaaDoorLp
import Derived.Test.YtfdkhahpjbikiaaDoorOdecall
import Derived.Test.YtfdkhahpjbikiaaDoorOrefdec
namespace Go.Proofs.YtfdkhahpjbikiaaDoor.S
open Go.RowKit Go.Proofs.YtfdkhahpjbikiaaDoorW.PrintWords Go.Proofs.YtfdkhahpjbikiaaDoorW.PrintLast Go.Proofs.YtfdkhahpjbikiaaDoorW.PrintMore
set_option linter.unusedVariables false
set_option linter.unusedSimpArgs false
/-! ### Eight bytes, by the program and by the reference -/
theorem dec_same (k : Nat) (p : List Int) (hl : p.length ≤ 9223372036854775807) (hb : ∀ x ∈ p, Byte x) :
    ∃ t, inst_Decode.f (k + 6) p = some t ∧ swageref02_Decode.f (k + 6) p = some t := by
  unfold inst_Decode.f swageref02_Decode.f
  by_cases h8 : p.length = 8
  · rw [if_pos h8, if_pos (show ∀ x ∈ p, 0 ≤ x ∧ x ≤ 255 from hb)]
    match p, h8, hb with
    | [b0, b1, b2, b3, b4, b5, b6, b7], h8, hb =>
      have g0 := hb b0 (by simp)
      have g1 := hb b1 (by simp)
      have g2 := hb b2 (by simp)
      have g4 := hb b4 (by simp)
      have g5 := hb b5 (by simp)
      have g6 := hb b6 (by simp)
      have g7 := hb b7 (by simp)
      have r0 : rd [b0, b1, b2, b3, b4, b5, b6, b7] 0 = b0 := rfl
      have r1 : rd [b0, b1, b2, b3, b4, b5, b6, b7] 1 = b1 := rfl
      have r2 : rd [b0, b1, b2, b3, b4, b5, b6, b7] 2 = b2 := rfl
      have r3 : rd [b0, b1, b2, b3, b4, b5, b6, b7] 3 = b3 := rfl
      have r4 : rd [b0, b1, b2, b3, b4, b5, b6, b7] 4 = b4 := rfl
      have r5 : rd [b0, b1, b2, b3, b4, b5, b6, b7] 5 = b5 := rfl
      have r6 : rd [b0, b1, b2, b3, b4, b5, b6, b7] 6 = b6 := rfl
      have r7 : rd [b0, b1, b2, b3, b4, b5, b6, b7] 7 = b7 := rfl
      have e : decImm b4 b5 b6 b7 = b4 + b5 * 256 + b6 * 65536 + b7 * 16777216 := decImm_eq g4 g5 g6 g7
      unfold Byte at g0 g1 g2 g4 g5 g6 g7
      have ez : (b4 + b5 * 256 + b6 * 65536 + b7 * 16777216 + 2147483648) % 4294967296 - 2147483648 = rimm b4 b5 b6 b7 := by
        unfold rimm
        split <;> omega
      rw [r0, r1, r2, r3, r4, r5, r6, r7, e, rright_eq (k + 2)]
      simp only [Option.bind_some]
      by_cases h3 : b3 = 0
      · rw [if_pos ⟨h8, h3⟩, if_pos (show ∀ x ∈ [b0, b1, b2, b3, b4, b5, b6, b7], 0 ≤ x ∧ x ≤ 255 from hb), wrap32_eq (k + 5) _ (by omega)]
        simp only [Option.bind_some]
        rw [ez]
        have hz : -9223372036854775808 ≤ rimm b4 b5 b6 b7 ∧ rimm b4 b5 b6 b7 ≤ 9223372036854775807 := by rw [← ez]; omega
        rw [right_eq (k + 4) _ _ _ _ _ hz]
        simp only [Option.bind_some]
        subst h3
        by_cases hR : RightP b0 (b1 / 16) (b1 % 16) b2 (rimm b4 b5 b6 b7)
        · exact ⟨(b0, b1 / 16, b1 % 16, b2, rimm b4 b5 b6 b7, 0), by simp [hR], by simp [hR]⟩
        · exact ⟨(0, 0, 0, 0, 0, 2), by simp [hR], by simp [hR]⟩
      · rw [if_neg (fun h => h3 h.2), if_pos (by rw [h8]; decide)]
        refine ⟨(0, 0, 0, 0, 0, 2), rfl, ?_⟩
        rw [if_pos (show ∀ x ∈ [b0, b1, b2, b3, b4, b5, b6, b7], 0 ≤ x ∧ x ≤ 255 from hb)]
        simp [h3]
  · rw [if_neg (fun h => h8 h.1), if_neg h8, if_pos hl]
    exact ⟨_, rfl, rfl⟩
theorem dec_get (p : List Int) (hl : p.length ≤ 9223372036854775807) (hb : ∀ x ∈ p, Byte x) :
    ∃ t, (∀ K, 6 ≤ K → inst_Decode.f K p = some t) ∧ ∀ K, 6 ≤ K → swageref02_Decode.f K p = some t := by
  obtain ⟨t, h1, h2⟩ := dec_same 0 p hl hb
  exact ⟨t, fun K hK => at_rounds (inst_Decode.mono p) hK h1, fun K hK => at_rounds (swageref02_Decode.mono p) hK h2⟩
/-- A right instruction's bytes lead back to it. -/
theorem dec_bytes (k : Nat) {a b c d i : Int} (h : RightP a b c d i) : inst_Decode.f (k + 6) (bytes8 a b c d i) = some (a, b, c, d, i, 0) := by
  have ha := rreg_in h.2.2.1
  have hb := rreg_in h.2.2.2.1
  have hi := imm_in h
  have hby := bytes8_byte h
  unfold inst_Decode.f
  rw [if_pos ⟨rfl, rfl⟩, if_pos (show ∀ x ∈ bytes8 a b c d i, 0 ≤ x ∧ x ≤ 255 from hby)]
  have r0 : rd (bytes8 a b c d i) 0 = a := rfl
  have r1 : rd (bytes8 a b c d i) 1 = b * 16 + c := rfl
  have r2 : rd (bytes8 a b c d i) 2 = d := rfl
  have r4 : rd (bytes8 a b c d i) 4 = i % 256 := rfl
  have r5 : rd (bytes8 a b c d i) 5 = i / 256 % 256 := rfl
  have r6 : rd (bytes8 a b c d i) 6 = i / 65536 % 256 := rfl
  have r7 : rd (bytes8 a b c d i) 7 = i / 16777216 % 256 := rfl
  have e : decImm (i % 256) (i / 256 % 256) (i / 65536 % 256) (i / 16777216 % 256) = i % 256 + i / 256 % 256 * 256 + i / 65536 % 256 * 65536 + i / 16777216 % 256 * 16777216 :=
    decImm_eq (by unfold Byte; omega) (by unfold Byte; omega) (by unfold Byte; omega) (by unfold Byte; omega)
  have e2 : i % 256 + i / 256 % 256 * 256 + i / 65536 % 256 * 65536 + i / 16777216 % 256 * 16777216 = i % 4294967296 := by omega
  rw [r0, r1, r2, r4, r5, r6, r7, e, e2, wrap32_eq (k + 5) _ (by omega)]
  simp only [Option.bind_some]
  have e3 : (i % 4294967296 + 2147483648) % 4294967296 - 2147483648 = i := by omega
  have e4 : (b * 16 + c) / 16 = b := by omega
  have e5 : (b * 16 + c) % 16 = c := by omega
  rw [e3, e4, e5, right_eq (k + 4) _ _ _ _ _ (by omega)]
  simp [h]
/-! ### All pieces -/
theorem mem_piece {l : List Int} {j : Nat} {x : Int} (h : x ∈ piece l j) : x ∈ l := List.mem_of_mem_drop (List.mem_of_mem_take h)
theorem piece_get {l : List Int} (hl : l.length ≤ 9223372036854775807) (hb : ∀ x ∈ l, Byte x) (j : Nat) :
    (∀ K, 6 ≤ K → inst_Decode.f K (piece l j) = some ((decD 6 l j).1.f0, (decD 6 l j).1.f1, (decD 6 l j).1.f2, (decD 6 l j).1.f3, (decD 6 l j).1.f4, (decD 6 l j).2)) ∧
    ∀ K, 6 ≤ K → swageref02_Decode.f K (piece l j) = some ((decD 6 l j).1.f0, (decD 6 l j).1.f1, (decD 6 l j).1.f2, (decD 6 l j).1.f3, (decD 6 l j).1.f4, (decD 6 l j).2) := by
  obtain ⟨t, h1, h2⟩ := dec_get (piece l j) (by unfold piece; simp; omega) (fun x hx => hb x (mem_piece hx))
  have e : decD 6 l j = (⟨t.1, t.2.1, t.2.2.1, t.2.2.2.1, t.2.2.2.2.1⟩, t.2.2.2.2.2) := by
    unfold decD
    rw [h1 6 (Nat.le_refl _)]
  rw [e]
  exact ⟨h1, h2⟩
/-- What all pieces come to. -/
def allD (l : List Int) : List S23 × Int :=
  match (List.range ((l.length + 7) / 8)).find? (fun j => (decD 6 l j).2 != 0) with
  | none => ((List.range ((l.length + 7) / 8)).map fun j => (decD 6 l j).1, 0)
  | some q => ([], (decD 6 l q).2)
theorem da_eq {l : List Int} (hl : l.length ≤ 8388615) (hb : ∀ x ∈ l, Byte x) {K : Nat} (hK : 6 ≤ K) : inst_DecodeAll.f K l = some (allD l) := by
  refine at_rounds (inst_DecodeAll.mono l) hK ?_
  unfold inst_DecodeAll.f allD
  rw [if_pos hl, if_pos fun j _ => by rw [(piece_get (by omega) hb j).1 6 (Nat.le_refl _)]; rfl]
  split <;> rename_i h <;> rw [h]
theorem piece_cut (l : List Int) (j : Nat) : (l.take (min (8 * j + 8) l.length)).drop (8 * j) = piece l j := by
  unfold piece
  rw [List.drop_take, List.take_eq_take_iff]
  simp
  omega
theorem rda_loop {l : List Int} (hl : l.length ≤ 8388615) (hb : ∀ x ∈ l, Byte x) : ∀ (n fuel j : Nat) (acc : List S23), (l.length + 7) / 8 - j = n → j ≤ (l.length + 7) / 8 → n + 8 ≤ fuel → (∀ i, i < j → (decD 6 l i).2 = 0) →
    acc = (List.range j).map (fun i => (decD 6 l i).1) → swageref02_DecodeAll.l0 fuel l acc ((8 * j : Nat) : Int) = some (allD l)
  | 0, fuel, j, acc, hn, hj, hf, hz, ha => by
    obtain ⟨fuel, rfl⟩ : ∃ m, fuel = m + 1 := ⟨fuel - 1, by omega⟩
    obtain rfl : j = (l.length + 7) / 8 := by omega
    simp only [swageref02_DecodeAll.l0]
    rw [if_neg (by omega)]
    have hf0 : (List.range ((l.length + 7) / 8)).find? (fun j => (decD 6 l j).2 != 0) = none := List.find?_eq_none.2 fun i hi => by simp [hz i (List.mem_range.1 hi)]
    unfold allD
    rw [hf0, ha]
  | n + 1, fuel, j, acc, hn, hj, hf, hz, ha => by
    obtain ⟨fuel, rfl⟩ : ∃ m, fuel = m + 1 := ⟨fuel - 1, by omega⟩
    have hjl : 8 * j < l.length := by omega
    have hw : wrap64 (((8 * j : Nat) : Int) + 8) = ((8 * (j + 1) : Nat) : Int) := by rw [w64 _ (by omega)]; omega
    have hm : mn ((8 * (j + 1) : Nat) : Int) (l.length : Int) = ((min (8 * j + 8) l.length : Nat) : Int) := by unfold mn; split <;> omega
    simp only [swageref02_DecodeAll.l0]
    rw [if_pos (by omega), if_pos (by omega), hw, hm, if_pos (by omega), if_pos (by omega)]
    simp only [Int.toNat_natCast]
    rw [piece_cut, (piece_get (by omega) hb j).2 fuel (by omega)]
    simp only [Option.bind_some]
    by_cases he : (decD 6 l j).2 = 0
    · rw [if_pos he, if_pos (by rw [ha]; simp; omega)]
      refine rda_loop hl hb n fuel (j + 1) _ (by omega) (by omega) (by omega) (fun i hi => ?_) ?_
      · rcases Nat.lt_or_ge i j with h | h
        · exact hz i h
        · obtain rfl : i = j := by omega
          exact he
      · rw [ha, List.range_succ, List.map_append]
        rfl
    · rw [if_neg he]
      have hf0 : (List.range ((l.length + 7) / 8)).find? (fun j => (decD 6 l j).2 != 0) = some j := by
        rw [List.find?_range_eq_some]
        exact ⟨by simp [he], List.mem_range.2 (by omega), fun i hi => by simp [hz i hi]⟩
      unfold allD
      rw [hf0]
theorem rda_eq {l : List Int} (hl : l.length ≤ 8388615) (hb : ∀ x ∈ l, Byte x) {K : Nat} (hK : (l.length + 7) / 8 + 8 ≤ K) : swageref02_DecodeAll.f K l = some (allD l) := by
  unfold swageref02_DecodeAll.f
  rw [w64 _ (by omega), if_neg (by omega)]
  exact rda_loop hl hb ((l.length + 7) / 8) K 0 [] (by omega) (by omega) hK (by omega) rfl
/-! ### Rows that are alike -/
theorem same_self (l : List S23) (k : Nat) (hk : l.length < k) (hl : l.length < 100000000) : swageref02_Same.f k l l = some true := by
  have key : ∀ (n k : Nat) (i : Nat), l.length - i < n → n ≤ k → swageref02_Same.l0 k l l (i : Int) = some true := by
    intro n
    induction n with
    | zero => intro k i h; omega
    | succ n ih =>
      intro k i h hk
      obtain ⟨k, rfl⟩ : ∃ j, k = j + 1 := ⟨k - 1, by omega⟩
      simp only [swageref02_Same.l0]
      by_cases hi : (i : Int) < (l.length : Int)
      · rw [if_pos hi, if_pos (by omega), if_pos hi, if_neg (by simp)]
        have e : wrap64 ((i : Int) + 1) = ((i + 1 : Nat) : Int) := by rw [w64 _ (by omega)]; omega
        rw [e]
        exact ih k (i + 1) (by omega) (by omega)
      · rw [if_neg hi]
  unfold swageref02_Same.f
  rw [if_pos rfl]
  exact key (l.length + 1) k 0 (by omega) (by omega)
theorem allD_len (l : List Int) : (allD l).1.length ≤ (l.length + 7) / 8 := by
  unfold allD
  split <;> simp
/-! ### Rows of instructions -/
def RP (x : S23) : Prop := RightP x.f0 x.f1 x.f2 x.f3 x.f4
instance (x : S23) : Decidable (RP x) := by unfold RP; infer_instance
def b8 (x : S23) : List Int := bytes8 x.f0 x.f1 x.f2 x.f3 x.f4
def encA (l : List S23) : List Int × Int := if ∀ x ∈ l, RP x then (l.flatMap b8, 0) else ([], 1)
theorem b8_len (x : S23) : (b8 x).length = 8 := rfl
theorem flat_len : ∀ l : List S23, (l.flatMap b8).length = 8 * l.length
  | [] => rfl
  | x :: l => by rw [List.flatMap_cons, List.length_append, b8_len, flat_len l, List.length_cons]; omega
theorem rdT {l : List S23} {j : Nat} (h : j < l.length) : rd_T23 l (j : Int) = l[j] := by
  unfold rd_T23
  simp [List.getD_eq_getElem?_getD, h]
theorem take_all {l : List S23} {j : Nat} (h : j < l.length) (h1 : ∀ x ∈ l.take j, RP x) (h2 : RP l[j]) : ∀ x ∈ l.take (j + 1), RP x := by
  intro x hx
  rw [List.take_succ_eq_append_getElem h, List.mem_append] at hx
  rcases hx with hx | hx
  · exact h1 x hx
  · rw [List.mem_singleton] at hx
    rw [hx]
    exact h2
theorem enc_loop {l : List S23} (hl : l.length ≤ 1000000) (hi : ∀ x ∈ l, I64 x.f4) : ∀ (n fuel j : Nat) (acc : List Int), l.length - j = n → j ≤ l.length → n + 8 ≤ fuel → (∀ x ∈ l.take j, RP x) → acc = (l.take j).flatMap b8 →
    inst_EncodeAll.l0 fuel acc l (l.length : Int) (j : Int) = some (encA l)
  | 0, fuel, j, acc, hn, hj, hf, hz, ha => by
    obtain ⟨fuel, rfl⟩ : ∃ m, fuel = m + 1 := ⟨fuel - 1, by omega⟩
    obtain rfl : j = l.length := by omega
    simp only [inst_EncodeAll.l0]
    rw [List.take_length] at hz ha
    rw [if_neg (by omega)]
    unfold encA
    rw [if_pos hz, ha]
  | n + 1, fuel, j, acc, hn, hj, hf, hz, ha => by
    obtain ⟨fuel, rfl⟩ : ∃ m, fuel = m + 6 := ⟨fuel - 6, by omega⟩
    have hjl : j < l.length := by omega
    simp only [inst_EncodeAll.l0]
    rw [if_pos (by omega), if_pos (by omega), if_pos (by omega), rdT hjl]
    have he : inst_Encode.f (fuel + 5) l[j].f0 l[j].f1 l[j].f2 l[j].f3 l[j].f4 = if RP l[j] then some (b8 l[j], 0) else some ([], 1) := by
      obtain ⟨m, rfl⟩ : ∃ m, fuel = m + 1 := ⟨fuel - 1, by omega⟩
      exact encode_eq m _ _ _ _ _ (hi _ (List.getElem_mem hjl))
    rw [he]
    by_cases hR : RP l[j]
    · rw [if_pos hR]
      simp only [Option.bind_some]
      have hal : acc.length = 8 * j := by rw [ha, flat_len]; simp; omega
      rw [if_pos trivial, if_pos (by rw [hal, b8_len]; omega)]
      have e : wrap64 ((j : Int) + 1) = ((j + 1 : Nat) : Int) := by rw [w64 _ (by omega)]; omega
      rw [e]
      refine enc_loop hl hi n (fuel + 5) (j + 1) _ (by omega) (by omega) (by omega) (take_all hjl hz hR) ?_
      rw [ha, List.take_succ_eq_append_getElem hjl, List.flatMap_append]
      simp
    · rw [if_neg hR]
      simp only [Option.bind_some]
      unfold encA
      rw [if_neg (by decide), if_neg (fun h => hR (h _ (List.getElem_mem hjl)))]
theorem renc_loop {l : List S23} (hl : l.length ≤ 1000000) : ∀ (n fuel j : Nat) (acc : List Int), l.length - j = n → j ≤ l.length → n + 8 ≤ fuel → (∀ x ∈ l.take j, RP x) → acc = (l.take j).flatMap b8 →
    swageref02_EncodeAll.l0 fuel l acc (j : Int) = some (encA l)
  | 0, fuel, j, acc, hn, hj, hf, hz, ha => by
    obtain ⟨fuel, rfl⟩ : ∃ m, fuel = m + 1 := ⟨fuel - 1, by omega⟩
    obtain rfl : j = l.length := by omega
    simp only [swageref02_EncodeAll.l0]
    rw [List.take_length] at hz ha
    rw [if_neg (by omega)]
    unfold encA
    rw [if_pos hz, ha]
  | n + 1, fuel, j, acc, hn, hj, hf, hz, ha => by
    obtain ⟨fuel, rfl⟩ : ∃ m, fuel = m + 7 := ⟨fuel - 7, by omega⟩
    have hjl : j < l.length := by omega
    simp only [swageref02_EncodeAll.l0]
    rw [if_pos (by omega), if_pos (by omega), rdT hjl]
    have he : swageref02_Encode.f (fuel + 6) l[j].f0 l[j].f1 l[j].f2 l[j].f3 l[j].f4 = if RP l[j] then some (b8 l[j], 0) else some ([], 1) := rencode_eq fuel _ _ _ _ _
    rw [he]
    by_cases hR : RP l[j]
    · rw [if_pos hR]
      simp only [Option.bind_some]
      have hal : acc.length = 8 * j := by rw [ha, flat_len]; simp; omega
      rw [if_pos trivial, if_pos (by rw [hal, b8_len]; omega)]
      have e : wrap64 ((j : Int) + 1) = ((j + 1 : Nat) : Int) := by rw [w64 _ (by omega)]; omega
      rw [e]
      refine renc_loop hl n (fuel + 6) (j + 1) _ (by omega) (by omega) (by omega) (take_all hjl hz hR) ?_
      rw [ha, List.take_succ_eq_append_getElem hjl, List.flatMap_append]
      simp
    · rw [if_neg hR]
      simp only [Option.bind_some]
      unfold encA
      rw [if_neg (by decide), if_neg (fun h => hR (h _ (List.getElem_mem hjl)))]
theorem ea_eq {l : List S23} (hl : l.length ≤ 1000000) (hi : ∀ x ∈ l, I64 x.f4) {K : Nat} (hK : l.length + 8 ≤ K) : inst_EncodeAll.f K l = some (encA l) := by
  unfold inst_EncodeAll.f
  rw [if_neg (by omega)]
  exact enc_loop hl hi l.length K 0 [] (by omega) (by omega) hK (by simp) rfl
theorem rea_eq {l : List S23} (hl : l.length ≤ 1000000) {K : Nat} (hK : l.length + 8 ≤ K) : swageref02_EncodeAll.f K l = some (encA l) := by
  unfold swageref02_EncodeAll.f
  rw [if_neg (by omega)]
  exact renc_loop hl l.length K 0 [] (by omega) (by omega) hK (by simp) rfl
theorem flat_piece : ∀ (l : List S23) (j : Nat) (h : j < l.length), piece (l.flatMap b8) j = b8 l[j]
  | x :: l, 0, _ => by
    unfold piece
    rw [List.flatMap_cons]
    simp only [Nat.mul_zero, List.drop_zero, List.getElem_cons_zero]
    exact List.take_left' rfl
  | x :: l, j + 1, h => by
    have ih := flat_piece l j (by simpa using h)
    unfold piece at ih ⊢
    rw [List.flatMap_cons, show 8 * (j + 1) = (b8 x).length + 8 * j by rw [b8_len]; omega, List.drop_append]
    rw [List.drop_of_length_le (by omega)]
    simpa using ih
theorem flat_byte {l : List S23} (h : ∀ x ∈ l, RP x) : ∀ y ∈ l.flatMap b8, Byte y := by
  intro y hy
  obtain ⟨x, hx, hy⟩ := List.mem_flatMap.1 hy
  exact bytes8_byte (h x hx) y hy
theorem allD_flat {l : List S23} (h : ∀ x ∈ l, RP x) : allD (l.flatMap b8) = (l, 0) := by
  have hN : ((l.flatMap b8).length + 7) / 8 = l.length := by rw [flat_len]; omega
  have hD : ∀ j (hj : j < l.length), decD 6 (l.flatMap b8) j = (l[j], 0) := fun j hj => by
    unfold decD
    rw [flat_piece l j hj]
    have := dec_bytes 0 (h _ (List.getElem_mem hj))
    rw [show b8 l[j] = bytes8 l[j].f0 l[j].f1 l[j].f2 l[j].f3 l[j].f4 from rfl, this]
  have hf0 : (List.range l.length).find? (fun j => (decD 6 (l.flatMap b8) j).2 != 0) = none := List.find?_eq_none.2 fun i hi => by rw [hD i (List.mem_range.1 hi)]; simp
  unfold allD
  rw [hN, hf0]
  simp only [Prod.mk.injEq, and_true]
  refine List.ext_getElem (by simp) fun i h1 h2 => ?_
  simp only [List.getElem_map, List.getElem_range]
  rw [hD i h2]
theorem rows_law (l : List S23) (hi : ∀ x ∈ l, I64 x.f4) : swagelaw02_InstRows.f 300 l = some true := by
  unfold swagelaw02_InstRows.f
  rw [show swagelaw02_small.f = some true from rfl]
  simp only [Option.bind_some]
  by_cases hl : (l.length : Int) > 200
  · rw [if_pos hl]
  · rw [if_neg hl, ea_eq (by omega) hi (by omega), rea_eq (by omega) (by omega)]
    simp only [Option.bind_some]
    rw [if_pos trivial]
    have e : ((encA l).2 != (encA l).2) = false := by simp
    rw [e, show (300 : Nat) = 299 + 1 from rfl]
    simp only [swagelaw02_InstRows.j0]
    rw [if_neg (by decide)]
    unfold encA
    by_cases h : ∀ x ∈ l, RP x
    · rw [if_pos h]
      simp only
      rw [if_pos trivial, da_eq (by rw [flat_len]; omega) (flat_byte h) (by omega), allD_flat h]
      simp only [Option.bind_some]
      rw [if_pos trivial, if_pos trivial, same_self l _ (by omega) (by omega)]
      simp only [Option.bind_some]
      rw [if_pos trivial, flat_len, w64 _ (by omega)]
      congr 1
      simp
    · rw [if_neg h]
      simp
end Go.Proofs.YtfdkhahpjbikiaaDoor.S
