import Derived.Test.YtmfcmjcgajjiiaaDoorOretext
namespace Go.Proofs.YtmfcmjcgajjiiaaDoor.S
open Go.RowKit Go.Proofs.YtmfcmjcgajjiiaaDoorW.PrintWords Go.Proofs.YtmfcmjcgajjiiaaDoorW.PrintLast Go.Proofs.YtmfcmjcgajjiiaaDoorW.PrintMore
set_option linter.unusedVariables false
set_option linter.unusedSimpArgs false
/-! ### Texts of lines hold no line feed -/
def okS (s : ByteArray) : Prop := ∀ c ∈ s.data.toList, c.toNat ≠ 10
theorem okS_append {a b : ByteArray} (ha : okS a) (hb : okS b) : okS (a ++ b) := by
  intro c hc
  simp only [ByteArray.data_append, Array.toList_append, List.mem_append] at hc
  rcases hc with hc | hc
  · exact ha c hc
  · exact hb c hc
theorem dec_dig (u : Nat) : ∀ c ∈ Lib.decDigits u, 48 ≤ c.toNat ∧ c.toNat ≤ 57 := by
  induction u using Nat.strongRecOn with
  | _ u ih =>
    intro c hc
    rw [Lib.decDigits] at hc
    split at hc
    · simp only [List.mem_singleton] at hc
      subst hc
      rw [UInt8.toNat_ofNat']
      omega
    · simp only [List.mem_append, List.mem_singleton] at hc
      rcases hc with hc | rfl
      · exact ih (u / 10) (by omega) c hc
      · rw [UInt8.toNat_ofNat']
        omega
theorem okS_itoa (n : Int) : okS (itoaB n) := by
  intro c hc
  unfold itoaB Lib.itoa at hc
  simp only at hc
  split at hc
  · simp only [List.mem_cons] at hc
    rcases hc with rfl | hc
    · decide
    · have := dec_dig _ c hc
      omega
  · have := dec_dig _ c hc
    omega
theorem okS_lit (l : List UInt8) (h : ∀ c ∈ l, c.toNat ≠ 10) : okS ⟨l.toArray⟩ := fun c hc => h c hc
theorem okS_addS (b : Bool) (p s : ByteArray) (n : Int) (hp : okS p) (hs : okS s) : okS (addS b p s n) := by
  unfold addS
  split
  · exact okS_append hs (okS_append (okS_append (okS_lit [32] (by decide)) hp) (okS_itoa n))
  · exact hs
theorem names_ok : ∀ i : Fin 15, ∀ c ∈ (shapeTab.getD i.val (⟨#[]⟩, false, false, false, false, false, false)).1.data.toList, c.toNat ≠ 10 := by decide +kernel
theorem names_sz : ∀ i : Fin 15, (shapeTab.getD i.val (⟨#[]⟩, false, false, false, false, false, false)).1.size ≤ 10 := by decide +kernel
theorem textS_ok (nm : ByteArray) (hn : okS nm) (sa sb sc si : Bool) (a b c imm : Int) : okS (textS nm sa sb sc si a b c imm) := by
  unfold textS
  have e0 : okS (⟨#[]⟩ : ByteArray) := okS_lit [] (by simp)
  have e1 : okS (⟨#[114]⟩ : ByteArray) := okS_lit [114] (by decide)
  refine okS_addS _ _ _ _ e0 (okS_addS _ _ _ _ e1 (okS_addS _ _ _ _ e1 (okS_addS _ _ _ _ e1 ?_)))
  split
  · exact okS_append hn (okS_append (okS_lit [46] (by decide)) (okS_itoa imm))
  · exact hn
theorem textS_size (nm : ByteArray) (hn : nm.size ≤ 10) (sa sb sc si : Bool) (a b c imm : Int) (ha : I64 a) (hb : I64 b) (hc : I64 c) (hi : I64 imm) : (textS nm sa sb sc si a b c imm).size ≤ 200 := by
  unfold textS
  have e0 : (⟨#[]⟩ : ByteArray).size = 0 := rfl
  have e1 : (⟨#[114]⟩ : ByteArray).size = 1 := rfl
  have e2 : (⟨#[46]⟩ : ByteArray).size = 1 := rfl
  have s0 : ((if sc = true then nm ++ ((⟨#[46]⟩ : ByteArray) ++ itoaB imm) else nm) : ByteArray).size ≤ 32 := by
    split
    · have := itoaB_size imm hi.1 hi.2
      simp only [ByteArray.size_append]
      omega
    · omega
  have s1 := addS_size sa ⟨#[114]⟩ (if sc = true then nm ++ ((⟨#[46]⟩ : ByteArray) ++ itoaB imm) else nm) a ha.1 ha.2
  have s2 := addS_size sb ⟨#[114]⟩ (addS sa ⟨#[114]⟩ (if sc = true then nm ++ ((⟨#[46]⟩ : ByteArray) ++ itoaB imm) else nm) a) b hb.1 hb.2
  have s3 := addS_size sc ⟨#[114]⟩ (addS sb ⟨#[114]⟩ (addS sa ⟨#[114]⟩ (if sc = true then nm ++ ((⟨#[46]⟩ : ByteArray) ++ itoaB imm) else nm) a) b) c hc.1 hc.2
  have s4 := addS_size (if sc = true then false else si) ⟨#[]⟩ (addS sc ⟨#[114]⟩ (addS sb ⟨#[114]⟩ (addS sa ⟨#[114]⟩ (if sc = true then nm ++ ((⟨#[46]⟩ : ByteArray) ++ itoaB imm) else nm) a) b) c) imm hi.1 hi.2
  omega
theorem itext_ok {k : Nat} (hk : 2 ≤ k) (op a b c imm : Int) (ha : I64 a) (hb : I64 b) (hc : I64 c) (hi : I64 imm) : ∃ t, (∀ k, 2 ≤ k → inst_Text.f k op a b c imm = some t) ∧ okS t ∧ t.size ≤ 200 := by
  by_cases hR : RightP op a b c imm
  · obtain ⟨t, e, _, ht⟩ := text_right hk ha hb hc hi hR
    refine ⟨t, fun k' hk' => ?_, ?_, ?_⟩
    · obtain ⟨t', e', _, ht'⟩ := text_right hk' ha hb hc hi hR
      rw [e', ht, ht']
    · rw [ht]
      have := names_ok ⟨op.toNat, by have := hR.1; have := hR.2.1; omega⟩
      exact textS_ok _ this _ _ _ _ _ _ _ _
    · rw [ht]
      have := names_sz ⟨op.toNat, by have := hR.1; have := hR.2.1; omega⟩
      exact textS_size _ this _ _ _ _ _ _ _ _ ha hb hc hi
  · exact ⟨⟨#[63]⟩, fun k' hk' => text_wrong hk' hi hR, okS_lit [63] (by decide), by decide⟩
theorem itoa_f {n : Int} (h : I64 n) : strconv_Itoa.f n = some (itoaB n) := by
  unfold strconv_Itoa.f
  rw [if_pos ⟨h.1, h.2⟩]
  rfl
theorem txB_ok (x : S38) (h : LI x) : ∃ t, (∀ k, 2 ≤ k → txB k x = some t) ∧ okS t := by
  obtain ⟨h0, h1, h2, h3, h4, h5, h6⟩ := h
  by_cases hz : x.f0 = 0
  · obtain ⟨u, hu, ho, hs⟩ := itext_ok (k := 2) (Nat.le_refl _) x.f1.f0 x.f1.f1 x.f1.f2 x.f1.f3 x.f1.f4 h2 h3 h4 h5
    by_cases hf : x.f2 = 0
    · refine ⟨(⟨#[32, 32]⟩ : ByteArray) ++ u, fun k hk => ?_, okS_append (okS_lit [32, 32] (by decide)) ho⟩
      unfold txB
      rw [if_pos hz, hu k hk]
      simp only [Option.bind_some]
      rw [if_pos (by omega), if_pos hf]
    · refine ⟨((⟨#[32, 32]⟩ : ByteArray) ++ u) ++ ((⟨#[32, 62, 76]⟩ : ByteArray) ++ itoaB x.f2), fun k hk => ?_, okS_append (okS_append (okS_lit [32, 32] (by decide)) ho) (okS_append (okS_lit [32, 62, 76] (by decide)) (okS_itoa _))⟩
      unfold txB
      rw [if_pos hz, hu k hk]
      simp only [Option.bind_some]
      rw [if_pos (by omega), if_neg hf, itoa_f h6]
      rfl
  · refine ⟨((⟨#[76]⟩ : ByteArray) ++ itoaB x.f0) ++ (⟨#[58]⟩ : ByteArray), fun k hk => ?_, okS_append (okS_append (okS_lit [76] (by decide)) (okS_itoa _)) (okS_lit [58] (by decide))⟩
    unfold txB
    rw [if_neg hz, itoa_f h0]
    rfl
theorem empty_app (a : ByteArray) : (⟨#[]⟩ : ByteArray) ++ a = a := by
  apply ByteArray.ext
  simp [ByteArray.data_append]
theorem txt_one {k : Nat} {x : S38} {t : ByteArray} (h : txB k x = some t) : txt k [x] = some (t ++ (⟨#[10]⟩ : ByteArray)) := by
  unfold txt txS
  simp [h, empty_app]
theorem snoc_ind {α : Type} {P : List α → Prop} (h0 : P []) (h1 : ∀ l x, P l → P (l ++ [x])) (l : List α) : P l := by
  rw [← List.reverse_reverse l]
  induction l.reverse with
  | nil => exact h0
  | cons x m ih => rw [List.reverse_cons]; exact h1 _ _ ih
theorem txt_ok (l : List S38) (h : ∀ x ∈ l, LI x) : ∃ s, ∀ k, 2 ≤ k → txt k l = some s := by
  revert h
  refine snoc_ind (P := fun l => (∀ x ∈ l, LI x) → ∃ s, ∀ k, 2 ≤ k → txt k l = some s) (fun _ => ⟨⟨#[]⟩, fun _ _ => rfl⟩) (fun l x ih h => ?_) l
  · obtain ⟨s, hs⟩ := ih fun y hy => h y (by simp [hy])
    obtain ⟨t, ht, _⟩ := txB_ok x (h x (by simp))
    refine ⟨s ++ (t ++ (⟨#[10]⟩ : ByteArray)), fun k hk => ?_⟩
    rw [txt_snoc, hs k hk]
    unfold txS
    simp [ht k hk]
/-! ### AsmTexts' law -/
end Go.Proofs.YtmfcmjcgajjiiaaDoor.S
