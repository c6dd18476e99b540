import Derived.Test.YtmfcmjcgajjiiaaDoorLtx
import Derived.Test.YtmfcmjcgajjiiaaDoorS11
namespace Go.Proofs.YtmfcmjcgajjiiaaDoor.S
open Go.RowKit Go.Proofs.YtmfcmjcgajjiiaaDoorW.PrintWords Go.Proofs.YtmfcmjcgajjiiaaDoorW.PrintLast Go.Proofs.YtmfcmjcgajjiiaaDoorW.PrintMore
set_option linter.unusedVariables false
set_option linter.unusedSimpArgs false
theorem ba_get (s : ByteArray) (i : Nat) (h : i < s.size) : s[i]'h = s.data[i]'h := rfl
theorem bt_lt {t : ByteArray} (ho : okS t) (i : Nat) (hi : i < t.size) : ¬ bt (t ++ (⟨#[10]⟩ : ByteArray)) (i : Int) = 10 := by
  unfold bt
  have e1 : (⟨#[10]⟩ : ByteArray).size = 1 := rfl
  have hs : ((i : Int).toNat) < (t ++ (⟨#[10]⟩ : ByteArray)).size := by rw [ByteArray.size_append]; omega
  rw [dif_pos hs]
  simp only [Int.toNat_natCast]
  have e2 : (t ++ (⟨#[10]⟩ : ByteArray))[i]'(by rw [ByteArray.size_append]; omega) = t[i] := by
    rw [ba_get, ba_get]
    simp only [ByteArray.data_append]
    rw [Array.getElem_append_left]
  rw [e2]
  have := ho t[i] (by rw [ba_get]; simp)
  omega
theorem bt_last (t : ByteArray) : bt (t ++ (⟨#[10]⟩ : ByteArray)) (t.size : Int) = 10 := by
  unfold bt
  have e1 : (⟨#[10]⟩ : ByteArray).size = 1 := rfl
  have hs : ((t.size : Int).toNat) < (t ++ (⟨#[10]⟩ : ByteArray)).size := by rw [ByteArray.size_append]; omega
  rw [dif_pos hs]
  simp only [Int.toNat_natCast]
  rw [ba_get]
  simp only [ByteArray.data_append]
  rw [Array.getElem_append_right (by exact Nat.le_refl _)]
  have : t.size - t.data.size = 0 := by show t.size - t.size = 0; omega
  simp [this]
theorem w64n {n : Nat} (h : n ≤ 9000000000000000000) : wrap64 ((n : Int) + 1) = ((n + 1 : Nat) : Int) := by unfold wrap64; omega
theorem texts_inner (x0 : List S38) (x3 : Bool) (x4 : ByteArray) (x5 : Int) (t : ByteArray) (ho : okS t) (ht : t.size ≤ 2000) (hx : x4.size ≤ 1000000) : ∀ m i k, t.size - i = m → i ≤ t.size →
    swagelaw05_AsmTexts.l1 (k + m + 2) x0 x3 x4 x5 (t ++ (⟨#[10]⟩ : ByteArray)) 0 (i : Int) = swagelaw05_AsmTexts.l0 k x0 x3 (x4 ++ (t ++ (⟨#[10]⟩ : ByteArray))) (wrap64 (x5 + 1))
  | 0, i, k, hm, hi => by
    obtain rfl : i = t.size := by omega
    have e1 : (⟨#[10]⟩ : ByteArray).size = 1 := rfl
    have hsz : (t ++ (⟨#[10]⟩ : ByteArray)).size = t.size + 1 := by rw [ByteArray.size_append, e1]
    have w1 := w64n (n := t.size) (by omega)
    have w2 : wrap64 ((0 : Int) + 1) = 1 := by decide +kernel
    have w3 : wrap64 (((t ++ (⟨#[10]⟩ : ByteArray)).size : Int) - 1) = (t.size : Int) := by rw [hsz]; unfold wrap64; omega
    show swagelaw05_AsmTexts.l1 (k + 1 + 1) _ _ _ _ _ _ _ = _
    simp only [swagelaw05_AsmTexts.l1]
    rw [if_pos (by rw [hsz]; omega), if_pos (by omega), if_pos (bt_last t), w1, w2]
    rw [if_neg (by rw [hsz]; omega), if_pos rfl, if_neg (by rw [hsz]; omega), w3, if_pos (by omega), if_pos (by rw [hsz]; omega), if_pos (bt_last t), if_pos (by rw [hsz]; omega)]
  | m + 1, i, k, hm, hi => by
    have e1 : (⟨#[10]⟩ : ByteArray).size = 1 := rfl
    have hsz : (t ++ (⟨#[10]⟩ : ByteArray)).size = t.size + 1 := by rw [ByteArray.size_append, e1]
    have ih := texts_inner x0 x3 x4 x5 t ho ht hx m (i + 1) k (by omega) (by omega)
    have w1 := w64n (n := i) (by omega)
    show swagelaw05_AsmTexts.l1 (k + m + 2 + 1) _ _ _ _ _ _ _ = _
    rw [swagelaw05_AsmTexts.l1]
    rw [if_pos (by rw [hsz]; omega), if_pos (by omega), if_neg (bt_lt ho i (by omega)), w1, ih]
theorem texts_outer (l : List S38) (hl : l.length ≤ 100) (h : ∀ x ∈ l, LI x) (s : ByteArray) (hs : ∀ k, 2 ≤ k → txt k l = some s) : ∀ m j p, l.length - j = m → j ≤ l.length → (∀ k, 2 ≤ k → txt k (l.take j) = some p) → p.size ≤ 1040 * j → ∃ k, swagelaw05_AsmTexts.l0 k l true p (j : Int) = some true
  | 0, j, p, hm, hj, hp, hz => by
    obtain rfl : j = l.length := by omega
    rw [List.take_length] at hp
    have e : p = s := by
      have h1 := hp 2 (Nat.le_refl _)
      rw [hs 2 (Nat.le_refl _)] at h1
      exact (Option.some.inj h1).symm
    subst e
    refine ⟨2 + 1, ?_⟩
    rw [swagelaw05_AsmTexts.l0, if_neg (by omega), if_pos rfl]
    unfold asm_Text.f
    rw [if_pos (by omega), hs 2 (Nat.le_refl _)]
    simp
  | m + 1, j, p, hm, hj, hp, hz => by
    have hjl : j < l.length := by omega
    have hmem := rd38_mem hjl
    obtain ⟨t, ht, ho⟩ := txB_ok _ (h _ hmem)
    have hts := txB_size (ht 2 (Nat.le_refl _))
    have hp1 : ∀ k, 2 ≤ k → txt k (l.take (j + 1)) = some (p ++ (t ++ (⟨#[10]⟩ : ByteArray))) := fun k hk => by
      rw [take_snoc38 hjl, txt_snoc, hp k hk]
      unfold txS
      simp [ht k hk]
    have e1 : (⟨#[10]⟩ : ByteArray).size = 1 := rfl
    obtain ⟨k0, hk0⟩ := texts_outer l hl h s hs m (j + 1) _ (by omega) (by omega) hp1 (by simp only [ByteArray.size_append]; omega)
    have w1 := w64n (n := j) (by omega)
    refine ⟨(k0 + t.size + 2) + 1, ?_⟩
    rw [swagelaw05_AsmTexts.l0, if_pos (by omega), if_pos (by omega), w1, if_pos (by omega), if_pos (by omega)]
    have e2 : (l.take (((j + 1 : Nat) : Int).toNat)).drop ((j : Int).toNat) = [rd_T38 l (j : Int)] := by
      simp only [Int.toNat_natCast]
      rw [take_snoc38 hjl, List.drop_append_of_le_length (by rw [List.length_take]; omega), List.drop_eq_nil_of_le (by rw [List.length_take]; omega), List.nil_append]
    rw [e2]
    unfold asm_Text.f
    rw [if_pos (by simp), txt_one (ht _ (by omega))]
    simp only [Option.bind_some]
    have hin := texts_inner l true p (j : Int) t ho (by omega) (by omega) t.size 0 k0 (by omega) (by omega)
    rw [w1] at hin
    rw [show ((0 : Nat) : Int) = 0 from rfl] at hin
    rw [hin]
    exact hk0
theorem texts_law (l : List S38) (h : ∀ x ∈ l, LI x) : ∃ k, swagelaw05_AsmTexts.f k l = some true := by
  by_cases hl : (l.length : Int) > 100
  · refine ⟨0, ?_⟩
    unfold swagelaw05_AsmTexts.f swagelaw05_small.f
    simp only [Option.bind_some]
    rw [if_pos hl]
  · obtain ⟨s, hs⟩ := txt_ok l h
    obtain ⟨k, hk⟩ := texts_outer l (by omega) h s hs l.length 0 ⟨#[]⟩ (by omega) (by omega) (fun k hk => rfl) (by decide)
    refine ⟨k, ?_⟩
    unfold swagelaw05_AsmTexts.f swagelaw05_small.f
    simp only [Option.bind_some]
    rw [if_neg hl]
    exact hk
end Go.Proofs.YtmfcmjcgajjiiaaDoor.S
