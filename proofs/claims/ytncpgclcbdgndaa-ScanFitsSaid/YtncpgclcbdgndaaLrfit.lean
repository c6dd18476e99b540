import Derived.Test.YtncpgclcbdgndaaLfit
import Derived.Test.YtncpgclcbdgndaaLcomp
import Derived.Test.YtncpgclcbdgndaaS5
import Derived.Test.YtncpgclcbdgndaaS6
import Derived.Test.YtncpgclcbdgndaaS7
namespace Go.Proofs.Ytncpgclcbdgndaa.S
open Go.RowKit Go.Proofs.YtncpgclcbdgndaaW.PrintWords Go.Proofs.YtncpgclcbdgndaaW.PrintLast Go.Proofs.YtncpgclcbdgndaaW.PrintMore
set_option linter.unusedVariables false
/-! ### The document's Fits, Slots -/
theorem mn_min (a b : Int) : mn a b = min a b := by
  unfold mn
  (try split) <;> omega
theorem rcross_f (a b : S38) : swageref25_Cross.f a.f0 a.f1 a.f2 b.f0 b.f1 b.f2 = some (crossB a b) := by
  unfold swageref25_Cross.f crossB
  rw [mx_max, mn_min]
  congr 1
  rw [Bool.eq_iff_iff, Bool.and_eq_true, decide_eq_true_eq, decide_eq_true_eq, decide_eq_true_eq]
  omega
theorem rfits_l1 {l : List S38} {H : List S40} {regs : Int} (hl : l.length = H.length) (hn : H.length ≤ 60) {i F : Nat} {C : Bool} (hi : i < H.length) (cont : ∀ k, F < k → swageref26_Fits.l0 k l H regs ((i + 1 : Nat) : Int) = some C) :
    ∀ m k q, i - q = m → q ≤ i → F + m + 1 < k → swageref26_Fits.l1 k l H regs (i : Int) (q : Int) = some ((List.range' q (i - q)).all (okB l H i) && C)
  | 0, k + 1, q, h1, h2, h3 => by
    simp only [swageref26_Fits.l1]
    rw [if_neg (by omega), succ64 hi (by omega), cont k (by omega), show i - q = 0 by omega]
    rfl
  | m + 1, k + 1, q, h1, h2, h3 => by
    have ih := rfits_l1 hl hn hi cont m k (q + 1) (by omega) (by omega) (by omega)
    simp only [swageref26_Fits.l1]
    rw [if_pos (by omega), if_pos (by omega), if_pos (by omega), if_pos (by omega), if_pos (by omega), range'_cons (show q < i by omega), List.all_cons, succ64 (show q < H.length by omega) (by omega), ih]
    by_cases c1 : sameB (rd_T40 H (q : Int)) (rd_T40 H (i : Int)) = true
    · rw [if_pos (show ((rd_T40 H (q : Int)).f0 == (rd_T40 H (i : Int)).f0 && (rd_T40 H (q : Int)).f1 == (rd_T40 H (i : Int)).f1) = true from c1), if_pos (by omega), if_pos (by omega), rcross_f]
      simp only [Option.bind_some]
      by_cases c2 : crossB (rd_T38 l (i : Int)) (rd_T38 l (q : Int)) = true
      · rw [if_pos c2, show okB l H i q = false by unfold okB; rw [c1, c2]; rfl]
        rfl
      · rw [if_neg c2, show okB l H i q = true by unfold okB; rw [Bool.eq_false_iff.2 c2]; simp]
        rfl
    · rw [if_neg (show ¬ ((rd_T40 H (q : Int)).f0 == (rd_T40 H (i : Int)).f0 && (rd_T40 H (q : Int)).f1 == (rd_T40 H (i : Int)).f1) = true from c1), show okB l H i q = true by unfold okB; rw [Bool.eq_false_iff.2 c1]; rfl]
      rfl
theorem rfits_l0 {l : List S38} {H : List S40} {regs : Int} (hl : l.length = H.length) (hn : H.length ≤ 60) : ∀ m k i, H.length - i = m → i ≤ H.length → m * 64 < k → swageref26_Fits.l0 k l H regs (i : Int) = some ((List.range' i (H.length - i)).all (fitRow l H regs))
  | 0, k + 1, i, h1, h2, h3 => by
    simp only [swageref26_Fits.l0]
    rw [if_neg (by omega), h1]
    rfl
  | m + 1, k + 1, i, h1, h2, h3 => by
    have hi : i < H.length := by omega
    obtain ⟨k, rfl⟩ : ∃ k', k = k' + 1 := ⟨k - 1, by omega⟩
    have cont : ∀ k, m * 64 < k → swageref26_Fits.l0 k l H regs ((i + 1 : Nat) : Int) = some ((List.range' (i + 1) (H.length - (i + 1))).all (fitRow l H regs)) := fun k hk => rfits_l0 hl hn m k (i + 1) (by omega) (by omega) hk
    have h4 := rfits_l1 hl hn hi cont i k 0 (by omega) (Nat.zero_le _) (by omega)
    have hbad : swageref26_Fits.j1 (k + 1) l H regs (i : Int) true = some false := by simp only [swageref26_Fits.j1, if_pos]
    have hgood : swageref26_Fits.j1 (k + 1) l H regs (i : Int) false = some ((List.range' 0 (i - 0)).all (okB l H i) && (List.range' (i + 1) (H.length - (i + 1))).all (fitRow l H regs)) := by
      simp only [swageref26_Fits.j1, Bool.false_eq_true, if_false]
      exact h4
    have hres : ∀ c : Bool, homeB (rd_T40 H (i : Int)) regs = !c → swageref26_Fits.j1 (k + 1) l H regs (i : Int) c = some ((List.range' i (H.length - i)).all (fitRow l H regs)) := fun c hc => by
      rw [range'_cons hi, List.all_cons, show fitRow l H regs i = (homeB (rd_T40 H (i : Int)) regs && (List.range' 0 i).all (okB l H i)) from rfl, hc]
      cases c with
      | true => rw [hbad]; simp
      | false => rw [hgood, Nat.sub_zero, Bool.not_false, Bool.true_and]
    simp only [swageref26_Fits.l0]
    rw [if_pos (by omega), if_pos (by omega)]
    generalize rd_T40 H (i : Int) = x at hres ⊢
    by_cases c1 : x.f0 < -1
    · rw [if_pos c1]
      refine hres true ?_
      unfold homeB
      rw [if_neg (by omega), decide_eq_false (show ¬ 0 ≤ x.f0 by omega)]
      rfl
    · rw [if_neg c1]
      by_cases c2 : x.f0 ≥ 0
      · rw [if_pos c2]
        by_cases c3 : x.f0 ≥ regs
        · rw [if_pos c3]
          refine hres true ?_
          unfold homeB
          rw [if_neg (by omega), decide_eq_false (show ¬ x.f0 < regs by omega)]
          simp
        · rw [if_neg c3]
          by_cases c4 : x.f1 = 0
          · rw [if_pos c4]
            refine hres _ ?_
            unfold homeB
            rw [if_neg (by omega), decide_eq_true (show 0 ≤ x.f0 from c2), decide_eq_true (show x.f0 < regs by omega), c4]
            rfl
          · rw [if_neg c4]
            refine hres true ?_
            unfold homeB
            rw [if_neg (by omega)]
            simp [c4]
      · rw [if_neg c2]
        refine hres _ ?_
        unfold homeB
        rw [if_pos (show x.f0 = -1 by omega)]
        by_cases c5 : x.f1 < 0
        · rw [decide_eq_true c5, decide_eq_false (by omega)]; rfl
        · rw [decide_eq_false c5, decide_eq_true (by omega)]; rfl
theorem rfits_f (l : List S38) (H : List S40) (regs : Int) (hn : H.length ≤ 60) (k : Nat) (hk : 4000 < k) : swageref26_Fits.f k l H regs = some (fitsB l H regs) := by
  unfold swageref26_Fits.f fitsB
  by_cases hl : l.length = H.length
  · rw [if_pos (by rw [hl]), decide_eq_true hl, Bool.true_and]
    exact rfits_l0 hl hn H.length k 0 rfl (Nat.zero_le _) (by omega)
  · rw [if_neg (by omega), decide_eq_false hl]
    rfl
theorem rslots_loop (H : List S40) (hn : H.length ≤ 1000000000000) (hI : ∀ x ∈ H, i64 x.f1) : ∀ (m k i : Nat) (n : Int), H.length - i = m → i ≤ H.length → m < k → swageref26_Slots.l0 k H n (i : Int) = some ((H.drop i).foldl slotStep n)
  | 0, k + 1, i, n, h1, h2, h3 => by
    simp only [swageref26_Slots.l0]
    rw [if_neg (by omega), List.drop_of_length_le (by omega)]
    rfl
  | m + 1, k + 1, i, n, h1, h2, h3 => by
    have hi : i < H.length := by omega
    have hx : i64 (rd_T40 H (i : Int)).f1 := by rw [rd40 hi]; exact hI _ (List.getElem_mem hi)
    have ih := rslots_loop H hn hI m k (i + 1)
    simp only [swageref26_Slots.l0]
    rw [if_pos (by omega), if_pos (by omega), drop_rd40 hi, List.foldl_cons, succ64 hi hn]
    generalize rd_T40 H (i : Int) = x at hx ⊢
    have ihs := fun n => ih n (by omega) (by omega) (by omega)
    by_cases c1 : x.f0 = -1
    · rw [if_pos c1]
      by_cases c2 : x.f1 ≥ n
      · rw [if_pos c2]
        by_cases c3 : x.f1 < 9223372036854775807
        · have hw : wrap64 (x.f1 + 1) = x.f1 + 1 := w64 ⟨by obtain ⟨a, b⟩ := hx; omega, by omega⟩
          rw [if_pos c3, hw, ihs, show slotStep n x = x.f1 + 1 by unfold slotStep; rw [if_pos ⟨c1, c3⟩]; omega]
        · rw [if_neg c3, ihs, show slotStep n x = n by unfold slotStep; rw [if_neg (fun h => c3 h.2)]]
      · rw [if_neg c2, ihs, show slotStep n x = n by unfold slotStep; split <;> omega]
    · rw [if_neg c1, ihs, show slotStep n x = n by unfold slotStep; rw [if_neg (fun h => c1 h.1)]]
theorem rslots_f (H : List S40) (hn : H.length ≤ 1000000000000) (hI : ∀ x ∈ H, i64 x.f1) (k : Nat) (hk : H.length < k) : swageref26_Slots.f k H = some (slotsOf H) := by
  unfold swageref26_Slots.f
  have := rslots_loop H hn hI H.length k 0 0 rfl (Nat.zero_le _) hk
  simpa [slotsOf] using this
theorem ints_loop (H : List Int) (hn : H.length ≤ 1000000000000) : ∀ (m k i : Nat), H.length - i = m → i ≤ H.length → m < k → swageref02_Ints.l0 k H H (i : Int) = some true
  | 0, k + 1, i, h1, h2, h3 => by
    simp only [swageref02_Ints.l0]
    rw [if_neg (by omega)]
  | m + 1, k + 1, i, h1, h2, h3 => by
    have hi : i < H.length := by omega
    have ih := ints_loop H hn m k (i + 1) (by omega) (by omega) (by omega)
    simp only [swageref02_Ints.l0]
    rw [if_pos (by omega), if_pos (by omega), if_pos (by omega), succ64 hi hn, if_pos trivial]
    exact ih
theorem ints_f (H : List Int) (hn : H.length ≤ 1000000000000) (k : Nat) (hk : H.length < k) : swageref02_Ints.f k H H = some true := by
  unfold swageref02_Ints.f
  rw [if_pos rfl]
  exact ints_loop H hn H.length k 0 rfl (Nat.zero_le _) hk
end Go.Proofs.Ytncpgclcbdgndaa.S
