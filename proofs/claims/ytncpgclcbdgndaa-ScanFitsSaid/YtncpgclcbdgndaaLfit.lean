import Derived.Test.YtncpgclcbdgndaaLh
import Derived.Test.YtncpgclcbdgndaaS8
namespace Go.Proofs.Ytncpgclcbdgndaa.S
open Go.RowKit Go.Proofs.YtncpgclcbdgndaaW.PrintWords Go.Proofs.YtncpgclcbdgndaaW.PrintLast Go.Proofs.YtncpgclcbdgndaaW.PrintMore
set_option linter.unusedVariables false
/-! ### Fits -/
def homeB (x : S40) (regs : Int) : Bool := if x.f0 = -1 then decide (0 ≤ x.f1) else decide (0 ≤ x.f0) && decide (x.f0 < regs) && (x.f1 == 0)
theorem home_f (x : S40) (regs : Int) : scan_home.f x.f0 x.f1 regs = some (homeB x regs) := by
  unfold scan_home.f homeB
  by_cases c1 : x.f0 = -1
  · simp [c1]
  · rw [if_neg c1, if_neg c1]
    by_cases c2 : 0 ≤ x.f0
    · rw [if_pos (show x.f0 ≥ 0 from c2)]
      by_cases c3 : x.f0 < regs
      · simp [c2, c3]
      · simp [c3]
    · rw [if_neg (show ¬ x.f0 ≥ 0 from c2)]
      simp [c2]
def crossB (a b : S38) : Bool := decide (max a.f1 b.f1 ≤ a.f2) && decide (max a.f1 b.f1 ≤ b.f2)
theorem cross_f (a b : S38) : spans_Cross.f a.f0 a.f1 a.f2 b.f0 b.f1 b.f2 = some (crossB a b) := by
  unfold spans_Cross.f spans_has.f crossB
  rw [mx_max, if_pos (by omega), if_pos (by omega)]
  simp only [Option.bind_some]
  by_cases c1 : max a.f1 b.f1 ≤ a.f2 <;> simp [c1]
def sameB (x y : S40) : Bool := x.f0 == y.f0 && x.f1 == y.f1
def okB (l : List S38) (H : List S40) (i q : Nat) : Bool := !(sameB (rd_T40 H (q : Int)) (rd_T40 H (i : Int)) && crossB (rd_T38 l (i : Int)) (rd_T38 l (q : Int)))
def fitRow (l : List S38) (H : List S40) (regs : Int) (i : Nat) : Bool := homeB (rd_T40 H (i : Int)) regs && (List.range' 0 i).all (okB l H i)
def fitsB (l : List S38) (H : List S40) (regs : Int) : Bool := decide (l.length = H.length) && (List.range' 0 H.length).all (fitRow l H regs)
theorem range'_cons {q i : Nat} (h : q < i) : List.range' q (i - q) = q :: List.range' (q + 1) (i - (q + 1)) := by
  obtain ⟨m, rfl⟩ : ∃ m, i = q + 1 + m := ⟨i - (q + 1), by omega⟩
  rw [show q + 1 + m - q = m + 1 by omega, show q + 1 + m - (q + 1) = m by omega, List.range'_succ]
theorem fits_l1 {l : List S38} {H : List S40} {regs : Int} (hl : l.length = H.length) (hn : H.length ≤ 60) {i F : Nat} {C : Bool} (hi : i < H.length) (cont : ∀ k, F < k → scan_Fits.l0 k l H regs H (H.length : Int) ((i + 1 : Nat) : Int) = some C) :
    ∀ m k q, i - q = m → q ≤ i → F + m + 1 < k → scan_Fits.l1 k l H regs (i : Int) H (H.length : Int) (i : Int) (i : Int) (q : Int) (rd_T40 H (i : Int)).f0 (rd_T40 H (i : Int)).f1 = some ((List.range' q (i - q)).all (okB l H i) && C)
  | 0, k + 1, q, h1, h2, h3 => by
    simp only [scan_Fits.l1]
    rw [if_neg (by omega), succ64 hi (by omega), cont k (by omega), show i - q = 0 by omega]
    rfl
  | m + 1, k + 1, q, h1, h2, h3 => by
    have ih := fits_l1 hl hn hi cont m k (q + 1) (by omega) (by omega) (by omega)
    simp only [scan_Fits.l1]
    rw [if_pos (by omega), if_pos (by omega), if_pos (by omega), range'_cons (show q < i by omega), List.all_cons, succ64 (show q < H.length by omega) (by omega), ih]
    by_cases c1 : sameB (rd_T40 H (q : Int)) (rd_T40 H (i : Int)) = true
    · rw [if_pos (show ((rd_T40 H (q : Int)).f0 == (rd_T40 H (i : Int)).f0 && (rd_T40 H (q : Int)).f1 == (rd_T40 H (i : Int)).f1) = true from c1), if_pos (by omega), if_pos (by omega), if_pos (by omega), cross_f]
      simp only [Option.bind_some]
      by_cases c2 : crossB (rd_T38 l (i : Int)) (rd_T38 l (q : Int)) = true
      · rw [if_pos c2, show okB l H i q = false by unfold okB; rw [c1, c2]; rfl]
        rfl
      · rw [if_neg c2, show okB l H i q = true by unfold okB; rw [Bool.eq_false_iff.2 c2]; simp]
        rfl
    · rw [if_neg (show ¬ ((rd_T40 H (q : Int)).f0 == (rd_T40 H (i : Int)).f0 && (rd_T40 H (q : Int)).f1 == (rd_T40 H (i : Int)).f1) = true from c1), show okB l H i q = true by unfold okB; rw [Bool.eq_false_iff.2 c1]; rfl]
      rfl
theorem fits_l0 {l : List S38} {H : List S40} {regs : Int} (hl : l.length = H.length) (hn : H.length ≤ 60) : ∀ m k i, H.length - i = m → i ≤ H.length → m * 64 < k → scan_Fits.l0 k l H regs H (H.length : Int) (i : Int) = some ((List.range' i (H.length - i)).all (fitRow l H regs))
  | 0, k + 1, i, h1, h2, h3 => by
    simp only [scan_Fits.l0]
    rw [if_neg (by omega), h1]
    rfl
  | m + 1, k + 1, i, h1, h2, h3 => by
    have hi : i < H.length := by omega
    have cont : ∀ k, m * 64 < k → scan_Fits.l0 k l H regs H (H.length : Int) ((i + 1 : Nat) : Int) = some ((List.range' (i + 1) (H.length - (i + 1))).all (fitRow l H regs)) := fun k hk => fits_l0 hl hn m k (i + 1) (by omega) (by omega) hk
    have h4 := fits_l1 hl hn hi cont i k 0 (by omega) (Nat.zero_le _) (by omega)
    simp only [scan_Fits.l0]
    rw [if_pos (by omega), if_pos (by omega), if_pos (by omega), home_f, range'_cons hi, List.all_cons]
    simp only [Option.bind_some]
    unfold fitRow
    cases c1 : homeB (rd_T40 H (i : Int)) regs with
    | false => simp
    | true =>
      rw [if_pos rfl, Bool.true_and]
      exact h4
theorem fits_f (l : List S38) (H : List S40) (regs : Int) (hn : H.length ≤ 60) (k : Nat) (hk : 4000 < k) : scan_Fits.f k l H regs = some (fitsB l H regs) := by
  unfold scan_Fits.f fitsB
  by_cases hl : l.length = H.length
  · rw [if_pos (by rw [hl]), decide_eq_true hl, Bool.true_and]
    exact fits_l0 hl hn H.length k 0 rfl (Nat.zero_le _) (by omega)
  · rw [if_neg (by omega), decide_eq_false hl]
    rfl
end Go.Proofs.Ytncpgclcbdgndaa.S
