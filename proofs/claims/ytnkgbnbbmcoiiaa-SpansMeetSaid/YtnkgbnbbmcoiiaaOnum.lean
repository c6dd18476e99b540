import Derived.Test.YtnkgbnbbmcoiiaaOout
import Derived.Test.YtnkgbnbbmcoiiaaOora
import Derived.Test.YtnkgbnbbmcoiiaaS7
namespace Go.Proofs.Ytnkgbnbbmcoiiaa.S
open Go.RowKit Go.IM Go.Proofs.YtnkgbnbbmcoiiaaW.PrintWords Go.Proofs.YtnkgbnbbmcoiiaaW.PrintLast Go.Proofs.YtnkgbnbbmcoiiaaW.PrintMore
set_option linter.unusedVariables false
set_option linter.unusedSimpArgs false
/-! ### spans.Number -/
/-- Where block j starts. -/
def pos (bs : List S43) (j : Nat) : Nat := (plcs bs j).length + j
def numL (bs : List S43) : List Int := (List.range (bs.length + 1)).map fun j => (pos bs j : Int)
theorem pos_zero (bs : List S43) : pos bs 0 = 0 := by simp [pos, plcs]
theorem pos_succ (bs : List S43) (j : Nat) : pos bs (j + 1) = pos bs j + opLen bs j + 1 := by
  unfold pos
  rw [plcs_succ, List.length_append, rowP, List.length_map, List.length_range]
  omega
theorem pos_mono (bs : List S43) {i j : Nat} (h : i ≤ j) : pos bs i ≤ pos bs j := by
  induction j with
  | zero => obtain rfl : i = 0 := by omega
            exact Nat.le_refl _
  | succ j ih =>
    by_cases e : i = j + 1
    · subst e; exact Nat.le_refl _
    · have := ih (by omega)
      rw [pos_succ]; omega
theorem pos_le {p : Int} {bs : List S43} {fn : Int} (h : RightP p bs fn) {j : Nat} (hj : j ≤ bs.length) : pos bs j ≤ 20480 := by
  have h1 := pos_mono bs hj
  have h2 := h.few
  have h3 := h.len.2
  unfold pos at h1 ⊢
  omega
theorem numL_length (bs : List S43) : (numL bs).length = bs.length + 1 := by simp [numL]
theorem rd_num (bs : List S43) {j : Nat} (h : j ≤ bs.length) : rd (numL bs) (j : Int) = (pos bs j : Int) := by
  unfold rd numL
  have hj : j < bs.length + 1 := by omega
  simp [List.getD_eq_getElem?_getD, hj]
theorem num_step {a b c : Nat} (hs : c = a + b + 1) (hc : c ≤ 20480) : wrap64 ((wrap64 ((a : Int) + (b : Int))) + 1) = (c : Int) := by
  subst hs
  unfold wrap64
  omega
theorem num_inc {j n : Nat} (h : j < n) (hn : n ≤ 4096) : wrap64 ((j : Int) + 1) = ((j + 1 : Nat) : Int) := by
  unfold wrap64
  omega
def numT (bs : List S43) (j : Nat) : List Int := (List.range (j + 1)).map fun j => (pos bs j : Int)
theorem numT_length (bs : List S43) (j : Nat) : (numT bs j).length = j + 1 := by simp [numT]
theorem numT_rd (bs : List S43) (j : Nat) : rd (numT bs j) (j : Int) = (pos bs j : Int) := by
  unfold rd numT
  simp [List.getD_eq_getElem?_getD]
theorem numT_succ (bs : List S43) (j : Nat) : numT bs (j + 1) = numT bs j ++ [(pos bs (j + 1) : Int)] := by
  unfold numT
  rw [List.range_succ (n := j + 1), List.map_append]
  rfl
theorem num_loop {p : Int} {bs : List S43} {fn : Int} (h : RightP p bs fn) : ∀ (m j k : Nat), j + m = bs.length → m < k → spans_Number.l0 k (numT bs j) bs (bs.length : Int) (j : Int) = some (numL bs)
  | m, j, 0, hm, hk => absurd hk (Nat.not_lt_zero _)
  | m, j, k + 1, hm, hk => by
    have hl := h.len.2
    rw [spans_Number.l0]
    by_cases e : m = 0
    · have e2 : j = bs.length := by omega
      subst e2
      rw [if_neg (Int.lt_irrefl _)]
      rfl
    · have hj : j < bs.length := by omega
      have hp := pos_le h (j := j + 1) hj
      have hw := num_step (pos_succ bs j) hp
      have hw1 := num_inc hj hl
      have hi : (j : Int) < (bs.length : Int) := Int.ofNat_lt.2 hj
      have h3 : (j : Int) < ((numT bs j).length : Int) := by rw [numT_length]; exact Int.ofNat_lt.2 (Nat.lt_succ_self _)
      have h4 : (numT bs j).length < 17592186044416 := by rw [numT_length]; omega
      rw [if_pos hi, if_pos (Int.natCast_nonneg _), if_pos hi, if_pos h3, if_pos h4, numT_rd]
      have hw' : wrap64 ((wrap64 ((pos bs j : Int) + ((rd_T43 bs (j : Int)).f0.length : Int))) + 1) = (pos bs (j + 1) : Int) := hw
      rw [hw', hw1, ← numT_succ]
      exact num_loop h (m - 1) (j + 1) k (by omega) (by omega)
theorem numf_of (k : Nat) (p : Int) (bs : List S43) (b : Bool) (h : code_Right.f p bs 256 = some b) (hb : b = true) : spans_Number.f k p bs = spans_Number.l0 k [0] bs (bs.length : Int) 0 := by
  subst hb
  unfold spans_Number.f
  rw [h, Option.bind_some, if_pos rfl]
theorem num0 (bs : List S43) : numT bs 0 = [0] := by
  simp [numT, pos_zero]
theorem number_f {p : Int} {bs : List S43} (hR : rightF p bs 256 = true) : spans_Number.f (bs.length + 1) p bs = some (numL bs) := by
  rw [numf_of _ p bs _ (code_Right.f.eq_1 p bs 256) hR, ← num0 bs]
  exact num_loop (rightF_iff hR) bs.length 0 (bs.length + 1) (Nat.zero_add _) (Nat.lt_succ_self _)
theorem number_ok (p : Int) (A : Option Addr) (c : Nat) (bs : List S43) (w : World) (hC : Kd.C k43 w A bs.length bs) (hc : bs.length ≤ c) (hR : rightF p bs 256 = true) :
    Calls Try.prog 19 #[.agg #[.int .i64 p, .slice A bs.length c]] w fun e w' => ∃ ad c1, e = .returned (.slice (some ad) (numL bs).length c1) ∧ Kd.C (Kd.int .i64) w' (some ad) (numL bs).length (numL bs) ∧ Below w.heap.size w w' := by
  refine (spans_Number.calls (bs.length + 1) p A c bs (numL bs) w hC hc (number_f hR)).mono ?_
  rintro e w' ⟨v, rfl, hr, hb⟩
  obtain ⟨A1, c1, rfl, _, hC1⟩ := Kd.R_reads hr
  obtain ⟨ad, rfl, _⟩ := hC1.2.2 (by rw [numL_length]; omega)
  exact ⟨ad, c1, rfl, hC1, hb⟩
end Go.Proofs.Ytnkgbnbbmcoiiaa.S
