import Derived.Test.YtnkgbnbbmcoiiaaLsm
import Derived.Test.YtnkgbnbbmcoiiaaS4
import Derived.Test.YtnkgbnbbmcoiiaaS7
import Derived.Test.YtnkgbnbbmcoiiaaS8
import Derived.Test.YtnkgbnbbmcoiiaaS3
import Derived.Test.YtnkgbnbbmcoiiaaS5
import Derived.Test.YtnkgbnbbmcoiiaaS6
import Derived.Test.YtnkgbnbbmcoiiaaRows
import Derived.WalkKit
import Derived.ProofKit
import Derived.OpenShut
import Derived.ChangeOld
import Derived.Below
import Derived.Test.YtnkgbnbbmcoiiaaOpw
import Derived.Deep.Slices
namespace Go.Proofs.Ytnkgbnbbmcoiiaa.S
open Go.RowKit Go.IM Go.Proofs.YtnkgbnbbmcoiiaaW.PrintWords Go.Proofs.YtnkgbnbbmcoiiaaW.PrintLast Go.Proofs.YtnkgbnbbmcoiiaaW.PrintMore
set_option linter.unusedVariables false
set_option linter.unusedSimpArgs false
/-! ### swagelaw25.small -/
theorem C0 (w : World) : Kd.C (Kd.int .i64) w none 0 ([] : List Int) := ⟨rfl, by decide, fun h => absurd h (by decide)⟩
end Go.Proofs.Ytnkgbnbbmcoiiaa.S
namespace Go.Proofs.Ytnkgbnbbmcoiiaa.S
open Go.RowKit Go.IM Go.Proofs.YtnkgbnbbmcoiiaaW.PrintWords Go.Proofs.YtnkgbnbbmcoiiaaW.PrintLast Go.Proofs.YtnkgbnbbmcoiiaaW.PrintMore
set_option linter.unusedVariables false
set_option linter.unusedSimpArgs false
/-! ### swageref14.SameOp -/
theorem ints_l0 (xs ys : List Int) (hx : xs.length ≤ 4096) (hxy : xs.length = ys.length) : ∀ m j k, j + m = xs.length → m < k → swageref02_Ints.l0 k xs ys (j : Int) = some (decide (xs.drop j = ys.drop j))
  | m, j, 0, _, hk => absurd hk (Nat.not_lt_zero _)
  | 0, j, k + 1, hm, hk => by
    rw [swageref02_Ints.l0, if_neg (by omega), List.drop_eq_nil_of_le (by omega), List.drop_eq_nil_of_le (by omega)]
    simp
  | m + 1, j, k + 1, hm, hk => by
    have hj : j < xs.length := by omega
    have hj' : j < ys.length := by omega
    rw [swageref02_Ints.l0, if_pos (by omega), if_pos (Int.natCast_nonneg j), if_pos (by omega), rd_mem hj, rd_mem hj', List.drop_eq_getElem_cons hj, List.drop_eq_getElem_cons hj']
    by_cases e : xs[j] = ys[j]
    · rw [if_pos e, num_inc hj hx, ints_l0 xs ys hx hxy m (j + 1) k (by omega) (by omega)]
      congr 1
      exact decide_eq_decide.2 ⟨fun h => by rw [e, h], fun h => (List.cons.inj h).2⟩
    · rw [if_neg e]
      congr 1
      exact (decide_eq_false (fun h => e (List.cons.inj h).1)).symm
theorem ints_dec (xs ys : List Int) (hx : xs.length ≤ 4096) : swageref02_Ints.f (xs.length + 1) xs ys = some (decide (xs = ys)) := by
  unfold swageref02_Ints.f
  by_cases h : xs.length = ys.length
  · rw [if_pos (show (xs.length : Int) = (ys.length : Int) by rw [h])]
    have := ints_l0 xs ys hx h xs.length 0 (xs.length + 1) (Nat.zero_add _) (Nat.lt_succ_self _)
    rw [List.drop_zero, List.drop_zero] at this
    exact this
  · rw [if_neg (show ¬ (xs.length : Int) = (ys.length : Int) from fun e => h (Int.ofNat.inj e))]
    congr 1
    exact (decide_eq_false (fun e => h (by rw [e]))).symm
theorem S45.ext' {x y : S45} (h0 : x.f0 = y.f0) (h1 : x.f1 = y.f1) (h2 : x.f2 = y.f2) (h3 : x.f3 = y.f3) (h4 : x.f4 = y.f4) (h5 : x.f5 = y.f5) : x = y := by
  cases x; cases y; simp_all
open Classical in
theorem sameOp_f (x y : S45) (hx : x.f5.length ≤ 4096) : swageref14_SameOp.f (x.f5.length + 1) x.f0 x.f1 x.f2 x.f3 x.f4 x.f5 y.f0 y.f1 y.f2 y.f3 y.f4 y.f5 = some (decide (x = y)) := by
  unfold swageref14_SameOp.f
  rw [ints_dec x.f5 y.f5 hx, Option.bind_some]
  by_cases h5 : x.f5 = y.f5
  · rw [if_pos (by simp [h5])]
    by_cases h0 : x.f0 = y.f0
    · rw [if_pos h0]
      by_cases h1 : x.f1 = y.f1
      · rw [if_pos h1]
        by_cases h2 : x.f2 = y.f2
        · rw [if_pos h2]
          by_cases h3 : x.f3 = y.f3
          · rw [if_pos h3]
            congr 1
            rw [show (x.f4 == y.f4) = decide (x.f4 = y.f4) from rfl]
            exact decide_eq_decide.2 ⟨fun h4 => S45.ext' h0 h1 h2 h3 h4 h5, fun e => by rw [e]⟩
          · rw [if_neg h3, decide_eq_false (fun e => h3 (by rw [e]))]
        · rw [if_neg h2, decide_eq_false (fun e => h2 (by rw [e]))]
      · rw [if_neg h1, decide_eq_false (fun e => h1 (by rw [e]))]
    · rw [if_neg h0, decide_eq_false (fun e => h0 (by rw [e]))]
  · rw [if_neg (by simp [h5]), decide_eq_false (fun e => h5 (by rw [e]))]
open Classical in
theorem sameOp_any (x y : S45) (A A' : Option Addr) (c c' : Nat) (w : World) (hx : x.f5.length ≤ 4096) (hC : Kd.C (Kd.int .i64) w A x.f5.length x.f5) (hc : x.f5.length ≤ c) (hC' : Kd.C (Kd.int .i64) w A' y.f5.length y.f5) (hc' : y.f5.length ≤ c') :
    Calls Try.prog 38 #[.agg #[.int .i64 x.f0, .int .i64 x.f1, .int .i64 x.f2, .int .i64 x.f3, .int .i64 x.f4, .slice A x.f5.length c], .agg #[.int .i64 y.f0, .int .i64 y.f1, .int .i64 y.f2, .int .i64 y.f3, .int .i64 y.f4, .slice A' y.f5.length c']] w fun e w' => e = .returned (.bool (decide (x = y))) ∧ Below w.heap.size w w' :=
  swageref14_SameOp.calls (x.f5.length + 1) x.f0 x.f1 x.f2 x.f3 x.f4 A c x.f5 y.f0 y.f1 y.f2 y.f3 y.f4 A' c' y.f5 _ w hC hc hC' hc' (sameOp_f x y hx)
end Go.Proofs.Ytnkgbnbbmcoiiaa.S
namespace Go.Proofs.Ytnkgbnbbmcoiiaa.S
open Go.RowKit Go.IM Go.Proofs.YtnkgbnbbmcoiiaaW.PrintWords Go.Proofs.YtnkgbnbbmcoiiaaW.PrintLast Go.Proofs.YtnkgbnbbmcoiiaaW.PrintMore
set_option linter.unusedVariables false
set_option linter.unusedSimpArgs false
/-! ### What is dead, plain -/
theorem index_l0 (l : List Int) (x : Int) (hl : l.length ≤ 4096) : ∀ m j k, j + m = l.length → m < k → ∃ r, slices_Index_int_int.l0 k l x (l.length : Int) (j : Int) = some r ∧ (0 ≤ r ↔ x ∈ l.drop j)
  | m, j, 0, hm, hk => absurd hk (Nat.not_lt_zero _)
  | 0, j, k + 1, hm, hk => by
    refine ⟨-1, by rw [slices_Index_int_int.l0, if_neg (by omega)], ?_⟩
    rw [List.drop_eq_nil_of_le (by omega)]
    simp
  | m + 1, j, k + 1, hm, hk => by
    have hj : j < l.length := by omega
    rw [slices_Index_int_int.l0, if_pos (by omega), if_pos (Int.natCast_nonneg j), if_pos (by omega), rd_mem hj, List.drop_eq_getElem_cons hj]
    by_cases e : x = l[j]
    · rw [if_pos e]
      exact ⟨(j : Int), rfl, ⟨fun _ => by rw [e]; exact List.mem_cons_self, fun _ => Int.natCast_nonneg j⟩⟩
    · rw [if_neg e, num_inc hj hl]
      obtain ⟨r, h1, h2⟩ := index_l0 l x hl m (j + 1) k (by omega) (by omega)
      exact ⟨r, h1, h2.trans ⟨fun h => List.mem_cons_of_mem _ h, fun h => by
        rcases List.mem_cons.1 h with h | h
        · exact absurd h e
        · exact h⟩⟩
theorem contains_f (l : List Int) (x : Int) (hl : l.length ≤ 4096) {k : Nat} (hk : l.length < k) : slices_Contains_int_int.f k l x = some (decide (x ∈ l)) := by
  obtain ⟨r, h1, h2⟩ := index_l0 l x hl l.length 0 k (Nat.zero_add _) hk
  have h1' : slices_Index_int_int.f k l x = some r := h1
  unfold slices_Contains_int_int.f
  rw [h1', Option.bind_some, List.drop_zero] at *
  congr 1
  exact decide_eq_decide.2 h2
theorem contains_any (A : Option Addr) (c : Nat) (l : List Int) (x : Int) (w : World) (hC : Kd.C (Kd.int .i64) w A l.length l) (hc : l.length ≤ c) (hl : l.length ≤ 4096) :
    Calls Try.prog 64 #[.slice A l.length c, .int .i64 x] w fun e w' => e = .returned (.bool (decide (x ∈ l))) ∧ Below w.heap.size w w' := by
  refine (slices_Contains_int_int.calls (l.length + 1) A c l x _ w hC hc (contains_f l x hl (Nat.lt_succ_self _))).mono ?_
  rintro e w' ⟨rfl, hd⟩
  exact ⟨rfl, hd.below⟩
/-- Pure, in closed form. -/
def pureX (x : S45) : Bool := decide (x.f0 = 1) || decide (x.f0 = 3) || (decide (x.f0 = 2) && !decide (x.f4 ∈ ([4, 5, 9, 10] : List Int)))
theorem pure_f (x : S45) : code_Pure.f 20 x.f0 x.f1 x.f2 x.f3 x.f4 x.f5 = some (pureX x) := by
  have hj : ∀ b : Bool, b = (decide (x.f0 = 1) || decide (x.f0 = 3)) → code_Pure.j0 20 x.f0 b x.f0 x.f1 x.f2 x.f3 x.f4 x.f5 = some (pureX x) := by
    rintro b rfl
    rw [code_Pure.j0]
    unfold pureX
    cases hb : (decide (x.f0 = 1) || decide (x.f0 = 3)) with
    | true => rfl
    | false =>
      by_cases h2 : x.f0 = 2
      · rw [if_neg (by simp), if_pos h2, contains_f _ _ (by decide) (by decide), Option.bind_some]
        simp [h2]
      · rw [if_neg (by simp), if_neg h2]
        simp [h2]
  unfold code_Pure.f
  by_cases h1 : x.f0 = 1
  · rw [if_pos h1]
    exact hj _ (by simp [h1])
  · rw [if_neg h1]
    refine hj _ ?_
    rw [decide_eq_false h1, Bool.false_or]
    by_cases h3 : x.f0 = 3 <;> simp [h3]
theorem pure_any (x : S45) (A : Option Addr) (c : Nat) (w : World) (hC : Kd.C (Kd.int .i64) w A x.f5.length x.f5) (hc : x.f5.length ≤ c) :
    Calls Try.prog 39 #[.agg #[.int .i64 x.f0, .int .i64 x.f1, .int .i64 x.f2, .int .i64 x.f3, .int .i64 x.f4, .slice A x.f5.length c]] w fun e w' => e = .returned (.bool (pureX x)) ∧ Below w.heap.size w w' :=
  code_Pure.calls 20 x.f0 x.f1 x.f2 x.f3 x.f4 A c x.f5 (pureX x) w hC hc (pure_f x)
/-- Is the operation at a place dead? -/
noncomputable def deadB (bs : List S43) (q : Nat × Nat) : Bool := pureX (opOf bs q) && !decide ((opOf bs q).f1 ∈ liveRow bs q.1 (q.2 + 1))
/-- The dead places among some. -/
noncomputable def deadP (bs : List S43) (qs : List (Nat × Nat)) : List (Nat × Nat) := qs.filter (deadB bs)
theorem deadP_snoc (bs : List S43) (qs : List (Nat × Nat)) (q : Nat × Nat) : deadP bs (qs ++ [q]) = if deadB bs q = true then deadP bs qs ++ [q] else deadP bs qs := by
  unfold deadP
  rw [List.filter_append]
  by_cases h : deadB bs q = true <;> simp [h]
theorem deadP_len (bs : List S43) (qs : List (Nat × Nat)) : (deadP bs qs).length ≤ qs.length := List.length_filter_le _ _
/-- Pairs of numbers, as cells. -/
def prC (q : Nat × Nat) : List Value := [.int .i64 (q.1 : Int), .int .i64 (q.2 : Int)]
def prCs (qs : List (Nat × Nat)) : List Value := qs.flatMap prC
theorem prCs_snoc (qs : List (Nat × Nat)) (q : Nat × Nat) : prCs (qs ++ [q]) = prCs qs ++ prC q := by simp [prCs]
end Go.Proofs.Ytnkgbnbbmcoiiaa.S
namespace Go.Proofs.Ytnkgbnbbmcoiiaa.S
open Go.RowKit Go.Proofs.YtnkgbnbbmcoiiaaW.PrintWords Go.Proofs.YtnkgbnbbmcoiiaaW.PrintLast Go.Proofs.YtnkgbnbbmcoiiaaW.PrintMore
set_option linter.unusedVariables false
set_option linter.unusedSimpArgs false
/-! ### few answers always, the registers -/
/-- What came in fits into memory. -/
structure Room (bs : List S43) : Prop where mk ::
  blks : bs.length ≤ 4611686018427387904
  ops : ∀ j : Nat, (rd_T43 bs (j : Int)).f0.length ≤ 4611686018427387904
  args : ∀ j q : Nat, (rd_T45 (rd_T43 bs (j : Int)).f0 (q : Int)).f5.length < 17592186044416
theorem inc62 {j n : Nat} (h : j < n) (hn : n ≤ 4611686018427387904) : wrap64 ((j : Int) + 1) = ((j + 1 : Nat) : Int) := by
  unfold wrap64
  omega
theorem Tt.bind {α β : Type} {g : Nat → Option α} {F : Nat → α → Option β} (hg : Tt g) (hF : ∀ r, (∃ k, g k = some r) → Tt (fun k => F k r)) : Tt (fun k => (g k).bind (F k)) := by
  obtain ⟨k0, r, h0⟩ := hg
  obtain ⟨k1, s, h1⟩ := hF r ⟨k0, h0 k0 (Nat.le_refl _)⟩
  refine ⟨max k0 k1, s, fun k hk => ?_⟩
  show (g k).bind (F k) = some s
  rw [h0 k (by omega), Option.bind_some]
  exact h1 k (by omega)
theorem Tt.up {α : Type} {g : Nat → Option α} {h : Nat → Option α} (hg : Tt g) (hs : ∀ k, h (k + 1) = g k) : Tt h := by
  obtain ⟨k0, r, h0⟩ := hg
  refine ⟨k0 + 1, r, fun k hk => ?_⟩
  obtain ⟨k', rfl⟩ : ∃ k', k = k' + 1 := ⟨k - 1, by omega⟩
  rw [hs]
  exact h0 k' (by omega)
theorem Tt.const {α : Type} (r : α) : Tt (fun _ => some r) := ⟨0, r, fun _ _ => rfl⟩
theorem ruses_tt (a b c d e : Int) (l : List Int) (hl : l.length < 17592186044416) : ∃ r : List Int, r.length ≤ 2 + l.length ∧ ∀ k, swageref14_Uses.f (k + 3) a b c d e l = some r := by
  have j1 : ∀ (x : Int), ∃ r : List Int, r.length ≤ 2 + l.length ∧ ∀ k (y : Bool), y = (x == 3 || x == 4 || x == 9) → swageref14_Uses.j1 (k + 1) x y a b c d e l = some r := by
    intro x
    by_cases hy : (x == 3 || x == 4 || x == 9) = true
    · exact ⟨[c], by simp only [List.length_cons, List.length_nil]; omega, fun k y e => by subst e; rw [swageref14_Uses.j1, if_pos hy]⟩
    · by_cases h7 : x = 7
      · refine ⟨l, by omega, fun k y e => ?_⟩
        subst e
        rw [swageref14_Uses.j1, if_neg hy, if_pos h7, Option.bind_some, if_pos (by simpa using hl), List.nil_append]
      · refine ⟨[], by simp, fun k y e => ?_⟩
        subst e
        rw [swageref14_Uses.j1, if_neg hy, if_neg h7]
  have j0 : ∃ r : List Int, r.length ≤ 2 + l.length ∧ ∀ k (y : Bool), y = (a == 2 || a == 5) → swageref14_Uses.j0 (k + 2) a y a b c d e l = some r := by
    by_cases hy : (a == 2 || a == 5) = true
    · exact ⟨[c, d], by simp only [List.length_cons, List.length_nil]; omega, fun k y e => by subst e; rw [swageref14_Uses.j0, if_pos hy]⟩
    · obtain ⟨r, hr, h⟩ := j1 a
      refine ⟨r, hr, fun k y e => ?_⟩
      subst e
      rw [swageref14_Uses.j0, if_neg hy]
      by_cases h3 : a = 3
      · rw [if_pos h3]; exact h k _ (by simp [h3])
      · by_cases h4 : a = 4
        · rw [if_neg h3, if_pos h4]; exact h k _ (by simp [h4])
        · rw [if_neg h3, if_neg h4]
          refine h k _ ?_
          rw [beq_eq_false_iff_ne.2 h3, beq_eq_false_iff_ne.2 h4]; rfl
  obtain ⟨r, hr, h⟩ := j0
  refine ⟨r, hr, fun k => ?_⟩
  unfold swageref14_Uses.f
  by_cases h2 : a = 2
  · rw [if_pos h2]; exact h (k + 1) _ (by simp [h2])
  · rw [if_neg h2]; refine h (k + 1) _ ?_
    rw [beq_eq_false_iff_ne.2 h2]; rfl
theorem rsets_some (a b c d e : Int) (l : List Int) : ∃ r, swageref14_Sets.f a b c d e l = some r := by
  unfold swageref14_Sets.f
  split
  · exact ⟨_, rfl⟩
  · split
    · exact ⟨_, rfl⟩
    · split <;> exact ⟨_, rfl⟩
theorem rtuses_some (a b c d : Int) : ∃ r : List Int, r.length ≤ 1 ∧ swageref14_TermUses.f a b c d = some r := by
  unfold swageref14_TermUses.f
  split
  · exact ⟨[b], by simp, rfl⟩
  · split
    · exact ⟨[b], by simp, rfl⟩
    · exact ⟨[], by simp, rfl⟩
theorem regs3 (p : Int) (bs : List S43) (j : Nat) (hj : j < bs.length) (hb : bs.length ≤ 4611686018427387904) (l : List Int) (hl : l.length ≤ 4611686018427387904) (hn : ∀ x3, Tt (fun k => swageref14_Regs.l0 k x3 ((j + 1 : Nat) : Int) p bs)) : ∀ (m q : Nat), q + m = l.length → ∀ x3, Tt (fun k => swageref14_Regs.l3 k x3 (j : Int) l (q : Int) p bs)
  | 0, q, hm, x3 => (hn x3).up (fun k => by
      rw [swageref14_Regs.l3, if_neg (by omega), inc62 hj hb])
  | m + 1, q, hm, x3 => (regs3 p bs j hj hb l hl hn m (q + 1) (by omega) (mx x3 (rd l (q : Int)))).up (fun k => by
      rw [swageref14_Regs.l3, if_pos (by omega), if_pos (Int.natCast_nonneg q), inc62 (n := l.length) (by omega) hl])
theorem regs2 (p : Int) (bs : List S43) (j i : Nat) (n : Nat) (hi : i < n) (hb : n ≤ 4611686018427387904) (l : List Int) (hl : l.length ≤ 4611686018427387904) (hn : ∀ x3, Tt (fun k => swageref14_Regs.l1 k x3 (j : Int) ((i + 1 : Nat) : Int) p bs)) : ∀ (m q : Nat), q + m = l.length → ∀ x3, Tt (fun k => swageref14_Regs.l2 k x3 (j : Int) (i : Int) l (q : Int) p bs)
  | 0, q, hm, x3 => (hn x3).up (fun k => by
      rw [swageref14_Regs.l2, if_neg (by omega), inc62 hi hb])
  | m + 1, q, hm, x3 => (regs2 p bs j i n hi hb l hl hn m (q + 1) (by omega) (mx x3 (rd l (q : Int)))).up (fun k => by
      rw [swageref14_Regs.l2, if_pos (by omega), if_pos (Int.natCast_nonneg q), inc62 (n := l.length) (by omega) hl])
theorem regs1 (p : Int) (bs : List S43) (h : Room bs) (j : Nat) (hj : j < bs.length) (hn : ∀ x3, Tt (fun k => swageref14_Regs.l0 k x3 ((j + 1 : Nat) : Int) p bs)) : ∀ (m q : Nat), q + m = (rd_T43 bs (j : Int)).f0.length → ∀ x3, Tt (fun k => swageref14_Regs.l1 k x3 (j : Int) (q : Int) p bs)
  | 0, q, hm, x3 => by
      obtain ⟨r, hr, e⟩ := rtuses_some (rd_T43 bs (j : Int)).f1.f0 (rd_T43 bs (j : Int)).f1.f1 (rd_T43 bs (j : Int)).f1.f2 (rd_T43 bs (j : Int)).f1.f3
      refine (regs3 p bs j hj h.blks r (by omega) hn r.length 0 (Nat.zero_add _) x3).up (fun k => ?_)
      rw [swageref14_Regs.l1, if_pos (Int.natCast_nonneg j), if_pos (Int.ofNat_lt.2 hj), if_neg (by omega), e, Option.bind_some]
      rfl
  | m + 1, q, hm, x3 => by
      obtain ⟨s, es⟩ := rsets_some (rd_T45 (rd_T43 bs (j : Int)).f0 (q : Int)).f0 (rd_T45 (rd_T43 bs (j : Int)).f0 (q : Int)).f1 (rd_T45 (rd_T43 bs (j : Int)).f0 (q : Int)).f2 (rd_T45 (rd_T43 bs (j : Int)).f0 (q : Int)).f3 (rd_T45 (rd_T43 bs (j : Int)).f0 (q : Int)).f4 (rd_T45 (rd_T43 bs (j : Int)).f0 (q : Int)).f5
      have ha := h.args j q
      obtain ⟨r, hr, e⟩ := ruses_tt (rd_T45 (rd_T43 bs (j : Int)).f0 (q : Int)).f0 (rd_T45 (rd_T43 bs (j : Int)).f0 (q : Int)).f1 (rd_T45 (rd_T43 bs (j : Int)).f0 (q : Int)).f2 (rd_T45 (rd_T43 bs (j : Int)).f0 (q : Int)).f3 (rd_T45 (rd_T43 bs (j : Int)).f0 (q : Int)).f4 (rd_T45 (rd_T43 bs (j : Int)).f0 (q : Int)).f5 ha
      obtain ⟨k0, v, h0⟩ := regs2 p bs j q (rd_T43 bs (j : Int)).f0.length (by omega) (h.ops j) r (by omega) (fun x => regs1 p bs h j hj hn m (q + 1) (by omega) x) r.length 0 (Nat.zero_add _) (mx x3 s)
      refine ⟨k0 + 4, v, fun k hk => ?_⟩
      obtain ⟨k', rfl⟩ : ∃ k', k = k' + 4 := ⟨k - 4, by omega⟩
      show swageref14_Regs.l1 (k' + 3 + 1) x3 (j : Int) (q : Int) p bs = some v
      rw [swageref14_Regs.l1, if_pos (Int.natCast_nonneg j), if_pos (Int.ofNat_lt.2 hj), if_pos (by omega), if_pos (Int.natCast_nonneg q), es, Option.bind_some, e k', Option.bind_some]
      exact h0 (k' + 3) (by omega)
theorem regs0 (p : Int) (bs : List S43) (h : Room bs) : ∀ (m j : Nat), j + m = bs.length → ∀ x3, Tt (fun k => swageref14_Regs.l0 k x3 (j : Int) p bs)
  | 0, j, hm, x3 => Tt.now x3 (fun k => by rw [swageref14_Regs.l0, if_neg (by omega)])
  | m + 1, j, hm, x3 => (regs1 p bs h j (by omega) (fun x => regs0 p bs h m (j + 1) (by omega) x) (rd_T43 bs (j : Int)).f0.length 0 (Nat.zero_add _) x3).up (fun k => by
      rw [swageref14_Regs.l0, if_pos (by omega)]
      rfl)
theorem regs_total (p : Int) (bs : List S43) (h : Room bs) : Tt (fun k => swageref14_Regs.f k p bs) := regs0 p bs h bs.length 0 (Nat.zero_add _) (mx p 0)
theorem few25_total (p : Int) (bs : List S43) (h : Room bs) : Tt (fun k => swagelaw25_few.f k p bs) := by
  refine Tt.bind (F := fun k t203 => (if t203 = true then (if (bs.length : Int) ≤ 12 then ((swageref14_Regs.f k p bs).bind fun t204 => (some (decide (t204 ≤ 40)))) else (some false)) else (some false))) (few_total p bs) (fun r _ => ?_)
  by_cases hr : r = true
  · simp only [hr, if_true]
    by_cases hb : (bs.length : Int) ≤ 12
    · simp only [if_pos hb]
      exact Tt.bind (F := fun k t204 => some (decide (t204 ≤ 40))) (regs_total p bs h) (fun r _ => Tt.const _)
    · simp only [if_neg hb]; exact Tt.const _
  · simp only [if_neg hr]; exact Tt.const _
theorem few17_total (p : Int) (bs : List S43) (h : Room bs) : Tt (fun k => swagelaw17_few.f k p bs) := few25_total p bs h
end Go.Proofs.Ytnkgbnbbmcoiiaa.S
namespace Go.Proofs.Ytnkgbnbbmcoiiaa.S
open Go.RowKit Go.IM Go.RelRegion Go.Proofs.YtnkgbnbbmcoiiaaW.PrintWords Go.Proofs.YtnkgbnbbmcoiiaaW.PrintLast Go.Proofs.YtnkgbnbbmcoiiaaW.PrintMore
set_option linter.unusedVariables false
set_option linter.unusedSimpArgs false
/-! ### swagelaw25.SpansPlaces -/
def RiseTo (l : List Int) (z : Int) : Prop := l.Pairwise (· < ·) ∧ ∀ x ∈ l, x < z
theorem RiseTo.snoc {l : List Int} {z : Int} (h : RiseTo l z) : RiseTo (l ++ [z]) (z + 1) := by
  refine ⟨List.pairwise_append.2 ⟨h.1, List.pairwise_singleton _ _, fun a ha b hb => ?_⟩, fun x hx => ?_⟩
  · rw [List.mem_singleton] at hb
    subst hb
    exact h.2 a ha
  · rcases List.mem_append.1 hx with hx | hx
    · have := h.2 x hx; omega
    · rw [List.mem_singleton] at hx; omega
theorem inc63 {j n : Nat} (h : j < n) (hn : n ≤ 9223372036854775807) : wrap64 ((j : Int) + 1) = (j : Int) + 1 := by
  unfold wrap64
  omega
end Go.Proofs.Ytnkgbnbbmcoiiaa.S
namespace Go.Proofs.Ytnkgbnbbmcoiiaa
open Go.ChangeShapes Go.WideShapes Go.ChangeAt Go.RowKit Go.Deep Go.Proofs.YtnkgbnbbmcoiiaaW.PrintWords
set_option linter.unusedVariables false
set_option maxRecDepth 100000
/-! ### A function that came in -/
theorem Try.ownNoneF : ownKnob Try.prog.godebug = none := by kernel_rfl
theorem Try.laidOutF : laidOutB Try.prog = true := by kernel_rfl
def I64f (n : Int) : Prop := -9223372036854775808 ≤ n ∧ n ≤ 9223372036854775807
theorem cells3f : Try.prog.cellsOf 3 = 1 := by kernel_rfl
theorem opIw : OpensW Try.prog (Kd.int .i64) 3 I64f := (OpensW.int Try.underlying3).imp (fun _ h => i64_wf h)
theorem bytes3f : Try.prog.bytesOf 3 = 8 := by kernel_rfl
theorem bytes45f : Try.prog.bytesOf 45 = 64 := by kernel_rfl
theorem bytes43f : Try.prog.bytesOf 43 = 56 := by kernel_rfl
/-- A row of numbers. -/
theorem op28w : OpensW Try.prog (Kd.slice 3 (Kd.int .i64)) 28 (fun l => l.length < 17592186044416) :=
  (OpensW.slice Try.underlying28 (by kernel_rfl) opIw).imp (fun l h => by
    have h1 := h.1
    rw [bytes3f] at h1
    have : reachBytes = 140737488351232 := rfl
    omega)
/-- An operation. -/
theorem op45w : OpensW Try.prog S.k45 45 (fun x => x.f5.length < 17592186044416) :=
  OpensW.struct Try.underlying45 (by kernel_rfl)
    (FOpensW.cons opIw cells3f (FOpensW.cons opIw cells3f (FOpensW.cons opIw cells3f (FOpensW.cons opIw cells3f (FOpensW.cons opIw cells3f (FOpensW.last op28w (by kernel_rfl)) (by decide)) (by decide)) (by decide)) (by decide)) (by decide))
    (fun p => ⟨p.1, p.2.1, p.2.2.1, p.2.2.2.1, p.2.2.2.2.1, p.2.2.2.2.2⟩) (fun _ => rfl) (fun _ h => h.2.2.2.2.2)
theorem op39w : OpensW Try.prog (Kd.slice 45 S.k45) 39 (fun l => l.length ≤ 4611686018427387904 ∧ ∀ x ∈ l, x.f5.length < 17592186044416) :=
  (OpensW.slice Try.underlying39 (by kernel_rfl) op45w).imp (fun l h => by
    have h1 := h.1
    rw [bytes45f] at h1
    have : reachBytes = 140737488351232 := rfl
    exact ⟨by omega, h.2⟩)
theorem op41w : OpensW Try.prog S.k41 41 (fun _ => True) :=
  OpensW.struct Try.underlying41 (by kernel_rfl)
    (FOpensW.cons opIw cells3f (FOpensW.cons opIw cells3f (FOpensW.cons opIw cells3f (FOpensW.last opIw cells3f) (by decide)) (by decide)) (by decide))
    (fun p => ⟨p.1, p.2.1, p.2.2.1, p.2.2.2⟩) (fun _ => rfl) (fun _ h => trivial)
/-- A block. -/
theorem op43w : OpensW Try.prog S.k43 43 (fun x => x.f0.length ≤ 4611686018427387904 ∧ ∀ y ∈ x.f0, y.f5.length < 17592186044416) :=
  OpensW.struct Try.underlying43 (by kernel_rfl)
    (FOpensW.cons op39w (by kernel_rfl) (FOpensW.last op41w (by kernel_rfl)) (by decide))
    (fun p => ⟨p.1, p.2⟩) (fun _ => rfl) (fun _ h => h.1)
theorem op32w : OpensW Try.prog (Kd.slice 43 S.k43) 32 (fun l => l.length ≤ 4611686018427387904 ∧ ∀ x ∈ l, x.f0.length ≤ 4611686018427387904 ∧ ∀ y ∈ x.f0, y.f5.length < 17592186044416) :=
  (OpensW.slice Try.underlying32 (by kernel_rfl) op43w).imp (fun l h => by
    have h1 := h.1
    rw [bytes43f] at h1
    have : reachBytes = 140737488351232 := rfl
    exact ⟨by omega, h.2⟩)
def kFn : Kd (Int × List S.S43) := Kd.iso (Kd.pair (Kd.int .i64) (Kd.slice 43 S.k43)) (fun x => x)
theorem room_of {bs : List S.S43} (h : bs.length ≤ 4611686018427387904 ∧ ∀ x ∈ bs, x.f0.length ≤ 4611686018427387904 ∧ ∀ y ∈ x.f0, y.f5.length < 17592186044416) : S.Room bs := by
  have hb : ∀ j : Nat, (S.rd_T43 bs (j : Int)).f0.length ≤ 4611686018427387904 ∧ ∀ y ∈ (S.rd_T43 bs (j : Int)).f0, y.f5.length < 17592186044416 := fun j => by
    by_cases hj : j < bs.length
    · rw [S.rd43' hj]; exact h.2 _ (List.getElem_mem _)
    · have e : S.rd_T43 bs (j : Int) = S.z43 := by
        unfold S.rd_T43
        rw [Int.toNat_natCast, List.getD_eq_getElem?_getD, List.getElem?_eq_none (by omega)]
        rfl
      rw [e]
      exact ⟨by decide, fun y hy => by cases hy⟩
  refine ⟨h.1, fun j => (hb j).1, fun j q => ?_⟩
  by_cases hq : q < (S.rd_T43 bs (j : Int)).f0.length
  · rw [S.rd45' hq]; exact (hb j).2 _ (List.getElem_mem _)
  · have e : S.rd_T45 (S.rd_T43 bs (j : Int)).f0 (q : Int) = S.z45 := by
      unfold S.rd_T45
      rw [Int.toNat_natCast, List.getD_eq_getElem?_getD, List.getElem?_eq_none (by omega)]
      rfl
    rw [e]
    decide
theorem op34w : OpensW Try.prog kFn 34 (fun x => I64f x.1 ∧ S.Room x.2) :=
  OpensW.struct Try.underlying34 (by kernel_rfl)
    (FOpensW.cons opIw cells3f (FOpensW.last op32w (by kernel_rfl)) (by decide))
    (fun p => p) (fun _ => rfl) (fun _ h => ⟨h.1, room_of h.2⟩)
section
variable {H : Type} {enc : TypeId × Value → H} {w : World} {base : Nat} {held : Bool}
/-- A function that came in. -/
theorem open_func {spare : Nat → Bool} {r : Reach} {b0 : Nat} {v : Value} {d : DataW H} {p : List MemPlace} (hv : Value.okWide Try.prog w r b0 34 v) (h : DataW.Trod enc Try.prog w base spare held 34 v d p) (hw : ∀ n ∈ d.weights Try.prog 34, n ≤ reachBytes) :
    ∃ (n : Int) (A : Option Addr) (c : Nat) (l : List S.S43), v = .agg #[.int .i64 n, .slice A l.length c] ∧ Kd.C S.k43 w A l.length l ∧ l.length ≤ c ∧ S.Room l := by
  obtain ⟨⟨n, l⟩, cs, rfl, hk, hg⟩ := OpensW.agg op34w Try.underlying34 hv h hw
  obtain ⟨_, _, rfl, rfl, ⟨A, c, rfl, hl, hc⟩⟩ := hk
  exact ⟨n, A, c, l, rfl, hc, hl, hg.2⟩
end
end Go.Proofs.Ytnkgbnbbmcoiiaa
