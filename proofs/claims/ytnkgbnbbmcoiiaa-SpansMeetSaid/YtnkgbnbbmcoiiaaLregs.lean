import Derived.Test.YtnkgbnbbmcoiiaaOnum
import Derived.Test.YtnkgbnbbmcoiiaaS6
import Derived.Test.YtnkgbnbbmcoiiaaOcalls
import Derived.Test.YtnkgbnbbmcoiiaaS5
namespace Go.Proofs.Ytnkgbnbbmcoiiaa.S
open Go.RowKit Go.Proofs.YtnkgbnbbmcoiiaaW.PrintWords Go.Proofs.YtnkgbnbbmcoiiaaW.PrintLast Go.Proofs.YtnkgbnbbmcoiiaaW.PrintMore
set_option linter.unusedVariables false
set_option linter.unusedSimpArgs false
/-! ### few answers always -/
/-- From some fuel on, one answer. -/
def Tt {α : Type} (g : Nat → Option α) : Prop := ∃ k0 r, ∀ k, k0 ≤ k → g k = some r
theorem Tt.succ {α β : Type} {g : Nat → Option α} {h : Nat → Option β} (f : α → β) (hg : Tt g) (hs : ∀ k r, g k = some r → h (k + 1) = some (f r)) : Tt h := by
  obtain ⟨k0, r, h0⟩ := hg
  refine ⟨k0 + 1, f r, fun k hk => ?_⟩
  obtain ⟨k', rfl⟩ : ∃ k', k = k' + 1 := ⟨k - 1, by omega⟩
  exact hs k' r (h0 k' (by omega))
theorem Tt.now {α : Type} {h : Nat → Option α} (r : α) (hs : ∀ k, h (k + 1) = some r) : Tt h :=
  ⟨1, r, fun k hk => by
    obtain ⟨k', rfl⟩ : ∃ k', k = k' + 1 := ⟨k - 1, by omega⟩
    exact hs k'⟩
theorem few_in (p : Int) (bs : List S43) (j : Nat) (hj : j < bs.length) (hj1 : j < 100) (hn : ∀ x3, Tt (fun k => swagelaw14_Few.l0 k x3 ((j + 1 : Nat) : Int) p bs)) : ∀ (m q : Nat), q + m = 301 → ∀ x3, Tt (fun k => swagelaw14_Few.l1 k x3 (j : Int) (q : Int) p bs)
  | 0, q, hm, x3 => by
      have h3 : Tt (fun k => swagelaw14_Few.j3 k x3 (j : Int) (q : Int) false p bs) := (hn x3).succ id (fun k r h => by
        rw [swagelaw14_Few.j3, if_neg (by decide), num_inc hj1 (by decide)]; exact h)
      refine h3.succ id (fun k r h => ?_)
      rw [swagelaw14_Few.l1, if_pos (Int.natCast_nonneg j), if_pos (Int.ofNat_lt.2 hj)]
      have e : decide ((q : Int) < 300) = false := decide_eq_false (by omega)
      rw [e]
      split <;> exact h
  | m + 1, q, hm, x3 => by
      have h3 : Tt (fun k => swagelaw14_Few.j3 k x3 (j : Int) (q : Int) false p bs) := (hn x3).succ id (fun k r h => by
        rw [swagelaw14_Few.j3, if_neg (by decide), num_inc hj1 (by decide)]; exact h)
      by_cases hq : (q : Int) < ((rd_T43 bs (j : Int)).f0.length : Int)
      · by_cases hq3 : (q : Int) < 300
        · have e : decide ((q : Int) < 300) = true := decide_eq_true hq3
          have hj3 : Tt (fun k => swagelaw14_Few.j3 k x3 (j : Int) (q : Int) true p bs) := by
            by_cases ha : ((rd_T45 (rd_T43 bs (j : Int)).f0 (q : Int)).f5.length : Int) > 20
            · exact Tt.now false (fun k => by
                rw [swagelaw14_Few.j3, if_pos rfl, if_pos (Int.natCast_nonneg j), if_pos (Int.ofNat_lt.2 hj), if_pos (Int.natCast_nonneg q), if_pos hq, if_pos ha])
            · exact (few_in p bs j hj hj1 hn m (q + 1) (by omega) x3).succ id (fun k r h => by
                rw [swagelaw14_Few.j3, if_pos rfl, if_pos (Int.natCast_nonneg j), if_pos (Int.ofNat_lt.2 hj), if_pos (Int.natCast_nonneg q), if_pos hq, if_neg ha, num_inc (n := 300) (by omega) (by decide)]
                exact h)
          refine hj3.succ id (fun k r h => ?_)
          rw [swagelaw14_Few.l1, if_pos (Int.natCast_nonneg j), if_pos (Int.ofNat_lt.2 hj), if_pos hq, e]
          exact h
        · refine h3.succ id (fun k r h => ?_)
          rw [swagelaw14_Few.l1, if_pos (Int.natCast_nonneg j), if_pos (Int.ofNat_lt.2 hj), if_pos hq, decide_eq_false hq3]
          exact h
      · refine h3.succ id (fun k r h => ?_)
        rw [swagelaw14_Few.l1, if_pos (Int.natCast_nonneg j), if_pos (Int.ofNat_lt.2 hj), if_neg hq]
        exact h
theorem few_end (p : Int) (bs : List S43) (x3 : Int) (x4 : Int) : Tt (fun k => swagelaw14_Few.j1 k x3 x4 false p bs) := by
  by_cases h : (bs.length : Int) ≤ 40
  · exact Tt.now (decide (x3 ≤ 250)) (fun k => by rw [swagelaw14_Few.j1, if_neg (by decide), if_pos h])
  · exact Tt.now false (fun k => by rw [swagelaw14_Few.j1, if_neg (by decide), if_neg h])
theorem few_out (p : Int) (bs : List S43) : ∀ (m j : Nat), j + m = 101 → ∀ x3, Tt (fun k => swagelaw14_Few.l0 k x3 (j : Int) p bs)
  | 0, j, hm, x3 => by
      refine (few_end p bs x3 (j : Int)).succ id (fun k r h => ?_)
      have e : decide ((j : Int) < 100) = false := decide_eq_false (by omega)
      rw [swagelaw14_Few.l0, e]
      split <;> exact h
  | m + 1, j, hm, x3 => by
      by_cases hj : j < bs.length
      · by_cases h1 : j < 100
        · have e : decide ((j : Int) < 100) = true := decide_eq_true (by omega)
          have hi := few_in p bs j hj h1 (fun x => few_out p bs m (j + 1) (by omega) x) 301 0 (by decide) (wrap64 (x3 + ((rd_T43 bs (j : Int)).f0.length : Int)))
          have h2 : Tt (fun k => swagelaw14_Few.j1 k x3 (j : Int) true p bs) := hi.succ id (fun k r h => by
            rw [swagelaw14_Few.j1, if_pos rfl, if_pos (Int.natCast_nonneg j), if_pos (Int.ofNat_lt.2 hj)]
            exact h)
          refine h2.succ id (fun k r h => ?_)
          rw [swagelaw14_Few.l0, if_pos (Int.ofNat_lt.2 hj), e]
          exact h
        · have e : decide ((j : Int) < 100) = false := decide_eq_false (by omega)
          refine (few_end p bs x3 (j : Int)).succ id (fun k r h => ?_)
          rw [swagelaw14_Few.l0, e]
          split <;> exact h
      · refine (few_end p bs x3 (j : Int)).succ id (fun k r h => ?_)
        rw [swagelaw14_Few.l0, if_neg (by omega)]
        exact h
theorem few_total (p : Int) (bs : List S43) : Tt (fun k => swagelaw14_Few.f k p bs) := few_out p bs 101 0 (by decide) 0
end Go.Proofs.Ytnkgbnbbmcoiiaa.S
namespace Go.Proofs.Ytnkgbnbbmcoiiaa.S
open Go.RowKit Go.Proofs.YtnkgbnbbmcoiiaaW.PrintWords Go.Proofs.YtnkgbnbbmcoiiaaW.PrintLast Go.Proofs.YtnkgbnbbmcoiiaaW.PrintMore
set_option linter.unusedVariables false
set_option linter.unusedSimpArgs false
/-! ### SpansPlaces, plain -/
/-- The first span of a register. -/
def spanF (l : List S26) (r : Int) : Int × Int × Int × Bool :=
  match l.find? (fun x => decide (x.f0 = r)) with
  | some x => (x.f0, x.f1, x.f2, true)
  | none => (0, 0, 0, false)
theorem OfQ.spanF {P : Int → Int → Prop} {out : List S26} (h : OfQ P out) {r q : Int} (hp : P r q) : ∃ a b, spanF out r = (r, a, b, true) ∧ a ≤ q ∧ q ≤ b := by
  obtain ⟨x, hx, e⟩ := h.all r q hp
  unfold S.spanF
  cases hf : out.find? (fun x => decide (x.f0 = r)) with
  | none =>
    have := List.find?_eq_none.1 hf x hx
    simp [e] at this
  | some y =>
    have hy := List.find?_some hf
    have hm := List.mem_of_find?_eq_some hf
    simp only [decide_eq_true_eq] at hy
    obtain ⟨h1, h2, h3⟩ := h.span y hm
    rw [hy] at h3
    have := h3 q hp
    exact ⟨y.f1, y.f2, by show (y.f0, y.f1, y.f2, true) = _; rw [hy], this.1, this.2⟩
theorem rd26s {l : List S26} {j : Nat} (h : j < l.length) : rd_T26 l (j : Int) = l[j] := by
  unfold rd_T26
  simp [List.getD_eq_getElem?_getD, h]
theorem span_loop (l : List S26) (r : Int) (hl : l.length ≤ 4096) : ∀ m j k, j + m = l.length → m < k → swagelaw25_span.l0 k l r (j : Int) = some (spanF (l.drop j) r)
  | m, j, 0, hm, hk => absurd hk (Nat.not_lt_zero _)
  | m, j, k + 1, hm, hk => by
    rw [swagelaw25_span.l0]
    by_cases e : m = 0
    · have ej : j = l.length := by omega
      subst ej
      rw [if_neg (Int.lt_irrefl _), List.drop_length]
      rfl
    · have hj : j < l.length := by omega
      rw [if_pos (Int.ofNat_lt.2 hj), if_pos (Int.natCast_nonneg j), rd26s hj, List.drop_eq_getElem_cons hj]
      by_cases hr : l[j].f0 = r
      · rw [if_pos hr]
        unfold spanF
        rw [List.find?_cons_of_pos (by simpa using hr)]
      · rw [if_neg hr, num_inc hj hl, span_loop l r hl (m - 1) (j + 1) k (by omega) (by omega)]
        unfold spanF
        rw [List.find?_cons_of_neg (by simpa using hr)]
theorem span_f (l : List S26) (r : Int) (hl : l.length ≤ 4096) : swagelaw25_span.f (l.length + 1) l r = some (spanF l r) := by
  have := span_loop l r hl l.length 0 (l.length + 1) (Nat.zero_add _) (Nat.lt_succ_self _)
  rw [List.drop_zero] at this
  exact this
end Go.Proofs.Ytnkgbnbbmcoiiaa.S
namespace Go.Proofs.Ytnkgbnbbmcoiiaa.S
open Go.RowKit Go.Proofs.YtnkgbnbbmcoiiaaW.PrintWords Go.Proofs.YtnkgbnbbmcoiiaaW.PrintLast Go.Proofs.YtnkgbnbbmcoiiaaW.PrintMore
set_option linter.unusedVariables false
set_option linter.unusedSimpArgs false
/-! ### few answers always, the registers -/
/-- What came in fits into memory. -/
structure Room (bs : List S43) : Prop where mk ::
  blks : bs.length ≤ 4611686018427387904
  ops : ∀ j : Nat, (rd_T43 bs (j : Int)).f0.length ≤ 4611686018427387904
  args : ∀ j q : Nat, (rd_T45 (rd_T43 bs (j : Int)).f0 (q : Int)).f5.length < 17592186044416
theorem inc62 {j n : Nat} (h : j < n) (hn : n ≤ 4611686018427387904) : wrap64 ((j : Int) + 1) = ((j + 1 : Nat) : Int) := by
  unfold wrap64
  omega
theorem Tt.bind {α β : Type} {g : Nat → Option α} {F : Nat → α → Option β} (hg : Tt g) (hF : ∀ r, (∃ k, g k = some r) → Tt (fun k => F k r)) : Tt (fun k => (g k).bind (F k)) := by
  obtain ⟨k0, r, h0⟩ := hg
  obtain ⟨k1, s, h1⟩ := hF r ⟨k0, h0 k0 (Nat.le_refl _)⟩
  refine ⟨max k0 k1, s, fun k hk => ?_⟩
  show (g k).bind (F k) = some s
  rw [h0 k (by omega), Option.bind_some]
  exact h1 k (by omega)
theorem Tt.up {α : Type} {g : Nat → Option α} {h : Nat → Option α} (hg : Tt g) (hs : ∀ k, h (k + 1) = g k) : Tt h := by
  obtain ⟨k0, r, h0⟩ := hg
  refine ⟨k0 + 1, r, fun k hk => ?_⟩
  obtain ⟨k', rfl⟩ : ∃ k', k = k' + 1 := ⟨k - 1, by omega⟩
  rw [hs]
  exact h0 k' (by omega)
theorem Tt.const {α : Type} (r : α) : Tt (fun _ => some r) := ⟨0, r, fun _ _ => rfl⟩
theorem ruses_tt (a b c d e : Int) (l : List Int) (hl : l.length < 17592186044416) : ∃ r : List Int, r.length ≤ 2 + l.length ∧ ∀ k, swageref14_Uses.f (k + 3) a b c d e l = some r := by
  have j1 : ∀ (x : Int), ∃ r : List Int, r.length ≤ 2 + l.length ∧ ∀ k (y : Bool), y = (x == 3 || x == 4 || x == 9) → swageref14_Uses.j1 (k + 1) x y a b c d e l = some r := by
    intro x
    by_cases hy : (x == 3 || x == 4 || x == 9) = true
    · exact ⟨[c], by simp only [List.length_cons, List.length_nil]; omega, fun k y e => by subst e; rw [swageref14_Uses.j1, if_pos hy]⟩
    · by_cases h7 : x = 7
      · refine ⟨l, by omega, fun k y e => ?_⟩
        subst e
        rw [swageref14_Uses.j1, if_neg hy, if_pos h7, Option.bind_some, if_pos (by simpa using hl), List.nil_append]
      · refine ⟨[], by simp, fun k y e => ?_⟩
        subst e
        rw [swageref14_Uses.j1, if_neg hy, if_neg h7]
  have j0 : ∃ r : List Int, r.length ≤ 2 + l.length ∧ ∀ k (y : Bool), y = (a == 2 || a == 5) → swageref14_Uses.j0 (k + 2) a y a b c d e l = some r := by
    by_cases hy : (a == 2 || a == 5) = true
    · exact ⟨[c, d], by simp only [List.length_cons, List.length_nil]; omega, fun k y e => by subst e; rw [swageref14_Uses.j0, if_pos hy]⟩
    · obtain ⟨r, hr, h⟩ := j1 a
      refine ⟨r, hr, fun k y e => ?_⟩
      subst e
      rw [swageref14_Uses.j0, if_neg hy]
      by_cases h3 : a = 3
      · rw [if_pos h3]; exact h k _ (by simp [h3])
      · by_cases h4 : a = 4
        · rw [if_neg h3, if_pos h4]; exact h k _ (by simp [h4])
        · rw [if_neg h3, if_neg h4]
          refine h k _ ?_
          rw [beq_eq_false_iff_ne.2 h3, beq_eq_false_iff_ne.2 h4]; rfl
  obtain ⟨r, hr, h⟩ := j0
  refine ⟨r, hr, fun k => ?_⟩
  unfold swageref14_Uses.f
  by_cases h2 : a = 2
  · rw [if_pos h2]; exact h (k + 1) _ (by simp [h2])
  · rw [if_neg h2]; refine h (k + 1) _ ?_
    rw [beq_eq_false_iff_ne.2 h2]; rfl
theorem rsets_some (a b c d e : Int) (l : List Int) : ∃ r, swageref14_Sets.f a b c d e l = some r := by
  unfold swageref14_Sets.f
  split
  · exact ⟨_, rfl⟩
  · split
    · exact ⟨_, rfl⟩
    · split <;> exact ⟨_, rfl⟩
theorem rtuses_some (a b c d : Int) : ∃ r : List Int, r.length ≤ 1 ∧ swageref14_TermUses.f a b c d = some r := by
  unfold swageref14_TermUses.f
  split
  · exact ⟨[b], by simp, rfl⟩
  · split
    · exact ⟨[b], by simp, rfl⟩
    · exact ⟨[], by simp, rfl⟩
theorem regs3 (p : Int) (bs : List S43) (j : Nat) (hj : j < bs.length) (hb : bs.length ≤ 4611686018427387904) (l : List Int) (hl : l.length ≤ 4611686018427387904) (hn : ∀ x3, Tt (fun k => swageref14_Regs.l0 k x3 ((j + 1 : Nat) : Int) p bs)) : ∀ (m q : Nat), q + m = l.length → ∀ x3, Tt (fun k => swageref14_Regs.l3 k x3 (j : Int) l (q : Int) p bs)
  | 0, q, hm, x3 => (hn x3).up (fun k => by
      rw [swageref14_Regs.l3, if_neg (by omega), inc62 hj hb])
  | m + 1, q, hm, x3 => (regs3 p bs j hj hb l hl hn m (q + 1) (by omega) (mx x3 (rd l (q : Int)))).up (fun k => by
      rw [swageref14_Regs.l3, if_pos (by omega), if_pos (Int.natCast_nonneg q), inc62 (n := l.length) (by omega) hl])
theorem regs2 (p : Int) (bs : List S43) (j i : Nat) (n : Nat) (hi : i < n) (hb : n ≤ 4611686018427387904) (l : List Int) (hl : l.length ≤ 4611686018427387904) (hn : ∀ x3, Tt (fun k => swageref14_Regs.l1 k x3 (j : Int) ((i + 1 : Nat) : Int) p bs)) : ∀ (m q : Nat), q + m = l.length → ∀ x3, Tt (fun k => swageref14_Regs.l2 k x3 (j : Int) (i : Int) l (q : Int) p bs)
  | 0, q, hm, x3 => (hn x3).up (fun k => by
      rw [swageref14_Regs.l2, if_neg (by omega), inc62 hi hb])
  | m + 1, q, hm, x3 => (regs2 p bs j i n hi hb l hl hn m (q + 1) (by omega) (mx x3 (rd l (q : Int)))).up (fun k => by
      rw [swageref14_Regs.l2, if_pos (by omega), if_pos (Int.natCast_nonneg q), inc62 (n := l.length) (by omega) hl])
theorem regs1 (p : Int) (bs : List S43) (h : Room bs) (j : Nat) (hj : j < bs.length) (hn : ∀ x3, Tt (fun k => swageref14_Regs.l0 k x3 ((j + 1 : Nat) : Int) p bs)) : ∀ (m q : Nat), q + m = (rd_T43 bs (j : Int)).f0.length → ∀ x3, Tt (fun k => swageref14_Regs.l1 k x3 (j : Int) (q : Int) p bs)
  | 0, q, hm, x3 => by
      obtain ⟨r, hr, e⟩ := rtuses_some (rd_T43 bs (j : Int)).f1.f0 (rd_T43 bs (j : Int)).f1.f1 (rd_T43 bs (j : Int)).f1.f2 (rd_T43 bs (j : Int)).f1.f3
      refine (regs3 p bs j hj h.blks r (by omega) hn r.length 0 (Nat.zero_add _) x3).up (fun k => ?_)
      rw [swageref14_Regs.l1, if_pos (Int.natCast_nonneg j), if_pos (Int.ofNat_lt.2 hj), if_neg (by omega), e, Option.bind_some]
      rfl
  | m + 1, q, hm, x3 => by
      obtain ⟨s, es⟩ := rsets_some (rd_T45 (rd_T43 bs (j : Int)).f0 (q : Int)).f0 (rd_T45 (rd_T43 bs (j : Int)).f0 (q : Int)).f1 (rd_T45 (rd_T43 bs (j : Int)).f0 (q : Int)).f2 (rd_T45 (rd_T43 bs (j : Int)).f0 (q : Int)).f3 (rd_T45 (rd_T43 bs (j : Int)).f0 (q : Int)).f4 (rd_T45 (rd_T43 bs (j : Int)).f0 (q : Int)).f5
      have ha := h.args j q
      obtain ⟨r, hr, e⟩ := ruses_tt (rd_T45 (rd_T43 bs (j : Int)).f0 (q : Int)).f0 (rd_T45 (rd_T43 bs (j : Int)).f0 (q : Int)).f1 (rd_T45 (rd_T43 bs (j : Int)).f0 (q : Int)).f2 (rd_T45 (rd_T43 bs (j : Int)).f0 (q : Int)).f3 (rd_T45 (rd_T43 bs (j : Int)).f0 (q : Int)).f4 (rd_T45 (rd_T43 bs (j : Int)).f0 (q : Int)).f5 ha
      obtain ⟨k0, v, h0⟩ := regs2 p bs j q (rd_T43 bs (j : Int)).f0.length (by omega) (h.ops j) r (by omega) (fun x => regs1 p bs h j hj hn m (q + 1) (by omega) x) r.length 0 (Nat.zero_add _) (mx x3 s)
      refine ⟨k0 + 4, v, fun k hk => ?_⟩
      obtain ⟨k', rfl⟩ : ∃ k', k = k' + 4 := ⟨k - 4, by omega⟩
      show swageref14_Regs.l1 (k' + 3 + 1) x3 (j : Int) (q : Int) p bs = some v
      rw [swageref14_Regs.l1, if_pos (Int.natCast_nonneg j), if_pos (Int.ofNat_lt.2 hj), if_pos (by omega), if_pos (Int.natCast_nonneg q), es, Option.bind_some, e k', Option.bind_some]
      exact h0 (k' + 3) (by omega)
theorem regs0 (p : Int) (bs : List S43) (h : Room bs) : ∀ (m j : Nat), j + m = bs.length → ∀ x3, Tt (fun k => swageref14_Regs.l0 k x3 (j : Int) p bs)
  | 0, j, hm, x3 => Tt.now x3 (fun k => by rw [swageref14_Regs.l0, if_neg (by omega)])
  | m + 1, j, hm, x3 => (regs1 p bs h j (by omega) (fun x => regs0 p bs h m (j + 1) (by omega) x) (rd_T43 bs (j : Int)).f0.length 0 (Nat.zero_add _) x3).up (fun k => by
      rw [swageref14_Regs.l0, if_pos (by omega)]
      rfl)
theorem regs_total (p : Int) (bs : List S43) (h : Room bs) : Tt (fun k => swageref14_Regs.f k p bs) := regs0 p bs h bs.length 0 (Nat.zero_add _) (mx p 0)
theorem few25_total (p : Int) (bs : List S43) (h : Room bs) : Tt (fun k => swagelaw25_few.f k p bs) := by
  refine Tt.bind (F := fun k t203 => (if t203 = true then (if (bs.length : Int) ≤ 12 then ((swageref14_Regs.f k p bs).bind fun t204 => (some (decide (t204 ≤ 40)))) else (some false)) else (some false))) (few_total p bs) (fun r _ => ?_)
  by_cases hr : r = true
  · simp only [hr, if_true]
    by_cases hb : (bs.length : Int) ≤ 12
    · simp only [if_pos hb]
      exact Tt.bind (F := fun k t204 => some (decide (t204 ≤ 40))) (regs_total p bs h) (fun r _ => Tt.const _)
    · simp only [if_neg hb]; exact Tt.const _
  · simp only [if_neg hr]; exact Tt.const _
end Go.Proofs.Ytnkgbnbbmcoiiaa.S
