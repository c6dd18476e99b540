import Derived.Test.YtnkgbnbbmcoiiaaOsweep
import Derived.Test.YtnkgbnbbmcoiiaaLsm
namespace Go.Proofs.Ytnkgbnbbmcoiiaa.S
open Go.RowKit Go.IM Go.Proofs.YtnkgbnbbmcoiiaaW.PrintWords Go.Proofs.YtnkgbnbbmcoiiaaW.PrintLast Go.Proofs.YtnkgbnbbmcoiiaaW.PrintMore
set_option linter.unusedVariables false
set_option linter.unusedSimpArgs false
/-! ### What Sweep leaves, plain -/
/-- Some operations, without some that are pure. -/
inductive Emb : List S45 → List S45 → Prop
  | nil : Emb [] []
  | keep {x : S45} {a b : List S45} : Emb a b → Emb (x :: a) (x :: b)
  | skip {x : S45} {a b : List S45} : pureX x = true → Emb a b → Emb a (x :: b)
theorem Emb.refl : ∀ a, Emb a a
  | [] => .nil
  | _ :: a => .keep (Emb.refl a)
theorem Emb.trans {b c : List S45} (h : Emb b c) : ∀ {a}, Emb a b → Emb a c := by
  induction h with
  | nil => exact fun h => h
  | keep _ ih =>
    intro a ha
    cases ha with
    | keep ha => exact .keep (ih ha)
    | skip hp ha => exact .skip hp (ih ha)
  | skip hp _ ih => exact fun ha => .skip hp (ih ha)
theorem Emb.snoc {a b : List S45} (h : Emb a b) (x : S45) : Emb (a ++ [x]) (b ++ [x]) := by
  induction h with
  | nil => exact .keep .nil
  | keep _ ih => exact .keep ih
  | skip hp _ ih => exact .skip hp ih
theorem Emb.snoc_skip {a b : List S45} (h : Emb a b) {x : S45} (hp : pureX x = true) : Emb a (b ++ [x]) := by
  induction h with
  | nil => exact .skip hp .nil
  | keep _ ih => exact .keep ih
  | skip hp _ ih => exact .skip hp ih
/-- Where the law's two counters stand. -/
def GInv (G F : List S45) : Prop := ∃ d : List S45, (∀ y ∈ d, pureX y = true) ∧ Emb (d ++ G) F
theorem GInv.start {a b : List S45} (h : Emb a b) : GInv a b := ⟨[], by simp, h⟩
theorem GInv.take {x : S45} {G F : List S45} (h : GInv (x :: G) (x :: F)) : GInv G F := by
  obtain ⟨d, hd, he⟩ := h
  generalize hl : d ++ x :: G = l at he
  generalize hr : x :: F = r at he
  cases he with
  | nil => cases hr
  | keep he =>
    cases hr
    cases d with
    | nil => cases hl; exact ⟨[], by simp, he⟩
    | cons y d =>
      injection hl with h1 h2
      subst h1
      refine ⟨d ++ [y], fun z hz => ?_, by rw [List.append_assoc]; simp only [List.singleton_append]; have h2' : d ++ y :: G = _ := h2; rw [h2']; exact he⟩
      rcases List.mem_append.1 hz with hz | hz
      · exact hd z (List.mem_cons_of_mem _ hz)
      · rw [List.mem_singleton.1 hz]; exact hd y List.mem_cons_self
  | skip hp he =>
    cases hr
    refine ⟨d ++ [x], fun z hz => ?_, by rw [List.append_assoc]; simp only [List.singleton_append]; rw [hl]; exact he⟩
    rcases List.mem_append.1 hz with hz | hz
    · exact hd z hz
    · rw [List.mem_singleton.1 hz]; exact hp
theorem GInv.pass {x : S45} {G F : List S45} (h : GInv G (x :: F)) (hn : ∀ G', G ≠ x :: G') : pureX x = true ∧ GInv G F := by
  obtain ⟨d, hd, he⟩ := h
  generalize hl : d ++ G = l at he
  generalize hr : x :: F = r at he
  cases he with
  | nil => cases hr
  | keep he =>
    cases hr
    cases d with
    | nil => exact absurd hl (hn _)
    | cons y d =>
      injection hl with h1 h2
      subst h1
      exact ⟨hd y List.mem_cons_self, d, fun z hz => hd z (List.mem_cons_of_mem _ hz), by have h2' : d ++ G = _ := h2; rw [h2']; exact he⟩
  | skip hp he =>
    cases hr
    exact ⟨hp, d, hd, by rw [hl]; exact he⟩
theorem GInv.fin {G : List S45} (h : GInv G []) : G = [] := by
  obtain ⟨d, hd, he⟩ := h
  generalize hl : d ++ G = l at he
  cases he
  exact (List.append_eq_nil_iff.1 hl).2
/-! What one step leaves. -/
theorem deadB_pure {bs : List S43} {q : Nat × Nat} (h : deadB bs q = true) : pureX (opOf bs q) = true ∧ (opOf bs q).f1 ∉ liveRow bs q.1 (q.2 + 1) := by
  unfold deadB at h
  rw [Bool.and_eq_true] at h
  exact ⟨h.1, by simpa using h.2⟩
theorem pure_set {x : S45} (h : pureX x = true) : setX x = x.f1 := by
  unfold pureX at h
  unfold setX shp
  simp only [Bool.or_eq_true, Bool.and_eq_true, decide_eq_true_eq] at h
  rcases h with (h | h) | ⟨h, _⟩ <;> simp [h]
theorem opsW_at (bs : List S43) {ds : List (Nat × Nat)} {i q : Nat} (hn : (i, q) ∉ ds) : ∀ m, q < m → (opsW bs ds i m)[(opsW bs ds i q).length]? = some (opOf bs (i, q))
  | 0, h => absurd h (Nat.not_lt_zero _)
  | m + 1, h => by
    rw [opsW_succ]
    by_cases e : q = m
    · subst e
      rw [if_neg hn, List.getElem?_append_right (Nat.le_refl _), Nat.sub_self]
      rfl
    · have ih := opsW_at bs hn m (by omega)
      split
      · exact ih
      · rw [List.getElem?_append_left (List.getElem?_eq_some_iff.1 ih).1]
        exact ih
theorem opOf_kept {bs : List S43} {ds : List (Nat × Nat)} {i q : Nat} (hi : i < bs.length) (hq : q < opLen bs i) (hn : (i, q) ∉ ds) :
    (opsW bs ds i q).length < opLen (woutL bs ds) i ∧ opOf (woutL bs ds) (i, (opsW bs ds i q).length) = opOf bs (i, q) ∧ (opsW bs ds i (q + 1)).length = (opsW bs ds i q).length + 1 := by
  have h := opsW_at bs hn (opLen bs i) hq
  obtain ⟨hlt, he⟩ := List.getElem?_eq_some_iff.1 h
  refine ⟨by rw [opLen_wout hi]; exact hlt, ?_, ?_⟩
  · show rd_T45 (rd_T43 (woutL bs ds) (i : Int)).f0 (((opsW bs ds i q).length : Nat) : Int) = _
    rw [rd_woutL hi]
    exact (rd45' hlt).trans he
  · rw [opsW_succ, if_neg hn, List.length_append]
    rfl
theorem live_back {p : Int} {bs : List S43} {fn : Int} (h : RightP p bs fn) {i q : Nat} (hq : q < opLen bs i) {r : Int} (hd : deadB bs (i, q) = true) (ha : Lv.At (gOf bs) r i (q + 1)) : Lv.At (gOf bs) r i q := by
  obtain ⟨h1, h2⟩ := deadB_pure hd
  refine .step hq (fun e => ?_) ha
  have e : r = setX (opOf bs (i, q)) := e
  rw [pure_set h1] at e
  exact h2 (e ▸ (mem_liveRow h).2 ha)
theorem live_drop {p : Int} {bs : List S43} {fn : Int} (h : RightP p bs fn) {ds : List (Nat × Nat)} (hds : ∀ q ∈ ds, deadB bs q = true) {i k : Nat} {r : Int}
    (hk : ∀ q, q < opLen bs i → (i, q) ∉ ds → (opsW bs ds i q).length = k → Lv.At (gOf bs) r i q) (he : (opsW bs ds i (opLen bs i)).length = k → Lv.At (gOf bs) r i (opLen bs i)) :
    ∀ n q, opLen bs i = q + n → (opsW bs ds i q).length = k → Lv.At (gOf bs) r i q
  | 0, q, hq, hc => by
    have e : q = opLen bs i := by omega
    rw [e] at hc ⊢
    exact he hc
  | n + 1, q, hq, hc => by
    by_cases hn : (i, q) ∈ ds
    · refine live_back h (by omega) (hds _ hn) (live_drop h hds hk he n (q + 1) (by omega) ?_)
      rw [opsW_succ, if_pos hn]
      exact hc
    · exact hk q (by omega) hn hc
theorem live_wout {p : Int} {bs : List S43} {fn : Int} (h : RightP p bs fn) {ds : List (Nat × Nat)} (hds : ∀ q ∈ ds, deadB bs q = true) {r : Int} {i k : Nat} (ha : Lv.At (gOf (woutL bs ds)) r i k) :
    i < bs.length → ∀ q, q ≤ opLen bs i → (opsW bs ds i q).length = k → Lv.At (gOf bs) r i q := by
  induction ha with
  | @use i k hlt hu =>
    intro hi q hq hc
    have hlt : k < opLen (woutL bs ds) i := hlt
    rw [opLen_wout hi] at hlt
    refine live_drop h hds (k := k) (fun q hq hn hc => ?_) (fun hc => by omega) (opLen bs i - q) q (by omega) hc
    obtain ⟨_, h2, _⟩ := opOf_kept hi hq hn
    refine .use hq ?_
    have hu : r ∈ useX (opOf (woutL bs ds) (i, k)) := hu
    rw [← hc, h2] at hu
    exact hu
  | @step i k hlt hs _ ih =>
    intro hi q hq hc
    have hlt : k < opLen (woutL bs ds) i := hlt
    rw [opLen_wout hi] at hlt
    refine live_drop h hds (k := k) (fun q hq hn hc => ?_) (fun hc => by omega) (opLen bs i - q) q (by omega) hc
    obtain ⟨_, h2, h3⟩ := opOf_kept hi hq hn
    refine .step hq (fun e => hs ?_) (ih hi (q + 1) hq (by rw [h3, hc]))
    show r = setX (opOf (woutL bs ds) (i, k))
    rw [← hc, h2]
    exact e
  | @tuse i hu =>
    intro hi q hq hc
    have hc : (opsW bs ds i q).length = opLen (woutL bs ds) i := hc
    rw [opLen_wout hi] at hc
    refine live_drop h hds (k := (opsW bs ds i (opLen bs i)).length) (fun q hq hn hc => ?_) (fun _ => .tuse ?_) (opLen bs i - q) q (by omega) hc
    · obtain ⟨h1, _, _⟩ := opOf_kept hi hq hn
      rw [opLen_wout hi] at h1
      omega
    · have hu : r ∈ tuseT (rd_T43 (woutL bs ds) (i : Int)).f1 := hu
      rw [rd_woutL hi] at hu
      exact hu
  | @jump i j hj _ ih =>
    intro hi q hq hc
    have hc : (opsW bs ds i q).length = opLen (woutL bs ds) i := hc
    rw [opLen_wout hi] at hc
    have hj : (j : Int) ∈ succT (rd_T43 (woutL bs ds) (i : Int)).f1 := hj
    rw [rd_woutL hi] at hj
    have hj : (j : Int) ∈ succT (rd_T43 bs (i : Int)).f1 := hj
    have hjl := h.succ hi _ hj
    refine live_drop h hds (k := (opsW bs ds i (opLen bs i)).length) (fun q hq hn hc => ?_) (fun _ => .jump hj (ih (by omega) 0 (Nat.zero_le _) rfl)) (opLen bs i - q) q (by omega) hc
    obtain ⟨h1, _, _⟩ := opOf_kept hi hq hn
    rw [opLen_wout hi] at h1
    omega
/-- For each place of what is left, one of what was. -/
theorem opsW_place (bs : List S43) (ds : List (Nat × Nat)) (i k : Nat) : ∀ m, k ≤ (opsW bs ds i m).length → ∃ q, q ≤ m ∧ (opsW bs ds i q).length = k
  | 0, h => ⟨0, Nat.le_refl _, by have : (opsW bs ds i 0).length = 0 := rfl; omega⟩
  | m + 1, h => by
    by_cases e : k ≤ (opsW bs ds i m).length
    · obtain ⟨q, h1, h2⟩ := opsW_place bs ds i k m e
      exact ⟨q, by omega, h2⟩
    · refine ⟨m + 1, Nat.le_refl _, ?_⟩
      rw [opsW_succ] at h ⊢
      split at h
      · omega
      · rename_i hn
        rw [if_neg hn]
        rw [List.length_append, List.length_singleton] at h ⊢
        omega
theorem emb_wout {bs : List S43} {ds : List (Nat × Nat)} (hds : ∀ q ∈ ds, deadB bs q = true) {i : Nat} : ∀ m, m ≤ opLen bs i → Emb (opsW bs ds i m) ((rd_T43 bs (i : Int)).f0.take m)
  | 0, _ => by rw [List.take_zero]; exact .nil
  | m + 1, h => by
    have hm : m < (rd_T43 bs (i : Int)).f0.length := h
    have ih := emb_wout hds (i := i) m (by omega)
    rw [opsW_succ, List.take_succ_eq_append_getElem hm]
    have e : (rd_T43 bs (i : Int)).f0[m] = opOf bs (i, m) := (rd45' hm).symm
    rw [e]
    split
    · rename_i hd
      exact ih.snoc_skip (deadB_pure (hds _ hd)).1
    · exact ih.snoc _
/-- What LiveLeaves asks of what is left. -/
structure Leaves (bs s : List S43) : Prop where mk ::
  len : s.length = bs.length
  term : ∀ i : Nat, i < bs.length → (rd_T43 s (i : Int)).f1 = (rd_T43 bs (i : Int)).f1
  emb : ∀ i : Nat, i < bs.length → Emb (rd_T43 s (i : Int)).f0 (rd_T43 bs (i : Int)).f0
  live : ∀ i k : Nat, i < bs.length → k ≤ opLen s i → ∃ q, q ≤ opLen bs i ∧ (k = 0 → q = 0) ∧ ∀ r, Lv.At (gOf s) r i k → Lv.At (gOf bs) r i q
theorem Leaves.refl (bs : List S43) : Leaves bs bs := ⟨rfl, fun _ _ => rfl, fun _ _ => Emb.refl _, fun i k _ hk => ⟨k, hk, fun h => h, fun _ h => h⟩⟩
theorem Leaves.trans {a b c : List S43} (h : Leaves a b) (k : Leaves b c) : Leaves a c :=
  ⟨k.len.trans h.len, fun i hi => (k.term i (by rw [h.len]; exact hi)).trans (h.term i hi), fun i hi => by
    have h1 := h.emb i hi
    have h2 := k.emb i (by rw [h.len]; exact hi)
    exact Emb.trans h1 h2, fun i m hi hm => by
    obtain ⟨q, h1, h2, h3⟩ := k.live i m (by rw [h.len]; exact hi) hm
    obtain ⟨q', g1, g2, g3⟩ := h.live i q hi h1
    exact ⟨q', g1, fun e => g2 (h2 e), fun r hr => g3 r (h3 r hr)⟩⟩
theorem leaves_wout {p : Int} {bs : List S43} {fn : Int} (h : RightP p bs fn) {ds : List (Nat × Nat)} (hds : ∀ q ∈ ds, deadB bs q = true) : Leaves bs (woutL bs ds) :=
  ⟨woutL_length _ _, fun i hi => by rw [rd_woutL hi]; rfl, fun i hi => by
    rw [rd_woutL hi]
    have h1 := emb_wout hds (i := i) (opLen bs i) (Nat.le_refl _)
    have h2 : (rd_T43 bs (i : Int)).f0.take (opLen bs i) = (rd_T43 bs (i : Int)).f0 := List.take_of_length_le (Nat.le_refl _)
    rw [h2] at h1
    exact h1, fun i k hi hk => by
    rw [opLen_wout hi] at hk
    by_cases e : k = 0
    · subst e
      exact ⟨0, Nat.zero_le _, fun h => h, fun r hr => live_wout h hds hr hi 0 (Nat.zero_le _) rfl⟩
    · obtain ⟨q, h1, h2⟩ := opsW_place bs ds i k (opLen bs i) hk
      exact ⟨q, h1, fun h => absurd h e, fun r hr => live_wout h hds hr hi q h1 h2⟩⟩
theorem SweepOf.leaves {bs s : List S43} (h : SweepOf bs s) {p fn : Int} (hr : RightP p bs fn) : Leaves bs s := by
  induction h with
  | done _ => exact Leaves.refl _
  | step _ _ ih => exact (leaves_wout hr (fun q hq => (mem_deadL.1 hq).2)).trans (ih (hr.wout _))
theorem Leaves.most {bs s : List S43} (h : Leaves bs s) {p fn : Int} (hr : RightP p bs fn) (hs : RightP p s fn) {m n : Nat} (hm : MaxOf (Sizes bs bs.length) m) (hn : MaxOf (Sizes s s.length) n) : n ≤ m := by
  rcases hn.is with e | ⟨i, k, hi, hk, e⟩
  · omega
  · rw [h.len] at hi
    obtain ⟨q, h1, _, h3⟩ := h.live i k hi hk
    have := (liveRow_sz hs i k).le (liveRow_sz hr i q) h3
    have := hm.le _ ⟨i, q, hi, h1, rfl⟩
    omega
theorem Leaves.row {bs s : List S43} (h : Leaves bs s) {p fn : Int} (hr : RightP p bs fn) (hs : RightP p s fn) {i : Nat} (hi : i < bs.length) : ∀ r ∈ liveRow s i 0, r ∈ liveRow bs i 0 := by
  intro r hm
  obtain ⟨q, _, h2, h3⟩ := h.live i 0 hi (Nat.zero_le _)
  have := h3 r ((mem_liveRow hs).1 hm)
  rw [h2 rfl] at this
  exact (mem_liveRow hr).2 this
end Go.Proofs.Ytnkgbnbbmcoiiaa.S
