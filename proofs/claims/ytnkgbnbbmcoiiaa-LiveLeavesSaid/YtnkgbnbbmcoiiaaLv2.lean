import Derived.RangeFuncWrites
import Derived.RangeFuncBox
namespace Go
open Go.RowKit
variable {F : Fence} {n : Nat} {P : Program}
set_option linter.unusedVariables false
/-- A range over a function whose round lays its variable in a block of its own (assign: one alloc), and whose body may write whatever lay ahead of the loop. -/
theorem wpIn_rangeFunc_ownGA {α : Type} {g : Operand} {ps : Array Tmp} {assign body : Code} {Q : Exit → Act → World → Prop} {a : Act} {w : World}
    (hro : F.round = none) (h1 : 1 ≤ n) {gf : Nat} {lb : Array Value} (hg : a.eval g = .func (.func gf) #[] lb) (hFg : F.fn gf) (eg : ∀ args w, (callFunc gf args).run P w = .ok (.enter gf args) w)
    {encs : α → Array Value} {Kp : World → World → Prop} {S Sp : List α → Prop} {N : Nat} {w0 : World} (hseq : SeqStopsK F (n - 1) P gf lb encs Kp S Sp N w0)
    (hKt : ∀ {A B C : World}, Kp A B → Kp B C → Kp A C) (hKb : ∀ (W : World) (l : Nat) (o o' : Obj), w.heap.size ≤ l → W.heap[l]? = some o → o.isCells = false → o.isWalk = false → Kp W (W.putObj l o')) (hb0 : Below w0.heap.size w0 w) (hps : ∀ x, (encs x).size = ps.size)
    (I : List α → World → Prop) (Ix : Code → List α → World → Prop) (hI : OwnFrom w.heap.size I) (hIx : ∀ c, OwnFrom w.heap.size (Ix c)) (h0 : I [] w) (a₁ : α → Nat → Act) (mk : α → Obj) (hKa : ∀ (W : World) (o : Obj), Kp W (W.alloc o))
    (hassign : ∀ (l : Nat) (x : α) (W : World) (K : Act → World → Prop), K (a₁ x W.heap.size) (W.alloc (mk x)) →
      assign.wpIn (F.inRound l) (n - 1 - 1) P (Exit.then K (fun _ _ _ => False)) { tmps := (ps.zip (encs x)).foldl (fun t (p, v) => t.setIfInBounds p v) a.tmps, defers := [] } W)
    (hbody : ∀ (l : Nat) (pre : List α) (x : α) (W : World) (b : Nat), I pre W → pre.length < N → w.heap.size ≤ b → W.heap[b]? = some (mk x) → body.wpIn (F.inRound l) (n - 1 - 1) P (ownPostG w.heap.size Kp I Ix (pre ++ [x]) W) (a₁ x b) W)
    (hdone : ∀ (D : Nat) (xs : List α) (W : World), w.heap.size ≤ D → S xs → I xs W → W.heap[D]? = some (.deferred (some [])) → Q .normal { a with defers := { target := .collected D, args := #[] } :: a.defers } W)
    (hstop : ∀ (D : Nat) (c : Code) (pre : List α) (W : World), w.heap.size ≤ D → Sp pre → Ix c pre W → W.heap[D]? = some (.deferred (some [])) → c.wpIn F n P Q { a with defers := { target := .collected D, args := #[] } :: a.defers } W) :
    (Code.rangeFunc g ps assign body).wpIn F n P Q a w := by
  refine wpIn_rangeFunc ?_
  intro fn hfn
  rw [hro]
  obtain ⟨rec, hrec⟩ : ∃ rec : LoopState → Option Code → Loop, rec = fun st pe => { state := st, pending := pe, fn, tmps := a.tmps, params := ps, assign, body, defers := w.heap.size } := ⟨_, rfl⟩
  obtain ⟨W1, hW1⟩ : ∃ W1, (w.alloc (.deferred (some []))).alloc (.loop (rec .ready none)) = W1 := ⟨_, rfl⟩
  have hL1 : W1.heap[w.heap.size + 1]? = some (.loop (rec .ready none)) := by
    rw [← hW1]; have := World.alloc_heap_new (w.alloc (.deferred (some []))) (.loop (rec .ready none)); rwa [World.size_alloc] at this
  have hK1 : W1.heap[w.heap.size]? = some (.deferred (some [])) := by
    rw [← hW1]; exact (Below.heap_alloc _ _ _ (by simp)).trans (World.alloc_heap_new w _)
  have hI1 : I [] W1 := by rw [← hW1]; exact hI.alloc _ (hI.alloc _ h0)
  have hb1 : Below w0.heap.size w0 W1 := by
    rw [← hW1]; exact hb0.trans ((((Below.refl _ w).alloc (Nat.le_refl _) _).alloc (by simp) _).mono hb0.size)
  refine ⟨w.heap.size + 1, [{ target := .collected w.heap.size, args := #[] }], W1, { target := .fn (.func gf) lb, args := #[.func (.yield (w.heap.size + 1)) #[] #[]] }, W1, gf,
    #[.func (.yield (w.heap.size + 1)) #[] #[]] ++ lb, W1, ?_, ?_, ?_, ?_, fun _ => h1, ?_⟩
  · rw [← hW1, hrec]; exact run_enterLoop_outer _ _ _ _ _
  · simp only [resolve, hg]
    simp [go_sem]
  · intro f' hf'; simp [Target.leads] at hf'; subst hf'; exact hFg
  · simp [invoke, go_sem, eg]
  · -- THE ITERATOR's CONTRACT, AT THE CALLER's INVARIANT WITH THE TWO FACTS OF BOOK-KEEPING BESIDE IT
    have hnw : ∀ {A B : World} {row : Option Nat}, (∀ r, row = some r → W1.heap.size ≤ r ∧ ∃ o : Obj, A.heap[r]? = some o ∧ o.isWalk = true) → (∀ r, row = some r → w.heap.size ≤ r ∧ ∃ o : Obj, A.heap[r]? = some o ∧ o.isCells = false) :=
      fun hr r e => by obtain ⟨hB, o, ho, hw⟩ := hr r e; exact ⟨by rw [← hW1] at hB; simp at hB; omega, o, ho, Obj.not_cells_of_walk hw⟩
    refine (hseq (w.heap.size + 1)
      (fun pre W => I pre W ∧ W.heap[w.heap.size + 1]? = some (.loop (rec .ready none)) ∧ W.heap[w.heap.size]? = some (.deferred (some [])))
      (fun pre W => ∃ c, Ix c pre W ∧ W.heap[w.heap.size + 1]? = some (.loop (rec .done (some c))) ∧ W.heap[w.heap.size]? = some (.deferred (some [])))
      W1 hb1
      (fun s A B row hs hg' hr => ⟨hI s A B row hs.1 hg' (hnw (B := B) hr), (grownBy_keeps hg' (fun r e => (hr r e).2) hs.2.1 rfl).trans hs.2.1, (grownBy_keeps hg' (fun r e => (hr r e).2) hs.2.2 rfl).trans hs.2.2⟩)
      (fun s A B row hs hg' hr => by
        obtain ⟨c, hc, hl, hk⟩ := hs
        exact ⟨c, hIx c s A B row hc hg' (hnw (B := B) hr), (grownBy_keeps hg' (fun r e => (hr r e).2) hl rfl).trans hl, (grownBy_keeps hg' (fun r e => (hr r e).2) hk rfl).trans hk⟩)
      ?_ ⟨hI1, hL1, hK1⟩).mono ?_
    · -- ONE ROUND
      rintro pre x W0 ⟨hi0, hl0, hk0⟩ hlen
      have hlt0 : w.heap.size + 1 < W0.heap.size := (Array.getElem?_eq_some_iff.1 hl0).1
      have hy := run_yield (P := P) (args := encs x) hl0 (by rw [hrec]; exact hps x)
      rw [hrec] at hy
      obtain ⟨W, hW⟩ : ∃ W, W0.alloc (mk x) = W := ⟨_, rfl⟩
      have hi : I pre W := by rw [← hW]; exact hI.alloc _ hi0
      have hl : W.heap[w.heap.size + 1]? = some (.loop (rec .ready none)) := by rw [← hW]; exact (Below.heap_alloc _ _ _ hlt0).trans hl0
      have hk : W.heap[w.heap.size]? = some (.deferred (some [])) := by rw [← hW]; exact (Below.heap_alloc _ _ _ (by omega)).trans hk0
      have hx : W.heap[W0.heap.size]? = some (mk x) := by rw [← hW]; exact World.alloc_heap_new W0 _
      have hw0 : Kp W0 W := by rw [← hW]; exact hKa _ _
      have hlt : w.heap.size + 1 < W.heap.size := (Array.getElem?_eq_some_iff.1 hl).1
      refine ⟨fn, _, assign, body, hy, roundIn_of_wpIn hfn (hassign _ x W0 _ ?_)⟩
      rw [hW]
      refine ⟨_, run_beginRound hl (by rw [hrec]), ?_⟩
      have hl2 : (W.putObj (w.heap.size + 1) (.loop { rec .ready none with state := .busy })).heap[w.heap.size + 1]? = some (.loop { rec .ready none with state := .busy }) := World.putObj_heap_same hlt
      have hk2 : (W.putObj (w.heap.size + 1) (.loop { rec .ready none with state := .busy })).heap[w.heap.size]? = some (.deferred (some [])) := (World.putObj_heap_other (by omega)).trans hk
      have hw2 : Kp W0 (W.putObj (w.heap.size + 1) (.loop { rec .ready none with state := .busy })) := hKt hw0 (hKb _ _ _ _ (by omega) hl rfl rfl)
      refine wpIn_mono (hbody _ pre x _ W0.heap.size (hI.putObj _ hi (by omega) hl rfl) hlen (by omega) ((World.putObj_heap_other (by omega)).trans hx)) ?_
      have fin : ∀ (jump : Option Code) (W3 : World), KeepsFrom w.heap.size (W.putObj (w.heap.size + 1) (.loop { rec .ready none with state := .busy })) W3 →
          (Instr.endRound (w.heap.size + 1) jump).run P W3 = .ok (.bool jump.isNone) (W3.putObj (w.heap.size + 1) (.loop (rec (if jump.isNone then .ready else .done) jump))) ∧
          W3.heap[w.heap.size + 1]? = some (.loop { rec .ready none with state := .busy }) ∧
          (W3.putObj (w.heap.size + 1) (.loop (rec (if jump.isNone then .ready else .done) jump))).heap[w.heap.size + 1]? = some (.loop (rec (if jump.isNone then .ready else .done) jump)) ∧
          (W3.putObj (w.heap.size + 1) (.loop (rec (if jump.isNone then .ready else .done) jump))).heap[w.heap.size]? = some (.deferred (some [])) := fun jump W3 hk3 => by
        have hl3 := hk3.same _ _ (by omega) hl2 rfl
        have := run_endRound (P := P) jump hl3
        rw [hrec] at this ⊢
        exact ⟨this, by rw [hrec] at hl3; exact hl3, World.putObj_heap_same (Array.getElem?_eq_some_iff.1 hl3).1, (World.putObj_heap_other (by omega)).trans (hk3.same _ _ (Nat.le_refl _) hk2 rfl)⟩
      rintro e a3 W3 hp
      cases e with
      | normal =>
        obtain ⟨hk3, hkp3, hi3⟩ := hp
        obtain ⟨hr, hl3, hl4, hk4⟩ := fin none W3 hk3
        exact ⟨_, _, hr, .inl ⟨rfl, ⟨hI.putObj _ hi3 (by omega) hl3 rfl, hl4, hk4⟩, hKt (hKt hw2 hkp3) (hKb _ _ _ _ (by omega) hl3 rfl rfl)⟩⟩
      | ret =>
        obtain ⟨hk3, hi3⟩ := hp
        obtain ⟨hr, hl3, hl4, hk4⟩ := fin (some .ret) W3 hk3
        exact ⟨_, _, hr, .inr ⟨rfl, .ret, (hIx _).putObj _ hi3 (by omega) hl3 rfl, hl4, hk4⟩⟩
      | exit id =>
        obtain ⟨hk3, hi3⟩ := hp
        obtain ⟨hr, hl3, hl4, hk4⟩ := fin (some (.exit id)) W3 hk3
        exact ⟨_, _, hr, .inr ⟨rfl, .exit id, (hIx _).putObj _ hi3 (by omega) hl3 rfl, hl4, hk4⟩⟩
      | goto t =>
        obtain ⟨hk3, hi3⟩ := hp
        obtain ⟨hr, hl3, hl4, hk4⟩ := fin (some (.goto t)) W3 hk3
        exact ⟨_, _, hr, .inr ⟨rfl, .goto t, (hIx _).putObj _ hi3 (by omega) hl3 rfl, hl4, hk4⟩⟩
      | panic ch => exact hp.elim
      | outgrown => exact hp.elim
    · -- BEHIND THE ITERATOR
      rintro e W2 ⟨⟨v, rfl⟩, (⟨xs, hS, hi, hl, hk⟩ | ⟨pre, hSp, c, hi, hl, hk⟩)⟩
      · exact ⟨none, _, by have := run_endLoop (P := P) hl (by rw [hrec]; simp); rw [hrec] at this; exact this, hdone _ xs _ (Nat.le_refl _) hS (hI.putObj _ hi (by omega) hl rfl) ((World.putObj_heap_other (by omega)).trans hk)⟩
      · exact ⟨some c, _, by have := run_endLoop (P := P) hl (by rw [hrec]; simp); rw [hrec] at this; exact this, hstop _ c pre _ (Nat.le_refl _) hSp ((hIx c).putObj _ hi (by omega) hl rfl) ((World.putObj_heap_other (by omega)).trans hk)⟩
end Go
namespace Go.Lv
set_option linter.unusedVariables false
/-! ### What is live, plain -/
/-- A function, as far as live registers want it. -/
structure G where
  nb : Nat
  len : Nat → Nat
  use : Nat → Nat → List Int
  set : Nat → Nat → Int
  tuse : Nat → List Int
  succ : Nat → List Int
/-- Register r is live at place k of block i. -/
inductive At (g : G) (r : Int) : Nat → Nat → Prop
  | use {i k : Nat} : k < g.len i → r ∈ g.use i k → At g r i k
  | step {i k : Nat} : k < g.len i → r ≠ g.set i k → At g r i (k + 1) → At g r i k
  | tuse {i : Nat} : r ∈ g.tuse i → At g r i (g.len i)
  | jump {i j : Nat} : (j : Int) ∈ g.succ i → At g r j 0 → At g r i (g.len i)
/-- What goes backwards from a block's end, m operations. -/
def Bk (g : G) (I : Nat → Int → Prop) (i : Nat) : Nat → Int → Prop
  | 0, r => r ∈ g.tuse i ∨ ∃ j : Nat, (j : Int) ∈ g.succ i ∧ I j r
  | m + 1, r => r ∈ g.use i (g.len i - 1 - m) ∨ (r ≠ g.set i (g.len i - 1 - m) ∧ Bk g I i m r)
/-- Each block's successors are blocks. -/
def Wf (g : G) : Prop := ∀ i, i < g.nb → ∀ t ∈ g.succ i, 0 ≤ t ∧ t < g.nb
theorem Bk.mono {g : G} {I I' : Nat → Int → Prop} {i : Nat} (h : ∀ (j : Nat) (r : Int), (j : Int) ∈ g.succ i → I j r → I' j r) : ∀ m r, Bk g I i m r → Bk g I' i m r
  | 0, r, hb => hb.imp id (fun ⟨j, h1, h2⟩ => ⟨j, h1, h j r h1 h2⟩)
  | m + 1, r, hb => hb.imp id (fun ⟨h1, h2⟩ => ⟨h1, Bk.mono h m r h2⟩)
theorem Bk.sound {g : G} {I : Nat → Int → Prop} {i : Nat} (h : ∀ (j : Nat) (r : Int), (j : Int) ∈ g.succ i → I j r → At g r j 0) : ∀ m r, m ≤ g.len i → Bk g I i m r → At g r i (g.len i - m)
  | 0, r, _, hb => by
    rcases hb with hb | ⟨j, h1, h2⟩
    · exact .tuse hb
    · exact .jump h1 (h j r h1 h2)
  | m + 1, r, hm, hb => by
    have e : g.len i - 1 - m = g.len i - (m + 1) := by omega
    rcases hb with hb | ⟨h1, h2⟩
    · rw [e] at hb
      exact .use (by omega) hb
    · rw [e] at h1
      refine .step (by omega) h1 ?_
      have := Bk.sound h m r (by omega) h2
      rwa [show g.len i - (m + 1) + 1 = g.len i - m by omega]
theorem Bk.complete {g : G} {I : Nat → Int → Prop} (hw : Wf g) (hc : ∀ i, i < g.nb → ∀ r, Bk g I i (g.len i) r → I i r) {r : Int} {i k : Nat} (h : At g r i k) : i < g.nb → k ≤ g.len i → Bk g I i (g.len i - k) r := by
  induction h with
  | @use i k hk hr =>
    intro hi _
    rw [show g.len i - k = (g.len i - 1 - k) + 1 by omega]
    refine .inl ?_
    rwa [show g.len i - 1 - (g.len i - 1 - k) = k by omega]
  | @step i k hk hr _ ih =>
    intro hi _
    rw [show g.len i - k = (g.len i - 1 - k) + 1 by omega]
    refine .inr ⟨?_, ?_⟩
    · rwa [show g.len i - 1 - (g.len i - 1 - k) = k by omega]
    · have := ih hi (by omega)
      rwa [show g.len i - (k + 1) = g.len i - 1 - k by omega] at this
  | @tuse i hr =>
    intro hi _
    rw [Nat.sub_self]
    exact .inl hr
  | @jump i j hj _ ih =>
    intro hi _
    rw [Nat.sub_self]
    have hjn : j < g.nb := by have := hw i hi _ hj; omega
    exact .inr ⟨j, hj, hc j hjn r (by have := ih hjn (Nat.zero_le _); rwa [Nat.sub_zero] at this)⟩
/-- The least sets are those of what is live. -/
theorem least {g : G} {I : Nat → Int → Prop} (hw : Wf g) (hs : ∀ i, i < g.nb → ∀ r, I i r → At g r i 0) (hc : ∀ i, i < g.nb → ∀ r, Bk g I i (g.len i) r → I i r) (i : Nat) (hi : i < g.nb) (r : Int) : I i r ↔ At g r i 0 :=
  ⟨hs i hi r, fun h => hc i hi r (by have := Bk.complete hw hc h hi (Nat.zero_le _); rwa [Nat.sub_zero] at this)⟩
/-- What goes backwards from the right sets is what is live. -/
theorem bk_at {g : G} {I : Nat → Int → Prop} (hw : Wf g) (hI : ∀ i, i < g.nb → ∀ r, I i r ↔ At g r i 0) (i : Nat) (hi : i < g.nb) (m : Nat) (hm : m ≤ g.len i) (r : Int) : Bk g I i m r ↔ At g r i (g.len i - m) := by
  refine ⟨Bk.sound (fun j r hj h => (hI j (by have := hw i hi _ hj; omega) r).1 h) m r hm, fun h => ?_⟩
  have := Bk.complete (I := I) hw (fun i hi r h => (hI i hi r).2 ?_) h hi (by omega)
  · rwa [show g.len i - (g.len i - m) = m by omega] at this
  · have := Bk.sound (fun j r hj h => (hI j (by have := hw i hi _ hj; omega) r).1 h) (g.len i) r (Nat.le_refl _) h
    rwa [Nat.sub_self] at this
theorem at_use {g : G} {r : Int} {i k : Nat} (h : At g r i k) : k < g.len i → (r ∈ g.use i k ∨ (r ≠ g.set i k ∧ At g r i (k + 1))) := by
  cases h with
  | use h1 h2 => exact fun _ => .inl h2
  | step h1 h2 h3 => exact fun _ => .inr ⟨h2, h3⟩
  | tuse h => exact fun hk => absurd hk (Nat.lt_irrefl _)
  | jump h1 h2 => exact fun hk => absurd hk (Nat.lt_irrefl _)
theorem at_iff {g : G} {r : Int} {i k : Nat} (hk : k < g.len i) : At g r i k ↔ (r ∈ g.use i k ∨ (r ≠ g.set i k ∧ At g r i (k + 1))) :=
  ⟨fun h => at_use h hk, fun h => h.elim (fun h => .use hk h) (fun h => .step hk h.1 h.2)⟩
theorem at_end {g : G} {r : Int} {i : Nat} : At g r i (g.len i) ↔ (r ∈ g.tuse i ∨ ∃ j : Nat, (j : Int) ∈ g.succ i ∧ At g r j 0) := by
  constructor
  · intro h
    generalize hk : g.len i = k at h
    cases h with
    | use h1 h2 => omega
    | step h1 h2 h3 => omega
    | tuse h => exact .inl h
    | jump h1 h2 => exact .inr ⟨_, h1, h2⟩
  · rintro (h | ⟨j, h1, h2⟩)
    · exact .tuse h
    · exact .jump h1 h2
/-- All that is live is read somewhere. -/
theorem at_some {g : G} {Q : Int → Prop} (hu : ∀ i k r, r ∈ g.use i k → Q r) (ht : ∀ i r, r ∈ g.tuse i → Q r) {r : Int} {i k : Nat} (h : At g r i k) : Q r := by
  induction h with
  | use _ h => exact hu _ _ _ h
  | step _ _ _ ih => exact ih
  | tuse h => exact ht _ _ h
  | jump _ _ ih => exact ih
/-! ### Rows without repeats -/
theorem nodup_le : ∀ {l m : List Int}, l.Nodup → (∀ x ∈ l, x ∈ m) → l.length ≤ m.length
  | [], m, _, _ => Nat.zero_le _
  | x :: l, m, hn, hs => by
    rw [List.nodup_cons] at hn
    have hx := hs x List.mem_cons_self
    have ih := nodup_le (m := m.erase x) hn.2 (fun y hy => (List.mem_erase_of_ne (fun e => hn.1 (by rw [← e]; exact hy))).2 (hs y (List.mem_cons_of_mem _ hy)))
    rw [List.length_erase_of_mem hx] at ih
    have := List.length_pos_of_mem hx
    simp only [List.length_cons]
    omega
theorem same_of_le {a b : List Int} (ha : a.Nodup) (hb : b.Nodup) (hs : ∀ x ∈ a, x ∈ b) (hl : b.length ≤ a.length) : ∀ x ∈ b, x ∈ a := fun x hx => Classical.byContradiction fun hn => by
  have := nodup_le (l := x :: a) (m := b) (List.nodup_cons.2 ⟨hn, ha⟩) (fun y hy => by
    rcases List.mem_cons.1 hy with rfl | hy
    · exact hx
    · exact hs y hy)
  simp only [List.length_cons] at this
  omega
theorem regs_le {l : List Int} (hn : l.Nodup) (h : ∀ r ∈ l, 1 ≤ r ∧ r ≤ 4096) : l.length ≤ 4096 := by
  have := nodup_le (m := (List.range 4096).map fun k : Nat => (k : Int) + 1) hn (fun r hr => by
    have := h r hr
    exact List.mem_map.2 ⟨(r - 1).toNat, List.mem_range.2 (by omega), by omega⟩)
  simpa using this
/-- Strictly rising rows of the same members are one. -/
theorem rise_ext : ∀ {a b : List Int}, a.Pairwise (· < ·) → b.Pairwise (· < ·) → (∀ r, r ∈ a ↔ r ∈ b) → a = b
  | [], [], _, _, _ => rfl
  | [], y :: b, _, _, h => absurd ((h y).2 List.mem_cons_self) (by simp)
  | x :: a, [], _, _, h => absurd ((h x).1 List.mem_cons_self) (by simp)
  | x :: a, y :: b, ha, hb, h => by
    rw [List.pairwise_cons] at ha hb
    have hxy : x = y := by
      have h1 := (h x).1 List.mem_cons_self
      have h2 := (h y).2 List.mem_cons_self
      rcases List.mem_cons.1 h1 with h1 | h1
      · exact h1
      · rcases List.mem_cons.1 h2 with h2 | h2
        · exact h2.symm
        · have := ha.1 y h2; have := hb.1 x h1; omega
    subst hxy
    have := rise_ext ha.2 hb.2 (fun r => by
      have := h r
      constructor
      · intro hr
        rcases List.mem_cons.1 (this.1 (List.mem_cons_of_mem _ hr)) with e | e
        · have := ha.1 r hr; omega
        · exact e
      · intro hr
        rcases List.mem_cons.1 (this.2 (List.mem_cons_of_mem _ hr)) with e | e
        · have := hb.1 r hr; omega
        · exact e)
    rw [this]
/-! ### Sizes of sets -/
/-- P holds of m numbers. -/
def Sz (P : Int → Prop) (m : Nat) : Prop := ∃ l : List Int, l.Nodup ∧ (∀ r, r ∈ l ↔ P r) ∧ l.length = m
theorem Sz.le {P Q : Int → Prop} {a b : Nat} (h : Sz P a) (k : Sz Q b) (hs : ∀ r, P r → Q r) : a ≤ b := by
  obtain ⟨l, h1, h2, rfl⟩ := h
  obtain ⟨m, k1, k2, rfl⟩ := k
  exact nodup_le h1 (fun x hx => (k2 x).2 (hs x ((h2 x).1 hx)))
theorem Sz.same {P Q : Int → Prop} {a b : Nat} (h : Sz P a) (k : Sz Q b) (hs : ∀ r, P r → Q r) (hl : b ≤ a) : ∀ r, Q r → P r := by
  obtain ⟨l, h1, h2, rfl⟩ := h
  obtain ⟨m, k1, k2, rfl⟩ := k
  intro r hr
  exact (h2 r).1 (same_of_le h1 k1 (fun x hx => (k2 x).2 (hs x ((h2 x).1 hx))) hl r ((k2 r).2 hr))
theorem Sz.uniq {P : Int → Prop} {a b : Nat} (h : Sz P a) (k : Sz P b) : a = b := Nat.le_antisymm (h.le k fun _ h => h) (k.le h fun _ h => h)
theorem Sz.regs {P : Int → Prop} {a : Nat} (h : Sz P a) (hr : ∀ r, P r → 1 ≤ r ∧ r ≤ 4096) : a ≤ 4096 := by
  obtain ⟨l, h1, h2, rfl⟩ := h
  exact regs_le h1 (fun r hr' => hr r ((h2 r).1 hr'))
/-- The sets' sizes, together. -/
def Tot (I : Nat → Int → Prop) (n s : Nat) : Prop := ∃ L : Nat → Nat, (∀ i, i < n → Sz (I i) (L i) ∧ L i ≤ 4096) ∧ s = ((List.range n).map L).sum
theorem sum_le (L : Nat → Nat) (b : Nat) : ∀ n, (∀ i, i < n → L i ≤ b) → ((List.range n).map L).sum ≤ n * b
  | 0, _ => Nat.zero_le _
  | n + 1, h => by
    have := sum_le L b n (fun i hi => h i (by omega))
    have h2 := h n (by omega)
    rw [List.range_succ, List.map_append, List.sum_append, Nat.succ_mul]
    simp
    omega
theorem sum_set (L L' : Nat → Nat) (k : Nat) : ∀ n, (∀ i, i < n → i ≠ k → L' i = L i) → (k < n → L k < L' k) → (k < n → ((List.range n).map L).sum < ((List.range n).map L').sum) ∧ (n ≤ k → ((List.range n).map L).sum = ((List.range n).map L').sum)
  | 0, _, _ => ⟨fun h => absurd h (Nat.not_lt_zero _), fun _ => rfl⟩
  | n + 1, h, hk => by
    have ih := sum_set L L' k n (fun i hi => h i (by omega)) (fun hi => hk (by omega))
    simp only [List.range_succ, List.map_append, List.sum_append, List.map_cons, List.map_nil, List.sum_cons, List.sum_nil, Nat.add_zero]
    refine ⟨fun hlt => ?_, fun hle => ?_⟩
    · by_cases e : n = k
      · subst e
        have := ih.2 (Nat.le_refl _)
        have := hk (by omega)
        omega
      · have := ih.1 (by omega)
        have := h n (by omega) e
        omega
    · have := ih.2 (by omega)
      have := h n (by omega) (by omega)
      omega
theorem Tot.le {I : Nat → Int → Prop} {n s : Nat} (h : Tot I n s) : s ≤ n * 4096 := by
  obtain ⟨L, h1, rfl⟩ := h
  exact sum_le L 4096 n (fun i hi => (h1 i hi).2)
theorem Tot.set {I : Nat → Int → Prop} {n s k a b : Nat} {P : Int → Prop} (h : Tot I n s) (hk : k < n) (ha : Sz (I k) a) (hb : Sz P b) (hab : a < b) (hb4 : b ≤ 4096) : ∃ s', Tot (fun i r => if i = k then P r else I i r) n s' ∧ s < s' := by
  obtain ⟨L, h1, rfl⟩ := h
  refine ⟨_, ⟨fun i => if i = k then b else L i, fun i hi => ?_, rfl⟩, ?_⟩
  · by_cases e : i = k
    · simp only [if_pos e]; exact ⟨hb, hb4⟩
    · simp only [if_neg e]; exact h1 i hi
  · refine (sum_set L (fun i => if i = k then b else L i) k n (fun i _ e => if_neg e) (fun _ => ?_)).1 hk
    simp only [if_pos]
    have := (h1 k hk).1.uniq ha
    omega
theorem Tot.zero (n : Nat) : Tot (fun _ _ => False) n ((List.range n).map fun _ => 0).sum := ⟨fun _ => 0, fun i hi => ⟨⟨[], List.nodup_nil, fun r => by simp, rfl⟩, Nat.zero_le _⟩, rfl⟩
end Go.Lv
namespace Go.Lv
set_option linter.unusedVariables false
/-! ### What is live comes from somewhere, and is read somewhere -/
theorem Sz.imp {P Q : Int → Prop} {m : Nat} (h : Sz P m) (hq : ∀ r, P r ↔ Q r) : Sz Q m := by
  obtain ⟨l, h1, h2, h3⟩ := h
  exact ⟨l, h1, fun r => (h2 r).trans (hq r), h3⟩
end Go.Lv
