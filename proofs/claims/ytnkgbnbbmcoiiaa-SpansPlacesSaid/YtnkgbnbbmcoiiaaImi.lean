import Derived.Maps.OwnIn
import Derived.Sort.MapsRangeIn
import Derived.RangeFuncWrites
import Derived.Test.YtnkgbnbbmcoiiaaIm
namespace Go.IM
open Go.ChangeMaps (setBlock heap_setBlock_same heap_setBlock_other)
open Go.MapKept
set_option linter.unusedVariables false
set_option linter.unusedSimpArgs false
/-! ### What a round keeps, where it writes a map: whatever is cells -/
structure KC (A B : World) : Prop where
  size : A.heap.size ≤ B.heap.size
  cells : ∀ (k : Nat) (o : Obj), A.heap[k]? = some o → o.isCells = true → B.heap[k]? = some o
theorem KC.refl (A : World) : KC A A := ⟨Nat.le_refl _, fun _ _ h _ => h⟩
theorem KC.trans {A B C : World} (h : KC A B) (k : KC B C) : KC A C := ⟨Nat.le_trans h.size k.size, fun i o hi ho => k.cells i o (h.cells i o hi ho) ho⟩
theorem KC.of_below {A B : World} (h : RowKit.Below A.heap.size A B) : KC A B := ⟨h.size, fun k o hk _ => (h.block k (Array.getElem?_eq_some_iff.1 hk).1).trans hk⟩
theorem KC.of_grown {A B : World} {b : Nat} (hg : A.grownBy B (some b)) (hb : ∀ o, A.heap[b]? = some o → o.isCells = false) : KC A B :=
  ⟨hg.size, fun k o hk ho => (hg.block k (Array.getElem?_eq_some_iff.1 hk).1 (fun e => by cases e; rw [hb o hk] at ho; cases ho)).trans hk⟩
theorem KC.cell {A B : World} (h : KC A B) {a : Addr} {v : Value} (hc : A.cell? a = some v) : B.cell? a = some v := by
  have hlt := World.block_lt_of_cell? A a hc
  have e : A.heap[a.block]? = some A.heap[a.block] := Array.getElem?_eq_getElem hlt
  have hk : A.heap[a.block].isCells = true := by
    unfold World.cell? at hc
    rw [e] at hc
    cases ho : A.heap[a.block] <;> rw [ho] at hc <;> first | rfl | simp_all
  have := h.cells a.block _ e hk
  rw [← hc]
  unfold World.cell?
  rw [e, this]
theorem At.no_cells {w : World} {b : Nat} {es : List (Int × Value)} (h : At w b es) : ∀ o, w.heap[b]? = some o → o.isCells = false := by
  obtain ⟨en, ck, hb, _⟩ := h
  intro o ho
  rw [hb] at ho
  cases ho
  rfl
theorem Rng.of_walks {w w' : World} {b r : Nat} {es left : List (Int × Value)} (h : Rng w b r es left) (hk : KeepsWalks w w') : Rng w' b r es left := by
  obtain ⟨en, clock, since, seen, c0, hb, r1, r2, r3, r4, hr, r5⟩ := h
  exact ⟨en, clock, since, seen, c0, hk.same b _ hb rfl, r1, r2, r3, r4, hk.same r _ hr rfl, r5⟩
theorem Rng.iter_walk {w : World} {b r : Nat} {es left : List (Int × Value)} (h : Rng w b r es left) : ∃ o : Obj, w.heap[r]? = some o ∧ o.isWalk = true := by
  obtain ⟨en, clock, since, seen, c0, hb, r1, r2, r3, r4, hr, r5⟩ := h
  exact ⟨_, hr, rfl⟩
theorem perm_step {left : List (Int × Value)} {j : Nat} {k : Int} {c : Value} (h : left[j]? = some (k, c)) : (k :: (left.eraseIdx j).map (·.1)).Perm (left.map (·.1)) := by
  have h1 : left[j]? = some (k, c) := h
  have hj := (List.getElem?_eq_some_iff.1 h).1
  have he := (List.getElem?_eq_some_iff.1 h).2
  have h2 : (left[j] :: left.eraseIdx j).Perm left := by
    rw [List.eraseIdx_eq_take_drop_succ]
    have : left = left.take j ++ left[j] :: left.drop (j + 1) := by rw [← List.drop_eq_getElem_cons hj, List.take_append_drop]
    conv => rhs; rw [this]
    exact List.perm_middle.symm
  rw [he] at h2
  exact h2.map (·.1)
/-! ### Maps keyed by int, inside a fence -/
section
variable {F : Fence} {nF : Nat} {P : Program} (w : World) {ops : Array Oper} {rest : List Oper} {o : Oper} {a : Act} {Q : Exit → Act → World → Prop}
theorem wplIn_range (hg : o.guard = none) (m : Operand) (T : TypeId) (hop : o.op = Op.range T m) (K E : TypeId) (hT : P.underlying T = some (.map K E)) (b : Nat) (es : List (Int × Value)) (hm : a.eval m = .map (some b)) (h : At w b es)
    (hQ : ∀ w', Rng w' b w.heap.size es es → w.grownBy w' none → w'.heap.size = w.heap.size + 1 → wpListIn F nF P ops Q rest (a.put o.dst (.pointer (some ⟨w.heap.size, 0, none⟩))) w') : wpListIn F nF P ops Q (o :: rest) a w := by
  refine wpListIn_plain hg fun K' hK' => ?_
  obtain ⟨w', hrun, h1, h2, h3⟩ := h.range hT
  unfold Oper.wpIn
  refine ⟨by simp [Oper.about, hop, resolve, Target.leads, Sem.run_pure], ?_⟩
  rw [Oper.semAt_plain F _ _ (by rw [hop]; intro c hc'; cases hc')]
  simp [execOp, hop, hm, hrun, Result.andThen]
  exact hK' _ _ (hQ w' h1 h2 h3)
theorem wplIn_next {β : Type} (hg : o.guard = none) (it : Operand) (hop : o.op = Op.next it false) (b r : Nat) (es left : List (Int × Value)) (hit : a.eval it = .pointer (some ⟨r, 0, none⟩)) (h : Rng w b r es left) (mk : β → Value) (inv : ∀ p ∈ left, ∃ c, p.2 = mk c)
    (hDone : left = [] → wpListIn F nF P ops Q rest (a.put o.dst (.tuple #[.bool false])) w)
    (hMore : ∀ (j : Nat) (k : Int) (c : β) (w' : World), left[j]? = some (k, mk c) → Rng w' b r es (left.eraseIdx j) → (left.eraseIdx j).length < left.length → w.grownBy w' (some r) → w'.heap.size = w.heap.size →
      (Instr.entry (.pointer (some ⟨r, 0, none⟩))).run P w' = .ok (.tuple #[.int .i64 k, mk c]) w' → wpListIn F nF P ops Q rest (a.put o.dst (.tuple #[.bool true, .int .i64 k, mk c])) w') : wpListIn F nF P ops Q (o :: rest) a w := by
  refine wpListIn_plain hg fun K' hK' => ?_
  unfold Oper.wpIn
  refine ⟨by simp [Oper.about, hop, resolve, Target.leads, Sem.run_pure], ?_⟩
  rw [Oper.semAt_plain F _ _ (by rw [hop]; intro c hc'; cases hc')]
  rcases h.next (P := P) o.type with ⟨h0, hrun⟩ | ⟨j, p, w', hj, hrun, h1, h2, h3, hen⟩
  · simp [execOp, hop, hit, hrun, Result.andThen]
    exact hK' _ _ (hDone h0)
  · obtain ⟨k, v⟩ := p
    obtain ⟨c, hc⟩ := inv _ (List.mem_of_getElem? hj)
    simp only at hc
    subst hc
    simp [execOp, hop, hit, hrun, Result.andThen]
    have hjl : j < left.length := (List.getElem?_eq_some_iff.1 hj).1
    exact hK' _ _ (hMore j k c w' hj h1 (by rw [List.length_eraseIdx, if_pos hjl]; omega) h2 h3 hen)
end
end Go.IM
