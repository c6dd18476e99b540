import Derived.Test.YtnkgbnbbmcoiiaaRel
import Derived.OwnWalkIn
import Derived.OrdersIn
import Derived.RangeFuncCalls
import Derived.Test.YtnkgbnbbmcoiiaaOpw
import Derived.Laws.AppendOwnNone
import Derived.ArgAppend
import Derived.Test.YtnkgbnbbmcoiiaaOover
namespace Go.RelRegion
set_option linter.unusedVariables false
/-! ### A region that draws its order, in a round -/
/-- The fence that asks nothing; ro: in a round, or not. -/
def wideR (ro : Option Nat) : Fence := { Fence.wide with round := ro }
theorem callsIn_wideR {ro : Option Nat} {n : Nat} {P : Program} {f : FuncId} {args : Array Value} {w : World} {R : Ending → World → Prop} (h : Calls P f args w R) : CallsIn (wideR ro) n P f args w R := callsIn_wide.2 h
theorem rowsIn_wideR {ro : Option Nat} {n : Nat} {P : Program} {row : String} {args : Array Value} {w : World} {R : Value → World → Prop} (h : Rows P row args w R) : RowsIn (wideR ro) n P row args w R :=
  fun c cs _ => let ⟨v, w', r, s⟩ := h c cs; ⟨v, w', r, stepsIn_wide.2 s⟩
theorem uponIn_of {ro : Option Nat} {n : Nat} {P : Program} {o : Oper} {a : Act} {K K' : Act → World → Prop} {Q : Exit → Act → World → Prop} (hK : ∀ a w, K a w → K' a w) {r : Result Next} (h : o.upon P a K Q r) : o.uponIn (wideR ro) n P a K' Q r := by
  cases r with
  | ok x w' =>
    cases x with
    | value v => exact hK _ _ h
    | skip => exact hK _ _ h
    | defer d => exact hK _ _ h
    | enter f args => exact ⟨fun h => by simp [wideR, Fence.wide] at h, (callsIn_wideR h).mono (fun e w'' he => by
        cases e with
        | returned v => exact hK _ _ he
        | panicked c => exact he
        | outgrown => exact he)⟩
    | row f args => exact ⟨fun h => by simp [wideR, Fence.wide] at h, (rowsIn_wideR h).mono (fun v w'' he => hK _ _ he)⟩
    | _ => exact h.elim
  | halt x w' =>
    cases x with
    | panic v => exact h
    | _ => exact h.elim
theorem wpIn_of {ro : Option Nat} {n : Nat} {P : Program} {o : Oper} {a : Act} {w : World} {K K' : Act → World → Prop} {Q : Exit → Act → World → Prop} (hd : ∀ c, o.op ≠ .defer c) (hK : ∀ a w, K a w → K' a w) (h : o.wp P a w K Q) : o.wpIn (wideR ro) n P a w K' Q := by
  refine ⟨fun f _ => trivial, ?_⟩
  rw [Oper.semAt_plain (wideR ro) _ _ hd]
  exact uponIn_of hK h
theorem wpAnyIn_of {ro : Option Nat} {n : Nat} {P : Program} {md : Region.Mode} {ops : Array Oper} {Q : Exit → Act → World → Prop} (hQ : ∀ a w, ¬ Q .outgrown a w) (hd : ∀ (i : Nat) (o : Oper) (c : Call), ops[i]? = some o → o.op ≠ .defer c) : ∀ (fuel : Nat) (listed : Array Bool) (a : Act) (w : World), wpAny P md ops Q fuel listed a w → wpAnyIn (wideR ro) n P md ops Q fuel listed a w
  | 0, listed, a, w, h => h
  | fuel + 1, listed, a, w, h => by
    refine ⟨h.1, fun i hi => ?_⟩
    have := h.2 i hi
    unfold wpOp at this
    unfold wpOpIn
    cases ho : ops[i]? with
    | none => rw [ho] at this; exact wpAnyIn_of hQ hd fuel _ _ _ this
    | some o =>
      rw [ho] at this
      simp only at this ⊢
      split
      · rename_i hw
        rw [if_pos hw] at this
        rcases this with this | ⟨_, a1, w1, h1⟩
        · exact wpIn_of (fun c => hd i o c ho) (fun a w h => wpAnyIn_of hQ hd fuel _ _ _ h) this
        · exact absurd h1 (hQ _ _)
      · rename_i hw
        rw [if_neg hw] at this
        exact ⟨fun f _ => trivial, wpAnyIn_of hQ hd fuel _ _ _ this⟩
def noDefer (l : List Oper) : Bool := l.all fun o => match o.op with | .defer _ => false | _ => true
theorem noDefer_spec {l : List Oper} (h : noDefer l = true) : ∀ (i : Nat) (o : Oper) (c : Call), l.toArray[i]? = some o → o.op ≠ .defer c := by
  intro i o c ho e
  have hm : o ∈ l := by
    rw [List.getElem?_toArray] at ho
    exact List.mem_of_getElem? ho
  have := List.all_eq_true.1 h o hm
  rw [e] at this
  cases this
/-- The law, in a round: the head in whatever order, then the rest. -/
theorem wpIn_region_rel {ro : Option Nat} {nF : Nat} {P : Program} {l : List Oper} {a0 : Act} {Q : Exit → Act → World → Prop} {K0 : Act → World → Prop} {id : Nat} {w0 : World} (n : Nat) (E : Nat → Option (List Nat)) (D : Nat → List Nat) (R : Nat → List Value → World → Prop) (C : World → Prop) (S : World → World → Prop)
    (hm : P.follows .mixedOrders = true) (hnd : noDefer l = true) (hB : okB l.toArray n E D = true) (hC0 : C { w0 with drawn := w0.drawn + 1 }) (hCS : ∀ w w', C w → S w w' → C w')
    (hRS : ∀ d vs w w', R d vs w → S w w' → R d vs w')
    (h : relQ P l.toArray C S E (l.take n) 0 a0 (fun aq => ∀ x : Nat → Value, relL P l.toArray C S E D R x (l.take n) 0 aq (fun af => ∀ w, C w → (∀ d, d < n → (E d).isSome → R d ((D d).map x) w) → wpList P l.toArray (fun e a w => e = .normal ∧ K0 a w) (l.drop n) af w))) 
    (hK : ∀ a w, K0 a w → Q .normal a w) : (Code.region id l.toArray true).wpIn (wideR ro) nF P Q a0 w0 := by
  refine Code.wpIn_mono (Q := fun e a w => e = .normal ∧ K0 a w) (fun e a w he => by obtain ⟨rfl, hk⟩ := he; exact hK a w hk) ?_
  refine wpIn_region_any hm (wpAnyIn_of (fun a w h => by cases h.1) (noDefer_spec hnd) _ _ _ _ ?_)
  exact wpAny_region_rel n E D R C S hB hC0 hCS hRS h
end Go.RelRegion
namespace Go.Proofs.Ytnkgbnbbmcoiiaa.S
open Go.RowKit Go.Proofs.YtnkgbnbbmcoiiaaW.PrintWords Go.Proofs.YtnkgbnbbmcoiiaaW.PrintLast Go.Proofs.YtnkgbnbbmcoiiaaW.PrintMore
set_option linter.unusedVariables false
/-! ### Worlds behind an append in place -/
structure Sx (z : Nat) (xs : List Int) (x : Int) (w w' : World) : Prop where
  os : w'.os = w.os
  tape : w'.tape = w.tape
  output : w'.output = w.output
  size : w.heap.size ≤ w'.heap.size
  block : ∀ g, g < w.heap.size → w'.heap[g]? = w.heap[g]? ∨ (z ≤ g ∧ ∃ cur, w.heap[g]? = some (.cells cur 3 (0, 0)) ∧ xs.length < cur.size ∧ cur.toList.take xs.length = nums .i64 xs ∧ w'.heap[g]? = some (.cells (cur.setIfInBounds xs.length (.int .i64 x)) 3 (0, 0)))
section
variable {z : Nat} {xs : List Int} {x : Int} {w w' w0 : World}
theorem Sx.refl (z : Nat) (xs : List Int) (x : Int) (w : World) : Sx z xs x w w := ⟨rfl, rfl, rfl, Nat.le_refl _, fun _ _ => .inl rfl⟩
theorem Sx.of_below (h : Below w.heap.size w w') : Sx z xs x w w' := ⟨h.os, h.tape, h.output, h.size, fun g hg => .inl (h.block g hg)⟩
theorem Sx.cls (h : Below z w0 w) (k : Sx z xs x w w') (hz : z ≤ w.heap.size) : Below z w0 w' :=
  ⟨k.os.trans h.os, k.tape.trans h.tape, k.output.trans h.output, Nat.le_trans h.size k.size, fun g hg => by
    rcases k.block g (by omega) with h1 | ⟨h1, _⟩
    · exact h1.trans (h.block g hg)
    · omega⟩
/-- What the loud operations tell. -/
def Rx (z : Nat) (xs : List Int) (x : Int) (n : Nat) (vs : List Value) (W : World) : Prop :=
  if n = 0 then ∃ g, vs = [.slice (some ⟨g, 0, none⟩) 0 0] ∧ z ≤ g ∧ W.heap[g]? = some (.cells #[] 3 (0, 0))
  else if n = 10 then ∃ g, vs = [.slice (some ⟨g, 0, none⟩) 1 1] ∧ z ≤ g ∧ W.heap[g]? = some (.cells #[.int .i64 x] 3 (0, 0))
  else if n = 4 then ∃ g cap cur, vs = [.slice (some ⟨g, 0, none⟩) xs.length cap] ∧ z ≤ g ∧ W.heap[g]? = some (.cells cur 3 (0, 0)) ∧ xs.length ≤ cap ∧ cap ≤ maxLen ∧ cur.size = cap ∧ cur.toList.take xs.length = nums .i64 xs
  else if n = 11 then ∃ g cap cur, vs = [.slice (some ⟨g, 0, none⟩) (xs.length + 1) cap] ∧ z ≤ g ∧ W.heap[g]? = some (.cells cur 3 (0, 0)) ∧ xs.length + 1 ≤ cap ∧ cap ≤ maxLen ∧ cur.size = cap ∧ cur.toList.take (xs.length + 1) = nums .i64 (xs ++ [x])
  else True
theorem Sx.lt (h : Sx z xs x w w') {g : Nat} {cur : Array Value} (hg : w.heap[g]? = some (.cells cur 3 (0, 0))) : w'.heap[g]? = some (.cells cur 3 (0, 0)) ∨ (xs.length < cur.size ∧ w'.heap[g]? = some (.cells (cur.setIfInBounds xs.length (.int .i64 x)) 3 (0, 0))) := by
  rcases h.block g (Array.getElem?_eq_some_iff.1 hg).1 with h1 | ⟨_, cur', h1, h2, h3, h4⟩
  · exact .inl (h1.trans hg)
  · rw [hg] at h1
    injection h1 with h1
    injection h1 with h1
    subst h1
    exact .inr ⟨h2, h4⟩
theorem take_set {cur : Array Value} {n : Nat} {v : Value} : (cur.setIfInBounds n v).toList.take n = cur.toList.take n := by
  rw [Array.toList_setIfInBounds, List.take_set_of_le (Nat.le_refl _)]
theorem Rx.keep (n : Nat) (vs : List Value) (a b : World) (h : Rx z xs x n vs a) (k : Sx z xs x a b) : Rx z xs x n vs b := by
  unfold Rx at h ⊢
  split at h
  · rename_i e; rw [if_pos e]
    obtain ⟨g, h1, h2, h3⟩ := h
    refine ⟨g, h1, h2, ?_⟩
    rcases k.lt h3 with h4 | ⟨h4, _⟩
    · exact h4
    · simp at h4
  · rename_i e; rw [if_neg e]
    split at h
    · rename_i e2; rw [if_pos e2]
      obtain ⟨g, h1, h2, h3⟩ := h
      refine ⟨g, h1, h2, ?_⟩
      rcases k.lt h3 with h4 | ⟨h4, h5⟩
      · exact h4
      · have h6 : xs.length = 0 := by simpa using h4
        rw [h5, h6]
        rfl
    · rename_i e2; rw [if_neg e2]
      split at h
      · rename_i e3; rw [if_pos e3]
        obtain ⟨g, cap, cur, h1, h2, h3, h4, h5, h6, h7⟩ := h
        rcases k.lt h3 with h8 | ⟨_, h8⟩
        · exact ⟨g, cap, cur, h1, h2, h8, h4, h5, h6, h7⟩
        · exact ⟨g, cap, _, h1, h2, h8, h4, h5, by rw [Array.size_setIfInBounds]; exact h6, by rw [take_set]; exact h7⟩
      · rename_i e3; rw [if_neg e3]
        split at h
        · rename_i e4; rw [if_pos e4]
          obtain ⟨g, cap, cur, h1, h2, h3, h4, h5, h6, h7⟩ := h
          rcases k.lt h3 with h8 | ⟨hlt, h8⟩
          · exact ⟨g, cap, cur, h1, h2, h8, h4, h5, h6, h7⟩
          · refine ⟨g, cap, _, h1, h2, h8, h4, h5, by rw [Array.size_setIfInBounds]; exact h6, ?_⟩
            have e5 : cur.toList[xs.length]? = some (.int .i64 x) := by
              have e6 := congrArg (·[xs.length]?) h7
              simpa [List.getElem?_take, nums] using e6
            have e7 : cur.setIfInBounds xs.length (.int .i64 x) = cur := by
              apply Array.ext_getElem?
              intro i
              rw [Array.getElem?_setIfInBounds]
              split
              · rename_i e8
                subst e8
                rw [← e5, Array.getElem?_toList]
              · rfl
            rw [e7]
            exact h7
        · rename_i e4; rw [if_neg e4]; trivial
end
/-! ### The insertion -/
end Go.Proofs.Ytnkgbnbbmcoiiaa.S
namespace Go.Proofs.Ytnkgbnbbmcoiiaa.S
open Go.RowKit Go.Proofs.YtnkgbnbbmcoiiaaW.PrintWords Go.Proofs.YtnkgbnbbmcoiiaaW.PrintLast Go.Proofs.YtnkgbnbbmcoiiaaW.PrintMore
set_option linter.unusedVariables false
/-! ### The two appends among the drawn -/
theorem info3' : (Try.prog.info? 3).map (fun i => (i.zero, i.size, i.bytes)) = some (some (.int .i64 0), 1, 8) := by kernel_rfl
theorem nums_cells {w : World} {ad : Addr} {ys : List Int} (hc : ∀ j, j < ys.length → w.cell? (ad.add j) = some (.int .i64 (ys.getD j 0))) : ∀ (j : Nat) (u : Value), (nums .i64 ys)[j]? = some u → w.cell? (ad.add j) = some u := by
  intro j u hu
  have hj : j < ys.length := by
    rcases Nat.lt_or_ge j ys.length with h | h
    · exact h
    · simp [nums, List.getElem?_eq_none h] at hu
  rw [hc j hj]
  simp [nums, List.getElem?_eq_getElem hj] at hu
  rw [← hu]
  simp [List.getD_eq_getElem?_getD, List.getElem?_eq_getElem hj]
theorem nums_one (ys : List Int) : ∀ u ∈ nums .i64 ys, u.oneCell' = true := by
  intro u hu
  simp only [nums, List.mem_map] at hu
  obtain ⟨q, _, rfl⟩ := hu
  rfl
section
variable {ops : Array Oper} {rest : List Oper} {o : Oper} {a : Act} {Q : Exit → Act → World → Prop}
end
end Go.Proofs.Ytnkgbnbbmcoiiaa.S
namespace Go.Proofs.Ytnkgbnbbmcoiiaa.S
open Go.RowKit Go.Proofs.YtnkgbnbbmcoiiaaW.PrintWords Go.Proofs.YtnkgbnbbmcoiiaaW.PrintLast Go.Proofs.YtnkgbnbbmcoiiaaW.PrintMore Go.RelRegion
set_option linter.unusedVariables false
/-! ### swageref25.At (printed by gen_rat.py) -/
/-- The row so far. -/
def Gd (H : List S26) (p : Int) (i : Nat) (out : List Int) : Prop := out.Pairwise (· ≤ ·) ∧ out.Perm (ats (H.take i) p)
theorem Gd.len {H : List S26} {p : Int} {i : Nat} {out : List Int} (h : Gd H p i out) : out.length ≤ i := by
  rw [h.2.length_eq]
  have := ats_len (H.take i) p
  rw [List.length_take] at this
  omega
theorem Gd.skip {H : List S26} {p : Int} {i : Nat} {out : List Int} (h : Gd H p i out) (hi : i < H.length) (hx : hasP (rd_T26 H (i : Int)) p = false) : Gd H p (i + 1) out := ⟨h.1, by rw [ats_take hi, hx]; exact h.2⟩
theorem Gd.all {H : List S26} {p : Int} {out : List Int} (h : Gd H p H.length out) : out = srt (ats H p) := by
  have h2 := h.2
  rw [List.take_length] at h2
  unfold srt
  rw [← mergeSort_of_perm_i h2]
  exact (List.mergeSort_of_pairwise (h.1.imp (fun hab => by simpa using hab))).symm
end Go.Proofs.Ytnkgbnbbmcoiiaa.S
