import Derived.RangeFuncNested
import Derived.RangeFuncLeaves
import Derived.RangeFuncBox
import Derived.RangeFuncWrites
import Derived.RangeFuncKeeps
import Derived.Test.YtnkgbnbbmcoiiaaIm
namespace Go
open Go.RowKit Go.IM
set_option linter.unusedVariables false
/-! ### What a round keeps: all cells but those in blocks lo .. hi - 1 -/
structure KE (lo hi : Nat) (A B : World) : Prop where
  size : A.heap.size ≤ B.heap.size
  cells : ∀ (k : Nat) (o : Obj), ¬ (lo ≤ k ∧ k < hi) → A.heap[k]? = some o → o.isCells = true → B.heap[k]? = some o
theorem KE.refl (lo hi : Nat) (A : World) : KE lo hi A A := ⟨Nat.le_refl _, fun _ _ _ h _ => h⟩
theorem KE.trans {lo hi : Nat} {A B C : World} (h : KE lo hi A B) (k : KE lo hi B C) : KE lo hi A C := ⟨Nat.le_trans h.size k.size, fun i o hx hi ho => k.cells i o hx (h.cells i o hx hi ho) ho⟩
theorem KE.of_kc {lo hi : Nat} {A B : World} (h : KC A B) : KE lo hi A B := ⟨h.size, fun k o _ hk ho => h.cells k o hk ho⟩
theorem KE.of_below {lo hi : Nat} {A B : World} (h : Below A.heap.size A B) : KE lo hi A B := .of_kc (.of_below h)
theorem KE.of_grown {lo hi : Nat} {A B : World} {b : Nat} (hg : A.grownBy B (some b)) (hb : (lo ≤ b ∧ b < hi) ∨ ∀ o, A.heap[b]? = some o → o.isCells = false) : KE lo hi A B :=
  ⟨hg.size, fun k o hx hk ho => (hg.block k (Array.getElem?_eq_some_iff.1 hk).1 (fun e => by
    cases e
    rcases hb with hb | hb
    · exact hx hb
    · rw [hb o hk] at ho; cases ho)).trans hk⟩
theorem KE.setCell {lo hi : Nat} (A : World) (p : Addr) (v : Value) (hp : lo ≤ p.block ∧ p.block < hi) : KE lo hi A (A.setCell p v) :=
  ⟨(KeepsWalks.setCell A p v).size, fun k o hx hk _ => (Below.heap_setCell A p v k (fun e => hx (by rw [e]; exact hp))).trans hk⟩
theorem KE.putObj {lo hi : Nat} (W : World) (l : Nat) {o : Obj} (o' : Obj) (h : W.heap[l]? = some o) (ho : o.isCells = false) : KE lo hi W (W.putObj l o') :=
  .of_grown (grownBy_putObj' W l o') (.inr fun o2 h2 => by rw [h] at h2; cases h2; exact ho)
/-- What lay ahead of lo, and does still at W, does so behind. -/
theorem KE.kc {lo hi : Nat} {w W B : World} (hb : Below w.heap.size w W) (hlo : w.heap.size ≤ lo) (h : KE lo hi W B) : KC w B :=
  ⟨Nat.le_trans hb.size h.size, fun k o hk ho => by
    have hlt := (Array.getElem?_eq_some_iff.1 hk).1
    exact h.cells k o (by omega) ((hb.block k hlt).trans hk) ho⟩
theorem KE.boxed {lo hi : Nat} {W B : World} {b : Nat} {t : TypeId} {v : Value} (h : KE lo hi W B) (hb : Boxed W b t v) (hx : ¬ (lo ≤ b ∧ b < hi)) : Boxed B b t v := h.cells b _ hx hb rfl
theorem KE.far {lo hi : Nat} {A B : World} (h : KE lo hi A B) {p : Addr} (hp : A.heap.size ≤ p.block) {u : Value} : KE lo hi A (B.setCell p u) :=
  ⟨Nat.le_trans h.size (KeepsWalks.setCell B p u).size, fun k o hx hk ho => (Below.heap_setCell B p u k (fun e => by have := (Array.getElem?_eq_some_iff.1 hk).1; omega)).trans (h.cells k o hx hk ho)⟩
/-! ### Leaving with marks -/
def markOf (r : Nat) : Deferred := { target := .collected r, args := #[] }
/-- W' is W, but for blocks that were marks. -/
structure MarksOff (rs : List Nat) (W W' : World) : Prop where
  os : W'.os = W.os
  tape : W'.tape = W.tape
  output : W'.output = W.output
  size : W'.heap.size = W.heap.size
  same : ∀ k, k ∉ rs → W'.heap[k]? = W.heap[k]?
theorem MarksOff.below {rs : List Nat} {W W' : World} {B : Nat} (h : MarksOff rs W W') (hr : ∀ r ∈ rs, B ≤ r) : Below B W W' :=
  ⟨h.os, h.tape, h.output, by rw [h.size]; exact Nat.le_refl _, fun k hk => h.same k (fun hm => by have := hr k hm; omega)⟩
theorem MarksOff.kc {rs : List Nat} {W W' : World} (h : MarksOff rs W W') (hr : ∀ r ∈ rs, ∃ o : Obj, W.heap[r]? = some o ∧ o.isCells = false) : KC W W' :=
  ⟨by rw [h.size]; exact Nat.le_refl _, fun k o hk ho => (h.same k (fun hm => by obtain ⟨o2, h2, h3⟩ := hr k hm; rw [hk] at h2; cases h2; rw [ho] at h3; cases h3)).trans hk⟩
theorem leavesM_marks {F : Fence} {n : Nat} {P : Program} {fn : Func} {tmps : Array Value} {R : Ending → World → Prop} : ∀ (rs : List Nat) (W : World), rs.Nodup → (∀ r ∈ rs, W.heap[r]? = some (.deferred (some []))) →
    (∀ W', MarksOff rs W W' → LeavesIn F n P fn tmps R [] .returning W') → LeavesInM F n P fn tmps R (rs.map markOf) .returning W
  | [], W, _, _, h => h W ⟨rfl, rfl, rfl, rfl, fun _ _ => rfl⟩
  | r :: rs, W, hn, hd, h => by
    rw [List.nodup_cons] at hn
    have hr := hd r List.mem_cons_self
    have hlt := (Array.getElem?_eq_some_iff.1 hr).1
    refine ⟨by simp, .inl ⟨r, _, rfl, run_takeDeferred hr, ?_⟩⟩
    refine leavesM_marks rs _ hn.2 (fun q hq => ?_) (fun W' hW' => h W' ?_)
    · exact (World.putObj_heap_other (fun e => hn.1 (by cases e; exact hq))).trans (hd q (List.mem_cons_of_mem _ hq))
    · refine ⟨hW'.os, hW'.tape, hW'.output, by rw [hW'.size]; simp [World.putObj], fun k hk => ?_⟩
      rw [List.mem_cons, not_or] at hk
      exact (hW'.same k hk.2).trans (World.putObj_heap_other hk.1)
/-- The marks of an activation: blocks from lo on. -/
def Marks (lo : Nat) (W : World) (ds : List Deferred) : Prop := ∃ rs : List Nat, ds = rs.map markOf ∧ rs.Nodup ∧ ∀ r ∈ rs, lo ≤ r ∧ W.heap[r]? = some (.deferred (some []))
theorem Marks.nil (lo : Nat) (W : World) : Marks lo W [] := ⟨[], rfl, List.nodup_nil, fun r h => by cases h⟩
theorem Marks.cons {lo : Nat} {W W' : World} {ds : List Deferred} {D : Nat} (h : Marks lo W ds) (hlo : lo ≤ D) (hs : W.heap.size ≤ D) (hD : W'.heap[D]? = some (.deferred (some []))) (hk : ∀ r : Nat, lo ≤ r → W.heap[r]? = some (.deferred (some [])) → W'.heap[r]? = some (.deferred (some []))) :
    Marks lo W' (markOf D :: ds) := by
  obtain ⟨rs, rfl, hn, hr⟩ := h
  refine ⟨D :: rs, rfl, List.nodup_cons.2 ⟨fun hm => ?_, hn⟩, fun r hm => ?_⟩
  · have := (Array.getElem?_eq_some_iff.1 (hr D hm).2).1; omega
  · rcases List.mem_cons.1 hm with rfl | hm
    · exact ⟨hlo, hD⟩
    · exact ⟨(hr r hm).1, hk r (hr r hm).1 (hr r hm).2⟩
theorem Marks.kept {lo : Nat} {W W' : World} {ds : List Deferred} (h : Marks lo W ds) (hk : ∀ r : Nat, lo ≤ r → W.heap[r]? = some (.deferred (some [])) → W'.heap[r]? = some (.deferred (some []))) : Marks lo W' ds := by
  obtain ⟨rs, rfl, hn, hr⟩ := h
  exact ⟨rs, rfl, hn, fun r hm => ⟨(hr r hm).1, hk r (hr r hm).1 (hr r hm).2⟩⟩
end Go
