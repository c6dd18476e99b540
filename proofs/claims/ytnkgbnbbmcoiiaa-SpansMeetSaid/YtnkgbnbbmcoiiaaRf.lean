import Derived.Test.YtnkgbnbbmcoiiaaRows
import Derived.WalkKit
import Derived.ProofKit
import Derived.OpenShut
import Derived.ChangeOld
import Derived.Below
import Derived.Test.YtnkgbnbbmcoiiaaOpw
import Derived.Test.YtnkgbnbbmcoiiaaLregs
import Derived.Deep.Slices
namespace Go.Proofs.Ytnkgbnbbmcoiiaa
open Go.ChangeShapes Go.WideShapes Go.ChangeAt Go.RowKit Go.Deep Go.Proofs.YtnkgbnbbmcoiiaaW.PrintWords
set_option linter.unusedVariables false
set_option maxRecDepth 100000
/-! ### A function that came in -/
theorem Try.ownNoneF : ownKnob Try.prog.godebug = none := by kernel_rfl
theorem Try.laidOutF : laidOutB Try.prog = true := by kernel_rfl
def I64f (n : Int) : Prop := -9223372036854775808 ≤ n ∧ n ≤ 9223372036854775807
theorem cells3f : Try.prog.cellsOf 3 = 1 := by kernel_rfl
theorem opIw : OpensW Try.prog (Kd.int .i64) 3 I64f := (OpensW.int Try.underlying3).imp (fun _ h => i64_wf h)
theorem bytes3f : Try.prog.bytesOf 3 = 8 := by kernel_rfl
theorem bytes45f : Try.prog.bytesOf 45 = 64 := by kernel_rfl
theorem bytes43f : Try.prog.bytesOf 43 = 56 := by kernel_rfl
/-- A row of numbers. -/
theorem op28w : OpensW Try.prog (Kd.slice 3 (Kd.int .i64)) 28 (fun l => l.length < 17592186044416) :=
  (OpensW.slice Try.underlying28 (by kernel_rfl) opIw).imp (fun l h => by
    have h1 := h.1
    rw [bytes3f] at h1
    have : reachBytes = 140737488351232 := rfl
    omega)
/-- An operation. -/
theorem op45w : OpensW Try.prog S.k45 45 (fun x => x.f5.length < 17592186044416) :=
  OpensW.struct Try.underlying45 (by kernel_rfl)
    (FOpensW.cons opIw cells3f (FOpensW.cons opIw cells3f (FOpensW.cons opIw cells3f (FOpensW.cons opIw cells3f (FOpensW.cons opIw cells3f (FOpensW.last op28w (by kernel_rfl)) (by decide)) (by decide)) (by decide)) (by decide)) (by decide))
    (fun p => ⟨p.1, p.2.1, p.2.2.1, p.2.2.2.1, p.2.2.2.2.1, p.2.2.2.2.2⟩) (fun _ => rfl) (fun _ h => h.2.2.2.2.2)
theorem op39w : OpensW Try.prog (Kd.slice 45 S.k45) 39 (fun l => l.length ≤ 4611686018427387904 ∧ ∀ x ∈ l, x.f5.length < 17592186044416) :=
  (OpensW.slice Try.underlying39 (by kernel_rfl) op45w).imp (fun l h => by
    have h1 := h.1
    rw [bytes45f] at h1
    have : reachBytes = 140737488351232 := rfl
    exact ⟨by omega, h.2⟩)
theorem op41w : OpensW Try.prog S.k41 41 (fun _ => True) :=
  OpensW.struct Try.underlying41 (by kernel_rfl)
    (FOpensW.cons opIw cells3f (FOpensW.cons opIw cells3f (FOpensW.cons opIw cells3f (FOpensW.last opIw cells3f) (by decide)) (by decide)) (by decide))
    (fun p => ⟨p.1, p.2.1, p.2.2.1, p.2.2.2⟩) (fun _ => rfl) (fun _ h => trivial)
/-- A block. -/
theorem op43w : OpensW Try.prog S.k43 43 (fun x => x.f0.length ≤ 4611686018427387904 ∧ ∀ y ∈ x.f0, y.f5.length < 17592186044416) :=
  OpensW.struct Try.underlying43 (by kernel_rfl)
    (FOpensW.cons op39w (by kernel_rfl) (FOpensW.last op41w (by kernel_rfl)) (by decide))
    (fun p => ⟨p.1, p.2⟩) (fun _ => rfl) (fun _ h => h.1)
theorem op32w : OpensW Try.prog (Kd.slice 43 S.k43) 32 (fun l => l.length ≤ 4611686018427387904 ∧ ∀ x ∈ l, x.f0.length ≤ 4611686018427387904 ∧ ∀ y ∈ x.f0, y.f5.length < 17592186044416) :=
  (OpensW.slice Try.underlying32 (by kernel_rfl) op43w).imp (fun l h => by
    have h1 := h.1
    rw [bytes43f] at h1
    have : reachBytes = 140737488351232 := rfl
    exact ⟨by omega, h.2⟩)
def kFn : Kd (Int × List S.S43) := Kd.iso (Kd.pair (Kd.int .i64) (Kd.slice 43 S.k43)) (fun x => x)
theorem room_of {bs : List S.S43} (h : bs.length ≤ 4611686018427387904 ∧ ∀ x ∈ bs, x.f0.length ≤ 4611686018427387904 ∧ ∀ y ∈ x.f0, y.f5.length < 17592186044416) : S.Room bs := by
  have hb : ∀ j : Nat, (S.rd_T43 bs (j : Int)).f0.length ≤ 4611686018427387904 ∧ ∀ y ∈ (S.rd_T43 bs (j : Int)).f0, y.f5.length < 17592186044416 := fun j => by
    by_cases hj : j < bs.length
    · rw [S.rd43' hj]; exact h.2 _ (List.getElem_mem _)
    · have e : S.rd_T43 bs (j : Int) = S.z43 := by
        unfold S.rd_T43
        rw [Int.toNat_natCast, List.getD_eq_getElem?_getD, List.getElem?_eq_none (by omega)]
        rfl
      rw [e]
      exact ⟨by decide, fun y hy => by cases hy⟩
  refine ⟨h.1, fun j => (hb j).1, fun j q => ?_⟩
  by_cases hq : q < (S.rd_T43 bs (j : Int)).f0.length
  · rw [S.rd45' hq]; exact (hb j).2 _ (List.getElem_mem _)
  · have e : S.rd_T45 (S.rd_T43 bs (j : Int)).f0 (q : Int) = S.z45 := by
      unfold S.rd_T45
      rw [Int.toNat_natCast, List.getD_eq_getElem?_getD, List.getElem?_eq_none (by omega)]
      rfl
    rw [e]
    decide
theorem op34w : OpensW Try.prog kFn 34 (fun x => I64f x.1 ∧ S.Room x.2) :=
  OpensW.struct Try.underlying34 (by kernel_rfl)
    (FOpensW.cons opIw cells3f (FOpensW.last op32w (by kernel_rfl)) (by decide))
    (fun p => p) (fun _ => rfl) (fun _ h => ⟨h.1, room_of h.2⟩)
section
variable {H : Type} {enc : TypeId × Value → H} {w : World} {base : Nat} {held : Bool}
/-- A function that came in. -/
theorem open_func {spare : Nat → Bool} {r : Reach} {b0 : Nat} {v : Value} {d : DataW H} {p : List MemPlace} (hv : Value.okWide Try.prog w r b0 34 v) (h : DataW.Trod enc Try.prog w base spare held 34 v d p) (hw : ∀ n ∈ d.weights Try.prog 34, n ≤ reachBytes) :
    ∃ (n : Int) (A : Option Addr) (c : Nat) (l : List S.S43), v = .agg #[.int .i64 n, .slice A l.length c] ∧ Kd.C S.k43 w A l.length l ∧ l.length ≤ c ∧ S.Room l := by
  obtain ⟨⟨n, l⟩, cs, rfl, hk, hg⟩ := OpensW.agg op34w Try.underlying34 hv h hw
  obtain ⟨_, _, rfl, rfl, ⟨A, c, rfl, hl, hc⟩⟩ := hk
  exact ⟨n, A, c, l, rfl, hc, hl, hg.2⟩
end
end Go.Proofs.Ytnkgbnbbmcoiiaa
