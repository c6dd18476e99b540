import Derived.Test.YtnkgbnbbmcoiiaaWWords
import Derived.ChangeArms
import Derived.SizedLaws
import Derived.Deep.Slices
import Derived.WideShapes
namespace Go.Proofs.YtnkgbnbbmcoiiaaW.PrintWords
open Go.RowKit Go.ChangeShapes Go.WideShapes Go.Deep
set_option linter.unusedVariables false
/-! ### What comes in, kind by kind, within the address space -/
/-- What reads as data of type T, and weighs no more than can be, is of the kind d, and G holds of it. -/
structure OpensW (P : Program) {α : Type} (d : Kd α) (T : TypeId) (G : α → Prop) : Prop where mk ::
  out : ∀ {H : Type} (enc : TypeId × Value → H) (w : World) (base : Nat) (spare : Nat → Bool) (held : Bool) (fuel : Nat) (cs : List Value) (x : DataW H × List MemPlace), DataW.trod enc P w base spare held fuel T cs = some x → (∀ n ∈ x.1.weights P T, n ≤ reachBytes) → ∃ y : α, d.K w y cs ∧ G y
section
variable {P : Program} {T E : TypeId} {α β : Type} {d : Kd α} {G : α → Prop}
theorem weightsAll_of {H : Type} {e : TypeId} : ∀ {l : List (DataW H)} {x : DataW H}, x ∈ l → ∀ n ∈ x.weights P e, n ∈ DataW.weightsAll P e l
  | y :: l, x, hx, n, hn => by
    rw [DataW.weightsAll, List.mem_append]
    rcases List.mem_cons.1 hx with rfl | hx
    · exact .inl hn
    · exact .inr (weightsAll_of hx n hn)
theorem OpensW.int {k : IntKind} (hT : P.underlying T = some (.int k)) : OpensW P (Kd.int k) T (fun n => (Lit.int k n).wf = true) := by
  constructor
  intro H enc w base spare held fuel cs x h _
  obtain ⟨n, hc, _, hw⟩ := DataW.trod_int hT h
  exact ⟨n, hc, hw⟩
theorem OpensW.imp {G' : α → Prop} (h : OpensW P d T G) (hG : ∀ x, G x → G' x) : OpensW P d T G' := by
  constructor
  intro H enc w base spare held fuel cs x hx hw
  obtain ⟨y, hk, hg⟩ := h.out enc w base spare held fuel cs x hx hw
  exact ⟨y, hk, hG y hg⟩
theorem OpensW.slice (hT : P.underlying T = some (.slice E)) (hsz : P.cellsOf E = d.sz) (h : OpensW P d E G) : OpensW P (Kd.slice E d) T (fun l => l.length * P.bytesOf E ≤ reachBytes ∧ ∀ x ∈ l, G x) := by
  constructor
  intro H enc w base spare held fuel cs x hx hw
  rcases open_slice hT hx with ⟨hcs, _⟩ | ⟨a, len, cap, m, n, D, Pl, hcs, _, hlc, hcm, hm, hxe, hall⟩
  · subst hcs
    exact ⟨[], ⟨none, 0, rfl, Nat.le_refl _, rfl, by simp, fun h => absurd h (by simp)⟩, by simp, by simp⟩
  · subst hcs
    subst hxe
    have hmax : cap ≤ 9223372036854775807 := by unfold maxLen at hcm; exact Nat.le_trans hcm (by decide)
    have hlm : len ≤ m := by rw [hm]; split <;> omega
    have hW : len * P.bytesOf E ≤ reachBytes := by
      have := hw _ (by rw [DataW.weights, hT]; exact List.mem_cons_self)
      simp only [List.length_map, List.length_range] at this
      exact Nat.le_trans (Nat.mul_le_mul_right _ (Nat.le_add_right _ _)) this
    have key : ∀ i, i < len → ∃ y : α, ∃ cs', cs'.length = d.sz ∧ d.K w y cs' ∧ (∀ j u, cs'[j]? = some u → w.cell? (a.add (i * d.sz + j)) = some u) ∧ G y := by
      intro i hi
      obtain ⟨cs', hc, ht⟩ := hall i (by omega)
      rw [hsz] at hc
      obtain ⟨_, hl5, hat⟩ := World.cells?_some hc
      obtain ⟨y, hy, hg⟩ := h.out enc w base spare held n cs' _ ht (fun q hq => hw q (by
        rw [DataW.weights, hT]
        exact List.mem_cons_of_mem _ (List.mem_append.2 (.inl (weightsAll_of (List.mem_map.2 ⟨i, List.mem_range.2 hi, rfl⟩) q hq)))))
      refine ⟨y, cs', hl5, hy, fun j u hu => ?_, hg⟩
      have hj : j < d.sz := by rw [← hl5]; exact (List.getElem?_eq_some_iff.1 hu).1
      rw [← Go.Deep.add_add, hat j hj, hu]
    rcases Nat.eq_zero_or_pos len with h0 | h0
    · subst h0
      exact ⟨[], ⟨some a, cap, rfl, Nat.zero_le _, rfl, by simp, fun h => absurd h (by simp)⟩, by simp, by simp⟩
    obtain ⟨f, hf⟩ := @choose_lt α ⟨Classical.choose (key 0 h0)⟩ len (fun i y => ∃ cs', cs'.length = d.sz ∧ d.K w y cs' ∧ (∀ j u, cs'[j]? = some u → w.cell? (a.add (i * d.sz + j)) = some u) ∧ G y) key
    refine ⟨(List.range len).map f, ⟨some a, cap, by simp, by simpa using hlc, by simp, by simp; omega, fun _ => ⟨a, rfl, fun j p hj => ?_⟩⟩, by simpa using hW, fun x hx => ?_⟩
    · have hjl : j < len := by
        have := (List.getElem?_eq_some_iff.1 hj).1
        simpa using this
      simp [hjl] at hj
      subst hj
      obtain ⟨cs', h1, h2, h3, _⟩ := hf j hjl
      exact ⟨cs', h1, h2, h3⟩
    · simp only [List.mem_map, List.mem_range] at hx
      obtain ⟨i, hi, rfl⟩ := hx
      obtain ⟨_, _, _, _, h4⟩ := hf i hi
      exact h4
/-- Fields in line, from an offset on. -/
structure FOpensW (P : Program) (fs : List Field) (off : Nat) {α : Type} (d : Kd α) (G : α → Prop) : Prop where mk ::
  out : ∀ {H : Type} (enc : TypeId × Value → H) (w : World) (base : Nat) (spare : Nat → Bool) (held : Bool) (fuel : Nat) (cs : List Value), cs.length = d.sz → (∀ f ∈ fs, ∃ x, DataW.trod enc P w base spare held fuel f.type ((cs.drop (f.offset - off)).take (P.cellsOf f.type)) = some x ∧ ∀ n ∈ x.1.weights P f.type, n ≤ reachBytes) → ∃ y : α, d.K w y cs ∧ G y
theorem FOpensW.last {f : Field} (h : OpensW P d f.type G) (hsz : P.cellsOf f.type = d.sz) : FOpensW P [f] f.offset d G := by
  constructor
  intro H enc w base spare held fuel cs hl hf
  obtain ⟨x, hx, hw⟩ := hf f List.mem_cons_self
  rw [Nat.sub_self, List.drop_zero, hsz, ← hl, List.take_length] at hx
  exact h.out enc w base spare held fuel cs x hx hw
theorem FOpensW.cons {f : Field} {fs : List Field} {d2 : Kd β} {G2 : β → Prop} (h : OpensW P d f.type G) (hsz : P.cellsOf f.type = d.sz) (hr : FOpensW P fs (f.offset + d.sz) d2 G2) (hoff : ∀ g ∈ fs, f.offset + d.sz ≤ g.offset) :
    FOpensW P (f :: fs) f.offset (Kd.pair d d2) (fun p => G p.1 ∧ G2 p.2) := by
  constructor
  intro H enc w base spare held fuel cs hl hf
  have hl' : cs.length = d.sz + d2.sz := hl
  obtain ⟨x, hx, hw⟩ := hf f List.mem_cons_self
  rw [Nat.sub_self, List.drop_zero, hsz] at hx
  obtain ⟨y, hk, hg⟩ := h.out enc w base spare held fuel _ x hx hw
  obtain ⟨z, hk2, hg2⟩ := hr.out enc w base spare held fuel (cs.drop d.sz) (by rw [List.length_drop]; omega) (fun g hgm => by
    obtain ⟨x2, hx2, hw2⟩ := hf g (List.mem_cons_of_mem _ hgm)
    refine ⟨x2, ?_, hw2⟩
    rw [List.drop_drop]
    have := hoff g hgm
    rw [show d.sz + (g.offset - (f.offset + d.sz)) = g.offset - f.offset by omega]
    exact hx2)
  exact ⟨(y, z), ⟨cs.take d.sz, cs.drop d.sz, (List.take_append_drop _ _).symm, hk, hk2⟩, hg, hg2⟩
/-- A struct, by its fields. -/
theorem OpensW.struct {fs : Array Field} {f : β → α} {G' : β → Prop} (hT : P.underlying T = some (.struct fs)) (hsz : P.cellsOf T = d.sz) (h : FOpensW P fs.toList 0 d G) (back : α → β) (hb : ∀ x, f (back x) = x) (hG : ∀ x, G x → G' (back x)) : OpensW P (Kd.iso d f) T G' := by
  constructor
  intro H enc w base spare held fuel cs x hx hw
  obtain ⟨xs, n, _, hxe, hl, hlen, hg⟩ := DataW.trod_struct hT hx
  subst hxe
  obtain ⟨y, hk, hy⟩ := h.out enc w base spare held n cs (by rw [hl, hsz]) (fun g hgm => by
    obtain ⟨i, hi, he⟩ := List.getElem_of_mem hgm
    have hi' : i < fs.size := by simpa using hi
    have := hg i g (by rw [Array.getElem?_eq_getElem hi']; simpa using he)
    rw [List.getElem?_eq_getElem (by omega)] at this
    refine ⟨_, by rw [Nat.sub_zero]; exact this, fun q hq => hw q ?_⟩
    rw [DataW.weights, hT]
    refine DataW.weights_mem_each (j := i) (t := g.type) (d := (xs[i]'(by omega)).1) ?_ ?_ q hq
    · rw [List.getElem?_map, List.getElem?_eq_getElem hi, he]; rfl
    · rw [List.getElem?_map, List.getElem?_eq_getElem (by omega)]; rfl)
  refine ⟨back y, ?_, hG y hy⟩
  show d.K w (f (back y)) cs
  rw [hb]
  exact hk
/-- A struct argument: its cells. -/
theorem OpensW.agg {w : World} {r : Reach} {b0 : Nat} {v : Value} {H : Type} {enc : TypeId × Value → H} {base : Nat} {spare : Nat → Bool} {held : Bool} {D : DataW H} {p : List MemPlace} {fs : Array Field} (ho : OpensW P d T G) (hT : P.underlying T = some (.struct fs))
    (hv : Value.okWide P w r b0 T v) (h : DataW.Trod enc P w base spare held T v D p) (hw : ∀ n ∈ D.weights P T, n ≤ reachBytes) :
    ∃ (x : α) (cs : List Value), v = .agg cs.toArray ∧ d.K w x cs ∧ G x := by
  obtain ⟨cs, rfl, hsz⟩ := okWide_struct hT hv
  obtain ⟨fuel, hf⟩ := h
  obtain ⟨x, hk, hg⟩ := ho.out enc w base spare held fuel _ _ hf hw
  exact ⟨x, cs.toList, by simp, hk, hg⟩
/-- What the whole claim says of weights, of its first argument. -/
theorem weights_first {H : Type} {t : TypeId} {ts : List TypeId} {d : DataW H} {ds : List (DataW H)} (h : (DataW.weightsEach P (t :: ts) (d :: ds)).all (· ≤ reachBytes) = true) : ∀ n ∈ d.weights P t, n ≤ reachBytes := fun n hn => by
  have := List.all_eq_true.1 h n (DataW.weights_mem_each (j := 0) rfl rfl n hn)
  simpa using this
theorem i64_wf {n : Int} (h : (Lit.int .i64 n).wf = true) : -9223372036854775808 ≤ n ∧ n ≤ 9223372036854775807 := by
  simp only [Lit.wf, Bool.and_eq_true, decide_eq_true_eq] at h
  exact h
end
end Go.Proofs.YtnkgbnbbmcoiiaaW.PrintWords
