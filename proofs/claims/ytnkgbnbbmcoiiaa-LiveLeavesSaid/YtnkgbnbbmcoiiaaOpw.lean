import Derived.Test.YtnkgbnbbmcoiiaaWWords
import Derived.Laws.AppendOwnNone
import Derived.ArgAppend
import Derived.Deep.Slices
import Derived.Shelf.SlGeneric
import Derived.Shelf.SlIterI.Nil
import Derived.Shelf.SlIterI.Sorted
import Derived.Ground.GgzProg
import Derived.Shelf.Small.Bits
import Derived.Shelf.Small.Wraps
import Derived.Shelf.Strconv.Itoa0
import Derived.Shelf.Sort.Plain
import Derived.Shelf.Slices.Turned
import Derived.Shelf.Slices.Equal
import Derived.Ground.Names2Prog
import Derived.Shelf.Slices.Clone
import Derived.Shelf.Slices.SearchI
import Derived.Shelf.Slices.In.SortNone
import Derived.Shelf.Slices.Empties2
import Derived.Test.YtnkgbnbbmcoiiaaProg
import Derived.Sort.OwnSortedInts
import Derived.Test.YtnkgbnbbmcoiiaaS4
import Derived.ChangeArms
import Derived.SizedLaws
import Derived.WideShapes
namespace Go.Proofs.YtnkgbnbbmcoiiaaW.PrintWords
open Go.RowKit
set_option linter.unusedVariables false
/-! ### What keeps all blocks but those of one type -/
def TX (t : TypeId) (w w' : World) : Prop := w.heap.size ≤ w'.heap.size ∧ ∀ i, i < w.heap.size → (∀ cs f, w.heap[i]? ≠ some (.cells cs t f)) → w'.heap[i]? = w.heap[i]?
theorem TX.refl (t : TypeId) (w : World) : TX t w w := ⟨Nat.le_refl _, fun _ _ _ => rfl⟩
theorem TX.trans {t : TypeId} {a b c : World} (h : TX t a b) (k : TX t b c) : TX t a c :=
  ⟨Nat.le_trans h.1 k.1, fun i hi hn => by
    have e := h.2 i hi hn
    rw [k.2 i (Nat.lt_of_lt_of_le hi h.1) (fun cs f => by rw [e]; exact hn cs f), e]⟩
theorem TX.of_below {t : TypeId} {w w' : World} (h : Below w.heap.size w w') : TX t w w' := ⟨h.size, fun i hi _ => h.block i hi⟩
theorem TX.of_append {t : TypeId} {W w1 : World} {base size n : Nat} {v : Value} {xs : List Value} (ho : W.ownsRow base t size v n xs) (hg : W.grownBy w1 v.ownBlock) : TX t W w1 :=
  ⟨hg.size, fun i hi hn => hg.block i hi (fun e => by
    obtain ⟨cs, hc⟩ := own_typed ho i e.symm
    exact hn _ _ hc)⟩
theorem TX.blk {t t' : TypeId} {w w' : World} {g : Nat} {cs : Array Value} {f : Nat × Nat} (h : TX t w w') (hx : w.heap[g]? = some (.cells cs t' f)) (hne : t' ≠ t) : w'.heap[g]? = some (.cells cs t' f) := by
  rw [h.2 g (blk_lt hx) (fun cs' f' e => by rw [hx] at e; injection e with e; injection e with _ e2 _; exact hne e2)]
  exact hx
theorem TX.R {α : Type} {d : Kd α} {e : Nat} {t : TypeId} {w w' : World} {base : Nat} {ok : Nat → Prop} {v : Value} {xs : List α} (h : TX t w w') (hr : d.R e w base ok v xs) (hne : ∀ q ∈ e :: d.E, q ≠ t) : d.R e w' base (fun _ => True) v xs := by
  refine Kd.R_mono (Kd.R_move (Kd.R_bound hr) (fun k hk => ?_)) (fun _ _ => trivial)
  obtain ⟨_, _, hlt, q, hq, cs, hc⟩ := hk
  exact h.2 k hlt (fun cs' f' e2 => by
    rw [hc] at e2
    injection e2 with e2
    injection e2 with _ e3 _
    exact hne q hq e3)
end Go.Proofs.YtnkgbnbbmcoiiaaW.PrintWords
namespace Go.Proofs.YtnkgbnbbmcoiiaaW.PrintWords
open Go.RowKit Go.Deep
set_option linter.unusedVariables false
/-! ### Rows of slices, the slices told one by one -/
abbrev Tri := Option Addr × Nat × Nat
def slv (g : Tri) : Value := .slice g.1 g.2.1 g.2.2
def zt : Tri := (none, 0, 0)
/-- Each slice's row. -/
structure Tells (k : IntKind) (w : World) (gs : List Tri) (L : List (List Int)) : Prop where mk ::
  len : gs.length = L.length
  at_ : ∀ j, j < L.length → (gs.getD j zt).2.1 = (L.getD j []).length ∧ (gs.getD j zt).2.1 ≤ (gs.getD j zt).2.2 ∧ (Kd.int k).C w (gs.getD j zt).1 (gs.getD j zt).2.1 (L.getD j [])
theorem Tells.below {k : IntKind} {w w1 : World} {gs : List Tri} {L : List (List Int)} (h : Tells k w gs L) (hb : Below w.heap.size w w1) : Tells k w1 gs L :=
  ⟨h.len, fun j hj => by
    obtain ⟨h1, h2, h3⟩ := h.at_ j hj
    exact ⟨h1, h2, Kd.C_below h3 hb⟩⟩
theorem getD_append_l {α : Type} {l m : List α} {j : Nat} {d : α} (h : j < l.length) : (l ++ m).getD j d = l.getD j d := by
  simp [List.getD_eq_getElem?_getD, List.getElem?_append_left h]
theorem getD_append_r {α : Type} {l m : List α} {j : Nat} {d : α} (h : l.length ≤ j) : (l ++ m).getD j d = m.getD (j - l.length) d := by
  simp [List.getD_eq_getElem?_getD, List.getElem?_append_right h]
theorem Tells.append {k : IntKind} {w : World} {gs gs' : List Tri} {L L' : List (List Int)} (h : Tells k w gs L) (h' : Tells k w gs' L') : Tells k w (gs ++ gs') (L ++ L') := by
  refine ⟨by rw [List.length_append, List.length_append, h.len, h'.len], fun j hj => ?_⟩
  rw [List.length_append] at hj
  by_cases e : j < L.length
  · rw [getD_append_l (by rw [h.len]; exact e), getD_append_l e]
    exact h.at_ j e
  · rw [getD_append_r (by rw [h.len]; omega), getD_append_r (by omega), h.len]
    exact h'.at_ (j - L.length) (by omega)
theorem Tells.one {k : IntKind} {w : World} {A : Option Addr} {c : Nat} {l : List Int} (h : (Kd.int k).C w A l.length l) (hc : l.length ≤ c) : Tells k w [(A, l.length, c)] [l] :=
  ⟨rfl, fun j hj => by
    obtain rfl : j = 0 := by simp at hj; omega
    exact ⟨rfl, hc, h⟩⟩
theorem tells_C {k : IntKind} {e : Nat} {w : World} {A : Option Addr} {n : Nat} {gs : List Tri} {L : List (List Int)} (h : ReadsOf slv zt w A n gs) (ht : Tells k w gs L) : (Kd.slice e (Kd.int k)).C w A n L := by
  obtain ⟨h1, h2, h3⟩ := h
  refine ⟨by rw [← ht.len]; exact h1, h2, fun hn => ?_⟩
  obtain ⟨ad, rfl, hc⟩ := h3 hn
  refine ⟨ad, rfl, fun j p hj => ?_⟩
  have hl : j < L.length := (List.getElem?_eq_some_iff.1 hj).1
  have hp : L.getD j [] = p := by rw [List.getD_eq_getElem?_getD, hj]; rfl
  obtain ⟨t1, t2, t3⟩ := ht.at_ j hl
  rw [hp] at t1 t3
  refine ⟨[slv (gs.getD j zt)], rfl, ⟨(gs.getD j zt).1, (gs.getD j zt).2.2, by rw [slv, t1], by rw [← t1]; exact t2, by rw [← t1] ; exact t3⟩, fun i u hu => ?_⟩
  obtain rfl : i = 0 := by
    have := (List.getElem?_eq_some_iff.1 hu).1
    simp at this
    omega
  simp at hu
  subst hu
  have e2 : j * (Kd.slice e (Kd.int k)).sz + 0 = j := Nat.mul_one j
  rw [e2]
  exact hc j (by have := ht.len; omega)
section
variable {P : Program} {ops : Array Oper} {rest : List Oper} {o : Oper} {a : Act} {Q : Exit → Act → World → Prop}
end
end Go.Proofs.YtnkgbnbbmcoiiaaW.PrintWords
/-
  DERIVED: THE SHELF's CONTRACTS AT THIS DUMP, IN PLAIN WORDS (tools/lay-plain.mjs out of 'YtnkgbnbbmcoiiaaShelf.lean', which tools/lay-shelf.mjs wrote): THE SAME DECLARATIONS UNDER THE SAME NAMES: 'import', 'namespace', 'open', 'def', 'theorem' AND NOTHING ELSE: no command of the shelf's: FOR A HAND-IN. Each laying: the table of numbers ('.._ren') and one theorem, a field a fact of the dump's own or the kernel's comparison; each contract: ONE APPLICATION.
-/
namespace Go.Proofs
open Go.Shelf
def Try.lays189_ren : Go.Shelf.Ren := ⟨fun | 189 => 42 | 125 => 70 | 257 => 69 | 128 => 104 | 129 => 105 | 294 => 95 | 295 => 96 | 296 => 97 | 297 => 98 | 298 => 99 | 299 => 100 | 216 => 101 | 300 => 102 | 301 => 103 | 328 => 112 | 329 => 113 | 330 => 114 | 331 => 115 | 332 => 116 | 215 => 117 | 343 => 118 | n => n, fun | 28 => 28 | 3 => 3 | 46 => 102 | 0 => 0 | 51 => 133 | 53 => 135 | 4 => 4 | 183 => 125 | 182 => 124 | 131 => 130 | 5 => 5 | 9 => 9 | 218 => 140 | 222 => 144 | 228 => 146 | 229 => 147 | n => n, fun | n => n⟩
theorem Try.lays189 : Go.Proofs.Lays.n189 Try.prog Try.lays189_ren := {
  mixed := by kernel_rfl
  f125 := Try.func70.trans (congrArg some (by kernel_rfl))
  f128 := Try.func104.trans (congrArg some (by kernel_rfl))
  f129 := Try.func105.trans (congrArg some (by kernel_rfl))
  f189 := Try.func42.trans (congrArg some (by kernel_rfl))
  f215 := Try.func117.trans (congrArg some (by kernel_rfl))
  f216 := Try.func101.trans (congrArg some (by kernel_rfl))
  f257 := Try.func69.trans (congrArg some (by kernel_rfl))
  f294 := Try.func95.trans (congrArg some (by kernel_rfl))
  f295 := Try.func96.trans (congrArg some (by kernel_rfl))
  f296 := Try.func97.trans (congrArg some (by kernel_rfl))
  f297 := Try.func98.trans (congrArg some (by kernel_rfl))
  f298 := Try.func99.trans (congrArg some (by kernel_rfl))
  f299 := Try.func100.trans (congrArg some (by kernel_rfl))
  f300 := Try.func102.trans (congrArg some (by kernel_rfl))
  f301 := Try.func103.trans (congrArg some (by kernel_rfl))
  f328 := Try.func112.trans (congrArg some (by kernel_rfl))
  f329 := Try.func113.trans (congrArg some (by kernel_rfl))
  f330 := Try.func114.trans (congrArg some (by kernel_rfl))
  f331 := Try.func115.trans (congrArg some (by kernel_rfl))
  f332 := Try.func116.trans (congrArg some (by kernel_rfl))
  f343 := Try.func118.trans (congrArg some (by kernel_rfl))
  t0 := Try.underlying0
  a0 := Try.isAgg0
  z0 := Try.sizeOf0
  v0 := Try.zeroValue0
  t3 := Try.underlying3
  a3 := Try.isAgg3
  z3 := Try.sizeOf3
  v3 := Try.zeroValue3
  t4 := Try.underlying4
  a4 := Try.isAgg4
  z4 := Try.sizeOf4
  v4 := Try.zeroValue4
  t5 := Try.underlying5
  a5 := Try.isAgg5
  z5 := Try.sizeOf5
  v5 := Try.zeroValue5
  t9 := Try.underlying9
  a9 := Try.isAgg9
  z9 := Try.sizeOf9
  v9 := Try.zeroValue9
  t28 := Try.underlying28
  a28 := Try.isAgg28
  z28 := Try.sizeOf28
  v28 := Try.zeroValue28
  t46 := Try.underlying102
  a46 := Try.isAgg102
  z46 := Try.sizeOf102
  v46 := Try.zeroValue102
  t51 := Try.underlying133
  a51 := Try.isAgg133
  z51 := Try.sizeOf133
  v51 := Try.zeroValue133
  t53 := Try.underlying135
  a53 := Try.isAgg135
  z53 := Try.sizeOf135
  v53 := Try.zeroValue135
  t131 := Try.underlying130
  a131 := Try.isAgg130
  z131 := Try.sizeOf130
  v131 := Try.zeroValue130
  t182 := Try.underlying124
  a182 := Try.isAgg124
  z182 := Try.sizeOf124
  v182 := Try.zeroValue124
  t183 := Try.underlying125
  a183 := Try.isAgg125
  z183 := Try.sizeOf125
  v183 := Try.zeroValue125
  t218 := Try.underlying140
  a218 := Try.isAgg140
  z218 := Try.sizeOf140
  v218 := Try.zeroValue140
  t222 := Try.underlying144
  a222 := Try.isAgg144
  z222 := Try.sizeOf144
  v222 := Try.zeroValue144
  t228 := Try.underlying146
  a228 := Try.isAgg146
  z228 := Try.sizeOf146
  v228 := Try.zeroValue146
  t229 := Try.underlying147
  a229 := Try.isAgg147
  z229 := Try.sizeOf147
  v229 := Try.zeroValue147 }
open Go.Sort Go.RowKit in
theorem Try.slices_Sort_int (blk off cap : Nat) (zs : List Int) (w : World) (hH : Holds (Value.int .i64) w blk off zs.toArray) (hblk : blk < w.heap.size) (hsz : zs.length < 4611686018427387904) :
    Calls Try.prog 42 #[.slice (some ⟨blk, off, none⟩) zs.length cap] w fun e w' =>
      e = .returned (.tuple #[]) ∧ ∃ n os, w' = grow (putRow (Value.int .i64) (Sort.ahead w n) blk off (zs.mergeSort fun x y => decide (x ≤ y)).toArray) os := Any.slices_Sort_int Try.lays189 blk off cap zs w hH hblk hsz
open Go.RowKit Go.Sort in
/-- .. and plain. (LAID: no walk: one application.) -/
theorem Try.slices_Sort_int_none (p : Option Addr) (cap : Nat) (w : World) :
    Calls Try.prog 42 #[.slice p 0 cap] w fun e w' => e = .returned (.tuple #[]) ∧ w' = w := Any.slices_Sort_int_none Try.lays189 p cap w
def Try.sorted52_ren : Go.Shelf.Ren := ⟨fun | 6 => 52 | 8 => 82 | 9 => 42 | 11 => 108 | 13 => 70 | 12 => 69 | 23 => 104 | 24 => 105 | 14 => 95 | 15 => 96 | 16 => 97 | 17 => 98 | 18 => 99 | 19 => 100 | 20 => 101 | 21 => 102 | 22 => 103 | 25 => 112 | 26 => 113 | 27 => 114 | 28 => 115 | 29 => 116 | 30 => 117 | 31 => 118 | n => n, fun | 26 => 3 | 28 => 78 | 24 => 28 | 0 => 0 | 3 => 3 | 37 => 102 | 48 => 133 | 50 => 135 | 4 => 4 | 40 => 125 | 39 => 124 | 45 => 130 | 5 => 5 | 9 => 9 | 51 => 140 | 55 => 144 | 57 => 146 | 58 => 147 | 33 => 104 | n => n, fun | n => n⟩
theorem Try.sorted52 : Go.Proofs.SlLaysZI.n6 Try.prog Try.sorted52_ren := {
  mixed := by kernel_rfl
  f6 := ⟨Try.f52.name, by decide, Try.func52.trans (congrArg some (by kernel_rfl))⟩
  f8 := ⟨Try.f82.name, by decide, Try.func82.trans (congrArg some (by kernel_rfl))⟩
  f11 := ⟨Try.f108.name, by decide, Try.func108.trans (congrArg some (by kernel_rfl))⟩
  t0 := Try.underlying0
  a0 := Try.isAgg0
  z0 := Try.sizeOf0
  v0 := Try.zeroValue0
  t24 := Try.underlying28
  a24 := Try.isAgg28
  z24 := Try.sizeOf28
  v24 := Try.zeroValue28
  t26 := Try.underlying3
  a26 := Try.isAgg3
  z26 := Try.sizeOf3
  v26 := Try.zeroValue3
  t28 := Try.underlying78
  a28 := Try.isAgg78
  z28 := Try.sizeOf78
  v28 := Try.zeroValue78
  i26 := by kernel_rfl }
end Go.Proofs
namespace Go.Proofs.Ytnkgbnbbmcoiiaa.S
open Go.RowKit Go.Proofs.YtnkgbnbbmcoiiaaW.PrintWords Go.Proofs.YtnkgbnbbmcoiiaaW.PrintLast Go.Proofs.YtnkgbnbbmcoiiaaW.PrintMore
set_option linter.unusedVariables false
theorem rd26' {l : List S26} {j : Nat} (h : j < l.length) : rd_T26 l (j : Int) = l[j] := by
  unfold rd_T26
  simp [List.getD_eq_getElem?_getD, h]
/-! ### A slice of whole numbers, sorted -/
def srt (zs : List Int) : List Int := zs.mergeSort fun x y => decide (x ≤ y)
/-! ### At -/
def hasP (x : S26) (p : Int) : Bool := decide (x.f1 ≤ p) && decide (p ≤ x.f2)
def ats (l : List S26) (p : Int) : List Int := (l.filter fun x => hasP x p).map (·.f0)
theorem ats_take {l : List S26} {j : Nat} (h : j < l.length) (p : Int) : ats (l.take (j + 1)) p = if hasP (rd_T26 l (j : Int)) p = true then ats (l.take j) p ++ [(rd_T26 l (j : Int)).f0] else ats (l.take j) p := by
  unfold ats
  rw [rd26' h, List.take_succ_eq_append_getElem h, List.filter_append, List.map_append]
  by_cases h0 : hasP l[j] p = true
  · simp [h0]
  · simp [h0]
theorem ats_len (l : List S26) (p : Int) : (ats l p).length ≤ l.length := by
  unfold ats
  rw [List.length_map]
  exact List.length_filter_le _ _
end Go.Proofs.Ytnkgbnbbmcoiiaa.S
namespace Go.Proofs.YtnkgbnbbmcoiiaaW.PrintWords
open Go.RowKit Go.ChangeShapes Go.WideShapes Go.Deep
set_option linter.unusedVariables false
/-! ### What comes in, kind by kind, within the address space -/
/-- What reads as data of type T, and weighs no more than can be, is of the kind d, and G holds of it. -/
structure OpensW (P : Program) {α : Type} (d : Kd α) (T : TypeId) (G : α → Prop) : Prop where mk ::
  out : ∀ {H : Type} (enc : TypeId × Value → H) (w : World) (base : Nat) (spare : Nat → Bool) (held : Bool) (fuel : Nat) (cs : List Value) (x : DataW H × List MemPlace), DataW.trod enc P w base spare held fuel T cs = some x → (∀ n ∈ x.1.weights P T, n ≤ reachBytes) → ∃ y : α, d.K w y cs ∧ G y
section
variable {P : Program} {T E : TypeId} {α β : Type} {d : Kd α} {G : α → Prop}
theorem weightsAll_of {H : Type} {e : TypeId} : ∀ {l : List (DataW H)} {x : DataW H}, x ∈ l → ∀ n ∈ x.weights P e, n ∈ DataW.weightsAll P e l
  | y :: l, x, hx, n, hn => by
    rw [DataW.weightsAll, List.mem_append]
    rcases List.mem_cons.1 hx with rfl | hx
    · exact .inl hn
    · exact .inr (weightsAll_of hx n hn)
theorem OpensW.int {k : IntKind} (hT : P.underlying T = some (.int k)) : OpensW P (Kd.int k) T (fun n => (Lit.int k n).wf = true) := by
  constructor
  intro H enc w base spare held fuel cs x h _
  obtain ⟨n, hc, _, hw⟩ := DataW.trod_int hT h
  exact ⟨n, hc, hw⟩
theorem OpensW.imp {G' : α → Prop} (h : OpensW P d T G) (hG : ∀ x, G x → G' x) : OpensW P d T G' := by
  constructor
  intro H enc w base spare held fuel cs x hx hw
  obtain ⟨y, hk, hg⟩ := h.out enc w base spare held fuel cs x hx hw
  exact ⟨y, hk, hG y hg⟩
theorem OpensW.slice (hT : P.underlying T = some (.slice E)) (hsz : P.cellsOf E = d.sz) (h : OpensW P d E G) : OpensW P (Kd.slice E d) T (fun l => l.length * P.bytesOf E ≤ reachBytes ∧ ∀ x ∈ l, G x) := by
  constructor
  intro H enc w base spare held fuel cs x hx hw
  rcases open_slice hT hx with ⟨hcs, _⟩ | ⟨a, len, cap, m, n, D, Pl, hcs, _, hlc, hcm, hm, hxe, hall⟩
  · subst hcs
    exact ⟨[], ⟨none, 0, rfl, Nat.le_refl _, rfl, by simp, fun h => absurd h (by simp)⟩, by simp, by simp⟩
  · subst hcs
    subst hxe
    have hmax : cap ≤ 9223372036854775807 := by unfold maxLen at hcm; exact Nat.le_trans hcm (by decide)
    have hlm : len ≤ m := by rw [hm]; split <;> omega
    have hW : len * P.bytesOf E ≤ reachBytes := by
      have := hw _ (by rw [DataW.weights, hT]; exact List.mem_cons_self)
      simp only [List.length_map, List.length_range] at this
      exact Nat.le_trans (Nat.mul_le_mul_right _ (Nat.le_add_right _ _)) this
    have key : ∀ i, i < len → ∃ y : α, ∃ cs', cs'.length = d.sz ∧ d.K w y cs' ∧ (∀ j u, cs'[j]? = some u → w.cell? (a.add (i * d.sz + j)) = some u) ∧ G y := by
      intro i hi
      obtain ⟨cs', hc, ht⟩ := hall i (by omega)
      rw [hsz] at hc
      obtain ⟨_, hl5, hat⟩ := World.cells?_some hc
      obtain ⟨y, hy, hg⟩ := h.out enc w base spare held n cs' _ ht (fun q hq => hw q (by
        rw [DataW.weights, hT]
        exact List.mem_cons_of_mem _ (List.mem_append.2 (.inl (weightsAll_of (List.mem_map.2 ⟨i, List.mem_range.2 hi, rfl⟩) q hq)))))
      refine ⟨y, cs', hl5, hy, fun j u hu => ?_, hg⟩
      have hj : j < d.sz := by rw [← hl5]; exact (List.getElem?_eq_some_iff.1 hu).1
      rw [← Go.Deep.add_add, hat j hj, hu]
    rcases Nat.eq_zero_or_pos len with h0 | h0
    · subst h0
      exact ⟨[], ⟨some a, cap, rfl, Nat.zero_le _, rfl, by simp, fun h => absurd h (by simp)⟩, by simp, by simp⟩
    obtain ⟨f, hf⟩ := @choose_lt α ⟨Classical.choose (key 0 h0)⟩ len (fun i y => ∃ cs', cs'.length = d.sz ∧ d.K w y cs' ∧ (∀ j u, cs'[j]? = some u → w.cell? (a.add (i * d.sz + j)) = some u) ∧ G y) key
    refine ⟨(List.range len).map f, ⟨some a, cap, by simp, by simpa using hlc, by simp, by simp; omega, fun _ => ⟨a, rfl, fun j p hj => ?_⟩⟩, by simpa using hW, fun x hx => ?_⟩
    · have hjl : j < len := by
        have := (List.getElem?_eq_some_iff.1 hj).1
        simpa using this
      simp [hjl] at hj
      subst hj
      obtain ⟨cs', h1, h2, h3, _⟩ := hf j hjl
      exact ⟨cs', h1, h2, h3⟩
    · simp only [List.mem_map, List.mem_range] at hx
      obtain ⟨i, hi, rfl⟩ := hx
      obtain ⟨_, _, _, _, h4⟩ := hf i hi
      exact h4
/-- Fields in line, from an offset on. -/
structure FOpensW (P : Program) (fs : List Field) (off : Nat) {α : Type} (d : Kd α) (G : α → Prop) : Prop where mk ::
  out : ∀ {H : Type} (enc : TypeId × Value → H) (w : World) (base : Nat) (spare : Nat → Bool) (held : Bool) (fuel : Nat) (cs : List Value), cs.length = d.sz → (∀ f ∈ fs, ∃ x, DataW.trod enc P w base spare held fuel f.type ((cs.drop (f.offset - off)).take (P.cellsOf f.type)) = some x ∧ ∀ n ∈ x.1.weights P f.type, n ≤ reachBytes) → ∃ y : α, d.K w y cs ∧ G y
theorem FOpensW.last {f : Field} (h : OpensW P d f.type G) (hsz : P.cellsOf f.type = d.sz) : FOpensW P [f] f.offset d G := by
  constructor
  intro H enc w base spare held fuel cs hl hf
  obtain ⟨x, hx, hw⟩ := hf f List.mem_cons_self
  rw [Nat.sub_self, List.drop_zero, hsz, ← hl, List.take_length] at hx
  exact h.out enc w base spare held fuel cs x hx hw
theorem FOpensW.cons {f : Field} {fs : List Field} {d2 : Kd β} {G2 : β → Prop} (h : OpensW P d f.type G) (hsz : P.cellsOf f.type = d.sz) (hr : FOpensW P fs (f.offset + d.sz) d2 G2) (hoff : ∀ g ∈ fs, f.offset + d.sz ≤ g.offset) :
    FOpensW P (f :: fs) f.offset (Kd.pair d d2) (fun p => G p.1 ∧ G2 p.2) := by
  constructor
  intro H enc w base spare held fuel cs hl hf
  have hl' : cs.length = d.sz + d2.sz := hl
  obtain ⟨x, hx, hw⟩ := hf f List.mem_cons_self
  rw [Nat.sub_self, List.drop_zero, hsz] at hx
  obtain ⟨y, hk, hg⟩ := h.out enc w base spare held fuel _ x hx hw
  obtain ⟨z, hk2, hg2⟩ := hr.out enc w base spare held fuel (cs.drop d.sz) (by rw [List.length_drop]; omega) (fun g hgm => by
    obtain ⟨x2, hx2, hw2⟩ := hf g (List.mem_cons_of_mem _ hgm)
    refine ⟨x2, ?_, hw2⟩
    rw [List.drop_drop]
    have := hoff g hgm
    rw [show d.sz + (g.offset - (f.offset + d.sz)) = g.offset - f.offset by omega]
    exact hx2)
  exact ⟨(y, z), ⟨cs.take d.sz, cs.drop d.sz, (List.take_append_drop _ _).symm, hk, hk2⟩, hg, hg2⟩
/-- A struct, by its fields. -/
theorem OpensW.struct {fs : Array Field} {f : β → α} {G' : β → Prop} (hT : P.underlying T = some (.struct fs)) (hsz : P.cellsOf T = d.sz) (h : FOpensW P fs.toList 0 d G) (back : α → β) (hb : ∀ x, f (back x) = x) (hG : ∀ x, G x → G' (back x)) : OpensW P (Kd.iso d f) T G' := by
  constructor
  intro H enc w base spare held fuel cs x hx hw
  obtain ⟨xs, n, _, hxe, hl, hlen, hg⟩ := DataW.trod_struct hT hx
  subst hxe
  obtain ⟨y, hk, hy⟩ := h.out enc w base spare held n cs (by rw [hl, hsz]) (fun g hgm => by
    obtain ⟨i, hi, he⟩ := List.getElem_of_mem hgm
    have hi' : i < fs.size := by simpa using hi
    have := hg i g (by rw [Array.getElem?_eq_getElem hi']; simpa using he)
    rw [List.getElem?_eq_getElem (by omega)] at this
    refine ⟨_, by rw [Nat.sub_zero]; exact this, fun q hq => hw q ?_⟩
    rw [DataW.weights, hT]
    refine DataW.weights_mem_each (j := i) (t := g.type) (d := (xs[i]'(by omega)).1) ?_ ?_ q hq
    · rw [List.getElem?_map, List.getElem?_eq_getElem hi, he]; rfl
    · rw [List.getElem?_map, List.getElem?_eq_getElem (by omega)]; rfl)
  refine ⟨back y, ?_, hG y hy⟩
  show d.K w (f (back y)) cs
  rw [hb]
  exact hk
/-- A struct argument: its cells. -/
theorem OpensW.agg {w : World} {r : Reach} {b0 : Nat} {v : Value} {H : Type} {enc : TypeId × Value → H} {base : Nat} {spare : Nat → Bool} {held : Bool} {D : DataW H} {p : List MemPlace} {fs : Array Field} (ho : OpensW P d T G) (hT : P.underlying T = some (.struct fs))
    (hv : Value.okWide P w r b0 T v) (h : DataW.Trod enc P w base spare held T v D p) (hw : ∀ n ∈ D.weights P T, n ≤ reachBytes) :
    ∃ (x : α) (cs : List Value), v = .agg cs.toArray ∧ d.K w x cs ∧ G x := by
  obtain ⟨cs, rfl, hsz⟩ := okWide_struct hT hv
  obtain ⟨fuel, hf⟩ := h
  obtain ⟨x, hk, hg⟩ := ho.out enc w base spare held fuel _ _ hf hw
  exact ⟨x, cs.toList, by simp, hk, hg⟩
/-- What the whole claim says of weights, of its first argument. -/
theorem weights_first {H : Type} {t : TypeId} {ts : List TypeId} {d : DataW H} {ds : List (DataW H)} (h : (DataW.weightsEach P (t :: ts) (d :: ds)).all (· ≤ reachBytes) = true) : ∀ n ∈ d.weights P t, n ≤ reachBytes := fun n hn => by
  have := List.all_eq_true.1 h n (DataW.weights_mem_each (j := 0) rfl rfl n hn)
  simpa using this
theorem i64_wf {n : Int} (h : (Lit.int .i64 n).wf = true) : -9223372036854775808 ≤ n ∧ n ≤ 9223372036854775807 := by
  simp only [Lit.wf, Bool.and_eq_true, decide_eq_true_eq] at h
  exact h
end
end Go.Proofs.YtnkgbnbbmcoiiaaW.PrintWords
