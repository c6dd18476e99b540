import Derived.Maps.OwnIn
import Derived.Sort.MapsRangeIn
import Derived.RangeFuncWrites
import Derived.Test.YtnkgbnbbmcoiiaaIm
import Derived.RangeFuncNested
import Derived.RangeFuncLeaves
import Derived.RangeFuncBox
import Derived.RangeFuncKeeps
import Derived.Test.YtnkgbnbbmcoiiaaS0
import Derived.Shelf.SlIterI.Nil
import Derived.Shelf.SlIterI.Sorted
import Derived.WalkKit
import Derived.OwnWalkIn
import Derived.TacticsInMore
import Derived.LoopNIn
import Derived.LoopIn
import Derived.Test.YtnkgbnbbmcoiiaaOpw
namespace Go.IM
open Go.ChangeMaps (setBlock heap_setBlock_same heap_setBlock_other)
open Go.MapKept
set_option linter.unusedVariables false
set_option linter.unusedSimpArgs false
/-! ### What a round keeps, where it writes a map: whatever is cells -/
structure KC (A B : World) : Prop where
  size : A.heap.size ≤ B.heap.size
  cells : ∀ (k : Nat) (o : Obj), A.heap[k]? = some o → o.isCells = true → B.heap[k]? = some o
theorem KC.refl (A : World) : KC A A := ⟨Nat.le_refl _, fun _ _ h _ => h⟩
theorem KC.trans {A B C : World} (h : KC A B) (k : KC B C) : KC A C := ⟨Nat.le_trans h.size k.size, fun i o hi ho => k.cells i o (h.cells i o hi ho) ho⟩
theorem KC.of_below {A B : World} (h : RowKit.Below A.heap.size A B) : KC A B := ⟨h.size, fun k o hk _ => (h.block k (Array.getElem?_eq_some_iff.1 hk).1).trans hk⟩
theorem KC.of_grown {A B : World} {b : Nat} (hg : A.grownBy B (some b)) (hb : ∀ o, A.heap[b]? = some o → o.isCells = false) : KC A B :=
  ⟨hg.size, fun k o hk ho => (hg.block k (Array.getElem?_eq_some_iff.1 hk).1 (fun e => by cases e; rw [hb o hk] at ho; cases ho)).trans hk⟩
theorem KC.cell {A B : World} (h : KC A B) {a : Addr} {v : Value} (hc : A.cell? a = some v) : B.cell? a = some v := by
  have hlt := World.block_lt_of_cell? A a hc
  have e : A.heap[a.block]? = some A.heap[a.block] := Array.getElem?_eq_getElem hlt
  have hk : A.heap[a.block].isCells = true := by
    unfold World.cell? at hc
    rw [e] at hc
    cases ho : A.heap[a.block] <;> rw [ho] at hc <;> first | rfl | simp_all
  have := h.cells a.block _ e hk
  rw [← hc]
  unfold World.cell?
  rw [e, this]
theorem At.no_cells {w : World} {b : Nat} {es : List (Int × Value)} (h : At w b es) : ∀ o, w.heap[b]? = some o → o.isCells = false := by
  obtain ⟨en, ck, hb, _⟩ := h
  intro o ho
  rw [hb] at ho
  cases ho
  rfl
theorem Rng.of_walks {w w' : World} {b r : Nat} {es left : List (Int × Value)} (h : Rng w b r es left) (hk : KeepsWalks w w') : Rng w' b r es left := by
  obtain ⟨en, clock, since, seen, c0, hb, r1, r2, r3, r4, hr, r5⟩ := h
  exact ⟨en, clock, since, seen, c0, hk.same b _ hb rfl, r1, r2, r3, r4, hk.same r _ hr rfl, r5⟩
theorem Rng.iter_walk {w : World} {b r : Nat} {es left : List (Int × Value)} (h : Rng w b r es left) : ∃ o : Obj, w.heap[r]? = some o ∧ o.isWalk = true := by
  obtain ⟨en, clock, since, seen, c0, hb, r1, r2, r3, r4, hr, r5⟩ := h
  exact ⟨_, hr, rfl⟩
theorem perm_step {left : List (Int × Value)} {j : Nat} {k : Int} {c : Value} (h : left[j]? = some (k, c)) : (k :: (left.eraseIdx j).map (·.1)).Perm (left.map (·.1)) := by
  have h1 : left[j]? = some (k, c) := h
  have hj := (List.getElem?_eq_some_iff.1 h).1
  have he := (List.getElem?_eq_some_iff.1 h).2
  have h2 : (left[j] :: left.eraseIdx j).Perm left := by
    rw [List.eraseIdx_eq_take_drop_succ]
    have : left = left.take j ++ left[j] :: left.drop (j + 1) := by rw [← List.drop_eq_getElem_cons hj, List.take_append_drop]
    conv => rhs; rw [this]
    exact List.perm_middle.symm
  rw [he] at h2
  exact h2.map (·.1)
/-! ### Maps keyed by int, inside a fence -/
section
variable {F : Fence} {nF : Nat} {P : Program} (w : World) {ops : Array Oper} {rest : List Oper} {o : Oper} {a : Act} {Q : Exit → Act → World → Prop}
theorem wplIn_range (hg : o.guard = none) (m : Operand) (T : TypeId) (hop : o.op = Op.range T m) (K E : TypeId) (hT : P.underlying T = some (.map K E)) (b : Nat) (es : List (Int × Value)) (hm : a.eval m = .map (some b)) (h : At w b es)
    (hQ : ∀ w', Rng w' b w.heap.size es es → w.grownBy w' none → w'.heap.size = w.heap.size + 1 → wpListIn F nF P ops Q rest (a.put o.dst (.pointer (some ⟨w.heap.size, 0, none⟩))) w') : wpListIn F nF P ops Q (o :: rest) a w := by
  refine wpListIn_plain hg fun K' hK' => ?_
  obtain ⟨w', hrun, h1, h2, h3⟩ := h.range hT
  unfold Oper.wpIn
  refine ⟨by simp [Oper.about, hop, resolve, Target.leads, Sem.run_pure], ?_⟩
  rw [Oper.semAt_plain F _ _ (by rw [hop]; intro c hc'; cases hc')]
  simp [execOp, hop, hm, hrun, Result.andThen]
  exact hK' _ _ (hQ w' h1 h2 h3)
theorem wplIn_next {β : Type} (hg : o.guard = none) (it : Operand) (hop : o.op = Op.next it false) (b r : Nat) (es left : List (Int × Value)) (hit : a.eval it = .pointer (some ⟨r, 0, none⟩)) (h : Rng w b r es left) (mk : β → Value) (inv : ∀ p ∈ left, ∃ c, p.2 = mk c)
    (hDone : left = [] → wpListIn F nF P ops Q rest (a.put o.dst (.tuple #[.bool false])) w)
    (hMore : ∀ (j : Nat) (k : Int) (c : β) (w' : World), left[j]? = some (k, mk c) → Rng w' b r es (left.eraseIdx j) → (left.eraseIdx j).length < left.length → w.grownBy w' (some r) → w'.heap.size = w.heap.size →
      (Instr.entry (.pointer (some ⟨r, 0, none⟩))).run P w' = .ok (.tuple #[.int .i64 k, mk c]) w' → wpListIn F nF P ops Q rest (a.put o.dst (.tuple #[.bool true, .int .i64 k, mk c])) w') : wpListIn F nF P ops Q (o :: rest) a w := by
  refine wpListIn_plain hg fun K' hK' => ?_
  unfold Oper.wpIn
  refine ⟨by simp [Oper.about, hop, resolve, Target.leads, Sem.run_pure], ?_⟩
  rw [Oper.semAt_plain F _ _ (by rw [hop]; intro c hc'; cases hc')]
  rcases h.next (P := P) o.type with ⟨h0, hrun⟩ | ⟨j, p, w', hj, hrun, h1, h2, h3, hen⟩
  · simp [execOp, hop, hit, hrun, Result.andThen]
    exact hK' _ _ (hDone h0)
  · obtain ⟨k, v⟩ := p
    obtain ⟨c, hc⟩ := inv _ (List.mem_of_getElem? hj)
    simp only at hc
    subst hc
    simp [execOp, hop, hit, hrun, Result.andThen]
    have hjl : j < left.length := (List.getElem?_eq_some_iff.1 hj).1
    exact hK' _ _ (hMore j k c w' hj h1 (by rw [List.length_eraseIdx, if_pos hjl]; omega) h2 h3 hen)
end
end Go.IM
namespace Go
open Go.RowKit Go.IM
set_option linter.unusedVariables false
/-! ### What a round keeps: all cells but those in blocks lo .. hi - 1 -/
structure KE (lo hi : Nat) (A B : World) : Prop where
  size : A.heap.size ≤ B.heap.size
  cells : ∀ (k : Nat) (o : Obj), ¬ (lo ≤ k ∧ k < hi) → A.heap[k]? = some o → o.isCells = true → B.heap[k]? = some o
theorem KE.refl (lo hi : Nat) (A : World) : KE lo hi A A := ⟨Nat.le_refl _, fun _ _ _ h _ => h⟩
theorem KE.trans {lo hi : Nat} {A B C : World} (h : KE lo hi A B) (k : KE lo hi B C) : KE lo hi A C := ⟨Nat.le_trans h.size k.size, fun i o hx hi ho => k.cells i o hx (h.cells i o hx hi ho) ho⟩
theorem KE.of_kc {lo hi : Nat} {A B : World} (h : KC A B) : KE lo hi A B := ⟨h.size, fun k o _ hk ho => h.cells k o hk ho⟩
theorem KE.of_below {lo hi : Nat} {A B : World} (h : Below A.heap.size A B) : KE lo hi A B := .of_kc (.of_below h)
theorem KE.of_grown {lo hi : Nat} {A B : World} {b : Nat} (hg : A.grownBy B (some b)) (hb : (lo ≤ b ∧ b < hi) ∨ ∀ o, A.heap[b]? = some o → o.isCells = false) : KE lo hi A B :=
  ⟨hg.size, fun k o hx hk ho => (hg.block k (Array.getElem?_eq_some_iff.1 hk).1 (fun e => by
    cases e
    rcases hb with hb | hb
    · exact hx hb
    · rw [hb o hk] at ho; cases ho)).trans hk⟩
theorem KE.setCell {lo hi : Nat} (A : World) (p : Addr) (v : Value) (hp : lo ≤ p.block ∧ p.block < hi) : KE lo hi A (A.setCell p v) :=
  ⟨(KeepsWalks.setCell A p v).size, fun k o hx hk _ => (Below.heap_setCell A p v k (fun e => hx (by rw [e]; exact hp))).trans hk⟩
theorem KE.putObj {lo hi : Nat} (W : World) (l : Nat) {o : Obj} (o' : Obj) (h : W.heap[l]? = some o) (ho : o.isCells = false) : KE lo hi W (W.putObj l o') :=
  .of_grown (grownBy_putObj' W l o') (.inr fun o2 h2 => by rw [h] at h2; cases h2; exact ho)
/-- What lay ahead of lo, and does still at W, does so behind. -/
theorem KE.kc {lo hi : Nat} {w W B : World} (hb : Below w.heap.size w W) (hlo : w.heap.size ≤ lo) (h : KE lo hi W B) : KC w B :=
  ⟨Nat.le_trans hb.size h.size, fun k o hk ho => by
    have hlt := (Array.getElem?_eq_some_iff.1 hk).1
    exact h.cells k o (by omega) ((hb.block k hlt).trans hk) ho⟩
theorem KE.boxed {lo hi : Nat} {W B : World} {b : Nat} {t : TypeId} {v : Value} (h : KE lo hi W B) (hb : Boxed W b t v) (hx : ¬ (lo ≤ b ∧ b < hi)) : Boxed B b t v := h.cells b _ hx hb rfl
theorem KE.far {lo hi : Nat} {A B : World} (h : KE lo hi A B) {p : Addr} (hp : A.heap.size ≤ p.block) {u : Value} : KE lo hi A (B.setCell p u) :=
  ⟨Nat.le_trans h.size (KeepsWalks.setCell B p u).size, fun k o hx hk ho => (Below.heap_setCell B p u k (fun e => by have := (Array.getElem?_eq_some_iff.1 hk).1; omega)).trans (h.cells k o hx hk ho)⟩
/-! ### Leaving with marks -/
def markOf (r : Nat) : Deferred := { target := .collected r, args := #[] }
/-- W' is W, but for blocks that were marks. -/
structure MarksOff (rs : List Nat) (W W' : World) : Prop where
  os : W'.os = W.os
  tape : W'.tape = W.tape
  output : W'.output = W.output
  size : W'.heap.size = W.heap.size
  same : ∀ k, k ∉ rs → W'.heap[k]? = W.heap[k]?
theorem MarksOff.below {rs : List Nat} {W W' : World} {B : Nat} (h : MarksOff rs W W') (hr : ∀ r ∈ rs, B ≤ r) : Below B W W' :=
  ⟨h.os, h.tape, h.output, by rw [h.size]; exact Nat.le_refl _, fun k hk => h.same k (fun hm => by have := hr k hm; omega)⟩
theorem MarksOff.kc {rs : List Nat} {W W' : World} (h : MarksOff rs W W') (hr : ∀ r ∈ rs, ∃ o : Obj, W.heap[r]? = some o ∧ o.isCells = false) : KC W W' :=
  ⟨by rw [h.size]; exact Nat.le_refl _, fun k o hk ho => (h.same k (fun hm => by obtain ⟨o2, h2, h3⟩ := hr k hm; rw [hk] at h2; cases h2; rw [ho] at h3; cases h3)).trans hk⟩
theorem leavesM_marks {F : Fence} {n : Nat} {P : Program} {fn : Func} {tmps : Array Value} {R : Ending → World → Prop} : ∀ (rs : List Nat) (W : World), rs.Nodup → (∀ r ∈ rs, W.heap[r]? = some (.deferred (some []))) →
    (∀ W', MarksOff rs W W' → LeavesIn F n P fn tmps R [] .returning W') → LeavesInM F n P fn tmps R (rs.map markOf) .returning W
  | [], W, _, _, h => h W ⟨rfl, rfl, rfl, rfl, fun _ _ => rfl⟩
  | r :: rs, W, hn, hd, h => by
    rw [List.nodup_cons] at hn
    have hr := hd r List.mem_cons_self
    have hlt := (Array.getElem?_eq_some_iff.1 hr).1
    refine ⟨by simp, .inl ⟨r, _, rfl, run_takeDeferred hr, ?_⟩⟩
    refine leavesM_marks rs _ hn.2 (fun q hq => ?_) (fun W' hW' => h W' ?_)
    · exact (World.putObj_heap_other (fun e => hn.1 (by cases e; exact hq))).trans (hd q (List.mem_cons_of_mem _ hq))
    · refine ⟨hW'.os, hW'.tape, hW'.output, by rw [hW'.size]; simp [World.putObj], fun k hk => ?_⟩
      rw [List.mem_cons, not_or] at hk
      exact (hW'.same k hk.2).trans (World.putObj_heap_other hk.1)
/-- The marks of an activation: blocks from lo on. -/
def Marks (lo : Nat) (W : World) (ds : List Deferred) : Prop := ∃ rs : List Nat, ds = rs.map markOf ∧ rs.Nodup ∧ ∀ r ∈ rs, lo ≤ r ∧ W.heap[r]? = some (.deferred (some []))
theorem Marks.nil (lo : Nat) (W : World) : Marks lo W [] := ⟨[], rfl, List.nodup_nil, fun r h => by cases h⟩
theorem Marks.cons {lo : Nat} {W W' : World} {ds : List Deferred} {D : Nat} (h : Marks lo W ds) (hlo : lo ≤ D) (hs : W.heap.size ≤ D) (hD : W'.heap[D]? = some (.deferred (some []))) (hk : ∀ r : Nat, lo ≤ r → W.heap[r]? = some (.deferred (some [])) → W'.heap[r]? = some (.deferred (some []))) :
    Marks lo W' (markOf D :: ds) := by
  obtain ⟨rs, rfl, hn, hr⟩ := h
  refine ⟨D :: rs, rfl, List.nodup_cons.2 ⟨fun hm => ?_, hn⟩, fun r hm => ?_⟩
  · have := (Array.getElem?_eq_some_iff.1 (hr D hm).2).1; omega
  · rcases List.mem_cons.1 hm with rfl | hm
    · exact ⟨hlo, hD⟩
    · exact ⟨(hr r hm).1, hk r (hr r hm).1 (hr r hm).2⟩
theorem Marks.kept {lo : Nat} {W W' : World} {ds : List Deferred} (h : Marks lo W ds) (hk : ∀ r : Nat, lo ≤ r → W.heap[r]? = some (.deferred (some [])) → W'.heap[r]? = some (.deferred (some []))) : Marks lo W' ds := by
  obtain ⟨rs, rfl, hn, hr⟩ := h
  exact ⟨rs, rfl, hn, fun r hm => ⟨(hr r hm).1, hk r (hr r hm).1 (hr r hm).2⟩⟩
end Go
namespace Go.Proofs.Ytnkgbnbbmcoiiaa.S
open Go.RowKit Go.IM Go.Proofs.YtnkgbnbbmcoiiaaW.PrintWords Go.Proofs.YtnkgbnbbmcoiiaaW.PrintLast Go.Proofs.YtnkgbnbbmcoiiaaW.PrintMore
set_option linter.unusedVariables false
/-! ### Rows of operations and of blocks, with where their inner rows lie -/
/-- Where an operation's Args lie. -/
structure OpAt (w : World) (A : Option Addr) (k : Nat) (x : S45) (g : Option Addr × Nat) : Prop where mk ::
  out : ∃ ad, A = some ad ∧ w.cell? (ad.add (k * 6)) = some (.int .i64 x.f0) ∧ w.cell? ⟨(ad.add (k * 6)).block, (ad.add (k * 6)).off + 1, none⟩ = some (.int .i64 x.f1) ∧ w.cell? ⟨(ad.add (k * 6)).block, (ad.add (k * 6)).off + 2, none⟩ = some (.int .i64 x.f2) ∧
    w.cell? ⟨(ad.add (k * 6)).block, (ad.add (k * 6)).off + 3, none⟩ = some (.int .i64 x.f3) ∧ w.cell? ⟨(ad.add (k * 6)).block, (ad.add (k * 6)).off + 4, none⟩ = some (.int .i64 x.f4) ∧ w.cell? ⟨(ad.add (k * 6)).block, (ad.add (k * 6)).off + 5, none⟩ = some (.slice g.1 x.f5.length g.2)
  cap : x.f5.length ≤ g.2
  row : (Kd.int .i64).C w g.1 x.f5.length x.f5
/-- A row of operations. -/
def OpsAt (w : World) (A : Option Addr) (xs : List S45) (og : Nat → Option Addr × Nat) : Prop := ∀ k, k < xs.length → OpAt w A k (rd_T45 xs (k : Int)) (og k)
/-- A block's place. -/
structure BlkAt (w : World) (A : Option Addr) (i : Nat) (x : S43) (g : Option Addr × Nat) : Prop where mk ::
  out : ∃ ad, A = some ad ∧ w.cell? (ad.add (i * 5)) = some (.slice g.1 x.f0.length g.2) ∧ w.cell? ⟨(ad.add (i * 5)).block, (ad.add (i * 5)).off + 1, none⟩ = some (.int .i64 x.f1.f0) ∧ w.cell? ⟨(ad.add (i * 5)).block, (ad.add (i * 5)).off + 2, none⟩ = some (.int .i64 x.f1.f1) ∧
    w.cell? ⟨(ad.add (i * 5)).block, (ad.add (i * 5)).off + 3, none⟩ = some (.int .i64 x.f1.f2) ∧ w.cell? ⟨(ad.add (i * 5)).block, (ad.add (i * 5)).off + 4, none⟩ = some (.int .i64 x.f1.f3)
  cap : x.f0.length ≤ g.2
  row : k45.C w g.1 x.f0.length x.f0
/-- A row of blocks. -/
def BlksAt (w : World) (A : Option Addr) (bs : List S43) (bg : Nat → Option Addr × Nat) : Prop := ∀ i, i < bs.length → BlkAt w A i (rd_T43 bs (i : Int)) (bg i)
theorem choice_ {α : Type} [Inhabited α] (n : Nat) (p : Nat → α → Prop) (h : ∀ k, k < n → ∃ y, p k y) : ∃ f : Nat → α, ∀ k, k < n → p k (f k) :=
  ⟨fun k => if hk : k < n then Classical.choose (h k hk) else default, fun k hk => by simp only [dif_pos hk]; exact Classical.choose_spec (h k hk)⟩
theorem ops_at {w : World} {A : Option Addr} {xs : List S45} (h : Kd.C k45 w A xs.length xs) : ∃ og, OpsAt w A xs og := by
  refine choice_ (α := Option Addr × Nat) xs.length (fun k y => OpAt w A k (rd_T45 xs (k : Int)) y) (fun k hk => ?_)
  obtain ⟨ad, A5, c5, e, h0, h1, h2, h3, h4, h5, h6, h7⟩ := at_T45 h (k : Int) (by omega) (by omega)
  simp only [Int.toNat_natCast] at h0 h1 h2 h3 h4 h5
  exact ⟨(A5, c5), ⟨ad, e, h0, h1, h2, h3, h4, h5⟩, h6, h7⟩
theorem blks_at {w : World} {A : Option Addr} {bs : List S43} (h : Kd.C k43 w A bs.length bs) : ∃ bg, BlksAt w A bs bg := by
  refine choice_ (α := Option Addr × Nat) bs.length (fun k y => BlkAt w A k (rd_T43 bs (k : Int)) y) (fun k hk => ?_)
  obtain ⟨ad, A5, c5, e, h0, h1, h2, h3, h4, h5, h6⟩ := at_T43 h (k : Int) (by omega) (by omega)
  simp only [Int.toNat_natCast] at h0 h1 h2 h3 h4
  exact ⟨(A5, c5), ⟨ad, e, h0, h1, h2, h3, h4⟩, h5, h6⟩
/-! A row that is read, behind what keeps cells. -/
theorem Cint_kc {w w' : World} {A : Option Addr} {n : Nat} {l : List Int} (h : Kd.C (Kd.int .i64) w A n l) (hk : KC w w') : Kd.C (Kd.int .i64) w' A n l := by
  obtain ⟨h1, h2, h3⟩ := h
  refine ⟨h1, h2, fun hn => ?_⟩
  obtain ⟨ad, e, hc⟩ := h3 hn
  refine ⟨ad, e, fun j p hj => ?_⟩
  obtain ⟨c, hl, hk', hu⟩ := hc j p hj
  exact ⟨c, hl, hk', fun i u hi => hk.cell (hu i u hi)⟩
theorem C45_kc {w w' : World} {A : Option Addr} {n : Nat} {l : List S45} (h : Kd.C k45 w A n l) (hk : KC w w') : Kd.C k45 w' A n l := by
  obtain ⟨h1, h2, h3⟩ := h
  refine ⟨h1, h2, fun hn => ?_⟩
  obtain ⟨ad, e, hc⟩ := h3 hn
  refine ⟨ad, e, fun j p hj => ?_⟩
  obtain ⟨c, hl, hk', hu⟩ := hc j p hj
  obtain ⟨A5, c5, rfl, l5, g5⟩ := k45_open hk'
  exact ⟨_, hl, k45_mk _ _ l5 (Cint_kc g5 hk), fun i u hi => hk.cell (hu i u hi)⟩
theorem OpAt.kc {w w' : World} {A : Option Addr} {k : Nat} {x : S45} {g : Option Addr × Nat} (h : OpAt w A k x g) (hk : KC w w') : OpAt w' A k x g := by
  obtain ⟨⟨ad, e, h0, h1, h2, h3, h4, h5⟩, h6, h7⟩ := h
  exact ⟨⟨ad, e, hk.cell h0, hk.cell h1, hk.cell h2, hk.cell h3, hk.cell h4, hk.cell h5⟩, h6, Cint_kc h7 hk⟩
theorem OpsAt.kc {w w' : World} {A : Option Addr} {xs : List S45} {og : Nat → Option Addr × Nat} (h : OpsAt w A xs og) (hk : KC w w') : OpsAt w' A xs og := fun k hlt => (h k hlt).kc hk
theorem BlkAt.kc {w w' : World} {A : Option Addr} {k : Nat} {x : S43} {g : Option Addr × Nat} (h : BlkAt w A k x g) (hk : KC w w') : BlkAt w' A k x g := by
  obtain ⟨⟨ad, e, h0, h1, h2, h3, h4⟩, h6, h7⟩ := h
  exact ⟨⟨ad, e, hk.cell h0, hk.cell h1, hk.cell h2, hk.cell h3, hk.cell h4⟩, h6, C45_kc h7 hk⟩
theorem BlksAt.kc {w w' : World} {A : Option Addr} {bs : List S43} {bg : Nat → Option Addr × Nat} (h : BlksAt w A bs bg) (hk : KC w w') : BlksAt w' A bs bg := fun k hlt => (h k hlt).kc hk
theorem rd45' {l : List S45} {j : Nat} (h : j < l.length) : rd_T45 l (j : Int) = l[j] := by
  unfold rd_T45
  simp [List.getD_eq_getElem?_getD, h]
theorem rd43' {l : List S43} {j : Nat} (h : j < l.length) : rd_T43 l (j : Int) = l[j] := by
  unfold rd_T43
  simp [List.getD_eq_getElem?_getD, h]
/-- An operation's value. -/
def opV (x : S45) (g : Option Addr × Nat) : Value := .agg #[.int .i64 x.f0, .int .i64 x.f1, .int .i64 x.f2, .int .i64 x.f3, .int .i64 x.f4, .slice g.1 x.f5.length g.2]
/-- A block's value. -/
def blkV (x : S43) (g : Option Addr × Nat) : Value := .agg #[.slice g.1 x.f0.length g.2, .int .i64 x.f1.f0, .int .i64 x.f1.f1, .int .i64 x.f1.f2, .int .i64 x.f1.f3]
end Go.Proofs.Ytnkgbnbbmcoiiaa.S
namespace Go.Proofs.Ytnkgbnbbmcoiiaa.S
open Go.RowKit Go.Shelf Go.Maps Go.Sort Go.Proofs.YtnkgbnbbmcoiiaaW.PrintWords Go.Proofs.YtnkgbnbbmcoiiaaW.PrintLast Go.Proofs.YtnkgbnbbmcoiiaaW.PrintMore
set_option linter.unusedVariables false
attribute [local go_sem] Oper.semAt_some
def keysOf (es : List (Int × Value)) : List Int := es.map (·.1)
/-- slices.Sort's two contracts, at the fence that asks nothing. -/
theorem sortsK (m : Nat) : AnyZI.SortsIn Try.prog Try.sorted52_ren Fence.wide m :=
  ⟨fun blk off cap ss W hH hblk hsz => callsIn_wide.2 (Try.slices_Sort_int blk off cap ss W hH hblk hsz),
   fun p cap W => callsIn_wide.2 (Try.slices_Sort_int_none p cap W)⟩
set_option maxRecDepth 100000 in
set_option maxHeartbeats 4000000 in
/-- The iterator of maps.Keys: every key once. -/
theorem keys111_in (n : Nat) (hn : 1 ≤ n) (l Bm b : Nat) (es : List (Int × Value)) (J : List Int → World → Prop)
    (hY : ∀ pre x W, J pre W → pre.length < es.length → YieldAt Fence.wide (n - 1) Try.prog l #[encZ x] W fun e W' => e = .returned (.bool true) ∧ J (pre ++ [x]) W' ∧ KeepsWalks W W')
    (W : World) (hJ : AbidesFrom W.heap.size J) (hm : W.cell? ⟨Bm, 0, none⟩ = some (.map (some b))) (hat : IM.At W b es) (h0 : J [] W) :
    CallsIn Fence.wide n Try.prog 111 #[.func (.yield l) #[] #[], .pointer (some ⟨Bm, 0, none⟩)] W fun e W' => (∃ v, e = .returned v) ∧ ∃ ss : List Int, ss.Perm (keysOf es) ∧ J ss W' := by
  refine callsIn_of_wp Try.func111 rfl trivial ?_ rfl
  simp only [Try.ntmps111, List.size_toArray, List.length_cons, List.length_nil, Nat.reduceAdd, Nat.reduceSub, Array.replicate_succ, Array.replicate_zero, List.push_toArray, List.append_toArray, List.nil_append, List.cons_append]
  gi_wp2_with (first
    | (gi_at_range; refine IM.wplIn_range _ rfl _ 91 rfl 3 4 Try.underlying91 b es rfl hat ?_; intro w0 hrg0 hg0 hs0; clear hs0)
    | gi_in)
  go_frame
  gi_loopw [3] (fun _ wr => ∃ (left : List (Int × Value)) (ss : List Int), Aside0 (IM.Rng wr b W.heap.size es left) ∧ Aside0 ((ss ++ keysOf left).Perm (keysOf es)) ∧ Aside0 (J ss wr))
    (fun _ wr => wr.rangeLeft b W.heap.size)
  case atStart => exact ⟨es, [], ⟨hrg0⟩, ⟨List.Perm.refl _⟩, ⟨hJ [] W w0 none h0 hg0 (fun r e => by cases e)⟩⟩
  case round =>
    clear hrg0 hg0
    obtain ⟨left, ss, HR, HP, HJs⟩ := hrel
    gi_wp2_with (first
      | (gi_at_next; refine IM.wplIn_next (β := Value) _ rfl _ rfl b W.heap.size es left rfl HR.out id (fun p _ => ⟨p.2, rfl⟩) ?_ ?_)
      | gi_in)
    · intro hl0
      subst hl0
      gi_wp2
      go_end0
      exact ⟨⟨_, rfl⟩, ss, by have := HP.out; rwa [keysOf, List.map_nil, List.append_nil] at this, HJs.out⟩
    · intro j x c w2 hj hrg2 hlt hg2 hs2 hen
      have hJ2 : J ss w2 := hJ ss wr w2 (some W.heap.size) HJs.out hg2 (fun r e => by cases e; exact ⟨Nat.le_refl _, HR.out.iter_walk⟩)
      have hpl := HP.out.length_eq
      have hps := IM.perm_step hj
      have hjl := (List.getElem?_eq_some_iff.1 hj).1
      obtain ⟨fn, tmps, assign, body, hy, hRo⟩ := hY ss x w2 hJ2 (by simp only [keysOf, List.length_append, List.length_map] at hpl; omega)
      have HLT := Aside0.mk hlt
      have HRG2 := Aside0.mk hrg2
      have HPS := Aside0.mk hps
      have HRo := Aside0.mk hRo
      clear hs2 hlt hrg2 hps hRo hj hpl hJ2 hg2 hjl
      gi_wp2
      refine HRo.out.mono ?_
      rintro e W3 ⟨rfl, hJ3, hk3⟩
      have hrg3 := HRG2.out.of_walks hk3
      have HRG3 := Aside0.mk hrg3
      have HJ3 := Aside0.mk hJ3
      clear hy hrg3 hJ3 hk3 hen
      gi_wp2
      go_roundw
      case rel => exact ⟨left.eraseIdx j, ss ++ [x], HRG3, ⟨by
        refine List.Perm.trans ?_ HP.out
        rw [List.append_assoc]
        exact List.Perm.append_left ss HPS.out⟩, HJ3⟩
      case measure => rw [HRG3.out.left_eq, HR.out.left_eq]; exact HLT.out
/-- maps.Keys: one box; the function value captures it. -/
theorem keys87_in (n : Nat) (mb : Option Nat) (w : World) :
    CallsIn Fence.wide n Try.prog 87 #[.map mb] w fun e w' => e = .returned (.func (.func 111) #[] #[.pointer (some ⟨w.heap.size, 0, none⟩)]) ∧ w' = w.alloc (.cells #[.map mb] 91) := by
  refine callsIn_of_wp Try.func87 rfl trivial ?_ rfl
  simp only [Try.ntmps87, List.size_toArray, List.length_cons, List.length_nil, Nat.reduceAdd, Nat.reduceSub, Array.replicate_succ, Array.replicate_zero, List.push_toArray, List.append_toArray, List.nil_append, List.cons_append]
  gi_wp2
  go_ret
  exact ⟨rfl, rfl⟩
theorem keys87_any (mb : Option Nat) (w : World) :
    Calls Try.prog 87 #[.map mb] w fun e w' => e = .returned (.func (.func 111) #[] #[.pointer (some ⟨w.heap.size, 0, none⟩)]) ∧ w' = w.alloc (.cells #[.map mb] 91) := (callsIn_wide (n := 1)).1 (keys87_in 1 mb w)
/-- slices.Sorted at what maps.Keys handed back: a row of the call's own, the keys, sorted. -/
theorem sorted87_any (Bm b : Nat) (es : List (Int × Value)) (w : World) (hm : w.cell? ⟨Bm, 0, none⟩ = some (.map (some b))) (hat : IM.At w b es) (hlen : es.length ≤ 1000000000000) :
    Calls Try.prog 52 #[.func (.func 111) #[] #[.pointer (some ⟨Bm, 0, none⟩)]] w fun e w' => ∃ v, e = .returned v ∧ w'.ownsRow w.heap.size 3 1 v es.length (nums .i64 ((keysOf es).mergeSort fun x y => decide (x ≤ y))) ∧ Below w.heap.size w w' := by
  have hBm : Bm < w.heap.size := World.block_lt_of_cell? w _ hm
  have hseq : SeqGives Fence.wide 2 Try.prog 111 #[.pointer (some ⟨Bm, 0, none⟩)] encZ (fun ss => ss.Perm (keysOf es)) es.length w := fun l J W hW hJ hY h0 =>
    keys111_in 2 (by decide) l Bm b es J hY W hJ (pw_cell_below hW hm) (hat.below hW hat.lt) h0
  have cS := AnyZI.sorted_in Try.sorted52 Fence.wide 5 trivial trivial trivial trivial rfl (by omega) (sortsK _) (enters_of Try.func42 (by kernel_rfl) rfl) 111 #[.pointer (some ⟨Bm, 0, none⟩)] trivial (enters_of Try.func111 (by kernel_rfl) rfl) _ _ (by unfold maxLen; omega) (by omega) w hseq
  change CallsIn _ _ Try.prog 52 _ _ _ at cS
  refine (callsIn_wide.1 cS).mono ?_
  rintro e w' ⟨v, ss, rfl, hp, ho, _, hb⟩
  refine ⟨v, rfl, ?_, hb⟩
  have e1 : (ss.mergeSort fun x y => decide (x ≤ y)) = (keysOf es).mergeSort fun x y => decide (x ≤ y) := mergeSort_of_perm_i hp
  have e2 : ss.length = es.length := by rw [hp.length_eq, keysOf, List.length_map]
  rw [e1, e2] at ho
  exact ho
end Go.Proofs.Ytnkgbnbbmcoiiaa.S
namespace Go.Proofs.Ytnkgbnbbmcoiiaa.S
open Go.RowKit Go.IM Go.Proofs.YtnkgbnbbmcoiiaaW.PrintWords Go.Proofs.YtnkgbnbbmcoiiaaW.PrintLast Go.Proofs.YtnkgbnbbmcoiiaaW.PrintMore
set_option linter.unusedVariables false
set_option linter.unusedSimpArgs false
/-! ### Sets of registers, as maps -/
/-- A map's keys are those of which P holds, each once; its values are true or false. -/
structure KS (es : List (Int × Value)) (P : Int → Prop) : Prop where mk ::
  nodup : (keysOf es).Nodup
  mem : ∀ r, r ∈ keysOf es ↔ P r
  bool : ∀ p ∈ es, ∃ c, p.2 = Value.bool c
theorem KS.nil : KS [] (fun _ => False) := ⟨List.nodup_nil, fun r => by simp [keysOf], fun p h => by cases h⟩
theorem KS.imp {es : List (Int × Value)} {P Q : Int → Prop} (h : KS es P) (hq : ∀ r, P r ↔ Q r) : KS es Q := ⟨h.nodup, fun r => (h.mem r).trans (hq r), h.bool⟩
theorem keys_st (es : List (Int × Value)) (k : Int) (v : Value) (r : Int) : r ∈ keysOf (st es k v) ↔ r = k ∨ r ∈ keysOf es := by
  induction es with
  | nil => simp [st, keysOf]
  | cons p es ih =>
    unfold st
    split
    · rename_i h
      simp only [keysOf, List.map_cons, List.mem_cons]
      rw [h]
      constructor
      · rintro (h | h); exact .inl h; exact .inr (.inr h)
      · rintro (h | h | h); exact .inl h; exact .inl h; exact .inr h
    · simp only [keysOf, List.map_cons, List.mem_cons] at ih ⊢
      rw [ih]
      constructor
      · rintro (h | h | h); exact .inr (.inl h); exact .inl h; exact .inr (.inr h)
      · rintro (h | h | h); exact .inr (.inl h); exact .inl h; exact .inr (.inr h)
theorem nodup_st {es : List (Int × Value)} (h : (keysOf es).Nodup) (k : Int) (v : Value) : (keysOf (st es k v)).Nodup := by
  induction es with
  | nil => simp [st, keysOf]
  | cons p es ih =>
    simp only [keysOf, List.map_cons, List.nodup_cons] at h
    unfold st
    split
    · rename_i e
      simp only [keysOf, List.map_cons, List.nodup_cons]
      rw [e]
      exact h
    · rename_i e
      simp only [keysOf, List.map_cons, List.nodup_cons]
      refine ⟨fun hm => ?_, ih h.2⟩
      have := (keys_st es k v p.1).1 hm
      rcases this with h1 | h1
      · exact e h1.symm
      · exact h.1 h1
theorem bool_st {es : List (Int × Value)} (h : ∀ p ∈ es, ∃ c, p.2 = Value.bool c) (k : Int) (b : Bool) : ∀ p ∈ st es k (.bool b), ∃ c, p.2 = Value.bool c := by
  induction es with
  | nil => intro p hp; simp [st] at hp; exact ⟨b, by rw [hp]⟩
  | cons q es ih =>
    intro p hp
    unfold st at hp
    split at hp
    · rcases List.mem_cons.1 hp with rfl | hp
      · exact ⟨b, rfl⟩
      · exact h p (List.mem_cons_of_mem _ hp)
    · rcases List.mem_cons.1 hp with rfl | hp
      · exact h _ List.mem_cons_self
      · exact ih (fun p hp => h p (List.mem_cons_of_mem _ hp)) p hp
theorem KS.st {es : List (Int × Value)} {P : Int → Prop} (h : KS es P) (k : Int) (b : Bool) : KS (IM.st es k (.bool b)) (fun r => r = k ∨ P r) :=
  ⟨nodup_st h.nodup k _, fun r => (keys_st es k _ r).trans (or_congr Iff.rfl (h.mem r)), bool_st h.bool k b⟩
theorem keys_dl {es : List (Int × Value)} (hn : (keysOf es).Nodup) (k r : Int) : r ∈ keysOf (dl es k) ↔ r ≠ k ∧ r ∈ keysOf es := by
  induction es with
  | nil => simp [dl, keysOf]
  | cons p es ih =>
    simp only [keysOf, List.map_cons, List.nodup_cons] at hn
    unfold dl
    split
    · rename_i e
      simp only [keysOf, List.map_cons, List.mem_cons]
      constructor
      · intro hm
        refine ⟨fun e2 => ?_, .inr hm⟩
        subst e2; rw [e] at hm
        exact hn.1 hm
      · rintro ⟨h1, h2 | h2⟩
        · exact absurd (h2.trans e.symm) h1
        · exact h2
    · rename_i e
      simp only [keysOf, List.map_cons, List.mem_cons] at ih ⊢
      rw [ih hn.2]
      constructor
      · rintro (h | ⟨h1, h2⟩)
        · exact ⟨fun e2 => e (e2 ▸ h), .inl h⟩
        · exact ⟨h1, .inr h2⟩
      · rintro ⟨h1, h2 | h2⟩
        · exact .inl h2
        · exact .inr ⟨h1, h2⟩
theorem dl_sub (es : List (Int × Value)) (k : Int) : (dl es k).Sublist es := by
  induction es with
  | nil => exact List.Sublist.refl _
  | cons p es ih =>
    unfold dl
    split
    · exact List.sublist_cons_self _ _
    · exact ih.cons_cons _
theorem KS.dl {es : List (Int × Value)} {P : Int → Prop} (h : KS es P) (k : Int) : KS (IM.dl es k) (fun r => r ≠ k ∧ P r) :=
  ⟨h.nodup.sublist ((dl_sub es k).map _), fun r => (keys_dl h.nodup k r).trans (and_congr Iff.rfl (h.mem r)), fun p hp => h.bool p ((dl_sub es k).subset hp)⟩
end Go.Proofs.Ytnkgbnbbmcoiiaa.S
