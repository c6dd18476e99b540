import Derived.Test.YtncpgclcbdgndaaOright
import Derived.Test.YtncpgclcbdgndaaScan
import Derived.Deep.Draws
namespace Go.Proofs.Ytncpgclcbdgndaa.S
open Go.RowKit Go.Proofs.YtncpgclcbdgndaaW.PrintWords Go.Proofs.YtncpgclcbdgndaaW.PrintLast Go.Proofs.YtncpgclcbdgndaaW.PrintMore
set_option linter.unusedVariables false
/-! ### Only some blocks have turned -/
structure Fr (w w' : World) (bs : List Nat) : Prop where
  os : w'.os = w.os
  tape : w'.tape = w.tape
  output : w'.output = w.output
  size : w.heap.size ≤ w'.heap.size
  block : ∀ i, i < w.heap.size → i ∉ bs → w'.heap[i]? = w.heap[i]?
theorem Fr.refl (w : World) (bs : List Nat) : Fr w w bs := ⟨rfl, rfl, rfl, Nat.le_refl _, fun _ _ _ => rfl⟩
theorem Fr.trans {a b c : World} {bs bs' : List Nat} (h : Fr a b bs) (k : Fr b c bs') (hb : ∀ i ∈ bs', i ∈ bs ∨ a.heap.size ≤ i) : Fr a c bs :=
  ⟨k.os.trans h.os, k.tape.trans h.tape, k.output.trans h.output, Nat.le_trans h.size k.size, fun i hi hn => (k.block i (Nat.lt_of_lt_of_le hi h.size) (fun hm => by
    rcases hb i hm with h1 | h1
    · exact hn h1
    · omega)).trans (h.block i hi hn)⟩
theorem Fr.of_grown {w w' : World} {b : Nat} (h : w.grownBy w' (some b)) {bs : List Nat} (hb : b ∈ bs) : Fr w w' bs := ⟨h.os, h.tape, h.output, h.size, fun i hi hn => h.block i hi (fun e => by cases e; exact hn hb)⟩
theorem Fr.of_below {w w' : World} (h : Below w.heap.size w w') (bs : List Nat) : Fr w w' bs := ⟨h.os, h.tape, h.output, h.size, fun i hi _ => h.block i hi⟩
theorem Fr.below {w w' : World} {bs : List Nat} {B : Nat} (h : Fr w w' bs) (hB : B ≤ w.heap.size) (hb : ∀ i ∈ bs, B ≤ i) : Below B w w' :=
  ⟨h.os, h.tape, h.output, h.size, fun k hk => h.block k (Nat.lt_of_lt_of_le hk hB) (fun hm => by have := hb k hm; omega)⟩
theorem Fr.set {w w' : World} {bs : List Nat} (h : Fr w w' bs) {p : Addr} (hp : p.block ∈ bs) (u : Value) : Fr w (w'.setCell p u) bs :=
  ⟨h.os, h.tape, h.output, by simpa [World.setCell] using h.size, fun i hi hn => (Below.heap_setCell w' p u i (fun e => hn (e ▸ hp))).trans (h.block i hi hn)⟩
/-! ### Sets of places -/
def akeys (a : List Nat) : List (Int × Value) := a.map fun i : Nat => ((i : Int), .bool true)
theorem st_akeys (a : List Nat) (k : Nat) (h : k ∉ a) : IM.st (akeys a) (k : Int) (.bool true) = akeys (a ++ [k]) := by
  induction a with
  | nil => rfl
  | cons x a ih =>
    simp only [List.mem_cons, not_or] at h
    have e : IM.st (akeys (x :: a)) (k : Int) (.bool true) = ((x : Int), .bool true) :: IM.st (akeys a) (k : Int) (.bool true) := by
      show (if (k : Int) = (x : Int) then _ else _) = _
      rw [if_neg (by omega)]
      rfl
    rw [e, ih h.2]
    rfl
theorem dl_akeys (a : List Nat) (k : Nat) : IM.dl (akeys a) (k : Int) = akeys (a.erase k) := by
  induction a with
  | nil => rfl
  | cons x a ih =>
    by_cases h : k = x
    · subst h
      show (if (k : Int) = (k : Int) then _ else _) = _
      rw [if_pos rfl, List.erase_cons_head]
      rfl
    · have e : IM.dl (akeys (x :: a)) (k : Int) = ((x : Int), .bool true) :: IM.dl (akeys a) (k : Int) := by
        show (if (k : Int) = (x : Int) then _ else _) = _
        rw [if_neg (by omega)]
        rfl
      rw [e, ih, List.erase_cons_tail (by simpa using Ne.symm h)]
      rfl
theorem akeys_get {a : List Nat} {j : Nat} {p : Int × Value} (h : (akeys a)[j]? = some p) : ∃ i, a[j]? = some i ∧ p = ((i : Int), .bool true) := by
  unfold akeys at h
  rw [List.getElem?_map] at h
  cases ha : a[j]? with
  | none => rw [ha] at h; cases h
  | some i => rw [ha] at h; cases h; exact ⟨i, rfl, rfl⟩
theorem akeys_erase (a : List Nat) (j : Nat) : (akeys a).eraseIdx j = akeys (a.eraseIdx j) := (IM.map_erase _ a j).symm
theorem akeys_len (a : List Nat) : (akeys a).length = a.length := by simp [akeys]
theorem eraseIdx_mem : ∀ {a : List Nat} (hn : a.Nodup) {j k : Nat} (hj : a[j]? = some k) (i : Nat), i ∈ a.eraseIdx j ↔ i ∈ a ∧ i ≠ k
  | [], _, j, k, hj, i => by simp at hj
  | x :: a, hn, 0, k, hj, i => by
    simp only [List.getElem?_cons_zero, Option.some.injEq] at hj
    subst hj
    rw [List.nodup_cons] at hn
    rw [List.eraseIdx_cons_zero]
    constructor
    · intro h
      exact ⟨by simp [h], fun e => hn.1 (e ▸ h)⟩
    · rintro ⟨h, hne⟩
      rcases List.mem_cons.1 h with h | h
      · exact absurd h hne
      · exact h
  | x :: a, hn, j + 1, k, hj, i => by
    rw [List.nodup_cons] at hn
    simp only [List.getElem?_cons_succ] at hj
    have ih := eraseIdx_mem hn.2 hj i
    have hk : k ∈ a := List.mem_of_getElem? hj
    rw [List.eraseIdx_cons_succ, List.mem_cons, List.mem_cons, ih]
    constructor
    · rintro (rfl | ⟨h1, h2⟩)
      · exact ⟨.inl rfl, fun e => hn.1 (e ▸ hk)⟩
      · exact ⟨.inr h1, h2⟩
    · rintro ⟨rfl | h1, h2⟩
      · exact .inl rfl
      · exact .inr ⟨h1, h2⟩
/-- The step of a loop over a set. -/
theorem wpl_next_set {P : Program} (w : World) {ops : Array Oper} {rest : List Oper} {o : Oper} {a : Act} {Q : Exit → Act → World → Prop} (hg : o.guard = none) (it : Operand) (hop : o.op = Op.next it false) (b r : Nat) (es : List (Int × Value)) (lf : List Nat)
    (hit : a.eval it = .pointer (some ⟨r, 0, none⟩)) (h : IM.Rng w b r es (akeys lf)) (hDone : Hid (lf = []) → wpList P ops Q rest (a.put o.dst (.tuple #[.bool false])) w)
    (hMore : ∀ (j i : Nat) (w' : World), Hid (lf[j]? = some i) → IM.Rng w' b r es (akeys (lf.eraseIdx j)) → Hid (w'.rangeLeft b r < w.rangeLeft b r) → w.grownBy w' (some r) →
      (Instr.entry (.pointer (some ⟨r, 0, none⟩))).run P w' = .ok (.tuple #[.int .i64 (i : Int), .bool true]) w' → wpList P ops Q rest (a.put o.dst (.tuple #[.bool true, .int .i64 (i : Int), .bool true])) w') : wpList P ops Q (o :: rest) a w := by
  refine IM.wpl_next w hg it hop b r es (akeys lf) hit h (fun b : Bool => Value.bool b) (fun p hp => by
    obtain ⟨j, hj⟩ := List.mem_iff_getElem?.1 hp
    obtain ⟨i, _, rfl⟩ := akeys_get hj
    exact ⟨true, rfl⟩) (fun h0 => hDone (by cases lf with
      | nil => rfl
      | cons x y => cases h0)) ?_
  intro j k b' w1 hj hr1 hlt hg1 hs1 hen
  obtain ⟨i, hji, hki⟩ := akeys_get hj
  cases hki
  rw [akeys_erase] at hr1
  exact hMore j i w1 hji hr1 (show _ < _ by rw [hr1.left_eq, h.left_eq, ← akeys_erase]; exact hlt) hg1 hen
/-- A row of the call's own, out of its block. -/
theorem C_of_blk {k : IntKind} {W : World} {g : Nat} {t : TypeId} (xs : List Int) (h : W.heap[g]? = some (.cells (xs.map (Value.int k)).toArray t (0, 0))) (hl : xs.length ≤ 9223372036854775807) : Kd.C (Kd.int k) W (some ⟨g, 0, none⟩) xs.length xs :=
  Kd.C_of_reads (enc := Value.int k) (d := (0 : Int)) (h1 := fun _ => rfl) ⟨rfl, hl, fun _ => ⟨_, rfl, fun j hj => by
    have := blk_cell h j
    have e : (⟨g, 0, none⟩ : Addr).add j = ⟨g, j, none⟩ := add_plain g j
    rw [e, this]
    simp [List.getD_eq_getElem?_getD, hj]⟩⟩
/-! ### The scanner -/
structure Sc (w0 w : World) (s : Nat) (A : Option Addr) (c : Nat) (l : List S38) (hb hc : Nat) (H : List S40) (mb : Nat) (act : List Nat) (sl : Int) : Prop where
  hs : w.heap[s]? = some (.cells #[.slice A l.length c, .slice (some ⟨hb, 0, none⟩) H.length hc, .map (some mb), .int .i64 sl] 48 (0, 0))
  hl0 : Kd.C k38 w0 A l.length l
  hh : w.heap[hb]? = some (.cells (H.flatMap fun x => [.int .i64 x.f0, .int .i64 x.f1]).toArray 40 (0, 0))
  hm : IM.At w mb (akeys act)
  hw : Below w0.heap.size w0 w
  ls : w0.heap.size ≤ s
  lh : w0.heap.size ≤ hb
  lm : w0.heap.size ≤ mb
section
variable {w0 w w' : World} {s : Nat} {A : Option Addr} {c : Nat} {l : List S38} {hb hc : Nat} {H : List S40} {mb : Nat} {act : List Nat} {sl : Int}
theorem Sc.hl (h : Sc w0 w s A c l hb hc H mb act sl) : Kd.C k38 w A l.length l := Kd.C_below h.hl0 h.hw
theorem Sc.ne_sm (h : Sc w0 w s A c l hb hc H mb act sl) : s ≠ mb := h.hm.not_cells h.hs
theorem Sc.ne_hm (h : Sc w0 w s A c l hb hc H mb act sl) : hb ≠ mb := h.hm.not_cells h.hh
theorem Sc.ne_sh (h : Sc w0 w s A c l hb hc H mb act sl) : s ≠ hb := blk_ne h.hs h.hh (by decide)
/-- What has been done to the heap leaves the scanner as it is. -/
theorem Sc.below (h : Sc w0 w s A c l hb hc H mb act sl) (hB : Below w.heap.size w w') : Sc w0 w' s A c l hb hc H mb act sl :=
  ⟨blk_below h.hs hB, h.hl0, blk_below h.hh hB, h.hm.below hB h.hm.lt, below_then h.hw h.hw.size hB, h.ls, h.lh, h.lm⟩
/-- Its map has turned. -/
theorem Sc.map (h : Sc w0 w s A c l hb hc H mb act sl) (hg : w.grownBy w' (some mb)) {act' : List Nat} (hm' : IM.At w' mb (akeys act')) : Sc w0 w' s A c l hb hc H mb act' sl :=
  ⟨blk_grown h.hs hg (fun e => h.ne_sm (by injection e)), h.hl0, blk_grown h.hh hg (fun e => h.ne_hm (by injection e)), hm', pw_below_grown h.hw _ h.hw.size hg (fun k e => by cases e; exact h.lm), h.ls, h.lh, h.lm⟩
theorem Sc.cells (h : Sc w0 w s A c l hb hc H mb act sl) :
    w.cell? ⟨s, 0, none⟩ = some (.slice A l.length c) ∧ w.cell? ⟨s, 1, none⟩ = some (.slice (some ⟨hb, 0, none⟩) H.length hc) ∧ w.cell? ⟨s, 2, none⟩ = some (.map (some mb)) ∧ w.cell? ⟨s, 3, none⟩ = some (.int .i64 sl) :=
  ⟨blk_cell h.hs 0, blk_cell h.hs 1, blk_cell h.hs 2, blk_cell h.hs 3⟩
end
end Go.Proofs.Ytncpgclcbdgndaa.S
