import Derived.Test.YtmfcmjcgajjiiaaDoorS0
import Derived.Test.YtmfcmjcgajjiiaaDoorShelf
import Derived.Lib.Builder
import Derived.Laws.Externs
import Derived.RangeFuncBox
namespace Go.Proofs.YtmfcmjcgajjiiaaDoor.S
open Go.RowKit Go.Proofs.YtmfcmjcgajjiiaaDoorW.PrintWords Go.Proofs.YtmfcmjcgajjiiaaDoorW.PrintLast Go.Proofs.YtmfcmjcgajjiiaaDoorW.PrintMore
set_option linter.unusedVariables false
/-! ### strings.Builder, at this seat -/
/-- What a builder's first cell holds: nothing, or its own address. -/
def BP (b : Nat) (p : Value) : Prop := p = .pointer none ∨ p = .pointer (some ⟨b, 0, none⟩)
/-- Block b is a builder that holds some bytes, in rows from block B on. -/
def BD (B b : Nat) (xs : List Int) (w : World) : Prop := B ≤ b ∧ ∃ p v, BP b p ∧ w.heap[b]? = some (.cells #[p, v] 62 (0, 0)) ∧ w.ownsRow B 5 1 v xs.length (nums .u8 xs)
/-- What is no builder and no row of bytes stays. -/
def Oth (w w' : World) : Prop := ∀ (g t : Nat) (cs : Array Value), w.heap[g]? = some (.cells cs t (0, 0)) → t ≠ 62 → t ≠ 5 → w'.heap[g]? = some (.cells cs t (0, 0))
theorem Oth.of_box {w w' : World} {b : Nat} {p u : Value} (hb : w.heap[b]? = some (.cells #[p, u] 62 (0, 0))) (hg : w.grownBy w' (some b)) : Oth w w' := fun g t cs h h1 _ =>
  blk_grown h hg (fun e => by cases e; rw [hb] at h; injection h with h; injection h with _ h; exact h1 h.symm)
theorem Oth.of_row {w w' : World} {base n : Nat} {v : Value} {xs : List Value} (ho : w.ownsRow base 5 1 v n xs) (hg : w.grownBy w' v.ownBlock) : Oth w w' := fun g t cs h _ h2 =>
  blk_grown h hg (fun e => by obtain ⟨cells, hc⟩ := own_typed ho g e.symm; rw [hc] at h; injection h with h; injection h with _ h; exact h2 h.symm)
theorem Oth.trans {a b c : World} (h : Oth a b) (k : Oth b c) : Oth a c := fun g t cs h0 h1 h2 => k g t cs (h g t cs h0 h1 h2) h1 h2
theorem Oth.alloc (w : World) (o : Obj) : Oth w (w.alloc o) := fun g t cs h _ _ => blk_alloc h o
theorem grownBy_setCellB (W : World) (b i : Nat) (v : Value) : W.grownBy (W.setCell ⟨b, i, none⟩ v) (some b) :=
  ⟨rfl, rfl, rfl, by simp [World.setCell], fun k _ hk => Below.heap_setCell _ _ _ k (fun e => hk (by rw [e]))⟩
theorem liesB : liesAt Tryd.prog Tryd.prog.depth 62 (2 / Tryd.prog.cellsOf 62) 0 62 1 = true := by kernel_rfl
theorem sizeB : (Tryd.prog.info? 62).map (·.size) = some 2 := by kernel_rfl
theorem ext64 (args : Array Value) (w : World) : (callFunc 64 args).run Tryd.prog w = ((Extern.AbiNoEscape.same args).run Tryd.prog w).andThen fun v w' => .ok (.value v) w' :=
  run_callFunc_extern Tryd.func64 (by kernel_rfl) (by kernel_rfl) (by kernel_rfl) (e := Extern.AbiNoEscape.same) (by kernel_rfl) args w
set_option maxHeartbeats 4000000 in
set_option maxRecDepth 100000 in
theorem cc_any (b : Nat) (p v : Value) (w : World) (hp : BP b p) (hb : w.heap[b]? = some (.cells #[p, v] 62 (0, 0))) :
    Calls Tryd.prog 47 #[.pointer (some ⟨b, 0, none⟩)] w fun e w' => e = .returned (.tuple #[]) ∧ w'.heap[b]? = some (.cells #[.pointer (some ⟨b, 0, none⟩), v] 62 (0, 0)) ∧ w.grownBy w' (some b) := by
  have hu62 := Tryd.underlying62
  have hu59 := Tryd.underlying59
  obtain ⟨j, hj, hjs⟩ := Option.map_eq_some_iff.1 sizeB
  have c0 := blk_cell hb 0
  simp only [List.getElem?_toArray, List.getElem?_cons_zero] at c0
  have f0 := blk_frozen hb 0
  have HB := Aside0.mk hb
  rcases hp with rfl | rfl
  · have hsh : w.shape? b = some (62, 2) := by simp [World.shape?, hb]
    have r1 := Lib.run_to_unsafe w ⟨b, 0, none⟩ Tryd.underlying59 Tryd.underlying95 hj (by rw [hjs]; decide) hsh (Nat.zero_lt_succ 1)
    have r2 := ext64 #[.pointer (some ⟨b, 0, none⟩)] w
    rw [Lib.run_noEscape] at r2
    simp only [Result.andThen_ok] at r2
    have r3 := Lib.run_from_unsafe w ⟨b, 0, none⟩ Tryd.underlying95 Tryd.underlying59 hj hsh liesB
    clear hb hsh hj hjs
    go_enter Tryd.func47, Tryd.ntmps47
    go_wp2
    go_end0
    have h2 := blk_set HB.out 0 (.pointer (some ⟨b, 0, none⟩))
    simp only [List.setIfInBounds_toArray, List.set_cons_zero] at h2
    exact ⟨rfl, h2, grownBy_setCell' w b _⟩
  · have r1 := Lib.run_neq_ptr_same (P := Tryd.prog) w ⟨b, 0, none⟩ Tryd.underlying59 hj
    clear hb hj hjs
    go_enter Tryd.func47, Tryd.ntmps47
    go_wp2
    go_end0
    exact ⟨rfl, HB.out, World.grownBy.refl _ _⟩
theorem info5' : (Tryd.prog.info? 5).map (fun i => (i.zero, i.size, i.bytes)) = some (some (.int .u8 0), 1, 1) := by kernel_rfl
theorem BD.box {B b : Nat} {xs : List Int} {w : World} (h : BD B b xs w) : ∃ p v, w.heap[b]? = some (.cells #[p, v] 62 (0, 0)) := by
  obtain ⟨_, p, v, _, hb, _⟩ := h
  exact ⟨p, v, hb⟩
theorem row_grown {B b : Nat} {v u : Value} {xs : List Int} {p : Value} {w w' : World} (ho : w.ownsRow B 5 1 v xs.length (nums .u8 xs)) (hb : w.heap[b]? = some (.cells #[p, u] 62 (0, 0))) (hg : w.grownBy w' (some b)) : w'.ownsRow B 5 1 v xs.length (nums .u8 xs) := by
  refine own_other ho hg (.inr (fun e => ?_))
  obtain ⟨cells, hc⟩ := own_typed ho b e
  rw [hb] at hc
  injection hc with hc
  injection hc with _ hc
  exact absurd hc (by decide)
set_option maxHeartbeats 4000000 in
set_option maxRecDepth 100000 in
/-- WriteString. -/
theorem ws_any (B b : Nat) (xs : List Int) (s : ByteArray) (w : World) (h : BD B b xs w) (hBw : B ≤ w.heap.size) (hl : xs.length + s.size ≤ 140737488355328) :
    Calls Tryd.prog 27 #[.pointer (some ⟨b, 0, none⟩), .string s] w fun e w' => e = .returned (.tuple #[.int .i64 s.size, .nilIface]) ∧ BD B b (xs ++ bytesOf s) w' ∧ Below B w w' ∧ Oth w w' := by
  have hu62 := Tryd.underlying62
  have hu59 := Tryd.underlying59
  obtain ⟨hB, p, v, hp, hb, ho⟩ := h
  have HP := Aside0.mk hp
  have HBX := Aside0.mk hb
  have HO := Aside0.mk ho
  have HL := Aside0.mk hl
  clear hp hb ho hl
  go_enter Tryd.func27, Tryd.ntmps27
  go_wp2_with (first
    | (go_at_call 47; refine (cc_any b p v w HP.out HBX.out).mono ?_; rintro e w1 ⟨rfl, hb1, hg1⟩; have c0 := blk_cell hb1 0; have c1 := blk_cell hb1 1; simp only [List.getElem?_toArray, List.getElem?_cons_zero, List.getElem?_cons_succ] at c0 c1; have HB1 := Aside0.mk hb1; have HO1 := Aside0.mk (row_grown HO.out HBX.out hg1); have HBW1 := Aside0.mk (pw_below_grown (Below.refl B w) (some b) hBw hg1 (fun k e => by cases e; exact hB)); have HT1 := Aside0.mk (Oth.of_box HBX.out hg1); clear hb1 hg1)
    | (at_builtin; refine print_append_str (w0 := w1) B rfl (.tmp 12) (.tmp 13) 60 9 5 rfl Tryd.underlying60 Tryd.underlying9 info5' v xs s rfl rfl HO1.out (Below.refl _ _) (Nat.le_trans hBw HBW1.out.size) HL.out ?_; intro v2 w2 ho2 hb2 hg2; have hbx := blk_grown HB1.out hg2 (fun e => by obtain ⟨cells, hc⟩ := own_typed HO1.out b e.symm; rw [HB1.out] at hc; injection hc with hc; injection hc with _ hc; exact absurd hc (by decide)); have d0 := blk_cell hbx 0; have d1 := blk_cell hbx 1; have f1 := blk_frozen hbx 1; simp only [List.getElem?_toArray, List.getElem?_cons_zero, List.getElem?_cons_succ] at d0 d1; have HBX2 := Aside0.mk hbx; have HO2 := Aside0.mk ho2; have HBW2 := Aside0.mk hb2; have HT2 := Aside0.mk (Oth.of_row HO1.out hg2); clear hbx ho2 hb2 hg2; obtain ⟨A2, k2, hv2⟩ := own_slice HO2.out; subst hv2))
  have hz := blk_set HBX2.out 1 (.slice A2 (xs ++ bytesOf s).length k2)
  simp only [List.setIfInBounds_toArray, List.set_cons_zero, List.set_cons_succ] at hz
  have hBz := (HBW1.out.trans HBW2.out).setCell (p := ⟨b, 1, none⟩) hB (.slice A2 (xs ++ bytesOf s).length k2)
  have hoz := row_grown HO2.out HBX2.out (w' := w2.setCell ⟨b, 1, none⟩ (.slice A2 (xs ++ bytesOf s).length k2)) ⟨rfl, rfl, rfl, by simp [World.setCell], fun i _ hi => Below.heap_setCell _ _ _ i (fun e => hi (by rw [e]))⟩
  rw [List.length_append] at hz hBz hoz
  refine bodyPost_ret (v := .tuple #[.int .i64 s.size, .nilIface]) (by simp [results, Tryd.results27, go_sem]) rfl ⟨rfl, ⟨hB, _, _, .inr rfl, hz, ?_⟩, hBz, (HT1.out.trans HT2.out).trans (Oth.of_box HBX2.out (grownBy_setCellB _ _ _ _))⟩
  rw [List.length_append]
  exact hoz
set_option maxHeartbeats 4000000 in
set_option maxRecDepth 100000 in
/-- WriteByte. -/
theorem wb_any (B b : Nat) (xs : List Int) (c : Int) (w : World) (h : BD B b xs w) (hBw : B ≤ w.heap.size) (hl : xs.length + 1 ≤ 140737488355328) :
    Calls Tryd.prog 30 #[.pointer (some ⟨b, 0, none⟩), .int .u8 c] w fun e w' => e = .returned .nilIface ∧ BD B b (xs ++ [c]) w' ∧ Below B w w' ∧ Oth w w' := by
  have hu62 := Tryd.underlying62
  have hu59 := Tryd.underlying59
  obtain ⟨hB, p, v, hp, hb, ho⟩ := h
  have HP := Aside0.mk hp
  have HBX := Aside0.mk hb
  have HO := Aside0.mk ho
  have HL := Aside0.mk hl
  clear hp hb ho hl
  go_enter Tryd.func30, Tryd.ntmps30
  go_wp2_with (first
    | (go_at_call 47; refine (cc_any b p v w HP.out HBX.out).mono ?_; rintro e w1 ⟨rfl, hb1, hg1⟩; have c0 := blk_cell hb1 0; have c1 := blk_cell hb1 1; simp only [List.getElem?_toArray, List.getElem?_cons_zero, List.getElem?_cons_succ] at c0 c1; have HB1 := Aside0.mk hb1; have HO1 := Aside0.mk (row_grown HO.out HBX.out hg1); have HBW1 := Aside0.mk (pw_below_grown (Below.refl B w) (some b) hBw hg1 (fun k e => by cases e; exact hB)); have HT1 := Aside0.mk (Oth.of_box HBX.out hg1); clear hb1 hg1)
    | (at_builtin; refine print_append_num (w0 := w1) B rfl (.tmp 11) (.tmp 13) 60 5 .u8 1 rfl Tryd.underlying60 (by kernel_rfl) (by decide) v xs c rfl rfl HO1.out (Below.refl _ _) (Nat.le_trans hBw HBW1.out.size) (by have := HL.out; omega) ?_; intro v2 w2 ho2 hb2 hg2 hat2; have hbx := blk_grown HB1.out hg2 (fun e => by obtain ⟨cells, hc⟩ := own_typed HO1.out b e.symm; rw [HB1.out] at hc; injection hc with hc; injection hc with _ hc; exact absurd hc (by decide)); have d0 := blk_cell hbx 0; have d1 := blk_cell hbx 1; have f1 := blk_frozen hbx 1; simp only [List.getElem?_toArray, List.getElem?_cons_zero, List.getElem?_cons_succ] at d0 d1; have HBX2 := Aside0.mk hbx; have HO2 := Aside0.mk ho2; have HBW2 := Aside0.mk hb2; have HT2 := Aside0.mk (Oth.of_row HO1.out hg2); clear hbx ho2 hb2 hg2 hat2; obtain ⟨A2, k2, hv2⟩ := own_slice HO2.out; subst hv2))
  have hz := blk_set HBX2.out 1 (.slice A2 (xs ++ [c]).length k2)
  simp only [List.setIfInBounds_toArray, List.set_cons_zero, List.set_cons_succ] at hz
  have hBz := (HBW1.out.trans HBW2.out).setCell (p := ⟨b, 1, none⟩) hB (.slice A2 (xs ++ [c]).length k2)
  have hoz := row_grown HO2.out HBX2.out (w' := w2.setCell ⟨b, 1, none⟩ (.slice A2 (xs ++ [c]).length k2)) ⟨rfl, rfl, rfl, by simp [World.setCell], fun i _ hi => Below.heap_setCell _ _ _ i (fun e => hi (by rw [e]))⟩
  have el : (xs ++ [c]).length = xs.length + 1 := by simp
  rw [el] at hz hBz hoz
  refine bodyPost_ret (v := .nilIface) (by simp [results, Tryd.results30, go_sem]) rfl ⟨rfl, ⟨hB, _, _, .inr rfl, hz, ?_⟩, hBz, (HT1.out.trans HT2.out).trans (Oth.of_box HBX2.out (grownBy_setCellB _ _ _ _))⟩
  rw [el]
  exact hoz
/-- A fresh builder. -/
theorem bd_new (w : World) : BD w.heap.size w.heap.size [] (w.alloc (.cells #[.pointer none, .slice none 0 0] 62)) :=
  ⟨Nat.le_refl _, _, _, .inl rfl, blk_new w _, own_nil _ _ _ _⟩
/-- String. -/
theorem bs_any (B b : Nat) (s : ByteArray) (w : World) (h : BD B b (bytesOf s) w) (hBw : B ≤ w.heap.size) :
    Calls Tryd.prog 31 #[.pointer (some ⟨b, 0, none⟩)] w fun e w' => e = .returned (.string s) ∧ Below B w w' := by
  obtain ⟨hB, p, v, hp, hb, ho⟩ := h
  have e1 : nums .u8 (bytesOf s) = Lib.byteCells s.data.toList := by simp [nums, bytesOf, Lib.byteCells]
  have hat : ∀ q, q = p → Lib.BuilderAt 62 5 B b q (Lib.byteCells s.data.toList) w := fun q e => by
    subst e
    refine ⟨hB, v, hb, ?_, fun e => ?_⟩
    · rw [← e1, nums_length]; exact ho
    · obtain ⟨cells, hc⟩ := own_typed ho b e
      rw [hb] at hc
      injection hc with hc
      injection hc with _ hc
      exact absurd hc (by decide)
  have := Tryd.Builder_String_any B b s.data.toList w (by
    rcases hp with rfl | rfl
    · exact .inl (hat _ rfl)
    · exact .inr (hat _ rfl)) hBw
  exact this
theorem BD.below {B b : Nat} {xs : List Int} {w w' : World} (h : BD B b xs w) (hb : Below w.heap.size w w') : BD B b xs w' := by
  obtain ⟨hB, p, v, hp, hx, ho⟩ := h
  exact ⟨hB, p, v, hp, blk_below hx hb, pw_own_below ho hb⟩
end Go.Proofs.YtmfcmjcgajjiiaaDoor.S
