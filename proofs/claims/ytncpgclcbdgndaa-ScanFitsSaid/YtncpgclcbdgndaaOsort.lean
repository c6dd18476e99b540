import Derived.Test.YtncpgclcbdgndaaOcmp
namespace Go.Proofs.Ytncpgclcbdgndaa.S
open Go.RowKit Go.Proofs.YtncpgclcbdgndaaW.PrintWords Go.Proofs.YtncpgclcbdgndaaW.PrintLast Go.Proofs.YtncpgclcbdgndaaW.PrintMore
set_option linter.unusedVariables false
/-! ### The sort of the places -/
theorem cmp3_lt {l : List S38} {i k : Nat} : cmp3 l i k < 0 ↔ (rd_T38 l (i : Int)).f1 < (rd_T38 l (k : Int)).f1 ∨ ((rd_T38 l (i : Int)).f1 = (rd_T38 l (k : Int)).f1 ∧ ((rd_T38 l (i : Int)).f2 < (rd_T38 l (k : Int)).f2 ∨ ((rd_T38 l (i : Int)).f2 = (rd_T38 l (k : Int)).f2 ∧ (rd_T38 l (i : Int)).f0 < (rd_T38 l (k : Int)).f0))) := by
  unfold cmp3 or3 cmpi
  generalize (rd_T38 l (i : Int)).f0 = a0
  generalize (rd_T38 l (i : Int)).f1 = a1
  generalize (rd_T38 l (i : Int)).f2 = a2
  generalize (rd_T38 l (k : Int)).f0 = b0
  generalize (rd_T38 l (k : Int)).f1 = b1
  generalize (rd_T38 l (k : Int)).f2 = b2
  (repeat' split) <;> omega
def encN {n : Nat} (i : Fin n) : Value := .int .i64 (i.val : Int)
def cfN (l : List S38) (i k : Fin l.length) : Int := cmp3 l i.val k.val
theorem cfN_swo (l : List S38) : Sort.SWO (ltOf (cfN l)) := by
  constructor
  · intro x
    unfold ltOf cfN
    rw [decide_eq_false_iff_not, cmp3_lt]
    omega
  · intro x y z
    unfold ltOf cfN
    simp only [decide_eq_true_eq]
    rw [cmp3_lt, cmp3_lt, cmp3_lt]
    omega
  · intro x y z
    unfold ltOf cfN
    simp only [decide_eq_false_iff_not]
    rw [cmp3_lt, cmp3_lt, cmp3_lt]
    omega
theorem heap_row {α : Type} [Inhabited α] (enc : α → Value) {w : World} {g n : Nat} {os : Array Obj} {cur : Array Value} {e : TypeId} {fr : Nat × Nat} (d : Array α) (hb : w.heap[g]? = some (.cells cur e fr)) :
    (sortWorld enc w g 0 n d os).heap[g]? = some (.cells (Sort.putCells enc 0 d cur) e fr) := by
  have hg : g < w.heap.size := (Array.getElem?_eq_some_iff.1 hb).1
  unfold sortWorld
  rw [Sort.heap_grow_old _ _ (by simpa [Sort.putRow, Sort.mapBlock, Sort.ahead] using hg)]
  simp [Sort.putRow, Sort.mapBlock, Sort.ahead, Array.getElem?_modify, hb, Sort.onCells]
theorem grown_row {α : Type} [Inhabited α] (enc : α → Value) {w : World} {g n : Nat} {os : Array Obj} (d : Array α) : w.grownBy (sortWorld enc w g 0 n d os) (some g) := by
  unfold sortWorld
  refine ⟨rfl, rfl, rfl, by simp [Sort.putRow, Sort.mapBlock, Sort.ahead], fun k hk hne => ?_⟩
  rw [Sort.heap_grow_old _ _ (by simpa [Sort.putRow, Sort.mapBlock, Sort.ahead] using hk)]
  have : g ≠ k := fun e => hne (by rw [e])
  simp [Sort.putRow, Sort.mapBlock, Sort.ahead, Array.getElem?_modify, this]
theorem take_row {α : Type} [Inhabited α] (enc : α → Value) (cur : Array Value) (d : Array α) (h : d.size ≤ cur.size) : (Sort.putCells enc 0 d cur).toList.take d.size = d.toList.map enc := by
  apply List.ext_getElem?
  intro j
  by_cases hj : j < d.size
  · rw [List.getElem?_take_of_lt hj, Array.getElem?_toList]
    simp [Sort.putCells, hj, show j < cur.size by omega]
  · rw [List.getElem?_take_eq_none (by omega), List.getElem?_eq_none (by simp; omega)]
theorem enters40 : ∀ args w, (callFunc 40 args).run Try.prog w = .ok (.enter 40 args) w := enters_of Try.func40 (by kernel_rfl) rfl
set_option maxHeartbeats 4000000 in
theorem ins_none (p : Option Addr) (cap : Nat) (fv : Value) (w : World) : Calls Try.prog 63 #[.slice p 0 cap, .int .i64 0, .int .i64 0, fv] w fun e w' => e = .returned (.tuple #[]) ∧ w' = w := by
  go_enter Try.func63, Try.ntmps63
  go_wp2
  refine wp_loop_rounds 1 ?_
  rw [rounds_succ]
  go_wp2
  go_end0
  exact ⟨rfl, rfl⟩
set_option maxHeartbeats 4000000 in
theorem pdq_none (p : Option Addr) (cap : Nat) (lim : Int) (fv : Value) (w : World) : Calls Try.prog 50 #[.slice p 0 cap, .int .i64 0, .int .i64 0, .int .i64 lim, fv] w fun e w' => e = .returned (.tuple #[]) ∧ w' = w := by
  go_enter Try.func50, Try.ntmps50
  go_wp2
  refine wp_loop_rounds 1 ?_
  rw [rounds_succ]
  go_wp2_with (go_at_call 63; refine (ins_none _ _ _ _).mono ?_; rintro e w' ⟨rfl, rfl⟩)
  (try simp only [Exit.inBlock, Exit.then]); refine bodyPost_ret (results_none rfl _ _ _) rfl ?_
  exact ⟨rfl, rfl⟩
set_option maxHeartbeats 4000000 in
theorem sort_none (p : Option Addr) (cap : Nat) (fv : Value) (w : World) : Calls Try.prog 39 #[.slice p 0 cap, fv] w fun e w' => e = .returned (.tuple #[]) ∧ w' = w := by
  have hl : ∀ W, Calls Try.prog 49 #[.int .u64 0] W fun e w' => e = .returned (.int .i64 (Lib.bitLen 0 : Nat)) ∧ w' = W := fun W => Any.bits_Len (SlLaysF0.n15.bits (P := Try.prog) (ρ := Try.laysSlF6_f39_ren) { Try.laysSlF6_f39 with }) 0 W (by omega) (by omega)
  go_enter Try.func39, Try.ntmps39
  go_wp2_with (first | (go_at_call 49; refine (hl _).mono ?_; rintro e w' ⟨rfl, rfl⟩) | (go_at_call 50; refine (pdq_none _ _ _ _ _).mono ?_; rintro e w' ⟨rfl, rfl⟩))
  go_end0
  exact ⟨rfl, rfl⟩
theorem extract_all {α : Type} (d : Array α) (n : Nat) (h : d.size = n) : d.extract 0 n = d := by
  subst h
  simp
theorem sort_any (w0 W : World) (s bx : Nat) (A : Option Addr) (c : Nat) (l : List S38) (hl0 : Kd.C k38 w0 A l.length l) (hB : Below w0.heap.size w0 W) (hb : W.heap[bx]? = some (.cells #[.pointer (some ⟨s, 0, none⟩)] 45 (0, 0)))
    (x1 x2 x3 : Value) (hs : W.heap[s]? = some (.cells #[.slice A l.length c, x1, x2, x3] 48 (0, 0))) (base : Nat) (h0 : w0.heap.size ≤ base) (hbx : bx < base) (hsx : s < base) (v : Value) (HO : W.ownsRow base 3 1 v l.length (nums .i64 ((List.range l.length).map fun i : Nat => (i : Int)))) (hn : l.length < 4611686018427387904) :
    Calls Try.prog 39 #[v, .func (.func 40) #[] #[.pointer (some ⟨bx, 0, none⟩)]] W fun e w' => e = .returned (.tuple #[]) ∧ ∃ ord : List Nat, ord.Perm (List.range l.length) ∧ ord.Pairwise (fun i j => ¬ cmp3 l j i < 0) ∧ w'.ownsRow base 3 1 v l.length (nums .i64 (ord.map fun i : Nat => (i : Int))) ∧ W.grownBy w' v.ownBlock := by
  by_cases hz : l.length = 0
  · obtain ⟨A', c', rfl⟩ := own_slice HO
    rw [hz] at HO ⊢
    refine (sort_none A' c' _ W).mono ?_
    rintro e w' ⟨rfl, rfl⟩
    exact ⟨rfl, [], by simp, by simp, by simpa using HO, World.grownBy.refl _ _⟩
  · have hpos : 0 < l.length := Nat.pos_of_ne_zero hz
    have ih : Inhabited (Fin l.length) := ⟨⟨0, hpos⟩⟩
    rcases HO.2 with ⟨_, h1⟩ | ⟨g, cap, cur, hv, hg, hblk, hcap, hmax, hsz, htk⟩
    · exact absurd h1 hz
    · subst hv
      have hd : ((List.finRange l.length).toArray).size = l.length := by simp
      have hmap : (List.finRange l.length).map encN = nums .i64 ((List.range l.length).map fun i : Nat => (i : Int)) := by
        unfold nums encN
        apply List.ext_getElem (by simp)
        intro j h1 h2
        simp
      have hlt : g < W.heap.size := (Array.getElem?_eq_some_iff.1 hblk).1
      have hH : Sort.Holds encN W g 0 (List.finRange l.length).toArray := by
        intro j hj
        rw [hd] at hj
        refine ⟨?_, by simp [World.frozen?, hblk]⟩
        have h2 : (cur.toList.take l.length)[j]? = ((List.finRange l.length).map encN)[j]? := by rw [hmap, ← htk, Nat.mul_one]
        rw [List.getElem?_take_of_lt hj] at h2
        simp only [World.cell?, hblk, Nat.zero_add]
        simp only [Option.isSome_none, Bool.false_eq_true, if_false]
        rw [← Array.getElem?_toList, h2]
        simp [hj]
      have hcmp : CmpLays1 Try.prog 40 #[.pointer (some ⟨bx, 0, none⟩)] encN (cfN l) g 0 (List.finRange l.length).toArray.size W := by
        intro m os dk hdk x y
        have hgr := grown_row (enc := encN) (w := W) (g := g) (n := m) (os := os) dk
        have hbx' := blk_grown hb hgr (fun e => by injection e with e; omega)
        have hs' := blk_grown hs hgr (fun e => by injection e with e; omega)
        have hl' := Kd.C_below hl0 (pw_below_grown hB _ hB.size hgr (fun k e => by cases e; omega))
        exact cmp_any s bx A c l _ hl' (blk_cell hbx' 0) (blk_cell hs' 0) x.val y.val x.isLt y.isLt
      have hS := Try.slices_SortFunc (encN (n := l.length)) (fun _ => rfl) (cfN l) (cfN_swo l) 40 #[.pointer (some ⟨bx, 0, none⟩)] g 0 cap (List.finRange l.length).toArray W enters40 hcmp hH hlt (by rw [hd]; exact hn)
      rw [hd] at hS
      refine hS.mono ?_
      rintro e w' ⟨rfl, d', m, os, hP, hSo, rfl⟩
      have hd' : d'.size = l.length := hP.1.trans hd
      have hperm : d'.toList.Perm (List.finRange l.length) := by
        have h2 := hP.2.2
        rwa [extract_all _ _ hd', extract_all _ _ hd] at h2
      refine ⟨rfl, d'.toList.map Fin.val, ?_, ?_, ?_, grown_row _ d'⟩
      · have := hperm.map Fin.val
        rwa [show (List.finRange l.length).map Fin.val = List.range l.length by apply List.ext_getElem (by simp); intro j h1 h2; simp] at this
      · rw [List.pairwise_map, List.pairwise_iff_getElem]
        intro i j hi hj hij
        have h2 := hSo i j (Nat.zero_le _) hij (by simpa [hd'] using hj)
        unfold ltOf cfN at h2
        simp only [decide_eq_false_iff_not] at h2
        rw [getElem!_pos d' i (by simpa using hi), getElem!_pos d' j (by simpa using hj)] at h2
        simpa using h2
      · refine ⟨by simp [nums, hd'], .inr ⟨g, cap, _, rfl, hg, heap_row _ d' hblk, hcap, hmax, by simp [Sort.putCells, hsz], ?_⟩⟩
        have h2 := take_row encN cur d' (by rw [hd', hsz]; omega)
        rw [hd'] at h2
        rw [Nat.mul_one, h2]
        simp [nums, encN, Function.comp_def]
end Go.Proofs.Ytncpgclcbdgndaa.S
