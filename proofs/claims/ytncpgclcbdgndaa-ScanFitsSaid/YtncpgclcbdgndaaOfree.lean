import Derived.Test.YtncpgclcbdgndaaOexp
import Derived.Test.YtncpgclcbdgndaaS3
import Derived.Outline
namespace Go.Proofs.Ytncpgclcbdgndaa.S
open Go.RowKit Go.Proofs.YtncpgclcbdgndaaW.PrintWords Go.Proofs.YtncpgclcbdgndaaW.PrintLast Go.Proofs.YtncpgclcbdgndaaW.PrintMore
set_option linter.unusedVariables false
/-! ### free -/
def c40 (H : List S40) : List Value := H.flatMap fun x => [.int .i64 x.f0, .int .i64 x.f1]
theorem c40_at : ∀ (H : List S40) (i : Nat) (h : i < H.length), (c40 H)[i * 2]? = some (.int .i64 H[i].f0) ∧ (c40 H)[i * 2 + 1]? = some (.int .i64 H[i].f1)
  | x :: H, 0, _ => ⟨rfl, rfl⟩
  | x :: H, i + 1, h => by
    have ih := c40_at H i (by simpa using h)
    have e : c40 (x :: H) = .int .i64 x.f0 :: .int .i64 x.f1 :: c40 H := rfl
    rw [e, show (i + 1) * 2 = i * 2 + 1 + 1 by omega, List.getElem?_cons_succ, List.getElem?_cons_succ, show i * 2 + 1 + 1 + 1 = i * 2 + 1 + 1 + 1 from rfl, List.getElem?_cons_succ, List.getElem?_cons_succ]
    exact ih
theorem c40_len : ∀ H : List S40, (c40 H).length = 2 * H.length
  | [] => rfl
  | x :: H => by
    have e : c40 (x :: H) = .int .i64 x.f0 :: .int .i64 x.f1 :: c40 H := rfl
    rw [e, List.length_cons, List.length_cons, c40_len H, List.length_cons]
    omega
theorem rd40 {l : List S40} {j : Nat} (h : j < l.length) : rd_T40 l (j : Int) = l[j] := by
  unfold rd_T40
  simp [List.getD_eq_getElem?_getD, h]
/-- Which registers are taken, of those that were asked. -/
def tkn (hr : Nat → Int) (a lf : List Nat) : List Bool := (List.range 16).map fun r : Nat => a.any fun i => !lf.contains i && hr i == (r : Int)
theorem tkn_start (hr : Nat → Int) (a : List Nat) : tkn hr a a = List.replicate 16 false := by
  unfold tkn
  rw [List.eq_replicate_iff]
  refine ⟨by simp, fun b hb => ?_⟩
  simp only [List.mem_map] at hb
  obtain ⟨r, _, rfl⟩ := hb
  rw [List.any_eq_false]
  intro i hi
  simp [hi]
theorem tkn_set {hr : Nat → Int} {a lf : List Nat} {j i r : Nat} (hn : lf.Nodup) (hj : lf[j]? = some i) (hi : i ∈ a) (hr' : hr i = (r : Int)) : (tkn hr a lf).set r true = tkn hr a (lf.eraseIdx j) := by
  unfold tkn
  apply List.ext_getElem (by simp)
  intro q h1 h2
  simp only [List.length_map, List.length_range] at h2
  rw [List.getElem_set]
  simp only [List.getElem_map, List.getElem_range]
  by_cases hq : r = q
  · subst hq
    rw [if_pos rfl]
    symm
    rw [List.any_eq_true]
    refine ⟨i, hi, ?_⟩
    have hnm : i ∉ lf.eraseIdx j := fun h => ((eraseIdx_mem hn hj i).1 h).2 rfl
    simp [hnm, hr']
  · rw [if_neg hq, Bool.eq_iff_iff]
    simp only [List.any_eq_true, Bool.and_eq_true, Bool.not_eq_true', beq_iff_eq]
    constructor
    · rintro ⟨x, hx, h1, h2⟩
      refine ⟨x, hx, ?_, h2⟩
      rw [Bool.eq_false_iff] at h1 ⊢
      intro h
      exact h1 (List.contains_iff_mem.2 ((eraseIdx_mem hn hj x).1 (List.contains_iff_mem.1 h)).1)
    · rintro ⟨x, hx, h1, h2⟩
      refine ⟨x, hx, ?_, h2⟩
      rw [Bool.eq_false_iff] at h1 ⊢
      intro h
      have hxi : x ≠ i := fun e => by subst e; omega
      exact h1 (List.contains_iff_mem.2 ((eraseIdx_mem hn hj x).2 ⟨List.contains_iff_mem.1 h, hxi⟩))
theorem idx_free (hr : Nat → Int) (a : List Nat) : slices_Index_bool_bool.f 20 (tkn hr a []) false = some (Scan.free hr a) := by
  have hl : (tkn hr a []).length = 16 := by simp [tkn]
  have hat : ∀ r : Nat, r < 16 → rdOf false (tkn hr a []) (r : Int) = a.any fun i => hr i == (r : Int) := fun r h => by
    unfold rdOf tkn
    rw [List.getD_eq_getElem?_getD, Int.toNat_natCast, List.getElem?_map, List.getElem?_range h]
    simp
  have key : ∀ (n k j : Nat), 16 - j = n → j ≤ 16 → n < k → (∀ r, r < j → (a.any fun i => hr i == (r : Int)) = true) → slices_Index_bool_bool.l0 k (tkn hr a []) false 16 (j : Int) = some (Scan.free hr a) := by
    intro n
    induction n with
    | zero =>
      intro k j h1 h2 h3 h4
      obtain ⟨k, rfl⟩ : ∃ m, k = m + 1 := ⟨k - 1, by omega⟩
      simp only [slices_Index_bool_bool.l0]
      rw [if_neg (by omega)]
      unfold Scan.free
      have : (List.range 16).find? (fun r : Nat => !a.any fun i => hr i == (r : Int)) = none := List.find?_eq_none.2 fun r hr' => by
        rw [h4 r (by have := List.mem_range.1 hr'; omega)]
        simp
      rw [this]
    | succ n ih =>
      intro k j h1 h2 h3 h4
      obtain ⟨k, rfl⟩ : ∃ m, k = m + 1 := ⟨k - 1, by omega⟩
      simp only [slices_Index_bool_bool.l0]
      rw [if_pos (by omega), if_pos (by omega), if_pos (by omega), hat j (by omega)]
      cases ht : (a.any fun i => hr i == (j : Int)) with
      | false =>
        rw [if_pos (by rfl)]
        unfold Scan.free
        have : (List.range 16).find? (fun r : Nat => !a.any fun i => hr i == (r : Int)) = some j := by
          rw [List.find?_range_eq_some]
          exact ⟨by rw [ht]; rfl, List.mem_range.2 (by omega), fun r hr' => by rw [h4 r hr']; rfl⟩
        rw [this]
      | true =>
        rw [if_neg (by simp)]
        have e : wrap64 ((j : Int) + 1) = ((j + 1 : Nat) : Int) := by unfold wrap64; omega
        rw [e]
        exact ih k (j + 1) (by omega) (by omega) (by omega) (fun r hr' => by
          rcases Nat.lt_or_ge r j with h | h
          · exact h4 r h
          · obtain rfl : r = j := by omega
            exact ht)
  unfold slices_Index_bool_bool.f
  rw [hl]
  exact key 16 20 0 rfl (by omega) (by omega) (by omega)
theorem C_bools {W : World} {g : Nat} {t : TypeId} (xs : List Bool) (h : W.heap[g]? = some (.cells (xs.map Value.bool).toArray t (0, 0))) (hl : xs.length ≤ 9223372036854775807) : Kd.C Kd.bool W (some ⟨g, 0, none⟩) xs.length xs :=
  Kd.C_of_reads (enc := Value.bool) (d := false) (h1 := fun _ => rfl) ⟨rfl, hl, fun _ => ⟨_, rfl, fun j hj => by
    have := blk_cell h j
    have e : (⟨g, 0, none⟩ : Addr).add j = ⟨g, j, none⟩ := add_plain g j
    rw [e, this]
    simp [List.getD_eq_getElem?_getD, hj]⟩⟩
set_option maxHeartbeats 8000000 in
set_option maxRecDepth 100000 in
theorem free_any (w0 : World) (s : Nat) (A : Option Addr) (c : Nat) (l : List S38) (hb hc : Nat) (H : List S40) (mb : Nat) (a : List Nat) (sl : Int) (w : World) (h : Sc w0 w s A c l hb hc H mb a sl) (ha : a.Nodup) (hal : ∀ i ∈ a, i < H.length ∧ 0 ≤ (rd_T40 H (i : Int)).f0 ∧ (rd_T40 H (i : Int)).f0 < 16) :
    Calls Try.prog 28 #[.pointer (some ⟨s, 0, none⟩)] w fun e w' => e = .returned (.int .i64 (Scan.free (fun i => (rd_T40 H (i : Int)).f0) a)) ∧ Below w.heap.size w w' := by
  have hu48 := Try.underlying48
  have hu40 := Try.underlying40
  have hu55 := Try.underlying55
  obtain ⟨q0, q1, q2, q3⟩ := h.cells
  have HSC := Aside0.mk h
  have HA := Aside0.mk ha
  have HAL := Aside0.mk hal
  have hsl : s < w.heap.size := blk_lt h.hs
  have hml : mb < w.heap.size := h.hm.lt
  have hbl : hb < w.heap.size := blk_lt h.hh
  clear h ha hal
  go_enter Try.func28, Try.ntmps28
  go_wp2_with (at_range; refine IM.wpl_range _ rfl _ 46 rfl 3 4 Try.underlying46 mb _ rfl (HSC.out.hm.alloc _) ?_; intro w0 hrg0 hg0 hs0; clear hs0)
  go_frame
  obtain ⟨hr, hhr⟩ : ∃ hr : Nat → Int, hr = fun i : Nat => (rd_T40 H (i : Int)).f0 := ⟨_, rfl⟩
  have HHR := Aside0.mk hhr
  have hfr : Aside0 (Scan.free (fun i : Nat => (rd_T40 H (i : Int)).f0) a = Scan.free hr a) := ⟨by rw [hhr]⟩
  clear hhr
  have HG0 := Aside0.mk hg0
  have HR0 := Aside0.mk hrg0
  clear hg0 hrg0
  have HB0 : Aside0 (Below w.heap.size w w0) := ⟨pw_below_grown (below_alloc (Below.refl _ _) _) none (by rw [World.size_alloc]; omega) HG0.out (fun k e => by cases e)⟩
  have HT0 : Aside0 (w0.heap[w.heap.size]? = some (.cells ((tkn hr a a).map Value.bool).toArray 55 (0, 0))) := ⟨by rw [tkn_start]; exact blk_grown (blk_new w _) HG0.out (by simp)⟩
  rw [show (w.alloc (.cells #[.bool false, .bool false, .bool false, .bool false, .bool false, .bool false, .bool false, .bool false, .bool false, .bool false, .bool false, .bool false, .bool false, .bool false, .bool false, .bool false] 55)).heap.size = w.heap.size + 1 from World.size_alloc _ _] at HR0 ⊢
  go_loopw [10] (fun _ wr => ∃ lf : List Nat, Aside0 (IM.Rng wr mb (w.heap.size + 1) (akeys a) (akeys lf)) ∧ Aside0 (lf.Nodup ∧ ∀ i ∈ lf, i ∈ a) ∧ Aside0 (Below w.heap.size w wr) ∧ Aside0 (wr.heap[w.heap.size]? = some (.cells ((tkn hr a lf).map Value.bool).toArray 55 (0, 0)))) (fun _ wr => wr.rangeLeft mb (w.heap.size + 1))
  case atStart => exact ⟨a, HR0, ⟨HA.out, fun _ h => h⟩, HB0, HT0⟩
  case round =>
    clear HG0 HR0 HB0 HT0
    obtain ⟨lf, HR, HN, HB, HT⟩ := hrel
    go_wp2_with (at_next; refine wpl_next_set _ rfl _ rfl mb (w.heap.size + 1) _ lf rfl HR.out ?_ ?_)
    · intro hl0
      have hl0 := hl0.out
      subst hl0
      have HX := Aside0.mk (idx_free hr a)
      have hC := C_bools (tkn hr a []) HT.out (by unfold tkn; simp)
      rw [show (tkn hr a []).length = 16 by simp [tkn]] at hC
      have hcall := slices_Index_bool_bool.calls 20 _ 16 (tkn hr a []) false _ wr (by rw [show (tkn hr a []).length = 16 by simp [tkn]]; exact hC) (by simp [tkn]) HX.out
      rw [show (tkn hr a []).length = 16 by simp [tkn]] at hcall
      have HC := Aside0.mk hcall
      clear hC hcall
      go_wp2_with (go_at_call 45; refine HC.out.mono ?_; rintro e w2 ⟨rfl, hd⟩)
      go_ret
      exact ⟨congrArg (fun x => Ending.returned (Value.int .i64 x)) hfr.out.symm, below_then HB.out HB.out.size hd.below⟩
    · intro j i w1 hji hr1 hlt hg1 hen
      have HLT := Aside0.mk hlt.out
      have hi := HAL.out i (HN.out.2 i (List.mem_of_getElem? hji.out))
      obtain ⟨r, hr0⟩ := Int.eq_ofNat_of_zero_le hi.2.1
      have HRI : Aside0 (hr i = (r : Int)) := ⟨by rw [HHR.out]; exact hr0⟩
      have hr16 : r < 16 := by have := hi.2.2; omega
      have hB1 : Below w.heap.size w w1 := pw_below_grown HB.out _ HB.out.size hg1 (fun k e => by cases e; omega)
      have hS1 := HSC.out.below hB1
      obtain ⟨p0, p1, p2, p3⟩ := hS1.cells
      have hT1 : w1.heap[w.heap.size]? = some (.cells ((tkn hr a lf).map Value.bool).toArray 55 (0, 0)) := blk_grown HT.out hg1 (fun e => by injection e with e; omega)
      have e1 : w1.cell? ⟨hb, i * 2, none⟩ = some (.int .i64 (r : Int)) := by
        rw [← hr0, rd40 hi.1]
        refine (blk_cell hS1.hh (i * 2)).trans ?_
        rw [List.getElem?_toArray]
        exact (c40_at H i hi.1).1
      have hi1 : i < H.length := hi.1
      have tl : ∀ lf, (tkn hr a lf).length = 16 := fun lf => by simp [tkn]
      have e2 : w1.cell? ⟨w.heap.size, r, none⟩ = some (.bool ((tkn hr a lf)[r]'(by rw [tl]; exact hr16))) := by
        refine (blk_cell hT1 r).trans ?_
        simp [tl, hr16]
      have e3 := blk_frozen hT1 r
      have HT1 := Aside0.mk hT1
      have HB1 := Aside0.mk hB1
      have HR1 := Aside0.mk hr1
      have HJ := Aside0.mk hji.out
      clear hji hr0 hi hlt hg1 hS1 hr1 hT1 hB1
      go_wp2_with fail
      go_roundw
      case rel => exact ⟨lf.eraseIdx j, ⟨HR1.out.setCell (Ne.symm (HR1.out.not_cells HT1.out).1) (Ne.symm (HR1.out.not_cells HT1.out).2) _⟩, ⟨HN.out.1.sublist (List.eraseIdx_sublist _ _), fun x hx => HN.out.2 x ((List.eraseIdx_sublist _ _).subset hx)⟩, ⟨HB1.out.setCell (Nat.le_refl _) _⟩, ⟨by
        have := blk_set HT1.out r (.bool true)
        rw [this, ← tkn_set HN.out.1 HJ.out (HN.out.2 i (List.mem_of_getElem? HJ.out)) HRI.out]
        simp [List.map_set]⟩⟩
      case measure => rw [(HR1.out.setCell (a := ⟨w.heap.size, r, none⟩) (Ne.symm (HR1.out.not_cells HT1.out).1) (Ne.symm (HR1.out.not_cells HT1.out).2) (.bool true)).left_eq, ← HR1.out.left_eq]; exact HLT.out
end Go.Proofs.Ytncpgclcbdgndaa.S
