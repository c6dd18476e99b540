import Derived.Test.YtncpgclcbdgndaaOfree
import Derived.StillTailTactics
namespace Go.Proofs.Ytncpgclcbdgndaa.S
open Go.RowKit Go.Proofs.YtncpgclcbdgndaaW.PrintWords Go.Proofs.YtncpgclcbdgndaaW.PrintLast Go.Proofs.YtncpgclcbdgndaaW.PrintMore
set_option linter.unusedVariables false
/-! ### live, spill -/
theorem c40_set : ∀ (H : List S40) (k : Nat) (a b : Int), k < H.length → ((c40 H).set (k * 2) (.int .i64 a)).set (k * 2 + 1) (.int .i64 b) = c40 (H.set k ⟨a, b⟩)
  | x :: H, 0, a, b, _ => rfl
  | x :: H, k + 1, a, b, h => by
    have ih := c40_set H k a b (by simpa using h)
    have e : ∀ y : S40, ∀ L : List S40, c40 (y :: L) = .int .i64 y.f0 :: .int .i64 y.f1 :: c40 L := fun _ _ => rfl
    rw [e, List.set_cons_succ, e, show (k + 1) * 2 = k * 2 + 1 + 1 by omega, List.set_cons_succ, List.set_cons_succ, List.set_cons_succ, List.set_cons_succ, ih]
theorem c40_blk {w : World} {hb : Nat} {H : List S40} (h : w.heap[hb]? = some (.cells (H.flatMap fun x => [.int .i64 x.f0, .int .i64 x.f1]).toArray 40 (0, 0))) {k : Nat} (hk : k < H.length) (a b : Int) :
    ((w.setCell ⟨hb, k * 2, none⟩ (.int .i64 a)).setCell ⟨hb, k * 2 + 1, none⟩ (.int .i64 b)).heap[hb]? = some (.cells ((H.set k ⟨a, b⟩).flatMap fun x => [.int .i64 x.f0, .int .i64 x.f1]).toArray 40 (0, 0)) := by
  have := blk_set (blk_set h (k * 2) (.int .i64 a)) (k * 2 + 1) (.int .i64 b)
  rw [this]
  have e := c40_set H k a b hk
  unfold c40 at e
  rw [← e]
  simp
/-- The two stores into a home. -/
theorem Sc.put {w0 w : World} {s : Nat} {A : Option Addr} {c : Nat} {l : List S38} {hb hc : Nat} {H : List S40} {mb : Nat} {act : List Nat} {sl : Int} (h : Sc w0 w s A c l hb hc H mb act sl) {k : Nat} (hk : k < H.length) (a b : Int) :
    Sc w0 ((w.setCell ⟨hb, k * 2, none⟩ (.int .i64 a)).setCell ⟨hb, k * 2 + 1, none⟩ (.int .i64 b)) s A c l hb hc (H.set k ⟨a, b⟩) mb act sl := by
  have n1 := h.ne_sh
  have n2 := h.ne_hm
  refine ⟨?_, h.hl0, c40_blk h.hh hk a b, (h.hm.setCell (Ne.symm n2) _).setCell (Ne.symm n2) _, (h.hw.setCell h.lh _).setCell h.lh _, h.ls, h.lh, h.lm⟩
  rw [List.length_set]
  exact blk_far (blk_far h.hs n1 _) n1 _
set_option maxHeartbeats 4000000 in
set_option maxRecDepth 100000 in
theorem live_any (w0 : World) (s : Nat) (A : Option Addr) (c : Nat) (l : List S38) (hb hc : Nat) (H : List S40) (mb : Nat) (a : List Nat) (sl : Int) (k : Nat) (r : Int) (w : World) (h : Sc w0 w s A c l hb hc H mb a sl) (hk : k < H.length) (hka : k ∉ a) :
    Calls Try.prog 27 #[.pointer (some ⟨s, 0, none⟩), .int .i64 (k : Int), .int .i64 r] w fun e w' => e = .returned (.tuple #[]) ∧ Sc w0 w' s A c l hb hc (H.set k ⟨r, 0⟩) mb (a ++ [k]) sl ∧ Fr w w' [s, hb, mb] := by
  have hu48 := Try.underlying48
  have hu40 := Try.underlying40
  obtain ⟨q0, q1, q2, q3⟩ := h.cells
  have n1 := h.ne_sh
  have n1' := Ne.symm n1
  have e1 := (blk_cell h.hh (k * 2)).trans ((List.getElem?_toArray).trans (c40_at H k hk).1)
  have e2 := (blk_cell h.hh (k * 2 + 1)).trans ((List.getElem?_toArray).trans (c40_at H k hk).2)
  have f1 := blk_frozen h.hh (k * 2)
  have f2 := blk_frozen h.hh (k * 2 + 1)
  have HSC := Aside0.mk h
  have HP := Aside0.mk (h.put hk r 0)
  have HKA := Aside0.mk hka
  clear h hka
  generalize H[k].f0 = y0 at e1
  generalize H[k].f1 = y1 at e2
  go_enter Try.func27, Try.ntmps27
  go_wp2_with (at_mapUpdate; refine IM.wpl_update _ rfl _ _ _ 46 rfl 3 4 Try.underlying46 Try.underlying3 mb _ rfl HP.out.hm (k : Int) rfl (.bool true) rfl ?_; intro w1 hm1 hg1 hs1; clear hs1)
  go_end0
  rw [st_akeys _ _ HKA.out] at hm1
  exact ⟨rfl, HP.out.map hg1 hm1, (Fr.set (p := ⟨hb, k * 2 + 1, none⟩) (Fr.set (p := ⟨hb, k * 2, none⟩) (Fr.refl w [s, hb, mb]) (by simp) _) (by simp) _).trans (Fr.of_grown hg1 (by simp)) (fun i hi => .inl hi)⟩
/-- The count of slots has been written. -/
theorem Sc.count {w0 w : World} {s : Nat} {A : Option Addr} {c : Nat} {l : List S38} {hb hc : Nat} {H : List S40} {mb : Nat} {act : List Nat} {sl : Int} (h : Sc w0 w s A c l hb hc H mb act sl) (n : Int) :
    Sc w0 (w.setCell ⟨s, 3, none⟩ (.int .i64 n)) s A c l hb hc H mb act n := by
  refine ⟨?_, h.hl0, blk_far h.hh (Ne.symm h.ne_sh) _, h.hm.setCell (Ne.symm h.ne_sm) _, h.hw.setCell h.ls _, h.ls, h.lh, h.lm⟩
  have := blk_set h.hs 3 (.int .i64 n)
  simpa using this
set_option maxHeartbeats 4000000 in
set_option maxRecDepth 100000 in
theorem spill_any (w0 : World) (s : Nat) (A : Option Addr) (c : Nat) (l : List S38) (hb hc : Nat) (H : List S40) (mb : Nat) (a : List Nat) (sl : Int) (k : Nat) (w : World) (h : Sc w0 w s A c l hb hc H mb a sl) (hk : k < H.length) (hs0 : 0 ≤ sl) (hs1 : sl ≤ 1000000000000000) :
    Calls Try.prog 30 #[.pointer (some ⟨s, 0, none⟩), .int .i64 (k : Int)] w fun e w' => e = .returned (.tuple #[]) ∧ Sc w0 w' s A c l hb hc (H.set k ⟨-1, sl⟩) mb (a.erase k) (sl + 1) ∧ Fr w w' [s, hb, mb] := by
  have hu48 := Try.underlying48
  have hu40 := Try.underlying40
  obtain ⟨q0, q1, q2, q3⟩ := h.cells
  have n1 := h.ne_sh
  have n1' := Ne.symm n1
  have e1 := (blk_cell h.hh (k * 2)).trans ((List.getElem?_toArray).trans (c40_at H k hk).1)
  have e2 := (blk_cell h.hh (k * 2 + 1)).trans ((List.getElem?_toArray).trans (c40_at H k hk).2)
  have f1 := blk_frozen h.hh (k * 2)
  have f2 := blk_frozen h.hh (k * 2 + 1)
  have f3 := blk_frozen h.hs 3
  have hdr : Below w.heap.size w w.drew := below_drew (Below.refl _ _)
  have HP := Aside0.mk (((h.below hdr).put hk (-1) sl).count (sl + 1))
  have HSZ : Aside0 (w.drew.heap.size = w.heap.size) := ⟨rfl⟩
  have HDR := Aside0.mk hdr
  clear h hdr
  generalize H[k].f0 = y0 at e1
  generalize H[k].f1 = y1 at e2
  go_enter Try.func30, Try.ntmps30
  go_wp2_with fail
  go_still_tail 11, (by kernel_rfl)
  go_wp2_with (at_delete; refine IM.wpl_delete _ rfl _ _ 46 3 rfl 4 Try.underlying46 Try.underlying3 mb _ rfl HP.out.hm (k : Int) rfl ?_; intro w1 hm1 hg1 hs1; clear hs1)
  go_end0
  rw [dl_akeys] at hm1
  exact ⟨rfl, HP.out.map hg1 hm1, ((Fr.of_below HDR.out [s, hb, mb]).trans (Fr.set (p := ⟨s, 3, none⟩) (Fr.set (p := ⟨hb, k * 2 + 1, none⟩) (Fr.set (p := ⟨hb, k * 2, none⟩) (Fr.refl w.drew [s, hb, mb]) (by simp) _) (by simp) _) (by simp) _) (fun i hi => .inl hi)).trans (Fr.of_grown hg1 (by simp)) (fun i hi => .inl hi)⟩
end Go.Proofs.Ytncpgclcbdgndaa.S
