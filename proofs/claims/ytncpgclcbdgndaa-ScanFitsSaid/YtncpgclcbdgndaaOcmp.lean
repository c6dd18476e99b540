import Derived.Test.YtncpgclcbdgndaaOlast
import Derived.Test.YtncpgclcbdgndaaShelf
import Derived.Sort.OwnSortedInts
import Derived.Test.YtncpgclcbdgndaaS3
namespace Go.Proofs.Ytncpgclcbdgndaa.S
open Go.RowKit Go.Proofs.YtncpgclcbdgndaaW.PrintWords Go.Proofs.YtncpgclcbdgndaaW.PrintLast Go.Proofs.YtncpgclcbdgndaaW.PrintMore Go.RelRegion
set_option linter.unusedVariables false
/-! ### order$1 -/
def or3 (a b c : Int) : Int := if a = 0 then (if b = 0 then c else b) else a
theorem or3_f (a b c : Int) : cmp_Or_int.f 5 [a, b, c] = some (or3 a b c) := by
  have e1 : wrap64 (0 + 1) = 1 := by decide +kernel
  have e2 : wrap64 (1 + 1) = 2 := by decide +kernel
  have e3 : wrap64 (2 + 1) = 3 := by decide +kernel
  unfold cmp_Or_int.f or3
  rw [show (5 : Nat) = 4 + 1 from rfl]
  simp only [cmp_Or_int.l0, List.length_cons, List.length_nil]
  rw [if_pos (by decide), if_pos (by decide), if_pos (by decide)]
  have r0 : rd [a, b, c] 0 = a := rfl
  have r1 : rd [a, b, c] 1 = b := rfl
  have r2 : rd [a, b, c] 2 = c := rfl
  rw [r0, e1]
  by_cases ha : a = 0
  · rw [if_pos ha, if_pos ha]
    rw [if_pos (by decide), if_pos (by decide), if_pos (by decide), r1, e2]
    by_cases hb : b = 0
    · rw [if_pos hb, if_pos hb]
      rw [if_pos (by decide), if_pos (by decide), if_pos (by decide), r2, e3]
      by_cases hc : c = 0
      · rw [if_pos hc, if_neg (by decide), hc]
      · rw [if_neg hc]
    · rw [if_neg hb, if_neg hb]
  · rw [if_neg ha, if_neg ha]
/-- A world with draws and new blocks, to the letter. -/
def Gq (w w' : World) : Prop := ∃ q os, w' = Sort.grow (w.drewN q) os
theorem Gq.refl (w : World) : Gq w w := ⟨0, #[], by rw [Sort.grow_empty]; rfl⟩
theorem Gq.drewN {w w' : World} (h : Gq w w') (n : Nat) : Gq w (w'.drewN n) := by
  obtain ⟨q, os, rfl⟩ := h
  exact ⟨q + n, os, by rw [← World.drewN_drewN]; rfl⟩
theorem Gq.drew {w w' : World} (h : Gq w w') : Gq w w'.drew := h.drewN 1
theorem Gq.drawn {w w' w2 : World} (h : Gq w w') (k : Drawn0 w' w2) : Gq w w2 := by
  obtain ⟨n, rfl⟩ := k.out
  exact h.drewN n
theorem Gq.alloc {w w' : World} (h : Gq w w') (o : Obj) : Gq w (w'.alloc o) := by
  obtain ⟨q, os, rfl⟩ := h
  exact ⟨q, os ++ #[o], by rw [Sort.alloc_eq_grow, Sort.grow_grow]⟩
theorem Drawn0.trans {a b c : World} (h : Drawn0 a b) (k : Drawn0 b c) : Drawn0 a c := by
  obtain ⟨n, rfl⟩ := h.out
  obtain ⟨m, rfl⟩ := k.out
  exact ⟨n + m, World.drewN_drewN _ _ _⟩
/-- The comparison of two places. -/
def cmp3 (l : List S38) (i k : Nat) : Int := or3 (cmpi (rd_T38 l (i : Int)).f1 (rd_T38 l (k : Int)).f1) (cmpi (rd_T38 l (i : Int)).f2 (rd_T38 l (k : Int)).f2) (cmpi (rd_T38 l (i : Int)).f0 (rd_T38 l (k : Int)).f0)
set_option maxHeartbeats 8000000 in
set_option maxRecDepth 100000 in
theorem cmp_any (s bx : Nat) (A : Option Addr) (c : Nat) (l : List S38) (w : World) (hl : Kd.C k38 w A l.length l) (hb : w.cell? ⟨bx, 0, none⟩ = some (.pointer (some ⟨s, 0, none⟩))) (q0 : w.cell? ⟨s, 0, none⟩ = some (.slice A l.length c)) (i k : Nat) (hi : i < l.length) (hk : k < l.length) :
    Calls Try.prog 40 #[.int .i64 (i : Int), .int .i64 (k : Int), .pointer (some ⟨bx, 0, none⟩)] w fun e w' => e = .returned (.int .i64 (cmp3 l i k)) ∧ Gq w w' := by
  have hu48 := Try.underlying48
  have hu38 := Try.underlying38
  have hn : l.length ≤ 9223372036854775807 := hl.2.1
  obtain ⟨ad, eA, i0, i1, i2⟩ := at_T38 hl (i : Int) (by omega) (by omega)
  obtain ⟨ad', eA', b0, b1, b2⟩ := at_T38 hl (k : Int) (by omega) (by omega)
  rw [eA] at eA'
  obtain rfl : ad = ad' := by injection eA'
  simp only [Int.toNat_natCast] at i0 i1 i2 b0 b1 b2
  unfold cmp3
  generalize rd_T38 l (i : Int) = x at i0 i1 i2 ⊢
  generalize rd_T38 l (k : Int) = y at b0 b1 b2 ⊢
  rw [eA] at q0
  clear hl eA eA'
  go_enter Try.func40, Try.ntmps40
  go_wp2_with fail
  go_region_held3 (fun W => W.cell? ⟨bx, 0, none⟩ = some (.pointer (some ⟨s, 0, none⟩)) ∧ W.cell? ⟨s, 0, none⟩ = some (.slice (some ad) l.length c) ∧ W.cell? (ad.add (i * 3)) = some (.int .i64 x.f0) ∧ W.cell? ⟨(ad.add (i * 3)).block, (ad.add (i * 3)).off + 1, none⟩ = some (.int .i64 x.f1) ∧ W.cell? ⟨(ad.add (i * 3)).block, (ad.add (i * 3)).off + 2, none⟩ = some (.int .i64 x.f2) ∧ W.cell? (ad.add (k * 3)) = some (.int .i64 y.f0) ∧ W.cell? ⟨(ad.add (k * 3)).block, (ad.add (k * 3)).off + 1, none⟩ = some (.int .i64 y.f1) ∧ W.cell? ⟨(ad.add (k * 3)).block, (ad.add (k * 3)).off + 2, none⟩ = some (.int .i64 y.f2)) (go_keep) (fail)
  · go_wp2_with fail
    obtain ⟨W3, hW3⟩ : ∃ W3, ((w.alloc (.cells #[.int .i64 x.f0, .int .i64 x.f1, .int .i64 x.f2] 38)).alloc (.cells #[.int .i64 y.f0, .int .i64 y.f1, .int .i64 y.f2] 38)).drew = W3 := ⟨_, rfl⟩
    have hG := Aside0.mk (show Gq w W3 by rw [← hW3]; exact (((Gq.refl w).alloc _).alloc _).drew)
    have hx : W3.heap[w.heap.size]? = some (.cells #[.int .i64 x.f0, .int .i64 x.f1, .int .i64 x.f2] 38 (0, 0)) := by rw [← hW3]; exact blk_drew (blk_alloc (blk_new w _) _)
    have hy : W3.heap[w.heap.size + 1]? = some (.cells #[.int .i64 y.f0, .int .i64 y.f1, .int .i64 y.f2] 38 (0, 0)) := by
      rw [← hW3]
      have := blk_drew (blk_new (w.alloc (.cells #[.int .i64 x.f0, .int .i64 x.f1, .int .i64 x.f2] 38)) (.cells #[.int .i64 y.f0, .int .i64 y.f1, .int .i64 y.f2] 38))
      rwa [World.size_alloc] at this
    rw [hW3]
    have s0 := blk_cell hx 0
    have s1 := blk_cell hx 1
    have s2 := blk_cell hx 2
    have t0 := blk_cell hy 0
    have t1 := blk_cell hy 1
    have t2 := blk_cell hy 2
    simp at s0 s1 s2 t0 t1 t2
    clear hW3 hx hy i0 i1 i2 b0 b1 b2 hb q0
    refine wp_region_rel 15 (fun _ => none) (fun _ => []) (fun _ _ _ => True) (fun w' => Drawn0 W3 w') (fun a b => Drawn0 a b) (by kernel_rfl) (by kernel_rfl) ((Drawn0.refl _).step 1) (fun a b h k => Drawn0.trans h k) (fun _ _ _ _ h _ => h) ?_
    simp only [List.take_succ_cons, List.take_zero, List.drop_succ_cons, List.drop_zero]
    iterate 15 (apply relQ_step rfl; apply Exists.intro; constructor; (focus (intro w' hw'; have hwb := hw'.below; have s0 := pw_cell_below hwb s0; have s1 := pw_cell_below hwb s1; have s2 := pw_cell_below hwb s2; have t0 := pw_cell_below hwb t0; have t1 := pw_cell_below hwb t1; have t2 := pw_cell_below hwb t2; unfold Yl; go_wp2_with (go_at_call 42; refine (cmp_Compare_int.calls _ _ _ _ (cmpi_f _ _)).mono ?_; rintro e w2' ⟨rfl, hd⟩); first | exact ⟨rfl, _, rfl, rfl, hd⟩ | exact ⟨rfl, _, rfl, rfl, Drawn0.refl _⟩)); (try simp only [Act.put, List.setIfInBounds_toArray, List.set_cons_zero, List.set_cons_succ]))
    refine relQ_nil (fun xx => ?_)
    repeat (refine relL_quiet rfl ?_)
    refine relL_nil (fun w' hw' _ => ?_)
    clear s0 s1 s2 t0 t1 t2
    have HG4 := Aside0.mk (hG.out.drawn hw')
    clear hw' hG
    have hcell := C_of_blk (k := .i64) (t := 3) [cmpi x.f1 y.f1, cmpi x.f2 y.f2, cmpi x.f0 y.f0] (blk_new w' (.cells #[.int .i64 (cmpi x.f1 y.f1), .int .i64 (cmpi x.f2 y.f2), .int .i64 (cmpi x.f0 y.f0)] 3)) (by simp)
    have HC := Aside0.mk (cmp_Or_int.calls 5 _ 3 _ _ _ hcell (by simp) (or3_f _ _ _))
    clear hcell
    go_wp2_with (go_at_call 41; refine HC.out.mono ?_; rintro e w5 ⟨rfl, hd⟩)
    have HD := Aside0.mk hd
    go_ret
    exact ⟨rfl, (HG4.out.alloc _).drawn HD.out⟩
  · go_wp2_with fail
    obtain ⟨W3, hW3⟩ : ∃ W3, ((w.alloc (.cells #[.int .i64 y.f0, .int .i64 y.f1, .int .i64 y.f2] 38)).alloc (.cells #[.int .i64 x.f0, .int .i64 x.f1, .int .i64 x.f2] 38)).drew = W3 := ⟨_, rfl⟩
    have hG := Aside0.mk (show Gq w W3 by rw [← hW3]; exact (((Gq.refl w).alloc _).alloc _).drew)
    have hy : W3.heap[w.heap.size]? = some (.cells #[.int .i64 y.f0, .int .i64 y.f1, .int .i64 y.f2] 38 (0, 0)) := by rw [← hW3]; exact blk_drew (blk_alloc (blk_new w _) _)
    have hx : W3.heap[w.heap.size + 1]? = some (.cells #[.int .i64 x.f0, .int .i64 x.f1, .int .i64 x.f2] 38 (0, 0)) := by
      rw [← hW3]
      have := blk_drew (blk_new (w.alloc (.cells #[.int .i64 y.f0, .int .i64 y.f1, .int .i64 y.f2] 38)) (.cells #[.int .i64 x.f0, .int .i64 x.f1, .int .i64 x.f2] 38))
      rwa [World.size_alloc] at this
    rw [hW3]
    have s0 := blk_cell hx 0
    have s1 := blk_cell hx 1
    have s2 := blk_cell hx 2
    have t0 := blk_cell hy 0
    have t1 := blk_cell hy 1
    have t2 := blk_cell hy 2
    simp at s0 s1 s2 t0 t1 t2
    clear hW3 hx hy i0 i1 i2 b0 b1 b2 hb q0
    refine wp_region_rel 15 (fun _ => none) (fun _ => []) (fun _ _ _ => True) (fun w' => Drawn0 W3 w') (fun a b => Drawn0 a b) (by kernel_rfl) (by kernel_rfl) ((Drawn0.refl _).step 1) (fun a b h k => Drawn0.trans h k) (fun _ _ _ _ h _ => h) ?_
    simp only [List.take_succ_cons, List.take_zero, List.drop_succ_cons, List.drop_zero]
    iterate 15 (apply relQ_step rfl; apply Exists.intro; constructor; (focus (intro w' hw'; have hwb := hw'.below; have s0 := pw_cell_below hwb s0; have s1 := pw_cell_below hwb s1; have s2 := pw_cell_below hwb s2; have t0 := pw_cell_below hwb t0; have t1 := pw_cell_below hwb t1; have t2 := pw_cell_below hwb t2; unfold Yl; go_wp2_with (go_at_call 42; refine (cmp_Compare_int.calls _ _ _ _ (cmpi_f _ _)).mono ?_; rintro e w2' ⟨rfl, hd⟩); first | exact ⟨rfl, _, rfl, rfl, hd⟩ | exact ⟨rfl, _, rfl, rfl, Drawn0.refl _⟩)); (try simp only [Act.put, List.setIfInBounds_toArray, List.set_cons_zero, List.set_cons_succ]))
    refine relQ_nil (fun xx => ?_)
    repeat (refine relL_quiet rfl ?_)
    refine relL_nil (fun w' hw' _ => ?_)
    clear s0 s1 s2 t0 t1 t2
    have HG4 := Aside0.mk (hG.out.drawn hw')
    clear hw' hG
    have hcell := C_of_blk (k := .i64) (t := 3) [cmpi x.f1 y.f1, cmpi x.f2 y.f2, cmpi x.f0 y.f0] (blk_new w' (.cells #[.int .i64 (cmpi x.f1 y.f1), .int .i64 (cmpi x.f2 y.f2), .int .i64 (cmpi x.f0 y.f0)] 3)) (by simp)
    have HC := Aside0.mk (cmp_Or_int.calls 5 _ 3 _ _ _ hcell (by simp) (or3_f _ _ _))
    clear hcell
    go_wp2_with (go_at_call 41; refine HC.out.mono ?_; rintro e w5 ⟨rfl, hd⟩)
    have HD := Aside0.mk hd
    go_ret
    exact ⟨rfl, (HG4.out.alloc _).drawn HD.out⟩
end Go.Proofs.Ytncpgclcbdgndaa.S
