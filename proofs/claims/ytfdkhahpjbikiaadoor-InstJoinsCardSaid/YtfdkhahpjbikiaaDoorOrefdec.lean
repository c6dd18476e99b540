import Derived.Test.YtfdkhahpjbikiaaDoorOdec
import Derived.Test.YtfdkhahpjbikiaaDoorS3
namespace Go.Proofs.YtfdkhahpjbikiaaDoor.S
open Go.RowKit Go.Proofs.YtfdkhahpjbikiaaDoorW.PrintWords Go.Proofs.YtfdkhahpjbikiaaDoorW.PrintLast Go.Proofs.YtfdkhahpjbikiaaDoorW.PrintMore Go.RelRegion
set_option linter.unusedVariables false
set_option maxHeartbeats 8000000 in
set_option maxRecDepth 100000 in
theorem rdec8 (k : Nat) (z : Int) (b off : Nat) (c0' : Nat) (b0 b1 b2 b3 b4 b5 b6 b7 : Int) (w : World) (hc : 8 ≤ c0')
    (c0 : w.cell? ⟨b, off, none⟩ = some (.int .u8 b0)) (c1 : w.cell? ⟨b, off + 1, none⟩ = some (.int .u8 b1)) (c2 : w.cell? ⟨b, off + 2, none⟩ = some (.int .u8 b2)) (c3 : w.cell? ⟨b, off + 3, none⟩ = some (.int .u8 b3)) (c4 : w.cell? ⟨b, off + 4, none⟩ = some (.int .u8 b4)) (c5 : w.cell? ⟨b, off + 5, none⟩ = some (.int .u8 b5)) (c6 : w.cell? ⟨b, off + 6, none⟩ = some (.int .u8 b6)) (c7 : w.cell? ⟨b, off + 7, none⟩ = some (.int .u8 b7))
    (g0 : 0 ≤ b0) (l0 : b0 ≤ 255) (g1 : 0 ≤ b1) (l1 : b1 ≤ 255) (g2 : 0 ≤ b2) (l2 : b2 ≤ 255) (g4 : 0 ≤ b4) (l4 : b4 ≤ 255) (g5 : 0 ≤ b5) (l5 : b5 ≤ 255) (g6 : 0 ≤ b6) (l6 : b6 ≤ 255) (g7 : 0 ≤ b7) (l7 : b7 ≤ 255) (hz : z = if 2147483647 < b4 + 256 * b5 + 65536 * b6 + 16777216 * b7 then b4 + 256 * b5 + 65536 * b6 + 16777216 * b7 - 4294967296 else b4 + 256 * b5 + 65536 * b6 + 16777216 * b7) (t : Bool) (hR : swageref02_Right.f k b0 (b1 / 16) (b1 % 16) b2 z = some t) :
    Calls Tryd.prog 24 #[.slice (some ⟨b, off, none⟩) 8 c0'] w fun e w' => e = .returned (if t && b3 == 0 then .tuple #[.agg #[.int .i64 b0, .int .i64 (b1 / 16), .int .i64 (b1 % 16), .int .i64 b2, .int .i64 z], .int .i64 0] else .tuple #[.agg #[.int .i64 0, .int .i64 0, .int .i64 0, .int .i64 0, .int .i64 0], .int .i64 2]) ∧ Below w.heap.size w w' := by
  have HR := Aside0.mk hR
  clear hR
  have hbl : b < w.heap.size := World.block_lt_of_cell? w _ c3
  have hu23 := Tryd.underlying23
  go_enter Tryd.func24, Tryd.ntmps24
  go_wp2_with fail
  obtain ⟨W, hW⟩ : ∃ W, w.alloc (.cells #[.int .i64 0, .int .i64 0, .int .i64 0, .int .i64 0, .int .i64 0] 23) = W := ⟨_, rfl⟩
  have hWb : Below w.heap.size w W := by rw [← hW]; exact below_alloc (Below.refl _ _) _
  have hX : W.heap[w.heap.size]? = some (.cells #[.int .i64 0, .int .i64 0, .int .i64 0, .int .i64 0, .int .i64 0] 23 (0, 0)) := by rw [← hW]; exact blk_new _ _
  have d0 := pw_cell_below hWb c0
  have d1 := pw_cell_below hWb c1
  have d2 := pw_cell_below hWb c2
  have d3 := pw_cell_below hWb c3
  have d4 := pw_cell_below hWb c4
  have d5 := pw_cell_below hWb c5
  have d6 := pw_cell_below hWb c6
  have d7 := pw_cell_below hWb c7
  rw [hW]
  have HX := Aside0.mk hX
  have HWb := Aside0.mk hWb
  clear hW hX hWb
  refine wp_region_rel 20 (fun i => if i = 19 then some [] else none) (fun _ => [19])
    (fun _ vs W' => ∃ g, vs = [.pointer (some ⟨g, 0, none⟩)] ∧ W.heap.size ≤ g ∧ W'.heap[g]? = some (.cells #[.int .i64 0, .int .i64 0, .int .i64 0, .int .i64 0, .int .i64 0] 23 (0, 0)))
    (fun w' => Below W.heap.size W w') (fun a b => Below a.heap.size a b) (by kernel_rfl) (by kernel_rfl) (below_drew (Below.refl _ _)) (fun a b h k => below_then h h.size k) (fun _ _ a b ⟨g, e, hg, h⟩ hab => ⟨g, e, hg, blk_below h hab⟩) ?_
  simp only [List.take_succ_cons, List.take_zero, List.drop_succ_cons, List.drop_zero]
  iterate 20 (first | (refine relQ_loud rfl ?_) | (apply relQ_step rfl; apply Exists.intro; constructor; (focus (intro w' hw'; have d0 := pw_cell_below hw' d0; have d1 := pw_cell_below hw' d1; have d2 := pw_cell_below hw' d2; unfold Yl; go_wp2_with fail; exact ⟨rfl, _, rfl, rfl, Below.refl _ _⟩)); (try simp only [Act.put, List.setIfInBounds_toArray, List.set_cons_zero, List.set_cons_succ])))
  refine relQ_nil (fun x => ?_)
  repeat (refine relL_quiet rfl ?_)
  refine relL_loud rfl (fun w' hw' _ => ?_) ?_
  · unfold Yl
    go_wp2_with fail
    exact ⟨rfl, _, rfl, below_alloc (Below.refl _ _) _, _, rfl, hw'.size, blk_new _ _⟩
  (try simp only [Act.put, List.setIfInBounds_toArray, List.set_cons_zero, List.set_cons_succ])
  refine relL_nil (fun w' hw' hR => ?_)
  obtain ⟨g, hg0, hg1, hg2⟩ := hR 19 (by decide) rfl
  have hxe : x 19 = .pointer (some ⟨g, 0, none⟩) := by simpa using hg0
  rw [hxe]
  clear hxe hg0 hR
  clear d0 d1 d2 d3 d4 d5 d6 d7
  have HB1 := Aside0.mk (below_then HWb.out HWb.out.size hw')
  have HX1 := Aside0.mk (blk_below HX.out hw')
  have hgw := Nat.le_trans HWb.out.size hg1
  have hxl := blk_lt HX.out
  have hgl := blk_lt hg2
  have f0 := blk_frozen hg2 0
  have e0 := blk_cell hg2 0
  have f1 := blk_frozen hg2 1
  have e1 := blk_cell hg2 1
  have f2 := blk_frozen hg2 2
  have e2 := blk_cell hg2 2
  have f3 := blk_frozen hg2 3
  have e3 := blk_cell hg2 3
  have f4 := blk_frozen hg2 4
  have e4 := blk_cell hg2 4
  simp at e0 e1 e2 e3 e4
  have HG1 := Aside0.mk hg2
  clear hg2 hw'
  go_wp2_with fail
  have hG2 := blk_set (blk_set (blk_set (blk_set (blk_set HG1.out 0 (.int .i64 b0)) 1 (.int .i64 (b1 / 16))) 2 (.int .i64 (b1 % 16))) 3 (.int .i64 b2)) 4 (.int .i64 0)
  have hX2 := blk_far (blk_far (blk_far (blk_far (blk_far HX1.out (p := ⟨g, 0, none⟩) (by show w.heap.size ≠ g; omega) (.int .i64 b0)) (p := ⟨g, 1, none⟩) (by show w.heap.size ≠ g; omega) (.int .i64 (b1 / 16))) (p := ⟨g, 2, none⟩) (by show w.heap.size ≠ g; omega) (.int .i64 (b1 % 16))) (p := ⟨g, 3, none⟩) (by show w.heap.size ≠ g; omega) (.int .i64 b2)) (p := ⟨g, 4, none⟩) (by show w.heap.size ≠ g; omega) (.int .i64 0)
  have hB2 := ((((HB1.out.setCell (p := ⟨g, 0, none⟩) hgw (.int .i64 b0)).setCell (p := ⟨g, 1, none⟩) hgw (.int .i64 (b1 / 16))).setCell (p := ⟨g, 2, none⟩) hgw (.int .i64 (b1 % 16))).setCell (p := ⟨g, 3, none⟩) hgw (.int .i64 b2)).setCell (p := ⟨g, 4, none⟩) hgw (.int .i64 0)
  obtain ⟨W2, hW2⟩ : ∃ W2, (((((w'.setCell ⟨g, 0, none⟩ (.int .i64 b0)).setCell ⟨g, 1, none⟩ (.int .i64 (b1 / 16))).setCell ⟨g, 2, none⟩ (.int .i64 (b1 % 16))).setCell ⟨g, 3, none⟩ (.int .i64 b2)).setCell ⟨g, 4, none⟩ (.int .i64 0)) = W2 := ⟨_, rfl⟩
  rw [hW2] at hG2 hX2 hB2 ⊢
  simp only [List.setIfInBounds_toArray, List.set_cons_zero, List.set_cons_succ] at hG2
  clear hW2 e0 e1 e2 e3 e4 f0 f1 f2 f3 f4 HG1 HX1 HB1 hgl
  have d0 := pw_cell_below hB2 c0
  have d1 := pw_cell_below hB2 c1
  have d2 := pw_cell_below hB2 c2
  have d3 := pw_cell_below hB2 c3
  have d4 := pw_cell_below hB2 c4
  have d5 := pw_cell_below hB2 c5
  have d6 := pw_cell_below hB2 c6
  have d7 := pw_cell_below hB2 c7
  have HG2 := Aside0.mk hG2
  have HX2 := Aside0.mk hX2
  have HB2 := Aside0.mk hB2
  clear hG2 hX2 hB2
  refine wp_region_rel 23 (fun _ => none) (fun _ => []) (fun _ _ _ => True) (fun w' => Below W2.heap.size W2 w') (fun a b => Below a.heap.size a b) (by kernel_rfl) (by kernel_rfl) (below_drew (Below.refl _ _)) (fun a b h k => below_then h h.size k) (fun _ _ _ _ _ _ => trivial) ?_
  simp only [List.take_succ_cons, List.take_zero, List.drop_succ_cons, List.drop_zero]
  iterate 23 (apply relQ_step rfl; apply Exists.intro; constructor; (focus (intro w' hw'; have d4 := pw_cell_below hw' d4; have d5 := pw_cell_below hw' d5; have d6 := pw_cell_below hw' d6; have d7 := pw_cell_below hw' d7; unfold Yl; go_wp2_with fail; exact ⟨rfl, _, rfl, rfl, Below.refl _ _⟩)); (try simp only [Act.put, List.setIfInBounds_toArray, List.set_cons_zero, List.set_cons_succ]))
  refine relQ_nil (fun x => ?_)
  repeat (refine relL_quiet rfl ?_)
  refine relL_nil (fun w3 hb hR => ?_)
  clear hR x d0 d1 d2 d3 d4 d5 d6 d7
  have hG3 := blk_below HG2.out hb
  have HX3 := Aside0.mk (blk_below HX2.out hb)
  have HB3 := Aside0.mk (below_then HB2.out HB2.out.size hb)
  clear hb HG2 HX2 HB2
  have f0 := blk_frozen hG3 0
  have e0 := blk_cell hG3 0
  have f1 := blk_frozen hG3 1
  have e1 := blk_cell hG3 1
  have f2 := blk_frozen hG3 2
  have e2 := blk_cell hG3 2
  have f3 := blk_frozen hG3 3
  have e3 := blk_cell hG3 3
  have f4 := blk_frozen hG3 4
  have e4 := blk_cell hG3 4
  simp at e0 e1 e2 e3 e4
  have hgl := blk_lt hG3
  have HG3 := Aside0.mk hG3
  clear hG3
  by_cases hbig : 2147483647 < b4 + 256 * b5 + 65536 * b6 + 16777216 * b7
  · rw [if_pos hbig] at hz
    subst hz
    go_wp2_with fail
    refine (swageref02_Right.calls k b0 (b1 / 16) (b1 % 16) b2 ((b4 + 256 * b5 + 65536 * b6 + 16777216 * b7) - 4294967296) t _ HR.out).mono ?_
    rintro e w4 ⟨rfl, hb4⟩
    have hG4 := blk_below (blk_set (blk_set HG3.out 4 (.int .i64 (b4 + 256 * b5 + 65536 * b6 + 16777216 * b7))) 4 (.int .i64 ((b4 + 256 * b5 + 65536 * b6 + 16777216 * b7) - 4294967296))) hb4
    have hX4 := blk_below (blk_far (blk_far HX3.out (p := ⟨g, 4, none⟩) (by show w.heap.size ≠ g; omega) (.int .i64 (b4 + 256 * b5 + 65536 * b6 + 16777216 * b7))) (p := ⟨g, 4, none⟩) (by show w.heap.size ≠ g; omega) (.int .i64 ((b4 + 256 * b5 + 65536 * b6 + 16777216 * b7) - 4294967296))) hb4
    have hB4 := below_then ((HB3.out.setCell (p := ⟨g, 4, none⟩) hgw (.int .i64 (b4 + 256 * b5 + 65536 * b6 + 16777216 * b7))).setCell (p := ⟨g, 4, none⟩) hgw (.int .i64 ((b4 + 256 * b5 + 65536 * b6 + 16777216 * b7) - 4294967296))) ((HB3.out.setCell (p := ⟨g, 4, none⟩) hgw (.int .i64 (b4 + 256 * b5 + 65536 * b6 + 16777216 * b7))).setCell (p := ⟨g, 4, none⟩) hgw (.int .i64 ((b4 + 256 * b5 + 65536 * b6 + 16777216 * b7) - 4294967296))).size hb4
    simp only [List.setIfInBounds_toArray, List.set_cons_zero, List.set_cons_succ] at hG4
    clear hb4 e0 e1 e2 e3 e4 f0 f1 f2 f3 f4 hgl HG3 HX3 HB3
    have d3 := pw_cell_below hB4 c3
    have e0 := blk_cell hG4 0
    have x0 := blk_cell hX4 0
    have f0 := blk_frozen hX4 0
    have e1 := blk_cell hG4 1
    have x1 := blk_cell hX4 1
    have f1 := blk_frozen hX4 1
    have e2 := blk_cell hG4 2
    have x2 := blk_cell hX4 2
    have f2 := blk_frozen hX4 2
    have e3 := blk_cell hG4 3
    have x3 := blk_cell hX4 3
    have f3 := blk_frozen hX4 3
    have e4 := blk_cell hG4 4
    have x4 := blk_cell hX4 4
    have f4 := blk_frozen hX4 4
    simp at e0 e1 e2 e3 e4 x0 x1 x2 x3 x4
    have HB4 := Aside0.mk hB4
    clear hG4 hX4 hB4
    cases t with
    | true =>
      by_cases h3 : b3 = 0
      · subst h3
        go_wp2_with fail
        refine bodyPost_ret (v := .tuple #[.agg #[.int .i64 b0, .int .i64 (b1 / 16), .int .i64 (b1 % 16), .int .i64 b2, .int .i64 ((b4 + 256 * b5 + 65536 * b6 + 16777216 * b7) - 4294967296)], .int .i64 0]) (by simp [results, Tryd.results24, go_sem, x0, x1, x2, x3, x4]) rfl ⟨by simp, ?_⟩
        exact ((((HB4.out.setCell (p := ⟨w.heap.size, 0, none⟩) (Nat.le_refl _) _).setCell (p := ⟨w.heap.size, 1, none⟩) (Nat.le_refl _) _).setCell (p := ⟨w.heap.size, 2, none⟩) (Nat.le_refl _) _).setCell (p := ⟨w.heap.size, 3, none⟩) (Nat.le_refl _) _).setCell (p := ⟨w.heap.size, 4, none⟩) (Nat.le_refl _) _
      · have h8 : (b3 != 0) = true := bne_iff_ne.2 h3
        go_wp2_with fail
        next h => exact absurd h (by simp [h3])
        refine bodyPost_ret (v := .tuple #[.agg #[.int .i64 0, .int .i64 0, .int .i64 0, .int .i64 0, .int .i64 0], .int .i64 2]) (by simp [results, Tryd.results24, go_sem, x0, x1, x2, x3, x4]) rfl ⟨rfl, ?_⟩
        exact ((((HB4.out.setCell (p := ⟨w.heap.size, 0, none⟩) (Nat.le_refl _) _).setCell (p := ⟨w.heap.size, 1, none⟩) (Nat.le_refl _) _).setCell (p := ⟨w.heap.size, 2, none⟩) (Nat.le_refl _) _).setCell (p := ⟨w.heap.size, 3, none⟩) (Nat.le_refl _) _).setCell (p := ⟨w.heap.size, 4, none⟩) (Nat.le_refl _) _
    | false =>
      go_wp2_with fail
      refine bodyPost_ret (v := .tuple #[.agg #[.int .i64 0, .int .i64 0, .int .i64 0, .int .i64 0, .int .i64 0], .int .i64 2]) (by simp [results, Tryd.results24, go_sem, x0, x1, x2, x3, x4]) rfl ⟨by simp, ?_⟩
      exact ((((HB4.out.setCell (p := ⟨w.heap.size, 0, none⟩) (Nat.le_refl _) _).setCell (p := ⟨w.heap.size, 1, none⟩) (Nat.le_refl _) _).setCell (p := ⟨w.heap.size, 2, none⟩) (Nat.le_refl _) _).setCell (p := ⟨w.heap.size, 3, none⟩) (Nat.le_refl _) _).setCell (p := ⟨w.heap.size, 4, none⟩) (Nat.le_refl _) _
  · rw [if_neg hbig] at hz
    subst hz
    go_wp2_with fail
    refine (swageref02_Right.calls k b0 (b1 / 16) (b1 % 16) b2 (b4 + 256 * b5 + 65536 * b6 + 16777216 * b7) t _ HR.out).mono ?_
    rintro e w4 ⟨rfl, hb4⟩
    have hG4 := blk_below (blk_set HG3.out 4 (.int .i64 (b4 + 256 * b5 + 65536 * b6 + 16777216 * b7))) hb4
    have hX4 := blk_below (blk_far HX3.out (p := ⟨g, 4, none⟩) (by show w.heap.size ≠ g; omega) (.int .i64 (b4 + 256 * b5 + 65536 * b6 + 16777216 * b7))) hb4
    have hB4 := below_then (HB3.out.setCell (p := ⟨g, 4, none⟩) hgw (.int .i64 (b4 + 256 * b5 + 65536 * b6 + 16777216 * b7))) (HB3.out.setCell (p := ⟨g, 4, none⟩) hgw (.int .i64 (b4 + 256 * b5 + 65536 * b6 + 16777216 * b7))).size hb4
    simp only [List.setIfInBounds_toArray, List.set_cons_zero, List.set_cons_succ] at hG4
    clear hb4 e0 e1 e2 e3 e4 f0 f1 f2 f3 f4 hgl HG3 HX3 HB3
    have d3 := pw_cell_below hB4 c3
    have e0 := blk_cell hG4 0
    have x0 := blk_cell hX4 0
    have f0 := blk_frozen hX4 0
    have e1 := blk_cell hG4 1
    have x1 := blk_cell hX4 1
    have f1 := blk_frozen hX4 1
    have e2 := blk_cell hG4 2
    have x2 := blk_cell hX4 2
    have f2 := blk_frozen hX4 2
    have e3 := blk_cell hG4 3
    have x3 := blk_cell hX4 3
    have f3 := blk_frozen hX4 3
    have e4 := blk_cell hG4 4
    have x4 := blk_cell hX4 4
    have f4 := blk_frozen hX4 4
    simp at e0 e1 e2 e3 e4 x0 x1 x2 x3 x4
    have HB4 := Aside0.mk hB4
    clear hG4 hX4 hB4
    cases t with
    | true =>
      by_cases h3 : b3 = 0
      · subst h3
        go_wp2_with fail
        refine bodyPost_ret (v := .tuple #[.agg #[.int .i64 b0, .int .i64 (b1 / 16), .int .i64 (b1 % 16), .int .i64 b2, .int .i64 (b4 + 256 * b5 + 65536 * b6 + 16777216 * b7)], .int .i64 0]) (by simp [results, Tryd.results24, go_sem, x0, x1, x2, x3, x4]) rfl ⟨by simp, ?_⟩
        exact ((((HB4.out.setCell (p := ⟨w.heap.size, 0, none⟩) (Nat.le_refl _) _).setCell (p := ⟨w.heap.size, 1, none⟩) (Nat.le_refl _) _).setCell (p := ⟨w.heap.size, 2, none⟩) (Nat.le_refl _) _).setCell (p := ⟨w.heap.size, 3, none⟩) (Nat.le_refl _) _).setCell (p := ⟨w.heap.size, 4, none⟩) (Nat.le_refl _) _
      · have h8 : (b3 != 0) = true := bne_iff_ne.2 h3
        go_wp2_with fail
        next h => exact absurd h (by simp [h3])
        refine bodyPost_ret (v := .tuple #[.agg #[.int .i64 0, .int .i64 0, .int .i64 0, .int .i64 0, .int .i64 0], .int .i64 2]) (by simp [results, Tryd.results24, go_sem, x0, x1, x2, x3, x4]) rfl ⟨rfl, ?_⟩
        exact ((((HB4.out.setCell (p := ⟨w.heap.size, 0, none⟩) (Nat.le_refl _) _).setCell (p := ⟨w.heap.size, 1, none⟩) (Nat.le_refl _) _).setCell (p := ⟨w.heap.size, 2, none⟩) (Nat.le_refl _) _).setCell (p := ⟨w.heap.size, 3, none⟩) (Nat.le_refl _) _).setCell (p := ⟨w.heap.size, 4, none⟩) (Nat.le_refl _) _
    | false =>
      go_wp2_with fail
      refine bodyPost_ret (v := .tuple #[.agg #[.int .i64 0, .int .i64 0, .int .i64 0, .int .i64 0, .int .i64 0], .int .i64 2]) (by simp [results, Tryd.results24, go_sem, x0, x1, x2, x3, x4]) rfl ⟨by simp, ?_⟩
      exact ((((HB4.out.setCell (p := ⟨w.heap.size, 0, none⟩) (Nat.le_refl _) _).setCell (p := ⟨w.heap.size, 1, none⟩) (Nat.le_refl _) _).setCell (p := ⟨w.heap.size, 2, none⟩) (Nat.le_refl _) _).setCell (p := ⟨w.heap.size, 3, none⟩) (Nat.le_refl _) _).setCell (p := ⟨w.heap.size, 4, none⟩) (Nat.le_refl _) _
end Go.Proofs.YtfdkhahpjbikiaaDoor.S
namespace Go.Proofs.YtfdkhahpjbikiaaDoor.S
open Go.RowKit Go.Proofs.YtfdkhahpjbikiaaDoorW.PrintWords Go.Proofs.YtfdkhahpjbikiaaDoorW.PrintLast Go.Proofs.YtfdkhahpjbikiaaDoorW.PrintMore Go.RelRegion
set_option linter.unusedVariables false
set_option maxHeartbeats 8000000 in
theorem rdecLen (A0 : Option Addr) (n c0 : Nat) (w : World) (hn : n ≠ 8) (hm : n ≤ 9223372036854775807) :
    Calls Tryd.prog 24 #[.slice A0 n c0] w fun e w' => e = .returned (.tuple #[.agg #[.int .i64 0, .int .i64 0, .int .i64 0, .int .i64 0, .int .i64 0], .int .i64 2]) ∧ Below w.heap.size w w' := by
  have hu23 := Tryd.underlying23
  have h8 : ((n : Int) != 8) = true := bne_iff_ne.2 (by omega)
  go_enter Tryd.func24, Tryd.ntmps24
  go_wp2_with fail
  refine bodyPost_ret (v := .tuple #[.agg #[.int .i64 0, .int .i64 0, .int .i64 0, .int .i64 0, .int .i64 0], .int .i64 2]) (by simp [results, Tryd.results24, go_sem]) rfl ⟨rfl, ?_⟩
  repeat (first | (with_reducible exact Below.refl _ _) | (with_reducible apply below_alloc) | (with_reducible apply pw_below_drewN) | (with_reducible apply below_drew) | (with_reducible refine Below.setCell ?_ (by exact Nat.le_refl _) _))
/-- The immediate as the reference reads it. -/
def rimm (b4 b5 b6 b7 : Int) : Int := if 2147483647 < b4 + 256 * b5 + 65536 * b6 + 16777216 * b7 then b4 + 256 * b5 + 65536 * b6 + 16777216 * b7 - 4294967296 else b4 + 256 * b5 + 65536 * b6 + 16777216 * b7
def swageref02_Decode.f (k : Nat) (l : List Int) : Option (Int × Int × Int × Int × Int × Int) :=
  if l.length = 8 then
    if ∀ x ∈ l, 0 ≤ x ∧ x ≤ 255 then
      (swageref02_Right.f k (rd l 0) (rd l 1 / 16) (rd l 1 % 16) (rd l 2) (rimm (rd l 4) (rd l 5) (rd l 6) (rd l 7))).bind fun t =>
      if (t && rd l 3 == 0) = true then some (rd l 0, rd l 1 / 16, rd l 1 % 16, rd l 2, rimm (rd l 4) (rd l 5) (rd l 6) (rd l 7), 0) else some (0, 0, 0, 0, 0, 2)
    else none
  else if l.length ≤ 9223372036854775807 then some (0, 0, 0, 0, 0, 2) else none
theorem swageref02_Decode.mono : ∀ a0 k, LeO (swageref02_Decode.f k a0) (swageref02_Decode.f (k + 1) a0) := by
  intro a0 k
  unfold swageref02_Decode.f
  refine LeO.ite (LeO.ite ?_ (LeO.none _)) (LeO.refl _)
  exact LeO.bind (swageref02_Right.mono _ _ _ _ _ _) (fun _ => LeO.refl _)
theorem swageref02_Decode.calls (k : Nat) (A0 : Option Addr) (c0 : Nat) (l0 : List Int) (r1 : Int) (r2 : Int) (r3 : Int) (r4 : Int) (r5 : Int) (r6 : Int) (w : World) (hr0 : Kd.C (Kd.int .u8) w A0 l0.length l0) (hc0 : l0.length ≤ c0) (h : swageref02_Decode.f k l0 = some (r1, r2, r3, r4, r5, r6)) :
    Calls Tryd.prog 24 #[.slice A0 l0.length c0] w fun e w' => e = .returned (.tuple #[.agg #[.int .i64 r1, .int .i64 r2, .int .i64 r3, .int .i64 r4, .int .i64 r5], .int .i64 r6]) ∧ Below w.heap.size w w' := by
  unfold swageref02_Decode.f at h
  by_cases h8 : l0.length = 8
  · obtain ⟨b, off, rfl, hc⟩ := kint_cells hr0 (by omega)
    rw [h8] at hc hc0 ⊢
    rw [if_pos h8] at h
    split at h
    · rename_i hall
      cases hR : swageref02_Right.f k (rd l0 0) (rd l0 1 / 16) (rd l0 1 % 16) (rd l0 2) (rimm (rd l0 4) (rd l0 5) (rd l0 6) (rd l0 7)) with
      | none => rw [hR] at h; cases h
      | some t =>
        rw [hR] at h
        simp only [Option.bind_some] at h
        have hb : ∀ j, j < 8 → 0 ≤ l0.getD j 0 ∧ l0.getD j 0 ≤ 255 := fun j hj => by
          have hj' : j < l0.length := by omega
          have e : l0.getD j 0 = l0[j] := by simp [List.getD_eq_getElem?_getD, hj']
          rw [e]
          exact hall _ (List.getElem_mem _)
        refine (rdec8 k (rimm (rd l0 4) (rd l0 5) (rd l0 6) (rd l0 7)) b off c0 (rd l0 0) (rd l0 1) (rd l0 2) (rd l0 3) (rd l0 4) (rd l0 5) (rd l0 6) (rd l0 7) w hc0 (hc 0 (by omega)) (hc 1 (by omega)) (hc 2 (by omega)) (hc 3 (by omega)) (hc 4 (by omega)) (hc 5 (by omega)) (hc 6 (by omega)) (hc 7 (by omega))
          (hb 0 (by omega)).1 (hb 0 (by omega)).2 (hb 1 (by omega)).1 (hb 1 (by omega)).2 (hb 2 (by omega)).1 (hb 2 (by omega)).2 (hb 4 (by omega)).1 (hb 4 (by omega)).2 (hb 5 (by omega)).1 (hb 5 (by omega)).2 (hb 6 (by omega)).1 (hb 6 (by omega)).2 (hb 7 (by omega)).1 (hb 7 (by omega)).2 rfl t hR).mono ?_
        rintro e w' ⟨rfl, hbw⟩
        refine ⟨?_, hbw⟩
        by_cases ht : (t && rd l0 3 == 0) = true
        · rw [if_pos ht] at h ⊢; injection h with h; injection h with e1 h; injection h with e2 h; injection h with e3 h; injection h with e4 h; injection h with e5 e6; subst e1 e2 e3 e4 e5 e6; rfl
        · rw [if_neg ht] at h ⊢; injection h with h; injection h with e1 h; injection h with e2 h; injection h with e3 h; injection h with e4 h; injection h with e5 e6; subst e1 e2 e3 e4 e5 e6; rfl
    · cases h
  · rw [if_neg h8] at h
    split at h
    · injection h with h; injection h with e1 h; injection h with e2 h; injection h with e3 h; injection h with e4 h; injection h with e5 e6; subst e1 e2 e3 e4 e5 e6
      exact rdecLen A0 l0.length c0 w h8 ‹_›
    · cases h
end Go.Proofs.YtfdkhahpjbikiaaDoor.S
