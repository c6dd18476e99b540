import Derived.Test.YtfdkhahpjbikiaaDoorOsmall
import Derived.Test.YtfdkhahpjbikiaaDoorOdec
import Derived.Test.YtfdkhahpjbikiaaDoorS6
namespace Go.Proofs.YtfdkhahpjbikiaaDoor.S
open Go.RowKit Go.Proofs.YtfdkhahpjbikiaaDoorW.PrintWords Go.Proofs.YtfdkhahpjbikiaaDoorW.PrintLast Go.Proofs.YtfdkhahpjbikiaaDoorW.PrintMore Go.RelRegion
set_option linter.unusedVariables false
attribute [local go_sem high] eqA23
set_option maxHeartbeats 8000000 in
set_option maxRecDepth 100000 in
theorem apart_NG (k : Nat) (a b c d i a' b' c' d' i' z0 z1 z2 z3 z4 e2 : Int) (l1 l2 l : List Int) (t1 t2 : ByteArray) (A0 : Option Addr) (c0 : Nat) (w : World) (hGL : GL w) (hl : Kd.C (Kd.int .u8) w A0 l.length l) (hc : l.length ≤ c0)
    (h1 : inst_Encode.f k a b c d i = some (l1, 1)) (h2 : inst_Encode.f k a' b' c' d' i' = some (l2, e2)) (h3 : inst_Right.f k a b c d i = some false) (h6 : 1024 < (l.length : Int)) :
    Calls Tryd.prog 3 #[.agg #[.int .i64 a, .int .i64 b, .int .i64 c, .int .i64 d, .int .i64 i], .agg #[.int .i64 a', .int .i64 b', .int .i64 c', .int .i64 d', .int .i64 i'], .slice A0 l.length c0] w fun e w' => e = .returned (.bool true) ∧ Below w.heap.size w w' := by
  have A1 := Aside0.mk h1
  have A2 := Aside0.mk h2
  have A3 := Aside0.mk h3
  have HG0 := Aside0.mk hGL
  have HL0 := Aside0.mk hl
  clear h1 h2 h3 hGL hl
  have hu23 := Tryd.underlying23
  go_enter Tryd.func3, Tryd.ntmps3
  go_wp2_with fail
  obtain ⟨w2, hW⟩ : ∃ W, (w.alloc (.cells #[.int .i64 a, .int .i64 b, .int .i64 c, .int .i64 d, .int .i64 i] 23)).alloc (.cells #[.int .i64 a', .int .i64 b', .int .i64 c', .int .i64 d', .int .i64 i'] 23) = W := ⟨_, rfl⟩
  rw [hW]
  have hb := below_alloc (below_alloc (Below.refl w.heap.size w) (.cells #[.int .i64 a, .int .i64 b, .int .i64 c, .int .i64 d, .int .i64 i] 23)) (.cells #[.int .i64 a', .int .i64 b', .int .i64 c', .int .i64 d', .int .i64 i'] 23)
  have hx := blk_alloc (blk_new w (.cells #[.int .i64 a, .int .i64 b, .int .i64 c, .int .i64 d, .int .i64 i] 23)) (.cells #[.int .i64 a', .int .i64 b', .int .i64 c', .int .i64 d', .int .i64 i'] 23)
  have hy := blk_new (w.alloc (.cells #[.int .i64 a, .int .i64 b, .int .i64 c, .int .i64 d, .int .i64 i] 23)) (.cells #[.int .i64 a', .int .i64 b', .int .i64 c', .int .i64 d', .int .i64 i'] 23)
  rw [show (w.alloc (.cells #[.int .i64 a, .int .i64 b, .int .i64 c, .int .i64 d, .int .i64 i] 23)).heap.size = w.heap.size + 1 by simp only [World.alloc, Array.size_push]] at hy
  rw [hW] at hb hx hy
  have HX2 := Aside0.mk hx
  have HY2 := Aside0.mk hy
  have HB2 := Aside0.mk hb
  have HG2 := Aside0.mk (GL.below HG0.out hb)
  have HL2 := Aside0.mk (Kd.C_below HL0.out hb)
  clear hx hy hb HG0 HL0 hW
  refine (swagelaw02_small.calls true _ HG2 rfl).mono ?_
  rintro e w3 ⟨rfl, hb⟩
  have HX3 := Aside0.mk (blk_below HX2.out hb)
  have HY3 := Aside0.mk (blk_below HY2.out hb)
  have HB3 := Aside0.mk (below_then HB2.out (below_size HB2.out) hb)
  have HG3 := Aside0.mk (GL.below HG2.out hb)
  have HL3 := Aside0.mk (Kd.C_below HL2.out hb)
  clear hb HB2 HG2 HL2 HX2 HY2
  have x0 := blk_cell HX3.out 0
  have x1 := blk_cell HX3.out 1
  have x2 := blk_cell HX3.out 2
  have x3 := blk_cell HX3.out 3
  have x4 := blk_cell HX3.out 4
  simp at x0 x1 x2 x3 x4
  have y0 := blk_cell HY3.out 0
  have y1 := blk_cell HY3.out 1
  have y2 := blk_cell HY3.out 2
  have y3 := blk_cell HY3.out 3
  have y4 := blk_cell HY3.out 4
  simp at y0 y1 y2 y3 y4

  go_wp2_with fail
  refine (inst_Encode.calls k a b c d i l1 _ w3 A1.out).mono ?_
  rintro e w4 ⟨v4, rfl, hr, hb⟩
  obtain ⟨A4', k4, rfl, hk4, hc4⟩ := Kd.R_reads hr
  clear hr
  have HX4 := Aside0.mk (blk_below HX3.out hb)
  have HY4 := Aside0.mk (blk_below HY3.out hb)
  have HB4 := Aside0.mk (below_then HB3.out (below_size HB3.out) hb)
  have HG4 := Aside0.mk (GL.below HG3.out hb)
  have HL4 := Aside0.mk (Kd.C_below HL3.out hb)
  clear hb HB3 HG3 HL3 HX3 HY3
  clear x0 x1 x2 x3 x4 y0 y1 y2 y3 y4
  have x0 := blk_cell HX4.out 0
  have x1 := blk_cell HX4.out 1
  have x2 := blk_cell HX4.out 2
  have x3 := blk_cell HX4.out 3
  have x4 := blk_cell HX4.out 4
  simp at x0 x1 x2 x3 x4
  have y0 := blk_cell HY4.out 0
  have y1 := blk_cell HY4.out 1
  have y2 := blk_cell HY4.out 2
  have y3 := blk_cell HY4.out 3
  have y4 := blk_cell HY4.out 4
  simp at y0 y1 y2 y3 y4
  have HC4 := Aside0.mk hc4
  clear hc4
  go_wp2_with fail
  refine (inst_Encode.calls k a' b' c' d' i' l2 _ w4 A2.out).mono ?_
  rintro e w5 ⟨v5, rfl, hr, hb⟩
  obtain ⟨A5', k5, rfl, hk5, hc5⟩ := Kd.R_reads hr
  clear hr
  have HX5 := Aside0.mk (blk_below HX4.out hb)
  have HY5 := Aside0.mk (blk_below HY4.out hb)
  have HB5 := Aside0.mk (below_then HB4.out (below_size HB4.out) hb)
  have HG5 := Aside0.mk (GL.below HG4.out hb)
  have HL5 := Aside0.mk (Kd.C_below HL4.out hb)
  have HC5 := Aside0.mk (Kd.C_below HC4.out hb)
  clear hb HB4 HG4 HL4 HC4 HX4 HY4
  clear x0 x1 x2 x3 x4 y0 y1 y2 y3 y4
  have x0 := blk_cell HX5.out 0
  have x1 := blk_cell HX5.out 1
  have x2 := blk_cell HX5.out 2
  have x3 := blk_cell HX5.out 3
  have x4 := blk_cell HX5.out 4
  simp at x0 x1 x2 x3 x4
  have y0 := blk_cell HY5.out 0
  have y1 := blk_cell HY5.out 1
  have y2 := blk_cell HY5.out 2
  have y3 := blk_cell HY5.out 3
  have y4 := blk_cell HY5.out 4
  simp at y0 y1 y2 y3 y4
  have HD5 := Aside0.mk hc5
  clear hc5
  go_wp2_with fail
  have hs0 := HC5.out
  have hd0 := HD5.out
  refine wp_region_rel 35 (fun _ => none) (fun _ => []) (fun _ _ _ => True) (fun w' => Below w5.heap.size w5 w') (fun a b => Below a.heap.size a b) (by kernel_rfl) (by kernel_rfl) (below_drew (Below.refl _ _)) (fun a b h k => below_then h h.size k) (fun _ _ _ _ _ _ => trivial) ?_
  simp only [List.take_succ_cons, List.take_zero, List.drop_succ_cons, List.drop_zero]
  iterate 35 (apply relQ_step rfl; apply Exists.intro; constructor; (focus (intro w' hw'; have x0 := pw_cell_below hw' x0; have x1 := pw_cell_below hw' x1; have x2 := pw_cell_below hw' x2; have x3 := pw_cell_below hw' x3; have x4 := pw_cell_below hw' x4; have y0 := pw_cell_below hw' y0; have y1 := pw_cell_below hw' y1; have y2 := pw_cell_below hw' y2; have y3 := pw_cell_below hw' y3; have y4 := pw_cell_below hw' y4; have hs := Kd.C_string (P := Tryd.prog) (src := 24) (dst := 9) (c := k4) Tryd.underlying24 Tryd.underlying5 Tryd.underlying9 (Kd.C_below hs0 hw'); have hd := Kd.C_string (P := Tryd.prog) (src := 24) (dst := 9) (c := k5) Tryd.underlying24 Tryd.underlying5 Tryd.underlying9 (Kd.C_below hd0 hw'); unfold Yl; go_wp2_with (first | (go_at_call 11; refine (inst_Right.calls k a b c d i _ _ A3.out).mono ?_; rintro e w2 ⟨rfl, hb⟩)); first | exact ⟨rfl, _, rfl, rfl, hb⟩ | exact ⟨rfl, _, rfl, rfl, Below.refl _ _⟩)); (try simp only [Act.put, List.setIfInBounds_toArray, List.set_cons_zero, List.set_cons_succ]))
  refine relQ_nil (fun x => ?_)
  repeat (refine relL_quiet rfl ?_)
  refine relL_nil (fun w6 hb hR => ?_)
  clear hR hs0 hd0 x0 x1 x2 x3 x4 y0 y1 y2 y3 y4 HC5 HD5
  have HB6 := Aside0.mk (below_then HB5.out (below_size HB5.out) hb)
  have HG6 := Aside0.mk (GL.below HG5.out hb)
  have HL6 := Aside0.mk (Kd.C_below HL5.out hb)
  clear hb HB5 HG5 HL5
  go_wp2_with fail
  refine bodyPost_ret (v := .bool true) (by simp [results, Tryd.results3, go_sem]) rfl ⟨rfl, ?_⟩
  repeat (first | (with_reducible exact HB6.out) | (with_reducible exact Below.refl _ _) | (with_reducible apply below_alloc) | (with_reducible apply pw_below_drewN) | (with_reducible apply below_drew))
set_option maxHeartbeats 8000000 in
set_option maxRecDepth 100000 in
theorem apart_NW (k : Nat) (a b c d i a' b' c' d' i' z0 z1 z2 z3 z4 e2 : Int) (l1 l2 l : List Int) (t1 t2 : ByteArray) (A0 : Option Addr) (c0 : Nat) (w : World) (hGL : GL w) (hl : Kd.C (Kd.int .u8) w A0 l.length l) (hc : l.length ≤ c0)
    (h1 : inst_Encode.f k a b c d i = some (l1, 1)) (h2 : inst_Encode.f k a' b' c' d' i' = some (l2, e2)) (h3 : inst_Right.f k a b c d i = some false) (h6 : (l.length : Int) ≤ 1024) (h7 : inst_Decode.f k l = some (0, 0, 0, 0, 0, 2)) :
    Calls Tryd.prog 3 #[.agg #[.int .i64 a, .int .i64 b, .int .i64 c, .int .i64 d, .int .i64 i], .agg #[.int .i64 a', .int .i64 b', .int .i64 c', .int .i64 d', .int .i64 i'], .slice A0 l.length c0] w fun e w' => e = .returned (.bool true) ∧ Below w.heap.size w w' := by
  have A1 := Aside0.mk h1
  have A2 := Aside0.mk h2
  have A3 := Aside0.mk h3
  have A7 := Aside0.mk h7
  have HG0 := Aside0.mk hGL
  have HL0 := Aside0.mk hl
  clear h1 h2 h3 h7 hGL hl
  have hu23 := Tryd.underlying23
  go_enter Tryd.func3, Tryd.ntmps3
  go_wp2_with fail
  obtain ⟨w2, hW⟩ : ∃ W, (w.alloc (.cells #[.int .i64 a, .int .i64 b, .int .i64 c, .int .i64 d, .int .i64 i] 23)).alloc (.cells #[.int .i64 a', .int .i64 b', .int .i64 c', .int .i64 d', .int .i64 i'] 23) = W := ⟨_, rfl⟩
  rw [hW]
  have hb := below_alloc (below_alloc (Below.refl w.heap.size w) (.cells #[.int .i64 a, .int .i64 b, .int .i64 c, .int .i64 d, .int .i64 i] 23)) (.cells #[.int .i64 a', .int .i64 b', .int .i64 c', .int .i64 d', .int .i64 i'] 23)
  have hx := blk_alloc (blk_new w (.cells #[.int .i64 a, .int .i64 b, .int .i64 c, .int .i64 d, .int .i64 i] 23)) (.cells #[.int .i64 a', .int .i64 b', .int .i64 c', .int .i64 d', .int .i64 i'] 23)
  have hy := blk_new (w.alloc (.cells #[.int .i64 a, .int .i64 b, .int .i64 c, .int .i64 d, .int .i64 i] 23)) (.cells #[.int .i64 a', .int .i64 b', .int .i64 c', .int .i64 d', .int .i64 i'] 23)
  rw [show (w.alloc (.cells #[.int .i64 a, .int .i64 b, .int .i64 c, .int .i64 d, .int .i64 i] 23)).heap.size = w.heap.size + 1 by simp only [World.alloc, Array.size_push]] at hy
  rw [hW] at hb hx hy
  have HX2 := Aside0.mk hx
  have HY2 := Aside0.mk hy
  have HB2 := Aside0.mk hb
  have HG2 := Aside0.mk (GL.below HG0.out hb)
  have HL2 := Aside0.mk (Kd.C_below HL0.out hb)
  clear hx hy hb HG0 HL0 hW
  refine (swagelaw02_small.calls true _ HG2 rfl).mono ?_
  rintro e w3 ⟨rfl, hb⟩
  have HX3 := Aside0.mk (blk_below HX2.out hb)
  have HY3 := Aside0.mk (blk_below HY2.out hb)
  have HB3 := Aside0.mk (below_then HB2.out (below_size HB2.out) hb)
  have HG3 := Aside0.mk (GL.below HG2.out hb)
  have HL3 := Aside0.mk (Kd.C_below HL2.out hb)
  clear hb HB2 HG2 HL2 HX2 HY2
  have x0 := blk_cell HX3.out 0
  have x1 := blk_cell HX3.out 1
  have x2 := blk_cell HX3.out 2
  have x3 := blk_cell HX3.out 3
  have x4 := blk_cell HX3.out 4
  simp at x0 x1 x2 x3 x4
  have y0 := blk_cell HY3.out 0
  have y1 := blk_cell HY3.out 1
  have y2 := blk_cell HY3.out 2
  have y3 := blk_cell HY3.out 3
  have y4 := blk_cell HY3.out 4
  simp at y0 y1 y2 y3 y4

  go_wp2_with fail
  refine (inst_Encode.calls k a b c d i l1 _ w3 A1.out).mono ?_
  rintro e w4 ⟨v4, rfl, hr, hb⟩
  obtain ⟨A4', k4, rfl, hk4, hc4⟩ := Kd.R_reads hr
  clear hr
  have HX4 := Aside0.mk (blk_below HX3.out hb)
  have HY4 := Aside0.mk (blk_below HY3.out hb)
  have HB4 := Aside0.mk (below_then HB3.out (below_size HB3.out) hb)
  have HG4 := Aside0.mk (GL.below HG3.out hb)
  have HL4 := Aside0.mk (Kd.C_below HL3.out hb)
  clear hb HB3 HG3 HL3 HX3 HY3
  clear x0 x1 x2 x3 x4 y0 y1 y2 y3 y4
  have x0 := blk_cell HX4.out 0
  have x1 := blk_cell HX4.out 1
  have x2 := blk_cell HX4.out 2
  have x3 := blk_cell HX4.out 3
  have x4 := blk_cell HX4.out 4
  simp at x0 x1 x2 x3 x4
  have y0 := blk_cell HY4.out 0
  have y1 := blk_cell HY4.out 1
  have y2 := blk_cell HY4.out 2
  have y3 := blk_cell HY4.out 3
  have y4 := blk_cell HY4.out 4
  simp at y0 y1 y2 y3 y4
  have HC4 := Aside0.mk hc4
  clear hc4
  go_wp2_with fail
  refine (inst_Encode.calls k a' b' c' d' i' l2 _ w4 A2.out).mono ?_
  rintro e w5 ⟨v5, rfl, hr, hb⟩
  obtain ⟨A5', k5, rfl, hk5, hc5⟩ := Kd.R_reads hr
  clear hr
  have HX5 := Aside0.mk (blk_below HX4.out hb)
  have HY5 := Aside0.mk (blk_below HY4.out hb)
  have HB5 := Aside0.mk (below_then HB4.out (below_size HB4.out) hb)
  have HG5 := Aside0.mk (GL.below HG4.out hb)
  have HL5 := Aside0.mk (Kd.C_below HL4.out hb)
  have HC5 := Aside0.mk (Kd.C_below HC4.out hb)
  clear hb HB4 HG4 HL4 HC4 HX4 HY4
  clear x0 x1 x2 x3 x4 y0 y1 y2 y3 y4
  have x0 := blk_cell HX5.out 0
  have x1 := blk_cell HX5.out 1
  have x2 := blk_cell HX5.out 2
  have x3 := blk_cell HX5.out 3
  have x4 := blk_cell HX5.out 4
  simp at x0 x1 x2 x3 x4
  have y0 := blk_cell HY5.out 0
  have y1 := blk_cell HY5.out 1
  have y2 := blk_cell HY5.out 2
  have y3 := blk_cell HY5.out 3
  have y4 := blk_cell HY5.out 4
  simp at y0 y1 y2 y3 y4
  have HD5 := Aside0.mk hc5
  clear hc5
  go_wp2_with fail
  have hs0 := HC5.out
  have hd0 := HD5.out
  refine wp_region_rel 35 (fun _ => none) (fun _ => []) (fun _ _ _ => True) (fun w' => Below w5.heap.size w5 w') (fun a b => Below a.heap.size a b) (by kernel_rfl) (by kernel_rfl) (below_drew (Below.refl _ _)) (fun a b h k => below_then h h.size k) (fun _ _ _ _ _ _ => trivial) ?_
  simp only [List.take_succ_cons, List.take_zero, List.drop_succ_cons, List.drop_zero]
  iterate 35 (apply relQ_step rfl; apply Exists.intro; constructor; (focus (intro w' hw'; have x0 := pw_cell_below hw' x0; have x1 := pw_cell_below hw' x1; have x2 := pw_cell_below hw' x2; have x3 := pw_cell_below hw' x3; have x4 := pw_cell_below hw' x4; have y0 := pw_cell_below hw' y0; have y1 := pw_cell_below hw' y1; have y2 := pw_cell_below hw' y2; have y3 := pw_cell_below hw' y3; have y4 := pw_cell_below hw' y4; have hs := Kd.C_string (P := Tryd.prog) (src := 24) (dst := 9) (c := k4) Tryd.underlying24 Tryd.underlying5 Tryd.underlying9 (Kd.C_below hs0 hw'); have hd := Kd.C_string (P := Tryd.prog) (src := 24) (dst := 9) (c := k5) Tryd.underlying24 Tryd.underlying5 Tryd.underlying9 (Kd.C_below hd0 hw'); unfold Yl; go_wp2_with (first | (go_at_call 11; refine (inst_Right.calls k a b c d i _ _ A3.out).mono ?_; rintro e w2 ⟨rfl, hb⟩)); first | exact ⟨rfl, _, rfl, rfl, hb⟩ | exact ⟨rfl, _, rfl, rfl, Below.refl _ _⟩)); (try simp only [Act.put, List.setIfInBounds_toArray, List.set_cons_zero, List.set_cons_succ]))
  refine relQ_nil (fun x => ?_)
  repeat (refine relL_quiet rfl ?_)
  refine relL_nil (fun w6 hb hR => ?_)
  clear hR hs0 hd0 x0 x1 x2 x3 x4 y0 y1 y2 y3 y4 HC5 HD5
  have HB6 := Aside0.mk (below_then HB5.out (below_size HB5.out) hb)
  have HG6 := Aside0.mk (GL.below HG5.out hb)
  have HL6 := Aside0.mk (Kd.C_below HL5.out hb)
  clear hb HB5 HG5 HL5
  go_wp2_with fail
  refine (inst_Decode.calls k A0 c0 l _ _ _ _ _ _ w6 HL6.out hc A7.out).mono ?_
  rintro e w7 ⟨rfl, hb⟩
  have HB7 := Aside0.mk (below_then HB6.out (below_size HB6.out) hb)
  have HG7 := Aside0.mk (GL.below HG6.out hb)
  have HL7 := Aside0.mk (Kd.C_below HL6.out hb)
  clear hb HB6 HG6 HL6
  go_wp2_with fail
  refine bodyPost_ret (v := .bool true) (by simp [results, Tryd.results3, go_sem]) rfl ⟨rfl, ?_⟩
  repeat (first | (with_reducible exact HB7.out) | (with_reducible exact Below.refl _ _) | (with_reducible apply below_alloc) | (with_reducible apply pw_below_drewN) | (with_reducible apply below_drew))
set_option maxHeartbeats 8000000 in
set_option maxRecDepth 100000 in
theorem apart_NR (k : Nat) (a b c d i a' b' c' d' i' z0 z1 z2 z3 z4 e2 : Int) (l1 l2 l : List Int) (t1 t2 : ByteArray) (A0 : Option Addr) (c0 : Nat) (w : World) (hGL : GL w) (hl : Kd.C (Kd.int .u8) w A0 l.length l) (hc : l.length ≤ c0)
    (h1 : inst_Encode.f k a b c d i = some (l1, 1)) (h2 : inst_Encode.f k a' b' c' d' i' = some (l2, e2)) (h3 : inst_Right.f k a b c d i = some false) (h6 : (l.length : Int) ≤ 1024) (h7 : inst_Decode.f k l = some (z0, z1, z2, z3, z4, 0)) (h8 : inst_Encode.f k z0 z1 z2 z3 z4 = some (l, 0)) (h9 : inst_Right.f k z0 z1 z2 z3 z4 = some true) :
    Calls Tryd.prog 3 #[.agg #[.int .i64 a, .int .i64 b, .int .i64 c, .int .i64 d, .int .i64 i], .agg #[.int .i64 a', .int .i64 b', .int .i64 c', .int .i64 d', .int .i64 i'], .slice A0 l.length c0] w fun e w' => e = .returned (.bool true) ∧ Below w.heap.size w w' := by
  have A1 := Aside0.mk h1
  have A2 := Aside0.mk h2
  have A3 := Aside0.mk h3
  have A7 := Aside0.mk h7
  have A8 := Aside0.mk h8
  have A9 := Aside0.mk h9
  have HG0 := Aside0.mk hGL
  have HL0 := Aside0.mk hl
  clear h1 h2 h3 h7 h8 h9 hGL hl
  have hu23 := Tryd.underlying23
  go_enter Tryd.func3, Tryd.ntmps3
  go_wp2_with fail
  obtain ⟨w2, hW⟩ : ∃ W, (w.alloc (.cells #[.int .i64 a, .int .i64 b, .int .i64 c, .int .i64 d, .int .i64 i] 23)).alloc (.cells #[.int .i64 a', .int .i64 b', .int .i64 c', .int .i64 d', .int .i64 i'] 23) = W := ⟨_, rfl⟩
  rw [hW]
  have hb := below_alloc (below_alloc (Below.refl w.heap.size w) (.cells #[.int .i64 a, .int .i64 b, .int .i64 c, .int .i64 d, .int .i64 i] 23)) (.cells #[.int .i64 a', .int .i64 b', .int .i64 c', .int .i64 d', .int .i64 i'] 23)
  have hx := blk_alloc (blk_new w (.cells #[.int .i64 a, .int .i64 b, .int .i64 c, .int .i64 d, .int .i64 i] 23)) (.cells #[.int .i64 a', .int .i64 b', .int .i64 c', .int .i64 d', .int .i64 i'] 23)
  have hy := blk_new (w.alloc (.cells #[.int .i64 a, .int .i64 b, .int .i64 c, .int .i64 d, .int .i64 i] 23)) (.cells #[.int .i64 a', .int .i64 b', .int .i64 c', .int .i64 d', .int .i64 i'] 23)
  rw [show (w.alloc (.cells #[.int .i64 a, .int .i64 b, .int .i64 c, .int .i64 d, .int .i64 i] 23)).heap.size = w.heap.size + 1 by simp only [World.alloc, Array.size_push]] at hy
  rw [hW] at hb hx hy
  have HX2 := Aside0.mk hx
  have HY2 := Aside0.mk hy
  have HB2 := Aside0.mk hb
  have HG2 := Aside0.mk (GL.below HG0.out hb)
  have HL2 := Aside0.mk (Kd.C_below HL0.out hb)
  clear hx hy hb HG0 HL0 hW
  refine (swagelaw02_small.calls true _ HG2 rfl).mono ?_
  rintro e w3 ⟨rfl, hb⟩
  have HX3 := Aside0.mk (blk_below HX2.out hb)
  have HY3 := Aside0.mk (blk_below HY2.out hb)
  have HB3 := Aside0.mk (below_then HB2.out (below_size HB2.out) hb)
  have HG3 := Aside0.mk (GL.below HG2.out hb)
  have HL3 := Aside0.mk (Kd.C_below HL2.out hb)
  clear hb HB2 HG2 HL2 HX2 HY2
  have x0 := blk_cell HX3.out 0
  have x1 := blk_cell HX3.out 1
  have x2 := blk_cell HX3.out 2
  have x3 := blk_cell HX3.out 3
  have x4 := blk_cell HX3.out 4
  simp at x0 x1 x2 x3 x4
  have y0 := blk_cell HY3.out 0
  have y1 := blk_cell HY3.out 1
  have y2 := blk_cell HY3.out 2
  have y3 := blk_cell HY3.out 3
  have y4 := blk_cell HY3.out 4
  simp at y0 y1 y2 y3 y4

  go_wp2_with fail
  refine (inst_Encode.calls k a b c d i l1 _ w3 A1.out).mono ?_
  rintro e w4 ⟨v4, rfl, hr, hb⟩
  obtain ⟨A4', k4, rfl, hk4, hc4⟩ := Kd.R_reads hr
  clear hr
  have HX4 := Aside0.mk (blk_below HX3.out hb)
  have HY4 := Aside0.mk (blk_below HY3.out hb)
  have HB4 := Aside0.mk (below_then HB3.out (below_size HB3.out) hb)
  have HG4 := Aside0.mk (GL.below HG3.out hb)
  have HL4 := Aside0.mk (Kd.C_below HL3.out hb)
  clear hb HB3 HG3 HL3 HX3 HY3
  clear x0 x1 x2 x3 x4 y0 y1 y2 y3 y4
  have x0 := blk_cell HX4.out 0
  have x1 := blk_cell HX4.out 1
  have x2 := blk_cell HX4.out 2
  have x3 := blk_cell HX4.out 3
  have x4 := blk_cell HX4.out 4
  simp at x0 x1 x2 x3 x4
  have y0 := blk_cell HY4.out 0
  have y1 := blk_cell HY4.out 1
  have y2 := blk_cell HY4.out 2
  have y3 := blk_cell HY4.out 3
  have y4 := blk_cell HY4.out 4
  simp at y0 y1 y2 y3 y4
  have HC4 := Aside0.mk hc4
  clear hc4
  go_wp2_with fail
  refine (inst_Encode.calls k a' b' c' d' i' l2 _ w4 A2.out).mono ?_
  rintro e w5 ⟨v5, rfl, hr, hb⟩
  obtain ⟨A5', k5, rfl, hk5, hc5⟩ := Kd.R_reads hr
  clear hr
  have HX5 := Aside0.mk (blk_below HX4.out hb)
  have HY5 := Aside0.mk (blk_below HY4.out hb)
  have HB5 := Aside0.mk (below_then HB4.out (below_size HB4.out) hb)
  have HG5 := Aside0.mk (GL.below HG4.out hb)
  have HL5 := Aside0.mk (Kd.C_below HL4.out hb)
  have HC5 := Aside0.mk (Kd.C_below HC4.out hb)
  clear hb HB4 HG4 HL4 HC4 HX4 HY4
  clear x0 x1 x2 x3 x4 y0 y1 y2 y3 y4
  have x0 := blk_cell HX5.out 0
  have x1 := blk_cell HX5.out 1
  have x2 := blk_cell HX5.out 2
  have x3 := blk_cell HX5.out 3
  have x4 := blk_cell HX5.out 4
  simp at x0 x1 x2 x3 x4
  have y0 := blk_cell HY5.out 0
  have y1 := blk_cell HY5.out 1
  have y2 := blk_cell HY5.out 2
  have y3 := blk_cell HY5.out 3
  have y4 := blk_cell HY5.out 4
  simp at y0 y1 y2 y3 y4
  have HD5 := Aside0.mk hc5
  clear hc5
  go_wp2_with fail
  have hs0 := HC5.out
  have hd0 := HD5.out
  refine wp_region_rel 35 (fun _ => none) (fun _ => []) (fun _ _ _ => True) (fun w' => Below w5.heap.size w5 w') (fun a b => Below a.heap.size a b) (by kernel_rfl) (by kernel_rfl) (below_drew (Below.refl _ _)) (fun a b h k => below_then h h.size k) (fun _ _ _ _ _ _ => trivial) ?_
  simp only [List.take_succ_cons, List.take_zero, List.drop_succ_cons, List.drop_zero]
  iterate 35 (apply relQ_step rfl; apply Exists.intro; constructor; (focus (intro w' hw'; have x0 := pw_cell_below hw' x0; have x1 := pw_cell_below hw' x1; have x2 := pw_cell_below hw' x2; have x3 := pw_cell_below hw' x3; have x4 := pw_cell_below hw' x4; have y0 := pw_cell_below hw' y0; have y1 := pw_cell_below hw' y1; have y2 := pw_cell_below hw' y2; have y3 := pw_cell_below hw' y3; have y4 := pw_cell_below hw' y4; have hs := Kd.C_string (P := Tryd.prog) (src := 24) (dst := 9) (c := k4) Tryd.underlying24 Tryd.underlying5 Tryd.underlying9 (Kd.C_below hs0 hw'); have hd := Kd.C_string (P := Tryd.prog) (src := 24) (dst := 9) (c := k5) Tryd.underlying24 Tryd.underlying5 Tryd.underlying9 (Kd.C_below hd0 hw'); unfold Yl; go_wp2_with (first | (go_at_call 11; refine (inst_Right.calls k a b c d i _ _ A3.out).mono ?_; rintro e w2 ⟨rfl, hb⟩)); first | exact ⟨rfl, _, rfl, rfl, hb⟩ | exact ⟨rfl, _, rfl, rfl, Below.refl _ _⟩)); (try simp only [Act.put, List.setIfInBounds_toArray, List.set_cons_zero, List.set_cons_succ]))
  refine relQ_nil (fun x => ?_)
  repeat (refine relL_quiet rfl ?_)
  refine relL_nil (fun w6 hb hR => ?_)
  clear hR hs0 hd0 x0 x1 x2 x3 x4 y0 y1 y2 y3 y4 HC5 HD5
  have HB6 := Aside0.mk (below_then HB5.out (below_size HB5.out) hb)
  have HG6 := Aside0.mk (GL.below HG5.out hb)
  have HL6 := Aside0.mk (Kd.C_below HL5.out hb)
  clear hb HB5 HG5 HL5
  go_wp2_with fail
  refine (inst_Decode.calls k A0 c0 l _ _ _ _ _ _ w6 HL6.out hc A7.out).mono ?_
  rintro e w7 ⟨rfl, hb⟩
  have HB7 := Aside0.mk (below_then HB6.out (below_size HB6.out) hb)
  have HG7 := Aside0.mk (GL.below HG6.out hb)
  have HL7 := Aside0.mk (Kd.C_below HL6.out hb)
  clear hb HB6 HG6 HL6
  go_wp2_with fail
  refine (inst_Encode.calls k z0 z1 z2 z3 z4 l _ _ A8.out).mono ?_
  rintro e w8 ⟨v8, rfl, hr, hb0⟩
  obtain ⟨A8', k8, rfl, hk8, hc8⟩ := Kd.R_reads hr
  have hb : Below w7.heap.size w7 w8 := below_then (below_alloc (Below.refl w7.heap.size w7) _) (below_size (below_alloc (Below.refl _ _) _)) hb0
  have HZ8 := Aside0.mk (blk_below (blk_new w7 (.cells #[.int .i64 z0, .int .i64 z1, .int .i64 z2, .int .i64 z3, .int .i64 z4] 23)) hb0)
  clear hr hb0
  have HB8 := Aside0.mk (below_then HB7.out (below_size HB7.out) hb)
  have HG8 := Aside0.mk (GL.below HG7.out hb)
  have HL8 := Aside0.mk (Kd.C_below HL7.out hb)
  clear hb HB7 HG7 HL7
  have zz0 := blk_cell HZ8.out 0
  have zz1 := blk_cell HZ8.out 1
  have zz2 := blk_cell HZ8.out 2
  have zz3 := blk_cell HZ8.out 3
  have zz4 := blk_cell HZ8.out 4
  simp at zz0 zz1 zz2 zz3 zz4
  go_wp2_with fail
  refine (inst_Right.calls k z0 z1 z2 z3 z4 _ w8 A9.out).mono ?_
  rintro e w9 ⟨rfl, hb⟩
  have hc9 := Kd.C_below hc8 hb
  have HB9 := Aside0.mk (below_then HB8.out (below_size HB8.out) hb)
  have HG9 := Aside0.mk (GL.below HG8.out hb)
  have HL9 := Aside0.mk (Kd.C_below HL8.out hb)
  clear hb HB8 HG8 HL8
  have hs := Kd.C_string (P := Tryd.prog) (src := 24) (dst := 9) (c := k8) Tryd.underlying24 Tryd.underlying5 Tryd.underlying9 hc9
  have hd := Kd.C_string (P := Tryd.prog) (src := 24) (dst := 9) (c := c0) Tryd.underlying24 Tryd.underlying5 Tryd.underlying9 HL9.out
  go_wp2_with fail
  refine bodyPost_ret (v := .bool true) (by simp [results, Tryd.results3, go_sem]) rfl ⟨rfl, ?_⟩
  repeat (first | (with_reducible exact HB9.out) | (with_reducible exact Below.refl _ _) | (with_reducible apply below_alloc) | (with_reducible apply pw_below_drewN) | (with_reducible apply below_drew))
set_option maxHeartbeats 8000000 in
set_option maxRecDepth 100000 in
theorem apart_MG (k : Nat) (a b c d i a' b' c' d' i' z0 z1 z2 z3 z4 e2 : Int) (l1 l2 l : List Int) (t1 t2 : ByteArray) (A0 : Option Addr) (c0 : Nat) (w : World) (hGL : GL w) (hl : Kd.C (Kd.int .u8) w A0 l.length l) (hc : l.length ≤ c0)
    (h1 : inst_Encode.f k a b c d i = some (l1, 0)) (h2 : inst_Encode.f k a' b' c' d' i' = some (l2, 1)) (h3 : inst_Right.f k a b c d i = some true) (h6 : 1024 < (l.length : Int)) :
    Calls Tryd.prog 3 #[.agg #[.int .i64 a, .int .i64 b, .int .i64 c, .int .i64 d, .int .i64 i], .agg #[.int .i64 a', .int .i64 b', .int .i64 c', .int .i64 d', .int .i64 i'], .slice A0 l.length c0] w fun e w' => e = .returned (.bool true) ∧ Below w.heap.size w w' := by
  have A1 := Aside0.mk h1
  have A2 := Aside0.mk h2
  have A3 := Aside0.mk h3
  have HG0 := Aside0.mk hGL
  have HL0 := Aside0.mk hl
  clear h1 h2 h3 hGL hl
  have hu23 := Tryd.underlying23
  go_enter Tryd.func3, Tryd.ntmps3
  go_wp2_with fail
  obtain ⟨w2, hW⟩ : ∃ W, (w.alloc (.cells #[.int .i64 a, .int .i64 b, .int .i64 c, .int .i64 d, .int .i64 i] 23)).alloc (.cells #[.int .i64 a', .int .i64 b', .int .i64 c', .int .i64 d', .int .i64 i'] 23) = W := ⟨_, rfl⟩
  rw [hW]
  have hb := below_alloc (below_alloc (Below.refl w.heap.size w) (.cells #[.int .i64 a, .int .i64 b, .int .i64 c, .int .i64 d, .int .i64 i] 23)) (.cells #[.int .i64 a', .int .i64 b', .int .i64 c', .int .i64 d', .int .i64 i'] 23)
  have hx := blk_alloc (blk_new w (.cells #[.int .i64 a, .int .i64 b, .int .i64 c, .int .i64 d, .int .i64 i] 23)) (.cells #[.int .i64 a', .int .i64 b', .int .i64 c', .int .i64 d', .int .i64 i'] 23)
  have hy := blk_new (w.alloc (.cells #[.int .i64 a, .int .i64 b, .int .i64 c, .int .i64 d, .int .i64 i] 23)) (.cells #[.int .i64 a', .int .i64 b', .int .i64 c', .int .i64 d', .int .i64 i'] 23)
  rw [show (w.alloc (.cells #[.int .i64 a, .int .i64 b, .int .i64 c, .int .i64 d, .int .i64 i] 23)).heap.size = w.heap.size + 1 by simp only [World.alloc, Array.size_push]] at hy
  rw [hW] at hb hx hy
  have HX2 := Aside0.mk hx
  have HY2 := Aside0.mk hy
  have HB2 := Aside0.mk hb
  have HG2 := Aside0.mk (GL.below HG0.out hb)
  have HL2 := Aside0.mk (Kd.C_below HL0.out hb)
  clear hx hy hb HG0 HL0 hW
  refine (swagelaw02_small.calls true _ HG2 rfl).mono ?_
  rintro e w3 ⟨rfl, hb⟩
  have HX3 := Aside0.mk (blk_below HX2.out hb)
  have HY3 := Aside0.mk (blk_below HY2.out hb)
  have HB3 := Aside0.mk (below_then HB2.out (below_size HB2.out) hb)
  have HG3 := Aside0.mk (GL.below HG2.out hb)
  have HL3 := Aside0.mk (Kd.C_below HL2.out hb)
  clear hb HB2 HG2 HL2 HX2 HY2
  have x0 := blk_cell HX3.out 0
  have x1 := blk_cell HX3.out 1
  have x2 := blk_cell HX3.out 2
  have x3 := blk_cell HX3.out 3
  have x4 := blk_cell HX3.out 4
  simp at x0 x1 x2 x3 x4
  have y0 := blk_cell HY3.out 0
  have y1 := blk_cell HY3.out 1
  have y2 := blk_cell HY3.out 2
  have y3 := blk_cell HY3.out 3
  have y4 := blk_cell HY3.out 4
  simp at y0 y1 y2 y3 y4

  go_wp2_with fail
  refine (inst_Encode.calls k a b c d i l1 _ w3 A1.out).mono ?_
  rintro e w4 ⟨v4, rfl, hr, hb⟩
  obtain ⟨A4', k4, rfl, hk4, hc4⟩ := Kd.R_reads hr
  clear hr
  have HX4 := Aside0.mk (blk_below HX3.out hb)
  have HY4 := Aside0.mk (blk_below HY3.out hb)
  have HB4 := Aside0.mk (below_then HB3.out (below_size HB3.out) hb)
  have HG4 := Aside0.mk (GL.below HG3.out hb)
  have HL4 := Aside0.mk (Kd.C_below HL3.out hb)
  clear hb HB3 HG3 HL3 HX3 HY3
  clear x0 x1 x2 x3 x4 y0 y1 y2 y3 y4
  have x0 := blk_cell HX4.out 0
  have x1 := blk_cell HX4.out 1
  have x2 := blk_cell HX4.out 2
  have x3 := blk_cell HX4.out 3
  have x4 := blk_cell HX4.out 4
  simp at x0 x1 x2 x3 x4
  have y0 := blk_cell HY4.out 0
  have y1 := blk_cell HY4.out 1
  have y2 := blk_cell HY4.out 2
  have y3 := blk_cell HY4.out 3
  have y4 := blk_cell HY4.out 4
  simp at y0 y1 y2 y3 y4
  have HC4 := Aside0.mk hc4
  clear hc4
  go_wp2_with fail
  refine (inst_Encode.calls k a' b' c' d' i' l2 _ w4 A2.out).mono ?_
  rintro e w5 ⟨v5, rfl, hr, hb⟩
  obtain ⟨A5', k5, rfl, hk5, hc5⟩ := Kd.R_reads hr
  clear hr
  have HX5 := Aside0.mk (blk_below HX4.out hb)
  have HY5 := Aside0.mk (blk_below HY4.out hb)
  have HB5 := Aside0.mk (below_then HB4.out (below_size HB4.out) hb)
  have HG5 := Aside0.mk (GL.below HG4.out hb)
  have HL5 := Aside0.mk (Kd.C_below HL4.out hb)
  have HC5 := Aside0.mk (Kd.C_below HC4.out hb)
  clear hb HB4 HG4 HL4 HC4 HX4 HY4
  clear x0 x1 x2 x3 x4 y0 y1 y2 y3 y4
  have x0 := blk_cell HX5.out 0
  have x1 := blk_cell HX5.out 1
  have x2 := blk_cell HX5.out 2
  have x3 := blk_cell HX5.out 3
  have x4 := blk_cell HX5.out 4
  simp at x0 x1 x2 x3 x4
  have y0 := blk_cell HY5.out 0
  have y1 := blk_cell HY5.out 1
  have y2 := blk_cell HY5.out 2
  have y3 := blk_cell HY5.out 3
  have y4 := blk_cell HY5.out 4
  simp at y0 y1 y2 y3 y4
  have HD5 := Aside0.mk hc5
  clear hc5
  go_wp2_with fail
  have hs0 := HC5.out
  have hd0 := HD5.out
  refine wp_region_rel 35 (fun _ => none) (fun _ => []) (fun _ _ _ => True) (fun w' => Below w5.heap.size w5 w') (fun a b => Below a.heap.size a b) (by kernel_rfl) (by kernel_rfl) (below_drew (Below.refl _ _)) (fun a b h k => below_then h h.size k) (fun _ _ _ _ _ _ => trivial) ?_
  simp only [List.take_succ_cons, List.take_zero, List.drop_succ_cons, List.drop_zero]
  iterate 35 (apply relQ_step rfl; apply Exists.intro; constructor; (focus (intro w' hw'; have x0 := pw_cell_below hw' x0; have x1 := pw_cell_below hw' x1; have x2 := pw_cell_below hw' x2; have x3 := pw_cell_below hw' x3; have x4 := pw_cell_below hw' x4; have y0 := pw_cell_below hw' y0; have y1 := pw_cell_below hw' y1; have y2 := pw_cell_below hw' y2; have y3 := pw_cell_below hw' y3; have y4 := pw_cell_below hw' y4; have hs := Kd.C_string (P := Tryd.prog) (src := 24) (dst := 9) (c := k4) Tryd.underlying24 Tryd.underlying5 Tryd.underlying9 (Kd.C_below hs0 hw'); have hd := Kd.C_string (P := Tryd.prog) (src := 24) (dst := 9) (c := k5) Tryd.underlying24 Tryd.underlying5 Tryd.underlying9 (Kd.C_below hd0 hw'); unfold Yl; go_wp2_with (first | (go_at_call 11; refine (inst_Right.calls k a b c d i _ _ A3.out).mono ?_; rintro e w2 ⟨rfl, hb⟩)); first | exact ⟨rfl, _, rfl, rfl, hb⟩ | exact ⟨rfl, _, rfl, rfl, Below.refl _ _⟩)); (try simp only [Act.put, List.setIfInBounds_toArray, List.set_cons_zero, List.set_cons_succ]))
  refine relQ_nil (fun x => ?_)
  repeat (refine relL_quiet rfl ?_)
  refine relL_nil (fun w6 hb hR => ?_)
  clear hR hs0 hd0 x0 x1 x2 x3 x4 y0 y1 y2 y3 y4 HC5 HD5
  have HB6 := Aside0.mk (below_then HB5.out (below_size HB5.out) hb)
  have HG6 := Aside0.mk (GL.below HG5.out hb)
  have HL6 := Aside0.mk (Kd.C_below HL5.out hb)
  clear hb HB5 HG5 HL5
  go_wp2_with fail
  refine bodyPost_ret (v := .bool true) (by simp [results, Tryd.results3, go_sem]) rfl ⟨rfl, ?_⟩
  repeat (first | (with_reducible exact HB6.out) | (with_reducible exact Below.refl _ _) | (with_reducible apply below_alloc) | (with_reducible apply pw_below_drewN) | (with_reducible apply below_drew))
set_option maxHeartbeats 8000000 in
set_option maxRecDepth 100000 in
theorem apart_MW (k : Nat) (a b c d i a' b' c' d' i' z0 z1 z2 z3 z4 e2 : Int) (l1 l2 l : List Int) (t1 t2 : ByteArray) (A0 : Option Addr) (c0 : Nat) (w : World) (hGL : GL w) (hl : Kd.C (Kd.int .u8) w A0 l.length l) (hc : l.length ≤ c0)
    (h1 : inst_Encode.f k a b c d i = some (l1, 0)) (h2 : inst_Encode.f k a' b' c' d' i' = some (l2, 1)) (h3 : inst_Right.f k a b c d i = some true) (h6 : (l.length : Int) ≤ 1024) (h7 : inst_Decode.f k l = some (0, 0, 0, 0, 0, 2)) :
    Calls Tryd.prog 3 #[.agg #[.int .i64 a, .int .i64 b, .int .i64 c, .int .i64 d, .int .i64 i], .agg #[.int .i64 a', .int .i64 b', .int .i64 c', .int .i64 d', .int .i64 i'], .slice A0 l.length c0] w fun e w' => e = .returned (.bool true) ∧ Below w.heap.size w w' := by
  have A1 := Aside0.mk h1
  have A2 := Aside0.mk h2
  have A3 := Aside0.mk h3
  have A7 := Aside0.mk h7
  have HG0 := Aside0.mk hGL
  have HL0 := Aside0.mk hl
  clear h1 h2 h3 h7 hGL hl
  have hu23 := Tryd.underlying23
  go_enter Tryd.func3, Tryd.ntmps3
  go_wp2_with fail
  obtain ⟨w2, hW⟩ : ∃ W, (w.alloc (.cells #[.int .i64 a, .int .i64 b, .int .i64 c, .int .i64 d, .int .i64 i] 23)).alloc (.cells #[.int .i64 a', .int .i64 b', .int .i64 c', .int .i64 d', .int .i64 i'] 23) = W := ⟨_, rfl⟩
  rw [hW]
  have hb := below_alloc (below_alloc (Below.refl w.heap.size w) (.cells #[.int .i64 a, .int .i64 b, .int .i64 c, .int .i64 d, .int .i64 i] 23)) (.cells #[.int .i64 a', .int .i64 b', .int .i64 c', .int .i64 d', .int .i64 i'] 23)
  have hx := blk_alloc (blk_new w (.cells #[.int .i64 a, .int .i64 b, .int .i64 c, .int .i64 d, .int .i64 i] 23)) (.cells #[.int .i64 a', .int .i64 b', .int .i64 c', .int .i64 d', .int .i64 i'] 23)
  have hy := blk_new (w.alloc (.cells #[.int .i64 a, .int .i64 b, .int .i64 c, .int .i64 d, .int .i64 i] 23)) (.cells #[.int .i64 a', .int .i64 b', .int .i64 c', .int .i64 d', .int .i64 i'] 23)
  rw [show (w.alloc (.cells #[.int .i64 a, .int .i64 b, .int .i64 c, .int .i64 d, .int .i64 i] 23)).heap.size = w.heap.size + 1 by simp only [World.alloc, Array.size_push]] at hy
  rw [hW] at hb hx hy
  have HX2 := Aside0.mk hx
  have HY2 := Aside0.mk hy
  have HB2 := Aside0.mk hb
  have HG2 := Aside0.mk (GL.below HG0.out hb)
  have HL2 := Aside0.mk (Kd.C_below HL0.out hb)
  clear hx hy hb HG0 HL0 hW
  refine (swagelaw02_small.calls true _ HG2 rfl).mono ?_
  rintro e w3 ⟨rfl, hb⟩
  have HX3 := Aside0.mk (blk_below HX2.out hb)
  have HY3 := Aside0.mk (blk_below HY2.out hb)
  have HB3 := Aside0.mk (below_then HB2.out (below_size HB2.out) hb)
  have HG3 := Aside0.mk (GL.below HG2.out hb)
  have HL3 := Aside0.mk (Kd.C_below HL2.out hb)
  clear hb HB2 HG2 HL2 HX2 HY2
  have x0 := blk_cell HX3.out 0
  have x1 := blk_cell HX3.out 1
  have x2 := blk_cell HX3.out 2
  have x3 := blk_cell HX3.out 3
  have x4 := blk_cell HX3.out 4
  simp at x0 x1 x2 x3 x4
  have y0 := blk_cell HY3.out 0
  have y1 := blk_cell HY3.out 1
  have y2 := blk_cell HY3.out 2
  have y3 := blk_cell HY3.out 3
  have y4 := blk_cell HY3.out 4
  simp at y0 y1 y2 y3 y4

  go_wp2_with fail
  refine (inst_Encode.calls k a b c d i l1 _ w3 A1.out).mono ?_
  rintro e w4 ⟨v4, rfl, hr, hb⟩
  obtain ⟨A4', k4, rfl, hk4, hc4⟩ := Kd.R_reads hr
  clear hr
  have HX4 := Aside0.mk (blk_below HX3.out hb)
  have HY4 := Aside0.mk (blk_below HY3.out hb)
  have HB4 := Aside0.mk (below_then HB3.out (below_size HB3.out) hb)
  have HG4 := Aside0.mk (GL.below HG3.out hb)
  have HL4 := Aside0.mk (Kd.C_below HL3.out hb)
  clear hb HB3 HG3 HL3 HX3 HY3
  clear x0 x1 x2 x3 x4 y0 y1 y2 y3 y4
  have x0 := blk_cell HX4.out 0
  have x1 := blk_cell HX4.out 1
  have x2 := blk_cell HX4.out 2
  have x3 := blk_cell HX4.out 3
  have x4 := blk_cell HX4.out 4
  simp at x0 x1 x2 x3 x4
  have y0 := blk_cell HY4.out 0
  have y1 := blk_cell HY4.out 1
  have y2 := blk_cell HY4.out 2
  have y3 := blk_cell HY4.out 3
  have y4 := blk_cell HY4.out 4
  simp at y0 y1 y2 y3 y4
  have HC4 := Aside0.mk hc4
  clear hc4
  go_wp2_with fail
  refine (inst_Encode.calls k a' b' c' d' i' l2 _ w4 A2.out).mono ?_
  rintro e w5 ⟨v5, rfl, hr, hb⟩
  obtain ⟨A5', k5, rfl, hk5, hc5⟩ := Kd.R_reads hr
  clear hr
  have HX5 := Aside0.mk (blk_below HX4.out hb)
  have HY5 := Aside0.mk (blk_below HY4.out hb)
  have HB5 := Aside0.mk (below_then HB4.out (below_size HB4.out) hb)
  have HG5 := Aside0.mk (GL.below HG4.out hb)
  have HL5 := Aside0.mk (Kd.C_below HL4.out hb)
  have HC5 := Aside0.mk (Kd.C_below HC4.out hb)
  clear hb HB4 HG4 HL4 HC4 HX4 HY4
  clear x0 x1 x2 x3 x4 y0 y1 y2 y3 y4
  have x0 := blk_cell HX5.out 0
  have x1 := blk_cell HX5.out 1
  have x2 := blk_cell HX5.out 2
  have x3 := blk_cell HX5.out 3
  have x4 := blk_cell HX5.out 4
  simp at x0 x1 x2 x3 x4
  have y0 := blk_cell HY5.out 0
  have y1 := blk_cell HY5.out 1
  have y2 := blk_cell HY5.out 2
  have y3 := blk_cell HY5.out 3
  have y4 := blk_cell HY5.out 4
  simp at y0 y1 y2 y3 y4
  have HD5 := Aside0.mk hc5
  clear hc5
  go_wp2_with fail
  have hs0 := HC5.out
  have hd0 := HD5.out
  refine wp_region_rel 35 (fun _ => none) (fun _ => []) (fun _ _ _ => True) (fun w' => Below w5.heap.size w5 w') (fun a b => Below a.heap.size a b) (by kernel_rfl) (by kernel_rfl) (below_drew (Below.refl _ _)) (fun a b h k => below_then h h.size k) (fun _ _ _ _ _ _ => trivial) ?_
  simp only [List.take_succ_cons, List.take_zero, List.drop_succ_cons, List.drop_zero]
  iterate 35 (apply relQ_step rfl; apply Exists.intro; constructor; (focus (intro w' hw'; have x0 := pw_cell_below hw' x0; have x1 := pw_cell_below hw' x1; have x2 := pw_cell_below hw' x2; have x3 := pw_cell_below hw' x3; have x4 := pw_cell_below hw' x4; have y0 := pw_cell_below hw' y0; have y1 := pw_cell_below hw' y1; have y2 := pw_cell_below hw' y2; have y3 := pw_cell_below hw' y3; have y4 := pw_cell_below hw' y4; have hs := Kd.C_string (P := Tryd.prog) (src := 24) (dst := 9) (c := k4) Tryd.underlying24 Tryd.underlying5 Tryd.underlying9 (Kd.C_below hs0 hw'); have hd := Kd.C_string (P := Tryd.prog) (src := 24) (dst := 9) (c := k5) Tryd.underlying24 Tryd.underlying5 Tryd.underlying9 (Kd.C_below hd0 hw'); unfold Yl; go_wp2_with (first | (go_at_call 11; refine (inst_Right.calls k a b c d i _ _ A3.out).mono ?_; rintro e w2 ⟨rfl, hb⟩)); first | exact ⟨rfl, _, rfl, rfl, hb⟩ | exact ⟨rfl, _, rfl, rfl, Below.refl _ _⟩)); (try simp only [Act.put, List.setIfInBounds_toArray, List.set_cons_zero, List.set_cons_succ]))
  refine relQ_nil (fun x => ?_)
  repeat (refine relL_quiet rfl ?_)
  refine relL_nil (fun w6 hb hR => ?_)
  clear hR hs0 hd0 x0 x1 x2 x3 x4 y0 y1 y2 y3 y4 HC5 HD5
  have HB6 := Aside0.mk (below_then HB5.out (below_size HB5.out) hb)
  have HG6 := Aside0.mk (GL.below HG5.out hb)
  have HL6 := Aside0.mk (Kd.C_below HL5.out hb)
  clear hb HB5 HG5 HL5
  go_wp2_with fail
  refine (inst_Decode.calls k A0 c0 l _ _ _ _ _ _ w6 HL6.out hc A7.out).mono ?_
  rintro e w7 ⟨rfl, hb⟩
  have HB7 := Aside0.mk (below_then HB6.out (below_size HB6.out) hb)
  have HG7 := Aside0.mk (GL.below HG6.out hb)
  have HL7 := Aside0.mk (Kd.C_below HL6.out hb)
  clear hb HB6 HG6 HL6
  go_wp2_with fail
  refine bodyPost_ret (v := .bool true) (by simp [results, Tryd.results3, go_sem]) rfl ⟨rfl, ?_⟩
  repeat (first | (with_reducible exact HB7.out) | (with_reducible exact Below.refl _ _) | (with_reducible apply below_alloc) | (with_reducible apply pw_below_drewN) | (with_reducible apply below_drew))
set_option maxHeartbeats 8000000 in
set_option maxRecDepth 100000 in
theorem apart_MR (k : Nat) (a b c d i a' b' c' d' i' z0 z1 z2 z3 z4 e2 : Int) (l1 l2 l : List Int) (t1 t2 : ByteArray) (A0 : Option Addr) (c0 : Nat) (w : World) (hGL : GL w) (hl : Kd.C (Kd.int .u8) w A0 l.length l) (hc : l.length ≤ c0)
    (h1 : inst_Encode.f k a b c d i = some (l1, 0)) (h2 : inst_Encode.f k a' b' c' d' i' = some (l2, 1)) (h3 : inst_Right.f k a b c d i = some true) (h6 : (l.length : Int) ≤ 1024) (h7 : inst_Decode.f k l = some (z0, z1, z2, z3, z4, 0)) (h8 : inst_Encode.f k z0 z1 z2 z3 z4 = some (l, 0)) (h9 : inst_Right.f k z0 z1 z2 z3 z4 = some true) :
    Calls Tryd.prog 3 #[.agg #[.int .i64 a, .int .i64 b, .int .i64 c, .int .i64 d, .int .i64 i], .agg #[.int .i64 a', .int .i64 b', .int .i64 c', .int .i64 d', .int .i64 i'], .slice A0 l.length c0] w fun e w' => e = .returned (.bool true) ∧ Below w.heap.size w w' := by
  have A1 := Aside0.mk h1
  have A2 := Aside0.mk h2
  have A3 := Aside0.mk h3
  have A7 := Aside0.mk h7
  have A8 := Aside0.mk h8
  have A9 := Aside0.mk h9
  have HG0 := Aside0.mk hGL
  have HL0 := Aside0.mk hl
  clear h1 h2 h3 h7 h8 h9 hGL hl
  have hu23 := Tryd.underlying23
  go_enter Tryd.func3, Tryd.ntmps3
  go_wp2_with fail
  obtain ⟨w2, hW⟩ : ∃ W, (w.alloc (.cells #[.int .i64 a, .int .i64 b, .int .i64 c, .int .i64 d, .int .i64 i] 23)).alloc (.cells #[.int .i64 a', .int .i64 b', .int .i64 c', .int .i64 d', .int .i64 i'] 23) = W := ⟨_, rfl⟩
  rw [hW]
  have hb := below_alloc (below_alloc (Below.refl w.heap.size w) (.cells #[.int .i64 a, .int .i64 b, .int .i64 c, .int .i64 d, .int .i64 i] 23)) (.cells #[.int .i64 a', .int .i64 b', .int .i64 c', .int .i64 d', .int .i64 i'] 23)
  have hx := blk_alloc (blk_new w (.cells #[.int .i64 a, .int .i64 b, .int .i64 c, .int .i64 d, .int .i64 i] 23)) (.cells #[.int .i64 a', .int .i64 b', .int .i64 c', .int .i64 d', .int .i64 i'] 23)
  have hy := blk_new (w.alloc (.cells #[.int .i64 a, .int .i64 b, .int .i64 c, .int .i64 d, .int .i64 i] 23)) (.cells #[.int .i64 a', .int .i64 b', .int .i64 c', .int .i64 d', .int .i64 i'] 23)
  rw [show (w.alloc (.cells #[.int .i64 a, .int .i64 b, .int .i64 c, .int .i64 d, .int .i64 i] 23)).heap.size = w.heap.size + 1 by simp only [World.alloc, Array.size_push]] at hy
  rw [hW] at hb hx hy
  have HX2 := Aside0.mk hx
  have HY2 := Aside0.mk hy
  have HB2 := Aside0.mk hb
  have HG2 := Aside0.mk (GL.below HG0.out hb)
  have HL2 := Aside0.mk (Kd.C_below HL0.out hb)
  clear hx hy hb HG0 HL0 hW
  refine (swagelaw02_small.calls true _ HG2 rfl).mono ?_
  rintro e w3 ⟨rfl, hb⟩
  have HX3 := Aside0.mk (blk_below HX2.out hb)
  have HY3 := Aside0.mk (blk_below HY2.out hb)
  have HB3 := Aside0.mk (below_then HB2.out (below_size HB2.out) hb)
  have HG3 := Aside0.mk (GL.below HG2.out hb)
  have HL3 := Aside0.mk (Kd.C_below HL2.out hb)
  clear hb HB2 HG2 HL2 HX2 HY2
  have x0 := blk_cell HX3.out 0
  have x1 := blk_cell HX3.out 1
  have x2 := blk_cell HX3.out 2
  have x3 := blk_cell HX3.out 3
  have x4 := blk_cell HX3.out 4
  simp at x0 x1 x2 x3 x4
  have y0 := blk_cell HY3.out 0
  have y1 := blk_cell HY3.out 1
  have y2 := blk_cell HY3.out 2
  have y3 := blk_cell HY3.out 3
  have y4 := blk_cell HY3.out 4
  simp at y0 y1 y2 y3 y4

  go_wp2_with fail
  refine (inst_Encode.calls k a b c d i l1 _ w3 A1.out).mono ?_
  rintro e w4 ⟨v4, rfl, hr, hb⟩
  obtain ⟨A4', k4, rfl, hk4, hc4⟩ := Kd.R_reads hr
  clear hr
  have HX4 := Aside0.mk (blk_below HX3.out hb)
  have HY4 := Aside0.mk (blk_below HY3.out hb)
  have HB4 := Aside0.mk (below_then HB3.out (below_size HB3.out) hb)
  have HG4 := Aside0.mk (GL.below HG3.out hb)
  have HL4 := Aside0.mk (Kd.C_below HL3.out hb)
  clear hb HB3 HG3 HL3 HX3 HY3
  clear x0 x1 x2 x3 x4 y0 y1 y2 y3 y4
  have x0 := blk_cell HX4.out 0
  have x1 := blk_cell HX4.out 1
  have x2 := blk_cell HX4.out 2
  have x3 := blk_cell HX4.out 3
  have x4 := blk_cell HX4.out 4
  simp at x0 x1 x2 x3 x4
  have y0 := blk_cell HY4.out 0
  have y1 := blk_cell HY4.out 1
  have y2 := blk_cell HY4.out 2
  have y3 := blk_cell HY4.out 3
  have y4 := blk_cell HY4.out 4
  simp at y0 y1 y2 y3 y4
  have HC4 := Aside0.mk hc4
  clear hc4
  go_wp2_with fail
  refine (inst_Encode.calls k a' b' c' d' i' l2 _ w4 A2.out).mono ?_
  rintro e w5 ⟨v5, rfl, hr, hb⟩
  obtain ⟨A5', k5, rfl, hk5, hc5⟩ := Kd.R_reads hr
  clear hr
  have HX5 := Aside0.mk (blk_below HX4.out hb)
  have HY5 := Aside0.mk (blk_below HY4.out hb)
  have HB5 := Aside0.mk (below_then HB4.out (below_size HB4.out) hb)
  have HG5 := Aside0.mk (GL.below HG4.out hb)
  have HL5 := Aside0.mk (Kd.C_below HL4.out hb)
  have HC5 := Aside0.mk (Kd.C_below HC4.out hb)
  clear hb HB4 HG4 HL4 HC4 HX4 HY4
  clear x0 x1 x2 x3 x4 y0 y1 y2 y3 y4
  have x0 := blk_cell HX5.out 0
  have x1 := blk_cell HX5.out 1
  have x2 := blk_cell HX5.out 2
  have x3 := blk_cell HX5.out 3
  have x4 := blk_cell HX5.out 4
  simp at x0 x1 x2 x3 x4
  have y0 := blk_cell HY5.out 0
  have y1 := blk_cell HY5.out 1
  have y2 := blk_cell HY5.out 2
  have y3 := blk_cell HY5.out 3
  have y4 := blk_cell HY5.out 4
  simp at y0 y1 y2 y3 y4
  have HD5 := Aside0.mk hc5
  clear hc5
  go_wp2_with fail
  have hs0 := HC5.out
  have hd0 := HD5.out
  refine wp_region_rel 35 (fun _ => none) (fun _ => []) (fun _ _ _ => True) (fun w' => Below w5.heap.size w5 w') (fun a b => Below a.heap.size a b) (by kernel_rfl) (by kernel_rfl) (below_drew (Below.refl _ _)) (fun a b h k => below_then h h.size k) (fun _ _ _ _ _ _ => trivial) ?_
  simp only [List.take_succ_cons, List.take_zero, List.drop_succ_cons, List.drop_zero]
  iterate 35 (apply relQ_step rfl; apply Exists.intro; constructor; (focus (intro w' hw'; have x0 := pw_cell_below hw' x0; have x1 := pw_cell_below hw' x1; have x2 := pw_cell_below hw' x2; have x3 := pw_cell_below hw' x3; have x4 := pw_cell_below hw' x4; have y0 := pw_cell_below hw' y0; have y1 := pw_cell_below hw' y1; have y2 := pw_cell_below hw' y2; have y3 := pw_cell_below hw' y3; have y4 := pw_cell_below hw' y4; have hs := Kd.C_string (P := Tryd.prog) (src := 24) (dst := 9) (c := k4) Tryd.underlying24 Tryd.underlying5 Tryd.underlying9 (Kd.C_below hs0 hw'); have hd := Kd.C_string (P := Tryd.prog) (src := 24) (dst := 9) (c := k5) Tryd.underlying24 Tryd.underlying5 Tryd.underlying9 (Kd.C_below hd0 hw'); unfold Yl; go_wp2_with (first | (go_at_call 11; refine (inst_Right.calls k a b c d i _ _ A3.out).mono ?_; rintro e w2 ⟨rfl, hb⟩)); first | exact ⟨rfl, _, rfl, rfl, hb⟩ | exact ⟨rfl, _, rfl, rfl, Below.refl _ _⟩)); (try simp only [Act.put, List.setIfInBounds_toArray, List.set_cons_zero, List.set_cons_succ]))
  refine relQ_nil (fun x => ?_)
  repeat (refine relL_quiet rfl ?_)
  refine relL_nil (fun w6 hb hR => ?_)
  clear hR hs0 hd0 x0 x1 x2 x3 x4 y0 y1 y2 y3 y4 HC5 HD5
  have HB6 := Aside0.mk (below_then HB5.out (below_size HB5.out) hb)
  have HG6 := Aside0.mk (GL.below HG5.out hb)
  have HL6 := Aside0.mk (Kd.C_below HL5.out hb)
  clear hb HB5 HG5 HL5
  go_wp2_with fail
  refine (inst_Decode.calls k A0 c0 l _ _ _ _ _ _ w6 HL6.out hc A7.out).mono ?_
  rintro e w7 ⟨rfl, hb⟩
  have HB7 := Aside0.mk (below_then HB6.out (below_size HB6.out) hb)
  have HG7 := Aside0.mk (GL.below HG6.out hb)
  have HL7 := Aside0.mk (Kd.C_below HL6.out hb)
  clear hb HB6 HG6 HL6
  go_wp2_with fail
  refine (inst_Encode.calls k z0 z1 z2 z3 z4 l _ _ A8.out).mono ?_
  rintro e w8 ⟨v8, rfl, hr, hb0⟩
  obtain ⟨A8', k8, rfl, hk8, hc8⟩ := Kd.R_reads hr
  have hb : Below w7.heap.size w7 w8 := below_then (below_alloc (Below.refl w7.heap.size w7) _) (below_size (below_alloc (Below.refl _ _) _)) hb0
  have HZ8 := Aside0.mk (blk_below (blk_new w7 (.cells #[.int .i64 z0, .int .i64 z1, .int .i64 z2, .int .i64 z3, .int .i64 z4] 23)) hb0)
  clear hr hb0
  have HB8 := Aside0.mk (below_then HB7.out (below_size HB7.out) hb)
  have HG8 := Aside0.mk (GL.below HG7.out hb)
  have HL8 := Aside0.mk (Kd.C_below HL7.out hb)
  clear hb HB7 HG7 HL7
  have zz0 := blk_cell HZ8.out 0
  have zz1 := blk_cell HZ8.out 1
  have zz2 := blk_cell HZ8.out 2
  have zz3 := blk_cell HZ8.out 3
  have zz4 := blk_cell HZ8.out 4
  simp at zz0 zz1 zz2 zz3 zz4
  go_wp2_with fail
  refine (inst_Right.calls k z0 z1 z2 z3 z4 _ w8 A9.out).mono ?_
  rintro e w9 ⟨rfl, hb⟩
  have hc9 := Kd.C_below hc8 hb
  have HB9 := Aside0.mk (below_then HB8.out (below_size HB8.out) hb)
  have HG9 := Aside0.mk (GL.below HG8.out hb)
  have HL9 := Aside0.mk (Kd.C_below HL8.out hb)
  clear hb HB8 HG8 HL8
  have hs := Kd.C_string (P := Tryd.prog) (src := 24) (dst := 9) (c := k8) Tryd.underlying24 Tryd.underlying5 Tryd.underlying9 hc9
  have hd := Kd.C_string (P := Tryd.prog) (src := 24) (dst := 9) (c := c0) Tryd.underlying24 Tryd.underlying5 Tryd.underlying9 HL9.out
  go_wp2_with fail
  refine bodyPost_ret (v := .bool true) (by simp [results, Tryd.results3, go_sem]) rfl ⟨rfl, ?_⟩
  repeat (first | (with_reducible exact HB9.out) | (with_reducible exact Below.refl _ _) | (with_reducible apply below_alloc) | (with_reducible apply pw_below_drewN) | (with_reducible apply below_drew))
set_option maxHeartbeats 8000000 in
set_option maxRecDepth 100000 in
theorem apart_SG (k : Nat) (a b c d i z0 z1 z2 z3 z4 e2 : Int) (l1 l : List Int) (t1 : ByteArray) (A0 : Option Addr) (c0 : Nat) (w : World) (hGL : GL w) (hl : Kd.C (Kd.int .u8) w A0 l.length l) (hc : l.length ≤ c0)
    (h1 : inst_Encode.f k a b c d i = some (l1, 0)) (h2 : inst_Encode.f k a b c d i = some (l1, 0)) (h3 : inst_Right.f k a b c d i = some true) (h4 : inst_Text.f k a b c d i = some t1) (h5 : inst_Text.f k a b c d i = some t1) (h6 : 1024 < (l.length : Int)) :
    Calls Tryd.prog 3 #[.agg #[.int .i64 a, .int .i64 b, .int .i64 c, .int .i64 d, .int .i64 i], .agg #[.int .i64 a, .int .i64 b, .int .i64 c, .int .i64 d, .int .i64 i], .slice A0 l.length c0] w fun e w' => e = .returned (.bool true) ∧ Below w.heap.size w w' := by
  have A1 := Aside0.mk h1
  have A2 := Aside0.mk h2
  have A3 := Aside0.mk h3
  have A4 := Aside0.mk h4
  have A5 := Aside0.mk h5
  have HG0 := Aside0.mk hGL
  have HL0 := Aside0.mk hl
  clear h1 h2 h3 h4 h5 hGL hl
  have hu23 := Tryd.underlying23
  go_enter Tryd.func3, Tryd.ntmps3
  go_wp2_with fail
  obtain ⟨w2, hW⟩ : ∃ W, (w.alloc (.cells #[.int .i64 a, .int .i64 b, .int .i64 c, .int .i64 d, .int .i64 i] 23)).alloc (.cells #[.int .i64 a, .int .i64 b, .int .i64 c, .int .i64 d, .int .i64 i] 23) = W := ⟨_, rfl⟩
  rw [hW]
  have hb := below_alloc (below_alloc (Below.refl w.heap.size w) (.cells #[.int .i64 a, .int .i64 b, .int .i64 c, .int .i64 d, .int .i64 i] 23)) (.cells #[.int .i64 a, .int .i64 b, .int .i64 c, .int .i64 d, .int .i64 i] 23)
  have hx := blk_alloc (blk_new w (.cells #[.int .i64 a, .int .i64 b, .int .i64 c, .int .i64 d, .int .i64 i] 23)) (.cells #[.int .i64 a, .int .i64 b, .int .i64 c, .int .i64 d, .int .i64 i] 23)
  have hy := blk_new (w.alloc (.cells #[.int .i64 a, .int .i64 b, .int .i64 c, .int .i64 d, .int .i64 i] 23)) (.cells #[.int .i64 a, .int .i64 b, .int .i64 c, .int .i64 d, .int .i64 i] 23)
  rw [show (w.alloc (.cells #[.int .i64 a, .int .i64 b, .int .i64 c, .int .i64 d, .int .i64 i] 23)).heap.size = w.heap.size + 1 by simp only [World.alloc, Array.size_push]] at hy
  rw [hW] at hb hx hy
  have HX2 := Aside0.mk hx
  have HY2 := Aside0.mk hy
  have HB2 := Aside0.mk hb
  have HG2 := Aside0.mk (GL.below HG0.out hb)
  have HL2 := Aside0.mk (Kd.C_below HL0.out hb)
  clear hx hy hb HG0 HL0 hW
  refine (swagelaw02_small.calls true _ HG2 rfl).mono ?_
  rintro e w3 ⟨rfl, hb⟩
  have HX3 := Aside0.mk (blk_below HX2.out hb)
  have HY3 := Aside0.mk (blk_below HY2.out hb)
  have HB3 := Aside0.mk (below_then HB2.out (below_size HB2.out) hb)
  have HG3 := Aside0.mk (GL.below HG2.out hb)
  have HL3 := Aside0.mk (Kd.C_below HL2.out hb)
  clear hb HB2 HG2 HL2 HX2 HY2
  have x0 := blk_cell HX3.out 0
  have x1 := blk_cell HX3.out 1
  have x2 := blk_cell HX3.out 2
  have x3 := blk_cell HX3.out 3
  have x4 := blk_cell HX3.out 4
  simp at x0 x1 x2 x3 x4
  have y0 := blk_cell HY3.out 0
  have y1 := blk_cell HY3.out 1
  have y2 := blk_cell HY3.out 2
  have y3 := blk_cell HY3.out 3
  have y4 := blk_cell HY3.out 4
  simp at y0 y1 y2 y3 y4

  go_wp2_with fail
  refine (inst_Encode.calls k a b c d i l1 _ w3 A1.out).mono ?_
  rintro e w4 ⟨v4, rfl, hr, hb⟩
  obtain ⟨A4', k4, rfl, hk4, hc4⟩ := Kd.R_reads hr
  clear hr
  have HX4 := Aside0.mk (blk_below HX3.out hb)
  have HY4 := Aside0.mk (blk_below HY3.out hb)
  have HB4 := Aside0.mk (below_then HB3.out (below_size HB3.out) hb)
  have HG4 := Aside0.mk (GL.below HG3.out hb)
  have HL4 := Aside0.mk (Kd.C_below HL3.out hb)
  clear hb HB3 HG3 HL3 HX3 HY3
  clear x0 x1 x2 x3 x4 y0 y1 y2 y3 y4
  have x0 := blk_cell HX4.out 0
  have x1 := blk_cell HX4.out 1
  have x2 := blk_cell HX4.out 2
  have x3 := blk_cell HX4.out 3
  have x4 := blk_cell HX4.out 4
  simp at x0 x1 x2 x3 x4
  have y0 := blk_cell HY4.out 0
  have y1 := blk_cell HY4.out 1
  have y2 := blk_cell HY4.out 2
  have y3 := blk_cell HY4.out 3
  have y4 := blk_cell HY4.out 4
  simp at y0 y1 y2 y3 y4
  have HC4 := Aside0.mk hc4
  clear hc4
  go_wp2_with fail
  refine (inst_Encode.calls k a b c d i l1 _ w4 A2.out).mono ?_
  rintro e w5 ⟨v5, rfl, hr, hb⟩
  obtain ⟨A5', k5, rfl, hk5, hc5⟩ := Kd.R_reads hr
  clear hr
  have HX5 := Aside0.mk (blk_below HX4.out hb)
  have HY5 := Aside0.mk (blk_below HY4.out hb)
  have HB5 := Aside0.mk (below_then HB4.out (below_size HB4.out) hb)
  have HG5 := Aside0.mk (GL.below HG4.out hb)
  have HL5 := Aside0.mk (Kd.C_below HL4.out hb)
  have HC5 := Aside0.mk (Kd.C_below HC4.out hb)
  clear hb HB4 HG4 HL4 HC4 HX4 HY4
  clear x0 x1 x2 x3 x4 y0 y1 y2 y3 y4
  have x0 := blk_cell HX5.out 0
  have x1 := blk_cell HX5.out 1
  have x2 := blk_cell HX5.out 2
  have x3 := blk_cell HX5.out 3
  have x4 := blk_cell HX5.out 4
  simp at x0 x1 x2 x3 x4
  have y0 := blk_cell HY5.out 0
  have y1 := blk_cell HY5.out 1
  have y2 := blk_cell HY5.out 2
  have y3 := blk_cell HY5.out 3
  have y4 := blk_cell HY5.out 4
  simp at y0 y1 y2 y3 y4
  have HD5 := Aside0.mk hc5
  clear hc5
  go_wp2_with fail
  have hs0 := HC5.out
  have hd0 := HD5.out
  refine wp_region_rel 35 (fun _ => none) (fun _ => []) (fun _ _ _ => True) (fun w' => Below w5.heap.size w5 w') (fun a b => Below a.heap.size a b) (by kernel_rfl) (by kernel_rfl) (below_drew (Below.refl _ _)) (fun a b h k => below_then h h.size k) (fun _ _ _ _ _ _ => trivial) ?_
  simp only [List.take_succ_cons, List.take_zero, List.drop_succ_cons, List.drop_zero]
  iterate 35 (apply relQ_step rfl; apply Exists.intro; constructor; (focus (intro w' hw'; have x0 := pw_cell_below hw' x0; have x1 := pw_cell_below hw' x1; have x2 := pw_cell_below hw' x2; have x3 := pw_cell_below hw' x3; have x4 := pw_cell_below hw' x4; have y0 := pw_cell_below hw' y0; have y1 := pw_cell_below hw' y1; have y2 := pw_cell_below hw' y2; have y3 := pw_cell_below hw' y3; have y4 := pw_cell_below hw' y4; have hs := Kd.C_string (P := Tryd.prog) (src := 24) (dst := 9) (c := k4) Tryd.underlying24 Tryd.underlying5 Tryd.underlying9 (Kd.C_below hs0 hw'); have hd := Kd.C_string (P := Tryd.prog) (src := 24) (dst := 9) (c := k5) Tryd.underlying24 Tryd.underlying5 Tryd.underlying9 (Kd.C_below hd0 hw'); unfold Yl; go_wp2_with (first | (go_at_call 11; refine (inst_Right.calls k a b c d i _ _ A3.out).mono ?_; rintro e w2 ⟨rfl, hb⟩) | (go_at_call 12; with_reducible refine (inst_Text.calls k a b c d i _ _ ⟨GL.below HG5.out hw'⟩ A4.out).mono ?_; rintro e w2 ⟨rfl, hb⟩) | (go_at_call 12; with_reducible refine (inst_Text.calls k a b c d i _ _ ⟨GL.below HG5.out hw'⟩ A5.out).mono ?_; rintro e w2 ⟨rfl, hb⟩)); first | exact ⟨rfl, _, rfl, rfl, hb⟩ | exact ⟨rfl, _, rfl, rfl, Below.refl _ _⟩)); (try simp only [Act.put, List.setIfInBounds_toArray, List.set_cons_zero, List.set_cons_succ]))
  refine relQ_nil (fun x => ?_)
  repeat (refine relL_quiet rfl ?_)
  refine relL_nil (fun w6 hb hR => ?_)
  clear hR hs0 hd0 x0 x1 x2 x3 x4 y0 y1 y2 y3 y4 HC5 HD5
  have HB6 := Aside0.mk (below_then HB5.out (below_size HB5.out) hb)
  have HG6 := Aside0.mk (GL.below HG5.out hb)
  have HL6 := Aside0.mk (Kd.C_below HL5.out hb)
  clear hb HB5 HG5 HL5
  go_wp2_with fail
  refine bodyPost_ret (v := .bool true) (by simp [results, Tryd.results3, go_sem]) rfl ⟨rfl, ?_⟩
  repeat (first | (with_reducible exact HB6.out) | (with_reducible exact Below.refl _ _) | (with_reducible apply below_alloc) | (with_reducible apply pw_below_drewN) | (with_reducible apply below_drew))
set_option maxHeartbeats 8000000 in
set_option maxRecDepth 100000 in
theorem apart_SW (k : Nat) (a b c d i z0 z1 z2 z3 z4 e2 : Int) (l1 l : List Int) (t1 : ByteArray) (A0 : Option Addr) (c0 : Nat) (w : World) (hGL : GL w) (hl : Kd.C (Kd.int .u8) w A0 l.length l) (hc : l.length ≤ c0)
    (h1 : inst_Encode.f k a b c d i = some (l1, 0)) (h2 : inst_Encode.f k a b c d i = some (l1, 0)) (h3 : inst_Right.f k a b c d i = some true) (h4 : inst_Text.f k a b c d i = some t1) (h5 : inst_Text.f k a b c d i = some t1) (h6 : (l.length : Int) ≤ 1024) (h7 : inst_Decode.f k l = some (0, 0, 0, 0, 0, 2)) :
    Calls Tryd.prog 3 #[.agg #[.int .i64 a, .int .i64 b, .int .i64 c, .int .i64 d, .int .i64 i], .agg #[.int .i64 a, .int .i64 b, .int .i64 c, .int .i64 d, .int .i64 i], .slice A0 l.length c0] w fun e w' => e = .returned (.bool true) ∧ Below w.heap.size w w' := by
  have A1 := Aside0.mk h1
  have A2 := Aside0.mk h2
  have A3 := Aside0.mk h3
  have A4 := Aside0.mk h4
  have A5 := Aside0.mk h5
  have A7 := Aside0.mk h7
  have HG0 := Aside0.mk hGL
  have HL0 := Aside0.mk hl
  clear h1 h2 h3 h4 h5 h7 hGL hl
  have hu23 := Tryd.underlying23
  go_enter Tryd.func3, Tryd.ntmps3
  go_wp2_with fail
  obtain ⟨w2, hW⟩ : ∃ W, (w.alloc (.cells #[.int .i64 a, .int .i64 b, .int .i64 c, .int .i64 d, .int .i64 i] 23)).alloc (.cells #[.int .i64 a, .int .i64 b, .int .i64 c, .int .i64 d, .int .i64 i] 23) = W := ⟨_, rfl⟩
  rw [hW]
  have hb := below_alloc (below_alloc (Below.refl w.heap.size w) (.cells #[.int .i64 a, .int .i64 b, .int .i64 c, .int .i64 d, .int .i64 i] 23)) (.cells #[.int .i64 a, .int .i64 b, .int .i64 c, .int .i64 d, .int .i64 i] 23)
  have hx := blk_alloc (blk_new w (.cells #[.int .i64 a, .int .i64 b, .int .i64 c, .int .i64 d, .int .i64 i] 23)) (.cells #[.int .i64 a, .int .i64 b, .int .i64 c, .int .i64 d, .int .i64 i] 23)
  have hy := blk_new (w.alloc (.cells #[.int .i64 a, .int .i64 b, .int .i64 c, .int .i64 d, .int .i64 i] 23)) (.cells #[.int .i64 a, .int .i64 b, .int .i64 c, .int .i64 d, .int .i64 i] 23)
  rw [show (w.alloc (.cells #[.int .i64 a, .int .i64 b, .int .i64 c, .int .i64 d, .int .i64 i] 23)).heap.size = w.heap.size + 1 by simp only [World.alloc, Array.size_push]] at hy
  rw [hW] at hb hx hy
  have HX2 := Aside0.mk hx
  have HY2 := Aside0.mk hy
  have HB2 := Aside0.mk hb
  have HG2 := Aside0.mk (GL.below HG0.out hb)
  have HL2 := Aside0.mk (Kd.C_below HL0.out hb)
  clear hx hy hb HG0 HL0 hW
  refine (swagelaw02_small.calls true _ HG2 rfl).mono ?_
  rintro e w3 ⟨rfl, hb⟩
  have HX3 := Aside0.mk (blk_below HX2.out hb)
  have HY3 := Aside0.mk (blk_below HY2.out hb)
  have HB3 := Aside0.mk (below_then HB2.out (below_size HB2.out) hb)
  have HG3 := Aside0.mk (GL.below HG2.out hb)
  have HL3 := Aside0.mk (Kd.C_below HL2.out hb)
  clear hb HB2 HG2 HL2 HX2 HY2
  have x0 := blk_cell HX3.out 0
  have x1 := blk_cell HX3.out 1
  have x2 := blk_cell HX3.out 2
  have x3 := blk_cell HX3.out 3
  have x4 := blk_cell HX3.out 4
  simp at x0 x1 x2 x3 x4
  have y0 := blk_cell HY3.out 0
  have y1 := blk_cell HY3.out 1
  have y2 := blk_cell HY3.out 2
  have y3 := blk_cell HY3.out 3
  have y4 := blk_cell HY3.out 4
  simp at y0 y1 y2 y3 y4

  go_wp2_with fail
  refine (inst_Encode.calls k a b c d i l1 _ w3 A1.out).mono ?_
  rintro e w4 ⟨v4, rfl, hr, hb⟩
  obtain ⟨A4', k4, rfl, hk4, hc4⟩ := Kd.R_reads hr
  clear hr
  have HX4 := Aside0.mk (blk_below HX3.out hb)
  have HY4 := Aside0.mk (blk_below HY3.out hb)
  have HB4 := Aside0.mk (below_then HB3.out (below_size HB3.out) hb)
  have HG4 := Aside0.mk (GL.below HG3.out hb)
  have HL4 := Aside0.mk (Kd.C_below HL3.out hb)
  clear hb HB3 HG3 HL3 HX3 HY3
  clear x0 x1 x2 x3 x4 y0 y1 y2 y3 y4
  have x0 := blk_cell HX4.out 0
  have x1 := blk_cell HX4.out 1
  have x2 := blk_cell HX4.out 2
  have x3 := blk_cell HX4.out 3
  have x4 := blk_cell HX4.out 4
  simp at x0 x1 x2 x3 x4
  have y0 := blk_cell HY4.out 0
  have y1 := blk_cell HY4.out 1
  have y2 := blk_cell HY4.out 2
  have y3 := blk_cell HY4.out 3
  have y4 := blk_cell HY4.out 4
  simp at y0 y1 y2 y3 y4
  have HC4 := Aside0.mk hc4
  clear hc4
  go_wp2_with fail
  refine (inst_Encode.calls k a b c d i l1 _ w4 A2.out).mono ?_
  rintro e w5 ⟨v5, rfl, hr, hb⟩
  obtain ⟨A5', k5, rfl, hk5, hc5⟩ := Kd.R_reads hr
  clear hr
  have HX5 := Aside0.mk (blk_below HX4.out hb)
  have HY5 := Aside0.mk (blk_below HY4.out hb)
  have HB5 := Aside0.mk (below_then HB4.out (below_size HB4.out) hb)
  have HG5 := Aside0.mk (GL.below HG4.out hb)
  have HL5 := Aside0.mk (Kd.C_below HL4.out hb)
  have HC5 := Aside0.mk (Kd.C_below HC4.out hb)
  clear hb HB4 HG4 HL4 HC4 HX4 HY4
  clear x0 x1 x2 x3 x4 y0 y1 y2 y3 y4
  have x0 := blk_cell HX5.out 0
  have x1 := blk_cell HX5.out 1
  have x2 := blk_cell HX5.out 2
  have x3 := blk_cell HX5.out 3
  have x4 := blk_cell HX5.out 4
  simp at x0 x1 x2 x3 x4
  have y0 := blk_cell HY5.out 0
  have y1 := blk_cell HY5.out 1
  have y2 := blk_cell HY5.out 2
  have y3 := blk_cell HY5.out 3
  have y4 := blk_cell HY5.out 4
  simp at y0 y1 y2 y3 y4
  have HD5 := Aside0.mk hc5
  clear hc5
  go_wp2_with fail
  have hs0 := HC5.out
  have hd0 := HD5.out
  refine wp_region_rel 35 (fun _ => none) (fun _ => []) (fun _ _ _ => True) (fun w' => Below w5.heap.size w5 w') (fun a b => Below a.heap.size a b) (by kernel_rfl) (by kernel_rfl) (below_drew (Below.refl _ _)) (fun a b h k => below_then h h.size k) (fun _ _ _ _ _ _ => trivial) ?_
  simp only [List.take_succ_cons, List.take_zero, List.drop_succ_cons, List.drop_zero]
  iterate 35 (apply relQ_step rfl; apply Exists.intro; constructor; (focus (intro w' hw'; have x0 := pw_cell_below hw' x0; have x1 := pw_cell_below hw' x1; have x2 := pw_cell_below hw' x2; have x3 := pw_cell_below hw' x3; have x4 := pw_cell_below hw' x4; have y0 := pw_cell_below hw' y0; have y1 := pw_cell_below hw' y1; have y2 := pw_cell_below hw' y2; have y3 := pw_cell_below hw' y3; have y4 := pw_cell_below hw' y4; have hs := Kd.C_string (P := Tryd.prog) (src := 24) (dst := 9) (c := k4) Tryd.underlying24 Tryd.underlying5 Tryd.underlying9 (Kd.C_below hs0 hw'); have hd := Kd.C_string (P := Tryd.prog) (src := 24) (dst := 9) (c := k5) Tryd.underlying24 Tryd.underlying5 Tryd.underlying9 (Kd.C_below hd0 hw'); unfold Yl; go_wp2_with (first | (go_at_call 11; refine (inst_Right.calls k a b c d i _ _ A3.out).mono ?_; rintro e w2 ⟨rfl, hb⟩) | (go_at_call 12; with_reducible refine (inst_Text.calls k a b c d i _ _ ⟨GL.below HG5.out hw'⟩ A4.out).mono ?_; rintro e w2 ⟨rfl, hb⟩) | (go_at_call 12; with_reducible refine (inst_Text.calls k a b c d i _ _ ⟨GL.below HG5.out hw'⟩ A5.out).mono ?_; rintro e w2 ⟨rfl, hb⟩)); first | exact ⟨rfl, _, rfl, rfl, hb⟩ | exact ⟨rfl, _, rfl, rfl, Below.refl _ _⟩)); (try simp only [Act.put, List.setIfInBounds_toArray, List.set_cons_zero, List.set_cons_succ]))
  refine relQ_nil (fun x => ?_)
  repeat (refine relL_quiet rfl ?_)
  refine relL_nil (fun w6 hb hR => ?_)
  clear hR hs0 hd0 x0 x1 x2 x3 x4 y0 y1 y2 y3 y4 HC5 HD5
  have HB6 := Aside0.mk (below_then HB5.out (below_size HB5.out) hb)
  have HG6 := Aside0.mk (GL.below HG5.out hb)
  have HL6 := Aside0.mk (Kd.C_below HL5.out hb)
  clear hb HB5 HG5 HL5
  go_wp2_with fail
  refine (inst_Decode.calls k A0 c0 l _ _ _ _ _ _ w6 HL6.out hc A7.out).mono ?_
  rintro e w7 ⟨rfl, hb⟩
  have HB7 := Aside0.mk (below_then HB6.out (below_size HB6.out) hb)
  have HG7 := Aside0.mk (GL.below HG6.out hb)
  have HL7 := Aside0.mk (Kd.C_below HL6.out hb)
  clear hb HB6 HG6 HL6
  go_wp2_with fail
  refine bodyPost_ret (v := .bool true) (by simp [results, Tryd.results3, go_sem]) rfl ⟨rfl, ?_⟩
  repeat (first | (with_reducible exact HB7.out) | (with_reducible exact Below.refl _ _) | (with_reducible apply below_alloc) | (with_reducible apply pw_below_drewN) | (with_reducible apply below_drew))
set_option maxHeartbeats 8000000 in
set_option maxRecDepth 100000 in
theorem apart_SR (k : Nat) (a b c d i z0 z1 z2 z3 z4 e2 : Int) (l1 l : List Int) (t1 : ByteArray) (A0 : Option Addr) (c0 : Nat) (w : World) (hGL : GL w) (hl : Kd.C (Kd.int .u8) w A0 l.length l) (hc : l.length ≤ c0)
    (h1 : inst_Encode.f k a b c d i = some (l1, 0)) (h2 : inst_Encode.f k a b c d i = some (l1, 0)) (h3 : inst_Right.f k a b c d i = some true) (h4 : inst_Text.f k a b c d i = some t1) (h5 : inst_Text.f k a b c d i = some t1) (h6 : (l.length : Int) ≤ 1024) (h7 : inst_Decode.f k l = some (z0, z1, z2, z3, z4, 0)) (h8 : inst_Encode.f k z0 z1 z2 z3 z4 = some (l, 0)) (h9 : inst_Right.f k z0 z1 z2 z3 z4 = some true) :
    Calls Tryd.prog 3 #[.agg #[.int .i64 a, .int .i64 b, .int .i64 c, .int .i64 d, .int .i64 i], .agg #[.int .i64 a, .int .i64 b, .int .i64 c, .int .i64 d, .int .i64 i], .slice A0 l.length c0] w fun e w' => e = .returned (.bool true) ∧ Below w.heap.size w w' := by
  have A1 := Aside0.mk h1
  have A2 := Aside0.mk h2
  have A3 := Aside0.mk h3
  have A4 := Aside0.mk h4
  have A5 := Aside0.mk h5
  have A7 := Aside0.mk h7
  have A8 := Aside0.mk h8
  have A9 := Aside0.mk h9
  have HG0 := Aside0.mk hGL
  have HL0 := Aside0.mk hl
  clear h1 h2 h3 h4 h5 h7 h8 h9 hGL hl
  have hu23 := Tryd.underlying23
  go_enter Tryd.func3, Tryd.ntmps3
  go_wp2_with fail
  obtain ⟨w2, hW⟩ : ∃ W, (w.alloc (.cells #[.int .i64 a, .int .i64 b, .int .i64 c, .int .i64 d, .int .i64 i] 23)).alloc (.cells #[.int .i64 a, .int .i64 b, .int .i64 c, .int .i64 d, .int .i64 i] 23) = W := ⟨_, rfl⟩
  rw [hW]
  have hb := below_alloc (below_alloc (Below.refl w.heap.size w) (.cells #[.int .i64 a, .int .i64 b, .int .i64 c, .int .i64 d, .int .i64 i] 23)) (.cells #[.int .i64 a, .int .i64 b, .int .i64 c, .int .i64 d, .int .i64 i] 23)
  have hx := blk_alloc (blk_new w (.cells #[.int .i64 a, .int .i64 b, .int .i64 c, .int .i64 d, .int .i64 i] 23)) (.cells #[.int .i64 a, .int .i64 b, .int .i64 c, .int .i64 d, .int .i64 i] 23)
  have hy := blk_new (w.alloc (.cells #[.int .i64 a, .int .i64 b, .int .i64 c, .int .i64 d, .int .i64 i] 23)) (.cells #[.int .i64 a, .int .i64 b, .int .i64 c, .int .i64 d, .int .i64 i] 23)
  rw [show (w.alloc (.cells #[.int .i64 a, .int .i64 b, .int .i64 c, .int .i64 d, .int .i64 i] 23)).heap.size = w.heap.size + 1 by simp only [World.alloc, Array.size_push]] at hy
  rw [hW] at hb hx hy
  have HX2 := Aside0.mk hx
  have HY2 := Aside0.mk hy
  have HB2 := Aside0.mk hb
  have HG2 := Aside0.mk (GL.below HG0.out hb)
  have HL2 := Aside0.mk (Kd.C_below HL0.out hb)
  clear hx hy hb HG0 HL0 hW
  refine (swagelaw02_small.calls true _ HG2 rfl).mono ?_
  rintro e w3 ⟨rfl, hb⟩
  have HX3 := Aside0.mk (blk_below HX2.out hb)
  have HY3 := Aside0.mk (blk_below HY2.out hb)
  have HB3 := Aside0.mk (below_then HB2.out (below_size HB2.out) hb)
  have HG3 := Aside0.mk (GL.below HG2.out hb)
  have HL3 := Aside0.mk (Kd.C_below HL2.out hb)
  clear hb HB2 HG2 HL2 HX2 HY2
  have x0 := blk_cell HX3.out 0
  have x1 := blk_cell HX3.out 1
  have x2 := blk_cell HX3.out 2
  have x3 := blk_cell HX3.out 3
  have x4 := blk_cell HX3.out 4
  simp at x0 x1 x2 x3 x4
  have y0 := blk_cell HY3.out 0
  have y1 := blk_cell HY3.out 1
  have y2 := blk_cell HY3.out 2
  have y3 := blk_cell HY3.out 3
  have y4 := blk_cell HY3.out 4
  simp at y0 y1 y2 y3 y4

  go_wp2_with fail
  refine (inst_Encode.calls k a b c d i l1 _ w3 A1.out).mono ?_
  rintro e w4 ⟨v4, rfl, hr, hb⟩
  obtain ⟨A4', k4, rfl, hk4, hc4⟩ := Kd.R_reads hr
  clear hr
  have HX4 := Aside0.mk (blk_below HX3.out hb)
  have HY4 := Aside0.mk (blk_below HY3.out hb)
  have HB4 := Aside0.mk (below_then HB3.out (below_size HB3.out) hb)
  have HG4 := Aside0.mk (GL.below HG3.out hb)
  have HL4 := Aside0.mk (Kd.C_below HL3.out hb)
  clear hb HB3 HG3 HL3 HX3 HY3
  clear x0 x1 x2 x3 x4 y0 y1 y2 y3 y4
  have x0 := blk_cell HX4.out 0
  have x1 := blk_cell HX4.out 1
  have x2 := blk_cell HX4.out 2
  have x3 := blk_cell HX4.out 3
  have x4 := blk_cell HX4.out 4
  simp at x0 x1 x2 x3 x4
  have y0 := blk_cell HY4.out 0
  have y1 := blk_cell HY4.out 1
  have y2 := blk_cell HY4.out 2
  have y3 := blk_cell HY4.out 3
  have y4 := blk_cell HY4.out 4
  simp at y0 y1 y2 y3 y4
  have HC4 := Aside0.mk hc4
  clear hc4
  go_wp2_with fail
  refine (inst_Encode.calls k a b c d i l1 _ w4 A2.out).mono ?_
  rintro e w5 ⟨v5, rfl, hr, hb⟩
  obtain ⟨A5', k5, rfl, hk5, hc5⟩ := Kd.R_reads hr
  clear hr
  have HX5 := Aside0.mk (blk_below HX4.out hb)
  have HY5 := Aside0.mk (blk_below HY4.out hb)
  have HB5 := Aside0.mk (below_then HB4.out (below_size HB4.out) hb)
  have HG5 := Aside0.mk (GL.below HG4.out hb)
  have HL5 := Aside0.mk (Kd.C_below HL4.out hb)
  have HC5 := Aside0.mk (Kd.C_below HC4.out hb)
  clear hb HB4 HG4 HL4 HC4 HX4 HY4
  clear x0 x1 x2 x3 x4 y0 y1 y2 y3 y4
  have x0 := blk_cell HX5.out 0
  have x1 := blk_cell HX5.out 1
  have x2 := blk_cell HX5.out 2
  have x3 := blk_cell HX5.out 3
  have x4 := blk_cell HX5.out 4
  simp at x0 x1 x2 x3 x4
  have y0 := blk_cell HY5.out 0
  have y1 := blk_cell HY5.out 1
  have y2 := blk_cell HY5.out 2
  have y3 := blk_cell HY5.out 3
  have y4 := blk_cell HY5.out 4
  simp at y0 y1 y2 y3 y4
  have HD5 := Aside0.mk hc5
  clear hc5
  go_wp2_with fail
  have hs0 := HC5.out
  have hd0 := HD5.out
  refine wp_region_rel 35 (fun _ => none) (fun _ => []) (fun _ _ _ => True) (fun w' => Below w5.heap.size w5 w') (fun a b => Below a.heap.size a b) (by kernel_rfl) (by kernel_rfl) (below_drew (Below.refl _ _)) (fun a b h k => below_then h h.size k) (fun _ _ _ _ _ _ => trivial) ?_
  simp only [List.take_succ_cons, List.take_zero, List.drop_succ_cons, List.drop_zero]
  iterate 35 (apply relQ_step rfl; apply Exists.intro; constructor; (focus (intro w' hw'; have x0 := pw_cell_below hw' x0; have x1 := pw_cell_below hw' x1; have x2 := pw_cell_below hw' x2; have x3 := pw_cell_below hw' x3; have x4 := pw_cell_below hw' x4; have y0 := pw_cell_below hw' y0; have y1 := pw_cell_below hw' y1; have y2 := pw_cell_below hw' y2; have y3 := pw_cell_below hw' y3; have y4 := pw_cell_below hw' y4; have hs := Kd.C_string (P := Tryd.prog) (src := 24) (dst := 9) (c := k4) Tryd.underlying24 Tryd.underlying5 Tryd.underlying9 (Kd.C_below hs0 hw'); have hd := Kd.C_string (P := Tryd.prog) (src := 24) (dst := 9) (c := k5) Tryd.underlying24 Tryd.underlying5 Tryd.underlying9 (Kd.C_below hd0 hw'); unfold Yl; go_wp2_with (first | (go_at_call 11; refine (inst_Right.calls k a b c d i _ _ A3.out).mono ?_; rintro e w2 ⟨rfl, hb⟩) | (go_at_call 12; with_reducible refine (inst_Text.calls k a b c d i _ _ ⟨GL.below HG5.out hw'⟩ A4.out).mono ?_; rintro e w2 ⟨rfl, hb⟩) | (go_at_call 12; with_reducible refine (inst_Text.calls k a b c d i _ _ ⟨GL.below HG5.out hw'⟩ A5.out).mono ?_; rintro e w2 ⟨rfl, hb⟩)); first | exact ⟨rfl, _, rfl, rfl, hb⟩ | exact ⟨rfl, _, rfl, rfl, Below.refl _ _⟩)); (try simp only [Act.put, List.setIfInBounds_toArray, List.set_cons_zero, List.set_cons_succ]))
  refine relQ_nil (fun x => ?_)
  repeat (refine relL_quiet rfl ?_)
  refine relL_nil (fun w6 hb hR => ?_)
  clear hR hs0 hd0 x0 x1 x2 x3 x4 y0 y1 y2 y3 y4 HC5 HD5
  have HB6 := Aside0.mk (below_then HB5.out (below_size HB5.out) hb)
  have HG6 := Aside0.mk (GL.below HG5.out hb)
  have HL6 := Aside0.mk (Kd.C_below HL5.out hb)
  clear hb HB5 HG5 HL5
  go_wp2_with fail
  refine (inst_Decode.calls k A0 c0 l _ _ _ _ _ _ w6 HL6.out hc A7.out).mono ?_
  rintro e w7 ⟨rfl, hb⟩
  have HB7 := Aside0.mk (below_then HB6.out (below_size HB6.out) hb)
  have HG7 := Aside0.mk (GL.below HG6.out hb)
  have HL7 := Aside0.mk (Kd.C_below HL6.out hb)
  clear hb HB6 HG6 HL6
  go_wp2_with fail
  refine (inst_Encode.calls k z0 z1 z2 z3 z4 l _ _ A8.out).mono ?_
  rintro e w8 ⟨v8, rfl, hr, hb0⟩
  obtain ⟨A8', k8, rfl, hk8, hc8⟩ := Kd.R_reads hr
  have hb : Below w7.heap.size w7 w8 := below_then (below_alloc (Below.refl w7.heap.size w7) _) (below_size (below_alloc (Below.refl _ _) _)) hb0
  have HZ8 := Aside0.mk (blk_below (blk_new w7 (.cells #[.int .i64 z0, .int .i64 z1, .int .i64 z2, .int .i64 z3, .int .i64 z4] 23)) hb0)
  clear hr hb0
  have HB8 := Aside0.mk (below_then HB7.out (below_size HB7.out) hb)
  have HG8 := Aside0.mk (GL.below HG7.out hb)
  have HL8 := Aside0.mk (Kd.C_below HL7.out hb)
  clear hb HB7 HG7 HL7
  have zz0 := blk_cell HZ8.out 0
  have zz1 := blk_cell HZ8.out 1
  have zz2 := blk_cell HZ8.out 2
  have zz3 := blk_cell HZ8.out 3
  have zz4 := blk_cell HZ8.out 4
  simp at zz0 zz1 zz2 zz3 zz4
  go_wp2_with fail
  refine (inst_Right.calls k z0 z1 z2 z3 z4 _ w8 A9.out).mono ?_
  rintro e w9 ⟨rfl, hb⟩
  have hc9 := Kd.C_below hc8 hb
  have HB9 := Aside0.mk (below_then HB8.out (below_size HB8.out) hb)
  have HG9 := Aside0.mk (GL.below HG8.out hb)
  have HL9 := Aside0.mk (Kd.C_below HL8.out hb)
  clear hb HB8 HG8 HL8
  have hs := Kd.C_string (P := Tryd.prog) (src := 24) (dst := 9) (c := k8) Tryd.underlying24 Tryd.underlying5 Tryd.underlying9 hc9
  have hd := Kd.C_string (P := Tryd.prog) (src := 24) (dst := 9) (c := c0) Tryd.underlying24 Tryd.underlying5 Tryd.underlying9 HL9.out
  go_wp2_with fail
  refine bodyPost_ret (v := .bool true) (by simp [results, Tryd.results3, go_sem]) rfl ⟨rfl, ?_⟩
  repeat (first | (with_reducible exact HB9.out) | (with_reducible exact Below.refl _ _) | (with_reducible apply below_alloc) | (with_reducible apply pw_below_drewN) | (with_reducible apply below_drew))
set_option maxHeartbeats 8000000 in
set_option maxRecDepth 100000 in
theorem apart_DG (k : Nat) (a b c d i a' b' c' d' i' z0 z1 z2 z3 z4 e2 : Int) (l1 l2 l : List Int) (t1 t2 : ByteArray) (A0 : Option Addr) (c0 : Nat) (w : World) (hGL : GL w) (hl : Kd.C (Kd.int .u8) w A0 l.length l) (hc : l.length ≤ c0)
    (h1 : inst_Encode.f k a b c d i = some (l1, 0)) (h2 : inst_Encode.f k a' b' c' d' i' = some (l2, 0)) (h3 : inst_Right.f k a b c d i = some true) (h4 : inst_Text.f k a b c d i = some t1) (h5 : inst_Text.f k a' b' c' d' i' = some t2) (q1 : ((strOfNums l1).toList == (strOfNums l2).toList) = false) (q2 : (t1.toList == t2.toList) = false) (q3 : (a == a' && (b == b' && (c == c' && (d == d' && i == i')))) = false) (h6 : 1024 < (l.length : Int)) :
    Calls Tryd.prog 3 #[.agg #[.int .i64 a, .int .i64 b, .int .i64 c, .int .i64 d, .int .i64 i], .agg #[.int .i64 a', .int .i64 b', .int .i64 c', .int .i64 d', .int .i64 i'], .slice A0 l.length c0] w fun e w' => e = .returned (.bool true) ∧ Below w.heap.size w w' := by
  have A1 := Aside0.mk h1
  have A2 := Aside0.mk h2
  have A3 := Aside0.mk h3
  have A4 := Aside0.mk h4
  have A5 := Aside0.mk h5
  have HG0 := Aside0.mk hGL
  have HL0 := Aside0.mk hl
  clear h1 h2 h3 h4 h5 hGL hl
  have hu23 := Tryd.underlying23
  go_enter Tryd.func3, Tryd.ntmps3
  go_wp2_with fail
  obtain ⟨w2, hW⟩ : ∃ W, (w.alloc (.cells #[.int .i64 a, .int .i64 b, .int .i64 c, .int .i64 d, .int .i64 i] 23)).alloc (.cells #[.int .i64 a', .int .i64 b', .int .i64 c', .int .i64 d', .int .i64 i'] 23) = W := ⟨_, rfl⟩
  rw [hW]
  have hb := below_alloc (below_alloc (Below.refl w.heap.size w) (.cells #[.int .i64 a, .int .i64 b, .int .i64 c, .int .i64 d, .int .i64 i] 23)) (.cells #[.int .i64 a', .int .i64 b', .int .i64 c', .int .i64 d', .int .i64 i'] 23)
  have hx := blk_alloc (blk_new w (.cells #[.int .i64 a, .int .i64 b, .int .i64 c, .int .i64 d, .int .i64 i] 23)) (.cells #[.int .i64 a', .int .i64 b', .int .i64 c', .int .i64 d', .int .i64 i'] 23)
  have hy := blk_new (w.alloc (.cells #[.int .i64 a, .int .i64 b, .int .i64 c, .int .i64 d, .int .i64 i] 23)) (.cells #[.int .i64 a', .int .i64 b', .int .i64 c', .int .i64 d', .int .i64 i'] 23)
  rw [show (w.alloc (.cells #[.int .i64 a, .int .i64 b, .int .i64 c, .int .i64 d, .int .i64 i] 23)).heap.size = w.heap.size + 1 by simp only [World.alloc, Array.size_push]] at hy
  rw [hW] at hb hx hy
  have HX2 := Aside0.mk hx
  have HY2 := Aside0.mk hy
  have HB2 := Aside0.mk hb
  have HG2 := Aside0.mk (GL.below HG0.out hb)
  have HL2 := Aside0.mk (Kd.C_below HL0.out hb)
  clear hx hy hb HG0 HL0 hW
  refine (swagelaw02_small.calls true _ HG2 rfl).mono ?_
  rintro e w3 ⟨rfl, hb⟩
  have HX3 := Aside0.mk (blk_below HX2.out hb)
  have HY3 := Aside0.mk (blk_below HY2.out hb)
  have HB3 := Aside0.mk (below_then HB2.out (below_size HB2.out) hb)
  have HG3 := Aside0.mk (GL.below HG2.out hb)
  have HL3 := Aside0.mk (Kd.C_below HL2.out hb)
  clear hb HB2 HG2 HL2 HX2 HY2
  have x0 := blk_cell HX3.out 0
  have x1 := blk_cell HX3.out 1
  have x2 := blk_cell HX3.out 2
  have x3 := blk_cell HX3.out 3
  have x4 := blk_cell HX3.out 4
  simp at x0 x1 x2 x3 x4
  have y0 := blk_cell HY3.out 0
  have y1 := blk_cell HY3.out 1
  have y2 := blk_cell HY3.out 2
  have y3 := blk_cell HY3.out 3
  have y4 := blk_cell HY3.out 4
  simp at y0 y1 y2 y3 y4

  go_wp2_with fail
  refine (inst_Encode.calls k a b c d i l1 _ w3 A1.out).mono ?_
  rintro e w4 ⟨v4, rfl, hr, hb⟩
  obtain ⟨A4', k4, rfl, hk4, hc4⟩ := Kd.R_reads hr
  clear hr
  have HX4 := Aside0.mk (blk_below HX3.out hb)
  have HY4 := Aside0.mk (blk_below HY3.out hb)
  have HB4 := Aside0.mk (below_then HB3.out (below_size HB3.out) hb)
  have HG4 := Aside0.mk (GL.below HG3.out hb)
  have HL4 := Aside0.mk (Kd.C_below HL3.out hb)
  clear hb HB3 HG3 HL3 HX3 HY3
  clear x0 x1 x2 x3 x4 y0 y1 y2 y3 y4
  have x0 := blk_cell HX4.out 0
  have x1 := blk_cell HX4.out 1
  have x2 := blk_cell HX4.out 2
  have x3 := blk_cell HX4.out 3
  have x4 := blk_cell HX4.out 4
  simp at x0 x1 x2 x3 x4
  have y0 := blk_cell HY4.out 0
  have y1 := blk_cell HY4.out 1
  have y2 := blk_cell HY4.out 2
  have y3 := blk_cell HY4.out 3
  have y4 := blk_cell HY4.out 4
  simp at y0 y1 y2 y3 y4
  have HC4 := Aside0.mk hc4
  clear hc4
  go_wp2_with fail
  refine (inst_Encode.calls k a' b' c' d' i' l2 _ w4 A2.out).mono ?_
  rintro e w5 ⟨v5, rfl, hr, hb⟩
  obtain ⟨A5', k5, rfl, hk5, hc5⟩ := Kd.R_reads hr
  clear hr
  have HX5 := Aside0.mk (blk_below HX4.out hb)
  have HY5 := Aside0.mk (blk_below HY4.out hb)
  have HB5 := Aside0.mk (below_then HB4.out (below_size HB4.out) hb)
  have HG5 := Aside0.mk (GL.below HG4.out hb)
  have HL5 := Aside0.mk (Kd.C_below HL4.out hb)
  have HC5 := Aside0.mk (Kd.C_below HC4.out hb)
  clear hb HB4 HG4 HL4 HC4 HX4 HY4
  clear x0 x1 x2 x3 x4 y0 y1 y2 y3 y4
  have x0 := blk_cell HX5.out 0
  have x1 := blk_cell HX5.out 1
  have x2 := blk_cell HX5.out 2
  have x3 := blk_cell HX5.out 3
  have x4 := blk_cell HX5.out 4
  simp at x0 x1 x2 x3 x4
  have y0 := blk_cell HY5.out 0
  have y1 := blk_cell HY5.out 1
  have y2 := blk_cell HY5.out 2
  have y3 := blk_cell HY5.out 3
  have y4 := blk_cell HY5.out 4
  simp at y0 y1 y2 y3 y4
  have HD5 := Aside0.mk hc5
  clear hc5
  go_wp2_with fail
  have hs0 := HC5.out
  have hd0 := HD5.out
  refine wp_region_rel 35 (fun _ => none) (fun _ => []) (fun _ _ _ => True) (fun w' => Below w5.heap.size w5 w') (fun a b => Below a.heap.size a b) (by kernel_rfl) (by kernel_rfl) (below_drew (Below.refl _ _)) (fun a b h k => below_then h h.size k) (fun _ _ _ _ _ _ => trivial) ?_
  simp only [List.take_succ_cons, List.take_zero, List.drop_succ_cons, List.drop_zero]
  iterate 35 (apply relQ_step rfl; apply Exists.intro; constructor; (focus (intro w' hw'; have x0 := pw_cell_below hw' x0; have x1 := pw_cell_below hw' x1; have x2 := pw_cell_below hw' x2; have x3 := pw_cell_below hw' x3; have x4 := pw_cell_below hw' x4; have y0 := pw_cell_below hw' y0; have y1 := pw_cell_below hw' y1; have y2 := pw_cell_below hw' y2; have y3 := pw_cell_below hw' y3; have y4 := pw_cell_below hw' y4; have hs := Kd.C_string (P := Tryd.prog) (src := 24) (dst := 9) (c := k4) Tryd.underlying24 Tryd.underlying5 Tryd.underlying9 (Kd.C_below hs0 hw'); have hd := Kd.C_string (P := Tryd.prog) (src := 24) (dst := 9) (c := k5) Tryd.underlying24 Tryd.underlying5 Tryd.underlying9 (Kd.C_below hd0 hw'); unfold Yl; go_wp2_with (first | (go_at_call 11; refine (inst_Right.calls k a b c d i _ _ A3.out).mono ?_; rintro e w2 ⟨rfl, hb⟩) | (go_at_call 12; with_reducible refine (inst_Text.calls k a b c d i _ _ ⟨GL.below HG5.out hw'⟩ A4.out).mono ?_; rintro e w2 ⟨rfl, hb⟩) | (go_at_call 12; with_reducible refine (inst_Text.calls k a' b' c' d' i' _ _ ⟨GL.below HG5.out hw'⟩ A5.out).mono ?_; rintro e w2 ⟨rfl, hb⟩)); first | exact ⟨rfl, _, rfl, rfl, hb⟩ | exact ⟨rfl, _, rfl, rfl, Below.refl _ _⟩)); (try simp only [Act.put, List.setIfInBounds_toArray, List.set_cons_zero, List.set_cons_succ]))
  refine relQ_nil (fun x => ?_)
  repeat (refine relL_quiet rfl ?_)
  refine relL_nil (fun w6 hb hR => ?_)
  clear hR hs0 hd0 x0 x1 x2 x3 x4 y0 y1 y2 y3 y4 HC5 HD5
  have HB6 := Aside0.mk (below_then HB5.out (below_size HB5.out) hb)
  have HG6 := Aside0.mk (GL.below HG5.out hb)
  have HL6 := Aside0.mk (Kd.C_below HL5.out hb)
  clear hb HB5 HG5 HL5
  go_wp2_with fail
  refine bodyPost_ret (v := .bool true) (by simp [results, Tryd.results3, go_sem]) rfl ⟨rfl, ?_⟩
  repeat (first | (with_reducible exact HB6.out) | (with_reducible exact Below.refl _ _) | (with_reducible apply below_alloc) | (with_reducible apply pw_below_drewN) | (with_reducible apply below_drew))
set_option maxHeartbeats 8000000 in
set_option maxRecDepth 100000 in
theorem apart_DW (k : Nat) (a b c d i a' b' c' d' i' z0 z1 z2 z3 z4 e2 : Int) (l1 l2 l : List Int) (t1 t2 : ByteArray) (A0 : Option Addr) (c0 : Nat) (w : World) (hGL : GL w) (hl : Kd.C (Kd.int .u8) w A0 l.length l) (hc : l.length ≤ c0)
    (h1 : inst_Encode.f k a b c d i = some (l1, 0)) (h2 : inst_Encode.f k a' b' c' d' i' = some (l2, 0)) (h3 : inst_Right.f k a b c d i = some true) (h4 : inst_Text.f k a b c d i = some t1) (h5 : inst_Text.f k a' b' c' d' i' = some t2) (q1 : ((strOfNums l1).toList == (strOfNums l2).toList) = false) (q2 : (t1.toList == t2.toList) = false) (q3 : (a == a' && (b == b' && (c == c' && (d == d' && i == i')))) = false) (h6 : (l.length : Int) ≤ 1024) (h7 : inst_Decode.f k l = some (0, 0, 0, 0, 0, 2)) :
    Calls Tryd.prog 3 #[.agg #[.int .i64 a, .int .i64 b, .int .i64 c, .int .i64 d, .int .i64 i], .agg #[.int .i64 a', .int .i64 b', .int .i64 c', .int .i64 d', .int .i64 i'], .slice A0 l.length c0] w fun e w' => e = .returned (.bool true) ∧ Below w.heap.size w w' := by
  have A1 := Aside0.mk h1
  have A2 := Aside0.mk h2
  have A3 := Aside0.mk h3
  have A4 := Aside0.mk h4
  have A5 := Aside0.mk h5
  have A7 := Aside0.mk h7
  have HG0 := Aside0.mk hGL
  have HL0 := Aside0.mk hl
  clear h1 h2 h3 h4 h5 h7 hGL hl
  have hu23 := Tryd.underlying23
  go_enter Tryd.func3, Tryd.ntmps3
  go_wp2_with fail
  obtain ⟨w2, hW⟩ : ∃ W, (w.alloc (.cells #[.int .i64 a, .int .i64 b, .int .i64 c, .int .i64 d, .int .i64 i] 23)).alloc (.cells #[.int .i64 a', .int .i64 b', .int .i64 c', .int .i64 d', .int .i64 i'] 23) = W := ⟨_, rfl⟩
  rw [hW]
  have hb := below_alloc (below_alloc (Below.refl w.heap.size w) (.cells #[.int .i64 a, .int .i64 b, .int .i64 c, .int .i64 d, .int .i64 i] 23)) (.cells #[.int .i64 a', .int .i64 b', .int .i64 c', .int .i64 d', .int .i64 i'] 23)
  have hx := blk_alloc (blk_new w (.cells #[.int .i64 a, .int .i64 b, .int .i64 c, .int .i64 d, .int .i64 i] 23)) (.cells #[.int .i64 a', .int .i64 b', .int .i64 c', .int .i64 d', .int .i64 i'] 23)
  have hy := blk_new (w.alloc (.cells #[.int .i64 a, .int .i64 b, .int .i64 c, .int .i64 d, .int .i64 i] 23)) (.cells #[.int .i64 a', .int .i64 b', .int .i64 c', .int .i64 d', .int .i64 i'] 23)
  rw [show (w.alloc (.cells #[.int .i64 a, .int .i64 b, .int .i64 c, .int .i64 d, .int .i64 i] 23)).heap.size = w.heap.size + 1 by simp only [World.alloc, Array.size_push]] at hy
  rw [hW] at hb hx hy
  have HX2 := Aside0.mk hx
  have HY2 := Aside0.mk hy
  have HB2 := Aside0.mk hb
  have HG2 := Aside0.mk (GL.below HG0.out hb)
  have HL2 := Aside0.mk (Kd.C_below HL0.out hb)
  clear hx hy hb HG0 HL0 hW
  refine (swagelaw02_small.calls true _ HG2 rfl).mono ?_
  rintro e w3 ⟨rfl, hb⟩
  have HX3 := Aside0.mk (blk_below HX2.out hb)
  have HY3 := Aside0.mk (blk_below HY2.out hb)
  have HB3 := Aside0.mk (below_then HB2.out (below_size HB2.out) hb)
  have HG3 := Aside0.mk (GL.below HG2.out hb)
  have HL3 := Aside0.mk (Kd.C_below HL2.out hb)
  clear hb HB2 HG2 HL2 HX2 HY2
  have x0 := blk_cell HX3.out 0
  have x1 := blk_cell HX3.out 1
  have x2 := blk_cell HX3.out 2
  have x3 := blk_cell HX3.out 3
  have x4 := blk_cell HX3.out 4
  simp at x0 x1 x2 x3 x4
  have y0 := blk_cell HY3.out 0
  have y1 := blk_cell HY3.out 1
  have y2 := blk_cell HY3.out 2
  have y3 := blk_cell HY3.out 3
  have y4 := blk_cell HY3.out 4
  simp at y0 y1 y2 y3 y4

  go_wp2_with fail
  refine (inst_Encode.calls k a b c d i l1 _ w3 A1.out).mono ?_
  rintro e w4 ⟨v4, rfl, hr, hb⟩
  obtain ⟨A4', k4, rfl, hk4, hc4⟩ := Kd.R_reads hr
  clear hr
  have HX4 := Aside0.mk (blk_below HX3.out hb)
  have HY4 := Aside0.mk (blk_below HY3.out hb)
  have HB4 := Aside0.mk (below_then HB3.out (below_size HB3.out) hb)
  have HG4 := Aside0.mk (GL.below HG3.out hb)
  have HL4 := Aside0.mk (Kd.C_below HL3.out hb)
  clear hb HB3 HG3 HL3 HX3 HY3
  clear x0 x1 x2 x3 x4 y0 y1 y2 y3 y4
  have x0 := blk_cell HX4.out 0
  have x1 := blk_cell HX4.out 1
  have x2 := blk_cell HX4.out 2
  have x3 := blk_cell HX4.out 3
  have x4 := blk_cell HX4.out 4
  simp at x0 x1 x2 x3 x4
  have y0 := blk_cell HY4.out 0
  have y1 := blk_cell HY4.out 1
  have y2 := blk_cell HY4.out 2
  have y3 := blk_cell HY4.out 3
  have y4 := blk_cell HY4.out 4
  simp at y0 y1 y2 y3 y4
  have HC4 := Aside0.mk hc4
  clear hc4
  go_wp2_with fail
  refine (inst_Encode.calls k a' b' c' d' i' l2 _ w4 A2.out).mono ?_
  rintro e w5 ⟨v5, rfl, hr, hb⟩
  obtain ⟨A5', k5, rfl, hk5, hc5⟩ := Kd.R_reads hr
  clear hr
  have HX5 := Aside0.mk (blk_below HX4.out hb)
  have HY5 := Aside0.mk (blk_below HY4.out hb)
  have HB5 := Aside0.mk (below_then HB4.out (below_size HB4.out) hb)
  have HG5 := Aside0.mk (GL.below HG4.out hb)
  have HL5 := Aside0.mk (Kd.C_below HL4.out hb)
  have HC5 := Aside0.mk (Kd.C_below HC4.out hb)
  clear hb HB4 HG4 HL4 HC4 HX4 HY4
  clear x0 x1 x2 x3 x4 y0 y1 y2 y3 y4
  have x0 := blk_cell HX5.out 0
  have x1 := blk_cell HX5.out 1
  have x2 := blk_cell HX5.out 2
  have x3 := blk_cell HX5.out 3
  have x4 := blk_cell HX5.out 4
  simp at x0 x1 x2 x3 x4
  have y0 := blk_cell HY5.out 0
  have y1 := blk_cell HY5.out 1
  have y2 := blk_cell HY5.out 2
  have y3 := blk_cell HY5.out 3
  have y4 := blk_cell HY5.out 4
  simp at y0 y1 y2 y3 y4
  have HD5 := Aside0.mk hc5
  clear hc5
  go_wp2_with fail
  have hs0 := HC5.out
  have hd0 := HD5.out
  refine wp_region_rel 35 (fun _ => none) (fun _ => []) (fun _ _ _ => True) (fun w' => Below w5.heap.size w5 w') (fun a b => Below a.heap.size a b) (by kernel_rfl) (by kernel_rfl) (below_drew (Below.refl _ _)) (fun a b h k => below_then h h.size k) (fun _ _ _ _ _ _ => trivial) ?_
  simp only [List.take_succ_cons, List.take_zero, List.drop_succ_cons, List.drop_zero]
  iterate 35 (apply relQ_step rfl; apply Exists.intro; constructor; (focus (intro w' hw'; have x0 := pw_cell_below hw' x0; have x1 := pw_cell_below hw' x1; have x2 := pw_cell_below hw' x2; have x3 := pw_cell_below hw' x3; have x4 := pw_cell_below hw' x4; have y0 := pw_cell_below hw' y0; have y1 := pw_cell_below hw' y1; have y2 := pw_cell_below hw' y2; have y3 := pw_cell_below hw' y3; have y4 := pw_cell_below hw' y4; have hs := Kd.C_string (P := Tryd.prog) (src := 24) (dst := 9) (c := k4) Tryd.underlying24 Tryd.underlying5 Tryd.underlying9 (Kd.C_below hs0 hw'); have hd := Kd.C_string (P := Tryd.prog) (src := 24) (dst := 9) (c := k5) Tryd.underlying24 Tryd.underlying5 Tryd.underlying9 (Kd.C_below hd0 hw'); unfold Yl; go_wp2_with (first | (go_at_call 11; refine (inst_Right.calls k a b c d i _ _ A3.out).mono ?_; rintro e w2 ⟨rfl, hb⟩) | (go_at_call 12; with_reducible refine (inst_Text.calls k a b c d i _ _ ⟨GL.below HG5.out hw'⟩ A4.out).mono ?_; rintro e w2 ⟨rfl, hb⟩) | (go_at_call 12; with_reducible refine (inst_Text.calls k a' b' c' d' i' _ _ ⟨GL.below HG5.out hw'⟩ A5.out).mono ?_; rintro e w2 ⟨rfl, hb⟩)); first | exact ⟨rfl, _, rfl, rfl, hb⟩ | exact ⟨rfl, _, rfl, rfl, Below.refl _ _⟩)); (try simp only [Act.put, List.setIfInBounds_toArray, List.set_cons_zero, List.set_cons_succ]))
  refine relQ_nil (fun x => ?_)
  repeat (refine relL_quiet rfl ?_)
  refine relL_nil (fun w6 hb hR => ?_)
  clear hR hs0 hd0 x0 x1 x2 x3 x4 y0 y1 y2 y3 y4 HC5 HD5
  have HB6 := Aside0.mk (below_then HB5.out (below_size HB5.out) hb)
  have HG6 := Aside0.mk (GL.below HG5.out hb)
  have HL6 := Aside0.mk (Kd.C_below HL5.out hb)
  clear hb HB5 HG5 HL5
  go_wp2_with fail
  refine (inst_Decode.calls k A0 c0 l _ _ _ _ _ _ w6 HL6.out hc A7.out).mono ?_
  rintro e w7 ⟨rfl, hb⟩
  have HB7 := Aside0.mk (below_then HB6.out (below_size HB6.out) hb)
  have HG7 := Aside0.mk (GL.below HG6.out hb)
  have HL7 := Aside0.mk (Kd.C_below HL6.out hb)
  clear hb HB6 HG6 HL6
  go_wp2_with fail
  refine bodyPost_ret (v := .bool true) (by simp [results, Tryd.results3, go_sem]) rfl ⟨rfl, ?_⟩
  repeat (first | (with_reducible exact HB7.out) | (with_reducible exact Below.refl _ _) | (with_reducible apply below_alloc) | (with_reducible apply pw_below_drewN) | (with_reducible apply below_drew))
set_option maxHeartbeats 8000000 in
set_option maxRecDepth 100000 in
theorem apart_DR (k : Nat) (a b c d i a' b' c' d' i' z0 z1 z2 z3 z4 e2 : Int) (l1 l2 l : List Int) (t1 t2 : ByteArray) (A0 : Option Addr) (c0 : Nat) (w : World) (hGL : GL w) (hl : Kd.C (Kd.int .u8) w A0 l.length l) (hc : l.length ≤ c0)
    (h1 : inst_Encode.f k a b c d i = some (l1, 0)) (h2 : inst_Encode.f k a' b' c' d' i' = some (l2, 0)) (h3 : inst_Right.f k a b c d i = some true) (h4 : inst_Text.f k a b c d i = some t1) (h5 : inst_Text.f k a' b' c' d' i' = some t2) (q1 : ((strOfNums l1).toList == (strOfNums l2).toList) = false) (q2 : (t1.toList == t2.toList) = false) (q3 : (a == a' && (b == b' && (c == c' && (d == d' && i == i')))) = false) (h6 : (l.length : Int) ≤ 1024) (h7 : inst_Decode.f k l = some (z0, z1, z2, z3, z4, 0)) (h8 : inst_Encode.f k z0 z1 z2 z3 z4 = some (l, 0)) (h9 : inst_Right.f k z0 z1 z2 z3 z4 = some true) :
    Calls Tryd.prog 3 #[.agg #[.int .i64 a, .int .i64 b, .int .i64 c, .int .i64 d, .int .i64 i], .agg #[.int .i64 a', .int .i64 b', .int .i64 c', .int .i64 d', .int .i64 i'], .slice A0 l.length c0] w fun e w' => e = .returned (.bool true) ∧ Below w.heap.size w w' := by
  have A1 := Aside0.mk h1
  have A2 := Aside0.mk h2
  have A3 := Aside0.mk h3
  have A4 := Aside0.mk h4
  have A5 := Aside0.mk h5
  have A7 := Aside0.mk h7
  have A8 := Aside0.mk h8
  have A9 := Aside0.mk h9
  have HG0 := Aside0.mk hGL
  have HL0 := Aside0.mk hl
  clear h1 h2 h3 h4 h5 h7 h8 h9 hGL hl
  have hu23 := Tryd.underlying23
  go_enter Tryd.func3, Tryd.ntmps3
  go_wp2_with fail
  obtain ⟨w2, hW⟩ : ∃ W, (w.alloc (.cells #[.int .i64 a, .int .i64 b, .int .i64 c, .int .i64 d, .int .i64 i] 23)).alloc (.cells #[.int .i64 a', .int .i64 b', .int .i64 c', .int .i64 d', .int .i64 i'] 23) = W := ⟨_, rfl⟩
  rw [hW]
  have hb := below_alloc (below_alloc (Below.refl w.heap.size w) (.cells #[.int .i64 a, .int .i64 b, .int .i64 c, .int .i64 d, .int .i64 i] 23)) (.cells #[.int .i64 a', .int .i64 b', .int .i64 c', .int .i64 d', .int .i64 i'] 23)
  have hx := blk_alloc (blk_new w (.cells #[.int .i64 a, .int .i64 b, .int .i64 c, .int .i64 d, .int .i64 i] 23)) (.cells #[.int .i64 a', .int .i64 b', .int .i64 c', .int .i64 d', .int .i64 i'] 23)
  have hy := blk_new (w.alloc (.cells #[.int .i64 a, .int .i64 b, .int .i64 c, .int .i64 d, .int .i64 i] 23)) (.cells #[.int .i64 a', .int .i64 b', .int .i64 c', .int .i64 d', .int .i64 i'] 23)
  rw [show (w.alloc (.cells #[.int .i64 a, .int .i64 b, .int .i64 c, .int .i64 d, .int .i64 i] 23)).heap.size = w.heap.size + 1 by simp only [World.alloc, Array.size_push]] at hy
  rw [hW] at hb hx hy
  have HX2 := Aside0.mk hx
  have HY2 := Aside0.mk hy
  have HB2 := Aside0.mk hb
  have HG2 := Aside0.mk (GL.below HG0.out hb)
  have HL2 := Aside0.mk (Kd.C_below HL0.out hb)
  clear hx hy hb HG0 HL0 hW
  refine (swagelaw02_small.calls true _ HG2 rfl).mono ?_
  rintro e w3 ⟨rfl, hb⟩
  have HX3 := Aside0.mk (blk_below HX2.out hb)
  have HY3 := Aside0.mk (blk_below HY2.out hb)
  have HB3 := Aside0.mk (below_then HB2.out (below_size HB2.out) hb)
  have HG3 := Aside0.mk (GL.below HG2.out hb)
  have HL3 := Aside0.mk (Kd.C_below HL2.out hb)
  clear hb HB2 HG2 HL2 HX2 HY2
  have x0 := blk_cell HX3.out 0
  have x1 := blk_cell HX3.out 1
  have x2 := blk_cell HX3.out 2
  have x3 := blk_cell HX3.out 3
  have x4 := blk_cell HX3.out 4
  simp at x0 x1 x2 x3 x4
  have y0 := blk_cell HY3.out 0
  have y1 := blk_cell HY3.out 1
  have y2 := blk_cell HY3.out 2
  have y3 := blk_cell HY3.out 3
  have y4 := blk_cell HY3.out 4
  simp at y0 y1 y2 y3 y4

  go_wp2_with fail
  refine (inst_Encode.calls k a b c d i l1 _ w3 A1.out).mono ?_
  rintro e w4 ⟨v4, rfl, hr, hb⟩
  obtain ⟨A4', k4, rfl, hk4, hc4⟩ := Kd.R_reads hr
  clear hr
  have HX4 := Aside0.mk (blk_below HX3.out hb)
  have HY4 := Aside0.mk (blk_below HY3.out hb)
  have HB4 := Aside0.mk (below_then HB3.out (below_size HB3.out) hb)
  have HG4 := Aside0.mk (GL.below HG3.out hb)
  have HL4 := Aside0.mk (Kd.C_below HL3.out hb)
  clear hb HB3 HG3 HL3 HX3 HY3
  clear x0 x1 x2 x3 x4 y0 y1 y2 y3 y4
  have x0 := blk_cell HX4.out 0
  have x1 := blk_cell HX4.out 1
  have x2 := blk_cell HX4.out 2
  have x3 := blk_cell HX4.out 3
  have x4 := blk_cell HX4.out 4
  simp at x0 x1 x2 x3 x4
  have y0 := blk_cell HY4.out 0
  have y1 := blk_cell HY4.out 1
  have y2 := blk_cell HY4.out 2
  have y3 := blk_cell HY4.out 3
  have y4 := blk_cell HY4.out 4
  simp at y0 y1 y2 y3 y4
  have HC4 := Aside0.mk hc4
  clear hc4
  go_wp2_with fail
  refine (inst_Encode.calls k a' b' c' d' i' l2 _ w4 A2.out).mono ?_
  rintro e w5 ⟨v5, rfl, hr, hb⟩
  obtain ⟨A5', k5, rfl, hk5, hc5⟩ := Kd.R_reads hr
  clear hr
  have HX5 := Aside0.mk (blk_below HX4.out hb)
  have HY5 := Aside0.mk (blk_below HY4.out hb)
  have HB5 := Aside0.mk (below_then HB4.out (below_size HB4.out) hb)
  have HG5 := Aside0.mk (GL.below HG4.out hb)
  have HL5 := Aside0.mk (Kd.C_below HL4.out hb)
  have HC5 := Aside0.mk (Kd.C_below HC4.out hb)
  clear hb HB4 HG4 HL4 HC4 HX4 HY4
  clear x0 x1 x2 x3 x4 y0 y1 y2 y3 y4
  have x0 := blk_cell HX5.out 0
  have x1 := blk_cell HX5.out 1
  have x2 := blk_cell HX5.out 2
  have x3 := blk_cell HX5.out 3
  have x4 := blk_cell HX5.out 4
  simp at x0 x1 x2 x3 x4
  have y0 := blk_cell HY5.out 0
  have y1 := blk_cell HY5.out 1
  have y2 := blk_cell HY5.out 2
  have y3 := blk_cell HY5.out 3
  have y4 := blk_cell HY5.out 4
  simp at y0 y1 y2 y3 y4
  have HD5 := Aside0.mk hc5
  clear hc5
  go_wp2_with fail
  have hs0 := HC5.out
  have hd0 := HD5.out
  refine wp_region_rel 35 (fun _ => none) (fun _ => []) (fun _ _ _ => True) (fun w' => Below w5.heap.size w5 w') (fun a b => Below a.heap.size a b) (by kernel_rfl) (by kernel_rfl) (below_drew (Below.refl _ _)) (fun a b h k => below_then h h.size k) (fun _ _ _ _ _ _ => trivial) ?_
  simp only [List.take_succ_cons, List.take_zero, List.drop_succ_cons, List.drop_zero]
  iterate 35 (apply relQ_step rfl; apply Exists.intro; constructor; (focus (intro w' hw'; have x0 := pw_cell_below hw' x0; have x1 := pw_cell_below hw' x1; have x2 := pw_cell_below hw' x2; have x3 := pw_cell_below hw' x3; have x4 := pw_cell_below hw' x4; have y0 := pw_cell_below hw' y0; have y1 := pw_cell_below hw' y1; have y2 := pw_cell_below hw' y2; have y3 := pw_cell_below hw' y3; have y4 := pw_cell_below hw' y4; have hs := Kd.C_string (P := Tryd.prog) (src := 24) (dst := 9) (c := k4) Tryd.underlying24 Tryd.underlying5 Tryd.underlying9 (Kd.C_below hs0 hw'); have hd := Kd.C_string (P := Tryd.prog) (src := 24) (dst := 9) (c := k5) Tryd.underlying24 Tryd.underlying5 Tryd.underlying9 (Kd.C_below hd0 hw'); unfold Yl; go_wp2_with (first | (go_at_call 11; refine (inst_Right.calls k a b c d i _ _ A3.out).mono ?_; rintro e w2 ⟨rfl, hb⟩) | (go_at_call 12; with_reducible refine (inst_Text.calls k a b c d i _ _ ⟨GL.below HG5.out hw'⟩ A4.out).mono ?_; rintro e w2 ⟨rfl, hb⟩) | (go_at_call 12; with_reducible refine (inst_Text.calls k a' b' c' d' i' _ _ ⟨GL.below HG5.out hw'⟩ A5.out).mono ?_; rintro e w2 ⟨rfl, hb⟩)); first | exact ⟨rfl, _, rfl, rfl, hb⟩ | exact ⟨rfl, _, rfl, rfl, Below.refl _ _⟩)); (try simp only [Act.put, List.setIfInBounds_toArray, List.set_cons_zero, List.set_cons_succ]))
  refine relQ_nil (fun x => ?_)
  repeat (refine relL_quiet rfl ?_)
  refine relL_nil (fun w6 hb hR => ?_)
  clear hR hs0 hd0 x0 x1 x2 x3 x4 y0 y1 y2 y3 y4 HC5 HD5
  have HB6 := Aside0.mk (below_then HB5.out (below_size HB5.out) hb)
  have HG6 := Aside0.mk (GL.below HG5.out hb)
  have HL6 := Aside0.mk (Kd.C_below HL5.out hb)
  clear hb HB5 HG5 HL5
  go_wp2_with fail
  refine (inst_Decode.calls k A0 c0 l _ _ _ _ _ _ w6 HL6.out hc A7.out).mono ?_
  rintro e w7 ⟨rfl, hb⟩
  have HB7 := Aside0.mk (below_then HB6.out (below_size HB6.out) hb)
  have HG7 := Aside0.mk (GL.below HG6.out hb)
  have HL7 := Aside0.mk (Kd.C_below HL6.out hb)
  clear hb HB6 HG6 HL6
  go_wp2_with fail
  refine (inst_Encode.calls k z0 z1 z2 z3 z4 l _ _ A8.out).mono ?_
  rintro e w8 ⟨v8, rfl, hr, hb0⟩
  obtain ⟨A8', k8, rfl, hk8, hc8⟩ := Kd.R_reads hr
  have hb : Below w7.heap.size w7 w8 := below_then (below_alloc (Below.refl w7.heap.size w7) _) (below_size (below_alloc (Below.refl _ _) _)) hb0
  have HZ8 := Aside0.mk (blk_below (blk_new w7 (.cells #[.int .i64 z0, .int .i64 z1, .int .i64 z2, .int .i64 z3, .int .i64 z4] 23)) hb0)
  clear hr hb0
  have HB8 := Aside0.mk (below_then HB7.out (below_size HB7.out) hb)
  have HG8 := Aside0.mk (GL.below HG7.out hb)
  have HL8 := Aside0.mk (Kd.C_below HL7.out hb)
  clear hb HB7 HG7 HL7
  have zz0 := blk_cell HZ8.out 0
  have zz1 := blk_cell HZ8.out 1
  have zz2 := blk_cell HZ8.out 2
  have zz3 := blk_cell HZ8.out 3
  have zz4 := blk_cell HZ8.out 4
  simp at zz0 zz1 zz2 zz3 zz4
  go_wp2_with fail
  refine (inst_Right.calls k z0 z1 z2 z3 z4 _ w8 A9.out).mono ?_
  rintro e w9 ⟨rfl, hb⟩
  have hc9 := Kd.C_below hc8 hb
  have HB9 := Aside0.mk (below_then HB8.out (below_size HB8.out) hb)
  have HG9 := Aside0.mk (GL.below HG8.out hb)
  have HL9 := Aside0.mk (Kd.C_below HL8.out hb)
  clear hb HB8 HG8 HL8
  have hs := Kd.C_string (P := Tryd.prog) (src := 24) (dst := 9) (c := k8) Tryd.underlying24 Tryd.underlying5 Tryd.underlying9 hc9
  have hd := Kd.C_string (P := Tryd.prog) (src := 24) (dst := 9) (c := c0) Tryd.underlying24 Tryd.underlying5 Tryd.underlying9 HL9.out
  go_wp2_with fail
  refine bodyPost_ret (v := .bool true) (by simp [results, Tryd.results3, go_sem]) rfl ⟨rfl, ?_⟩
  repeat (first | (with_reducible exact HB9.out) | (with_reducible exact Below.refl _ _) | (with_reducible apply below_alloc) | (with_reducible apply pw_below_drewN) | (with_reducible apply below_drew))
end Go.Proofs.YtfdkhahpjbikiaaDoor.S
