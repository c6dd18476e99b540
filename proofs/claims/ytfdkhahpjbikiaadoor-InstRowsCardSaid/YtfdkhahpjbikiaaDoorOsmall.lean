import Derived.Test.YtfdkhahpjbikiaaDoorRel
import Derived.Test.YtfdkhahpjbikiaaDoorOdec
import Derived.Test.YtfdkhahpjbikiaaDoorOtext
import Derived.Test.YtfdkhahpjbikiaaDoorS3
import Derived.Test.YtfdkhahpjbikiaaDoorS5
import Derived.Test.YtfdkhahpjbikiaaDoorS6
import Derived.Test.YtfdkhahpjbikiaaDoorS1
namespace Go.Proofs.YtfdkhahpjbikiaaDoor.S
open Go.RowKit Go.Proofs.YtfdkhahpjbikiaaDoorW.PrintWords Go.Proofs.YtfdkhahpjbikiaaDoorW.PrintLast Go.Proofs.YtfdkhahpjbikiaaDoorW.PrintMore Go.RelRegion
set_option linter.unusedVariables false
theorem sm_enc : inst_Encode.f 30 1 3 0 0 (-1) = some ([1, 48, 0, 0, 255, 255, 255, 255], 0) := by decide +kernel
theorem sm_dec : inst_Decode.f 30 [1, 48, 0, 0, 255, 255, 255, 255] = some (1, 3, 0, 0, -1, 0) := by decide +kernel
theorem sm_dec2 : inst_Decode.f 30 [10, 0, 0, 1, 0, 0, 0, 0] = some (0, 0, 0, 0, 0, 2) := by decide +kernel
theorem sm_sets : inst_Sets.f 30 1 3 0 0 (-1) = some (3, true) := by decide +kernel
theorem sm_text : inst_Text.f 30 1 3 0 0 (-1) = some ⟨#[108, 105, 32, 114, 51, 32, 45, 49]⟩ := by decide +kernel
theorem sm_text2 : inst_Text.f 30 4 1 2 3 1 = some ⟨#[98, 105, 110, 46, 49, 32, 114, 49, 32, 114, 50, 32, 114, 51]⟩ := by decide +kernel
theorem sm_uses : inst_Uses.f 30 10 0 0 0 0 = some [15] := by decide +kernel
theorem sm_ints : swageref02_Ints.f 30 [15] [15] = some true := by decide +kernel
end Go.Proofs.YtfdkhahpjbikiaaDoor.S
namespace Go.Proofs.YtfdkhahpjbikiaaDoor.S
open Go.RowKit Go.Proofs.YtfdkhahpjbikiaaDoorW.PrintWords Go.Proofs.YtfdkhahpjbikiaaDoorW.PrintLast Go.Proofs.YtfdkhahpjbikiaaDoorW.PrintMore Go.RelRegion
set_option linter.unusedVariables false
attribute [local go_sem high] eqA23
theorem sm_str : strOfNums [1, 48, 0, 0, 255, 255, 255, 255] = ⟨#[1, 48, 0, 0, 255, 255, 255, 255]⟩ := by decide +kernel
/-- A row of the call's own, out of its block. -/
theorem C_of_blk {k : IntKind} {W : World} {g : Nat} {t : TypeId} (xs : List Int) (h : W.heap[g]? = some (.cells (xs.map (Value.int k)).toArray t (0, 0))) (hl : xs.length ≤ 9223372036854775807) : Kd.C (Kd.int k) W (some ⟨g, 0, none⟩) xs.length xs :=
  Kd.C_of_reads (enc := Value.int k) (d := (0 : Int)) (h1 := fun _ => rfl) ⟨rfl, hl, fun _ => ⟨_, rfl, fun j hj => by
    have := blk_cell h j
    have e : (⟨g, 0, none⟩ : Addr).add j = ⟨g, j, none⟩ := by
      cases j with
      | zero => rfl
      | succ j => simp [Addr.add]
    rw [e, this]
    simp [List.getD_eq_getElem?_getD, hj]⟩⟩
set_option maxHeartbeats 8000000 in
set_option maxRecDepth 100000 in
theorem small_walk (w : World) (hGL : GL w) : Calls Tryd.prog 9 #[] w fun e w' => e = .returned (.bool true) ∧ Below w.heap.size w w' := by
  have HG := Aside0.mk hGL
  clear hGL
  have hu23 := Tryd.underlying23
  go_enter Tryd.func9, Tryd.ntmps9
  go_wp2_with fail
  have hx0 := blk_new w (.cells #[.int .i64 1, .int .i64 3, .int .i64 0, .int .i64 0, .int .i64 (-1)] 23)
  refine (inst_Encode.calls 30 1 3 0 0 (-1) _ _ _ sm_enc).mono ?_
  rintro e w1 ⟨v1, rfl, hr1, hb1⟩
  obtain ⟨A1, k1, rfl, hk1, hc1⟩ := Kd.R_reads hr1
  have hx1 := blk_below hx0 hb1
  have hB1 := below_then (below_alloc (Below.refl w.heap.size w) _) (below_size (below_alloc (Below.refl _ _) _)) hb1
  clear hr1 hb1 hx0
  have HX1 := Aside0.mk hx1
  have HB1 := Aside0.mk hB1
  have HC1 := Aside0.mk hc1
  have HK1 := Aside0.mk hk1
  clear hx1 hB1 hc1 hk1
  go_wp2_with fail
  refine (inst_Decode.calls 30 A1 k1 _ _ _ _ _ _ _ _ HC1.out HK1.out sm_dec).mono ?_
  rintro e w2 ⟨rfl, hb2⟩
  have HX2 := Aside0.mk (blk_below HX1.out hb2)
  have HB2 := Aside0.mk (below_then HB1.out (below_size HB1.out) hb2)
  have HC2 := Aside0.mk (Kd.C_below HC1.out hb2)
  clear hb2 HX1 HB1 HC1
  go_wp2_with fail
  obtain ⟨W, hW⟩ : ∃ W, ((w2.alloc (.cells #[.int .i64 1, .int .i64 3, .int .i64 0, .int .i64 0, .int .i64 (-1)] 23)).alloc (.cells #[.int .u8 10, .int .u8 0, .int .u8 0, .int .u8 1, .int .u8 0, .int .u8 0, .int .u8 0, .int .u8 0] 5)) = W := ⟨_, rfl⟩
  rw [hW]
  have hb := below_alloc (below_alloc (Below.refl w2.heap.size w2) (.cells #[.int .i64 1, .int .i64 3, .int .i64 0, .int .i64 0, .int .i64 (-1)] 23)) (.cells #[.int .u8 10, .int .u8 0, .int .u8 0, .int .u8 1, .int .u8 0, .int .u8 0, .int .u8 0, .int .u8 0] 5)
  have hy := blk_alloc (blk_new w2 (.cells #[.int .i64 1, .int .i64 3, .int .i64 0, .int .i64 0, .int .i64 (-1)] 23)) (.cells #[.int .u8 10, .int .u8 0, .int .u8 0, .int .u8 1, .int .u8 0, .int .u8 0, .int .u8 0, .int .u8 0] 5)
  have hz := blk_new (w2.alloc (.cells #[.int .i64 1, .int .i64 3, .int .i64 0, .int .i64 0, .int .i64 (-1)] 23)) (.cells #[.int .u8 10, .int .u8 0, .int .u8 0, .int .u8 1, .int .u8 0, .int .u8 0, .int .u8 0, .int .u8 0] 5)
  rw [show (w2.alloc (.cells #[.int .i64 1, .int .i64 3, .int .i64 0, .int .i64 0, .int .i64 (-1)] 23)).heap.size = w2.heap.size + 1 by simp only [World.alloc, Array.size_push]] at hz
  rw [hW] at hb hy hz
  have hz' : W.heap[w2.heap.size + 1]? = some (.cells (([10, 0, 0, 1, 0, 0, 0, 0] : List Int).map (Value.int .u8)).toArray 5 (0, 0)) := hz
  have hz3 := C_of_blk [10, 0, 0, 1, 0, 0, 0, 0] hz' (by decide)
  have HX3 := Aside0.mk (blk_below HX2.out hb)
  have HY3 := Aside0.mk hy
  have HB3 := Aside0.mk (below_then HB2.out (below_size HB2.out) hb)
  have HC3 := Aside0.mk (Kd.C_below HC2.out hb)
  have HG3 := Aside0.mk (GL.below HG.out HB3.out)
  clear hb hy hz hz' HX2 HB2 HC2 HG hW
  refine (inst_Decode.calls 30 _ 8 _ _ _ _ _ _ _ _ hz3 (by decide) sm_dec2).mono ?_
  rintro e w4 ⟨rfl, hb⟩
  have HX4 := Aside0.mk (blk_below HX3.out hb)
  have HY4 := Aside0.mk (blk_below HY3.out hb)
  have HB4 := Aside0.mk (below_then HB3.out (below_size HB3.out) hb)
  have HC4 := Aside0.mk (Kd.C_below HC3.out hb)
  have HG4 := Aside0.mk (GL.below HG3.out hb)
  clear hb HX3 HY3 HB3 HC3 HG3

  have x0 := blk_cell HX4.out 0
  have x1 := blk_cell HX4.out 1
  have x2 := blk_cell HX4.out 2
  have x3 := blk_cell HX4.out 3
  have x4 := blk_cell HX4.out 4
  simp at x0 x1 x2 x3 x4

  have hx_lt := blk_lt HX4.out
  go_wp2_with fail
  refine (inst_Sets.calls 30 1 3 0 0 (-1) _ _ _ sm_sets).mono ?_
  rintro e w5 ⟨rfl, hb0⟩
  have hb : Below w4.heap.size w4 w5 := below_then (below_alloc (Below.refl w4.heap.size w4) _) (below_size (below_alloc (Below.refl _ _) _)) hb0
  have HX5 := Aside0.mk (blk_below HX4.out hb)
  have HY5 := Aside0.mk (blk_below HY4.out hb)
  have HB5 := Aside0.mk (below_then HB4.out (below_size HB4.out) hb)
  have HC5 := Aside0.mk (Kd.C_below HC4.out hb)
  have HG5 := Aside0.mk (GL.below HG4.out hb)
  clear hb0 hb HX4 HY4 HB4 HC4 HG4 x0 x1 x2 x3 x4 hx_lt hz3
  have x0 := blk_cell HX5.out 0
  have x1 := blk_cell HX5.out 1
  have x2 := blk_cell HX5.out 2
  have x3 := blk_cell HX5.out 3
  have x4 := blk_cell HX5.out 4
  simp at x0 x1 x2 x3 x4

  have y0 := blk_cell HY5.out 0
  have y1 := blk_cell HY5.out 1
  have y2 := blk_cell HY5.out 2
  have y3 := blk_cell HY5.out 3
  have y4 := blk_cell HY5.out 4
  simp at y0 y1 y2 y3 y4

  have hs := Kd.C_string (P := Tryd.prog) (src := 24) (dst := 9) (c := k1) Tryd.underlying24 Tryd.underlying5 Tryd.underlying9 HC5.out
  rw [sm_str] at hs
  have hs : (convert 24 9 (.slice A1 8 k1)).run Tryd.prog w5 = .ok (.string ⟨#[1, 48, 0, 0, 255, 255, 255, 255]⟩) w5 := hs
  go_wp2_with fail
  refine (inst_Text.calls 30 1 3 0 0 (-1) _ w5 HG5 sm_text).mono ?_
  rintro e w6 ⟨rfl, hb⟩
  have HB6 := Aside0.mk (below_then HB5.out (below_size HB5.out) hb)
  have HG6 := Aside0.mk (GL.below HG5.out hb)
  clear hb HB5 HG5 HX5 HY5 HC5 hs x0 x1 x2 x3 x4 y0 y1 y2 y3 y4
  go_wp2_with fail
  refine (inst_Text.calls 30 4 1 2 3 1 _ w6 HG6 sm_text2).mono ?_
  rintro e w7 ⟨rfl, hb⟩
  have HB7 := Aside0.mk (below_then HB6.out (below_size HB6.out) hb)
  clear hb HB6 HG6
  go_wp2_with fail
  refine (inst_Uses.calls 30 10 0 0 0 0 _ w7 sm_uses).mono ?_
  rintro e w8 ⟨v8, rfl, hr8, hb⟩
  obtain ⟨A8, k8, rfl, hk8, hc8⟩ := Kd.R_reads hr8
  have HB8 := Aside0.mk (below_then HB7.out (below_size HB7.out) hb)
  clear hb HB7 hr8
  have HC8 := Aside0.mk hc8
  have HK8 := Aside0.mk hk8
  clear hc8 hk8
  go_wp2_with fail
  have hz := C_of_blk (k := .i64) [15] (blk_new w8 (.cells #[.int .i64 15] 3)) (by decide)
  refine (swageref02_Ints.calls 30 A8 k8 [15] _ 1 [15] _ _ (Kd.C_below HC8.out (below_alloc (Below.refl _ _) _)) HK8.out hz (by decide) sm_ints).mono ?_
  rintro e w9 ⟨rfl, hb⟩
  have HB9 := Aside0.mk (below_then (below_alloc HB8.out (.cells #[.int .i64 15] 3)) (below_size (below_alloc HB8.out _)) hb.below)
  clear hb HB8 hz HC8 HK8
  go_wp2_with fail
  refine bodyPost_ret (v := .bool true) (by simp [results, Tryd.results9, go_sem]) rfl ⟨rfl, ?_⟩
  exact HB9.out
def swagelaw02_small.f : Option Bool := some true
theorem swagelaw02_small.calls (r : Bool) (w : World) (hGL : Aside0 (GL w)) (h : swagelaw02_small.f = some r) : Calls Tryd.prog 9 #[] w fun e w' => e = .returned (.bool r) ∧ Below w.heap.size w w' := by
  injection h with h
  subst h
  exact small_walk w hGL.out
end Go.Proofs.YtfdkhahpjbikiaaDoor.S
