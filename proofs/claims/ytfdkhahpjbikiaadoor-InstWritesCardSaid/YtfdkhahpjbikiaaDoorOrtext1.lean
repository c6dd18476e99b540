import Derived.Test.YtfdkhahpjbikiaaDoorRel
import Derived.Test.YtfdkhahpjbikiaaDoorS0
import Derived.Test.YtfdkhahpjbikiaaDoorS2
import Derived.Test.YtfdkhahpjbikiaaDoorS3
import Derived.Test.YtfdkhahpjbikiaaDoorS5
namespace Go.Proofs.YtfdkhahpjbikiaaDoor.S
open Go.RowKit Go.Proofs.YtfdkhahpjbikiaaDoorW.PrintWords Go.Proofs.YtfdkhahpjbikiaaDoorW.PrintLast Go.Proofs.YtfdkhahpjbikiaaDoorW.PrintMore Go.RelRegion
set_option linter.unusedVariables false
set_option maxHeartbeats 8000000 in
set_option maxRecDepth 100000 in
theorem rtext_no (k : Nat) (a0 a1 a2 a3 a4 : Int) (w : World) (hr : swageref02_Right.f k a0 a1 a2 a3 a4 = some false) :
    Calls Tryd.prog 20 #[.agg #[.int .i64 a0, .int .i64 a1, .int .i64 a2, .int .i64 a3, .int .i64 a4]] w fun e w' => e = .returned (.string (⟨#[63]⟩)) ∧ Below w.heap.size w w' := by
  have HR := Aside0.mk hr
  clear hr
  have hu23 := Tryd.underlying23
  go_enter Tryd.func20, Tryd.ntmps20
  go_wp2_with fail
  have hx0 := blk_new w (.cells #[.int .i64 a0, .int .i64 a1, .int .i64 a2, .int .i64 a3, .int .i64 a4] 23)
  refine (swageref02_Right.calls k a0 a1 a2 a3 a4 false _ HR.out).mono ?_
  rintro e w1 ⟨rfl, hb⟩
  have hx := blk_below hx0 hb
  have hB := below_then (below_alloc (Below.refl w.heap.size w) _) (below_size (below_alloc (Below.refl w.heap.size w) _)) hb
  clear hx0
  have c0 := blk_cell hx 0
  have c1 := blk_cell hx 1
  have c2 := blk_cell hx 2
  have c3 := blk_cell hx 3
  have c4 := blk_cell hx 4
  simp at c0 c1 c2 c3 c4
  have X1 := Aside0.mk hx
  have B1 := Aside0.mk hB
  clear hx hB hb
  go_wp2_with fail
  go_ret
  exact ⟨rfl, B1.out⟩
set_option maxHeartbeats 8000000 in
set_option maxRecDepth 100000 in
theorem rtext_000 (k : Nat) (a0 a1 a2 a3 a4 : Int) (w : World) (h4 : (a0 == 4) = false) (nm s1 s2 s4 : ByteArray) (sc : Bool) (hr : swageref02_Right.f k a0 a1 a2 a3 a4 = some true) (hn : swageref02_name.f a0 = some nm) (hf : swageref02_fields.f k a0 = some (false, false, sc, false, true)) (zn : nm.size ≤ 10) :
    Calls Tryd.prog 20 #[.agg #[.int .i64 a0, .int .i64 a1, .int .i64 a2, .int .i64 a3, .int .i64 a4]] w fun e w' => e = .returned (.string (nm)) ∧ Below w.heap.size w w' := by
  have HR := Aside0.mk hr
  have HN := Aside0.mk hn
  have HF := Aside0.mk hf
  clear hr hn hf
  have hu23 := Tryd.underlying23
  go_enter Tryd.func20, Tryd.ntmps20
  go_wp2_with fail
  have hx0 := blk_new w (.cells #[.int .i64 a0, .int .i64 a1, .int .i64 a2, .int .i64 a3, .int .i64 a4] 23)
  refine (swageref02_Right.calls k a0 a1 a2 a3 a4 true _ HR.out).mono ?_
  rintro e w1 ⟨rfl, hb⟩
  have hx := blk_below hx0 hb
  have hB := below_then (below_alloc (Below.refl w.heap.size w) _) (below_size (below_alloc (Below.refl w.heap.size w) _)) hb
  clear hx0
  have c0 := blk_cell hx 0
  have c1 := blk_cell hx 1
  have c2 := blk_cell hx 2
  have c3 := blk_cell hx 3
  have c4 := blk_cell hx 4
  simp at c0 c1 c2 c3 c4
  have X1 := Aside0.mk hx
  have B1 := Aside0.mk hB
  clear hx hB hb
  go_wp2_with fail
  refine (swageref02_name.calls a0 nm _ HN.out).mono ?_
  rintro e w2 ⟨rfl, hd⟩
  have hb := hd.below
  have hx := blk_below X1.out hb
  have hB := below_then B1.out (below_size B1.out) hb
  clear c0 c1 c2 c3 c4 hd
  have c0 := blk_cell hx 0
  have c1 := blk_cell hx 1
  have c2 := blk_cell hx 2
  have c3 := blk_cell hx 3
  have c4 := blk_cell hx 4
  simp at c0 c1 c2 c3 c4
  have X2 := Aside0.mk hx
  have B2 := Aside0.mk hB
  clear hx hB hb
  go_wp2_with fail
  refine (swageref02_fields.calls k a0 false false sc false true _ HF.out).mono ?_
  rintro e w3 ⟨rfl, hd⟩
  have hb := hd.below
  have hx := blk_below X2.out hb
  have hB := below_then B2.out (below_size B2.out) hb
  clear c0 c1 c2 c3 c4 hd
  have c0 := blk_cell hx 0
  have c1 := blk_cell hx 1
  have c2 := blk_cell hx 2
  have c3 := blk_cell hx 3
  have c4 := blk_cell hx 4
  simp at c0 c1 c2 c3 c4
  have X3 := Aside0.mk hx
  have B3 := Aside0.mk hB
  clear hx hB hb
  go_wp2_with fail
  go_ret
  exact ⟨rfl, B3.out⟩
set_option maxHeartbeats 8000000 in
set_option maxRecDepth 100000 in
theorem rtext_001 (k : Nat) (a0 a1 a2 a3 a4 : Int) (w : World) (h4 : (a0 == 4) = false) (nm s1 s2 s4 : ByteArray) (sc : Bool) (hr : swageref02_Right.f k a0 a1 a2 a3 a4 = some true) (hn : swageref02_name.f a0 = some nm) (hf : swageref02_fields.f k a0 = some (false, false, sc, true, true)) (zn : nm.size ≤ 10) (n4 : swageref02_number.f k a4 = some s4) (z4 : s4.size ≤ 30) :
    Calls Tryd.prog 20 #[.agg #[.int .i64 a0, .int .i64 a1, .int .i64 a2, .int .i64 a3, .int .i64 a4]] w fun e w' => e = .returned (.string (nm ++ (⟨#[32]⟩ : ByteArray) ++ s4)) ∧ Below w.heap.size w w' := by
  have HR := Aside0.mk hr
  have HN := Aside0.mk hn
  have HF := Aside0.mk hf
  have N4 := Aside0.mk n4
  clear hr hn hf n4
  have hu23 := Tryd.underlying23
  go_enter Tryd.func20, Tryd.ntmps20
  go_wp2_with fail
  have hx0 := blk_new w (.cells #[.int .i64 a0, .int .i64 a1, .int .i64 a2, .int .i64 a3, .int .i64 a4] 23)
  refine (swageref02_Right.calls k a0 a1 a2 a3 a4 true _ HR.out).mono ?_
  rintro e w1 ⟨rfl, hb⟩
  have hx := blk_below hx0 hb
  have hB := below_then (below_alloc (Below.refl w.heap.size w) _) (below_size (below_alloc (Below.refl w.heap.size w) _)) hb
  clear hx0
  have c0 := blk_cell hx 0
  have c1 := blk_cell hx 1
  have c2 := blk_cell hx 2
  have c3 := blk_cell hx 3
  have c4 := blk_cell hx 4
  simp at c0 c1 c2 c3 c4
  have X1 := Aside0.mk hx
  have B1 := Aside0.mk hB
  clear hx hB hb
  go_wp2_with fail
  refine (swageref02_name.calls a0 nm _ HN.out).mono ?_
  rintro e w2 ⟨rfl, hd⟩
  have hb := hd.below
  have hx := blk_below X1.out hb
  have hB := below_then B1.out (below_size B1.out) hb
  clear c0 c1 c2 c3 c4 hd
  have c0 := blk_cell hx 0
  have c1 := blk_cell hx 1
  have c2 := blk_cell hx 2
  have c3 := blk_cell hx 3
  have c4 := blk_cell hx 4
  simp at c0 c1 c2 c3 c4
  have X2 := Aside0.mk hx
  have B2 := Aside0.mk hB
  clear hx hB hb
  go_wp2_with fail
  refine (swageref02_fields.calls k a0 false false sc true true _ HF.out).mono ?_
  rintro e w3 ⟨rfl, hd⟩
  have hb := hd.below
  have hx := blk_below X2.out hb
  have hB := below_then B2.out (below_size B2.out) hb
  clear c0 c1 c2 c3 c4 hd
  have c0 := blk_cell hx 0
  have c1 := blk_cell hx 1
  have c2 := blk_cell hx 2
  have c3 := blk_cell hx 3
  have c4 := blk_cell hx 4
  simp at c0 c1 c2 c3 c4
  have X3 := Aside0.mk hx
  have B3 := Aside0.mk hB
  clear hx hB hb
  go_wp2_with fail
  refine (swageref02_number.calls k a4 s4 _ N4.out).mono ?_
  rintro e w4 ⟨rfl, hb⟩
  have hx := blk_below X3.out hb
  have hB := below_then B3.out (below_size B3.out) hb
  clear c0 c1 c2 c3 c4
  have c0 := blk_cell hx 0
  have c1 := blk_cell hx 1
  have c2 := blk_cell hx 2
  have c3 := blk_cell hx 3
  have c4 := blk_cell hx 4
  simp at c0 c1 c2 c3 c4
  have X4 := Aside0.mk hx
  have B4 := Aside0.mk hB
  clear hx hB hb
  go_wp2_with fail
  go_ret
  exact ⟨rfl, B4.out⟩
set_option maxHeartbeats 8000000 in
set_option maxRecDepth 100000 in
theorem rtext_010 (k : Nat) (a0 a1 a2 a3 a4 : Int) (w : World) (h4 : (a0 == 4) = false) (nm s1 s2 s4 : ByteArray) (sc : Bool) (hr : swageref02_Right.f k a0 a1 a2 a3 a4 = some true) (hn : swageref02_name.f a0 = some nm) (hf : swageref02_fields.f k a0 = some (false, true, sc, false, true)) (zn : nm.size ≤ 10) (n2 : swageref02_number.f k a2 = some s2) (z2 : s2.size ≤ 30) :
    Calls Tryd.prog 20 #[.agg #[.int .i64 a0, .int .i64 a1, .int .i64 a2, .int .i64 a3, .int .i64 a4]] w fun e w' => e = .returned (.string (nm ++ (⟨#[32, 114]⟩ : ByteArray) ++ s2)) ∧ Below w.heap.size w w' := by
  have HR := Aside0.mk hr
  have HN := Aside0.mk hn
  have HF := Aside0.mk hf
  have N2 := Aside0.mk n2
  clear hr hn hf n2
  have hu23 := Tryd.underlying23
  go_enter Tryd.func20, Tryd.ntmps20
  go_wp2_with fail
  have hx0 := blk_new w (.cells #[.int .i64 a0, .int .i64 a1, .int .i64 a2, .int .i64 a3, .int .i64 a4] 23)
  refine (swageref02_Right.calls k a0 a1 a2 a3 a4 true _ HR.out).mono ?_
  rintro e w1 ⟨rfl, hb⟩
  have hx := blk_below hx0 hb
  have hB := below_then (below_alloc (Below.refl w.heap.size w) _) (below_size (below_alloc (Below.refl w.heap.size w) _)) hb
  clear hx0
  have c0 := blk_cell hx 0
  have c1 := blk_cell hx 1
  have c2 := blk_cell hx 2
  have c3 := blk_cell hx 3
  have c4 := blk_cell hx 4
  simp at c0 c1 c2 c3 c4
  have X1 := Aside0.mk hx
  have B1 := Aside0.mk hB
  clear hx hB hb
  go_wp2_with fail
  refine (swageref02_name.calls a0 nm _ HN.out).mono ?_
  rintro e w2 ⟨rfl, hd⟩
  have hb := hd.below
  have hx := blk_below X1.out hb
  have hB := below_then B1.out (below_size B1.out) hb
  clear c0 c1 c2 c3 c4 hd
  have c0 := blk_cell hx 0
  have c1 := blk_cell hx 1
  have c2 := blk_cell hx 2
  have c3 := blk_cell hx 3
  have c4 := blk_cell hx 4
  simp at c0 c1 c2 c3 c4
  have X2 := Aside0.mk hx
  have B2 := Aside0.mk hB
  clear hx hB hb
  go_wp2_with fail
  refine (swageref02_fields.calls k a0 false true sc false true _ HF.out).mono ?_
  rintro e w3 ⟨rfl, hd⟩
  have hb := hd.below
  have hx := blk_below X2.out hb
  have hB := below_then B2.out (below_size B2.out) hb
  clear c0 c1 c2 c3 c4 hd
  have c0 := blk_cell hx 0
  have c1 := blk_cell hx 1
  have c2 := blk_cell hx 2
  have c3 := blk_cell hx 3
  have c4 := blk_cell hx 4
  simp at c0 c1 c2 c3 c4
  have X3 := Aside0.mk hx
  have B3 := Aside0.mk hB
  clear hx hB hb
  go_wp2_with fail
  refine (swageref02_number.calls k a2 s2 _ N2.out).mono ?_
  rintro e w4 ⟨rfl, hb⟩
  have hx := blk_below X3.out hb
  have hB := below_then B3.out (below_size B3.out) hb
  clear c0 c1 c2 c3 c4
  have c0 := blk_cell hx 0
  have c1 := blk_cell hx 1
  have c2 := blk_cell hx 2
  have c3 := blk_cell hx 3
  have c4 := blk_cell hx 4
  simp at c0 c1 c2 c3 c4
  have X4 := Aside0.mk hx
  have B4 := Aside0.mk hB
  clear hx hB hb
  go_wp2_with fail
  go_ret
  exact ⟨rfl, B4.out⟩
set_option maxHeartbeats 8000000 in
set_option maxRecDepth 100000 in
theorem rtext_011 (k : Nat) (a0 a1 a2 a3 a4 : Int) (w : World) (h4 : (a0 == 4) = false) (nm s1 s2 s4 : ByteArray) (sc : Bool) (hr : swageref02_Right.f k a0 a1 a2 a3 a4 = some true) (hn : swageref02_name.f a0 = some nm) (hf : swageref02_fields.f k a0 = some (false, true, sc, true, true)) (zn : nm.size ≤ 10) (n2 : swageref02_number.f k a2 = some s2) (z2 : s2.size ≤ 30) (n4 : swageref02_number.f k a4 = some s4) (z4 : s4.size ≤ 30) :
    Calls Tryd.prog 20 #[.agg #[.int .i64 a0, .int .i64 a1, .int .i64 a2, .int .i64 a3, .int .i64 a4]] w fun e w' => e = .returned (.string (nm ++ (⟨#[32, 114]⟩ : ByteArray) ++ s2 ++ (⟨#[32]⟩ : ByteArray) ++ s4)) ∧ Below w.heap.size w w' := by
  have HR := Aside0.mk hr
  have HN := Aside0.mk hn
  have HF := Aside0.mk hf
  have N2 := Aside0.mk n2
  have N4 := Aside0.mk n4
  clear hr hn hf n2 n4
  have hu23 := Tryd.underlying23
  go_enter Tryd.func20, Tryd.ntmps20
  go_wp2_with fail
  have hx0 := blk_new w (.cells #[.int .i64 a0, .int .i64 a1, .int .i64 a2, .int .i64 a3, .int .i64 a4] 23)
  refine (swageref02_Right.calls k a0 a1 a2 a3 a4 true _ HR.out).mono ?_
  rintro e w1 ⟨rfl, hb⟩
  have hx := blk_below hx0 hb
  have hB := below_then (below_alloc (Below.refl w.heap.size w) _) (below_size (below_alloc (Below.refl w.heap.size w) _)) hb
  clear hx0
  have c0 := blk_cell hx 0
  have c1 := blk_cell hx 1
  have c2 := blk_cell hx 2
  have c3 := blk_cell hx 3
  have c4 := blk_cell hx 4
  simp at c0 c1 c2 c3 c4
  have X1 := Aside0.mk hx
  have B1 := Aside0.mk hB
  clear hx hB hb
  go_wp2_with fail
  refine (swageref02_name.calls a0 nm _ HN.out).mono ?_
  rintro e w2 ⟨rfl, hd⟩
  have hb := hd.below
  have hx := blk_below X1.out hb
  have hB := below_then B1.out (below_size B1.out) hb
  clear c0 c1 c2 c3 c4 hd
  have c0 := blk_cell hx 0
  have c1 := blk_cell hx 1
  have c2 := blk_cell hx 2
  have c3 := blk_cell hx 3
  have c4 := blk_cell hx 4
  simp at c0 c1 c2 c3 c4
  have X2 := Aside0.mk hx
  have B2 := Aside0.mk hB
  clear hx hB hb
  go_wp2_with fail
  refine (swageref02_fields.calls k a0 false true sc true true _ HF.out).mono ?_
  rintro e w3 ⟨rfl, hd⟩
  have hb := hd.below
  have hx := blk_below X2.out hb
  have hB := below_then B2.out (below_size B2.out) hb
  clear c0 c1 c2 c3 c4 hd
  have c0 := blk_cell hx 0
  have c1 := blk_cell hx 1
  have c2 := blk_cell hx 2
  have c3 := blk_cell hx 3
  have c4 := blk_cell hx 4
  simp at c0 c1 c2 c3 c4
  have X3 := Aside0.mk hx
  have B3 := Aside0.mk hB
  clear hx hB hb
  go_wp2_with fail
  refine (swageref02_number.calls k a2 s2 _ N2.out).mono ?_
  rintro e w4 ⟨rfl, hb⟩
  have hx := blk_below X3.out hb
  have hB := below_then B3.out (below_size B3.out) hb
  clear c0 c1 c2 c3 c4
  have c0 := blk_cell hx 0
  have c1 := blk_cell hx 1
  have c2 := blk_cell hx 2
  have c3 := blk_cell hx 3
  have c4 := blk_cell hx 4
  simp at c0 c1 c2 c3 c4
  have X4 := Aside0.mk hx
  have B4 := Aside0.mk hB
  clear hx hB hb
  go_wp2_with fail
  refine (swageref02_number.calls k a4 s4 _ N4.out).mono ?_
  rintro e w5 ⟨rfl, hb⟩
  have hx := blk_below X4.out hb
  have hB := below_then B4.out (below_size B4.out) hb
  clear c0 c1 c2 c3 c4
  have c0 := blk_cell hx 0
  have c1 := blk_cell hx 1
  have c2 := blk_cell hx 2
  have c3 := blk_cell hx 3
  have c4 := blk_cell hx 4
  simp at c0 c1 c2 c3 c4
  have X5 := Aside0.mk hx
  have B5 := Aside0.mk hB
  clear hx hB hb
  go_wp2_with fail
  go_ret
  exact ⟨rfl, B5.out⟩
set_option maxHeartbeats 8000000 in
set_option maxRecDepth 100000 in
theorem rtext_100 (k : Nat) (a0 a1 a2 a3 a4 : Int) (w : World) (h4 : (a0 == 4) = false) (nm s1 s2 s4 : ByteArray) (sc : Bool) (hr : swageref02_Right.f k a0 a1 a2 a3 a4 = some true) (hn : swageref02_name.f a0 = some nm) (hf : swageref02_fields.f k a0 = some (true, false, sc, false, true)) (zn : nm.size ≤ 10) (n1 : swageref02_number.f k a1 = some s1) (z1 : s1.size ≤ 30) :
    Calls Tryd.prog 20 #[.agg #[.int .i64 a0, .int .i64 a1, .int .i64 a2, .int .i64 a3, .int .i64 a4]] w fun e w' => e = .returned (.string (nm ++ (⟨#[32, 114]⟩ : ByteArray) ++ s1)) ∧ Below w.heap.size w w' := by
  have HR := Aside0.mk hr
  have HN := Aside0.mk hn
  have HF := Aside0.mk hf
  have N1 := Aside0.mk n1
  clear hr hn hf n1
  have hu23 := Tryd.underlying23
  go_enter Tryd.func20, Tryd.ntmps20
  go_wp2_with fail
  have hx0 := blk_new w (.cells #[.int .i64 a0, .int .i64 a1, .int .i64 a2, .int .i64 a3, .int .i64 a4] 23)
  refine (swageref02_Right.calls k a0 a1 a2 a3 a4 true _ HR.out).mono ?_
  rintro e w1 ⟨rfl, hb⟩
  have hx := blk_below hx0 hb
  have hB := below_then (below_alloc (Below.refl w.heap.size w) _) (below_size (below_alloc (Below.refl w.heap.size w) _)) hb
  clear hx0
  have c0 := blk_cell hx 0
  have c1 := blk_cell hx 1
  have c2 := blk_cell hx 2
  have c3 := blk_cell hx 3
  have c4 := blk_cell hx 4
  simp at c0 c1 c2 c3 c4
  have X1 := Aside0.mk hx
  have B1 := Aside0.mk hB
  clear hx hB hb
  go_wp2_with fail
  refine (swageref02_name.calls a0 nm _ HN.out).mono ?_
  rintro e w2 ⟨rfl, hd⟩
  have hb := hd.below
  have hx := blk_below X1.out hb
  have hB := below_then B1.out (below_size B1.out) hb
  clear c0 c1 c2 c3 c4 hd
  have c0 := blk_cell hx 0
  have c1 := blk_cell hx 1
  have c2 := blk_cell hx 2
  have c3 := blk_cell hx 3
  have c4 := blk_cell hx 4
  simp at c0 c1 c2 c3 c4
  have X2 := Aside0.mk hx
  have B2 := Aside0.mk hB
  clear hx hB hb
  go_wp2_with fail
  refine (swageref02_fields.calls k a0 true false sc false true _ HF.out).mono ?_
  rintro e w3 ⟨rfl, hd⟩
  have hb := hd.below
  have hx := blk_below X2.out hb
  have hB := below_then B2.out (below_size B2.out) hb
  clear c0 c1 c2 c3 c4 hd
  have c0 := blk_cell hx 0
  have c1 := blk_cell hx 1
  have c2 := blk_cell hx 2
  have c3 := blk_cell hx 3
  have c4 := blk_cell hx 4
  simp at c0 c1 c2 c3 c4
  have X3 := Aside0.mk hx
  have B3 := Aside0.mk hB
  clear hx hB hb
  go_wp2_with fail
  refine (swageref02_number.calls k a1 s1 _ N1.out).mono ?_
  rintro e w4 ⟨rfl, hb⟩
  have hx := blk_below X3.out hb
  have hB := below_then B3.out (below_size B3.out) hb
  clear c0 c1 c2 c3 c4
  have c0 := blk_cell hx 0
  have c1 := blk_cell hx 1
  have c2 := blk_cell hx 2
  have c3 := blk_cell hx 3
  have c4 := blk_cell hx 4
  simp at c0 c1 c2 c3 c4
  have X4 := Aside0.mk hx
  have B4 := Aside0.mk hB
  clear hx hB hb
  go_wp2_with fail
  go_ret
  exact ⟨rfl, B4.out⟩
set_option maxHeartbeats 8000000 in
set_option maxRecDepth 100000 in
theorem rtext_101 (k : Nat) (a0 a1 a2 a3 a4 : Int) (w : World) (h4 : (a0 == 4) = false) (nm s1 s2 s4 : ByteArray) (sc : Bool) (hr : swageref02_Right.f k a0 a1 a2 a3 a4 = some true) (hn : swageref02_name.f a0 = some nm) (hf : swageref02_fields.f k a0 = some (true, false, sc, true, true)) (zn : nm.size ≤ 10) (n1 : swageref02_number.f k a1 = some s1) (z1 : s1.size ≤ 30) (n4 : swageref02_number.f k a4 = some s4) (z4 : s4.size ≤ 30) :
    Calls Tryd.prog 20 #[.agg #[.int .i64 a0, .int .i64 a1, .int .i64 a2, .int .i64 a3, .int .i64 a4]] w fun e w' => e = .returned (.string (nm ++ (⟨#[32, 114]⟩ : ByteArray) ++ s1 ++ (⟨#[32]⟩ : ByteArray) ++ s4)) ∧ Below w.heap.size w w' := by
  have HR := Aside0.mk hr
  have HN := Aside0.mk hn
  have HF := Aside0.mk hf
  have N1 := Aside0.mk n1
  have N4 := Aside0.mk n4
  clear hr hn hf n1 n4
  have hu23 := Tryd.underlying23
  go_enter Tryd.func20, Tryd.ntmps20
  go_wp2_with fail
  have hx0 := blk_new w (.cells #[.int .i64 a0, .int .i64 a1, .int .i64 a2, .int .i64 a3, .int .i64 a4] 23)
  refine (swageref02_Right.calls k a0 a1 a2 a3 a4 true _ HR.out).mono ?_
  rintro e w1 ⟨rfl, hb⟩
  have hx := blk_below hx0 hb
  have hB := below_then (below_alloc (Below.refl w.heap.size w) _) (below_size (below_alloc (Below.refl w.heap.size w) _)) hb
  clear hx0
  have c0 := blk_cell hx 0
  have c1 := blk_cell hx 1
  have c2 := blk_cell hx 2
  have c3 := blk_cell hx 3
  have c4 := blk_cell hx 4
  simp at c0 c1 c2 c3 c4
  have X1 := Aside0.mk hx
  have B1 := Aside0.mk hB
  clear hx hB hb
  go_wp2_with fail
  refine (swageref02_name.calls a0 nm _ HN.out).mono ?_
  rintro e w2 ⟨rfl, hd⟩
  have hb := hd.below
  have hx := blk_below X1.out hb
  have hB := below_then B1.out (below_size B1.out) hb
  clear c0 c1 c2 c3 c4 hd
  have c0 := blk_cell hx 0
  have c1 := blk_cell hx 1
  have c2 := blk_cell hx 2
  have c3 := blk_cell hx 3
  have c4 := blk_cell hx 4
  simp at c0 c1 c2 c3 c4
  have X2 := Aside0.mk hx
  have B2 := Aside0.mk hB
  clear hx hB hb
  go_wp2_with fail
  refine (swageref02_fields.calls k a0 true false sc true true _ HF.out).mono ?_
  rintro e w3 ⟨rfl, hd⟩
  have hb := hd.below
  have hx := blk_below X2.out hb
  have hB := below_then B2.out (below_size B2.out) hb
  clear c0 c1 c2 c3 c4 hd
  have c0 := blk_cell hx 0
  have c1 := blk_cell hx 1
  have c2 := blk_cell hx 2
  have c3 := blk_cell hx 3
  have c4 := blk_cell hx 4
  simp at c0 c1 c2 c3 c4
  have X3 := Aside0.mk hx
  have B3 := Aside0.mk hB
  clear hx hB hb
  go_wp2_with fail
  refine (swageref02_number.calls k a1 s1 _ N1.out).mono ?_
  rintro e w4 ⟨rfl, hb⟩
  have hx := blk_below X3.out hb
  have hB := below_then B3.out (below_size B3.out) hb
  clear c0 c1 c2 c3 c4
  have c0 := blk_cell hx 0
  have c1 := blk_cell hx 1
  have c2 := blk_cell hx 2
  have c3 := blk_cell hx 3
  have c4 := blk_cell hx 4
  simp at c0 c1 c2 c3 c4
  have X4 := Aside0.mk hx
  have B4 := Aside0.mk hB
  clear hx hB hb
  go_wp2_with fail
  refine (swageref02_number.calls k a4 s4 _ N4.out).mono ?_
  rintro e w5 ⟨rfl, hb⟩
  have hx := blk_below X4.out hb
  have hB := below_then B4.out (below_size B4.out) hb
  clear c0 c1 c2 c3 c4
  have c0 := blk_cell hx 0
  have c1 := blk_cell hx 1
  have c2 := blk_cell hx 2
  have c3 := blk_cell hx 3
  have c4 := blk_cell hx 4
  simp at c0 c1 c2 c3 c4
  have X5 := Aside0.mk hx
  have B5 := Aside0.mk hB
  clear hx hB hb
  go_wp2_with fail
  go_ret
  exact ⟨rfl, B5.out⟩
set_option maxHeartbeats 8000000 in
set_option maxRecDepth 100000 in
theorem rtext_110 (k : Nat) (a0 a1 a2 a3 a4 : Int) (w : World) (h4 : (a0 == 4) = false) (nm s1 s2 s4 : ByteArray) (sc : Bool) (hr : swageref02_Right.f k a0 a1 a2 a3 a4 = some true) (hn : swageref02_name.f a0 = some nm) (hf : swageref02_fields.f k a0 = some (true, true, sc, false, true)) (zn : nm.size ≤ 10) (n1 : swageref02_number.f k a1 = some s1) (z1 : s1.size ≤ 30) (n2 : swageref02_number.f k a2 = some s2) (z2 : s2.size ≤ 30) :
    Calls Tryd.prog 20 #[.agg #[.int .i64 a0, .int .i64 a1, .int .i64 a2, .int .i64 a3, .int .i64 a4]] w fun e w' => e = .returned (.string (nm ++ (⟨#[32, 114]⟩ : ByteArray) ++ s1 ++ (⟨#[32, 114]⟩ : ByteArray) ++ s2)) ∧ Below w.heap.size w w' := by
  have HR := Aside0.mk hr
  have HN := Aside0.mk hn
  have HF := Aside0.mk hf
  have N1 := Aside0.mk n1
  have N2 := Aside0.mk n2
  clear hr hn hf n1 n2
  have hu23 := Tryd.underlying23
  go_enter Tryd.func20, Tryd.ntmps20
  go_wp2_with fail
  have hx0 := blk_new w (.cells #[.int .i64 a0, .int .i64 a1, .int .i64 a2, .int .i64 a3, .int .i64 a4] 23)
  refine (swageref02_Right.calls k a0 a1 a2 a3 a4 true _ HR.out).mono ?_
  rintro e w1 ⟨rfl, hb⟩
  have hx := blk_below hx0 hb
  have hB := below_then (below_alloc (Below.refl w.heap.size w) _) (below_size (below_alloc (Below.refl w.heap.size w) _)) hb
  clear hx0
  have c0 := blk_cell hx 0
  have c1 := blk_cell hx 1
  have c2 := blk_cell hx 2
  have c3 := blk_cell hx 3
  have c4 := blk_cell hx 4
  simp at c0 c1 c2 c3 c4
  have X1 := Aside0.mk hx
  have B1 := Aside0.mk hB
  clear hx hB hb
  go_wp2_with fail
  refine (swageref02_name.calls a0 nm _ HN.out).mono ?_
  rintro e w2 ⟨rfl, hd⟩
  have hb := hd.below
  have hx := blk_below X1.out hb
  have hB := below_then B1.out (below_size B1.out) hb
  clear c0 c1 c2 c3 c4 hd
  have c0 := blk_cell hx 0
  have c1 := blk_cell hx 1
  have c2 := blk_cell hx 2
  have c3 := blk_cell hx 3
  have c4 := blk_cell hx 4
  simp at c0 c1 c2 c3 c4
  have X2 := Aside0.mk hx
  have B2 := Aside0.mk hB
  clear hx hB hb
  go_wp2_with fail
  refine (swageref02_fields.calls k a0 true true sc false true _ HF.out).mono ?_
  rintro e w3 ⟨rfl, hd⟩
  have hb := hd.below
  have hx := blk_below X2.out hb
  have hB := below_then B2.out (below_size B2.out) hb
  clear c0 c1 c2 c3 c4 hd
  have c0 := blk_cell hx 0
  have c1 := blk_cell hx 1
  have c2 := blk_cell hx 2
  have c3 := blk_cell hx 3
  have c4 := blk_cell hx 4
  simp at c0 c1 c2 c3 c4
  have X3 := Aside0.mk hx
  have B3 := Aside0.mk hB
  clear hx hB hb
  go_wp2_with fail
  refine (swageref02_number.calls k a1 s1 _ N1.out).mono ?_
  rintro e w4 ⟨rfl, hb⟩
  have hx := blk_below X3.out hb
  have hB := below_then B3.out (below_size B3.out) hb
  clear c0 c1 c2 c3 c4
  have c0 := blk_cell hx 0
  have c1 := blk_cell hx 1
  have c2 := blk_cell hx 2
  have c3 := blk_cell hx 3
  have c4 := blk_cell hx 4
  simp at c0 c1 c2 c3 c4
  have X4 := Aside0.mk hx
  have B4 := Aside0.mk hB
  clear hx hB hb
  go_wp2_with fail
  refine (swageref02_number.calls k a2 s2 _ N2.out).mono ?_
  rintro e w5 ⟨rfl, hb⟩
  have hx := blk_below X4.out hb
  have hB := below_then B4.out (below_size B4.out) hb
  clear c0 c1 c2 c3 c4
  have c0 := blk_cell hx 0
  have c1 := blk_cell hx 1
  have c2 := blk_cell hx 2
  have c3 := blk_cell hx 3
  have c4 := blk_cell hx 4
  simp at c0 c1 c2 c3 c4
  have X5 := Aside0.mk hx
  have B5 := Aside0.mk hB
  clear hx hB hb
  go_wp2_with fail
  go_ret
  exact ⟨rfl, B5.out⟩
set_option maxHeartbeats 8000000 in
set_option maxRecDepth 100000 in
theorem rtext_111 (k : Nat) (a0 a1 a2 a3 a4 : Int) (w : World) (h4 : (a0 == 4) = false) (nm s1 s2 s4 : ByteArray) (sc : Bool) (hr : swageref02_Right.f k a0 a1 a2 a3 a4 = some true) (hn : swageref02_name.f a0 = some nm) (hf : swageref02_fields.f k a0 = some (true, true, sc, true, true)) (zn : nm.size ≤ 10) (n1 : swageref02_number.f k a1 = some s1) (z1 : s1.size ≤ 30) (n2 : swageref02_number.f k a2 = some s2) (z2 : s2.size ≤ 30) (n4 : swageref02_number.f k a4 = some s4) (z4 : s4.size ≤ 30) :
    Calls Tryd.prog 20 #[.agg #[.int .i64 a0, .int .i64 a1, .int .i64 a2, .int .i64 a3, .int .i64 a4]] w fun e w' => e = .returned (.string (nm ++ (⟨#[32, 114]⟩ : ByteArray) ++ s1 ++ (⟨#[32, 114]⟩ : ByteArray) ++ s2 ++ (⟨#[32]⟩ : ByteArray) ++ s4)) ∧ Below w.heap.size w w' := by
  have HR := Aside0.mk hr
  have HN := Aside0.mk hn
  have HF := Aside0.mk hf
  have N1 := Aside0.mk n1
  have N2 := Aside0.mk n2
  have N4 := Aside0.mk n4
  clear hr hn hf n1 n2 n4
  have hu23 := Tryd.underlying23
  go_enter Tryd.func20, Tryd.ntmps20
  go_wp2_with fail
  have hx0 := blk_new w (.cells #[.int .i64 a0, .int .i64 a1, .int .i64 a2, .int .i64 a3, .int .i64 a4] 23)
  refine (swageref02_Right.calls k a0 a1 a2 a3 a4 true _ HR.out).mono ?_
  rintro e w1 ⟨rfl, hb⟩
  have hx := blk_below hx0 hb
  have hB := below_then (below_alloc (Below.refl w.heap.size w) _) (below_size (below_alloc (Below.refl w.heap.size w) _)) hb
  clear hx0
  have c0 := blk_cell hx 0
  have c1 := blk_cell hx 1
  have c2 := blk_cell hx 2
  have c3 := blk_cell hx 3
  have c4 := blk_cell hx 4
  simp at c0 c1 c2 c3 c4
  have X1 := Aside0.mk hx
  have B1 := Aside0.mk hB
  clear hx hB hb
  go_wp2_with fail
  refine (swageref02_name.calls a0 nm _ HN.out).mono ?_
  rintro e w2 ⟨rfl, hd⟩
  have hb := hd.below
  have hx := blk_below X1.out hb
  have hB := below_then B1.out (below_size B1.out) hb
  clear c0 c1 c2 c3 c4 hd
  have c0 := blk_cell hx 0
  have c1 := blk_cell hx 1
  have c2 := blk_cell hx 2
  have c3 := blk_cell hx 3
  have c4 := blk_cell hx 4
  simp at c0 c1 c2 c3 c4
  have X2 := Aside0.mk hx
  have B2 := Aside0.mk hB
  clear hx hB hb
  go_wp2_with fail
  refine (swageref02_fields.calls k a0 true true sc true true _ HF.out).mono ?_
  rintro e w3 ⟨rfl, hd⟩
  have hb := hd.below
  have hx := blk_below X2.out hb
  have hB := below_then B2.out (below_size B2.out) hb
  clear c0 c1 c2 c3 c4 hd
  have c0 := blk_cell hx 0
  have c1 := blk_cell hx 1
  have c2 := blk_cell hx 2
  have c3 := blk_cell hx 3
  have c4 := blk_cell hx 4
  simp at c0 c1 c2 c3 c4
  have X3 := Aside0.mk hx
  have B3 := Aside0.mk hB
  clear hx hB hb
  go_wp2_with fail
  refine (swageref02_number.calls k a1 s1 _ N1.out).mono ?_
  rintro e w4 ⟨rfl, hb⟩
  have hx := blk_below X3.out hb
  have hB := below_then B3.out (below_size B3.out) hb
  clear c0 c1 c2 c3 c4
  have c0 := blk_cell hx 0
  have c1 := blk_cell hx 1
  have c2 := blk_cell hx 2
  have c3 := blk_cell hx 3
  have c4 := blk_cell hx 4
  simp at c0 c1 c2 c3 c4
  have X4 := Aside0.mk hx
  have B4 := Aside0.mk hB
  clear hx hB hb
  go_wp2_with fail
  refine (swageref02_number.calls k a2 s2 _ N2.out).mono ?_
  rintro e w5 ⟨rfl, hb⟩
  have hx := blk_below X4.out hb
  have hB := below_then B4.out (below_size B4.out) hb
  clear c0 c1 c2 c3 c4
  have c0 := blk_cell hx 0
  have c1 := blk_cell hx 1
  have c2 := blk_cell hx 2
  have c3 := blk_cell hx 3
  have c4 := blk_cell hx 4
  simp at c0 c1 c2 c3 c4
  have X5 := Aside0.mk hx
  have B5 := Aside0.mk hB
  clear hx hB hb
  go_wp2_with fail
  refine (swageref02_number.calls k a4 s4 _ N4.out).mono ?_
  rintro e w6 ⟨rfl, hb⟩
  have hx := blk_below X5.out hb
  have hB := below_then B5.out (below_size B5.out) hb
  clear c0 c1 c2 c3 c4
  have c0 := blk_cell hx 0
  have c1 := blk_cell hx 1
  have c2 := blk_cell hx 2
  have c3 := blk_cell hx 3
  have c4 := blk_cell hx 4
  simp at c0 c1 c2 c3 c4
  have X6 := Aside0.mk hx
  have B6 := Aside0.mk hB
  clear hx hB hb
  go_wp2_with fail
  go_ret
  exact ⟨rfl, B6.out⟩
set_option maxHeartbeats 8000000 in
set_option maxRecDepth 100000 in
theorem rtext_bin (k : Nat) (a0 a1 a2 a3 a4 : Int) (w : World) (h4 : (a0 == 4) = true) (nm s1 s2 s3 s4 : ByteArray) (hr : swageref02_Right.f k a0 a1 a2 a3 a4 = some true) (hn : swageref02_name.f a0 = some nm) (zn : nm.size ≤ 10) (n1 : swageref02_number.f k a1 = some s1) (z1 : s1.size ≤ 30) (n2 : swageref02_number.f k a2 = some s2) (z2 : s2.size ≤ 30) (n3 : swageref02_number.f k a3 = some s3) (z3 : s3.size ≤ 30) (n4 : swageref02_number.f k a4 = some s4) (z4 : s4.size ≤ 30) :
    Calls Tryd.prog 20 #[.agg #[.int .i64 a0, .int .i64 a1, .int .i64 a2, .int .i64 a3, .int .i64 a4]] w fun e w' => e = .returned (.string (nm ++ (⟨#[46]⟩ : ByteArray) ++ s4 ++ (⟨#[32, 114]⟩ : ByteArray) ++ s1 ++ (⟨#[32, 114]⟩ : ByteArray) ++ s2 ++ (⟨#[32, 114]⟩ : ByteArray) ++ s3)) ∧ Below w.heap.size w w' := by
  have HR := Aside0.mk hr
  have HN := Aside0.mk hn
  have N1 := Aside0.mk n1
  have N2 := Aside0.mk n2
  have N3 := Aside0.mk n3
  have N4 := Aside0.mk n4
  clear hr hn n1 n2 n3 n4
  have hu23 := Tryd.underlying23
  go_enter Tryd.func20, Tryd.ntmps20
  go_wp2_with fail
  have hx0 := blk_new w (.cells #[.int .i64 a0, .int .i64 a1, .int .i64 a2, .int .i64 a3, .int .i64 a4] 23)
  refine (swageref02_Right.calls k a0 a1 a2 a3 a4 true _ HR.out).mono ?_
  rintro e w1 ⟨rfl, hb⟩
  have hx := blk_below hx0 hb
  have hB := below_then (below_alloc (Below.refl w.heap.size w) _) (below_size (below_alloc (Below.refl w.heap.size w) _)) hb
  clear hx0
  have c0 := blk_cell hx 0
  have c1 := blk_cell hx 1
  have c2 := blk_cell hx 2
  have c3 := blk_cell hx 3
  have c4 := blk_cell hx 4
  simp at c0 c1 c2 c3 c4
  have X1 := Aside0.mk hx
  have B1 := Aside0.mk hB
  clear hx hB hb
  go_wp2_with fail
  refine (swageref02_name.calls a0 nm _ HN.out).mono ?_
  rintro e w2 ⟨rfl, hd⟩
  have hb := hd.below
  have hx := blk_below X1.out hb
  have hB := below_then B1.out (below_size B1.out) hb
  clear c0 c1 c2 c3 c4 hd
  have c0 := blk_cell hx 0
  have c1 := blk_cell hx 1
  have c2 := blk_cell hx 2
  have c3 := blk_cell hx 3
  have c4 := blk_cell hx 4
  simp at c0 c1 c2 c3 c4
  have X2 := Aside0.mk hx
  have B2 := Aside0.mk hB
  clear hx hB hb
  go_wp2_with fail
  refine wp_region_rel 22 (fun _ => none) (fun _ => []) (fun _ _ _ => True) (fun w' => Below w2.heap.size w2 w') (fun a b => Below a.heap.size a b) (by kernel_rfl) (by kernel_rfl) (below_drew (Below.refl _ _)) (fun a b h k => below_then h h.size k) (fun _ _ _ _ _ _ => trivial) ?_
  simp only [List.take_succ_cons, List.take_zero, List.drop_succ_cons, List.drop_zero]
  clear c0 c1 c2 c3 c4
  iterate 4 (apply relQ_step rfl; apply Exists.intro; constructor; (focus (intro w' hw'; have hx := blk_below X2.out hw'; have c1 := blk_cell hx 1; have c2 := blk_cell hx 2; have c3 := blk_cell hx 3; have c4 := blk_cell hx 4; clear hx; simp at c1 c2 c3 c4; unfold Yl; go_wp2_with (fail); first | exact ⟨rfl, _, rfl, rfl, hb3⟩ | exact ⟨rfl, _, rfl, rfl, Below.refl _ _⟩)); (try simp only [Act.put, List.setIfInBounds_toArray, List.set_cons_zero, List.set_cons_succ]))
  (apply relQ_step rfl; apply Exists.intro; constructor; (focus (intro w' hw'; have hx := blk_below X2.out hw'; have c1 := blk_cell hx 1; have c2 := blk_cell hx 2; have c3 := blk_cell hx 3; have c4 := blk_cell hx 4; clear hx; simp at c1 c2 c3 c4; unfold Yl; go_wp2_with (go_at_call 41; refine (swageref02_number.calls k a4 s4 _ N4.out).mono ?_; rintro e w3 ⟨rfl, hb3⟩); first | exact ⟨rfl, _, rfl, rfl, hb3⟩ | exact ⟨rfl, _, rfl, rfl, Below.refl _ _⟩)); (try simp only [Act.put, List.setIfInBounds_toArray, List.set_cons_zero, List.set_cons_succ]))
  iterate 4 (apply relQ_step rfl; apply Exists.intro; constructor; (focus (intro w' hw'; have hx := blk_below X2.out hw'; have c1 := blk_cell hx 1; have c2 := blk_cell hx 2; have c3 := blk_cell hx 3; have c4 := blk_cell hx 4; clear hx; simp at c1 c2 c3 c4; unfold Yl; go_wp2_with (fail); first | exact ⟨rfl, _, rfl, rfl, hb3⟩ | exact ⟨rfl, _, rfl, rfl, Below.refl _ _⟩)); (try simp only [Act.put, List.setIfInBounds_toArray, List.set_cons_zero, List.set_cons_succ]))
  (apply relQ_step rfl; apply Exists.intro; constructor; (focus (intro w' hw'; have hx := blk_below X2.out hw'; have c1 := blk_cell hx 1; have c2 := blk_cell hx 2; have c3 := blk_cell hx 3; have c4 := blk_cell hx 4; clear hx; simp at c1 c2 c3 c4; unfold Yl; go_wp2_with (go_at_call 41; refine (swageref02_number.calls k a1 s1 _ N1.out).mono ?_; rintro e w3 ⟨rfl, hb3⟩); first | exact ⟨rfl, _, rfl, rfl, hb3⟩ | exact ⟨rfl, _, rfl, rfl, Below.refl _ _⟩)); (try simp only [Act.put, List.setIfInBounds_toArray, List.set_cons_zero, List.set_cons_succ]))
  iterate 4 (apply relQ_step rfl; apply Exists.intro; constructor; (focus (intro w' hw'; have hx := blk_below X2.out hw'; have c1 := blk_cell hx 1; have c2 := blk_cell hx 2; have c3 := blk_cell hx 3; have c4 := blk_cell hx 4; clear hx; simp at c1 c2 c3 c4; unfold Yl; go_wp2_with (fail); first | exact ⟨rfl, _, rfl, rfl, hb3⟩ | exact ⟨rfl, _, rfl, rfl, Below.refl _ _⟩)); (try simp only [Act.put, List.setIfInBounds_toArray, List.set_cons_zero, List.set_cons_succ]))
  (apply relQ_step rfl; apply Exists.intro; constructor; (focus (intro w' hw'; have hx := blk_below X2.out hw'; have c1 := blk_cell hx 1; have c2 := blk_cell hx 2; have c3 := blk_cell hx 3; have c4 := blk_cell hx 4; clear hx; simp at c1 c2 c3 c4; unfold Yl; go_wp2_with (go_at_call 41; refine (swageref02_number.calls k a2 s2 _ N2.out).mono ?_; rintro e w3 ⟨rfl, hb3⟩); first | exact ⟨rfl, _, rfl, rfl, hb3⟩ | exact ⟨rfl, _, rfl, rfl, Below.refl _ _⟩)); (try simp only [Act.put, List.setIfInBounds_toArray, List.set_cons_zero, List.set_cons_succ]))
  iterate 4 (apply relQ_step rfl; apply Exists.intro; constructor; (focus (intro w' hw'; have hx := blk_below X2.out hw'; have c1 := blk_cell hx 1; have c2 := blk_cell hx 2; have c3 := blk_cell hx 3; have c4 := blk_cell hx 4; clear hx; simp at c1 c2 c3 c4; unfold Yl; go_wp2_with (fail); first | exact ⟨rfl, _, rfl, rfl, hb3⟩ | exact ⟨rfl, _, rfl, rfl, Below.refl _ _⟩)); (try simp only [Act.put, List.setIfInBounds_toArray, List.set_cons_zero, List.set_cons_succ]))
  (apply relQ_step rfl; apply Exists.intro; constructor; (focus (intro w' hw'; have hx := blk_below X2.out hw'; have c1 := blk_cell hx 1; have c2 := blk_cell hx 2; have c3 := blk_cell hx 3; have c4 := blk_cell hx 4; clear hx; simp at c1 c2 c3 c4; unfold Yl; go_wp2_with (go_at_call 41; refine (swageref02_number.calls k a3 s3 _ N3.out).mono ?_; rintro e w3 ⟨rfl, hb3⟩); first | exact ⟨rfl, _, rfl, rfl, hb3⟩ | exact ⟨rfl, _, rfl, rfl, Below.refl _ _⟩)); (try simp only [Act.put, List.setIfInBounds_toArray, List.set_cons_zero, List.set_cons_succ]))
  iterate 2 (apply relQ_step rfl; apply Exists.intro; constructor; (focus (intro w' hw'; have hx := blk_below X2.out hw'; have c1 := blk_cell hx 1; have c2 := blk_cell hx 2; have c3 := blk_cell hx 3; have c4 := blk_cell hx 4; clear hx; simp at c1 c2 c3 c4; unfold Yl; go_wp2_with (fail); first | exact ⟨rfl, _, rfl, rfl, hb3⟩ | exact ⟨rfl, _, rfl, rfl, Below.refl _ _⟩)); (try simp only [Act.put, List.setIfInBounds_toArray, List.set_cons_zero, List.set_cons_succ]))
  refine relQ_nil (fun x => ?_)
  repeat (refine relL_quiet rfl ?_)
  refine relL_nil (fun w' hw' _ => ?_)
  have hB := below_then B2.out (below_size B2.out) hw'
  clear hw'
  have BB := Aside0.mk hB
  clear hB
  go_wp2_with fail
  go_ret
  exact ⟨rfl, BB.out⟩
end Go.Proofs.YtfdkhahpjbikiaaDoor.S
