import Derived.Test.YtmfcmjcgajjiiaaDoorRel
import Derived.Test.YtmfcmjcgajjiiaaDoorS0
import Derived.Test.YtmfcmjcgajjiiaaDoorS4
import Derived.Test.YtmfcmjcgajjiiaaDoorS7
import Derived.Test.YtmfcmjcgajjiiaaDoorS8
import Derived.Test.YtmfcmjcgajjiiaaDoorLa
namespace Go.Proofs.YtmfcmjcgajjiiaaDoor.S
open Go.RowKit Go.Proofs.YtmfcmjcgajjiiaaDoorW.PrintWords Go.Proofs.YtmfcmjcgajjiiaaDoorW.PrintLast Go.Proofs.YtmfcmjcgajjiiaaDoorW.PrintMore Go.RelRegion
set_option linter.unusedVariables false
set_option maxHeartbeats 8000000 in
set_option maxRecDepth 100000 in
theorem rtext_no (k : Nat) (a0 a1 a2 a3 a4 : Int) (w : World) (hr : swageref02_Right.f k a0 a1 a2 a3 a4 = some false) :
    Calls Tryd.prog 33 #[.agg #[.int .i64 a0, .int .i64 a1, .int .i64 a2, .int .i64 a3, .int .i64 a4]] w fun e w' => e = .returned (.string (⟨#[63]⟩)) ∧ Below w.heap.size w w' := by
  have HR := Aside0.mk hr
  clear hr
  have hu23 := Tryd.underlying32
  go_enter Tryd.func33, Tryd.ntmps33
  go_wp2_with fail
  have hx0 := blk_new w (.cells #[.int .i64 a0, .int .i64 a1, .int .i64 a2, .int .i64 a3, .int .i64 a4] 32)
  refine (swageref02_Right.calls k a0 a1 a2 a3 a4 false _ HR.out).mono ?_
  rintro e w1 ⟨rfl, hb⟩
  have hx := blk_below hx0 hb
  have hB := below_then (below_alloc (Below.refl w.heap.size w) _) (below_size (below_alloc (Below.refl w.heap.size w) _)) hb
  clear hx0
  have c0 := blk_cell hx 0
  have c1 := blk_cell hx 1
  have c2 := blk_cell hx 2
  have c3 := blk_cell hx 3
  have c4 := blk_cell hx 4
  simp at c0 c1 c2 c3 c4
  have X1 := Aside0.mk hx
  have B1 := Aside0.mk hB
  clear hx hB hb
  go_wp2_with fail
  go_ret
  exact ⟨rfl, B1.out⟩
set_option maxHeartbeats 8000000 in
set_option maxRecDepth 100000 in
theorem rtext_000 (k : Nat) (a0 a1 a2 a3 a4 : Int) (w : World) (h4 : (a0 == 4) = false) (nm s1 s2 s4 : ByteArray) (sc : Bool) (hr : swageref02_Right.f k a0 a1 a2 a3 a4 = some true) (hn : swageref02_name.f a0 = some nm) (hf : swageref02_fields.f k a0 = some (false, false, sc, false, true)) (zn : nm.size ≤ 10) :
    Calls Tryd.prog 33 #[.agg #[.int .i64 a0, .int .i64 a1, .int .i64 a2, .int .i64 a3, .int .i64 a4]] w fun e w' => e = .returned (.string (nm)) ∧ Below w.heap.size w w' := by
  have HR := Aside0.mk hr
  have HN := Aside0.mk hn
  have HF := Aside0.mk hf
  clear hr hn hf
  have hu23 := Tryd.underlying32
  go_enter Tryd.func33, Tryd.ntmps33
  go_wp2_with fail
  have hx0 := blk_new w (.cells #[.int .i64 a0, .int .i64 a1, .int .i64 a2, .int .i64 a3, .int .i64 a4] 32)
  refine (swageref02_Right.calls k a0 a1 a2 a3 a4 true _ HR.out).mono ?_
  rintro e w1 ⟨rfl, hb⟩
  have hx := blk_below hx0 hb
  have hB := below_then (below_alloc (Below.refl w.heap.size w) _) (below_size (below_alloc (Below.refl w.heap.size w) _)) hb
  clear hx0
  have c0 := blk_cell hx 0
  have c1 := blk_cell hx 1
  have c2 := blk_cell hx 2
  have c3 := blk_cell hx 3
  have c4 := blk_cell hx 4
  simp at c0 c1 c2 c3 c4
  have X1 := Aside0.mk hx
  have B1 := Aside0.mk hB
  clear hx hB hb
  go_wp2_with fail
  refine (swageref02_name.calls a0 nm _ HN.out).mono ?_
  rintro e w2 ⟨rfl, hd⟩
  have hb := hd.below
  have hx := blk_below X1.out hb
  have hB := below_then B1.out (below_size B1.out) hb
  clear c0 c1 c2 c3 c4 hd
  have c0 := blk_cell hx 0
  have c1 := blk_cell hx 1
  have c2 := blk_cell hx 2
  have c3 := blk_cell hx 3
  have c4 := blk_cell hx 4
  simp at c0 c1 c2 c3 c4
  have X2 := Aside0.mk hx
  have B2 := Aside0.mk hB
  clear hx hB hb
  go_wp2_with fail
  refine (swageref02_fields.calls k a0 false false sc false true _ HF.out).mono ?_
  rintro e w3 ⟨rfl, hd⟩
  have hb := hd.below
  have hx := blk_below X2.out hb
  have hB := below_then B2.out (below_size B2.out) hb
  clear c0 c1 c2 c3 c4 hd
  have c0 := blk_cell hx 0
  have c1 := blk_cell hx 1
  have c2 := blk_cell hx 2
  have c3 := blk_cell hx 3
  have c4 := blk_cell hx 4
  simp at c0 c1 c2 c3 c4
  have X3 := Aside0.mk hx
  have B3 := Aside0.mk hB
  clear hx hB hb
  go_wp2_with fail
  go_ret
  exact ⟨rfl, B3.out⟩
set_option maxHeartbeats 8000000 in
set_option maxRecDepth 100000 in
theorem rtext_001 (k : Nat) (a0 a1 a2 a3 a4 : Int) (w : World) (h4 : (a0 == 4) = false) (nm s1 s2 s4 : ByteArray) (sc : Bool) (hr : swageref02_Right.f k a0 a1 a2 a3 a4 = some true) (hn : swageref02_name.f a0 = some nm) (hf : swageref02_fields.f k a0 = some (false, false, sc, true, true)) (zn : nm.size ≤ 10) (n4 : swageref02_number.f k a4 = some s4) (z4 : s4.size ≤ 30) :
    Calls Tryd.prog 33 #[.agg #[.int .i64 a0, .int .i64 a1, .int .i64 a2, .int .i64 a3, .int .i64 a4]] w fun e w' => e = .returned (.string (nm ++ (⟨#[32]⟩ : ByteArray) ++ s4)) ∧ Below w.heap.size w w' := by
  have HR := Aside0.mk hr
  have HN := Aside0.mk hn
  have HF := Aside0.mk hf
  have N4 := Aside0.mk n4
  clear hr hn hf n4
  have hu23 := Tryd.underlying32
  go_enter Tryd.func33, Tryd.ntmps33
  go_wp2_with fail
  have hx0 := blk_new w (.cells #[.int .i64 a0, .int .i64 a1, .int .i64 a2, .int .i64 a3, .int .i64 a4] 32)
  refine (swageref02_Right.calls k a0 a1 a2 a3 a4 true _ HR.out).mono ?_
  rintro e w1 ⟨rfl, hb⟩
  have hx := blk_below hx0 hb
  have hB := below_then (below_alloc (Below.refl w.heap.size w) _) (below_size (below_alloc (Below.refl w.heap.size w) _)) hb
  clear hx0
  have c0 := blk_cell hx 0
  have c1 := blk_cell hx 1
  have c2 := blk_cell hx 2
  have c3 := blk_cell hx 3
  have c4 := blk_cell hx 4
  simp at c0 c1 c2 c3 c4
  have X1 := Aside0.mk hx
  have B1 := Aside0.mk hB
  clear hx hB hb
  go_wp2_with fail
  refine (swageref02_name.calls a0 nm _ HN.out).mono ?_
  rintro e w2 ⟨rfl, hd⟩
  have hb := hd.below
  have hx := blk_below X1.out hb
  have hB := below_then B1.out (below_size B1.out) hb
  clear c0 c1 c2 c3 c4 hd
  have c0 := blk_cell hx 0
  have c1 := blk_cell hx 1
  have c2 := blk_cell hx 2
  have c3 := blk_cell hx 3
  have c4 := blk_cell hx 4
  simp at c0 c1 c2 c3 c4
  have X2 := Aside0.mk hx
  have B2 := Aside0.mk hB
  clear hx hB hb
  go_wp2_with fail
  refine (swageref02_fields.calls k a0 false false sc true true _ HF.out).mono ?_
  rintro e w3 ⟨rfl, hd⟩
  have hb := hd.below
  have hx := blk_below X2.out hb
  have hB := below_then B2.out (below_size B2.out) hb
  clear c0 c1 c2 c3 c4 hd
  have c0 := blk_cell hx 0
  have c1 := blk_cell hx 1
  have c2 := blk_cell hx 2
  have c3 := blk_cell hx 3
  have c4 := blk_cell hx 4
  simp at c0 c1 c2 c3 c4
  have X3 := Aside0.mk hx
  have B3 := Aside0.mk hB
  clear hx hB hb
  go_wp2_with fail
  refine (swageref02_number.calls k a4 s4 _ N4.out).mono ?_
  rintro e w4 ⟨rfl, hb⟩
  have hx := blk_below X3.out hb
  have hB := below_then B3.out (below_size B3.out) hb
  clear c0 c1 c2 c3 c4
  have c0 := blk_cell hx 0
  have c1 := blk_cell hx 1
  have c2 := blk_cell hx 2
  have c3 := blk_cell hx 3
  have c4 := blk_cell hx 4
  simp at c0 c1 c2 c3 c4
  have X4 := Aside0.mk hx
  have B4 := Aside0.mk hB
  clear hx hB hb
  go_wp2_with fail
  go_ret
  exact ⟨rfl, B4.out⟩
set_option maxHeartbeats 8000000 in
set_option maxRecDepth 100000 in
theorem rtext_010 (k : Nat) (a0 a1 a2 a3 a4 : Int) (w : World) (h4 : (a0 == 4) = false) (nm s1 s2 s4 : ByteArray) (sc : Bool) (hr : swageref02_Right.f k a0 a1 a2 a3 a4 = some true) (hn : swageref02_name.f a0 = some nm) (hf : swageref02_fields.f k a0 = some (false, true, sc, false, true)) (zn : nm.size ≤ 10) (n2 : swageref02_number.f k a2 = some s2) (z2 : s2.size ≤ 30) :
    Calls Tryd.prog 33 #[.agg #[.int .i64 a0, .int .i64 a1, .int .i64 a2, .int .i64 a3, .int .i64 a4]] w fun e w' => e = .returned (.string (nm ++ (⟨#[32, 114]⟩ : ByteArray) ++ s2)) ∧ Below w.heap.size w w' := by
  have HR := Aside0.mk hr
  have HN := Aside0.mk hn
  have HF := Aside0.mk hf
  have N2 := Aside0.mk n2
  clear hr hn hf n2
  have hu23 := Tryd.underlying32
  go_enter Tryd.func33, Tryd.ntmps33
  go_wp2_with fail
  have hx0 := blk_new w (.cells #[.int .i64 a0, .int .i64 a1, .int .i64 a2, .int .i64 a3, .int .i64 a4] 32)
  refine (swageref02_Right.calls k a0 a1 a2 a3 a4 true _ HR.out).mono ?_
  rintro e w1 ⟨rfl, hb⟩
  have hx := blk_below hx0 hb
  have hB := below_then (below_alloc (Below.refl w.heap.size w) _) (below_size (below_alloc (Below.refl w.heap.size w) _)) hb
  clear hx0
  have c0 := blk_cell hx 0
  have c1 := blk_cell hx 1
  have c2 := blk_cell hx 2
  have c3 := blk_cell hx 3
  have c4 := blk_cell hx 4
  simp at c0 c1 c2 c3 c4
  have X1 := Aside0.mk hx
  have B1 := Aside0.mk hB
  clear hx hB hb
  go_wp2_with fail
  refine (swageref02_name.calls a0 nm _ HN.out).mono ?_
  rintro e w2 ⟨rfl, hd⟩
  have hb := hd.below
  have hx := blk_below X1.out hb
  have hB := below_then B1.out (below_size B1.out) hb
  clear c0 c1 c2 c3 c4 hd
  have c0 := blk_cell hx 0
  have c1 := blk_cell hx 1
  have c2 := blk_cell hx 2
  have c3 := blk_cell hx 3
  have c4 := blk_cell hx 4
  simp at c0 c1 c2 c3 c4
  have X2 := Aside0.mk hx
  have B2 := Aside0.mk hB
  clear hx hB hb
  go_wp2_with fail
  refine (swageref02_fields.calls k a0 false true sc false true _ HF.out).mono ?_
  rintro e w3 ⟨rfl, hd⟩
  have hb := hd.below
  have hx := blk_below X2.out hb
  have hB := below_then B2.out (below_size B2.out) hb
  clear c0 c1 c2 c3 c4 hd
  have c0 := blk_cell hx 0
  have c1 := blk_cell hx 1
  have c2 := blk_cell hx 2
  have c3 := blk_cell hx 3
  have c4 := blk_cell hx 4
  simp at c0 c1 c2 c3 c4
  have X3 := Aside0.mk hx
  have B3 := Aside0.mk hB
  clear hx hB hb
  go_wp2_with fail
  refine (swageref02_number.calls k a2 s2 _ N2.out).mono ?_
  rintro e w4 ⟨rfl, hb⟩
  have hx := blk_below X3.out hb
  have hB := below_then B3.out (below_size B3.out) hb
  clear c0 c1 c2 c3 c4
  have c0 := blk_cell hx 0
  have c1 := blk_cell hx 1
  have c2 := blk_cell hx 2
  have c3 := blk_cell hx 3
  have c4 := blk_cell hx 4
  simp at c0 c1 c2 c3 c4
  have X4 := Aside0.mk hx
  have B4 := Aside0.mk hB
  clear hx hB hb
  go_wp2_with fail
  go_ret
  exact ⟨rfl, B4.out⟩
set_option maxHeartbeats 8000000 in
set_option maxRecDepth 100000 in
theorem rtext_011 (k : Nat) (a0 a1 a2 a3 a4 : Int) (w : World) (h4 : (a0 == 4) = false) (nm s1 s2 s4 : ByteArray) (sc : Bool) (hr : swageref02_Right.f k a0 a1 a2 a3 a4 = some true) (hn : swageref02_name.f a0 = some nm) (hf : swageref02_fields.f k a0 = some (false, true, sc, true, true)) (zn : nm.size ≤ 10) (n2 : swageref02_number.f k a2 = some s2) (z2 : s2.size ≤ 30) (n4 : swageref02_number.f k a4 = some s4) (z4 : s4.size ≤ 30) :
    Calls Tryd.prog 33 #[.agg #[.int .i64 a0, .int .i64 a1, .int .i64 a2, .int .i64 a3, .int .i64 a4]] w fun e w' => e = .returned (.string (nm ++ (⟨#[32, 114]⟩ : ByteArray) ++ s2 ++ (⟨#[32]⟩ : ByteArray) ++ s4)) ∧ Below w.heap.size w w' := by
  have HR := Aside0.mk hr
  have HN := Aside0.mk hn
  have HF := Aside0.mk hf
  have N2 := Aside0.mk n2
  have N4 := Aside0.mk n4
  clear hr hn hf n2 n4
  have hu23 := Tryd.underlying32
  go_enter Tryd.func33, Tryd.ntmps33
  go_wp2_with fail
  have hx0 := blk_new w (.cells #[.int .i64 a0, .int .i64 a1, .int .i64 a2, .int .i64 a3, .int .i64 a4] 32)
  refine (swageref02_Right.calls k a0 a1 a2 a3 a4 true _ HR.out).mono ?_
  rintro e w1 ⟨rfl, hb⟩
  have hx := blk_below hx0 hb
  have hB := below_then (below_alloc (Below.refl w.heap.size w) _) (below_size (below_alloc (Below.refl w.heap.size w) _)) hb
  clear hx0
  have c0 := blk_cell hx 0
  have c1 := blk_cell hx 1
  have c2 := blk_cell hx 2
  have c3 := blk_cell hx 3
  have c4 := blk_cell hx 4
  simp at c0 c1 c2 c3 c4
  have X1 := Aside0.mk hx
  have B1 := Aside0.mk hB
  clear hx hB hb
  go_wp2_with fail
  refine (swageref02_name.calls a0 nm _ HN.out).mono ?_
  rintro e w2 ⟨rfl, hd⟩
  have hb := hd.below
  have hx := blk_below X1.out hb
  have hB := below_then B1.out (below_size B1.out) hb
  clear c0 c1 c2 c3 c4 hd
  have c0 := blk_cell hx 0
  have c1 := blk_cell hx 1
  have c2 := blk_cell hx 2
  have c3 := blk_cell hx 3
  have c4 := blk_cell hx 4
  simp at c0 c1 c2 c3 c4
  have X2 := Aside0.mk hx
  have B2 := Aside0.mk hB
  clear hx hB hb
  go_wp2_with fail
  refine (swageref02_fields.calls k a0 false true sc true true _ HF.out).mono ?_
  rintro e w3 ⟨rfl, hd⟩
  have hb := hd.below
  have hx := blk_below X2.out hb
  have hB := below_then B2.out (below_size B2.out) hb
  clear c0 c1 c2 c3 c4 hd
  have c0 := blk_cell hx 0
  have c1 := blk_cell hx 1
  have c2 := blk_cell hx 2
  have c3 := blk_cell hx 3
  have c4 := blk_cell hx 4
  simp at c0 c1 c2 c3 c4
  have X3 := Aside0.mk hx
  have B3 := Aside0.mk hB
  clear hx hB hb
  go_wp2_with fail
  refine (swageref02_number.calls k a2 s2 _ N2.out).mono ?_
  rintro e w4 ⟨rfl, hb⟩
  have hx := blk_below X3.out hb
  have hB := below_then B3.out (below_size B3.out) hb
  clear c0 c1 c2 c3 c4
  have c0 := blk_cell hx 0
  have c1 := blk_cell hx 1
  have c2 := blk_cell hx 2
  have c3 := blk_cell hx 3
  have c4 := blk_cell hx 4
  simp at c0 c1 c2 c3 c4
  have X4 := Aside0.mk hx
  have B4 := Aside0.mk hB
  clear hx hB hb
  go_wp2_with fail
  refine (swageref02_number.calls k a4 s4 _ N4.out).mono ?_
  rintro e w5 ⟨rfl, hb⟩
  have hx := blk_below X4.out hb
  have hB := below_then B4.out (below_size B4.out) hb
  clear c0 c1 c2 c3 c4
  have c0 := blk_cell hx 0
  have c1 := blk_cell hx 1
  have c2 := blk_cell hx 2
  have c3 := blk_cell hx 3
  have c4 := blk_cell hx 4
  simp at c0 c1 c2 c3 c4
  have X5 := Aside0.mk hx
  have B5 := Aside0.mk hB
  clear hx hB hb
  go_wp2_with fail
  go_ret
  exact ⟨rfl, B5.out⟩
set_option maxHeartbeats 8000000 in
set_option maxRecDepth 100000 in
theorem rtext_100 (k : Nat) (a0 a1 a2 a3 a4 : Int) (w : World) (h4 : (a0 == 4) = false) (nm s1 s2 s4 : ByteArray) (sc : Bool) (hr : swageref02_Right.f k a0 a1 a2 a3 a4 = some true) (hn : swageref02_name.f a0 = some nm) (hf : swageref02_fields.f k a0 = some (true, false, sc, false, true)) (zn : nm.size ≤ 10) (n1 : swageref02_number.f k a1 = some s1) (z1 : s1.size ≤ 30) :
    Calls Tryd.prog 33 #[.agg #[.int .i64 a0, .int .i64 a1, .int .i64 a2, .int .i64 a3, .int .i64 a4]] w fun e w' => e = .returned (.string (nm ++ (⟨#[32, 114]⟩ : ByteArray) ++ s1)) ∧ Below w.heap.size w w' := by
  have HR := Aside0.mk hr
  have HN := Aside0.mk hn
  have HF := Aside0.mk hf
  have N1 := Aside0.mk n1
  clear hr hn hf n1
  have hu23 := Tryd.underlying32
  go_enter Tryd.func33, Tryd.ntmps33
  go_wp2_with fail
  have hx0 := blk_new w (.cells #[.int .i64 a0, .int .i64 a1, .int .i64 a2, .int .i64 a3, .int .i64 a4] 32)
  refine (swageref02_Right.calls k a0 a1 a2 a3 a4 true _ HR.out).mono ?_
  rintro e w1 ⟨rfl, hb⟩
  have hx := blk_below hx0 hb
  have hB := below_then (below_alloc (Below.refl w.heap.size w) _) (below_size (below_alloc (Below.refl w.heap.size w) _)) hb
  clear hx0
  have c0 := blk_cell hx 0
  have c1 := blk_cell hx 1
  have c2 := blk_cell hx 2
  have c3 := blk_cell hx 3
  have c4 := blk_cell hx 4
  simp at c0 c1 c2 c3 c4
  have X1 := Aside0.mk hx
  have B1 := Aside0.mk hB
  clear hx hB hb
  go_wp2_with fail
  refine (swageref02_name.calls a0 nm _ HN.out).mono ?_
  rintro e w2 ⟨rfl, hd⟩
  have hb := hd.below
  have hx := blk_below X1.out hb
  have hB := below_then B1.out (below_size B1.out) hb
  clear c0 c1 c2 c3 c4 hd
  have c0 := blk_cell hx 0
  have c1 := blk_cell hx 1
  have c2 := blk_cell hx 2
  have c3 := blk_cell hx 3
  have c4 := blk_cell hx 4
  simp at c0 c1 c2 c3 c4
  have X2 := Aside0.mk hx
  have B2 := Aside0.mk hB
  clear hx hB hb
  go_wp2_with fail
  refine (swageref02_fields.calls k a0 true false sc false true _ HF.out).mono ?_
  rintro e w3 ⟨rfl, hd⟩
  have hb := hd.below
  have hx := blk_below X2.out hb
  have hB := below_then B2.out (below_size B2.out) hb
  clear c0 c1 c2 c3 c4 hd
  have c0 := blk_cell hx 0
  have c1 := blk_cell hx 1
  have c2 := blk_cell hx 2
  have c3 := blk_cell hx 3
  have c4 := blk_cell hx 4
  simp at c0 c1 c2 c3 c4
  have X3 := Aside0.mk hx
  have B3 := Aside0.mk hB
  clear hx hB hb
  go_wp2_with fail
  refine (swageref02_number.calls k a1 s1 _ N1.out).mono ?_
  rintro e w4 ⟨rfl, hb⟩
  have hx := blk_below X3.out hb
  have hB := below_then B3.out (below_size B3.out) hb
  clear c0 c1 c2 c3 c4
  have c0 := blk_cell hx 0
  have c1 := blk_cell hx 1
  have c2 := blk_cell hx 2
  have c3 := blk_cell hx 3
  have c4 := blk_cell hx 4
  simp at c0 c1 c2 c3 c4
  have X4 := Aside0.mk hx
  have B4 := Aside0.mk hB
  clear hx hB hb
  go_wp2_with fail
  go_ret
  exact ⟨rfl, B4.out⟩
set_option maxHeartbeats 8000000 in
set_option maxRecDepth 100000 in
theorem rtext_101 (k : Nat) (a0 a1 a2 a3 a4 : Int) (w : World) (h4 : (a0 == 4) = false) (nm s1 s2 s4 : ByteArray) (sc : Bool) (hr : swageref02_Right.f k a0 a1 a2 a3 a4 = some true) (hn : swageref02_name.f a0 = some nm) (hf : swageref02_fields.f k a0 = some (true, false, sc, true, true)) (zn : nm.size ≤ 10) (n1 : swageref02_number.f k a1 = some s1) (z1 : s1.size ≤ 30) (n4 : swageref02_number.f k a4 = some s4) (z4 : s4.size ≤ 30) :
    Calls Tryd.prog 33 #[.agg #[.int .i64 a0, .int .i64 a1, .int .i64 a2, .int .i64 a3, .int .i64 a4]] w fun e w' => e = .returned (.string (nm ++ (⟨#[32, 114]⟩ : ByteArray) ++ s1 ++ (⟨#[32]⟩ : ByteArray) ++ s4)) ∧ Below w.heap.size w w' := by
  have HR := Aside0.mk hr
  have HN := Aside0.mk hn
  have HF := Aside0.mk hf
  have N1 := Aside0.mk n1
  have N4 := Aside0.mk n4
  clear hr hn hf n1 n4
  have hu23 := Tryd.underlying32
  go_enter Tryd.func33, Tryd.ntmps33
  go_wp2_with fail
  have hx0 := blk_new w (.cells #[.int .i64 a0, .int .i64 a1, .int .i64 a2, .int .i64 a3, .int .i64 a4] 32)
  refine (swageref02_Right.calls k a0 a1 a2 a3 a4 true _ HR.out).mono ?_
  rintro e w1 ⟨rfl, hb⟩
  have hx := blk_below hx0 hb
  have hB := below_then (below_alloc (Below.refl w.heap.size w) _) (below_size (below_alloc (Below.refl w.heap.size w) _)) hb
  clear hx0
  have c0 := blk_cell hx 0
  have c1 := blk_cell hx 1
  have c2 := blk_cell hx 2
  have c3 := blk_cell hx 3
  have c4 := blk_cell hx 4
  simp at c0 c1 c2 c3 c4
  have X1 := Aside0.mk hx
  have B1 := Aside0.mk hB
  clear hx hB hb
  go_wp2_with fail
  refine (swageref02_name.calls a0 nm _ HN.out).mono ?_
  rintro e w2 ⟨rfl, hd⟩
  have hb := hd.below
  have hx := blk_below X1.out hb
  have hB := below_then B1.out (below_size B1.out) hb
  clear c0 c1 c2 c3 c4 hd
  have c0 := blk_cell hx 0
  have c1 := blk_cell hx 1
  have c2 := blk_cell hx 2
  have c3 := blk_cell hx 3
  have c4 := blk_cell hx 4
  simp at c0 c1 c2 c3 c4
  have X2 := Aside0.mk hx
  have B2 := Aside0.mk hB
  clear hx hB hb
  go_wp2_with fail
  refine (swageref02_fields.calls k a0 true false sc true true _ HF.out).mono ?_
  rintro e w3 ⟨rfl, hd⟩
  have hb := hd.below
  have hx := blk_below X2.out hb
  have hB := below_then B2.out (below_size B2.out) hb
  clear c0 c1 c2 c3 c4 hd
  have c0 := blk_cell hx 0
  have c1 := blk_cell hx 1
  have c2 := blk_cell hx 2
  have c3 := blk_cell hx 3
  have c4 := blk_cell hx 4
  simp at c0 c1 c2 c3 c4
  have X3 := Aside0.mk hx
  have B3 := Aside0.mk hB
  clear hx hB hb
  go_wp2_with fail
  refine (swageref02_number.calls k a1 s1 _ N1.out).mono ?_
  rintro e w4 ⟨rfl, hb⟩
  have hx := blk_below X3.out hb
  have hB := below_then B3.out (below_size B3.out) hb
  clear c0 c1 c2 c3 c4
  have c0 := blk_cell hx 0
  have c1 := blk_cell hx 1
  have c2 := blk_cell hx 2
  have c3 := blk_cell hx 3
  have c4 := blk_cell hx 4
  simp at c0 c1 c2 c3 c4
  have X4 := Aside0.mk hx
  have B4 := Aside0.mk hB
  clear hx hB hb
  go_wp2_with fail
  refine (swageref02_number.calls k a4 s4 _ N4.out).mono ?_
  rintro e w5 ⟨rfl, hb⟩
  have hx := blk_below X4.out hb
  have hB := below_then B4.out (below_size B4.out) hb
  clear c0 c1 c2 c3 c4
  have c0 := blk_cell hx 0
  have c1 := blk_cell hx 1
  have c2 := blk_cell hx 2
  have c3 := blk_cell hx 3
  have c4 := blk_cell hx 4
  simp at c0 c1 c2 c3 c4
  have X5 := Aside0.mk hx
  have B5 := Aside0.mk hB
  clear hx hB hb
  go_wp2_with fail
  go_ret
  exact ⟨rfl, B5.out⟩
set_option maxHeartbeats 8000000 in
set_option maxRecDepth 100000 in
theorem rtext_110 (k : Nat) (a0 a1 a2 a3 a4 : Int) (w : World) (h4 : (a0 == 4) = false) (nm s1 s2 s4 : ByteArray) (sc : Bool) (hr : swageref02_Right.f k a0 a1 a2 a3 a4 = some true) (hn : swageref02_name.f a0 = some nm) (hf : swageref02_fields.f k a0 = some (true, true, sc, false, true)) (zn : nm.size ≤ 10) (n1 : swageref02_number.f k a1 = some s1) (z1 : s1.size ≤ 30) (n2 : swageref02_number.f k a2 = some s2) (z2 : s2.size ≤ 30) :
    Calls Tryd.prog 33 #[.agg #[.int .i64 a0, .int .i64 a1, .int .i64 a2, .int .i64 a3, .int .i64 a4]] w fun e w' => e = .returned (.string (nm ++ (⟨#[32, 114]⟩ : ByteArray) ++ s1 ++ (⟨#[32, 114]⟩ : ByteArray) ++ s2)) ∧ Below w.heap.size w w' := by
  have HR := Aside0.mk hr
  have HN := Aside0.mk hn
  have HF := Aside0.mk hf
  have N1 := Aside0.mk n1
  have N2 := Aside0.mk n2
  clear hr hn hf n1 n2
  have hu23 := Tryd.underlying32
  go_enter Tryd.func33, Tryd.ntmps33
  go_wp2_with fail
  have hx0 := blk_new w (.cells #[.int .i64 a0, .int .i64 a1, .int .i64 a2, .int .i64 a3, .int .i64 a4] 32)
  refine (swageref02_Right.calls k a0 a1 a2 a3 a4 true _ HR.out).mono ?_
  rintro e w1 ⟨rfl, hb⟩
  have hx := blk_below hx0 hb
  have hB := below_then (below_alloc (Below.refl w.heap.size w) _) (below_size (below_alloc (Below.refl w.heap.size w) _)) hb
  clear hx0
  have c0 := blk_cell hx 0
  have c1 := blk_cell hx 1
  have c2 := blk_cell hx 2
  have c3 := blk_cell hx 3
  have c4 := blk_cell hx 4
  simp at c0 c1 c2 c3 c4
  have X1 := Aside0.mk hx
  have B1 := Aside0.mk hB
  clear hx hB hb
  go_wp2_with fail
  refine (swageref02_name.calls a0 nm _ HN.out).mono ?_
  rintro e w2 ⟨rfl, hd⟩
  have hb := hd.below
  have hx := blk_below X1.out hb
  have hB := below_then B1.out (below_size B1.out) hb
  clear c0 c1 c2 c3 c4 hd
  have c0 := blk_cell hx 0
  have c1 := blk_cell hx 1
  have c2 := blk_cell hx 2
  have c3 := blk_cell hx 3
  have c4 := blk_cell hx 4
  simp at c0 c1 c2 c3 c4
  have X2 := Aside0.mk hx
  have B2 := Aside0.mk hB
  clear hx hB hb
  go_wp2_with fail
  refine (swageref02_fields.calls k a0 true true sc false true _ HF.out).mono ?_
  rintro e w3 ⟨rfl, hd⟩
  have hb := hd.below
  have hx := blk_below X2.out hb
  have hB := below_then B2.out (below_size B2.out) hb
  clear c0 c1 c2 c3 c4 hd
  have c0 := blk_cell hx 0
  have c1 := blk_cell hx 1
  have c2 := blk_cell hx 2
  have c3 := blk_cell hx 3
  have c4 := blk_cell hx 4
  simp at c0 c1 c2 c3 c4
  have X3 := Aside0.mk hx
  have B3 := Aside0.mk hB
  clear hx hB hb
  go_wp2_with fail
  refine (swageref02_number.calls k a1 s1 _ N1.out).mono ?_
  rintro e w4 ⟨rfl, hb⟩
  have hx := blk_below X3.out hb
  have hB := below_then B3.out (below_size B3.out) hb
  clear c0 c1 c2 c3 c4
  have c0 := blk_cell hx 0
  have c1 := blk_cell hx 1
  have c2 := blk_cell hx 2
  have c3 := blk_cell hx 3
  have c4 := blk_cell hx 4
  simp at c0 c1 c2 c3 c4
  have X4 := Aside0.mk hx
  have B4 := Aside0.mk hB
  clear hx hB hb
  go_wp2_with fail
  refine (swageref02_number.calls k a2 s2 _ N2.out).mono ?_
  rintro e w5 ⟨rfl, hb⟩
  have hx := blk_below X4.out hb
  have hB := below_then B4.out (below_size B4.out) hb
  clear c0 c1 c2 c3 c4
  have c0 := blk_cell hx 0
  have c1 := blk_cell hx 1
  have c2 := blk_cell hx 2
  have c3 := blk_cell hx 3
  have c4 := blk_cell hx 4
  simp at c0 c1 c2 c3 c4
  have X5 := Aside0.mk hx
  have B5 := Aside0.mk hB
  clear hx hB hb
  go_wp2_with fail
  go_ret
  exact ⟨rfl, B5.out⟩
set_option maxHeartbeats 8000000 in
set_option maxRecDepth 100000 in
theorem rtext_111 (k : Nat) (a0 a1 a2 a3 a4 : Int) (w : World) (h4 : (a0 == 4) = false) (nm s1 s2 s4 : ByteArray) (sc : Bool) (hr : swageref02_Right.f k a0 a1 a2 a3 a4 = some true) (hn : swageref02_name.f a0 = some nm) (hf : swageref02_fields.f k a0 = some (true, true, sc, true, true)) (zn : nm.size ≤ 10) (n1 : swageref02_number.f k a1 = some s1) (z1 : s1.size ≤ 30) (n2 : swageref02_number.f k a2 = some s2) (z2 : s2.size ≤ 30) (n4 : swageref02_number.f k a4 = some s4) (z4 : s4.size ≤ 30) :
    Calls Tryd.prog 33 #[.agg #[.int .i64 a0, .int .i64 a1, .int .i64 a2, .int .i64 a3, .int .i64 a4]] w fun e w' => e = .returned (.string (nm ++ (⟨#[32, 114]⟩ : ByteArray) ++ s1 ++ (⟨#[32, 114]⟩ : ByteArray) ++ s2 ++ (⟨#[32]⟩ : ByteArray) ++ s4)) ∧ Below w.heap.size w w' := by
  have HR := Aside0.mk hr
  have HN := Aside0.mk hn
  have HF := Aside0.mk hf
  have N1 := Aside0.mk n1
  have N2 := Aside0.mk n2
  have N4 := Aside0.mk n4
  clear hr hn hf n1 n2 n4
  have hu23 := Tryd.underlying32
  go_enter Tryd.func33, Tryd.ntmps33
  go_wp2_with fail
  have hx0 := blk_new w (.cells #[.int .i64 a0, .int .i64 a1, .int .i64 a2, .int .i64 a3, .int .i64 a4] 32)
  refine (swageref02_Right.calls k a0 a1 a2 a3 a4 true _ HR.out).mono ?_
  rintro e w1 ⟨rfl, hb⟩
  have hx := blk_below hx0 hb
  have hB := below_then (below_alloc (Below.refl w.heap.size w) _) (below_size (below_alloc (Below.refl w.heap.size w) _)) hb
  clear hx0
  have c0 := blk_cell hx 0
  have c1 := blk_cell hx 1
  have c2 := blk_cell hx 2
  have c3 := blk_cell hx 3
  have c4 := blk_cell hx 4
  simp at c0 c1 c2 c3 c4
  have X1 := Aside0.mk hx
  have B1 := Aside0.mk hB
  clear hx hB hb
  go_wp2_with fail
  refine (swageref02_name.calls a0 nm _ HN.out).mono ?_
  rintro e w2 ⟨rfl, hd⟩
  have hb := hd.below
  have hx := blk_below X1.out hb
  have hB := below_then B1.out (below_size B1.out) hb
  clear c0 c1 c2 c3 c4 hd
  have c0 := blk_cell hx 0
  have c1 := blk_cell hx 1
  have c2 := blk_cell hx 2
  have c3 := blk_cell hx 3
  have c4 := blk_cell hx 4
  simp at c0 c1 c2 c3 c4
  have X2 := Aside0.mk hx
  have B2 := Aside0.mk hB
  clear hx hB hb
  go_wp2_with fail
  refine (swageref02_fields.calls k a0 true true sc true true _ HF.out).mono ?_
  rintro e w3 ⟨rfl, hd⟩
  have hb := hd.below
  have hx := blk_below X2.out hb
  have hB := below_then B2.out (below_size B2.out) hb
  clear c0 c1 c2 c3 c4 hd
  have c0 := blk_cell hx 0
  have c1 := blk_cell hx 1
  have c2 := blk_cell hx 2
  have c3 := blk_cell hx 3
  have c4 := blk_cell hx 4
  simp at c0 c1 c2 c3 c4
  have X3 := Aside0.mk hx
  have B3 := Aside0.mk hB
  clear hx hB hb
  go_wp2_with fail
  refine (swageref02_number.calls k a1 s1 _ N1.out).mono ?_
  rintro e w4 ⟨rfl, hb⟩
  have hx := blk_below X3.out hb
  have hB := below_then B3.out (below_size B3.out) hb
  clear c0 c1 c2 c3 c4
  have c0 := blk_cell hx 0
  have c1 := blk_cell hx 1
  have c2 := blk_cell hx 2
  have c3 := blk_cell hx 3
  have c4 := blk_cell hx 4
  simp at c0 c1 c2 c3 c4
  have X4 := Aside0.mk hx
  have B4 := Aside0.mk hB
  clear hx hB hb
  go_wp2_with fail
  refine (swageref02_number.calls k a2 s2 _ N2.out).mono ?_
  rintro e w5 ⟨rfl, hb⟩
  have hx := blk_below X4.out hb
  have hB := below_then B4.out (below_size B4.out) hb
  clear c0 c1 c2 c3 c4
  have c0 := blk_cell hx 0
  have c1 := blk_cell hx 1
  have c2 := blk_cell hx 2
  have c3 := blk_cell hx 3
  have c4 := blk_cell hx 4
  simp at c0 c1 c2 c3 c4
  have X5 := Aside0.mk hx
  have B5 := Aside0.mk hB
  clear hx hB hb
  go_wp2_with fail
  refine (swageref02_number.calls k a4 s4 _ N4.out).mono ?_
  rintro e w6 ⟨rfl, hb⟩
  have hx := blk_below X5.out hb
  have hB := below_then B5.out (below_size B5.out) hb
  clear c0 c1 c2 c3 c4
  have c0 := blk_cell hx 0
  have c1 := blk_cell hx 1
  have c2 := blk_cell hx 2
  have c3 := blk_cell hx 3
  have c4 := blk_cell hx 4
  simp at c0 c1 c2 c3 c4
  have X6 := Aside0.mk hx
  have B6 := Aside0.mk hB
  clear hx hB hb
  go_wp2_with fail
  go_ret
  exact ⟨rfl, B6.out⟩
set_option maxHeartbeats 8000000 in
set_option maxRecDepth 100000 in
theorem rtext_bin (k : Nat) (a0 a1 a2 a3 a4 : Int) (w : World) (h4 : (a0 == 4) = true) (nm s1 s2 s3 s4 : ByteArray) (hr : swageref02_Right.f k a0 a1 a2 a3 a4 = some true) (hn : swageref02_name.f a0 = some nm) (zn : nm.size ≤ 10) (n1 : swageref02_number.f k a1 = some s1) (z1 : s1.size ≤ 30) (n2 : swageref02_number.f k a2 = some s2) (z2 : s2.size ≤ 30) (n3 : swageref02_number.f k a3 = some s3) (z3 : s3.size ≤ 30) (n4 : swageref02_number.f k a4 = some s4) (z4 : s4.size ≤ 30) :
    Calls Tryd.prog 33 #[.agg #[.int .i64 a0, .int .i64 a1, .int .i64 a2, .int .i64 a3, .int .i64 a4]] w fun e w' => e = .returned (.string (nm ++ (⟨#[46]⟩ : ByteArray) ++ s4 ++ (⟨#[32, 114]⟩ : ByteArray) ++ s1 ++ (⟨#[32, 114]⟩ : ByteArray) ++ s2 ++ (⟨#[32, 114]⟩ : ByteArray) ++ s3)) ∧ Below w.heap.size w w' := by
  have HR := Aside0.mk hr
  have HN := Aside0.mk hn
  have N1 := Aside0.mk n1
  have N2 := Aside0.mk n2
  have N3 := Aside0.mk n3
  have N4 := Aside0.mk n4
  clear hr hn n1 n2 n3 n4
  have hu23 := Tryd.underlying32
  go_enter Tryd.func33, Tryd.ntmps33
  go_wp2_with fail
  have hx0 := blk_new w (.cells #[.int .i64 a0, .int .i64 a1, .int .i64 a2, .int .i64 a3, .int .i64 a4] 32)
  refine (swageref02_Right.calls k a0 a1 a2 a3 a4 true _ HR.out).mono ?_
  rintro e w1 ⟨rfl, hb⟩
  have hx := blk_below hx0 hb
  have hB := below_then (below_alloc (Below.refl w.heap.size w) _) (below_size (below_alloc (Below.refl w.heap.size w) _)) hb
  clear hx0
  have c0 := blk_cell hx 0
  have c1 := blk_cell hx 1
  have c2 := blk_cell hx 2
  have c3 := blk_cell hx 3
  have c4 := blk_cell hx 4
  simp at c0 c1 c2 c3 c4
  have X1 := Aside0.mk hx
  have B1 := Aside0.mk hB
  clear hx hB hb
  go_wp2_with fail
  refine (swageref02_name.calls a0 nm _ HN.out).mono ?_
  rintro e w2 ⟨rfl, hd⟩
  have hb := hd.below
  have hx := blk_below X1.out hb
  have hB := below_then B1.out (below_size B1.out) hb
  clear c0 c1 c2 c3 c4 hd
  have c0 := blk_cell hx 0
  have c1 := blk_cell hx 1
  have c2 := blk_cell hx 2
  have c3 := blk_cell hx 3
  have c4 := blk_cell hx 4
  simp at c0 c1 c2 c3 c4
  have X2 := Aside0.mk hx
  have B2 := Aside0.mk hB
  clear hx hB hb
  go_wp2_with fail
  refine wp_region_rel 22 (fun _ => none) (fun _ => []) (fun _ _ _ => True) (fun w' => Below w2.heap.size w2 w') (fun a b => Below a.heap.size a b) (by kernel_rfl) (by kernel_rfl) (below_drew (Below.refl _ _)) (fun a b h k => below_then h h.size k) (fun _ _ _ _ _ _ => trivial) ?_
  simp only [List.take_succ_cons, List.take_zero, List.drop_succ_cons, List.drop_zero]
  clear c0 c1 c2 c3 c4
  iterate 4 (apply relQ_step rfl; apply Exists.intro; constructor; (focus (intro w' hw'; have hx := blk_below X2.out hw'; have c1 := blk_cell hx 1; have c2 := blk_cell hx 2; have c3 := blk_cell hx 3; have c4 := blk_cell hx 4; clear hx; simp at c1 c2 c3 c4; unfold Yl; go_wp2_with (fail); first | exact ⟨rfl, _, rfl, rfl, hb3⟩ | exact ⟨rfl, _, rfl, rfl, Below.refl _ _⟩)); (try simp only [Act.put, List.setIfInBounds_toArray, List.set_cons_zero, List.set_cons_succ]))
  (apply relQ_step rfl; apply Exists.intro; constructor; (focus (intro w' hw'; have hx := blk_below X2.out hw'; have c1 := blk_cell hx 1; have c2 := blk_cell hx 2; have c3 := blk_cell hx 3; have c4 := blk_cell hx 4; clear hx; simp at c1 c2 c3 c4; unfold Yl; go_wp2_with (go_at_call 52; refine (swageref02_number.calls k a4 s4 _ N4.out).mono ?_; rintro e w3 ⟨rfl, hb3⟩); first | exact ⟨rfl, _, rfl, rfl, hb3⟩ | exact ⟨rfl, _, rfl, rfl, Below.refl _ _⟩)); (try simp only [Act.put, List.setIfInBounds_toArray, List.set_cons_zero, List.set_cons_succ]))
  iterate 4 (apply relQ_step rfl; apply Exists.intro; constructor; (focus (intro w' hw'; have hx := blk_below X2.out hw'; have c1 := blk_cell hx 1; have c2 := blk_cell hx 2; have c3 := blk_cell hx 3; have c4 := blk_cell hx 4; clear hx; simp at c1 c2 c3 c4; unfold Yl; go_wp2_with (fail); first | exact ⟨rfl, _, rfl, rfl, hb3⟩ | exact ⟨rfl, _, rfl, rfl, Below.refl _ _⟩)); (try simp only [Act.put, List.setIfInBounds_toArray, List.set_cons_zero, List.set_cons_succ]))
  (apply relQ_step rfl; apply Exists.intro; constructor; (focus (intro w' hw'; have hx := blk_below X2.out hw'; have c1 := blk_cell hx 1; have c2 := blk_cell hx 2; have c3 := blk_cell hx 3; have c4 := blk_cell hx 4; clear hx; simp at c1 c2 c3 c4; unfold Yl; go_wp2_with (go_at_call 52; refine (swageref02_number.calls k a1 s1 _ N1.out).mono ?_; rintro e w3 ⟨rfl, hb3⟩); first | exact ⟨rfl, _, rfl, rfl, hb3⟩ | exact ⟨rfl, _, rfl, rfl, Below.refl _ _⟩)); (try simp only [Act.put, List.setIfInBounds_toArray, List.set_cons_zero, List.set_cons_succ]))
  iterate 4 (apply relQ_step rfl; apply Exists.intro; constructor; (focus (intro w' hw'; have hx := blk_below X2.out hw'; have c1 := blk_cell hx 1; have c2 := blk_cell hx 2; have c3 := blk_cell hx 3; have c4 := blk_cell hx 4; clear hx; simp at c1 c2 c3 c4; unfold Yl; go_wp2_with (fail); first | exact ⟨rfl, _, rfl, rfl, hb3⟩ | exact ⟨rfl, _, rfl, rfl, Below.refl _ _⟩)); (try simp only [Act.put, List.setIfInBounds_toArray, List.set_cons_zero, List.set_cons_succ]))
  (apply relQ_step rfl; apply Exists.intro; constructor; (focus (intro w' hw'; have hx := blk_below X2.out hw'; have c1 := blk_cell hx 1; have c2 := blk_cell hx 2; have c3 := blk_cell hx 3; have c4 := blk_cell hx 4; clear hx; simp at c1 c2 c3 c4; unfold Yl; go_wp2_with (go_at_call 52; refine (swageref02_number.calls k a2 s2 _ N2.out).mono ?_; rintro e w3 ⟨rfl, hb3⟩); first | exact ⟨rfl, _, rfl, rfl, hb3⟩ | exact ⟨rfl, _, rfl, rfl, Below.refl _ _⟩)); (try simp only [Act.put, List.setIfInBounds_toArray, List.set_cons_zero, List.set_cons_succ]))
  iterate 4 (apply relQ_step rfl; apply Exists.intro; constructor; (focus (intro w' hw'; have hx := blk_below X2.out hw'; have c1 := blk_cell hx 1; have c2 := blk_cell hx 2; have c3 := blk_cell hx 3; have c4 := blk_cell hx 4; clear hx; simp at c1 c2 c3 c4; unfold Yl; go_wp2_with (fail); first | exact ⟨rfl, _, rfl, rfl, hb3⟩ | exact ⟨rfl, _, rfl, rfl, Below.refl _ _⟩)); (try simp only [Act.put, List.setIfInBounds_toArray, List.set_cons_zero, List.set_cons_succ]))
  (apply relQ_step rfl; apply Exists.intro; constructor; (focus (intro w' hw'; have hx := blk_below X2.out hw'; have c1 := blk_cell hx 1; have c2 := blk_cell hx 2; have c3 := blk_cell hx 3; have c4 := blk_cell hx 4; clear hx; simp at c1 c2 c3 c4; unfold Yl; go_wp2_with (go_at_call 52; refine (swageref02_number.calls k a3 s3 _ N3.out).mono ?_; rintro e w3 ⟨rfl, hb3⟩); first | exact ⟨rfl, _, rfl, rfl, hb3⟩ | exact ⟨rfl, _, rfl, rfl, Below.refl _ _⟩)); (try simp only [Act.put, List.setIfInBounds_toArray, List.set_cons_zero, List.set_cons_succ]))
  iterate 2 (apply relQ_step rfl; apply Exists.intro; constructor; (focus (intro w' hw'; have hx := blk_below X2.out hw'; have c1 := blk_cell hx 1; have c2 := blk_cell hx 2; have c3 := blk_cell hx 3; have c4 := blk_cell hx 4; clear hx; simp at c1 c2 c3 c4; unfold Yl; go_wp2_with (fail); first | exact ⟨rfl, _, rfl, rfl, hb3⟩ | exact ⟨rfl, _, rfl, rfl, Below.refl _ _⟩)); (try simp only [Act.put, List.setIfInBounds_toArray, List.set_cons_zero, List.set_cons_succ]))
  refine relQ_nil (fun x => ?_)
  repeat (refine relL_quiet rfl ?_)
  refine relL_nil (fun w' hw' _ => ?_)
  have hB := below_then B2.out (below_size B2.out) hw'
  clear hw'
  have BB := Aside0.mk hB
  clear hB
  go_wp2_with fail
  go_ret
  exact ⟨rfl, BB.out⟩
end Go.Proofs.YtmfcmjcgajjiiaaDoor.S
namespace Go.Proofs.YtmfcmjcgajjiiaaDoor.S
open Go.RowKit Go.Proofs.YtmfcmjcgajjiiaaDoorW.PrintWords Go.Proofs.YtmfcmjcgajjiiaaDoorW.PrintLast Go.Proofs.YtmfcmjcgajjiiaaDoorW.PrintMore
set_option linter.unusedVariables false
set_option linter.unusedSimpArgs false
theorem addS_reg (s : ByteArray) (n : Int) : addS true ⟨#[114]⟩ s n = s ++ (⟨#[32, 114]⟩ : ByteArray) ++ itoaB n := by
  unfold addS
  rw [if_pos rfl, show (⟨#[32]⟩ : ByteArray) ++ ⟨#[114]⟩ = ⟨#[32, 114]⟩ from rfl, ← ByteArray.append_assoc]
theorem addS_imm (s : ByteArray) (n : Int) : addS true ⟨#[]⟩ s n = s ++ (⟨#[32]⟩ : ByteArray) ++ itoaB n := by
  unfold addS
  rw [if_pos rfl, show (⟨#[32]⟩ : ByteArray) ++ ⟨#[]⟩ = ⟨#[32]⟩ from rfl, ← ByteArray.append_assoc]
theorem addS_no (p s : ByteArray) (n : Int) : addS false p s n = s := by
  unfold addS
  rw [if_neg (by decide)]
theorem itoaB_30 {n : Int} (h : -2147483648 ≤ n ∧ n ≤ 2147483647) : (itoaB n).size ≤ 30 := Nat.le_trans (itoaB_size n (by omega) (by omega)) (by decide)
theorem reg_32 {n : Int} {b : Bool} (h : regOk n b) : -2147483648 ≤ n ∧ n ≤ 2147483647 := by
  have := rreg_in h
  omega
set_option maxHeartbeats 4000000 in
theorem rtext_calls (op a b c imm : Int) (tx : ByteArray) (w : World) (ha : I64 a) (hb : I64 b) (hc : I64 c) (hi : I64 imm) (h : inst_Text.f 30 op a b c imm = some tx) :
    Calls Tryd.prog 33 #[.agg #[.int .i64 op, .int .i64 a, .int .i64 b, .int .i64 c, .int .i64 imm]] w fun e w' => e = .returned (.string tx) ∧ Below w.heap.size w w' := by
  by_cases hR : RightP op a b c imm
  · obtain ⟨t, e, _, ht⟩ := text_right (k := 30) (by decide) ha hb hc hi hR
    obtain rfl : t = tx := Option.some.inj (e.symm.trans h)
    have hr : swageref02_Right.f 30 op a b c imm = some true := by rw [rright_eq 26]; simp [hR]
    have na := number_eq 18 a (reg_32 hR.2.2.1)
    have nb := number_eq 18 b (reg_32 hR.2.2.2.1)
    have nc := number_eq 18 c (reg_32 hR.2.2.2.2.1)
    have ni := number_eq 18 imm (imm_in hR)
    have za := itoaB_30 (reg_32 hR.2.2.1)
    have zb := itoaB_30 (reg_32 hR.2.2.2.1)
    have zc := itoaB_30 (reg_32 hR.2.2.2.2.1)
    have zi := itoaB_30 (imm_in hR)
    have hf := rfields_eq 26 op hR.1 hR.2.1
    have h1 := hR.1
    have h2 := hR.2.1
    clear hR e h
    subst ht
    rcases op_cases h1 h2 with rfl | rfl | rfl | rfl | rfl | rfl | rfl | rfl | rfl | rfl | rfl | rfl | rfl | rfl | rfl
    · refine (rtext_001 30 0 a b c imm w rfl ⟨#[104, 97, 108, 116]⟩ (itoaB a) (itoaB b) (itoaB imm) false hr rfl hf (by decide) ni zi).mono ?_
      rintro e w' ⟨rfl, hd⟩
      refine ⟨?_, hd⟩
      congr 2
      all_goals simp only [shapeTab, textS, show Int.toNat 0 = 0 from rfl, List.getD_cons_zero, List.getD_cons_succ, addS_reg, addS_imm, addS_no, if_true, Bool.false_eq_true, if_false, ByteArray.append_assoc]
    · refine (rtext_101 30 1 a b c imm w rfl ⟨#[108, 105]⟩ (itoaB a) (itoaB b) (itoaB imm) false hr rfl hf (by decide) na za ni zi).mono ?_
      rintro e w' ⟨rfl, hd⟩
      refine ⟨?_, hd⟩
      congr 2
      all_goals simp only [shapeTab, textS, show Int.toNat 1 = 1 from rfl, List.getD_cons_zero, List.getD_cons_succ, addS_reg, addS_imm, addS_no, if_true, Bool.false_eq_true, if_false, ByteArray.append_assoc]
    · refine (rtext_101 30 2 a b c imm w rfl ⟨#[108, 105, 104]⟩ (itoaB a) (itoaB b) (itoaB imm) false hr rfl hf (by decide) na za ni zi).mono ?_
      rintro e w' ⟨rfl, hd⟩
      refine ⟨?_, hd⟩
      congr 2
      all_goals simp only [shapeTab, textS, show Int.toNat 2 = 2 from rfl, List.getD_cons_zero, List.getD_cons_succ, addS_reg, addS_imm, addS_no, if_true, Bool.false_eq_true, if_false, ByteArray.append_assoc]
    · refine (rtext_110 30 3 a b c imm w rfl ⟨#[109, 111, 118]⟩ (itoaB a) (itoaB b) (itoaB imm) false hr rfl hf (by decide) na za nb zb).mono ?_
      rintro e w' ⟨rfl, hd⟩
      refine ⟨?_, hd⟩
      congr 2
      all_goals simp only [shapeTab, textS, show Int.toNat 3 = 3 from rfl, List.getD_cons_zero, List.getD_cons_succ, addS_reg, addS_imm, addS_no, if_true, Bool.false_eq_true, if_false, ByteArray.append_assoc]
    · refine (rtext_bin 30 4 a b c imm w rfl ⟨#[98, 105, 110]⟩ (itoaB a) (itoaB b) (itoaB c) (itoaB imm) hr rfl (by decide) na za nb zb nc zc ni zi).mono ?_
      rintro e w' ⟨rfl, hd⟩
      refine ⟨?_, hd⟩
      congr 2
      all_goals simp only [shapeTab, textS, show Int.toNat 4 = 4 from rfl, List.getD_cons_zero, List.getD_cons_succ, addS_reg, addS_imm, addS_no, if_true, Bool.false_eq_true, if_false, ByteArray.append_assoc]
    · refine (rtext_111 30 5 a b c imm w rfl ⟨#[108, 100]⟩ (itoaB a) (itoaB b) (itoaB imm) false hr rfl hf (by decide) na za nb zb ni zi).mono ?_
      rintro e w' ⟨rfl, hd⟩
      refine ⟨?_, hd⟩
      congr 2
      all_goals simp only [shapeTab, textS, show Int.toNat 5 = 5 from rfl, List.getD_cons_zero, List.getD_cons_succ, addS_reg, addS_imm, addS_no, if_true, Bool.false_eq_true, if_false, ByteArray.append_assoc]
    · refine (rtext_111 30 6 a b c imm w rfl ⟨#[115, 116]⟩ (itoaB a) (itoaB b) (itoaB imm) false hr rfl hf (by decide) na za nb zb ni zi).mono ?_
      rintro e w' ⟨rfl, hd⟩
      refine ⟨?_, hd⟩
      congr 2
      all_goals simp only [shapeTab, textS, show Int.toNat 6 = 6 from rfl, List.getD_cons_zero, List.getD_cons_succ, addS_reg, addS_imm, addS_no, if_true, Bool.false_eq_true, if_false, ByteArray.append_assoc]
    · refine (rtext_001 30 7 a b c imm w rfl ⟨#[106, 109, 112]⟩ (itoaB a) (itoaB b) (itoaB imm) false hr rfl hf (by decide) ni zi).mono ?_
      rintro e w' ⟨rfl, hd⟩
      refine ⟨?_, hd⟩
      congr 2
      all_goals simp only [shapeTab, textS, show Int.toNat 7 = 7 from rfl, List.getD_cons_zero, List.getD_cons_succ, addS_reg, addS_imm, addS_no, if_true, Bool.false_eq_true, if_false, ByteArray.append_assoc]
    · refine (rtext_101 30 8 a b c imm w rfl ⟨#[106, 122]⟩ (itoaB a) (itoaB b) (itoaB imm) false hr rfl hf (by decide) na za ni zi).mono ?_
      rintro e w' ⟨rfl, hd⟩
      refine ⟨?_, hd⟩
      congr 2
      all_goals simp only [shapeTab, textS, show Int.toNat 8 = 8 from rfl, List.getD_cons_zero, List.getD_cons_succ, addS_reg, addS_imm, addS_no, if_true, Bool.false_eq_true, if_false, ByteArray.append_assoc]
    · refine (rtext_001 30 9 a b c imm w rfl ⟨#[99, 97, 108, 108]⟩ (itoaB a) (itoaB b) (itoaB imm) false hr rfl hf (by decide) ni zi).mono ?_
      rintro e w' ⟨rfl, hd⟩
      refine ⟨?_, hd⟩
      congr 2
      all_goals simp only [shapeTab, textS, show Int.toNat 9 = 9 from rfl, List.getD_cons_zero, List.getD_cons_succ, addS_reg, addS_imm, addS_no, if_true, Bool.false_eq_true, if_false, ByteArray.append_assoc]
    · refine (rtext_000 30 10 a b c imm w rfl ⟨#[114, 101, 116]⟩ (itoaB a) (itoaB b) (itoaB imm) false hr rfl hf (by decide)).mono ?_
      rintro e w' ⟨rfl, hd⟩
      refine ⟨?_, hd⟩
      congr 2
      all_goals simp only [shapeTab, textS, show Int.toNat 10 = 10 from rfl, List.getD_cons_zero, List.getD_cons_succ, addS_reg, addS_imm, addS_no, if_true, Bool.false_eq_true, if_false, ByteArray.append_assoc]
    · refine (rtext_100 30 11 a b c imm w rfl ⟨#[105, 110]⟩ (itoaB a) (itoaB b) (itoaB imm) false hr rfl hf (by decide) na za).mono ?_
      rintro e w' ⟨rfl, hd⟩
      refine ⟨?_, hd⟩
      congr 2
      all_goals simp only [shapeTab, textS, show Int.toNat 11 = 11 from rfl, List.getD_cons_zero, List.getD_cons_succ, addS_reg, addS_imm, addS_no, if_true, Bool.false_eq_true, if_false, ByteArray.append_assoc]
    · refine (rtext_100 30 12 a b c imm w rfl ⟨#[111, 117, 116]⟩ (itoaB a) (itoaB b) (itoaB imm) false hr rfl hf (by decide) na za).mono ?_
      rintro e w' ⟨rfl, hd⟩
      refine ⟨?_, hd⟩
      congr 2
      all_goals simp only [shapeTab, textS, show Int.toNat 12 = 12 from rfl, List.getD_cons_zero, List.getD_cons_succ, addS_reg, addS_imm, addS_no, if_true, Bool.false_eq_true, if_false, ByteArray.append_assoc]
    · refine (rtext_110 30 13 a b c imm w rfl ⟨#[97, 108, 108, 111, 99]⟩ (itoaB a) (itoaB b) (itoaB imm) false hr rfl hf (by decide) na za nb zb).mono ?_
      rintro e w' ⟨rfl, hd⟩
      refine ⟨?_, hd⟩
      congr 2
      all_goals simp only [shapeTab, textS, show Int.toNat 13 = 13 from rfl, List.getD_cons_zero, List.getD_cons_succ, addS_reg, addS_imm, addS_no, if_true, Bool.false_eq_true, if_false, ByteArray.append_assoc]
    · refine (rtext_111 30 14 a b c imm w rfl ⟨#[97, 100, 100, 105]⟩ (itoaB a) (itoaB b) (itoaB imm) false hr rfl hf (by decide) na za nb zb ni zi).mono ?_
      rintro e w' ⟨rfl, hd⟩
      refine ⟨?_, hd⟩
      congr 2
      all_goals simp only [shapeTab, textS, show Int.toNat 14 = 14 from rfl, List.getD_cons_zero, List.getD_cons_succ, addS_reg, addS_imm, addS_no, if_true, Bool.false_eq_true, if_false, ByteArray.append_assoc]
  · have e := text_wrong (k := 30) (by decide) hi hR
    obtain rfl := Option.some.inj (e.symm.trans h)
    exact rtext_no 30 op a b c imm w (by rw [rright_eq 26]; simp [hR])
end Go.Proofs.YtmfcmjcgajjiiaaDoor.S
namespace Go.Proofs.YtmfcmjcgajjiiaaDoor.S
open Go.RowKit Go.Proofs.YtmfcmjcgajjiiaaDoorW.PrintWords Go.Proofs.YtmfcmjcgajjiiaaDoorW.PrintLast Go.Proofs.YtmfcmjcgajjiiaaDoorW.PrintMore
set_option linter.unusedVariables false
instance (n : Int) : Decidable (I64 n) := by unfold I64; infer_instance
/-- The document's Text: that of inst's. -/
def swageref02_Text.f (k : Nat) (a0 a1 a2 a3 a4 : Int) : Option ByteArray := if I64 a1 ∧ I64 a2 ∧ I64 a3 ∧ I64 a4 then inst_Text.f 30 a0 a1 a2 a3 a4 else none
theorem swageref02_Text.mono : ∀ a0 a1 a2 a3 a4 k, LeO (swageref02_Text.f k a0 a1 a2 a3 a4) (swageref02_Text.f (k + 1) a0 a1 a2 a3 a4) := fun _ _ _ _ _ _ => LeO.refl _
theorem swageref02_Text.calls (k : Nat) (a0 a1 a2 a3 a4 : Int) (r : ByteArray) (w : World) (h : swageref02_Text.f k a0 a1 a2 a3 a4 = some r) :
    Calls Tryd.prog 33 #[.agg #[.int .i64 a0, .int .i64 a1, .int .i64 a2, .int .i64 a3, .int .i64 a4]] w fun e w' => e = .returned (.string r) ∧ Below w.heap.size w w' := by
  unfold swageref02_Text.f at h
  split at h
  · rename_i hh
    exact rtext_calls a0 a1 a2 a3 a4 r w hh.1 hh.2.1 hh.2.2.1 hh.2.2.2 h
  · cases h
end Go.Proofs.YtmfcmjcgajjiiaaDoor.S
