import Derived.Test.YtfdkhahpjbikiaaDoorOtext2
namespace Go.Proofs.YtfdkhahpjbikiaaDoor.S
open Go.RowKit Go.Proofs.YtfdkhahpjbikiaaDoorW.PrintWords Go.Proofs.YtfdkhahpjbikiaaDoorW.PrintLast Go.Proofs.YtfdkhahpjbikiaaDoorW.PrintMore Go.RelRegion
set_option linter.unusedVariables false
theorem gl_setc {W : World} {p : Addr} {v : Value} (h : GL W) (hp : 0 ≠ p.block) : GL (W.setCell p v) := by
  unfold GL Lib.TabIs World.var? at *
  have e : Tryd.prog.globalNamed "internal/strconv.uint64pow10" = some 0 := by kernel_rfl
  rw [e] at h ⊢
  simp only [Option.bind_some] at h ⊢
  rw [Below.heap_setCell _ _ _ _ hp]
  exact h
set_option maxHeartbeats 8000000 in
set_option maxRecDepth 100000 in
theorem text_sc1 (k : Nat) (a0 a1 a2 a3 a4 : Int) (nm : ByteArray) (sa sb si st : Bool) (w : World) (hGL : GL w) (hR : inst_Right.f k a0 a1 a2 a3 a4 = some true) (hS : inst_shapeOf.f a0 = some (nm, sa, sb, true, si, st, true)) (hn : nm.size ≤ 10)
    (h1 : -9223372036854775808 ≤ a1) (h1' : a1 ≤ 9223372036854775807) (h2 : -9223372036854775808 ≤ a2) (h2' : a2 ≤ 9223372036854775807) (h3 : -9223372036854775808 ≤ a3) (h3' : a3 ≤ 9223372036854775807) (h4 : -9223372036854775808 ≤ a4) (h4' : a4 ≤ 9223372036854775807) :
    Calls Tryd.prog 12 #[.agg #[.int .i64 a0, .int .i64 a1, .int .i64 a2, .int .i64 a3, .int .i64 a4]] w fun e w' => e = .returned (.string (textS nm sa sb true si a1 a2 a3 a4)) ∧ Below w.heap.size w w' := by
  have HR := Aside0.mk hR
  have HS := Aside0.mk hS
  have HG := Aside0.mk hGL
  clear hR hS hGL
  have hu23 := Tryd.underlying23
  have hu48 := Tryd.underlying48
  go_enter Tryd.func12, Tryd.ntmps12
  go_wp2_with fail
  have hx0 := blk_new w (.cells #[.int .i64 a0, .int .i64 a1, .int .i64 a2, .int .i64 a3, .int .i64 a4] 23)
  refine (inst_Right.calls k a0 a1 a2 a3 a4 true _ HR.out).mono ?_
  rintro e w1 ⟨rfl, hb1⟩
  have hx1 := blk_below hx0 hb1
  have hB1 := below_then (below_alloc (Below.refl w.heap.size w) _) (below_size (below_alloc (Below.refl _ _) _)) hb1
  have c10 := blk_cell hx1 0
  simp at c10
  clear hx0 hb1
  have HX1 := Aside0.mk hx1
  have HB1 := Aside0.mk hB1
  clear hx1 hB1
  go_wp2_with fail
  refine (inst_shapeOf.calls a0 nm sa sb true si st true _ HS.out).mono ?_
  rintro e w2 ⟨rfl, hb2⟩
  have hx2 := blk_below HX1.out hb2
  have hB2 := below_then HB1.out (below_size HB1.out) hb2
  have hz2 := blk_lt hx2
  have c20 := blk_cell hx2 0
  have c21 := blk_cell hx2 1
  have c22 := blk_cell hx2 2
  have c23 := blk_cell hx2 3
  have c24 := blk_cell hx2 4
  simp at c20 c21 c22 c23 c24
  have TT : Aside0 (TextW w ((w2.alloc (.cells #[.string nm, .bool sa, .bool sb, .bool true, .bool si, .bool st] 48)).alloc (.cells #[.string nm] 9)) a0 a1 a2 a3 a4 w2.heap.size (w2.heap.size + 1) nm sa sb true si st nm) :=
    ⟨⟨(HG.out.below hB2).below (below_alloc (below_alloc (Below.refl _ _) _) _), below_alloc (below_alloc hB2 _) _, blk_alloc (blk_alloc hx2 _) _, blk_alloc (blk_new _ _) _, by have h_ := blk_new (w2.alloc (.cells #[.string nm, .bool sa, .bool sb, .bool true, .bool si, .bool st] 48)) (.cells #[.string nm] 9); simpa using h_, hz2, Nat.lt_succ_self _⟩⟩
  clear hb2 hx2 hB2 HB1 HX1 c10
  have ei := Lib.itoa_length_le a4 h4 h4'
  have z0 : (nm ++ ((⟨#[46]⟩ : ByteArray) ++ itoaB a4)).size ≤ 1000 := by
    have := itoaB_size a4 h4 h4'
    simp only [ByteArray.size_append]
    have e : (⟨#[46]⟩ : ByteArray).size = 1 := rfl
    omega
  have z0' : (nm ++ ((⟨#[46]⟩ : ByteArray) ++ itoaB a4)).size ≤ 32 := by
    have := itoaB_size a4 h4 h4'
    simp only [ByteArray.size_append]
    have e : (⟨#[46]⟩ : ByteArray).size = 1 := rfl
    omega
  have z1 := addS_size sa ⟨#[114]⟩ (nm ++ ((⟨#[46]⟩ : ByteArray) ++ itoaB a4)) a1 h1 h1'
  have z2 := addS_size sb ⟨#[114]⟩ (addS sa ⟨#[114]⟩ (nm ++ ((⟨#[46]⟩ : ByteArray) ++ itoaB a4)) a1) a2 h2 h2'
  have z3 := addS_size true ⟨#[114]⟩ (addS sb ⟨#[114]⟩ (addS sa ⟨#[114]⟩ (nm ++ ((⟨#[46]⟩ : ByteArray) ++ itoaB a4)) a1) a2) a3 h3 h3'
  have er : (⟨#[114]⟩ : ByteArray).size = 1 := rfl
  have z3' : (addS true ⟨#[114]⟩ (addS sb ⟨#[114]⟩ (addS sa ⟨#[114]⟩ (nm ++ ((⟨#[46]⟩ : ByteArray) ++ itoaB a4)) a1) a2) a3).size ≤ 1000 := by omega
  have z2' : (addS sb ⟨#[114]⟩ (addS sa ⟨#[114]⟩ (nm ++ ((⟨#[46]⟩ : ByteArray) ++ itoaB a4)) a1) a2).size ≤ 1000 := by omega
  have z1' : (addS sa ⟨#[114]⟩ (nm ++ ((⟨#[46]⟩ : ByteArray) ++ itoaB a4)) a1).size ≤ 1000 := by omega
  clear z1 z2 z3 er z0'
  have Z0 := Aside0.mk z0
  have Z1 := Aside0.mk z1'
  have Z2 := Aside0.mk z2'
  have Z3 := Aside0.mk z3'
  clear z1' z2' z3' z0
  go_wp2_with fail
  obtain ⟨W, hW⟩ : ∃ W, (w2.alloc (.cells #[.string nm, .bool sa, .bool sb, .bool true, .bool si, .bool st] 48)).alloc (.cells #[.string nm] 9) = W := ⟨_, rfl⟩
  rw [hW] at TT ⊢
  clear hW
  refine wp_region_rel 6 (fun _ => none) (fun _ => []) (fun _ _ _ => True) (fun w' => Below W.heap.size W w') (fun a b => Below a.heap.size a b) (by kernel_rfl) (by kernel_rfl) (below_drew (Below.refl _ _)) (fun a b h k => below_then h h.size k) (fun _ _ _ _ _ _ => trivial) ?_
  simp only [List.take_succ_cons, List.take_zero, List.drop_succ_cons, List.drop_zero]
  repeat (apply relQ_step rfl; apply Exists.intro; constructor; focus (intro w' hw'; have hg' := Aside0.mk (TT.out.gl.below hw'); have hx' := blk_cell (blk_below TT.out.x hw') 4; have ho' := blk_cell (blk_below TT.out.out hw') 0; simp at hx' ho'; unfold Yl; go_wp2_with (go_at_call 34; refine (itoa_calls a4 _ hg'.out h4 h4').mono ?_; rintro e w3 ⟨rfl, hb3⟩); first | exact ⟨rfl, _, rfl, rfl, Below.refl _ _⟩ | exact ⟨rfl, _, rfl, rfl, hb3⟩))
  refine relQ_nil (fun x => ?_)
  repeat (refine relL_quiet rfl ?_)
  refine relL_nil (fun w' hw' _ => ?_)
  have TB := Aside0.mk (show TextW w (w'.setCell ⟨w2.heap.size + 1, 0, none⟩ (.string (nm ++ ((⟨#[46]⟩ : ByteArray) ++ itoaB a4)))) a0 a1 a2 a3 a4 w2.heap.size (w2.heap.size + 1) nm sa sb true si st (nm ++ ((⟨#[46]⟩ : ByteArray) ++ itoaB a4)) from
    TT.out.step (blk_set (blk_below TT.out.out hw') 0 _) (by
      refine ⟨hw'.os, hw'.tape, hw'.output, ?_, fun i hi hne => ?_⟩
      · have := hw'.size
        simpa [World.setCell] using this
      · rw [Below.heap_setCell _ _ _ _ (fun e => hne (congrArg some e))]
        exact hw'.block i hi))
  have T0 := Aside0.mk (show TextW w ((w'.setCell ⟨w2.heap.size + 1, 0, none⟩ (.string (nm ++ ((⟨#[46]⟩ : ByteArray) ++ itoaB a4)))).setCell ⟨w2.heap.size, 4, none⟩ (.bool false)) a0 a1 a2 a3 a4 w2.heap.size (w2.heap.size + 1) nm sa sb true false st (nm ++ ((⟨#[46]⟩ : ByteArray) ++ itoaB a4)) from
    ⟨gl_setc TB.out.gl (by have := TB.out.o1; simp; omega), TB.out.below.setCell (by have := TB.out.o1; simp; omega) _, blk_far TB.out.x (by have := TB.out.o1; simp; omega) _, blk_set TB.out.ss 4 _, blk_far TB.out.out (by simp) _, TB.out.o1, TB.out.o2⟩)
  have bx := blk_below TT.out.x hw'
  have bs := blk_below TT.out.ss hw'
  have bo := blk_below TT.out.out hw'
  have c1 := blk_cell bx 1
  have c2 := blk_cell bx 2
  have c3 := blk_cell bx 3
  have c4 := blk_cell bx 4
  have d1 := blk_cell bs 1
  have d2 := blk_cell bs 2
  have d3 := blk_cell bs 3
  have d4 := blk_cell bs 4
  have f4 := blk_frozen bs 4
  have e1 := blk_cell bo 0
  have f1 := blk_frozen bo 0
  clear bx bs bo hw' c20 c21 c22 c23 c24
  simp at c1 c2 c3 c4 d1 d2 d3 d4 e1
  go_wp2_with fail
  refine (text1 sa ⟨#[114]⟩ (nm ++ ((⟨#[46]⟩ : ByteArray) ++ itoaB a4)) a1 _ _ T0.out.gl h1 h1' (by decide) Z0.out T0.out.out).mono ?_
  rintro e v1 ⟨rfl, hB1, hg1⟩
  have T1 := Aside0.mk (T0.out.step hB1 hg1)
  clear hB1 hg1
  obtain ⟨c1, c2, c3, c4, d1, d2, d3, d4, f4, e1, f1⟩ := T1.out.cells
  go_wp2_with fail
  refine (text1 sb ⟨#[114]⟩ (addS sa ⟨#[114]⟩ (nm ++ ((⟨#[46]⟩ : ByteArray) ++ itoaB a4)) a1) a2 _ _ T1.out.gl h2 h2' (by decide) Z1.out T1.out.out).mono ?_
  rintro e v2 ⟨rfl, hB2, hg2⟩
  have T2 := Aside0.mk (T1.out.step hB2 hg2)
  clear hB2 hg2
  obtain ⟨c1, c2, c3, c4, d1, d2, d3, d4, f4, e1, f1⟩ := T2.out.cells
  go_wp2_with fail
  refine (text1 true ⟨#[114]⟩ (addS sb ⟨#[114]⟩ (addS sa ⟨#[114]⟩ (nm ++ ((⟨#[46]⟩ : ByteArray) ++ itoaB a4)) a1) a2) a3 _ _ T2.out.gl h3 h3' (by decide) Z2.out T2.out.out).mono ?_
  rintro e v3 ⟨rfl, hB3, hg3⟩
  have T3 := Aside0.mk (T2.out.step hB3 hg3)
  clear hB3 hg3
  obtain ⟨c1, c2, c3, c4, d1, d2, d3, d4, f4, e1, f1⟩ := T3.out.cells
  go_wp2_with fail
  refine (text1 false ⟨#[]⟩ (addS true ⟨#[114]⟩ (addS sb ⟨#[114]⟩ (addS sa ⟨#[114]⟩ (nm ++ ((⟨#[46]⟩ : ByteArray) ++ itoaB a4)) a1) a2) a3) a4 _ _ T3.out.gl h4 h4' (by decide) Z3.out T3.out.out).mono ?_
  rintro e v4 ⟨rfl, hB4, hg4⟩
  have T4 := Aside0.mk (T3.out.step hB4 hg4)
  clear hB4 hg4
  obtain ⟨c1, c2, c3, c4, d1, d2, d3, d4, f4, e1, f1⟩ := T4.out.cells
  go_wp2_with fail
  go_ret
  exact ⟨rfl, T4.out.below⟩
end Go.Proofs.YtfdkhahpjbikiaaDoor.S
