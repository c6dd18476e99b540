import Derived.Test.YtfdkhahpjbikiaaDoorOsmall
import Derived.Test.YtfdkhahpjbikiaaDoorOrtext
import Derived.Test.YtfdkhahpjbikiaaDoorS3
import Derived.Test.YtfdkhahpjbikiaaDoorS4
import Derived.Test.YtfdkhahpjbikiaaDoorS5
import Derived.Test.YtfdkhahpjbikiaaDoorS6
import Derived.Test.YtfdkhahpjbikiaaDoorS7
namespace Go.Proofs.YtfdkhahpjbikiaaDoor.S
open Go.RowKit Go.Proofs.YtfdkhahpjbikiaaDoorW.PrintWords Go.Proofs.YtfdkhahpjbikiaaDoorW.PrintLast Go.Proofs.YtfdkhahpjbikiaaDoorW.PrintMore Go.RelRegion
set_option linter.unusedVariables false
attribute [local go_sem high] eqA23
/-- What the region's loud operations have told: the two rows of registers; else true. -/
def wrR (us : List Int) (n : Nat) (vs : List Value) (W' : World) : Prop := if n = 49 ∨ n = 51 then ∃ A m, vs = [.slice A us.length m] ∧ us.length ≤ m ∧ Kd.C (Kd.int .i64) W' A us.length us else vs = [.bool true]
theorem wrR_row {us : List Int} {n : Nat} (hn : n = 49 ∨ n = 51) (vs : List Value) (W' : World) : wrR us n vs W' ↔ ∃ A m, vs = [.slice A us.length m] ∧ us.length ≤ m ∧ Kd.C (Kd.int .i64) W' A us.length us := by
  unfold wrR
  rw [if_pos hn]
theorem wrR_true {us : List Int} {n : Nat} (hn : ¬ (n = 49 ∨ n = 51)) (vs : List Value) (W' : World) : wrR us n vs W' ↔ vs = [.bool true] := by
  unfold wrR
  rw [if_neg hn]
theorem wrR_below {us : List Int} (n : Nat) (vs : List Value) (a b : World) (h : wrR us n vs a) (hab : Below a.heap.size a b) : wrR us n vs b := by
  by_cases hn : n = 49 ∨ n = 51
  · rw [wrR_row hn] at h ⊢
    obtain ⟨A, m, e, hm, hc⟩ := h
    exact ⟨A, m, e, hm, Kd.C_below hc hab⟩
  · rw [wrR_true hn] at h ⊢
    exact h
set_option maxHeartbeats 8000000 in
set_option maxRecDepth 100000 in
theorem writes_walk (k : Nat) (a b c d i : Int) (l1 : List Int) (e1 s : Int) (is : Bool) (j : Int) (ju : Bool) (t : Bool) (tx : ByteArray) (us : List Int) (w : World) (hGL : GL w)
    (h1 : inst_Encode.f k a b c d i = some (l1, e1)) (h2 : swageref02_Encode.f k a b c d i = some (l1, e1)) (h3 : inst_Sets.f k a b c d i = some (s, is)) (h4 : swageref02_Sets.f k a b c d i = some (s, is))
    (h5 : inst_Jumps.f k a b c d i = some (j, ju)) (h6 : swageref02_Jumps.f k a b c d i = some (j, ju)) (h7 : inst_Right.f k a b c d i = some t) (h8 : swageref02_Right.f k a b c d i = some t)
    (h9 : inst_Text.f k a b c d i = some tx) (h10 : ∀ w, Calls Tryd.prog 20 #[.agg #[.int .i64 a, .int .i64 b, .int .i64 c, .int .i64 d, .int .i64 i]] w fun e w' => e = .returned (.string tx) ∧ Below w.heap.size w w') (h11 : inst_Uses.f k a b c d i = some us) (h12 : swageref02_Uses.f k a b c d i = some us) (h13 : swageref02_Ints.f k us us = some true) :
    Calls Tryd.prog 4 #[.agg #[.int .i64 a, .int .i64 b, .int .i64 c, .int .i64 d, .int .i64 i]] w fun e w' => e = .returned (.bool true) ∧ Below w.heap.size w w' := by
  have H1 := Aside0.mk h1
  have H2 := Aside0.mk h2
  have H3 := Aside0.mk h3
  have H4 := Aside0.mk h4
  have H5 := Aside0.mk h5
  have H6 := Aside0.mk h6
  have H7 := Aside0.mk h7
  have H8 := Aside0.mk h8
  have H9 := Aside0.mk h9
  have H10 := Aside0.mk h10
  have H11 := Aside0.mk h11
  have H12 := Aside0.mk h12
  have H13 := Aside0.mk h13
  have HG := Aside0.mk hGL
  clear h1 h2 h3 h4 h5 h6 h7 h8 h9 h10 h11 h12 h13 hGL
  have hu23 := Tryd.underlying23
  go_enter Tryd.func4, Tryd.ntmps4
  go_wp2_with ((with_reducible refine gate_dst (N := 1) rfl ?_); (try (refine gate_guard (by rfl) ?_; dsimp only)); refine box_event ?hg (N := 1) ?hd (cs := #[.int .i64 a, .int .i64 b, .int .i64 c, .int .i64 d, .int .i64 i]) (t := 23) ?hr ?_; (case hd => rfl); (case hg => rfl); (case hr => first | (go_simp; done) | (go_simp; rfl)); intro gb hg w1 hbox hb)
  subst hg
  have HX1 := Aside0.mk hbox
  have HB1 := Aside0.mk hb
  have HG1 := Aside0.mk (GL.below HG.out hb)
  clear hbox hb HG
  have x0 := blk_cell HX1.out 0
  have x1 := blk_cell HX1.out 1
  have x2 := blk_cell HX1.out 2
  have x3 := blk_cell HX1.out 3
  have x4 := blk_cell HX1.out 4
  simp at x0 x1 x2 x3 x4

  refine (swagelaw02_small.calls true _ HG1 rfl).mono ?_
  rintro e w2 ⟨rfl, hb⟩
  have HX2 := Aside0.mk (blk_below HX1.out hb)
  have HB2 := Aside0.mk (below_then HB1.out (below_size HB1.out) hb)
  have HG2 := Aside0.mk (GL.below HG1.out hb)
  clear hb HX1 HB1 HG1 x0 x1 x2 x3 x4 
  have x0 := blk_cell HX2.out 0
  have x1 := blk_cell HX2.out 1
  have x2 := blk_cell HX2.out 2
  have x3 := blk_cell HX2.out 3
  have x4 := blk_cell HX2.out 4
  simp at x0 x1 x2 x3 x4

  go_wp2_with fail
  refine (inst_Encode.calls k a b c d i l1 e1 w2 H1.out).mono ?_
  rintro e w3 ⟨v3, rfl, hr, hb⟩
  obtain ⟨A3, k3, rfl, hk3, hc3⟩ := Kd.R_reads hr
  clear hr
  have HX3 := Aside0.mk (blk_below HX2.out hb)
  have HB3 := Aside0.mk (below_then HB2.out (below_size HB2.out) hb)
  have HG3 := Aside0.mk (GL.below HG2.out hb)
  clear hb HX2 HB2 HG2 x0 x1 x2 x3 x4 
  have x0 := blk_cell HX3.out 0
  have x1 := blk_cell HX3.out 1
  have x2 := blk_cell HX3.out 2
  have x3 := blk_cell HX3.out 3
  have x4 := blk_cell HX3.out 4
  simp at x0 x1 x2 x3 x4

  have HC3 := Aside0.mk hc3
  clear hc3
  go_wp2_with fail
  refine (swageref02_Encode.calls k a b c d i l1 e1 w3 H2.out).mono ?_
  rintro e w4 ⟨v4, rfl, hr, hb⟩
  obtain ⟨A4, k4, rfl, hk4, hc4⟩ := Kd.R_reads hr
  clear hr
  have HX4 := Aside0.mk (blk_below HX3.out hb)
  have HB4 := Aside0.mk (below_then HB3.out (below_size HB3.out) hb)
  have HG4 := Aside0.mk (GL.below HG3.out hb)
  have HC4 := Aside0.mk (Kd.C_below HC3.out hb)
  clear hb HX3 HB3 HG3 x0 x1 x2 x3 x4 HC3
  have x0 := blk_cell HX4.out 0
  have x1 := blk_cell HX4.out 1
  have x2 := blk_cell HX4.out 2
  have x3 := blk_cell HX4.out 3
  have x4 := blk_cell HX4.out 4
  simp at x0 x1 x2 x3 x4

  have HD4 := Aside0.mk hc4
  clear hc4
  go_wp2_with fail
  refine (inst_Sets.calls k a b c d i s is w4 H3.out).mono ?_
  rintro e w5 ⟨rfl, hb⟩
  have HX5 := Aside0.mk (blk_below HX4.out hb)
  have HB5 := Aside0.mk (below_then HB4.out (below_size HB4.out) hb)
  have HG5 := Aside0.mk (GL.below HG4.out hb)
  have HC5 := Aside0.mk (Kd.C_below HC4.out hb)
  have HD5 := Aside0.mk (Kd.C_below HD4.out hb)
  clear hb HX4 HB4 HG4 x0 x1 x2 x3 x4 HC4 HD4
  have x0 := blk_cell HX5.out 0
  have x1 := blk_cell HX5.out 1
  have x2 := blk_cell HX5.out 2
  have x3 := blk_cell HX5.out 3
  have x4 := blk_cell HX5.out 4
  simp at x0 x1 x2 x3 x4

  go_wp2_with fail
  refine (swageref02_Sets.calls k a b c d i s is w5 H4.out).mono ?_
  rintro e w6 ⟨rfl, hb⟩
  have HX6 := Aside0.mk (blk_below HX5.out hb)
  have HB6 := Aside0.mk (below_then HB5.out (below_size HB5.out) hb)
  have HG6 := Aside0.mk (GL.below HG5.out hb)
  have HC6 := Aside0.mk (Kd.C_below HC5.out hb)
  have HD6 := Aside0.mk (Kd.C_below HD5.out hb)
  clear hb HX5 HB5 HG5 x0 x1 x2 x3 x4 HC5 HD5
  have x0 := blk_cell HX6.out 0
  have x1 := blk_cell HX6.out 1
  have x2 := blk_cell HX6.out 2
  have x3 := blk_cell HX6.out 3
  have x4 := blk_cell HX6.out 4
  simp at x0 x1 x2 x3 x4

  go_wp2_with fail
  refine (inst_Jumps.calls k a b c d i j ju w6 H5.out).mono ?_
  rintro e w7 ⟨rfl, hb⟩
  have HX7 := Aside0.mk (blk_below HX6.out hb)
  have HB7 := Aside0.mk (below_then HB6.out (below_size HB6.out) hb)
  have HG7 := Aside0.mk (GL.below HG6.out hb)
  have HC7 := Aside0.mk (Kd.C_below HC6.out hb)
  have HD7 := Aside0.mk (Kd.C_below HD6.out hb)
  clear hb HX6 HB6 HG6 x0 x1 x2 x3 x4 HC6 HD6
  have x0 := blk_cell HX7.out 0
  have x1 := blk_cell HX7.out 1
  have x2 := blk_cell HX7.out 2
  have x3 := blk_cell HX7.out 3
  have x4 := blk_cell HX7.out 4
  simp at x0 x1 x2 x3 x4

  go_wp2_with fail
  refine (swageref02_Jumps.calls k a b c d i j ju w7 H6.out).mono ?_
  rintro e w8 ⟨rfl, hb⟩
  have HX8 := Aside0.mk (blk_below HX7.out hb)
  have HB8 := Aside0.mk (below_then HB7.out (below_size HB7.out) hb)
  have HG8 := Aside0.mk (GL.below HG7.out hb)
  have HC8 := Aside0.mk (Kd.C_below HC7.out hb)
  have HD8 := Aside0.mk (Kd.C_below HD7.out hb)
  clear hb HX7 HB7 HG7 x0 x1 x2 x3 x4 HC7 HD7
  have x0 := blk_cell HX8.out 0
  have x1 := blk_cell HX8.out 1
  have x2 := blk_cell HX8.out 2
  have x3 := blk_cell HX8.out 3
  have x4 := blk_cell HX8.out 4
  simp at x0 x1 x2 x3 x4

  clear H1 H2 H3 H4 H5 H6
  go_wp2_with fail
  have hs0 := HC8.out
  have hd0 := HD8.out
  have hx0 := HX8.out
  refine wp_region_rel 54 (fun n => if n = 49 then some [] else if n = 51 then some [] else if n = 52 then some [49, 51] else if n = 53 then some [52] else none) (fun n => [n])
    (wrR us)
    (fun w' => Below w8.heap.size w8 w') (fun a b => Below a.heap.size a b) (by kernel_rfl) (by kernel_rfl) (below_drew (Below.refl _ _)) (fun a b h k => below_then h h.size k)
    (fun n vs a b h hab => wrR_below n vs a b h hab) ?_
  simp only [List.take_succ_cons, List.take_zero, List.drop_succ_cons, List.drop_zero]
  iterate 54 (first | (refine relQ_loud rfl ?_) | (apply relQ_step rfl; apply Exists.intro; constructor; (focus (intro w' hw'; have x0 := pw_cell_below hw' x0; have x1 := pw_cell_below hw' x1; have x2 := pw_cell_below hw' x2; have x3 := pw_cell_below hw' x3; have x4 := pw_cell_below hw' x4; have hs := Kd.C_string (P := Tryd.prog) (src := 24) (dst := 9) (c := k3) Tryd.underlying24 Tryd.underlying5 Tryd.underlying9 (Kd.C_below hs0 hw'); have hd := Kd.C_string (P := Tryd.prog) (src := 24) (dst := 9) (c := k4) Tryd.underlying24 Tryd.underlying5 Tryd.underlying9 (Kd.C_below hd0 hw'); unfold Yl; go_wp2_with (first | (go_at_call 11; refine (inst_Right.calls k a b c d i t _ H7.out).mono ?_; rintro e w2 ⟨rfl, hb⟩) | (go_at_call 19; refine (swageref02_Right.calls k a b c d i t _ H8.out).mono ?_; rintro e w2 ⟨rfl, hb⟩) | (go_at_call 12; refine (inst_Text.calls k a b c d i tx _ ⟨GL.below HG8.out hw'⟩ H9.out).mono ?_; rintro e w2 ⟨rfl, hb⟩) | (go_at_call 20; refine (H10.out _).mono ?_; rintro e w2 ⟨rfl, hb⟩)); first | exact ⟨rfl, _, rfl, rfl, hb⟩ | exact ⟨rfl, _, rfl, rfl, Below.refl _ _⟩)); (try simp only [Act.put, List.setIfInBounds_toArray, List.set_cons_zero, List.set_cons_succ])))
  refine relQ_nil (fun x => ?_)
  repeat (refine relL_quiet rfl ?_)
  refine relL_loud rfl (fun w' hw' _ => ?_) ?_
  · unfold Yl
    go_wp2_with (go_at_call 22; refine (inst_Uses.calls k a b c d i us _ H11.out).mono ?_; rintro e w2 ⟨v, rfl, hr, hb⟩; obtain ⟨A, m, rfl, hm, hc⟩ := Kd.R_reads hr)
    refine ⟨rfl, _, rfl, hb, ?_⟩
    exact (wrR_row (Or.inl rfl) _ _).2 ⟨A, m, by simp, hm, hc⟩
  (try simp only [Act.put, List.setIfInBounds_toArray, List.set_cons_zero, List.set_cons_succ])
  repeat (refine relL_quiet rfl ?_)
  refine relL_loud rfl (fun w' hw' _ => ?_) ?_
  · unfold Yl
    go_wp2_with (go_at_call 23; refine (swageref02_Uses.calls k a b c d i us _ H12.out).mono ?_; rintro e w2 ⟨v, rfl, hr, hb⟩; obtain ⟨A, m, rfl, hm, hc⟩ := Kd.R_reads hr)
    refine ⟨rfl, _, rfl, hb, ?_⟩
    exact (wrR_row (Or.inr rfl) _ _).2 ⟨A, m, by simp, hm, hc⟩
  (try simp only [Act.put, List.setIfInBounds_toArray, List.set_cons_zero, List.set_cons_succ])
  refine relL_loud rfl (fun w' hw' hR => ?_) ?_
  · have r1 := hR 49 (by simp)
    have r2 := hR 51 (by simp)
    rw [wrR_row (Or.inl rfl)] at r1
    rw [wrR_row (Or.inr rfl)] at r2
    obtain ⟨A, m, e1, hm1, hc1⟩ := r1
    obtain ⟨A', m', e2, hm2, hc2⟩ := r2
    have e1 : x 49 = .slice A us.length m := by simpa using e1
    have e2 : x 51 = .slice A' us.length m' := by simpa using e2
    rw [e1, e2]
    unfold Yl
    go_wp2_with (go_at_call 21; refine (swageref02_Ints.calls k A m us A' m' us true _ hc1 hm1 hc2 hm2 H13.out).mono ?_; rintro e w2 ⟨rfl, hd⟩)
    refine ⟨rfl, _, rfl, hd.below, ?_⟩
    exact (wrR_true (by decide) _ _).2 (by simp)
  (try simp only [Act.put, List.setIfInBounds_toArray, List.set_cons_zero, List.set_cons_succ])
  refine relL_loud rfl (fun w' hw' hR => ?_) ?_
  · have r1 := hR 52 (by simp)
    rw [wrR_true (by decide)] at r1
    have e1 : x 52 = .bool true := by simpa using r1
    rw [e1]
    unfold Yl
    go_wp2_with fail
    refine ⟨rfl, _, rfl, Below.refl _ _, ?_⟩
    exact (wrR_true (by decide) _ _).2 (by simp)
  (try simp only [Act.put, List.setIfInBounds_toArray, List.set_cons_zero, List.set_cons_succ])
  refine relL_nil (fun w' hw' hR => ?_)
  have r1 := hR 53 (by decide) rfl
  rw [wrR_true (by decide)] at r1
  have e1 : x 53 = .bool true := by simpa using r1
  rw [e1]
  clear x0 x1 x2 x3 x4
  have hBe := Aside0.mk (below_then HB8.out (below_size HB8.out) hw')
  go_wp2_with fail
  refine bodyPost_ret (v := .bool true) (by simp [results, Tryd.results4, go_sem]) rfl ⟨rfl, ?_⟩
  exact hBe.out
end Go.Proofs.YtfdkhahpjbikiaaDoor.S
