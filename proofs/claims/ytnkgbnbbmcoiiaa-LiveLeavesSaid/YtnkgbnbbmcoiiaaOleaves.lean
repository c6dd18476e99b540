import Derived.Test.YtnkgbnbbmcoiiaaOflows
import Derived.Test.YtnkgbnbbmcoiiaaOmeet
import Derived.Test.YtnkgbnbbmcoiiaaOsame
import Derived.Test.YtnkgbnbbmcoiiaaRf
import Derived.Test.YtnkgbnbbmcoiiaaLleav
import Derived.Test.YtnkgbnbbmcoiiaaOsweep
namespace Go.Proofs.Ytnkgbnbbmcoiiaa.S
open Go.RowKit Go.IM Go.RelRegion Go.Proofs.YtnkgbnbbmcoiiaaW.PrintWords Go.Proofs.YtnkgbnbbmcoiiaaW.PrintLast Go.Proofs.YtnkgbnbbmcoiiaaW.PrintMore
set_option linter.unusedVariables false
set_option linter.unusedSimpArgs false
/-! ### swagelaw17.LiveLeaves -/
def lv8E : Nat → Option (List Nat)
  | 5 => some []
  | 6 => some [5]
  | 7 => some [6]
  | 8 => some [7]
  | 9 => some [8]
  | 10 => some [9]
  | 11 => some [9, 10]
  | 12 => some [9, 11]
  | 13 => some [9]
  | 14 => some [9, 13]
  | 15 => some [9, 14]
  | 16 => some [9, 12, 15]
  | 17 => some [9, 16]
  | 18 => some [17]
  | 19 => some [18]
  | 20 => some [18, 19]
  | 21 => some [18]
  | 22 => some [18, 20, 21]
  | 23 => some [18, 22]
  | 24 => some [18, 23]
  | 25 => some [24]
  | 26 => some [25]
  | 27 => some [25, 26]
  | 28 => some [25]
  | 29 => some [25, 28]
  | 30 => some [25, 27, 29]
  | 31 => some [25, 30]
  | _ => none
def lv8T (p : Int) (A As : Option Addr) (n c cs gf gs m ms : Nat) : Nat → Value
  | 6 => .int .i64 0
  | 7 => .bool false
  | 8 => .bool false
  | 9 => .bool false
  | 10 => .pointer (some ⟨gs, 1, none⟩)
  | 11 => .slice As n cs
  | 12 => .int .i64 n
  | 13 => .pointer (some ⟨gf, 1, none⟩)
  | 14 => .slice A n c
  | 15 => .int .i64 n
  | 16 => .bool false
  | 17 => .bool false
  | 18 => .bool false
  | 19 => .agg #[.int .i64 p, .slice As n cs]
  | 21 => .agg #[.int .i64 p, .slice As n cs]
  | 22 => .bool true
  | 23 => .bool false
  | 24 => .bool false
  | 25 => .bool false
  | 26 => .agg #[.int .i64 p, .slice As n cs]
  | 27 => .int .i64 ms
  | 28 => .agg #[.int .i64 p, .slice A n c]
  | 29 => .int .i64 m
  | 30 => .bool false
  | 31 => .bool false
  | _ => undef
/-- What the loud of LiveLeaves' great test tell. -/
def R8 (T : Nat → Value) (p : Int) (n : Nat) (s : List S43) (k : Nat) (vs : List Value) (w' : World) : Prop :=
  if k = 5 then ∃ A c, vs = [.slice A 0 c] else if k = 20 then ∃ A c, vs = [.agg #[.int .i64 p, .slice A n c]] ∧ Kd.C k43 w' A n s else vs = [T k]
theorem R8.below {T : Nat → Value} {p : Int} {n : Nat} {s : List S43} {k : Nat} {vs : List Value} {w' w2 : World} (h : R8 T p n s k vs w') (hb : Below w'.heap.size w' w2) : R8 T p n s k vs w2 := by
  unfold R8 at h ⊢
  split at h
  · rename_i h1
    rw [if_pos h1]
    exact h
  · rename_i h1
    rw [if_neg h1]
    split at h
    · rename_i h2
      rw [if_pos h2]
      obtain ⟨A, c, e, h⟩ := h
      exact ⟨A, c, e, Kd.C_below h hb⟩
    · rename_i h2
      rw [if_neg h2]
      exact h
theorem R8.val {T : Nat → Value} {p : Int} {n : Nat} {s : List S43} {k : Nat} {x : Nat → Value} {w' : World} (h : R8 T p n s k ([k].map x) w') (h5 : k ≠ 5) (h20 : k ≠ 20) : x k = T k := by
  unfold R8 at h
  rw [if_neg h5, if_neg h20] at h
  simpa using h
theorem R8.mk {T : Nat → Value} {p : Int} {n : Nat} {s : List S43} {k : Nat} {x : Nat → Value} {v : Value} {w' : World} (h : v = T k) (h5 : k ≠ 5) (h20 : k ≠ 20) : R8 T p n s k ([k].map fun e => if e = k then v else x e) w' := by
  unfold R8
  rw [if_neg h5, if_neg h20, h]
  simp
theorem own_zero {w : World} {base e size : Nat} {v : Value} {xs : List Value} (h : w.ownsRow base e size v 0 xs) : ∃ A c, v = .slice A 0 c := by
  rcases h.2 with ⟨e, _⟩ | ⟨g, cap, cur, e, _⟩
  · exact ⟨_, _, e⟩
  · exact ⟨_, _, e⟩
theorem right_n (p : Int) (A : Option Addr) (n c : Nat) (s : List S43) (fn : Int) (w : World) (hn : s.length = n) (hC : Kd.C k43 w A n s) :
    Calls Try.prog 18 #[.agg #[.int .i64 p, .slice A n c], .int .i64 fn] w fun e w' => e = .returned (.bool (rightF p s fn)) ∧ Below w.heap.size w w' := by
  subst hn
  exact right_any p A c s fn w hC
theorem dead_n (p : Int) (A : Option Addr) (n c : Nat) (s : List S43) (w : World) (hn : s.length = n) (hC : Kd.C k43 w A n s) (hR : rightF p s 256 = true) (hD : deadL s = []) :
    Calls Try.prog 36 #[.agg #[.int .i64 p, .slice A n c]] w fun e w' => ∃ A' c', e = .returned (.slice A' 0 c') ∧ Below w.heap.size w w' := by
  subst hn
  refine (dead_ok p A c s w hC hR).mono ?_
  rintro e w' ⟨v, rfl, ho, hb⟩
  have hD : deadP s (plcs s s.length) = [] := hD
  rw [hD] at ho
  obtain ⟨A', c', rfl⟩ := own_zero ho
  exact ⟨A', c', rfl, hb⟩
theorem sweep_n (p : Int) (A : Option Addr) (n c : Nat) (s : List S43) (w : World) (hn : s.length = n) (hC : Kd.C k43 w A n s) (hR : rightF p s 256 = true) (hD : deadL s = []) :
    Calls Try.prog 35 #[.agg #[.int .i64 p, .slice A n c]] w fun e w' => ∃ A' c', e = .returned (.agg #[.int .i64 p, .slice A' n c']) ∧ Kd.C k43 w' A' n s ∧ Below w.heap.size w w' := by
  subst hn
  refine (sweep_ok p A c s w hC hR).mono ?_
  rintro e w' ⟨A', c', t, rfl, _, hs, hC', hb⟩
  obtain rfl := (SweepOf.done hD).uniq hs
  exact ⟨A', c', rfl, hC', hb⟩
theorem same_n (p : Int) (A A' : Option Addr) (n c c' : Nat) (s : List S43) (w : World) (hn : s.length = n) (hC : Kd.C k43 w A n s) (hC' : Kd.C k43 w A' n s) :
    Calls Try.prog 37 #[.agg #[.int .i64 p, .slice A n c], .agg #[.int .i64 p, .slice A' n c']] w fun e w' => e = .returned (.bool true) ∧ Below w.heap.size w w' := by
  subst hn
  exact same_eq p s A A' c c' w hC hC'
theorem most_n (p : Int) (A : Option Addr) (n c : Nat) (s : List S43) (w : World) (hn : s.length = n) (hC : Kd.C k43 w A n s) (hR : rightF p s 256 = true) {m : Nat} (hm : MaxOf (Sizes s s.length) m) :
    Calls Try.prog 33 #[.agg #[.int .i64 p, .slice A n c]] w fun e w' => e = .returned (.int .i64 (m : Int)) ∧ Below w.heap.size w w' := by
  subst hn
  exact most_at p A c s w hC hR hm
theorem in_n (p : Int) (A : Option Addr) (n c : Nat) (s : List S43) (w : World) (hn : s.length = n) (hC : Kd.C k43 w A n s) (hR : rightF p s 256 = true) :
    Calls Try.prog 27 #[.agg #[.int .i64 p, .slice A n c]] w fun e w' => ∃ A' c', e = .returned (.slice A' n c') ∧ Kd.C (Kd.slice 3 (Kd.int .i64)) w' A' n (inL s) ∧ Below w.heap.size w w' := by
  subst hn
  refine (in_ok p A c s w hC hR).mono ?_
  rintro e w' ⟨v, rfl, hr, hb⟩
  obtain ⟨A', c', rfl, _, hC'⟩ := Kd.R_reads hr
  rw [inL_length] at hC' ⊢
  exact ⟨A', c', rfl, hC', hb⟩
attribute [local go_sem high] eqT41
set_option maxHeartbeats 16000000 in
set_option maxRecDepth 100000 in
theorem leaves_few (p : Int) (A : Option Addr) (c : Nat) (bs : List S43) (w : World) (k : Nat) (hC : Kd.C k43 w A bs.length bs) (hc : bs.length ≤ c) (hf : swagelaw17_few.f k p bs = some false) :
    Calls Try.prog 8 #[.agg #[.int .i64 p, .slice A bs.length c]] w fun e w' => e = .returned (.bool true) ∧ Below w.heap.size w w' := by
  have hu34 := Try.underlying34
  have HF := Aside0.mk hf
  have HC := Aside0.mk hC
  have HCc := Aside0.mk hc
  have HB0 := Aside0.mk (below_alloc (Below.refl w.heap.size w) (.cells #[.int .i64 p, .slice A bs.length c] 34))
  have HF0 := Aside0.mk (blk_new w (.cells #[.int .i64 p, .slice A bs.length c] 34))
  clear hC hf hc
  go_enter Try.func8, Try.ntmps8
  go_wp2_with (first
    | (go_at_call 25; refine (small17_walk _).mono ?_; rintro e w1 ⟨rfl, hb⟩; have HB1 := Aside0.mk (below_then HB0.out HB0.out.size hb); have HF1 := Aside0.mk (blk_below HF0.out hb); have c0 := blk_cell HF1.out 0; have c1 := blk_cell HF1.out 1; simp only [List.getElem?_toArray, List.getElem?_cons_zero, List.getElem?_cons_succ] at c0 c1; clear hb)
    | (go_at_call 26; refine (swagelaw17_few.calls k p A c bs false _ (Kd.C_below HC.out HB1.out) HCc.out HF.out).mono ?_; rintro e w2 ⟨rfl, hb⟩; have HB2 := Aside0.mk (below_then HB1.out HB1.out.size hb); have HF2 := Aside0.mk (blk_below HF1.out hb); clear c0 c1; have c0 := blk_cell HF2.out 0; have c1 := blk_cell HF2.out 1; simp only [List.getElem?_toArray, List.getElem?_cons_zero, List.getElem?_cons_succ] at c0 c1; clear hb))
  go_ret
  exact ⟨rfl, HB2.out⟩
set_option maxHeartbeats 16000000 in
set_option maxRecDepth 100000 in
theorem leaves_bad (p : Int) (A : Option Addr) (c : Nat) (bs : List S43) (w : World) (k : Nat) (hC : Kd.C k43 w A bs.length bs) (hc : bs.length ≤ c) (hf : swagelaw17_few.f k p bs = some true) (hR : rightF p bs 256 = false) :
    Calls Try.prog 8 #[.agg #[.int .i64 p, .slice A bs.length c]] w fun e w' => e = .returned (.bool true) ∧ Below w.heap.size w w' := by
  have HR := Aside0.mk hR
  have hu34 := Try.underlying34
  have HF := Aside0.mk hf
  have HC := Aside0.mk hC
  have HCc := Aside0.mk hc
  have HB0 := Aside0.mk (below_alloc (Below.refl w.heap.size w) (.cells #[.int .i64 p, .slice A bs.length c] 34))
  have HF0 := Aside0.mk (blk_new w (.cells #[.int .i64 p, .slice A bs.length c] 34))
  clear hC hf hc hR
  go_enter Try.func8, Try.ntmps8
  go_wp2_with (first
    | (go_at_call 25; refine (small17_walk _).mono ?_; rintro e w1 ⟨rfl, hb⟩; have HB1 := Aside0.mk (below_then HB0.out HB0.out.size hb); have HF1 := Aside0.mk (blk_below HF0.out hb); have c0 := blk_cell HF1.out 0; have c1 := blk_cell HF1.out 1; simp only [List.getElem?_toArray, List.getElem?_cons_zero, List.getElem?_cons_succ] at c0 c1; clear hb)
    | (go_at_call 26; refine (swagelaw17_few.calls k p A c bs true _ (Kd.C_below HC.out HB1.out) HCc.out HF.out).mono ?_; rintro e w2 ⟨rfl, hb⟩; have HB2 := Aside0.mk (below_then HB1.out HB1.out.size hb); have HF2 := Aside0.mk (blk_below HF1.out hb); clear c0 c1; have c0 := blk_cell HF2.out 0; have c1 := blk_cell HF2.out 1; simp only [List.getElem?_toArray, List.getElem?_cons_zero, List.getElem?_cons_succ] at c0 c1; clear hb)
    | (go_at_call 18; refine (right_any p A c bs 256 _ (Kd.C_below HC.out HB2.out)).mono ?_; rintro e w3 ⟨rfl, hb⟩; rw [HR.out]; have HB3 := Aside0.mk (below_then HB2.out HB2.out.size hb); have HF3 := Aside0.mk (blk_below HF2.out hb); clear c0 c1; have c0 := blk_cell HF3.out 0; have c1 := blk_cell HF3.out 1; simp only [List.getElem?_toArray, List.getElem?_cons_zero, List.getElem?_cons_succ] at c0 c1; clear hb))
  go_ret
  exact ⟨rfl, HB3.out⟩
theorem hright {bs s : List S43} (h : SweepOf bs s) {p fn : Int} (hr : RightP p bs fn) : RightP p s fn := h.right hr
set_option maxHeartbeats 16000000 in
set_option maxRecDepth 100000 in
theorem leaves_ok (p : Int) (A : Option Addr) (c : Nat) (bs : List S43) (w : World) (k : Nat) (hC : Kd.C k43 w A bs.length bs) (hc : bs.length ≤ c) (hf : swagelaw17_few.f k p bs = some true) (hR : rightF p bs 256 = true) :
    Calls Try.prog 8 #[.agg #[.int .i64 p, .slice A bs.length c]] w fun e w' => e = .returned (.bool true) ∧ Below w.heap.size w w' := by
  have RP := Aside0.mk (rightF_iff hR)
  have HR := Aside0.mk hR
  have hu43 := Try.underlying43
  have hu41 := Try.underlying41
  have hu45 := Try.underlying45
  have hlen4 := RP.out.len.2
  obtain ⟨m, hm⟩ := most_fix RP.out
  have HM := Aside0.mk hm
  clear hm
  have hu34 := Try.underlying34
  have HF := Aside0.mk hf
  have HC := Aside0.mk hC
  have HCc := Aside0.mk hc
  have HB0 := Aside0.mk (below_alloc (Below.refl w.heap.size w) (.cells #[.int .i64 p, .slice A bs.length c] 34))
  have HF0 := Aside0.mk (blk_new w (.cells #[.int .i64 p, .slice A bs.length c] 34))
  clear hC hf hc hR
  go_enter Try.func8, Try.ntmps8
  go_wp2_with (first
    | (go_at_call 25; refine (small17_walk _).mono ?_; rintro e w1 ⟨rfl, hb⟩; have HB1 := Aside0.mk (below_then HB0.out HB0.out.size hb); have HF1 := Aside0.mk (blk_below HF0.out hb); have c0 := blk_cell HF1.out 0; have c1 := blk_cell HF1.out 1; simp only [List.getElem?_toArray, List.getElem?_cons_zero, List.getElem?_cons_succ] at c0 c1; clear hb)
    | (go_at_call 26; refine (swagelaw17_few.calls k p A c bs true _ (Kd.C_below HC.out HB1.out) HCc.out HF.out).mono ?_; rintro e w2 ⟨rfl, hb⟩; have HB2 := Aside0.mk (below_then HB1.out HB1.out.size hb); have HF2 := Aside0.mk (blk_below HF1.out hb); clear c0 c1; have c0 := blk_cell HF2.out 0; have c1 := blk_cell HF2.out 1; simp only [List.getElem?_toArray, List.getElem?_cons_zero, List.getElem?_cons_succ] at c0 c1; clear hb)
    | (go_at_call 18; refine (right_any p A c bs 256 _ (Kd.C_below HC.out HB2.out)).mono ?_; rintro e w3 ⟨rfl, hb⟩; rw [HR.out]; have HB3 := Aside0.mk (below_then HB2.out HB2.out.size hb); have HF3 := Aside0.mk (blk_below HF2.out hb); clear c0 c1; have c0 := blk_cell HF3.out 0; have c1 := blk_cell HF3.out 1; simp only [List.getElem?_toArray, List.getElem?_cons_zero, List.getElem?_cons_succ] at c0 c1; clear hb)
    | (go_at_call 35; refine (sweep_ok p A c bs _ (Kd.C_below HC.out HB3.out) HR.out).mono ?_; rintro e w4 ⟨As, cs, s, rfl, hcs, hsw, hCs, hb⟩; have hLS := (hsw.leaves RP.out).len; rw [hLS] at hcs hCs ⊢; have HS4 := Aside0.mk hCs; have HCS := Aside0.mk hcs; have HSW := Aside0.mk hsw; have HLS := Aside0.mk hLS; clear hcs hCs hsw hLS; have HB4 := Aside0.mk (below_then HB3.out HB3.out.size hb); have HF4 := Aside0.mk (blk_below HF3.out hb); clear c0 c1; have c0 := blk_cell HF4.out 0; have c1 := blk_cell HF4.out 1; simp only [List.getElem?_toArray, List.getElem?_cons_zero, List.getElem?_cons_succ] at c0 c1; clear hb))
  have hRS := hright HSW.out RP.out
  have RS := Aside0.mk hRS
  have HRS := Aside0.mk (rightF_of hRS)
  have HDS := Aside0.mk HSW.out.fin
  have HLV := Aside0.mk (HSW.out.leaves RP.out)
  obtain ⟨ms, hms⟩ := most_fix hRS
  have HMS := Aside0.mk hms
  have hmm : ms ≤ m := HLV.out.most RP.out hRS HM.out hms
  have b0 : decide ((m : Int) < (ms : Int)) = false := decide_eq_false (by omega)
  have b0n : decide (m < ms) = false := decide_eq_false (by omega)
  clear hms hRS
  obtain ⟨W5, hW5⟩ : ∃ W5, w4.alloc (.cells #[.int .i64 p, .slice As bs.length cs] 34) = W5 := ⟨_, rfl⟩
  have hbA := below_alloc (Below.refl w4.heap.size w4) (.cells #[.int .i64 p, .slice As bs.length cs] 34)
  have hX5 := blk_new w4 (.cells #[.int .i64 p, .slice As bs.length cs] 34)
  rw [hW5] at hbA hX5 ⊢
  have HB5 := Aside0.mk (below_then HB4.out HB4.out.size hbA)
  have HF5 := Aside0.mk (blk_below HF4.out hbA)
  have HS5 := Aside0.mk (Kd.C_below HS4.out hbA)
  generalize w4.heap.size = gs at hX5 ⊢
  have HX5 := Aside0.mk hX5
  clear c0 c1 hW5 hbA hX5
  have c0 := blk_cell HF5.out 0
  have c1 := blk_cell HF5.out 1
  have d0 := blk_cell HX5.out 0
  have d1 := blk_cell HX5.out 1
  simp only [List.getElem?_toArray, List.getElem?_cons_zero, List.getElem?_cons_succ] at c0 c1 d0 d1
  refine wp_region_rel 32 lv8E (fun k => [k]) (R8 (lv8T p A As bs.length c cs w.heap.size gs m ms) p bs.length s) (fun w' => Below W5.heap.size W5 w') (fun a b => Below a.heap.size a b) (by kernel_rfl) (by kernel_rfl) (below_drew (Below.refl _ _)) (fun a b h k => below_then h h.size k) (fun _ _ _ _ h hb => h.below hb) ?_
  simp only [List.take_succ_cons, List.take_zero, List.drop_succ_cons, List.drop_zero]
  iterate 32 (first | (refine relQ_loud rfl ?_) | (apply relQ_step rfl; apply Exists.intro; constructor; (focus (intro w' hw'; have c0 := pw_cell_below hw' c0; have c1 := pw_cell_below hw' c1; have d0 := pw_cell_below hw' d0; have d1 := pw_cell_below hw' d1; unfold Yl; go_wp2_with (go_at_call 18; refine (right_n p As bs.length cs s 256 _ HLS.out (Kd.C_below HS5.out hw')).mono ?_; rintro e w6 ⟨rfl, hbq⟩; rw [HRS.out]); first | exact ⟨rfl, _, rfl, rfl, Below.refl _ _⟩ | exact ⟨rfl, _, rfl, rfl, hbq⟩)); (try simp only [Act.put, List.setIfInBounds_toArray, List.set_cons_zero, List.set_cons_succ])))
  refine relQ_nil (fun xx => ?_)
  repeat (refine relL_quiet rfl ?_)
  refine relL_loud rfl (fun w' hw' hR => ?_) ?_
  · have c0 := pw_cell_below hw' c0; have c1 := pw_cell_below hw' c1; have d0 := pw_cell_below hw' d0; have d1 := pw_cell_below hw' d1
    clear hR
    unfold Yl
    go_wp2_with (go_at_call 36; refine (dead_n p As bs.length cs s _ HLS.out (Kd.C_below HS5.out hw') HRS.out HDS.out).mono ?_; rintro e w6 ⟨A6, c6, rfl, hb⟩)
    refine ⟨rfl, _, rfl, hb, ?_⟩
    unfold R8
    rw [if_pos rfl]
    exact ⟨A6, c6, by simp⟩
  (try simp only [Act.put, List.setIfInBounds_toArray, List.set_cons_zero, List.set_cons_succ])
  refine relL_loud rfl (fun w' hw' hR => ?_) ?_
  · have c0 := pw_cell_below hw' c0; have c1 := pw_cell_below hw' c1; have d0 := pw_cell_below hw' d0; have d1 := pw_cell_below hw' d1
    have r5 := hR 5 (by simp [lv8E])
    unfold R8 at r5
    rw [if_pos rfl] at r5
    obtain ⟨A5, c5, e5⟩ := r5
    have e5 : xx 5 = .slice A5 0 c5 := by simpa using e5
    rw [e5]
    clear e5
    clear hR
    unfold Yl
    go_wp2_with (fail)
    exact ⟨rfl, _, rfl, Below.refl _ _, R8.mk rfl (by decide) (by decide)⟩
  (try simp only [Act.put, List.setIfInBounds_toArray, List.set_cons_zero, List.set_cons_succ])
  refine relL_loud rfl (fun w' hw' hR => ?_) ?_
  · have c0 := pw_cell_below hw' c0; have c1 := pw_cell_below hw' c1; have d0 := pw_cell_below hw' d0; have d1 := pw_cell_below hw' d1
    have e6 : xx 6 = .int .i64 0 := R8.val (hR 6 (by simp [lv8E])) (by decide) (by decide)
    rw [e6]
    clear e6
    clear hR
    unfold Yl
    go_wp2_with (fail)
    exact ⟨rfl, _, rfl, Below.refl _ _, R8.mk rfl (by decide) (by decide)⟩
  (try simp only [Act.put, List.setIfInBounds_toArray, List.set_cons_zero, List.set_cons_succ])
  refine relL_loud rfl (fun w' hw' hR => ?_) ?_
  · have c0 := pw_cell_below hw' c0; have c1 := pw_cell_below hw' c1; have d0 := pw_cell_below hw' d0; have d1 := pw_cell_below hw' d1
    have e7 : xx 7 = .bool false := R8.val (hR 7 (by simp [lv8E])) (by decide) (by decide)
    rw [e7]
    clear e7
    clear hR
    unfold Yl
    go_wp2_with (fail)
    exact ⟨rfl, _, rfl, Below.refl _ _, R8.mk rfl (by decide) (by decide)⟩
  (try simp only [Act.put, List.setIfInBounds_toArray, List.set_cons_zero, List.set_cons_succ])
  refine relL_loud rfl (fun w' hw' hR => ?_) ?_
  · have c0 := pw_cell_below hw' c0; have c1 := pw_cell_below hw' c1; have d0 := pw_cell_below hw' d0; have d1 := pw_cell_below hw' d1
    have e8 : xx 8 = .bool false := R8.val (hR 8 (by simp [lv8E])) (by decide) (by decide)
    rw [e8]
    clear e8
    clear hR
    unfold Yl
    go_wp2_with (fail)
    exact ⟨rfl, _, rfl, Below.refl _ _, R8.mk rfl (by decide) (by decide)⟩
  (try simp only [Act.put, List.setIfInBounds_toArray, List.set_cons_zero, List.set_cons_succ])
  refine relL_loud rfl (fun w' hw' hR => ?_) ?_
  · have c0 := pw_cell_below hw' c0; have c1 := pw_cell_below hw' c1; have d0 := pw_cell_below hw' d0; have d1 := pw_cell_below hw' d1
    have e9 : xx 9 = .bool false := R8.val (hR 9 (by simp [lv8E])) (by decide) (by decide)
    rw [e9]
    clear e9
    clear hR
    unfold Yl
    go_wp2_with (fail)
    exact ⟨rfl, _, rfl, Below.refl _ _, R8.mk rfl (by decide) (by decide)⟩
  (try simp only [Act.put, List.setIfInBounds_toArray, List.set_cons_zero, List.set_cons_succ])
  refine relL_loud rfl (fun w' hw' hR => ?_) ?_
  · have c0 := pw_cell_below hw' c0; have c1 := pw_cell_below hw' c1; have d0 := pw_cell_below hw' d0; have d1 := pw_cell_below hw' d1
    have e9 : xx 9 = .bool false := R8.val (hR 9 (by simp [lv8E])) (by decide) (by decide)
    have e10 : xx 10 = .pointer (some ⟨gs, 1, none⟩) := R8.val (hR 10 (by simp [lv8E])) (by decide) (by decide)
    rw [e9, e10]
    clear e9 e10
    clear hR
    unfold Yl
    go_wp2_with (fail)
    exact ⟨rfl, _, rfl, Below.refl _ _, R8.mk rfl (by decide) (by decide)⟩
  (try simp only [Act.put, List.setIfInBounds_toArray, List.set_cons_zero, List.set_cons_succ])
  refine relL_loud rfl (fun w' hw' hR => ?_) ?_
  · have c0 := pw_cell_below hw' c0; have c1 := pw_cell_below hw' c1; have d0 := pw_cell_below hw' d0; have d1 := pw_cell_below hw' d1
    have e9 : xx 9 = .bool false := R8.val (hR 9 (by simp [lv8E])) (by decide) (by decide)
    have e11 : xx 11 = .slice As bs.length cs := R8.val (hR 11 (by simp [lv8E])) (by decide) (by decide)
    rw [e9, e11]
    clear e9 e11
    clear hR
    unfold Yl
    go_wp2_with (fail)
    exact ⟨rfl, _, rfl, Below.refl _ _, R8.mk rfl (by decide) (by decide)⟩
  (try simp only [Act.put, List.setIfInBounds_toArray, List.set_cons_zero, List.set_cons_succ])
  refine relL_loud rfl (fun w' hw' hR => ?_) ?_
  · have c0 := pw_cell_below hw' c0; have c1 := pw_cell_below hw' c1; have d0 := pw_cell_below hw' d0; have d1 := pw_cell_below hw' d1
    have e9 : xx 9 = .bool false := R8.val (hR 9 (by simp [lv8E])) (by decide) (by decide)
    rw [e9]
    clear e9
    clear hR
    unfold Yl
    go_wp2_with (fail)
    exact ⟨rfl, _, rfl, Below.refl _ _, R8.mk rfl (by decide) (by decide)⟩
  (try simp only [Act.put, List.setIfInBounds_toArray, List.set_cons_zero, List.set_cons_succ])
  refine relL_loud rfl (fun w' hw' hR => ?_) ?_
  · have c0 := pw_cell_below hw' c0; have c1 := pw_cell_below hw' c1; have d0 := pw_cell_below hw' d0; have d1 := pw_cell_below hw' d1
    have e9 : xx 9 = .bool false := R8.val (hR 9 (by simp [lv8E])) (by decide) (by decide)
    have e13 : xx 13 = .pointer (some ⟨w.heap.size, 1, none⟩) := R8.val (hR 13 (by simp [lv8E])) (by decide) (by decide)
    rw [e9, e13]
    clear e9 e13
    clear hR
    unfold Yl
    go_wp2_with (fail)
    exact ⟨rfl, _, rfl, Below.refl _ _, R8.mk rfl (by decide) (by decide)⟩
  (try simp only [Act.put, List.setIfInBounds_toArray, List.set_cons_zero, List.set_cons_succ])
  refine relL_loud rfl (fun w' hw' hR => ?_) ?_
  · have c0 := pw_cell_below hw' c0; have c1 := pw_cell_below hw' c1; have d0 := pw_cell_below hw' d0; have d1 := pw_cell_below hw' d1
    have e9 : xx 9 = .bool false := R8.val (hR 9 (by simp [lv8E])) (by decide) (by decide)
    have e14 : xx 14 = .slice A bs.length c := R8.val (hR 14 (by simp [lv8E])) (by decide) (by decide)
    rw [e9, e14]
    clear e9 e14
    clear hR
    unfold Yl
    go_wp2_with (fail)
    exact ⟨rfl, _, rfl, Below.refl _ _, R8.mk rfl (by decide) (by decide)⟩
  (try simp only [Act.put, List.setIfInBounds_toArray, List.set_cons_zero, List.set_cons_succ])
  refine relL_loud rfl (fun w' hw' hR => ?_) ?_
  · have c0 := pw_cell_below hw' c0; have c1 := pw_cell_below hw' c1; have d0 := pw_cell_below hw' d0; have d1 := pw_cell_below hw' d1
    have e9 : xx 9 = .bool false := R8.val (hR 9 (by simp [lv8E])) (by decide) (by decide)
    have e12 : xx 12 = .int .i64 (bs.length : Int) := R8.val (hR 12 (by simp [lv8E])) (by decide) (by decide)
    have e15 : xx 15 = .int .i64 (bs.length : Int) := R8.val (hR 15 (by simp [lv8E])) (by decide) (by decide)
    rw [e9, e12, e15]
    clear e9 e12 e15
    clear hR
    unfold Yl
    go_wp2_with (fail)
    exact ⟨rfl, _, rfl, Below.refl _ _, R8.mk rfl (by decide) (by decide)⟩
  (try simp only [Act.put, List.setIfInBounds_toArray, List.set_cons_zero, List.set_cons_succ])
  refine relL_loud rfl (fun w' hw' hR => ?_) ?_
  · have c0 := pw_cell_below hw' c0; have c1 := pw_cell_below hw' c1; have d0 := pw_cell_below hw' d0; have d1 := pw_cell_below hw' d1
    have e9 : xx 9 = .bool false := R8.val (hR 9 (by simp [lv8E])) (by decide) (by decide)
    have e16 : xx 16 = .bool false := R8.val (hR 16 (by simp [lv8E])) (by decide) (by decide)
    rw [e9, e16]
    clear e9 e16
    clear hR
    unfold Yl
    go_wp2_with (fail)
    exact ⟨rfl, _, rfl, Below.refl _ _, R8.mk rfl (by decide) (by decide)⟩
  (try simp only [Act.put, List.setIfInBounds_toArray, List.set_cons_zero, List.set_cons_succ])
  refine relL_loud rfl (fun w' hw' hR => ?_) ?_
  · have c0 := pw_cell_below hw' c0; have c1 := pw_cell_below hw' c1; have d0 := pw_cell_below hw' d0; have d1 := pw_cell_below hw' d1
    have e17 : xx 17 = .bool false := R8.val (hR 17 (by simp [lv8E])) (by decide) (by decide)
    rw [e17]
    clear e17
    clear hR
    unfold Yl
    go_wp2_with (fail)
    exact ⟨rfl, _, rfl, Below.refl _ _, R8.mk rfl (by decide) (by decide)⟩
  (try simp only [Act.put, List.setIfInBounds_toArray, List.set_cons_zero, List.set_cons_succ])
  refine relL_loud rfl (fun w' hw' hR => ?_) ?_
  · have c0 := pw_cell_below hw' c0; have c1 := pw_cell_below hw' c1; have d0 := pw_cell_below hw' d0; have d1 := pw_cell_below hw' d1
    have e18 : xx 18 = .bool false := R8.val (hR 18 (by simp [lv8E])) (by decide) (by decide)
    rw [e18]
    clear e18
    clear hR
    unfold Yl
    go_wp2_with (fail)
    exact ⟨rfl, _, rfl, Below.refl _ _, R8.mk rfl (by decide) (by decide)⟩
  (try simp only [Act.put, List.setIfInBounds_toArray, List.set_cons_zero, List.set_cons_succ])
  refine relL_loud rfl (fun w' hw' hR => ?_) ?_
  · have c0 := pw_cell_below hw' c0; have c1 := pw_cell_below hw' c1; have d0 := pw_cell_below hw' d0; have d1 := pw_cell_below hw' d1
    have e18 : xx 18 = .bool false := R8.val (hR 18 (by simp [lv8E])) (by decide) (by decide)
    have e19 : xx 19 = .agg #[.int .i64 p, .slice As bs.length cs] := R8.val (hR 19 (by simp [lv8E])) (by decide) (by decide)
    rw [e18, e19]
    clear e18 e19
    clear hR
    unfold Yl
    go_wp2_with (go_at_call 35; refine (sweep_n p As bs.length cs s _ HLS.out (Kd.C_below HS5.out hw') HRS.out HDS.out).mono ?_; rintro e w6 ⟨A6, c6, rfl, hC6, hb⟩)
    refine ⟨rfl, _, rfl, hb, ?_⟩
    unfold R8
    rw [if_neg (by decide), if_pos rfl]
    exact ⟨A6, c6, by simp, hC6⟩
  (try simp only [Act.put, List.setIfInBounds_toArray, List.set_cons_zero, List.set_cons_succ])
  refine relL_loud rfl (fun w' hw' hR => ?_) ?_
  · have c0 := pw_cell_below hw' c0; have c1 := pw_cell_below hw' c1; have d0 := pw_cell_below hw' d0; have d1 := pw_cell_below hw' d1
    have e18 : xx 18 = .bool false := R8.val (hR 18 (by simp [lv8E])) (by decide) (by decide)
    rw [e18]
    clear e18
    clear hR
    unfold Yl
    go_wp2_with (fail)
    exact ⟨rfl, _, rfl, Below.refl _ _, R8.mk rfl (by decide) (by decide)⟩
  (try simp only [Act.put, List.setIfInBounds_toArray, List.set_cons_zero, List.set_cons_succ])
  refine relL_loud rfl (fun w' hw' hR => ?_) ?_
  · have c0 := pw_cell_below hw' c0; have c1 := pw_cell_below hw' c1; have d0 := pw_cell_below hw' d0; have d1 := pw_cell_below hw' d1
    have e18 : xx 18 = .bool false := R8.val (hR 18 (by simp [lv8E])) (by decide) (by decide)
    have r20 := hR 20 (by simp [lv8E])
    unfold R8 at r20
    rw [if_neg (by decide), if_pos rfl] at r20
    obtain ⟨A2, c2, e20, hC2⟩ := r20
    have e20 : xx 20 = .agg #[.int .i64 p, .slice A2 bs.length c2] := by simpa using e20
    have e21 : xx 21 = .agg #[.int .i64 p, .slice As bs.length cs] := R8.val (hR 21 (by simp [lv8E])) (by decide) (by decide)
    rw [e18, e20, e21]
    clear e18 e20 e21
    clear hR
    unfold Yl
    go_wp2_with (go_at_call 37; refine (same_n p A2 As bs.length c2 cs s _ HLS.out hC2 (Kd.C_below HS5.out hw')).mono ?_; rintro e w6 ⟨rfl, hb⟩)
    exact ⟨rfl, _, rfl, hb, R8.mk rfl (by decide) (by decide)⟩
  (try simp only [Act.put, List.setIfInBounds_toArray, List.set_cons_zero, List.set_cons_succ])
  refine relL_loud rfl (fun w' hw' hR => ?_) ?_
  · have c0 := pw_cell_below hw' c0; have c1 := pw_cell_below hw' c1; have d0 := pw_cell_below hw' d0; have d1 := pw_cell_below hw' d1
    have e18 : xx 18 = .bool false := R8.val (hR 18 (by simp [lv8E])) (by decide) (by decide)
    have e22 : xx 22 = .bool true := R8.val (hR 22 (by simp [lv8E])) (by decide) (by decide)
    rw [e18, e22]
    clear e18 e22
    clear hR
    unfold Yl
    go_wp2_with (fail)
    exact ⟨rfl, _, rfl, Below.refl _ _, R8.mk rfl (by decide) (by decide)⟩
  (try simp only [Act.put, List.setIfInBounds_toArray, List.set_cons_zero, List.set_cons_succ])
  refine relL_loud rfl (fun w' hw' hR => ?_) ?_
  · have c0 := pw_cell_below hw' c0; have c1 := pw_cell_below hw' c1; have d0 := pw_cell_below hw' d0; have d1 := pw_cell_below hw' d1
    have e18 : xx 18 = .bool false := R8.val (hR 18 (by simp [lv8E])) (by decide) (by decide)
    have e23 : xx 23 = .bool false := R8.val (hR 23 (by simp [lv8E])) (by decide) (by decide)
    rw [e18, e23]
    clear e18 e23
    clear hR
    unfold Yl
    go_wp2_with (fail)
    exact ⟨rfl, _, rfl, Below.refl _ _, R8.mk rfl (by decide) (by decide)⟩
  (try simp only [Act.put, List.setIfInBounds_toArray, List.set_cons_zero, List.set_cons_succ])
  refine relL_loud rfl (fun w' hw' hR => ?_) ?_
  · have c0 := pw_cell_below hw' c0; have c1 := pw_cell_below hw' c1; have d0 := pw_cell_below hw' d0; have d1 := pw_cell_below hw' d1
    have e24 : xx 24 = .bool false := R8.val (hR 24 (by simp [lv8E])) (by decide) (by decide)
    rw [e24]
    clear e24
    clear hR
    unfold Yl
    go_wp2_with (fail)
    exact ⟨rfl, _, rfl, Below.refl _ _, R8.mk rfl (by decide) (by decide)⟩
  (try simp only [Act.put, List.setIfInBounds_toArray, List.set_cons_zero, List.set_cons_succ])
  refine relL_loud rfl (fun w' hw' hR => ?_) ?_
  · have c0 := pw_cell_below hw' c0; have c1 := pw_cell_below hw' c1; have d0 := pw_cell_below hw' d0; have d1 := pw_cell_below hw' d1
    have e25 : xx 25 = .bool false := R8.val (hR 25 (by simp [lv8E])) (by decide) (by decide)
    rw [e25]
    clear e25
    clear hR
    unfold Yl
    go_wp2_with (fail)
    exact ⟨rfl, _, rfl, Below.refl _ _, R8.mk rfl (by decide) (by decide)⟩
  (try simp only [Act.put, List.setIfInBounds_toArray, List.set_cons_zero, List.set_cons_succ])
  refine relL_loud rfl (fun w' hw' hR => ?_) ?_
  · have c0 := pw_cell_below hw' c0; have c1 := pw_cell_below hw' c1; have d0 := pw_cell_below hw' d0; have d1 := pw_cell_below hw' d1
    have e25 : xx 25 = .bool false := R8.val (hR 25 (by simp [lv8E])) (by decide) (by decide)
    have e26 : xx 26 = .agg #[.int .i64 p, .slice As bs.length cs] := R8.val (hR 26 (by simp [lv8E])) (by decide) (by decide)
    rw [e25, e26]
    clear e25 e26
    clear hR
    unfold Yl
    go_wp2_with (go_at_call 33; refine (most_n p As bs.length cs s _ HLS.out (Kd.C_below HS5.out hw') HRS.out HMS.out).mono ?_; rintro e w6 ⟨rfl, hb⟩)
    exact ⟨rfl, _, rfl, hb, R8.mk rfl (by decide) (by decide)⟩
  (try simp only [Act.put, List.setIfInBounds_toArray, List.set_cons_zero, List.set_cons_succ])
  refine relL_loud rfl (fun w' hw' hR => ?_) ?_
  · have c0 := pw_cell_below hw' c0; have c1 := pw_cell_below hw' c1; have d0 := pw_cell_below hw' d0; have d1 := pw_cell_below hw' d1
    have e25 : xx 25 = .bool false := R8.val (hR 25 (by simp [lv8E])) (by decide) (by decide)
    rw [e25]
    clear e25
    clear hR
    unfold Yl
    go_wp2_with (fail)
    exact ⟨rfl, _, rfl, Below.refl _ _, R8.mk rfl (by decide) (by decide)⟩
  (try simp only [Act.put, List.setIfInBounds_toArray, List.set_cons_zero, List.set_cons_succ])
  refine relL_loud rfl (fun w' hw' hR => ?_) ?_
  · have c0 := pw_cell_below hw' c0; have c1 := pw_cell_below hw' c1; have d0 := pw_cell_below hw' d0; have d1 := pw_cell_below hw' d1
    have e25 : xx 25 = .bool false := R8.val (hR 25 (by simp [lv8E])) (by decide) (by decide)
    have e28 : xx 28 = .agg #[.int .i64 p, .slice A bs.length c] := R8.val (hR 28 (by simp [lv8E])) (by decide) (by decide)
    rw [e25, e28]
    clear e25 e28
    clear hR
    unfold Yl
    go_wp2_with (go_at_call 33; refine (most_at p A c bs _ (Kd.C_below HC.out (below_then HB5.out HB5.out.size hw')) HR.out HM.out).mono ?_; rintro e w6 ⟨rfl, hb⟩)
    exact ⟨rfl, _, rfl, hb, R8.mk rfl (by decide) (by decide)⟩
  (try simp only [Act.put, List.setIfInBounds_toArray, List.set_cons_zero, List.set_cons_succ])
  refine relL_loud rfl (fun w' hw' hR => ?_) ?_
  · have c0 := pw_cell_below hw' c0; have c1 := pw_cell_below hw' c1; have d0 := pw_cell_below hw' d0; have d1 := pw_cell_below hw' d1
    have e25 : xx 25 = .bool false := R8.val (hR 25 (by simp [lv8E])) (by decide) (by decide)
    have e27 : xx 27 = .int .i64 (ms : Int) := R8.val (hR 27 (by simp [lv8E])) (by decide) (by decide)
    have e29 : xx 29 = .int .i64 (m : Int) := R8.val (hR 29 (by simp [lv8E])) (by decide) (by decide)
    rw [e25, e27, e29]
    clear e25 e27 e29
    clear hR
    unfold Yl
    go_wp2_with (fail)
    exact ⟨rfl, _, rfl, Below.refl _ _, R8.mk rfl (by decide) (by decide)⟩
  (try simp only [Act.put, List.setIfInBounds_toArray, List.set_cons_zero, List.set_cons_succ])
  refine relL_loud rfl (fun w' hw' hR => ?_) ?_
  · have c0 := pw_cell_below hw' c0; have c1 := pw_cell_below hw' c1; have d0 := pw_cell_below hw' d0; have d1 := pw_cell_below hw' d1
    have e25 : xx 25 = .bool false := R8.val (hR 25 (by simp [lv8E])) (by decide) (by decide)
    have e30 : xx 30 = .bool false := R8.val (hR 30 (by simp [lv8E])) (by decide) (by decide)
    rw [e25, e30]
    clear e25 e30
    clear hR
    unfold Yl
    go_wp2_with (fail)
    exact ⟨rfl, _, rfl, Below.refl _ _, R8.mk rfl (by decide) (by decide)⟩
  (try simp only [Act.put, List.setIfInBounds_toArray, List.set_cons_zero, List.set_cons_succ])
  refine relL_nil (fun w6 hw6 hRR => ?_)
  have e31 : xx 31 = .bool false := R8.val (hRR 31 (by decide) rfl) (by decide) (by decide)
  rw [e31]
  have HB6 := Aside0.mk (below_then HB5.out HB5.out.size hw6)
  have HF6 := Aside0.mk (blk_below HF5.out hw6)
  have HX6 := Aside0.mk (blk_below HX5.out hw6)
  have HS6 := Aside0.mk (Kd.C_below HS5.out hw6)
  clear c0 c1 d0 d1 hRR e31 hw6 b0 b0n hmm
  have c0 := blk_cell HF6.out 0
  have c1 := blk_cell HF6.out 1
  have d0 := blk_cell HX6.out 0
  have d1 := blk_cell HX6.out 1
  simp only [List.getElem?_toArray, List.getElem?_cons_zero, List.getElem?_cons_succ] at c0 c1 d0 d1
  go_wp2_with (first
    | (have := HI7; go_at_call 27; refine (in_n p As bs.length cs s _ HLS.out (Kd.C_below HS6.out HB7.out) HRS.out).mono ?_; rintro e w8 ⟨Ab, cb, rfl, hCb, hb⟩; have HJ8 := Aside0.mk hCb; have HI8 := Aside0.mk (Kd.C_below HI7.out hb); have HB8 := Aside0.mk (below_then HB7.out HB7.out.size hb); clear c0 c1 d0 d1 hCb hb)
    | (go_at_call 27; refine (in_n p A bs.length c bs _ rfl (Kd.C_below HC.out HB6.out) HR.out).mono ?_; rintro e w7 ⟨Aa, ca, rfl, hCa, hb⟩; have HI7 := Aside0.mk hCa; have HB7 := Aside0.mk hb; clear c0 c1 d0 d1; have c0 := blk_cell (blk_below HF6.out hb) 0; have c1 := blk_cell (blk_below HF6.out hb) 1; have d0 := blk_cell (blk_below HX6.out hb) 0; have d1 := blk_cell (blk_below HX6.out hb) 1; simp only [List.getElem?_toArray, List.getElem?_cons_zero, List.getElem?_cons_succ] at c0 c1 d0 d1; clear hCa hb))
  go_loopw [8] (fun i wr => ∃ i1 : Nat, i1 ≤ bs.length ∧ i = .int .i64 (i1 : Int) ∧ Aside0 (Below w8.heap.size w8 wr)) (fun i _ => bs.length - (intOf i).toNat)
  case atStart => exact ⟨0, Nat.zero_le _, rfl, ⟨Below.refl _ _⟩⟩
  case round =>
    obtain ⟨i, hi, rfl, HB⟩ := hrel
    have hb6 := below_then HB8.out HB8.out.size HB.out
    have c0 := blk_cell (blk_below HF6.out hb6) 0
    have c1 := blk_cell (blk_below HF6.out hb6) 1
    have d0 := blk_cell (blk_below HX6.out hb6) 0
    have d1 := blk_cell (blk_below HX6.out hb6) 1
    simp only [List.getElem?_toArray, List.getElem?_cons_zero, List.getElem?_cons_succ] at c0 c1 d0 d1
    by_cases hlt : i < bs.length
    · have b1 : decide ((i : Int) < (bs.length : Int)) = true := decide_eq_true (Int.ofNat_lt.2 hlt)
      have hw1 : wrap64 ((i : Int) + 1) = (i : Int) + 1 := inc63 hlt (Nat.le_trans hlen4 (by decide))
      obtain ⟨adf, A5, c5, eA, fh, t0, t1, t2, t3, l5, g5⟩ := at_T43 (Kd.C_below HC.out (below_then HB6.out HB6.out.size hb6)) (i : Int) (Int.natCast_nonneg i) (Int.ofNat_lt.2 hlt)
      obtain ⟨ads, A6, c6, eS, sh, u0, u1, u2, u3, l6, g6⟩ := at_T43 (Kd.C_below HS6.out hb6) (i : Int) (Int.natCast_nonneg i) (Int.ofNat_lt.2 hlt)
      simp only [Int.toNat_natCast] at fh t0 t1 t2 t3 sh u0 u1 u2 u3
      subst eA eS
      have HEM := Aside0.mk (HLV.out.emb i hlt)
      have hterm := HLV.out.term i hlt
      have HFL : Aside0 ((rd_T43 bs (i : Int)).f0.length ≤ 16384) := ⟨RP.out.opLen_le i⟩
      have HSL : Aside0 ((rd_T43 s (i : Int)).f0.length ≤ 16384) := ⟨RS.out.opLen_le i⟩
      have HX5 : Aside0 (∀ k : Nat, (rd_T45 (rd_T43 bs (i : Int)).f0 (k : Int)).f5.length ≤ 4096) := ⟨fun k => Nat.le_trans (RP.out.opA (i, k)).2 (by decide)⟩
      have HY5 : Aside0 (∀ k : Nat, (rd_T45 (rd_T43 s (i : Int)).f0 (k : Int)).f5.length ≤ 4096) := ⟨fun k => Nat.le_trans (RS.out.opA (i, k)).2 (by decide)⟩
      have HRW := Aside0.mk (HLV.out.row RP.out RS.out hlt)
      obtain ⟨adi, Ai, ki, eI, hi0, hi1, hi2⟩ := row_cell HI8.out hlt (rd_inL hlt)
      obtain ⟨adj, Aj, kj, eJ, hj0, hj1, hj2⟩ := row_cell HJ8.out hlt (rd_inL (by rw [HLS.out]; exact hlt))
      subst eI eJ
      have HI0 := Aside0.mk hi0
      have HI1 := Aside0.mk hi1
      have HI2 := Aside0.mk hi2
      have HJ0 := Aside0.mk hj0
      have HJ2 := Aside0.mk hj2
      have HIL := Aside0.mk (liveRow_le RP.out i 0)
      generalize liveRow bs i 0 = la at HI0 HI1 HI2 HIL HRW
      generalize liveRow s i 0 = lb at HJ0 HJ2 HRW
      generalize (rd_T43 bs (i : Int)).f0 = ys at fh l5 g5 HEM HFL HX5
      generalize (rd_T43 s (i : Int)).f0 = xs at sh l6 g6 HEM HSL HY5
      rw [hterm] at u0 u1 u2 u3
      generalize (rd_T43 bs (i : Int)).f1 = tm at t0 t1 t2 t3 u0 u1 u2 u3 hterm
      have HG5 := Aside0.mk g5
      have HG6 := Aside0.mk g6
      have HBi := HB
      clear hi0 hi1 hi2 hj0 hj1 hj2 l5 g5 l6 g6 hterm HB
      have Hc0 := Aside0.mk c0
      have Hc1 := Aside0.mk c1
      have Hd0 := Aside0.mk d0
      have Hd1 := Aside0.mk d1
      have Hfh := Aside0.mk fh
      have Hsh := Aside0.mk sh
      have Ht0 := Aside0.mk t0
      have Ht1 := Aside0.mk t1
      have Ht2 := Aside0.mk t2
      have Ht3 := Aside0.mk t3
      have Hu0 := Aside0.mk u0
      have Hu1 := Aside0.mk u1
      have Hu2 := Aside0.mk u2
      have Hu3 := Aside0.mk u3
      clear fh sh t0 t1 t2 t3 u0 u1 u2 u3 hb6
      go_wp2_with fail
      clear c0 c1 d0 d1
      obtain ⟨W, hW⟩ : ∃ W, wr = W := ⟨_, rfl⟩
      rw [hW] at HBi Hc0 Hc1 Hd0 Hd1 Hfh Hsh Ht0 Ht1 Ht2 Ht3 Hu0 Hu1 Hu2 Hu3 HG5 HG6 ⊢
      clear hW
      go_loopw [9, 10] (fun kv jv wr => ∃ kk j : Nat, j ≤ ys.length ∧ kk ≤ xs.length ∧ kv = .int .i64 (kk : Int) ∧ jv = .int .i64 (j : Int) ∧ Aside0 (GInv (xs.drop kk) (ys.drop j)) ∧ Aside0 (Below W.heap.size W wr)) (fun _ i _ => ys.length - (intOf i).toNat)
      case atStart => exact ⟨0, 0, Nat.zero_le _, Nat.zero_le _, rfl, rfl, ⟨GInv.start HEM.out⟩, ⟨Below.refl _ _⟩⟩
      case round =>
        obtain ⟨kk, j, hj, hk, rfl, rfl, HGI, HB⟩ := hrel
        have c0 := pw_cell_below HB.out Hc0.out
        have c1 := pw_cell_below HB.out Hc1.out
        have d0 := pw_cell_below HB.out Hd0.out
        have d1 := pw_cell_below HB.out Hd1.out
        have fh := pw_cell_below HB.out Hfh.out
        have sh := pw_cell_below HB.out Hsh.out
        by_cases hlj : j < ys.length
        · have b2 : decide ((j : Int) < (ys.length : Int)) = true := decide_eq_true (Int.ofNat_lt.2 hlj)
          have hw2 : wrap64 ((j : Int) + 1) = (j : Int) + 1 := inc63 hlj (Nat.le_trans HFL.out (by decide))
          obtain ⟨adk, A7, c7, eA, x0, x1, x2, x3, x4, x5, x6, x7⟩ := at_T45 (Kd.C_below HG5.out HB.out) (j : Int) (Int.natCast_nonneg j) (Int.ofNat_lt.2 hlj)
          simp only [Int.toNat_natCast] at x0 x1 x2 x3 x4 x5
          subst eA
          have HYJ : Aside0 (ys.drop j = rd_T45 ys (j : Int) :: ys.drop (j + 1)) := ⟨by rw [List.drop_eq_getElem_cons hlj, rd45' hlj]⟩
          rw [HYJ.out] at HGI
          have HXL := Aside0.mk (HX5.out j)
          generalize rd_T45 ys (j : Int) = X at x0 x1 x2 x3 x4 x5 x6 x7 HGI HXL
          clear HYJ
          have hbA := below_alloc (Below.refl wr.heap.size wr) (.cells #[.int .i64 X.f0, .int .i64 X.f1, .int .i64 X.f2, .int .i64 X.f3, .int .i64 X.f4, .slice A7 X.f5.length c7] 45)
          have HB3 := Aside0.mk (below_then HB.out HB.out.size hbA)
          have HZ := Aside0.mk (blk_new wr (.cells #[.int .i64 X.f0, .int .i64 X.f1, .int .i64 X.f2, .int .i64 X.f3, .int .i64 X.f4, .slice A7 X.f5.length c7] 45))
          have HX6 := Aside0.mk x6
          have HX7 := Aside0.mk (Kd.C_below x7 hbA)
          clear x6 x7
          by_cases hlk : kk < xs.length
          · have b3 : decide ((kk : Int) < (xs.length : Int)) = true := decide_eq_true (Int.ofNat_lt.2 hlk)
            have hw3 : wrap64 ((kk : Int) + 1) = (kk : Int) + 1 := inc63 hlk (Nat.le_trans HSL.out (by decide))
            obtain ⟨adq, A8, c8, eA, y0, y1, y2, y3, y4, y5, y6, y7⟩ := at_T45 (Kd.C_below HG6.out HB.out) (kk : Int) (Int.natCast_nonneg kk) (Int.ofNat_lt.2 hlk)
            simp only [Int.toNat_natCast] at y0 y1 y2 y3 y4 y5
            subst eA
            have HXK : Aside0 (xs.drop kk = rd_T45 xs (kk : Int) :: xs.drop (kk + 1)) := ⟨by rw [List.drop_eq_getElem_cons hlk, rd45' hlk]⟩
            rw [HXK.out] at HGI
            have HYL := Aside0.mk (HY5.out kk)
            generalize rd_T45 xs (kk : Int) = Y at y0 y1 y2 y3 y4 y5 y6 y7 HGI HYL HXK
            have HY6 := Aside0.mk y6
            have HY7 := Aside0.mk (Kd.C_below y7 hbA)
            clear y6 y7
            by_cases heq : Y = X
            · have HEQ : Aside0 (@decide (Y = X) (Classical.propDecidable _) = true) := ⟨@decide_eq_true _ (Classical.propDecidable _) heq⟩
              have HG2 : Aside0 (GInv (xs.drop (kk + 1)) (ys.drop (j + 1))) := ⟨by
                have := HGI.out
                rw [heq] at this
                exact this.take⟩
              clear heq HGI
              have c0 := pw_cell_below hbA c0
              have c1 := pw_cell_below hbA c1
              have d0 := pw_cell_below hbA d0
              have d1 := pw_cell_below hbA d1
              have sh := pw_cell_below hbA sh
              have y0 := pw_cell_below hbA y0
              have y1 := pw_cell_below hbA y1
              have y2 := pw_cell_below hbA y2
              have y3 := pw_cell_below hbA y3
              have y4 := pw_cell_below hbA y4
              have y5 := pw_cell_below hbA y5
              go_wp2_with fail
              obtain ⟨W9, hW9⟩ : ∃ W9, wr.alloc (.cells #[.int .i64 X.f0, .int .i64 X.f1, .int .i64 X.f2, .int .i64 X.f3, .int .i64 X.f4, .slice A7 X.f5.length c7] 45) = W9 := ⟨_, rfl⟩
              rw [hW9] at HB3 HX7 hbA HZ HY7 d0 d1 sh y0 y1 y2 y3 y4 y5 ⊢
              clear hW9 x0 x1 x2 x3 x4 x5
              generalize wr.heap.size = gz at HZ ⊢
              have z0 := blk_cell HZ.out 0
              have z1 := blk_cell HZ.out 1
              have z2 := blk_cell HZ.out 2
              have z3 := blk_cell HZ.out 3
              have z4 := blk_cell HZ.out 4
              have z5 := blk_cell HZ.out 5
              simp only [List.getElem?_toArray, List.getElem?_cons_zero, List.getElem?_cons_succ] at z0 z1 z2 z3 z4 z5
              refine wp_region_rel 22 (fun _ => none) (fun _ => []) (fun _ _ _ => True) (fun wq => Below W9.heap.size W9 wq) (fun a b => Below a.heap.size a b) (by kernel_rfl) (by kernel_rfl) (below_drew (Below.refl _ _)) (fun a b h k => below_then h h.size k) (fun _ _ _ _ h _ => h) ?_
              simp only [List.take_succ_cons, List.take_zero, List.drop_succ_cons, List.drop_zero]
              iterate 22 (apply relQ_step rfl; apply Exists.intro; constructor; (focus (intro wq hwq; have d0 := pw_cell_below hwq d0; have d1 := pw_cell_below hwq d1; have sh := pw_cell_below hwq sh; have y0 := pw_cell_below hwq y0; have y1 := pw_cell_below hwq y1; have y2 := pw_cell_below hwq y2; have y3 := pw_cell_below hwq y3; have y4 := pw_cell_below hwq y4; have y5 := pw_cell_below hwq y5; have z0 := pw_cell_below hwq z0; have z1 := pw_cell_below hwq z1; have z2 := pw_cell_below hwq z2; have z3 := pw_cell_below hwq z3; have z4 := pw_cell_below hwq z4; have z5 := pw_cell_below hwq z5; unfold Yl; go_wp2_with (go_at_call 38; refine (sameOp_any Y X A8 A7 c8 c7 _ HYL.out (Kd.C_below HY7.out hwq) HY6.out (Kd.C_below HX7.out hwq) HX6.out).mono ?_; rintro e w10 ⟨rfl, hbq⟩; rw [HEQ.out]); first | exact ⟨rfl, _, rfl, rfl, Below.refl _ _⟩ | exact ⟨rfl, _, rfl, rfl, hbq⟩)); (try simp only [Act.put, List.setIfInBounds_toArray, List.set_cons_zero, List.set_cons_succ]))
              refine relQ_nil (fun xx => ?_)
              repeat (refine relL_quiet rfl ?_)
              refine relL_nil (fun w13 hw13 _ => ?_)
              have HB13 := Aside0.mk hw13
              clear d0 d1 c0 c1 sh fh y0 y1 y2 y3 y4 y5 z0 z1 z2 z3 z4 z5 hw13
              go_wp2_with fail
              go_roundw
              case rel => exact ⟨kk + 1, j + 1, hlj, hlk, by first | (rw [hw3]; exact num_cast kk) | (with_reducible exact num_cast kk), by first | (rw [hw2]; exact num_cast j) | (with_reducible exact num_cast j), HG2, ⟨below_then HB3.out HB3.out.size HB13.out⟩⟩
              case measure => first | (rw [hw2]; exact num_meas hlj) | (with_reducible exact num_meas hlj)
            · have HEQ : Aside0 (@decide (Y = X) (Classical.propDecidable _) = false) := ⟨@decide_eq_false _ (Classical.propDecidable _) heq⟩
              have hps := HGI.out.pass (fun G' e => heq (by injection e))
              have HPU := Aside0.mk hps.1
              have HG2 : Aside0 (GInv (xs.drop kk) (ys.drop (j + 1))) := ⟨by rw [HXK.out]; exact hps.2⟩
              clear hps heq HGI
              have c0 := pw_cell_below hbA c0
              have c1 := pw_cell_below hbA c1
              have d0 := pw_cell_below hbA d0
              have d1 := pw_cell_below hbA d1
              have sh := pw_cell_below hbA sh
              have y0 := pw_cell_below hbA y0
              have y1 := pw_cell_below hbA y1
              have y2 := pw_cell_below hbA y2
              have y3 := pw_cell_below hbA y3
              have y4 := pw_cell_below hbA y4
              have y5 := pw_cell_below hbA y5
              go_wp2_with fail
              obtain ⟨W9, hW9⟩ : ∃ W9, wr.alloc (.cells #[.int .i64 X.f0, .int .i64 X.f1, .int .i64 X.f2, .int .i64 X.f3, .int .i64 X.f4, .slice A7 X.f5.length c7] 45) = W9 := ⟨_, rfl⟩
              rw [hW9] at HB3 HX7 hbA HZ HY7 d0 d1 sh y0 y1 y2 y3 y4 y5 ⊢
              clear hW9 x0 x1 x2 x3 x4 x5
              generalize wr.heap.size = gz at HZ ⊢
              have z0 := blk_cell HZ.out 0
              have z1 := blk_cell HZ.out 1
              have z2 := blk_cell HZ.out 2
              have z3 := blk_cell HZ.out 3
              have z4 := blk_cell HZ.out 4
              have z5 := blk_cell HZ.out 5
              simp only [List.getElem?_toArray, List.getElem?_cons_zero, List.getElem?_cons_succ] at z0 z1 z2 z3 z4 z5
              refine wp_region_rel 22 (fun _ => none) (fun _ => []) (fun _ _ _ => True) (fun wq => Below W9.heap.size W9 wq) (fun a b => Below a.heap.size a b) (by kernel_rfl) (by kernel_rfl) (below_drew (Below.refl _ _)) (fun a b h k => below_then h h.size k) (fun _ _ _ _ h _ => h) ?_
              simp only [List.take_succ_cons, List.take_zero, List.drop_succ_cons, List.drop_zero]
              iterate 22 (apply relQ_step rfl; apply Exists.intro; constructor; (focus (intro wq hwq; have d0 := pw_cell_below hwq d0; have d1 := pw_cell_below hwq d1; have sh := pw_cell_below hwq sh; have y0 := pw_cell_below hwq y0; have y1 := pw_cell_below hwq y1; have y2 := pw_cell_below hwq y2; have y3 := pw_cell_below hwq y3; have y4 := pw_cell_below hwq y4; have y5 := pw_cell_below hwq y5; have z0 := pw_cell_below hwq z0; have z1 := pw_cell_below hwq z1; have z2 := pw_cell_below hwq z2; have z3 := pw_cell_below hwq z3; have z4 := pw_cell_below hwq z4; have z5 := pw_cell_below hwq z5; unfold Yl; go_wp2_with (go_at_call 38; refine (sameOp_any Y X A8 A7 c8 c7 _ HYL.out (Kd.C_below HY7.out hwq) HY6.out (Kd.C_below HX7.out hwq) HX6.out).mono ?_; rintro e w10 ⟨rfl, hbq⟩; rw [HEQ.out]); first | exact ⟨rfl, _, rfl, rfl, Below.refl _ _⟩ | exact ⟨rfl, _, rfl, rfl, hbq⟩)); (try simp only [Act.put, List.setIfInBounds_toArray, List.set_cons_zero, List.set_cons_succ]))
              refine relQ_nil (fun xx => ?_)
              repeat (refine relL_quiet rfl ?_)
              refine relL_nil (fun w13 hw13 _ => ?_)
              have HB13 := Aside0.mk hw13
              clear d0 d1 c0 c1 sh fh y0 y1 y2 y3 y4 y5 z0 z1 z2 z3 z4 z5 hw13
              have HZ13 := Aside0.mk (blk_below HZ.out HB13.out)
              have z0 := blk_cell HZ13.out 0
              have z1 := blk_cell HZ13.out 1
              have z2 := blk_cell HZ13.out 2
              have z3 := blk_cell HZ13.out 3
              have z4 := blk_cell HZ13.out 4
              have z5 := blk_cell HZ13.out 5
              simp only [List.getElem?_toArray, List.getElem?_cons_zero, List.getElem?_cons_succ] at z0 z1 z2 z3 z4 z5
              go_wp2_with (go_at_call 39; refine (pure_any X A7 c7 _ (Kd.C_below HX7.out HB13.out) HX6.out).mono ?_; rintro e w9 ⟨rfl, hb⟩; rw [HPU.out]; have HB14 := Aside0.mk (below_then HB3.out HB3.out.size (below_then HB13.out HB13.out.size hb)); clear hb)
              go_roundw
              case rel => exact ⟨kk, j + 1, hlj, hk, rfl, by first | (rw [hw2]; exact num_cast j) | (with_reducible exact num_cast j), HG2, HB14⟩
              case measure => first | (rw [hw2]; exact num_meas hlj) | (with_reducible exact num_meas hlj)
          · have b3 : decide ((kk : Int) < (xs.length : Int)) = false := decide_eq_false (fun h => hlk (Int.ofNat_lt.1 h))
            have hnil : xs.drop kk = [] := List.drop_eq_nil_of_le (Nat.le_of_not_lt hlk)
            have hps := HGI.out.pass (fun G' e => by rw [hnil] at e; cases e)
            have HPU := Aside0.mk hps.1
            have HG2 := Aside0.mk hps.2
            clear hps hnil HGI
            have hb3 := hbA
            clear hb3
            have c0 := pw_cell_below hbA c0
            have c1 := pw_cell_below hbA c1
            have d0 := pw_cell_below hbA d0
            have d1 := pw_cell_below hbA d1
            have sh := pw_cell_below hbA sh
            go_wp2_with fail
            obtain ⟨W9, hW9⟩ : ∃ W9, wr.alloc (.cells #[.int .i64 X.f0, .int .i64 X.f1, .int .i64 X.f2, .int .i64 X.f3, .int .i64 X.f4, .slice A7 X.f5.length c7] 45) = W9 := ⟨_, rfl⟩
            rw [hW9] at HB3 HX7 hbA HZ d0 d1 sh ⊢
            clear hW9 x0 x1 x2 x3 x4 x5
            generalize wr.heap.size = gz at HZ ⊢
            have z0 := blk_cell HZ.out 0
            have z1 := blk_cell HZ.out 1
            have z2 := blk_cell HZ.out 2
            have z3 := blk_cell HZ.out 3
            have z4 := blk_cell HZ.out 4
            have z5 := blk_cell HZ.out 5
            simp only [List.getElem?_toArray, List.getElem?_cons_zero, List.getElem?_cons_succ] at z0 z1 z2 z3 z4 z5
            refine wp_region_rel 22 (fun _ => none) (fun _ => []) (fun _ _ _ => True) (fun wq => Below W9.heap.size W9 wq) (fun a b => Below a.heap.size a b) (by kernel_rfl) (by kernel_rfl) (below_drew (Below.refl _ _)) (fun a b h k => below_then h h.size k) (fun _ _ _ _ h _ => h) ?_
            simp only [List.take_succ_cons, List.take_zero, List.drop_succ_cons, List.drop_zero]
            iterate 22 (apply relQ_step rfl; apply Exists.intro; constructor; (focus (intro wq hwq; have d0 := pw_cell_below hwq d0; have d1 := pw_cell_below hwq d1; have sh := pw_cell_below hwq sh; have z0 := pw_cell_below hwq z0; have z1 := pw_cell_below hwq z1; have z2 := pw_cell_below hwq z2; have z3 := pw_cell_below hwq z3; have z4 := pw_cell_below hwq z4; have z5 := pw_cell_below hwq z5; unfold Yl; go_wp2_with fail; exact ⟨rfl, _, rfl, rfl, Below.refl _ _⟩)); (try simp only [Act.put, List.setIfInBounds_toArray, List.set_cons_zero, List.set_cons_succ]))
            refine relQ_nil (fun xx => ?_)
            repeat (refine relL_quiet rfl ?_)
            refine relL_nil (fun w13 hw13 _ => ?_)
            have HB13 := Aside0.mk hw13
            clear d0 d1 c0 c1 sh fh z0 z1 z2 z3 z4 z5 hw13
            have HZ13 := Aside0.mk (blk_below HZ.out HB13.out)
            have z0 := blk_cell HZ13.out 0
            have z1 := blk_cell HZ13.out 1
            have z2 := blk_cell HZ13.out 2
            have z3 := blk_cell HZ13.out 3
            have z4 := blk_cell HZ13.out 4
            have z5 := blk_cell HZ13.out 5
            simp only [List.getElem?_toArray, List.getElem?_cons_zero, List.getElem?_cons_succ] at z0 z1 z2 z3 z4 z5
            go_wp2_with (go_at_call 39; refine (pure_any X A7 c7 _ (Kd.C_below HX7.out HB13.out) HX6.out).mono ?_; rintro e w9 ⟨rfl, hb⟩; rw [HPU.out]; have HB14 := Aside0.mk (below_then HB3.out HB3.out.size (below_then HB13.out HB13.out.size hb)); clear hb)
            go_roundw
            case rel => exact ⟨kk, j + 1, hlj, hk, rfl, by first | (rw [hw2]; exact num_cast j) | (with_reducible exact num_cast j), HG2, HB14⟩
            case measure => first | (rw [hw2]; exact num_meas hlj) | (with_reducible exact num_meas hlj)
        · have b2 : decide ((j : Int) < (ys.length : Int)) = false := decide_eq_false (fun h => hlj (Int.ofNat_lt.1 h))
          have hG := HGI.out
          rw [List.drop_eq_nil_of_le (Nat.le_of_not_lt hlj)] at hG
          have hkk : kk = xs.length := by
            have h1 := hG.fin
            have h2 := congrArg List.length h1
            rw [List.length_drop, List.length_nil] at h2
            omega
          clear hG HGI
          subst hkk
          have t0 := pw_cell_below HB.out Ht0.out
          have t1 := pw_cell_below HB.out Ht1.out
          have t2 := pw_cell_below HB.out Ht2.out
          have t3 := pw_cell_below HB.out Ht3.out
          have u0 := pw_cell_below HB.out Hu0.out
          have u1 := pw_cell_below HB.out Hu1.out
          have u2 := pw_cell_below HB.out Hu2.out
          have u3 := pw_cell_below HB.out Hu3.out
          go_wp2_with fail
          refine wp_region_rel 24 (fun _ => none) (fun _ => []) (fun _ _ _ => True) (fun wq => Below wr.heap.size wr wq) (fun a b => Below a.heap.size a b) (by kernel_rfl) (by kernel_rfl) (below_drew (Below.refl _ _)) (fun a b h k => below_then h h.size k) (fun _ _ _ _ h _ => h) ?_
          simp only [List.take_succ_cons, List.take_zero, List.drop_succ_cons, List.drop_zero]
          iterate 24 (apply relQ_step rfl; apply Exists.intro; constructor; (focus (intro wq hwq; have c1 := pw_cell_below hwq c1; have d1 := pw_cell_below hwq d1; have sh := pw_cell_below hwq sh; have t0 := pw_cell_below hwq t0; have t1 := pw_cell_below hwq t1; have t2 := pw_cell_below hwq t2; have t3 := pw_cell_below hwq t3; have u0 := pw_cell_below hwq u0; have u1 := pw_cell_below hwq u1; have u2 := pw_cell_below hwq u2; have u3 := pw_cell_below hwq u3; unfold Yl; go_wp2_with fail; exact ⟨rfl, _, rfl, rfl, Below.refl _ _⟩)); (try simp only [Act.put, List.setIfInBounds_toArray, List.set_cons_zero, List.set_cons_succ]))
          refine relQ_nil (fun xx => ?_)
          repeat (refine relL_quiet rfl ?_)
          refine relL_nil (fun w13 hw13 _ => ?_)
          have HB13 := Aside0.mk (below_then HBi.out HBi.out.size (below_then HB.out HB.out.size hw13))
          clear c0 c1 d0 d1 fh sh t0 t1 t2 t3 u0 u1 u2 u3 hw13 HB
          go_wp2_with fail
          go_loopw [12] (fun jv wr => ∃ q : Nat, q ≤ lb.length ∧ jv = .int .i64 (q : Int) ∧ Aside0 (Below w8.heap.size w8 wr)) (fun i _ => lb.length - (intOf i).toNat)
          case atStart => exact ⟨0, Nat.zero_le _, rfl, HB13⟩
          case round =>
            clear HB13
            obtain ⟨q, hq, rfl, HB⟩ := hrel
            have i0 := pw_cell_below HB.out HI0.out
            have j0 := pw_cell_below HB.out HJ0.out
            by_cases hlq : q < lb.length
            · have b3 : decide ((q : Int) < (lb.length : Int)) = true := decide_eq_true (Int.ofNat_lt.2 hlq)
              have hw6 : wrap64 ((q : Int) + 1) = (q : Int) + 1 := inc63 hlq HJ2.out.2.1
              obtain ⟨adq, eQ, hcq⟩ := Kd.at_int (Kd.C_below HJ2.out HB.out) (q : Int) (Int.natCast_nonneg q) (Int.ofNat_lt.2 hlq)
              rw [Int.toNat_natCast] at hcq
              subst eQ
              have HMEM : Aside0 (decide (rd lb (q : Int) ∈ la) = true) := ⟨decide_eq_true (HRW.out _ (by rw [rd_mem hlq]; exact List.getElem_mem _))⟩
              generalize rd lb (q : Int) = r at hcq HMEM
              go_wp2_with fail
              refine wp_region_rel 13 (fun _ => none) (fun _ => []) (fun _ _ _ => True) (fun wq => Below wr.heap.size wr wq) (fun a b => Below a.heap.size a b) (by kernel_rfl) (by kernel_rfl) (below_drew (Below.refl _ _)) (fun a b h k => below_then h h.size k) (fun _ _ _ _ h _ => h) ?_
              simp only [List.take_succ_cons, List.take_zero, List.drop_succ_cons, List.drop_zero]
              iterate 13 (apply relQ_step rfl; apply Exists.intro; constructor; (focus (intro wq hwq; have i0 := pw_cell_below hwq i0; have j0 := pw_cell_below hwq j0; have hcq := pw_cell_below hwq hcq; unfold Yl; go_wp2_with (go_at_call 30; refine (has_any Ai ki la r _ (Kd.C_below HI2.out (below_then HB.out HB.out.size hwq)) HI1.out HIL.out).mono ?_; rintro e w9 ⟨rfl, hbq⟩; rw [HMEM.out]); first | exact ⟨rfl, _, rfl, rfl, Below.refl _ _⟩ | exact ⟨rfl, _, rfl, rfl, hbq⟩)); (try simp only [Act.put, List.setIfInBounds_toArray, List.set_cons_zero, List.set_cons_succ]))
              refine relQ_nil (fun xx => ?_)
              repeat (refine relL_quiet rfl ?_)
              refine relL_nil (fun w13 hw13 _ => ?_)
              have HB14 := Aside0.mk (below_then HB.out HB.out.size hw13)
              clear i0 j0 hcq hw13
              go_wp2_with fail
              go_roundw
              case rel => exact ⟨q + 1, hlq, by first | (rw [hw6]; exact num_cast q) | (with_reducible exact num_cast q), HB14⟩
              case measure => first | (rw [hw6]; exact num_meas hlq) | (with_reducible exact num_meas hlq)
            · have b3 : decide ((q : Int) < (lb.length : Int)) = false := decide_eq_false (fun h => hlq (Int.ofNat_lt.1 h))
              go_wp2_with fail
              go_roundw
              case rel => exact ⟨i + 1, hlt, by first | (rw [hw1]; exact num_cast i) | (with_reducible exact num_cast i), HB⟩
              case measure => first | (rw [hw1]; exact num_meas hlt) | (with_reducible exact num_meas hlt)
    · have b1 : decide ((i : Int) < (bs.length : Int)) = false := decide_eq_false (fun h => hlt (Int.ofNat_lt.1 h))
      go_wp2_with fail
      go_ret
      exact ⟨rfl, below_then HB6.out HB6.out.size (below_then HB8.out HB8.out.size HB.out)⟩
theorem liveLeaves_true (p : Int) (A : Option Addr) (c : Nat) (bs : List S43) (w : World) (hC : Kd.C k43 w A bs.length bs) (hc : bs.length ≤ c) (hr : Room bs) :
    Calls Try.prog 8 #[.agg #[.int .i64 p, .slice A bs.length c]] w fun e w' => e = .returned (.bool true) ∧ Below w.heap.size w w' := by
  obtain ⟨k, b, hf⟩ := few17_total p bs hr
  have hf := hf k (Nat.le_refl _)
  cases b with
  | false => exact leaves_few p A c bs w k hC hc hf
  | true =>
    cases hR : rightF p bs 256 with
    | false => exact leaves_bad p A c bs w k hC hc hf hR
    | true => exact leaves_ok p A c bs w k hC hc hf hR
end Go.Proofs.Ytnkgbnbbmcoiiaa.S
