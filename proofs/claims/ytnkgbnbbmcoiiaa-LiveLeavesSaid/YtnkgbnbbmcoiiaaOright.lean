import Derived.Test.YtnkgbnbbmcoiiaaOops
import Derived.Test.YtnkgbnbbmcoiiaaLimm
import Derived.Test.YtnkgbnbbmcoiiaaOrop
import Derived.Test.YtnkgbnbbmcoiiaaLv2
namespace Go.Proofs.Ytnkgbnbbmcoiiaa.S
open Go.RowKit Go.Shelf Go.IM Go.Proofs.YtnkgbnbbmcoiiaaW.PrintWords Go.Proofs.YtnkgbnbbmcoiiaaW.PrintLast Go.Proofs.YtnkgbnbbmcoiiaaW.PrintMore
set_option linter.unusedVariables false
attribute [local go_sem] Oper.semAt_some
/-- May an operation's Imm be so? -/
def imB (x : S45) (fn : Int) : Bool := if x.f0 = 2 then wi x.f4 1 14 else immB x.f0 x.f4 fn (shp x.f0).2.2.2.1
/-- Is an operation right? -/
def ropX (x : S45) (fn : Int) : Bool := ropB x.f0 x.f1 x.f2 x.f3 x.f4 x.f5 (imB x fn)
theorem known_eq (i : Int) : word_Known.f i = some (wi i 1 14) := by
  unfold word_Known.f wi
  by_cases h : i ≥ 1
  · rw [if_pos h]
    by_cases h2 : i ≤ 14 <;> simp [h2] <;> omega
  · rw [if_neg h]
    simp
    omega
theorem rightOpX_any (x : S45) (fn : Int) (A : Option Addr) (c : Nat) (w : World) (hC : Kd.C (Kd.int .i64) w A x.f5.length x.f5) (hc : x.f5.length ≤ c) :
    Calls Try.prog 50 #[.agg #[.int .i64 x.f0, .int .i64 x.f1, .int .i64 x.f2, .int .i64 x.f3, .int .i64 x.f4, .slice A x.f5.length c], .int .i64 fn] w fun e w' => e = .returned (.bool (ropX x fn)) ∧ Below w.heap.size w w' :=
  rightOp_any 1 x.f0 x.f1 x.f2 x.f3 x.f4 fn A c x.f5 (imB x fn) w hC hc (by
    rw [immediate_eq]
    unfold imB
    split
    · rw [known_eq]
    · rfl)
/-- Are a function's Terms right? -/
def termsR (bs : List S43) : Bool := bs.all fun x => rtT x.f1.f0 x.f1.f1 x.f1.f2 x.f1.f3 (bs.length : Int)
/-- Is a function right? -/
def rightF (p : Int) (bs : List S43) (fn : Int) : Bool :=
  wi (bs.length : Int) 1 4096 && (wi p 0 8 && (termsR bs && (decide ((plcs bs bs.length).length ≤ 16384) && (plcs bs bs.length).all fun q => ropX (opOf bs q) fn)))
/-- Right's three boxes. -/
def rW (w : World) (p : Int) (A : Option Addr) (n c : Nat) (fn : Int) : World := ((w.alloc (.cells #[.int .i64 p, .slice A n c] 34)).alloc (.cells #[.int .i64 fn] 3)).alloc (.cells #[.bool false] 4)
theorem rW_box (w : World) (p : Int) (A : Option Addr) (n c : Nat) (fn : Int) : Boxed (rW w p A n c fn) (w.heap.size + 1 + 1) 4 (.bool false) := by
  have := Boxed.new ((w.alloc (.cells #[.int .i64 p, .slice A n c] 34)).alloc (.cells #[.int .i64 fn] 3)) 4 (.bool false)
  rwa [World.size_alloc, World.size_alloc] at this
theorem rW_fn (w : World) (p : Int) (A : Option Addr) (n c : Nat) (fn : Int) : Boxed (rW w p A n c fn) (w.heap.size + 1) 3 (.int .i64 fn) := by
  have := Boxed.new (w.alloc (.cells #[.int .i64 p, .slice A n c] 34)) 3 (.int .i64 fn)
  rw [World.size_alloc] at this
  exact this.alloc _
theorem rW_f (w : World) (p : Int) (A : Option Addr) (n c : Nat) (fn : Int) : (rW w p A n c fn).heap[w.heap.size]? = some (.cells #[.int .i64 p, .slice A n c] 34 (0, 0)) :=
  blk_alloc (blk_alloc (blk_new w (.cells #[.int .i64 p, .slice A n c] 34)) _) _
theorem rW_below (w : World) (p : Int) (A : Option Addr) (n c : Nat) (fn : Int) : Below w.heap.size w (rW w p A n c fn) := below_alloc (below_alloc (below_alloc (Below.refl _ _) _) _) _
set_option maxHeartbeats 4000000 in
set_option maxRecDepth 100000 in
theorem right_few (p : Int) (A : Option Addr) (c : Nat) (bs : List S43) (fn : Int) (w : World) (h : wi (bs.length : Int) 1 4096 = false) :
    Calls Try.prog 18 #[.agg #[.int .i64 p, .slice A bs.length c], .int .i64 fn] w fun e w' => e = .returned (.bool false) ∧ Below w.heap.size w w' := by
  have hu34 := Try.underlying34
  have H := Aside0.mk h
  clear h
  go_enter Try.func18, Try.ntmps18
  go_wp2_with (go_at_call 45; refine (within_any _ _ _ _).mono ?_; rintro e w1 ⟨rfl, hb⟩; rw [H.out]; have HB1 := Aside0.mk (below_then (rW_below w p A bs.length c fn) (rW_below w p A bs.length c fn).size hb); have HX := Aside0.mk (blk_below (rW_box w p A bs.length c fn) hb); have c4 := Boxed.cell HX.out; have f4 := Boxed.frozen HX.out; clear hb)
  have e4 := (Boxed.set (.bool false) HX.out).cell
  refine bodyPost_ret (v := .bool false) (by simp [results, Try.results18, go_sem, e4]) rfl ⟨rfl, ?_⟩
  exact HB1.out.setCell (p := ⟨_, 0, none⟩) (by show w.heap.size ≤ w.heap.size + 1 + 1; omega) _
set_option maxHeartbeats 4000000 in
set_option maxRecDepth 100000 in
theorem right_par (p : Int) (A : Option Addr) (c : Nat) (bs : List S43) (fn : Int) (w : World) (h : wi (bs.length : Int) 1 4096 = true) (h' : wi p 0 8 = false) :
    Calls Try.prog 18 #[.agg #[.int .i64 p, .slice A bs.length c], .int .i64 fn] w fun e w' => e = .returned (.bool false) ∧ Below w.heap.size w w' := by
  have hu34 := Try.underlying34
  have H := Aside0.mk h
  have H' := Aside0.mk h'
  clear h h'
  go_enter Try.func18, Try.ntmps18
  go_wp2_with (first
    | (have hz := HB1; clear hz; go_at_call 45; refine (within_any _ _ _ _).mono ?_; rintro e w2 ⟨rfl, hb⟩; rw [H'.out]; have HB2 := Aside0.mk (below_then HB1.out HB1.out.size hb); have HX2 := Aside0.mk (blk_below HX.out hb); have c4 := Boxed.cell HX2.out; have f4 := Boxed.frozen HX2.out; clear hb)
    | (go_at_call 45; refine (within_any _ _ _ _).mono ?_; rintro e w1 ⟨rfl, hb⟩; rw [H.out]; have HB1 := Aside0.mk (below_then (rW_below w p A bs.length c fn) (rW_below w p A bs.length c fn).size hb); have HX := Aside0.mk (blk_below (rW_box w p A bs.length c fn) hb); have HF := Aside0.mk (blk_below (rW_f w p A bs.length c fn) hb); have c0 := blk_cell HF.out 0; have c1 := blk_cell HF.out 1; simp only [List.getElem?_toArray, List.getElem?_cons_zero, List.getElem?_cons_succ] at c0 c1; clear hb))
  have e4 := (Boxed.set (.bool false) HX2.out).cell
  refine bodyPost_ret (v := .bool false) (by simp [results, Try.results18, go_sem, e4]) rfl ⟨rfl, ?_⟩
  exact HB2.out.setCell (p := ⟨_, 0, none⟩) (by show w.heap.size ≤ w.heap.size + 1 + 1; omega) _
set_option maxHeartbeats 4000000 in
set_option maxRecDepth 100000 in
theorem right_term (p : Int) (A : Option Addr) (c : Nat) (bs : List S43) (fn : Int) (w : World) (hC : Kd.C k43 w A bs.length bs) (h : wi (bs.length : Int) 1 4096 = true) (h' : wi p 0 8 = true) (ht : termsR bs = false) :
    Calls Try.prog 18 #[.agg #[.int .i64 p, .slice A bs.length c], .int .i64 fn] w fun e w' => e = .returned (.bool false) ∧ Below w.heap.size w w' := by
  have hu34 := Try.underlying34
  have H := Aside0.mk h
  have H' := Aside0.mk h'
  have HT := Aside0.mk ht
  have HC := Aside0.mk hC
  clear h h' ht hC
  go_enter Try.func18, Try.ntmps18
  go_wp2_with (first
    | (go_at_call 46; refine (containsB_any A c bs ⟨w.heap.size, 0, none⟩ A bs.length c _ (Kd.C_below HC.out HB2.out) (blk_cell HF2.out 1)).mono ?_; rintro e w3 ⟨rfl, hb⟩; rw [show (bs.all fun x => rtT x.f1.f0 x.f1.f1 x.f1.f2 x.f1.f3 ((bs.length : Nat) : Int)) = false from HT.out]; have HB3 := Aside0.mk (below_then HB2.out HB2.out.size hb); have HX3 := Aside0.mk (blk_below HX2.out hb); have c4 := Boxed.cell HX3.out; have f4 := Boxed.frozen HX3.out; clear hb)
    | (have hz := HB1; clear hz; go_at_call 45; refine (within_any _ _ _ _).mono ?_; rintro e w2 ⟨rfl, hb⟩; rw [H'.out]; have HB2 := Aside0.mk (below_then HB1.out HB1.out.size hb); have HX2 := Aside0.mk (blk_below HX.out hb); have HF2 := Aside0.mk (blk_below HF.out hb); clear c0 c1; have c0 := blk_cell HF2.out 0; have c1 := blk_cell HF2.out 1; simp only [List.getElem?_toArray, List.getElem?_cons_zero, List.getElem?_cons_succ] at c0 c1; clear hb)
    | (go_at_call 45; refine (within_any _ _ _ _).mono ?_; rintro e w1 ⟨rfl, hb⟩; rw [H.out]; have HB1 := Aside0.mk (below_then (rW_below w p A bs.length c fn) (rW_below w p A bs.length c fn).size hb); have HX := Aside0.mk (blk_below (rW_box w p A bs.length c fn) hb); have HF := Aside0.mk (blk_below (rW_f w p A bs.length c fn) hb); have c0 := blk_cell HF.out 0; have c1 := blk_cell HF.out 1; simp only [List.getElem?_toArray, List.getElem?_cons_zero, List.getElem?_cons_succ] at c0 c1; clear hb))
  have e4 := (Boxed.set (.bool false) HX3.out).cell
  refine bodyPost_ret (v := .bool false) (by simp [results, Try.results18, go_sem, e4]) rfl ⟨rfl, ?_⟩
  exact HB3.out.setCell (p := ⟨_, 0, none⟩) (by show w.heap.size ≤ w.heap.size + 1 + 1; omega) _
theorem opOf_far {bs : List S43} {q : Nat × Nat} (h : ¬ (q.1 < bs.length ∧ q.2 < opLen bs q.1)) : opOf bs q = z45 := by
  unfold opOf
  by_cases h1 : q.1 < bs.length
  · have h2 : ¬ q.2 < (rd_T43 bs (q.1 : Int)).f0.length := fun h2 => h ⟨h1, h2⟩
    unfold rd_T45
    rw [List.getD_eq_getElem?_getD, Int.toNat_natCast, List.getElem?_eq_none (by omega)]
    rfl
  · have : rd_T43 bs (q.1 : Int) = z43 := by
      unfold rd_T43
      rw [List.getD_eq_getElem?_getD, Int.toNat_natCast, List.getElem?_eq_none (by omega)]
      rfl
    rw [this]
    simp [rd_T45, z43]
/-- Whatever place: what goes out there reads as an operation. -/
theorem op_row {w : World} {bs : List S43} {bg : Nat → Option Addr × Nat} {oo : Nat → Nat → Option Addr × Nat} (ho : ∀ i, i < bs.length → OpsAt w (bg i).1 (rd_T43 bs (i : Int)).f0 (oo i)) (q : Nat × Nat) :
    (opOf bs q).f5.length ≤ (oo q.1 q.2).2 ∧ Kd.C (Kd.int .i64) w (oo q.1 q.2).1 (opOf bs q).f5.length (opOf bs q).f5 := by
  by_cases h : q.1 < bs.length ∧ q.2 < opLen bs q.1
  · have := ho q.1 h.1 q.2 h.2
    exact ⟨this.cap, this.row⟩
  · rw [opOf_far h]
    exact ⟨Nat.zero_le _, rfl, by simp [z45], fun h => absurd h (by simp [z45])⟩
set_option maxHeartbeats 8000000 in
set_option maxRecDepth 100000 in
theorem right_in (p : Int) (A : Option Addr) (c : Nat) (bs : List S43) (fn : Int) (w : World) (hC : Kd.C k43 w A bs.length bs) (h : wi (bs.length : Int) 1 4096 = true) (h' : wi p 0 8 = true) (ht : termsR bs = true) :
    CallsIn Fence.wide 5 Try.prog 18 #[.agg #[.int .i64 p, .slice A bs.length c], .int .i64 fn] w fun e w' => e = .returned (.bool (decide ((plcs bs bs.length).length ≤ 16384) && (plcs bs bs.length).all fun q => ropX (opOf bs q) fn)) ∧ Below w.heap.size w w' := by
  have hu34 := Try.underlying34
  have hlen : bs.length ≤ 1000000000000 := by
    simp only [wi, decide_eq_true_eq] at h
    omega
  have H := Aside0.mk h
  have H' := Aside0.mk h'
  have HT := Aside0.mk ht
  have HC := Aside0.mk hC
  have HLN := Aside0.mk hlen
  clear h h' ht hC hlen
  refine callsIn_of_wp_marks Try.func18 rfl trivial ?_ rfl
  simp only [Try.ntmps18, List.size_toArray, List.length_cons, List.length_nil, Nat.reduceAdd, Nat.reduceSub, Array.replicate_succ, Array.replicate_zero, List.push_toArray, List.append_toArray, List.nil_append, List.cons_append]
  gi_wp2_with (refine ⟨trivial, ?_⟩; first
    | (gi_at_call 49; refine (ops_in _ _ _ _ _ _).mono ?_; rintro e w4 ⟨rfl, rfl⟩)
    | (gi_at_call 46; refine (callsIn_wide.2 (containsB_any A c bs ⟨w.heap.size, 0, none⟩ A bs.length c _ (Kd.C_below HC.out HB2.out) (blk_cell HF2.out 1))).mono ?_; rintro e w3 ⟨rfl, hb⟩; rw [show (bs.all fun x => rtT x.f1.f0 x.f1.f1 x.f1.f2 x.f1.f3 ((bs.length : Nat) : Int)) = true from HT.out]; have HB3 := Aside0.mk (below_then HB2.out HB2.out.size hb); have HX3 := Aside0.mk (blk_below HX2.out hb); have HF3 := Aside0.mk (blk_below HF2.out hb); have HN3 := Aside0.mk (blk_below HN2.out hb); clear c0 c1; have HF4 := Aside0.mk (blk_alloc HF3.out (.cells #[.int .i64 0] 3)); have c0 := blk_cell HF4.out 0; have c1 := blk_cell HF4.out 1; simp only [List.getElem?_toArray, List.getElem?_cons_zero, List.getElem?_cons_succ] at c0 c1; clear hb)
    | (have hz := HB1; clear hz; gi_at_call 45; refine (callsIn_wide.2 (within_any _ _ _ _)).mono ?_; rintro e w2 ⟨rfl, hb⟩; rw [H'.out]; have HB2 := Aside0.mk (below_then HB1.out HB1.out.size hb); have HX2 := Aside0.mk (blk_below HX.out hb); have HN2 := Aside0.mk (blk_below HN.out hb); have HF2 := Aside0.mk (blk_below HF.out hb); clear c0 c1; have c0 := blk_cell HF2.out 0; have c1 := blk_cell HF2.out 1; simp only [List.getElem?_toArray, List.getElem?_cons_zero, List.getElem?_cons_succ] at c0 c1; clear hb)
    | (gi_at_call 45; refine (callsIn_wide.2 (within_any _ _ _ _)).mono ?_; rintro e w1 ⟨rfl, hb⟩; rw [H.out]; have HB1 := Aside0.mk (below_then (rW_below w p A bs.length c fn) (rW_below w p A bs.length c fn).size hb); have HX := Aside0.mk (blk_below (rW_box w p A bs.length c fn) hb); have HN := Aside0.mk (blk_below (rW_fn w p A bs.length c fn) hb); have HF := Aside0.mk (blk_below (rW_f w p A bs.length c fn) hb); have c0 := blk_cell HF.out 0; have c1 := blk_cell HF.out 1; simp only [List.getElem?_toArray, List.getElem?_cons_zero, List.getElem?_cons_succ] at c0 c1; clear hb))
  clear c0 c1
  obtain ⟨S, hS⟩ : ∃ S, w.heap.size = S := ⟨_, rfl⟩
  obtain ⟨M, hM⟩ : ∃ M, w3.heap.size = M := ⟨_, rfl⟩
  obtain ⟨w5, hw5⟩ : ∃ w5, (w3.alloc (.cells #[.int .i64 0] 3)).alloc (.cells #[.int .i64 p, .slice A bs.length c] 34) = w5 := ⟨_, rfl⟩
  have hSM : S + 3 ≤ M := by have := blk_lt HX3.out; omega
  have bR3 : Boxed w3 (S + 2) 4 (.bool false) := by rw [← hS]; exact HX3.out
  have bN3 : Boxed w3 (S + 1) 3 (.int .i64 fn) := by rw [← hS]; exact HN3.out
  have hz5 : w5.heap.size = M + 2 := by rw [← hw5, ← hM]; simp [World.size_alloc]
  have bR5 : Boxed w5 (S + 2) 4 (.bool false) := by rw [← hw5]; exact (bR3.alloc _).alloc _
  have bN5 : Boxed w5 (S + 1) 3 (.int .i64 fn) := by rw [← hw5]; exact (bN3.alloc _).alloc _
  have bC5 : Boxed w5 M 3 (.int .i64 0) := by
    rw [← hw5]
    have := Boxed.new w3 3 (.int .i64 0)
    rw [hM] at this
    exact this.alloc _
  have bF5 : w5.heap[M + 1]? = some (.cells #[.int .i64 p, .slice A bs.length c] 34 (0, 0)) := by
    rw [← hw5]
    have := blk_new (w3.alloc (.cells #[.int .i64 0] 3)) (.cells #[.int .i64 p, .slice A bs.length c] 34)
    rw [World.size_alloc, hM] at this
    exact this
  have hB5 : Below S w w5 := by rw [← hw5, ← hS]; exact below_alloc (below_alloc HB3.out _) _
  obtain ⟨bg, hbg⟩ := blks_at HC.out
  obtain ⟨oo, hoo⟩ : ∃ oo : Nat → Nat → Option Addr × Nat, ∀ i, i < bs.length → OpsAt w (bg i).1 (rd_T43 bs (i : Int)).f0 (oo i) := choice_ bs.length (fun i (og : Nat → Option Addr × Nat) => OpsAt w (bg i).1 (rd_T43 bs (i : Int)).f0 og) (fun i hi => ops_at (hbg i hi).row)
  have HBG := Aside0.mk hbg
  have HOO := Aside0.mk hoo
  have hst := ops_stops 4 (by decide) (M + 1) A c bs bg oo HLN.out (KE S (M + 1)) (fun h k => h.trans k) (fun h => KE.of_below h) w5 (fun W wr hW hk => by
    have hkc : KC w wr := KE.kc (below_then (show Below w.heap.size w w5 by rw [hS]; exact hB5) (show w.heap.size ≤ w5.heap.size by have := hB5.size; omega) hW) (by omega) hk
    refine ⟨?_, HBG.out.kc hkc, fun i hi => (HOO.out i hi).kc hkc⟩
    have h1 := hk.cells (M + 1) _ (by omega) ((hW.block (M + 1) (blk_lt bF5)).trans bF5) rfl
    have h2 := blk_cell h1 1
    simpa only [List.getElem?_toArray, List.getElem?_cons_zero, List.getElem?_cons_succ] using h2)
  simp only [hS, hM, Nat.add_assoc, Nat.reduceAdd]
  rw [hw5]
  clear hw5 HX3 HN3 HF4 HF3 HB3 bR3 bN3 hbg hoo HX2 HN2 HF2 HB2 HX HN HF HB1 HT HC H H'
  refine wpIn_rangeFunc_ownGA rfl (by decide) (gf := 77) (lb := #[.pointer (some ⟨M + 1, 0, none⟩)]) rfl trivial (enters_of Try.func77 (by kernel_rfl) rfl)
    hst (fun h k => h.trans k) (fun W b o o' hb ho hnc _ => KE.putObj W b o' ho hnc) (Below.refl _ _) (fun _ => rfl)
    (fun pre W => (pre.length ≤ 16384 ∧ ∀ q ∈ pre, ropX (opOf bs q) fn = true) ∧ Boxed W (S + 1) 3 (.int .i64 fn) ∧ Boxed W (S + 2) 4 (.bool false) ∧ Boxed W M 3 (.int .i64 (pre.length : Int)) ∧ Below S w W)
    (fun cd pre W => (cd = .ret ∧ (16384 < pre.length ∨ ∃ q ∈ pre, ropX (opOf bs q) fn = false)) ∧ Boxed W (S + 2) 4 (.bool false) ∧ Below S w W)
    ?hI ?hIx ⟨⟨by simp, by simp⟩, bN5, bR5, bC5, hB5⟩
    (fun x b => { tmps := #[.agg #[.int .i64 p, .slice A bs.length c], .int .i64 fn, .pointer (some ⟨S, 0, none⟩), .pointer (some ⟨S + 1, 0, none⟩), .pointer (some ⟨S + 2, 0, none⟩), .pointer (some ⟨M, 0, none⟩), .pointer (some ⟨b, 0, none⟩),
          .pointer (some ⟨S, 1, none⟩), .slice A bs.length c, .int .i64 bs.length, .bool true, .bool false, .bool false, .pointer (some ⟨S, 0, none⟩), .int .i64 p, .bool true, .bool false, .bool false, .pointer (some ⟨S, 1, none⟩), .slice A bs.length c,
          .func (.func 47) #[] #[.pointer (some ⟨S, 0, none⟩)], .bool false, .agg #[.int .i64 p, .slice A bs.length c], .func (.func 77) #[] #[.pointer (some ⟨M + 1, 0, none⟩)], opV (opOf bs x) (oo x.1 x.2), undef, undef, undef, undef, undef, undef, undef, undef, undef, undef], defers := [] })
    (fun x => .cells #[.int .i64 (opOf bs x).f0, .int .i64 (opOf bs x).f1, .int .i64 (opOf bs x).f2, .int .i64 (opOf bs x).f3, .int .i64 (opOf bs x).f4, .slice (oo x.1 x.2).1 (opOf bs x).f5.length (oo x.1 x.2).2] 45)
    (fun W o => KE.of_below (below_alloc (Below.refl _ _) _)) ?assign ?body ?done ?stop
  case hI =>
    exact OwnFrom.and (ownFrom_pure _ _) (OwnFrom.and (Own.from (boxed_own (S + 1) 3 fun _ => .int .i64 fn) _) (OwnFrom.and (Own.from (boxed_own (S + 2) 4 fun _ => .bool false) _) (OwnFrom.and (Own.from (boxed_own M 3 fun pre : List (Nat × Nat) => .int .i64 (pre.length : Int)) _) (ownFrom_below (by omega) (by omega)))))
  case hIx =>
    intro cd
    exact OwnFrom.and (ownFrom_pure _ _) (OwnFrom.and (Own.from (boxed_own (S + 2) 4 fun _ => .bool false) _) (ownFrom_below (by omega) (by omega)))
  case assign =>
    intro lr x W KK hKK
    unfold opsV opV
    unfold opV at hKK
    generalize opOf bs x = y at hKK
    generalize oo x.1 x.2 = g at hKK
    gi_wp2
    exact hKK
  case body =>
    rintro lr pre x W b ⟨⟨hn, hall⟩, hN, hR, hM', hB⟩ hlt hbM hbx
    have c0 := blk_cell hbx 0
    have c1 := blk_cell hbx 1
    have c2 := blk_cell hbx 2
    have c3 := blk_cell hbx 3
    have c4 := blk_cell hbx 4
    have c5 := blk_cell hbx 5
    simp only [List.getElem?_toArray, List.getElem?_cons_zero, List.getElem?_cons_succ] at c0 c1 c2 c3 c4 c5
    have HBX := Aside0.mk hbx
    obtain ⟨hcap, hrow0⟩ := op_row HOO.out x
    have HROW := Aside0.mk hrow0
    have HCAP := Aside0.mk hcap
    have HPL : Aside0 (((pre ++ [x]).length : Nat) = pre.length + 1) := ⟨by simp⟩
    have HALL := Aside0.mk hall
    have HNN := Aside0.mk hn
    have cM := hM'.cell
    have fM := hM'.frozen
    have cN := hN.cell
    have cR := hR.cell
    have fR := hR.frozen
    have HN := Aside0.mk hN
    have HR := Aside0.mk hR
    have HM := Aside0.mk hM'
    have HB := Aside0.mk hB
    clear hN hR hM' hB hbx hcap hrow0 hall hlt
    by_cases hq : pre.length = 16384
    · have HQ : Aside0 (16384 < (pre ++ [x]).length) := ⟨by have := HPL.out; omega⟩
      have hz : (pre.length : Int) = 16384 := by omega
      rw [hz] at cM HM
      clear hz hq hn
      gi_wp2_with (refine ⟨trivial, ?_⟩)
      exact ⟨((KeepsOthers.setCell _ _ _).trans (KeepsOthers.setCell _ _ _)).from _, ⟨rfl, .inl HQ.out⟩, Boxed.set _ (HR.out.other (by omega) _), (HB.out.setCell (p := ⟨M, 0, none⟩) (by show S ≤ M; omega) _).setCell (p := ⟨S + 2, 0, none⟩) (by show S ≤ S + 2; omega) _⟩
    · have hz : (pre.length : Int) < 16384 := by omega
      have hz0 : 0 ≤ (pre.length : Int) := by omega
      have HQ : Aside0 ((pre ++ [x]).length ≤ 16384) := ⟨by have := HPL.out; omega⟩
      have HZL : Aside0 (((pre ++ [x]).length : Int) = (pre.length : Int) + 1) := ⟨by have := HPL.out; omega⟩
      generalize (pre.length : Int) = z at hz hz0 cM HM HZL
      have HM2 := Aside0.mk (Boxed.set (.int .i64 (z + 1)) HM.out)
      have hcall := rightOpX_any (opOf bs x) fn (oo x.1 x.2).1 (oo x.1 x.2).2 (W.setCell ⟨M, 0, none⟩ (.int .i64 (z + 1))) (Kd.C_below HROW.out (by rw [hS]; exact HB.out.setCell (p := ⟨M, 0, none⟩) (by show S ≤ M; omega) _)) HCAP.out
      have HCL := Aside0.mk (callsIn_wide (n := 2) |>.2 hcall)
      clear hcall hn hq
      obtain ⟨rb, hrb⟩ : ∃ rb, ropX (opOf bs x) fn = rb := ⟨_, rfl⟩
      have HRB := Aside0.mk hrb
      rw [hrb] at HCL
      clear hrb
      unfold opV
      generalize opOf bs x = y at c0 c1 c2 c3 c4 c5 HCL ⊢
      generalize oo x.1 x.2 = g at c5 HCL ⊢
      cases rb with
      | true =>
        gi_wp2_with (refine ⟨trivial, ?_⟩; gi_at_call 50; refine (CallsIn.inRound lr HCL.out).mono ?_; rintro e w6 ⟨rfl, hb⟩; have HB6 := Aside0.mk hb; clear hb)
        have e1 : Boxed w6 (S + 1) 3 (.int .i64 fn) := blk_below (HN.out.other (by omega) _) HB6.out
        have e2 : Boxed w6 (S + 2) 4 (.bool false) := blk_below (HR.out.other (by omega) _) HB6.out
        have e3 : Boxed w6 M 3 (.int .i64 (z + 1)) := blk_below HM2.out HB6.out
        refine ⟨((KeepsOthers.setCell _ _ _).from _).trans (KeepsFrom.of_grownBy (row := none) (grown_of_below HB6.out none) (fun j e => by cases e)), (KE.setCell _ _ _ ⟨by show S ≤ M; omega, by show M < M + 1; omega⟩).trans (KE.of_below HB6.out), ⟨HQ.out, fun q hq => ?_⟩, e1, e2, ?_, ?_⟩
        · rcases List.mem_append.1 hq with hq | hq
          · exact HALL.out q hq
          · rw [List.mem_singleton.1 hq]; exact HRB.out
        · rw [HZL.out]; exact e3
        · exact below_then (HB.out.setCell (p := ⟨M, 0, none⟩) (by show S ≤ M; omega) _) (by have := HB.out.size; simp only [World.size_setCell]; omega) HB6.out
      | false =>
        gi_wp2_with (refine ⟨trivial, ?_⟩; gi_at_call 50; refine (CallsIn.inRound lr HCL.out).mono ?_; rintro e w6 ⟨rfl, hb⟩; have HB6 := Aside0.mk hb; clear hb; have HR6 : Aside0 (Boxed w6 (S + 2) 4 (.bool false)) := ⟨blk_below (HR.out.other (by omega) _) HB6.out⟩; clear cR fR; have cR := HR6.out.cell; have fR := HR6.out.frozen)
        refine ⟨(((KeepsOthers.setCell _ _ _).from _).trans (KeepsFrom.of_grownBy (row := none) (grown_of_below HB6.out none) (fun j e => by cases e))).trans ((KeepsOthers.setCell _ _ _).from _), ⟨rfl, .inr ⟨x, by simp, HRB.out⟩⟩, HR6.out.set _, ?_⟩
        exact (below_then (HB.out.setCell (p := ⟨M, 0, none⟩) (by show S ≤ M; omega) _) (by have := HB.out.size; simp only [World.size_setCell]; omega) HB6.out).setCell (p := ⟨S + 2, 0, none⟩) (by show S ≤ S + 2; omega) _
  case done =>
    rintro Dd ys W hDd rfl ⟨⟨hn, hall⟩, hN, hR, hM', hB⟩ hK
    have cR := hR.cell
    have fR := hR.frozen
    have HR := Aside0.mk hR
    have HB := Aside0.mk hB
    have HK := Aside0.mk hK
    have HV : Aside0 ((decide ((plcs bs bs.length).length ≤ 16384) && (plcs bs bs.length).all fun q => ropX (opOf bs q) fn) = true) := ⟨by
      rw [decide_eq_true hn, Bool.true_and]
      exact List.all_eq_true.2 hall⟩
    clear hN hR hM' hB hK hn hall
    gi_wp2
    have hR' : Boxed (W.setCell ⟨S + 2, 0, none⟩ (.bool true)) (S + 2) 4 (.bool true) := HR.out.set _
    have hK' := (KeepsOthers.setCell W ⟨S + 2, 0, none⟩ (.bool true)).same Dd _ HK.out rfl
    refine leavesM_marks [Dd] _ (by simp) (fun r hr => by rw [List.mem_singleton.1 hr]; exact hK') (fun W' hW' => ?_)
    have hcR : W'.cell? ⟨S + 2, 0, none⟩ = some (.bool true) := (hW'.kc (fun r hr => by rw [List.mem_singleton.1 hr]; exact ⟨_, hK', rfl⟩)).cell hR'.cell
    refine ⟨.bool true, by simp [results, Try.results18, go_sem, hcR], by rw [HV.out], ?_⟩
    rw [hS]
    exact (HB.out.setCell (p := ⟨S + 2, 0, none⟩) (by show S ≤ S + 2; omega) _).trans (hW'.below (fun r hr => by rw [List.mem_singleton.1 hr]; omega))
  case stop =>
    rintro Dd cd pre W hDd ⟨rest, hrest⟩ ⟨⟨rfl, hbad⟩, hR, hB⟩ hK
    have cR := hR.cell
    have HR := Aside0.mk hR
    have HB := Aside0.mk hB
    have HK := Aside0.mk hK
    have HV : Aside0 ((decide ((plcs bs bs.length).length ≤ 16384) && (plcs bs bs.length).all fun q => ropX (opOf bs q) fn) = false) := ⟨by
      rw [hrest]
      rcases hbad with hbad | ⟨q, hq, hf⟩
      · rw [decide_eq_false (by rw [List.length_append]; omega), Bool.false_and]
      · rw [show ((pre ++ rest).all fun q => ropX (opOf bs q) fn) = false from List.all_eq_false.2 ⟨q, List.mem_append_left _ hq, by simp [hf]⟩, Bool.and_false]⟩
    clear hR hB hK hbad hrest
    gi_wp2
    refine leavesM_marks [Dd] _ (by simp) (fun r hr => by rw [List.mem_singleton.1 hr]; exact HK.out) (fun W' hW' => ?_)
    have hcR : W'.cell? ⟨S + 2, 0, none⟩ = some (.bool false) := (hW'.kc (fun r hr => by rw [List.mem_singleton.1 hr]; exact ⟨_, HK.out, rfl⟩)).cell HR.out.cell
    refine ⟨.bool false, by simp [results, Try.results18, go_sem, hcR], by rw [HV.out], ?_⟩
    rw [hS]
    exact HB.out.trans (hW'.below (fun r hr => by rw [List.mem_singleton.1 hr]; omega))
/-- Right. -/
theorem right_any (p : Int) (A : Option Addr) (c : Nat) (bs : List S43) (fn : Int) (w : World) (hC : Kd.C k43 w A bs.length bs) :
    Calls Try.prog 18 #[.agg #[.int .i64 p, .slice A bs.length c], .int .i64 fn] w fun e w' => e = .returned (.bool (rightF p bs fn)) ∧ Below w.heap.size w w' := by
  unfold rightF
  cases h1 : wi (bs.length : Int) 1 4096 with
  | false => exact right_few p A c bs fn w h1
  | true =>
    cases h2 : wi p 0 8 with
    | false => exact right_par p A c bs fn w h1 h2
    | true =>
      cases h3 : termsR bs with
      | false => exact right_term p A c bs fn w hC h1 h2 h3
      | true =>
        simp only [Bool.true_and]
        exact callsIn_wide.1 (right_in p A c bs fn w hC h1 h2 h3)
end Go.Proofs.Ytnkgbnbbmcoiiaa.S
