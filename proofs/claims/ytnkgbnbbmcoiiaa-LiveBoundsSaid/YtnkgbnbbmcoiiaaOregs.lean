import Derived.Test.YtnkgbnbbmcoiiaaOright
import Derived.Test.YtnkgbnbbmcoiiaaOover
import Derived.Test.YtnkgbnbbmcoiiaaRf
import Derived.Test.YtnkgbnbbmcoiiaaReli
import Derived.LoopIn
import Derived.Test.YtnkgbnbbmcoiiaaS3
namespace Go.Proofs.Ytnkgbnbbmcoiiaa.S
open Go.RowKit Go.Shelf Go.IM Go.Proofs.YtnkgbnbbmcoiiaaW.PrintWords Go.Proofs.YtnkgbnbbmcoiiaaW.PrintLast Go.Proofs.YtnkgbnbbmcoiiaaW.PrintMore
set_option linter.unusedVariables false
set_option linter.unusedSimpArgs false
attribute [local go_sem] Oper.semAt_some
/-! ### code.Regs -/
theorem maxI_int (ats : Array TypeId) (ty : TypeId) (a b : Int) : Builtin.max_ ats ty #[.int .i64 a, .int .i64 b] = pure (.int .i64 (max a b)) := by
  rw [max_two, max2_int, pure_bind]
  congr 2
  split <;> omega
/-- The greatest of some. -/
def mx (z : Int) (l : List Int) : Int := l.foldl max z
theorem mx_append (z : Int) (l m : List Int) : mx z (l ++ m) = mx (mx z l) m := List.foldl_append
theorem mx_cons (z x : Int) (l : List Int) : mx z (x :: l) = mx (max z x) l := rfl
theorem mx_take (z : Int) (l : List Int) {q : Nat} (h : q < l.length) : mx z (l.take (q + 1)) = max (mx z (l.take q)) (rd l (q : Int)) := by
  rw [List.take_succ_eq_append_getElem h, mx_append, rd_mem h]
  rfl
theorem mx_ge : ∀ (l : List Int) (z : Int), z ≤ mx z l
  | [], z => Int.le_refl _
  | x :: l, z => Int.le_trans (by omega : z ≤ max z x) (mx_ge l _)
theorem mx_mem : ∀ (l : List Int) (z : Int) (x : Int), x ∈ l → x ≤ mx z l
  | y :: l, z, x, h => by
    rw [mx_cons]
    rcases List.mem_cons.1 h with e | h
    · have := mx_ge l (max z y)
      omega
    · exact mx_mem l _ x h
/-- An operation's registers. -/
def opR (x : S45) : List Int := setX x :: useX x
/-- The greatest register of a function. -/
def regsF (p : Int) (bs : List S43) : Int := mx (mx (max 0 p) ((plcs bs bs.length).flatMap fun q => opR (opOf bs q))) ((List.range bs.length).flatMap fun (i : Nat) => tuseT (rd_T43 bs (i : Int)).f1)
theorem blkS_own {β : Type} (b : Nat) (o : Obj) (ho : o.isCells = true) : Own (fun (_ : β) W => W.heap[b]? = some o) := fun s X Y row hs hg hrow => blk_grown hs hg (fun e' => by
  obtain ⟨o', ho', hc⟩ := hrow b e'.symm
  rw [show X.heap[b]? = some o from hs] at ho'
  cases ho'
  rw [ho] at hc
  cases hc)
theorem uses_R (x : S45) (A : Option Addr) (c : Nat) (w : World) (hx : x.f5.length ≤ 1000000000000) (hC : Kd.C (Kd.int .i64) w A x.f5.length x.f5) (hc : x.f5.length ≤ c) :
    Calls Try.prog 21 #[.agg #[.int .i64 x.f0, .int .i64 x.f1, .int .i64 x.f2, .int .i64 x.f3, .int .i64 x.f4, .slice A x.f5.length c]] w fun e w' => ∃ A' c', e = .returned (.slice A' (useX x).length c') ∧ Kd.R (Kd.int .i64) 3 w' w.heap.size (fun _ => True) (.slice A' (useX x).length c') (useX x) ∧ Below w.heap.size w w' := by
  refine (code_Uses.calls 10 x.f0 x.f1 x.f2 x.f3 x.f4 A c x.f5 (useX x) w hC hc (uses_eq x hx)).mono ?_
  rintro e w' ⟨v, rfl, hr, hb⟩
  obtain ⟨A', c', rfl, k, hc⟩ := Kd.R_reads hr
  exact ⟨A', c', rfl, hr, hb⟩
theorem termUses_R (t : S41) (w : World) :
    Calls Try.prog 31 #[.agg #[.int .i64 t.f0, .int .i64 t.f1, .int .i64 t.f2, .int .i64 t.f3]] w fun e w' => ∃ A c, e = .returned (.slice A (tuseT t).length c) ∧ Kd.R (Kd.int .i64) 3 w' w.heap.size (fun _ => True) (.slice A (tuseT t).length c) (tuseT t) ∧ Below w.heap.size w w' := by
  refine (code_TermUses.calls t.f0 t.f1 t.f2 t.f3 (tuseT t) w (by
    unfold code_TermUses.f tuseT
    by_cases h2 : t.f0 = 2
    · simp [h2]
    · by_cases h3 : t.f0 = 3 <;> simp [h2, h3])).mono ?_
  rintro e w' ⟨v, rfl, hr, hb⟩
  obtain ⟨A, c, rfl, k, hc⟩ := Kd.R_reads hr
  exact ⟨A, c, rfl, hr, hb⟩
/-- A made row of numbers, read while one elder box turns. -/
theorem row_read {w6 wr : World} {A : Option Addr} {c m M : Nat} {l : List Int} (hr : Kd.R (Kd.int .i64) 3 w6 m (fun _ => True) (.slice A l.length c) l) (hM : M < m) (hg : w6.grownBy wr (some M)) : Kd.C (Kd.int .i64) wr A l.length l := by
  have h := Kd.R_grown (Kd.R_bound hr) hg (fun k hk e => by
    have e' : k = M := by injection e
    have := hk.2.1
    omega)
  exact (Kd.R_reads' h).2.2
theorem mx_len (x : S45) (h : x.f5.length ≤ 1000000000000) : (useX x).length ≤ 1000000000010 := by
  unfold useX
  simp only [List.length_append]
  repeat' split
  all_goals (simp only [List.length_cons, List.length_nil]; omega)
attribute [local go_sem] maxI_int
set_option maxHeartbeats 16000000 in
set_option maxRecDepth 100000 in
theorem regs_in (p : Int) (A : Option Addr) (c : Nat) (bs : List S43) (w : World) (hC : Kd.C k43 w A bs.length bs) (hlen : bs.length ≤ 1000000000000) (hA : ∀ q, (opOf bs q).f5.length ≤ 1000000000000) :
    CallsIn Fence.wide 4 Try.prog 34 #[.agg #[.int .i64 p, .slice A bs.length c]] w fun e w' => e = .returned (.int .i64 (regsF p bs)) ∧ Below w.heap.size w w' := by
  have hu34 := Try.underlying34
  have hu43 := Try.underlying43
  have hu41 := Try.underlying41
  have hu45 := Try.underlying45
  have HC := Aside0.mk hC
  have HLN := Aside0.mk hlen
  have HA := Aside0.mk hA
  have hbF := blk_new w (.cells #[.int .i64 p, .slice A bs.length c] 34)
  have c0 := blk_cell hbF 0
  have c1 := blk_cell hbF 1
  simp only [List.getElem?_toArray, List.getElem?_cons_zero, List.getElem?_cons_succ] at c0 c1
  clear hC hlen hA hbF
  refine callsIn_of_wp_marks Try.func34 rfl trivial ?_ rfl
  simp only [Try.ntmps34, List.size_toArray, List.length_cons, List.length_nil, Nat.reduceAdd, Nat.reduceSub, Array.replicate_succ, Array.replicate_zero, List.push_toArray, List.append_toArray, List.nil_append, List.cons_append]
  have HB1 := Aside0.mk (below_alloc (Below.refl (w.alloc (.cells #[.int .i64 p, .slice A bs.length c] 34)).heap.size (w.alloc (.cells #[.int .i64 p, .slice A bs.length c] 34))) (.cells #[.int .i64 (max 0 p)] 3))
  have c0 := pw_cell_below HB1.out c0
  have c1 := pw_cell_below HB1.out c1
  gi_wp2_with (refine ⟨trivial, ?_⟩; gi_at_call 49; refine (ops_in _ _ _ _ _ _).mono ?_; rintro e w4 ⟨rfl, rfl⟩)
  clear c0 c1 HB1
  obtain ⟨S, hS⟩ : ∃ S, w.heap.size = S := ⟨_, rfl⟩
  obtain ⟨w5, hw5⟩ : ∃ w5, ((w.alloc (.cells #[.int .i64 p, .slice A bs.length c] 34)).alloc (.cells #[.int .i64 (max 0 p)] 3)).alloc (.cells #[.int .i64 p, .slice A bs.length c] 34) = w5 := ⟨_, rfl⟩
  have hz5 : w5.heap.size = S + 3 := by rw [← hw5, ← hS]; simp [World.size_alloc]
  have bS5 : w5.heap[S]? = some (.cells #[.int .i64 p, .slice A bs.length c] 34 (0, 0)) := by
    rw [← hw5, ← hS]
    exact blk_alloc (blk_alloc (blk_new w (.cells #[.int .i64 p, .slice A bs.length c] 34)) _) _
  have bC5 : Boxed w5 (S + 1) 3 (.int .i64 (max 0 p)) := by
    rw [← hw5]
    have := Boxed.new (w.alloc (.cells #[.int .i64 p, .slice A bs.length c] 34)) 3 (.int .i64 (max 0 p))
    rw [World.size_alloc, hS] at this
    exact this.alloc _
  have bF5 : w5.heap[S + 2]? = some (.cells #[.int .i64 p, .slice A bs.length c] 34 (0, 0)) := by
    rw [← hw5]
    have := blk_new ((w.alloc (.cells #[.int .i64 p, .slice A bs.length c] 34)).alloc (.cells #[.int .i64 (max 0 p)] 3)) (.cells #[.int .i64 p, .slice A bs.length c] 34)
    rw [World.size_alloc, World.size_alloc, hS] at this
    exact this
  have hB5 : Below S w w5 := by rw [← hw5, ← hS]; exact below_alloc (below_alloc (below_alloc (Below.refl _ _) _) _) _
  obtain ⟨bg, hbg⟩ := blks_at HC.out
  obtain ⟨oo, hoo⟩ : ∃ oo : Nat → Nat → Option Addr × Nat, ∀ i, i < bs.length → OpsAt w (bg i).1 (rd_T43 bs (i : Int)).f0 (oo i) := choice_ bs.length (fun i (og : Nat → Option Addr × Nat) => OpsAt w (bg i).1 (rd_T43 bs (i : Int)).f0 og) (fun i hi => ops_at (hbg i hi).row)
  have HBG := Aside0.mk hbg
  have HOO := Aside0.mk hoo
  have hst := ops_stops 3 (by decide) (S + 2) A c bs bg oo HLN.out (KE (S + 1) (S + 2)) (fun h k => h.trans k) (fun h => KE.of_below h) w5 (fun W wr hW hk => by
    have hkc : KC w wr := KE.kc (below_then (show Below w.heap.size w w5 by rw [hS]; exact hB5) (show w.heap.size ≤ w5.heap.size by have := hB5.size; omega) hW) (by omega) hk
    refine ⟨?_, HBG.out.kc hkc, fun i hi => (HOO.out i hi).kc hkc⟩
    have h1 := hk.cells (S + 2) _ (by omega) ((hW.block (S + 2) (blk_lt bF5)).trans bF5) rfl
    have h2 := blk_cell h1 1
    simpa only [List.getElem?_toArray, List.getElem?_cons_zero, List.getElem?_cons_succ] using h2)
  simp only [hS, Nat.add_assoc, Nat.reduceAdd]
  rw [hw5]
  clear hw5 hbg hoo bF5
  refine wpIn_rangeFunc_ownGA rfl (by decide) (gf := 77) (lb := #[.pointer (some ⟨S + 2, 0, none⟩)]) rfl trivial (enters_of Try.func77 (by kernel_rfl) rfl)
    hst (fun h k => h.trans k) (fun W b o o' hb ho hnc _ => KE.putObj W b o' ho hnc) (Below.refl _ _) (fun _ => rfl)
    (fun pre W => Boxed W (S + 1) 3 (.int .i64 (mx (max 0 p) (pre.flatMap fun q => opR (opOf bs q)))) ∧ W.heap[S]? = some (.cells #[.int .i64 p, .slice A bs.length c] 34 (0, 0)) ∧ Below S w W)
    (fun cd pre W => False)
    ?hI ?hIx ⟨bC5, bS5, hB5⟩
    (fun x b => { tmps := #[.agg #[.int .i64 p, .slice A bs.length c], .pointer (some ⟨S, 0, none⟩), .int .i64 0, .pointer (some ⟨S + 1, 0, none⟩), .pointer (some ⟨b, 0, none⟩), undef, undef, undef, undef, undef, undef, .pointer (some ⟨S, 0, none⟩), .int .i64 p, .int .i64 (max 0 p), .agg #[.int .i64 p, .slice A bs.length c], .func (.func 77) #[] #[.pointer (some ⟨S + 2, 0, none⟩)], opV (opOf bs x) (oo x.1 x.2), undef, undef, undef, undef, undef, undef, undef, undef, undef, undef, undef, undef, undef, undef, undef, undef, undef, undef, undef, undef, undef, undef, undef, undef, undef, undef, undef, undef, undef, undef, undef, undef, undef, undef, undef, undef], defers := [] })
    (fun x => .cells #[.int .i64 (opOf bs x).f0, .int .i64 (opOf bs x).f1, .int .i64 (opOf bs x).f2, .int .i64 (opOf bs x).f3, .int .i64 (opOf bs x).f4, .slice (oo x.1 x.2).1 (opOf bs x).f5.length (oo x.1 x.2).2] 45)
    (fun W o => KE.of_below (below_alloc (Below.refl _ _) _)) ?assign ?body ?done ?stop
  case hI =>
    exact OwnFrom.and (Own.from (boxed_own (S + 1) 3 fun pre : List (Nat × Nat) => .int .i64 (mx (max 0 p) (pre.flatMap fun q => opR (opOf bs q)))) _) (OwnFrom.and (Own.from (blkS_own S _ rfl) _) (ownFrom_below (by omega) (by omega)))
  case hIx =>
    intro cd
    exact ownFrom_pure _ (fun _ => False)
  case assign =>
    intro lr x W KK hKK
    unfold opsV opV
    unfold opV at hKK
    generalize opOf bs x = y at hKK
    generalize oo x.1 x.2 = g at hKK
    gi_wp2
    exact hKK
  case stop =>
    rintro Dd cd pre W hDd hrest hF hK
    exact hF.elim
  case body =>
    rintro lr pre x W b ⟨hM', hF', hB⟩ hlt hbM hbx
    have HBX := Aside0.mk hbx
    have c0 := blk_cell HBX.out 0; have c1 := blk_cell HBX.out 1; have c2 := blk_cell HBX.out 2; have c3 := blk_cell HBX.out 3; have c4 := blk_cell HBX.out 4; have c5 := blk_cell HBX.out 5; simp only [List.getElem?_toArray, List.getElem?_cons_zero, List.getElem?_cons_succ] at c0 c1 c2 c3 c4 c5
    obtain ⟨hcap, hrow0⟩ := op_row HOO.out x
    have HROW := Aside0.mk hrow0
    have HCAP := Aside0.mk hcap
    have HX12 := Aside0.mk (HA.out x)
    have HFL : Aside0 (mx (max 0 p) ((pre ++ [x]).flatMap fun q => opR (opOf bs q)) = mx (max (mx (max 0 p) (pre.flatMap fun q => opR (opOf bs q))) (setX (opOf bs x))) (useX (opOf bs x))) := ⟨by
      rw [List.flatMap_append, mx_append]
      simp only [List.flatMap_cons, List.flatMap_nil, List.append_nil]
      rfl⟩
    obtain ⟨zz, hzz⟩ : ∃ zz, mx (max 0 p) ((pre ++ [x]).flatMap fun q => opR (opOf bs q)) = zz := ⟨_, rfl⟩
    rw [hzz] at HFL
    have HZZ := Aside0.mk hzz
    clear hzz
    generalize mx (max 0 p) (pre.flatMap fun q => opR (opOf bs q)) = z at hM' HFL
    have cM := hM'.cell
    have HM := Aside0.mk hM'
    have HFB := Aside0.mk hF'
    have HB := Aside0.mk hB
    clear hM' hF' hB hbx hcap hrow0 hlt
    unfold opV
    generalize opOf bs x = y at HBX c0 c1 c2 c3 c4 c5 HROW HCAP HX12 HFL ⊢
    generalize oo x.1 x.2 = g at HBX c5 HROW HCAP ⊢
    gi_wp2
    refine RelRegion.wpIn_region_rel (ro := some lr) (K0 := ?_) 3 (fun _ => none) (fun _ => []) (fun _ _ _ => True) (fun wq => Below W.heap.size W wq) (fun a b => Below a.heap.size a b) (by kernel_rfl) (by kernel_rfl) (by kernel_rfl) (below_drew (Below.refl _ _)) (fun a b h k => below_then h h.size k) (fun _ _ _ _ h _ => h) ?_ ?_
    case refine_1 => exact fun a w6 => a = { tmps := #[.agg #[.int .i64 p, .slice A bs.length c], .pointer (some ⟨S, 0, none⟩), .int .i64 0, .pointer (some ⟨S + 1, 0, none⟩), .pointer (some ⟨b, 0, none⟩), undef, undef, undef, undef, undef, undef, .pointer (some ⟨S, 0, none⟩), .int .i64 p, .int .i64 (max 0 p), .agg #[.int .i64 p, .slice A bs.length c], .func (.func 77) #[] #[.pointer (some ⟨S + 2, 0, none⟩)], .agg #[.int .i64 y.f0, .int .i64 y.f1, .int .i64 y.f2, .int .i64 y.f3, .int .i64 y.f4, .slice g.1 y.f5.length g.2], .int .i64 z, .agg #[.int .i64 y.f0, .int .i64 y.f1, .int .i64 y.f2, .int .i64 y.f3, .int .i64 y.f4, .slice g.1 y.f5.length g.2], .int .i64 (setX y), .int .i64 (max z (setX y)), undef, undef, undef, undef, undef, undef, undef, undef, undef, undef, undef, undef, undef, undef, undef, undef, undef, undef, undef, undef, undef, undef, undef, undef, undef, undef, undef, undef, undef, undef, undef, undef], defers := [] } ∧ ∃ w5, Below W.heap.size W w5 ∧ w6 = w5.setCell ⟨S + 1, 0, none⟩ (.int .i64 (max z (setX y)))
    · simp only [List.take_succ_cons, List.take_zero, List.drop_succ_cons, List.drop_zero]
      iterate 3 (apply RelRegion.relQ_step rfl; apply Exists.intro; constructor; (focus (intro wq hwq; have cM := pw_cell_below hwq cM; have c0 := pw_cell_below hwq c0; have c1 := pw_cell_below hwq c1; have c2 := pw_cell_below hwq c2; have c3 := pw_cell_below hwq c3; have c4 := pw_cell_below hwq c4; have c5 := pw_cell_below hwq c5; unfold RelRegion.Yl; go_wp2_with (go_at_call 23; refine (sets1_any y g.1 g.2 _ (Kd.C_below HROW.out (by rw [hS]; exact HB.out.trans (hwq.mono (by have := HB.out.size; omega)))) HCAP.out).mono ?_; rintro e w6 ⟨rfl, hbq⟩); first | exact ⟨rfl, _, rfl, rfl, Below.refl _ _⟩ | exact ⟨rfl, _, rfl, rfl, hbq⟩)); (try simp only [Act.put, List.setIfInBounds_toArray, List.set_cons_zero, List.set_cons_succ]))
      refine RelRegion.relQ_nil (fun xx => ?_)
      repeat (refine RelRegion.relL_quiet rfl ?_)
      refine RelRegion.relL_nil (fun w5 hw5 _ => ?_)
      have hM5 : Boxed w5 (S + 1) 3 (.int .i64 z) := blk_below HM.out hw5
      have cM := hM5.cell
      have fM := hM5.frozen
      clear hM5
      go_wp2_with fail
      first | exact ⟨w5, hw5, rfl⟩ | exact ⟨rfl, rfl, w5, hw5, rfl⟩
    · rintro a w6 ⟨rfl, w5', hw5', rfl⟩
      have HM6 := Aside0.mk (Boxed.set (.int .i64 (max z (setX y))) (blk_below HM.out hw5' : Boxed w5' (S + 1) 3 (.int .i64 z)))
      have hWg : W.grownBy (w5'.setCell ⟨S + 1, 0, none⟩ (.int .i64 (max z (setX y)))) (some (S + 1)) := grown_then (grown_of_below hw5' (some (S + 1))) (grownBy_setCell' w5' (S + 1) _) (.inl rfl)
      generalize w5'.setCell ⟨S + 1, 0, none⟩ (.int .i64 (max z (setX y))) = w6 at HM6 hWg ⊢
      generalize max z (setX y) = z1 at HM6 HFL ⊢
      clear cM c0 c1 c2 c3 c4 c5
      have HBX := Aside0.mk (blk_grown HBX.out hWg (fun e => by have : b = S + 1 := (by injection e); omega))
      have c0 := blk_cell HBX.out 0; have c1 := blk_cell HBX.out 1; have c2 := blk_cell HBX.out 2; have c3 := blk_cell HBX.out 3; have c4 := blk_cell HBX.out 4; have c5 := blk_cell HBX.out 5; simp only [List.getElem?_toArray, List.getElem?_cons_zero, List.getElem?_cons_succ] at c0 c1 c2 c3 c4 c5
      have HB6 := Aside0.mk (pw_below_grown HB.out (some (S + 1)) (by have := HB.out.size; omega) hWg (fun k e => by cases e; omega))
      have HWG := Aside0.mk hWg
      have HS6 : Aside0 (S + 1 < w6.heap.size) := ⟨blk_lt HM6.out⟩
      have HCL := Aside0.mk (callsIn_wide (n := 1) |>.2 (uses_R y g.1 g.2 w6 HX12.out (Kd.C_below HROW.out (by rw [hS]; exact HB6.out)) HCAP.out))
      have HUL := Aside0.mk (mx_len y HX12.out)
      clear hWg hw5'
      gi_wp2_with (refine ⟨trivial, ?_⟩; gi_at_call 21; refine (CallsIn.inRound lr HCL.out).mono ?_; rintro e w7 ⟨A7, c7, rfl, hr, hb⟩; have HR7 := Aside0.mk hr; have HB7 := Aside0.mk hb; clear hr hb)
      have HM7 : Aside0 (Boxed w7 (S + 1) 3 (.int .i64 z1)) := ⟨blk_below HM6.out HB7.out⟩
      clear c0 c1 c2 c3 c4 c5 HCL
      generalize useX y = l at HR7 HUL HFL ⊢
      gi_loopw [24] (fun i wr => ∃ q : Nat, q ≤ l.length ∧ i = .int .i64 (q : Int) ∧ Aside0 (Boxed wr (S + 1) 3 (.int .i64 (mx z1 (l.take q)))) ∧ Aside0 (w7.grownBy wr (some (S + 1)))) (fun i _ => l.length - (intOf i).toNat)
      case atStart => exact ⟨0, Nat.zero_le _, rfl, HM7, ⟨grown_of_below (Below.refl _ _) _⟩⟩
      case round =>
        obtain ⟨q, hq, rfl, HMq, HG⟩ := hrel
        by_cases hlq : q < l.length
        · have b3 : decide ((q : Int) < (l.length : Int)) = true := decide_eq_true (Int.ofNat_lt.2 hlq)
          have hCr := row_read HR7.out HS6.out HG.out
          have hw6 : wrap64 ((q : Int) + 1) = (q : Int) + 1 := inc63 hlq hCr.2.1
          obtain ⟨adq, eQ, hcq⟩ := Kd.at_int hCr (q : Int) (Int.natCast_nonneg q) (Int.ofNat_lt.2 hlq)
          rw [Int.toNat_natCast] at hcq
          have HTK := Aside0.mk (mx_take z1 l hlq)
          have cM := HMq.out.cell
          have fM := HMq.out.frozen
          subst eQ
          clear hCr
          generalize rd l (q : Int) = r at hcq HTK
          generalize mx z1 (l.take q) = z2 at cM HMq HTK
          gi_wp2
          go_roundw
          case rel => exact ⟨q + 1, hlq, by first | (rw [hw6]; exact num_cast q) | (with_reducible exact num_cast q), ⟨by rw [HTK.out]; exact HMq.out.set _⟩, ⟨grown_then HG.out (grownBy_setCell' wr (S + 1) _) (.inl rfl)⟩⟩
          case measure => first | (rw [hw6]; exact num_meas hlq) | (with_reducible exact num_meas hlq)
        · have b3 : decide ((q : Int) < (l.length : Int)) = false := decide_eq_false (fun h => hlq (Int.ofNat_lt.1 h))
          have HTK : Aside0 (mx z1 (l.take q) = zz) := ⟨by rw [List.take_of_length_le (Nat.le_of_not_lt hlq), HFL.out]⟩
          have HGW : Aside0 (W.grownBy wr (some (S + 1))) := ⟨grown_then (grown_then HWG.out (grown_of_below HB7.out (some (S + 1))) (.inl rfl)) HG.out (.inl rfl)⟩
          gi_wp2
          refine ⟨KeepsFrom.of_grownBy HGW.out (fun j e => by cases e; omega), KE.of_grown HGW.out (.inl ⟨by omega, by omega⟩), ?_, blk_grown HFB.out HGW.out (fun e => by have : S = S + 1 := (by injection e); omega), ?_⟩
          · rw [HZZ.out, ← HTK.out]; exact HMq.out
          · exact pw_below_grown HB.out (some (S + 1)) (by have := HB.out.size; omega) HGW.out (fun k e => by cases e; omega)
  case done =>
    rintro Dd ys W hDd rfl ⟨hM', hF', hB⟩ hK
    have HRG : Aside0 (regsF p bs = mx (mx (max 0 p) ((plcs bs bs.length).flatMap fun q => opR (opOf bs q))) ((List.range bs.length).flatMap fun (i : Nat) => tuseT (rd_T43 bs (i : Int)).f1)) := ⟨rfl⟩
    generalize mx (max 0 p) ((plcs bs bs.length).flatMap fun q => opR (opOf bs q)) = z at hM' HRG
    have c0 := blk_cell hF' 0
    have c1 := blk_cell hF' 1
    simp only [List.getElem?_toArray, List.getElem?_cons_zero, List.getElem?_cons_succ] at c0 c1
    have HM := Aside0.mk hM'
    have HFB := Aside0.mk hF'
    have HB := Aside0.mk hB
    have HK := Aside0.mk hK
    have HDS : Aside0 (S + 1 ≠ Dd) := ⟨by omega⟩
    have HDL : Aside0 (S ≤ Dd) := ⟨by omega⟩
    have hSW : S + 1 < W.heap.size := blk_lt hM'
    have HSW := Aside0.mk hSW
    clear hM' hF' hB hK hDd hst bS5 bC5 hB5 hz5 hSW
    gi_wp2
    gi_loopw [35] (fun i wr => ∃ j : Nat, j ≤ bs.length ∧ i = .int .i64 (j : Int) ∧ Aside0 (Boxed wr (S + 1) 3 (.int .i64 (mx z ((List.range j).flatMap fun (i : Nat) => tuseT (rd_T43 bs (i : Int)).f1)))) ∧ Aside0 (W.grownBy wr (some (S + 1)))) (fun i _ => bs.length - (intOf i).toNat)
    case atStart => exact ⟨0, Nat.zero_le _, rfl, HM, ⟨grown_of_below (Below.refl _ _) _⟩⟩
    case round =>
      clear c0 c1
      obtain ⟨j, hj, rfl, HMj, HG⟩ := hrel
      have HBr := Aside0.mk (pw_below_grown HB.out (some (S + 1)) (by have := HB.out.size; omega) HG.out (fun k e => by cases e; omega))
      by_cases hlt : j < bs.length
      · have b1 : decide ((j : Int) < (bs.length : Int)) = true := decide_eq_true (Int.ofNat_lt.2 hlt)
        have hw1 : wrap64 ((j : Int) + 1) = (j : Int) + 1 := inc63 hlt (Nat.le_trans HLN.out (by decide))
        obtain ⟨adb, A5, c5, eA, h0, h1, h2, h3, h4, l5, g5⟩ := at_T43 (Kd.C_below HC.out (by rw [hS]; exact HBr.out)) (j : Int) (Int.natCast_nonneg j) (Int.ofNat_lt.2 hlt)
        simp only [Int.toNat_natCast] at h0 h1 h2 h3 h4
        have HRS : Aside0 (mx z ((List.range (j + 1)).flatMap fun (i : Nat) => tuseT (rd_T43 bs (i : Int)).f1) = mx (mx z ((List.range j).flatMap fun (i : Nat) => tuseT (rd_T43 bs (i : Int)).f1)) (tuseT (rd_T43 bs (j : Int)).f1)) := ⟨by
          rw [List.range_succ, List.flatMap_append, mx_append]
          simp only [List.flatMap_cons, List.flatMap_nil, List.append_nil]⟩
        obtain ⟨zz, hzz⟩ : ∃ zz, mx z ((List.range (j + 1)).flatMap fun (i : Nat) => tuseT (rd_T43 bs (i : Int)).f1) = zz := ⟨_, rfl⟩
        rw [hzz] at HRS
        have HZZ := Aside0.mk hzz
        clear hzz
        generalize mx z ((List.range j).flatMap fun (i : Nat) => tuseT (rd_T43 bs (i : Int)).f1) = z1 at HMj HRS
        clear l5 g5
        generalize (rd_T43 bs (j : Int)).f0.length = n5 at h0
        generalize (rd_T43 bs (j : Int)).f1 = tm at h1 h2 h3 h4 HRS
        have HTL : Aside0 ((tuseT tm).length ≤ 4096) := ⟨by unfold tuseT; split <;> simp⟩
        have HbA := Aside0.mk (below_alloc (Below.refl wr.heap.size wr) (.cells #[.slice A5 n5 c5, .int .i64 tm.f0, .int .i64 tm.f1, .int .i64 tm.f2, .int .i64 tm.f3] 43))
        have HCL := Aside0.mk (fun w' => callsIn_wide (n := 3) |>.2 (termUses_R tm w'))
        subst eA
        gi_wp2_with (refine ⟨trivial, ?_⟩; gi_at_call 31; refine (HCL.out _).mono ?_; rintro e w7 ⟨A7, c7, rfl, hr, hb⟩; have HR7 := Aside0.mk (Kd.R_lower hr (show wr.heap.size ≤ _ from HbA.out.size)); have HB7 := Aside0.mk (below_then HbA.out HbA.out.size hb); clear hr hb)
        have HM7 : Aside0 (Boxed w7 (S + 1) 3 (.int .i64 z1)) := ⟨blk_below HMj.out HB7.out⟩
        have HS6 : Aside0 (S + 1 < wr.heap.size) := ⟨blk_lt HMj.out⟩
        clear HCL h0 h1 h2 h3 h4
        generalize tuseT tm = l at HR7 HTL HRS ⊢
        have HGj := HG
        clear HG
        gi_loopw [43] (fun i wr => ∃ q : Nat, q ≤ l.length ∧ i = .int .i64 (q : Int) ∧ Aside0 (Boxed wr (S + 1) 3 (.int .i64 (mx z1 (l.take q)))) ∧ Aside0 (w7.grownBy wr (some (S + 1)))) (fun i _ => l.length - (intOf i).toNat)
        case atStart => exact ⟨0, Nat.zero_le _, rfl, HM7, ⟨grown_of_below (Below.refl _ _) _⟩⟩
        case round =>
          obtain ⟨q, hq, rfl, HMq, HG⟩ := hrel
          by_cases hlq : q < l.length
          · have b3 : decide ((q : Int) < (l.length : Int)) = true := decide_eq_true (Int.ofNat_lt.2 hlq)
            have hCr := row_read HR7.out HS6.out HG.out
            have hw6 : wrap64 ((q : Int) + 1) = (q : Int) + 1 := inc63 hlq hCr.2.1
            obtain ⟨adq, eQ, hcq⟩ := Kd.at_int hCr (q : Int) (Int.natCast_nonneg q) (Int.ofNat_lt.2 hlq)
            rw [Int.toNat_natCast] at hcq
            have HTK := Aside0.mk (mx_take z1 l hlq)
            have cM := HMq.out.cell
            have fM := HMq.out.frozen
            subst eQ
            clear hCr
            generalize rd l (q : Int) = r at hcq HTK
            generalize mx z1 (l.take q) = z2 at cM HMq HTK
            gi_wp2
            go_roundw
            case rel => exact ⟨q + 1, hlq, by first | (rw [hw6]; exact num_cast q) | (with_reducible exact num_cast q), ⟨by rw [HTK.out]; exact HMq.out.set _⟩, ⟨grown_then HG.out (grownBy_setCell' _ (S + 1) _) (.inl rfl)⟩⟩
            case measure => first | (rw [hw6]; exact num_meas hlq) | (with_reducible exact num_meas hlq)
          · have b3 : decide ((q : Int) < (l.length : Int)) = false := decide_eq_false (fun h => hlq (Int.ofNat_lt.1 h))
            have HTK : Aside0 (mx z1 (l.take q) = zz) := ⟨by rw [List.take_of_length_le (Nat.le_of_not_lt hlq), HRS.out]⟩
            rw [HTK.out] at HMq
            have HGW := Aside0.mk (grown_then (grown_then HGj.out (grown_of_below HB7.out (some (S + 1))) (.inl rfl)) HG.out (.inl rfl))
            gi_wp2
            go_roundw
            case rel => exact ⟨j + 1, hlt, by first | (rw [hw1]; exact num_cast j) | (with_reducible exact num_cast j), ⟨by rw [HZZ.out]; exact HMq.out⟩, HGW⟩
            case measure => first | (rw [hw1]; exact num_meas hlt) | (with_reducible exact num_meas hlt)
      · have b1 : decide ((j : Int) < (bs.length : Int)) = false := decide_eq_false (fun h => hlt (Int.ofNat_lt.1 h))
        have hje : j = bs.length := Nat.le_antisymm hj (Nat.le_of_not_lt hlt)
        have HV : Aside0 (mx z ((List.range j).flatMap fun (i : Nat) => tuseT (rd_T43 bs (i : Int)).f1) = regsF p bs) := ⟨by rw [HRG.out, hje]⟩
        rw [HV.out] at HMj
        clear hje
        obtain ⟨rg, hrg⟩ : ∃ rg, regsF p bs = rg := ⟨_, rfl⟩
        rw [hrg] at HMj
        have HRV := Aside0.mk hrg
        clear hrg
        have cM := HMj.out.cell
        have HKr := Aside0.mk (blk_grown HK.out HG.out (fun e => HDS.out (by injection e with e; exact e.symm)))
        gi_wp2
        refine leavesM_marks [Dd] _ (by simp) (fun r hr => by rw [List.mem_singleton.1 hr]; exact HKr.out) (fun W' hW' => ?_)
        refine ⟨.int .i64 rg, by simp [results, Try.results34, go_sem], by rw [HRV.out], ?_⟩
        rw [hS]
        exact HBr.out.trans (hW'.below (fun r hr => by rw [List.mem_singleton.1 hr]; exact HDL.out))
/-- Regs. -/
theorem regs_any (p : Int) (A : Option Addr) (c : Nat) (bs : List S43) (w : World) (hC : Kd.C k43 w A bs.length bs) (hlen : bs.length ≤ 1000000000000) (hA : ∀ q, (opOf bs q).f5.length ≤ 1000000000000) :
    Calls Try.prog 34 #[.agg #[.int .i64 p, .slice A bs.length c]] w fun e w' => e = .returned (.int .i64 (regsF p bs)) ∧ Below w.heap.size w w' := callsIn_wide.1 (regs_in p A c bs w hC hlen hA)
end Go.Proofs.Ytnkgbnbbmcoiiaa.S
