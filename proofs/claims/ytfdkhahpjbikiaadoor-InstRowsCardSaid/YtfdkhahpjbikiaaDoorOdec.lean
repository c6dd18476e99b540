import Derived.Test.YtfdkhahpjbikiaaDoorS4
import Derived.Test.YtfdkhahpjbikiaaDoorS5
import Derived.Test.YtfdkhahpjbikiaaDoorRel
import Derived.LoopN
import Derived.OpenShut
namespace Go.Proofs.YtfdkhahpjbikiaaDoor.S
open Go.RowKit Go.Proofs.YtfdkhahpjbikiaaDoorW.PrintWords Go.Proofs.YtfdkhahpjbikiaaDoorW.PrintLast Go.Proofs.YtfdkhahpjbikiaaDoorW.PrintMore Go.RelRegion
set_option linter.unusedVariables false
/-- A row of numbers: where its cells are. -/
theorem kint_cells {k : IntKind} {w : World} {A : Option Addr} {xs : List Int} (h : Kd.C (Kd.int k) w A xs.length xs) (hn : 0 < xs.length) :
    ∃ b off, A = some ⟨b, off, none⟩ ∧ ∀ j, j < xs.length → w.cell? ⟨b, off + j, none⟩ = some (.int k (xs.getD j 0)) := by
  obtain ⟨ad, c, rfl, _⟩ := Kd.C_get h (0 : Int) 0 (by omega) (by omega)
  have hc : ∀ i, i < xs.length → w.cell? (ad.add i) = some (.int k (xs.getD i 0)) := fun j hj => by
    obtain ⟨ad', c', e, _, hK, hc⟩ := Kd.C_get h (0 : Int) (j : Int) (by omega) (by omega)
    injection e with e
    subst e
    have hK' : c' = [.int k (xs.getD j 0)] := hK
    subst hK'
    have := hc 0 _ rfl
    have hs : (Kd.int k).sz = 1 := rfl
    simpa [hs] using this
  obtain ⟨b, off, rfl, h2⟩ := ints_at hc hn
  exact ⟨b, off, rfl, h2⟩
/-- The immediate out of its four bytes. -/
def decImm (b4 b5 b6 b7 : Int) : Int := bits .or .i64 (bits .or .i64 (bits .or .i64 (bits .or .i64 0 b4) (b5 * 256)) (b6 * 65536)) (b7 * 16777216)
set_option maxHeartbeats 8000000 in
set_option maxRecDepth 100000 in
theorem dec8 (k : Nat) (z : Int) (b off : Nat) (c0 : Nat) (b0 b1 b2 b3 b4 b5 b6 b7 : Int) (w : World) (hc : 8 ≤ c0)
    (c0' : w.cell? ⟨b, off, none⟩ = some (.int .u8 b0)) (c1 : w.cell? ⟨b, off + 1, none⟩ = some (.int .u8 b1)) (c2 : w.cell? ⟨b, off + 2, none⟩ = some (.int .u8 b2)) (c3 : w.cell? ⟨b, off + 3, none⟩ = some (.int .u8 b3))
    (c4 : w.cell? ⟨b, off + 4, none⟩ = some (.int .u8 b4)) (c5 : w.cell? ⟨b, off + 5, none⟩ = some (.int .u8 b5)) (c6 : w.cell? ⟨b, off + 6, none⟩ = some (.int .u8 b6)) (c7 : w.cell? ⟨b, off + 7, none⟩ = some (.int .u8 b7))
    (g0 : 0 ≤ b0) (l0 : b0 ≤ 255) (g1 : 0 ≤ b1) (l1 : b1 ≤ 255) (g2 : 0 ≤ b2) (l2 : b2 ≤ 255) (g4 : 0 ≤ b4) (l4 : b4 ≤ 255) (g5 : 0 ≤ b5) (l5 : b5 ≤ 255) (g6 : 0 ≤ b6) (l6 : b6 ≤ 255) (g7 : 0 ≤ b7) (l7 : b7 ≤ 255) (h3 : b3 = 0) (hW : word_Wrap.f k (decImm b4 b5 b6 b7) 32 true = some z) (t : Bool) (hR : inst_Right.f k b0 (b1 / 16) (b1 % 16) b2 z = some t) :
    Calls Tryd.prog 13 #[.slice (some ⟨b, off, none⟩) 8 c0] w fun e w' => e = .returned (if t then .tuple #[.agg #[.int .i64 b0, .int .i64 (b1 / 16), .int .i64 (b1 % 16), .int .i64 b2, .int .i64 z], .int .i64 0] else .tuple #[.agg #[.int .i64 0, .int .i64 0, .int .i64 0, .int .i64 0, .int .i64 0], .int .i64 2]) ∧ Below w.heap.size w w' := by
  subst h3
  have HW := Aside0.mk hW
  have HR := Aside0.mk hR
  clear hW hR
  have hbl : b < w.heap.size := World.block_lt_of_cell? w _ c3
  have hu23 := Tryd.underlying23
  go_enter Tryd.func13, Tryd.ntmps13
  go_wp2_with fail
  refine wp_loop_rounds 5 ?_
  rw [rounds_succ]
  go_wp2_with fail
  rw [rounds_succ]
  go_wp2_with fail
  rw [rounds_succ]
  go_wp2_with fail
  rw [rounds_succ]
  go_wp2_with fail
  rw [rounds_succ]
  go_wp2_with fail
  obtain ⟨W, hW⟩ : ∃ W, w.alloc (.cells #[.int .i64 0, .int .i64 0, .int .i64 0, .int .i64 0, .int .i64 0] 23) = W := ⟨_, rfl⟩
  have hWb : Below w.heap.size w W := by rw [← hW]; exact below_alloc (Below.refl _ _) _
  have hX : W.heap[w.heap.size]? = some (.cells #[.int .i64 0, .int .i64 0, .int .i64 0, .int .i64 0, .int .i64 0] 23 (0, 0)) := by rw [← hW]; exact blk_new _ _
  have c0' := pw_cell_below hWb c0'
  have c1 := pw_cell_below hWb c1
  have c2 := pw_cell_below hWb c2
  rw [hW]
  generalize hm : bits .or .i64 (bits .or .i64 (bits .or .i64 (bits .or .i64 0 b4) (b5 * 256)) (b6 * 65536)) (b7 * 16777216) = m
  have HM : Aside0 (word_Wrap.f k m 32 true = some z) := ⟨by rw [← hm]; exact HW.out⟩
  clear hm HW
  have HX := Aside0.mk hX
  have HWb := Aside0.mk hWb
  clear hW hX hWb
  refine wp_region_rel 22 (fun i => if i = 21 then some [] else none) (fun _ => [21])
    (fun _ vs W' => ∃ g, vs = [.pointer (some ⟨g, 0, none⟩)] ∧ W.heap.size ≤ g ∧ W'.heap[g]? = some (.cells #[.int .i64 0, .int .i64 0, .int .i64 0, .int .i64 0, .int .i64 0] 23 (0, 0)))
    (fun w' => Below W.heap.size W w') (fun a b => Below a.heap.size a b) (by kernel_rfl) (by kernel_rfl) (below_drew (Below.refl _ _)) (fun a b h k => below_then h h.size k) (fun _ _ a b ⟨g, e, hg, h⟩ hab => ⟨g, e, hg, blk_below h hab⟩) ?_
  simp only [List.take_succ_cons, List.take_zero, List.drop_succ_cons, List.drop_zero]
  iterate 22 (first | (refine relQ_loud rfl ?_) | (apply relQ_step rfl; apply Exists.intro; constructor; focus (intro w' hw'; have d0 := pw_cell_below hw' c0'; have d1 := pw_cell_below hw' c1; have d2 := pw_cell_below hw' c2; unfold Yl; go_wp2_with (go_at_call 36; refine (word_Wrap.calls k _ _ _ z _ HM.out).mono ?_; rintro e w2 ⟨rfl, hd⟩; have hdb := hd.below); first | exact ⟨rfl, _, rfl, rfl, hdb⟩ | exact ⟨rfl, _, rfl, rfl, Below.refl _ _⟩)); (try simp only [Act.put, List.setIfInBounds_toArray, List.set_cons_zero, List.set_cons_succ]))
  refine relQ_nil (fun x => ?_)
  repeat (refine relL_quiet rfl ?_)
  refine relL_loud rfl (fun w' hw' _ => ?_) ?_
  · unfold Yl
    go_wp2_with fail
    exact ⟨rfl, _, rfl, below_alloc (Below.refl _ _) _, _, rfl, hw'.size, blk_new _ _⟩
  (try simp only [Act.put, List.setIfInBounds_toArray, List.set_cons_zero, List.set_cons_succ])
  refine relL_nil (fun w' hw' hR => ?_)
  obtain ⟨g, hg0, hg1, hg2⟩ := hR 21 (by decide) rfl
  have hxe : x 21 = .pointer (some ⟨g, 0, none⟩) := by simpa using hg0
  rw [hxe]
  clear hxe hg0 hR c0' c1 c2 c3 c4 c5 c6 c7
  have hWb' := below_then HWb.out HWb.out.size hw'
  have HX' := Aside0.mk (blk_below HX.out hw')
  have hgw := Nat.le_trans HWb.out.size hg1
  have hxl := blk_lt HX.out
  have hgl := blk_lt hg2
  have e0 := blk_cell hg2 0
  have e1 := blk_cell hg2 1
  have e2 := blk_cell hg2 2
  have e3 := blk_cell hg2 3
  have e4 := blk_cell hg2 4
  have f0 := blk_frozen hg2 0
  have f1 := blk_frozen hg2 1
  have f2 := blk_frozen hg2 2
  have f3 := blk_frozen hg2 3
  have f4 := blk_frozen hg2 4
  simp at e0 e1 e2 e3 e4
  have HG2 := Aside0.mk hg2
  have HWB := Aside0.mk hWb'
  clear hg2 hWb' hw'
  go_wp2_with fail
  have hG3 := blk_set (blk_set (blk_set (blk_set (blk_set HG2.out 0 (.int .i64 b0)) 1 (.int .i64 (b1 / 16))) 2 (.int .i64 (b1 % 16))) 3 (.int .i64 b2)) 4 (.int .i64 z)
  have hX3 := blk_far (blk_far (blk_far (blk_far (blk_far HX'.out (p := ⟨g, 0, none⟩) (by show w.heap.size ≠ g; omega) (.int .i64 b0)) (p := ⟨g, 1, none⟩) (by show w.heap.size ≠ g; omega) (.int .i64 (b1 / 16))) (p := ⟨g, 2, none⟩) (by show w.heap.size ≠ g; omega) (.int .i64 (b1 % 16))) (p := ⟨g, 3, none⟩) (by show w.heap.size ≠ g; omega) (.int .i64 b2)) (p := ⟨g, 4, none⟩) (by show w.heap.size ≠ g; omega) (.int .i64 z)
  have hB3 := ((((HWB.out.setCell (p := ⟨g, 0, none⟩) hgw (.int .i64 b0)).setCell (p := ⟨g, 1, none⟩) hgw (.int .i64 (b1 / 16))).setCell (p := ⟨g, 2, none⟩) hgw (.int .i64 (b1 % 16))).setCell (p := ⟨g, 3, none⟩) hgw (.int .i64 b2)).setCell (p := ⟨g, 4, none⟩) hgw (.int .i64 z)
  refine (inst_Right.calls k b0 (b1 / 16) (b1 % 16) b2 z t _ HR.out).mono ?_
  rintro e w4 ⟨rfl, hb4⟩
  have hG4 := blk_below hG3 hb4
  have hX4 := blk_below hX3 hb4
  have hB4 := below_then hB3 hB3.size hb4
  simp only [List.setIfInBounds_toArray, List.set_cons_zero, List.set_cons_succ] at hG4
  clear hG3 hX3 hB3 hb4 e0 e1 e2 e3 e4 f0 f1 f2 f3 f4 HG2 HWB HX' hgl
  have e0 := blk_cell hG4 0
  have e1 := blk_cell hG4 1
  have e2 := blk_cell hG4 2
  have e3 := blk_cell hG4 3
  have e4 := blk_cell hG4 4
  have x0 := blk_cell hX4 0
  have x1 := blk_cell hX4 1
  have x2 := blk_cell hX4 2
  have x3 := blk_cell hX4 3
  have x4 := blk_cell hX4 4
  have f0 := blk_frozen hX4 0
  have f1 := blk_frozen hX4 1
  have f2 := blk_frozen hX4 2
  have f3 := blk_frozen hX4 3
  have f4 := blk_frozen hX4 4
  simp at e0 e1 e2 e3 e4 x0 x1 x2 x3 x4
  have HB4 := Aside0.mk hB4
  clear hG4 hX4 hB4
  cases t with
  | true =>
    go_wp2_with fail
    refine bodyPost_ret (v := .tuple #[.agg #[.int .i64 b0, .int .i64 (b1 / 16), .int .i64 (b1 % 16), .int .i64 b2, .int .i64 z], .int .i64 0]) (by simp [results, Tryd.results13, go_sem, x0, x1, x2, x3, x4]) rfl ⟨rfl, ?_⟩
    exact ((((HB4.out.setCell (p := ⟨w.heap.size, 0, none⟩) (Nat.le_refl _) _).setCell (p := ⟨w.heap.size, 1, none⟩) (Nat.le_refl _) _).setCell (p := ⟨w.heap.size, 2, none⟩) (Nat.le_refl _) _).setCell (p := ⟨w.heap.size, 3, none⟩) (Nat.le_refl _) _).setCell (p := ⟨w.heap.size, 4, none⟩) (Nat.le_refl _) _
  | false =>
    go_wp2_with fail
    refine bodyPost_ret (v := .tuple #[.agg #[.int .i64 0, .int .i64 0, .int .i64 0, .int .i64 0, .int .i64 0], .int .i64 2]) (by simp [results, Tryd.results13, go_sem, x0, x1, x2, x3, x4]) rfl ⟨rfl, ?_⟩
    exact ((((HB4.out.setCell (p := ⟨w.heap.size, 0, none⟩) (Nat.le_refl _) _).setCell (p := ⟨w.heap.size, 1, none⟩) (Nat.le_refl _) _).setCell (p := ⟨w.heap.size, 2, none⟩) (Nat.le_refl _) _).setCell (p := ⟨w.heap.size, 3, none⟩) (Nat.le_refl _) _).setCell (p := ⟨w.heap.size, 4, none⟩) (Nat.le_refl _) _
end Go.Proofs.YtfdkhahpjbikiaaDoor.S
namespace Go.Proofs.YtfdkhahpjbikiaaDoor.S
open Go.RowKit Go.Proofs.YtfdkhahpjbikiaaDoorW.PrintWords Go.Proofs.YtfdkhahpjbikiaaDoorW.PrintLast Go.Proofs.YtfdkhahpjbikiaaDoorW.PrintMore Go.RelRegion
set_option linter.unusedVariables false
def zI : Value := .agg #[.int .i64 0, .int .i64 0, .int .i64 0, .int .i64 0, .int .i64 0]
set_option maxHeartbeats 8000000 in
theorem decLen (A0 : Option Addr) (n c0 : Nat) (w : World) (hn : n ≠ 8) (hm : n ≤ 9223372036854775807) :
    Calls Tryd.prog 13 #[.slice A0 n c0] w fun e w' => e = .returned (.tuple #[.agg #[.int .i64 0, .int .i64 0, .int .i64 0, .int .i64 0, .int .i64 0], .int .i64 2]) ∧ Below w.heap.size w w' := by
  have hu23 := Tryd.underlying23
  have h8 : ((n : Int) != 8) = true := bne_iff_ne.2 (by omega)
  go_enter Tryd.func13, Tryd.ntmps13
  go_wp2_with fail
  refine bodyPost_ret (v := .tuple #[.agg #[.int .i64 0, .int .i64 0, .int .i64 0, .int .i64 0, .int .i64 0], .int .i64 2]) (by simp [results, Tryd.results13, go_sem]) rfl ⟨rfl, ?_⟩
  repeat (first | (with_reducible exact Below.refl _ _) | (with_reducible apply below_alloc) | (with_reducible apply pw_below_drewN) | (with_reducible apply below_drew) | (with_reducible refine Below.setCell ?_ (by exact Nat.le_refl _) _))
set_option maxHeartbeats 8000000 in
theorem decZero (b off c0 : Nat) (b3 : Int) (w : World) (hc : 8 ≤ c0) (c3 : w.cell? ⟨b, off + 3, none⟩ = some (.int .u8 b3)) (h3 : b3 ≠ 0) :
    Calls Tryd.prog 13 #[.slice (some ⟨b, off, none⟩) 8 c0] w fun e w' => e = .returned (.tuple #[.agg #[.int .i64 0, .int .i64 0, .int .i64 0, .int .i64 0, .int .i64 0], .int .i64 2]) ∧ Below w.heap.size w w' := by
  have hu23 := Tryd.underlying23
  have hbl : b < w.heap.size := World.block_lt_of_cell? w _ c3
  have h8 : (b3 != 0) = true := bne_iff_ne.2 h3
  go_enter Tryd.func13, Tryd.ntmps13
  go_wp2_with fail
  refine bodyPost_ret (v := .tuple #[.agg #[.int .i64 0, .int .i64 0, .int .i64 0, .int .i64 0, .int .i64 0], .int .i64 2]) (by simp [results, Tryd.results13, go_sem]) rfl ⟨rfl, ?_⟩
  repeat (first | (with_reducible exact Below.refl _ _) | (with_reducible apply below_alloc) | (with_reducible apply pw_below_drewN) | (with_reducible apply below_drew) | (with_reducible refine Below.setCell ?_ (by exact Nat.le_refl _) _))

/-- Are these eight bytes, the fourth of which is 0? -/
def inst_Decode.f (k : Nat) (l : List Int) : Option (Int × Int × Int × Int × Int × Int) :=
  if l.length = 8 ∧ rd l 3 = 0 then
    if ∀ x ∈ l, 0 ≤ x ∧ x ≤ 255 then
      (word_Wrap.f k (decImm (rd l 4) (rd l 5) (rd l 6) (rd l 7)) 32 true).bind fun z =>
      (inst_Right.f k (rd l 0) (rd l 1 / 16) (rd l 1 % 16) (rd l 2) z).bind fun t =>
      if t = true then some (rd l 0, rd l 1 / 16, rd l 1 % 16, rd l 2, z, 0) else some (0, 0, 0, 0, 0, 2)
    else none
  else if l.length ≤ 9223372036854775807 then some (0, 0, 0, 0, 0, 2) else none
theorem inst_Decode.mono : ∀ a0 k, LeO (inst_Decode.f k a0) (inst_Decode.f (k + 1) a0) := by
  intro a0 k
  unfold inst_Decode.f
  refine LeO.ite (LeO.ite ?_ (LeO.none _)) (LeO.refl _)
  exact LeO.bind (word_Wrap.mono _ _ _ _) (fun _ => LeO.bind (inst_Right.mono _ _ _ _ _ _) (fun _ => LeO.refl _))
theorem inst_Decode.calls (k : Nat) (A0 : Option Addr) (c0 : Nat) (l0 : List Int) (r1 : Int) (r2 : Int) (r3 : Int) (r4 : Int) (r5 : Int) (r6 : Int) (w : World) (hr0 : Kd.C (Kd.int .u8) w A0 l0.length l0) (hc0 : l0.length ≤ c0) (h : inst_Decode.f k l0 = some (r1, r2, r3, r4, r5, r6)) :
    Calls Tryd.prog 13 #[.slice A0 l0.length c0] w fun e w' => e = .returned (.tuple #[.agg #[.int .i64 r1, .int .i64 r2, .int .i64 r3, .int .i64 r4, .int .i64 r5], .int .i64 r6]) ∧ Below w.heap.size w w' := by
  unfold inst_Decode.f at h
  by_cases h8 : l0.length = 8
  · obtain ⟨b, off, rfl, hc⟩ := kint_cells hr0 (by omega)
    rw [h8] at hc hc0 ⊢
    by_cases h3 : rd l0 3 = 0
    · rw [if_pos ⟨h8, h3⟩] at h
      split at h
      · rename_i hall
        cases hW : word_Wrap.f k (decImm (rd l0 4) (rd l0 5) (rd l0 6) (rd l0 7)) 32 true with
        | none => rw [hW] at h; cases h
        | some z =>
          rw [hW] at h
          simp only [Option.bind_some] at h
          cases hR : inst_Right.f k (rd l0 0) (rd l0 1 / 16) (rd l0 1 % 16) (rd l0 2) z with
          | none => rw [hR] at h; cases h
          | some t =>
            rw [hR] at h
            simp only [Option.bind_some] at h
            have hb : ∀ j, j < 8 → 0 ≤ l0.getD j 0 ∧ l0.getD j 0 ≤ 255 := fun j hj => by
              have hj' : j < l0.length := by omega
              have e : l0.getD j 0 = l0[j] := by simp [List.getD_eq_getElem?_getD, hj']
              rw [e]
              exact hall _ (List.getElem_mem _)
            refine (dec8 k z b off c0 (rd l0 0) (rd l0 1) (rd l0 2) (rd l0 3) (rd l0 4) (rd l0 5) (rd l0 6) (rd l0 7) w hc0 (hc 0 (by omega)) (hc 1 (by omega)) (hc 2 (by omega)) (hc 3 (by omega)) (hc 4 (by omega)) (hc 5 (by omega)) (hc 6 (by omega)) (hc 7 (by omega))
              (hb 0 (by omega)).1 (hb 0 (by omega)).2 (hb 1 (by omega)).1 (hb 1 (by omega)).2 (hb 2 (by omega)).1 (hb 2 (by omega)).2 (hb 4 (by omega)).1 (hb 4 (by omega)).2 (hb 5 (by omega)).1 (hb 5 (by omega)).2 (hb 6 (by omega)).1 (hb 6 (by omega)).2 (hb 7 (by omega)).1 (hb 7 (by omega)).2 h3 hW t hR).mono ?_
            rintro e w' ⟨rfl, hbw⟩
            refine ⟨?_, hbw⟩
            cases t with
            | true => rw [if_pos rfl] at h; injection h with h; injection h with e1 h; injection h with e2 h; injection h with e3 h; injection h with e4 h; injection h with e5 e6; subst e1 e2 e3 e4 e5 e6; rfl
            | false => rw [if_neg (by simp)] at h; injection h with h; injection h with e1 h; injection h with e2 h; injection h with e3 h; injection h with e4 h; injection h with e5 e6; subst e1 e2 e3 e4 e5 e6; rfl
      · cases h
    · rw [if_neg (fun h => h3 h.2), if_pos (by omega)] at h
      injection h with h; injection h with e1 h; injection h with e2 h; injection h with e3 h; injection h with e4 h; injection h with e5 e6; subst e1 e2 e3 e4 e5 e6
      exact decZero b off c0 _ w hc0 (hc 3 (by omega)) h3
  · rw [if_neg (fun h => h8 h.1)] at h
    split at h
    · injection h with h; injection h with e1 h; injection h with e2 h; injection h with e3 h; injection h with e4 h; injection h with e5 e6; subst e1 e2 e3 e4 e5 e6
      exact decLen A0 l0.length c0 w h8 ‹_›
    · cases h
end Go.Proofs.YtfdkhahpjbikiaaDoor.S
