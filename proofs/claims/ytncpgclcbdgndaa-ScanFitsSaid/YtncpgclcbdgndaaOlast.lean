import Derived.Test.YtncpgclcbdgndaaOlive
import Derived.Test.YtncpgclcbdgndaaRel
import Derived.Deep.RegionHeld3
import Derived.Test.YtncpgclcbdgndaaS3
namespace Go.Proofs.Ytncpgclcbdgndaa.S
open Go.RowKit Go.Proofs.YtncpgclcbdgndaaW.PrintWords Go.Proofs.YtncpgclcbdgndaaW.PrintLast Go.Proofs.YtncpgclcbdgndaaW.PrintMore Go.RelRegion
set_option linter.unusedVariables false
/-! ### last -/
def cmpi (a b : Int) : Int := if a < b then -1 else if a > b then 1 else 0
theorem cmpi_f (a b : Int) : cmp_Compare_int.f a b = some (cmpi a b) := by
  unfold cmp_Compare_int.f cmp_isNaN_int.f cmpi
  simp
  (repeat' split) <;> rfl
def or2 (a b : Int) : Int := if a = 0 then b else a
theorem or2_f (a b : Int) : cmp_Or_int.f 4 [a, b] = some (or2 a b) := by
  have e1 : wrap64 (0 + 1) = 1 := by decide +kernel
  have e2 : wrap64 (1 + 1) = 2 := by decide +kernel
  unfold cmp_Or_int.f or2
  rw [show (4 : Nat) = 3 + 1 from rfl]
  simp only [cmp_Or_int.l0, List.length_cons, List.length_nil]
  rw [if_pos (by decide), if_pos (by decide), if_pos (by decide)]
  have r0 : rd [a, b] 0 = a := rfl
  have r1 : rd [a, b] 1 = b := rfl
  rw [r0, e1]
  by_cases ha : a = 0
  · rw [if_pos ha, if_pos ha]
    rw [if_pos (by decide), if_pos (by decide), if_pos (by decide), r1, e2]
    by_cases hb : b = 0
    · rw [if_pos hb, if_neg (by decide), hb]
    · rw [if_neg hb]
  · rw [if_neg ha, if_neg ha]
theorem or_gt {T R : Nat → Int} {i b : Nat} : (0 < or2 (cmpi (T i) (T b)) (cmpi (R i) (R b))) ↔ Scan.gt T R i b = true := by
  rw [Scan.gt_iff]
  unfold or2 cmpi
  (repeat' split) <;> omega
/-- The longest so far, of those that were asked. -/
def LB (T R : Nat → Int) (a lf : List Nat) (k b : Nat) : Prop := b ∈ k :: a ∧ b ∉ lf ∧ ∀ i ∈ k :: a, i ∉ lf → i ≠ b → Scan.gt T R b i = true
theorem last_up {T R : Nat → Int} {a lf : List Nat} {k b i j : Nat} (hN : lf.Nodup ∧ ∀ i ∈ lf, i ∈ a) (hj : lf[j]? = some i) (h : LB T R a lf k b) (hg : Scan.gt T R i b = true) : LB T R a (lf.eraseIdx j) k i := by
  refine ⟨List.mem_cons_of_mem _ (hN.2 i (List.mem_of_getElem? hj)), fun hm => ((eraseIdx_mem hN.1 hj i).1 hm).2 rfl, fun x hx hnx hne => ?_⟩
  have hxl : x ∉ lf := fun hm => hnx ((eraseIdx_mem hN.1 hj x).2 ⟨hm, hne⟩)
  by_cases hxb : x = b
  · rw [hxb]; exact hg
  · exact Scan.gt_trans hg (h.2.2 x hx hxl hxb)
theorem last_stay {T R : Nat → Int} {a lf : List Nat} {k b i j : Nat} (hN : lf.Nodup ∧ ∀ i ∈ lf, i ∈ a) (hj : lf[j]? = some i) (h : LB T R a lf k b) (hR : ∀ i ∈ k :: a, ∀ j ∈ k :: a, i ≠ j → R i ≠ R j) (hg : ¬ Scan.gt T R i b = true) : LB T R a (lf.eraseIdx j) k b := by
  have hi : i ∈ lf := List.mem_of_getElem? hj
  have hib : i ≠ b := fun e => h.2.1 (e ▸ hi)
  refine ⟨h.1, fun hm => h.2.1 ((List.eraseIdx_sublist _ _).subset hm), fun x hx hnx hne => ?_⟩
  by_cases hxi : x = i
  · rw [hxi]
    exact Scan.gt_total (hR i (List.mem_cons_of_mem _ (hN.2 i hi)) b h.1 hib) hg
  · exact h.2.2 x hx (fun hm => hnx ((eraseIdx_mem hN.1 hj x).2 ⟨hm, hxi⟩)) hne
set_option maxHeartbeats 8000000 in
set_option maxRecDepth 100000 in
theorem last_any (w0 : World) (s : Nat) (A : Option Addr) (c : Nat) (l : List S38) (hb hc : Nat) (H : List S40) (mb : Nat) (a : List Nat) (sl : Int) (k : Nat) (w : World) (h : Sc w0 w s A c l hb hc H mb a sl) (ha : a.Nodup) (hal : ∀ i ∈ a, i < l.length) (hk : k < l.length) (hka : k ∉ a)
    (hR : ∀ i ∈ k :: a, ∀ j ∈ k :: a, i ≠ j → (rd_T38 l (i : Int)).f0 ≠ (rd_T38 l (j : Int)).f0) :
    Calls Try.prog 29 #[.pointer (some ⟨s, 0, none⟩), .int .i64 (k : Int)] w fun e w' => e = .returned (.int .i64 (Scan.last (fun i => (rd_T38 l (i : Int)).f2) (fun i => (rd_T38 l (i : Int)).f0) a k : Nat)) ∧ Below w.heap.size w w' := by
  have hu48 := Try.underlying48
  have hu38 := Try.underlying38
  obtain ⟨q0, q1, q2, q3⟩ := h.cells
  have hn : l.length ≤ 9223372036854775807 := h.hl0.2.1
  have HSC := Aside0.mk h
  have HA := Aside0.mk ha
  have HAL := Aside0.mk hal
  have HK := Aside0.mk hk
  have HKA := Aside0.mk hka
  have HR0 := Aside0.mk hR
  have hsl : s < w.heap.size := blk_lt h.hs
  have hml : mb < w.heap.size := h.hm.lt
  obtain ⟨T, hT⟩ : ∃ T : Nat → Int, T = fun i : Nat => (rd_T38 l (i : Int)).f2 := ⟨_, rfl⟩
  obtain ⟨R, hRR⟩ : ∃ R : Nat → Int, R = fun i : Nat => (rd_T38 l (i : Int)).f0 := ⟨_, rfl⟩
  rw [← hT, ← hRR]
  have HT := Aside0.mk hT
  have HRR := Aside0.mk hRR
  have HR1 : Aside0 (∀ i ∈ k :: a, ∀ j ∈ k :: a, i ≠ j → R i ≠ R j) := ⟨fun i hi j hj hij => by rw [hRR]; exact hR i hi j hj hij⟩
  clear h ha hal hk hR hT hRR HR0 hka
  go_enter Try.func29, Try.ntmps29
  go_wp2_with (at_range; refine IM.wpl_range _ rfl _ 46 rfl 3 4 Try.underlying46 mb _ rfl HSC.out.hm ?_; intro w1 hrg0 hg0 hs0; clear hs0)
  go_frame
  have HG0 := Aside0.mk hg0
  have HRG := Aside0.mk hrg0
  clear hg0 hrg0
  go_loopw [15, 5] (fun _ v wr => ∃ (lf : List Nat) (b : Nat), v = .int .i64 (b : Int) ∧ Aside0 (IM.Rng wr mb w.heap.size (akeys a) (akeys lf)) ∧ Aside0 (lf.Nodup ∧ ∀ i ∈ lf, i ∈ a) ∧ Aside0 (Below w.heap.size w wr) ∧ Aside0 (LB T R a lf k b)) (fun _ _ wr => wr.rangeLeft mb w.heap.size)
  case atStart => exact ⟨a, k, rfl, HRG, ⟨HA.out, fun _ h => h⟩, ⟨pw_below_grown (Below.refl _ _) none (Nat.le_refl _) HG0.out (fun k e => by cases e)⟩, ⟨by simp, HKA.out, fun i hi h1 h2 => by rcases List.mem_cons.1 hi with h | h; exact absurd h h2; exact absurd h h1⟩⟩
  case round =>
    clear HG0 HRG
    obtain ⟨lf, b, rfl, HR, HN, HB, HL⟩ := hrel
    go_wp2_with (at_next; refine wpl_next_set _ rfl _ rfl mb w.heap.size _ lf rfl HR.out ?_ ?_)
    · intro hl0
      have hl0 := hl0.out
      subst hl0
      go_wp2_with fail
      go_ret
      refine ⟨congrArg (fun x : Nat => Ending.returned (Value.int .i64 (x : Int))) ?_, HB.out⟩
      have h1 : Scan.IsLast T R (k :: a) b := ⟨HL.out.1, fun i hi hne => HL.out.2.2 i hi (by simp) hne⟩
      have h2 := Scan.last_spec (T := T) (R := R) a k HR1.out
      exact Scan.isLast_unique h1 h2 h1.1 h2.1
    · intro j i w2 hji hr1 hlt hg1 hen
      have HLT := Aside0.mk hlt.out
      have HJ := Aside0.mk hji.out
      have hil : i < l.length := HAL.out i (HN.out.2 i (List.mem_of_getElem? hji.out))
      have hbl : b < l.length := by
        rcases List.mem_cons.1 HL.out.1 with h | h
        · rw [h]; exact HK.out
        · exact HAL.out b h
      have hB2 : Below w.heap.size w w2 := pw_below_grown HB.out _ HB.out.size hg1 (fun k e => by cases e; exact Nat.le_refl _)
      have hS2 := HSC.out.below hB2
      obtain ⟨p0, p1, p2, p3⟩ := hS2.cells
      obtain ⟨ad, eA, i0, i1, i2⟩ := at_T38 hS2.hl (i : Int) (by omega) (by omega)
      obtain ⟨ad', eA', b0, b1, b2⟩ := at_T38 hS2.hl (b : Int) (by omega) (by omega)
      rw [eA] at eA'
      obtain rfl : ad = ad' := by injection eA'
      simp only [Int.toNat_natCast] at i0 i1 i2 b0 b1 b2
      have HTi : Aside0 ((rd_T38 l (i : Int)).f2 = T i ∧ (rd_T38 l (i : Int)).f0 = R i) := ⟨by rw [HT.out, HRR.out]; exact ⟨rfl, rfl⟩⟩
      have HTb : Aside0 ((rd_T38 l (b : Int)).f2 = T b ∧ (rd_T38 l (b : Int)).f0 = R b) := ⟨by rw [HT.out, HRR.out]; exact ⟨rfl, rfl⟩⟩
      generalize rd_T38 l (i : Int) = x at i0 i1 i2 HTi
      generalize rd_T38 l (b : Int) = y at b0 b1 b2 HTb
      have HB2 := Aside0.mk hB2
      have HR2 := Aside0.mk hr1
      have EA := Aside0.mk eA
      rw [eA] at p0
      clear hji hlt hg1 hS2 hr1 hB2 eA eA' p1 p2 p3 q0 q1 q2 q3
      go_wp2_with fail
      go_region_held3 (fun W => W.cell? ⟨s, 0, none⟩ = some (.slice (some ad) l.length c) ∧ W.cell? (ad.add (i * 3)) = some (.int .i64 x.f0) ∧ W.cell? ⟨(ad.add (i * 3)).block, (ad.add (i * 3)).off + 1, none⟩ = some (.int .i64 x.f1) ∧ W.cell? ⟨(ad.add (i * 3)).block, (ad.add (i * 3)).off + 2, none⟩ = some (.int .i64 x.f2) ∧ W.cell? (ad.add (b * 3)) = some (.int .i64 y.f0) ∧ W.cell? ⟨(ad.add (b * 3)).block, (ad.add (b * 3)).off + 1, none⟩ = some (.int .i64 y.f1) ∧ W.cell? ⟨(ad.add (b * 3)).block, (ad.add (b * 3)).off + 2, none⟩ = some (.int .i64 y.f2)) (go_keep) (fail)
      · go_wp2_with fail
        obtain ⟨W3, hW3⟩ : ∃ W3, ((w2.alloc (.cells #[.int .i64 x.f0, .int .i64 x.f1, .int .i64 x.f2] 38)).alloc (.cells #[.int .i64 y.f0, .int .i64 y.f1, .int .i64 y.f2] 38)).drew = W3 := ⟨_, rfl⟩
        have hb3 : Below w2.heap.size w2 W3 := by rw [← hW3]; exact below_drew (below_alloc (below_alloc (Below.refl _ _) _) _)
        have hA : W3.heap[w2.heap.size]? = some (.cells #[.int .i64 x.f0, .int .i64 x.f1, .int .i64 x.f2] 38 (0, 0)) := by rw [← hW3]; exact blk_drew (blk_alloc (blk_new w2 _) _)
        have hBb : W3.heap[w2.heap.size + 1]? = some (.cells #[.int .i64 y.f0, .int .i64 y.f1, .int .i64 y.f2] 38 (0, 0)) := by
          rw [← hW3]
          have := blk_drew (blk_new (w2.alloc (.cells #[.int .i64 x.f0, .int .i64 x.f1, .int .i64 x.f2] 38)) (.cells #[.int .i64 y.f0, .int .i64 y.f1, .int .i64 y.f2] 38))
          rwa [World.size_alloc] at this
        rw [hW3]
        have s0 := blk_cell hA 0
        have s2 := blk_cell hA 2
        have t0 := blk_cell hBb 0
        have t2 := blk_cell hBb 2
        simp at s0 s2 t0 t2
        have HB3 := Aside0.mk (below_then HB2.out HB2.out.size hb3)
        have HR3 : Aside0 (IM.Rng W3 mb w.heap.size (akeys a) (akeys (lf.eraseIdx j))) := ⟨HR2.out.kept (grown_of_below hb3 none) (by simp) (by simp)⟩
        clear hW3 hb3 hA hBb i0 i1 i2 b0 b1 b2 p0
        refine wp_region_rel 10 (fun _ => none) (fun _ => []) (fun _ _ _ => True) (fun w' => Below W3.heap.size W3 w') (fun a b => Below a.heap.size a b) (by kernel_rfl) (by kernel_rfl) (below_drew (Below.refl _ _)) (fun a b h k => below_then h h.size k) (fun _ _ _ _ h _ => h) ?_
        simp only [List.take_succ_cons, List.take_zero, List.drop_succ_cons, List.drop_zero]
        iterate 10 (apply relQ_step rfl; apply Exists.intro; constructor; (focus (intro w' hw'; have s0 := pw_cell_below hw' s0; have s2 := pw_cell_below hw' s2; have t0 := pw_cell_below hw' t0; have t2 := pw_cell_below hw' t2; unfold Yl; go_wp2_with (go_at_call 42; refine (cmp_Compare_int.calls _ _ _ _ (cmpi_f _ _)).mono ?_; rintro e w2' ⟨rfl, hd⟩; have hdb := hd.below); first | exact ⟨rfl, _, rfl, rfl, hdb⟩ | exact ⟨rfl, _, rfl, rfl, Below.refl _ _⟩)); (try simp only [Act.put, List.setIfInBounds_toArray, List.set_cons_zero, List.set_cons_succ]))
        refine relQ_nil (fun xx => ?_)
        repeat (refine relL_quiet rfl ?_)
        refine relL_nil (fun w' hw' _ => ?_)
        clear s0 s2 t0 t2
        have HW4 := Aside0.mk hw'
        have HB4 := Aside0.mk (below_then HB3.out HB3.out.size hw')
        have HR4 : Aside0 (IM.Rng w' mb w.heap.size (akeys a) (akeys (lf.eraseIdx j))) := ⟨HR3.out.kept (grown_of_below hw' none) (by simp) (by simp)⟩
        clear hw'
        rw [HTi.out.1, HTi.out.2, HTb.out.1, HTb.out.2]
        have hcell := C_of_blk (k := .i64) (t := 3) [cmpi (T i) (T b), cmpi (R i) (R b)] (blk_new w' (.cells #[.int .i64 (cmpi (T i) (T b)), .int .i64 (cmpi (R i) (R b))] 3)) (by simp)
        have HC := Aside0.mk (cmp_Or_int.calls 4 _ 2 _ _ _ hcell (by simp) (or2_f _ _))
        clear hcell
        by_cases hgt : Scan.gt T R i b = true
        · have hd1 : decide (0 < or2 (cmpi (T i) (T b)) (cmpi (R i) (R b))) = true := decide_eq_true (or_gt.2 hgt)
          have HGT := Aside0.mk hgt
          clear hgt
          go_wp2_with (go_at_call 41; refine HC.out.mono ?_; rintro e w5 ⟨rfl, hd⟩)
          have HD := Aside0.mk hd.below
          go_roundw
          case rel => exact ⟨lf.eraseIdx j, i, rfl, ⟨HR4.out.kept (grown_of_below (below_step (below_alloc (Below.refl _ _) _) HD.out) none) (by simp) (by simp)⟩, ⟨HN.out.1.sublist (List.eraseIdx_sublist _ _), fun x hx => HN.out.2 x ((List.eraseIdx_sublist _ _).subset hx)⟩, ⟨below_then (HB4.out.alloc HB4.out.size _) (by rw [World.size_alloc]; have := HB4.out.size; omega) HD.out⟩, ⟨last_up HN.out HJ.out HL.out HGT.out⟩⟩
          case measure => rw [(HR4.out.kept (grown_of_below (below_step (below_alloc (Below.refl _ _) _) HD.out) none) (by simp) (by simp)).left_eq, ← HR2.out.left_eq]; exact HLT.out
        · have hd1 : decide (0 < or2 (cmpi (T i) (T b)) (cmpi (R i) (R b))) = false := decide_eq_false (fun h => hgt (or_gt.1 h))
          have HGT := Aside0.mk hgt
          clear hgt
          go_wp2_with (go_at_call 41; refine HC.out.mono ?_; rintro e w5 ⟨rfl, hd⟩)
          have HD := Aside0.mk hd.below
          go_roundw
          case rel => exact ⟨lf.eraseIdx j, b, rfl, ⟨HR4.out.kept (grown_of_below (below_step (below_alloc (Below.refl _ _) _) HD.out) none) (by simp) (by simp)⟩, ⟨HN.out.1.sublist (List.eraseIdx_sublist _ _), fun x hx => HN.out.2 x ((List.eraseIdx_sublist _ _).subset hx)⟩, ⟨below_then (HB4.out.alloc HB4.out.size _) (by rw [World.size_alloc]; have := HB4.out.size; omega) HD.out⟩, ⟨last_stay HN.out HJ.out HL.out HR1.out HGT.out⟩⟩
          case measure => rw [(HR4.out.kept (grown_of_below (below_step (below_alloc (Below.refl _ _) _) HD.out) none) (by simp) (by simp)).left_eq, ← HR2.out.left_eq]; exact HLT.out
      · go_wp2_with fail
        obtain ⟨W3, hW3⟩ : ∃ W3, ((w2.alloc (.cells #[.int .i64 y.f0, .int .i64 y.f1, .int .i64 y.f2] 38)).alloc (.cells #[.int .i64 x.f0, .int .i64 x.f1, .int .i64 x.f2] 38)).drew = W3 := ⟨_, rfl⟩
        have hb3 : Below w2.heap.size w2 W3 := by rw [← hW3]; exact below_drew (below_alloc (below_alloc (Below.refl _ _) _) _)
        have hA : W3.heap[w2.heap.size]? = some (.cells #[.int .i64 y.f0, .int .i64 y.f1, .int .i64 y.f2] 38 (0, 0)) := by rw [← hW3]; exact blk_drew (blk_alloc (blk_new w2 _) _)
        have hBb : W3.heap[w2.heap.size + 1]? = some (.cells #[.int .i64 x.f0, .int .i64 x.f1, .int .i64 x.f2] 38 (0, 0)) := by
          rw [← hW3]
          have := blk_drew (blk_new (w2.alloc (.cells #[.int .i64 y.f0, .int .i64 y.f1, .int .i64 y.f2] 38)) (.cells #[.int .i64 x.f0, .int .i64 x.f1, .int .i64 x.f2] 38))
          rwa [World.size_alloc] at this
        rw [hW3]
        have s0 := blk_cell hA 0
        have s2 := blk_cell hA 2
        have t0 := blk_cell hBb 0
        have t2 := blk_cell hBb 2
        simp at s0 s2 t0 t2
        have HB3 := Aside0.mk (below_then HB2.out HB2.out.size hb3)
        have HR3 : Aside0 (IM.Rng W3 mb w.heap.size (akeys a) (akeys (lf.eraseIdx j))) := ⟨HR2.out.kept (grown_of_below hb3 none) (by simp) (by simp)⟩
        clear hW3 hb3 hA hBb i0 i1 i2 b0 b1 b2 p0
        refine wp_region_rel 10 (fun _ => none) (fun _ => []) (fun _ _ _ => True) (fun w' => Below W3.heap.size W3 w') (fun a b => Below a.heap.size a b) (by kernel_rfl) (by kernel_rfl) (below_drew (Below.refl _ _)) (fun a b h k => below_then h h.size k) (fun _ _ _ _ h _ => h) ?_
        simp only [List.take_succ_cons, List.take_zero, List.drop_succ_cons, List.drop_zero]
        iterate 10 (apply relQ_step rfl; apply Exists.intro; constructor; (focus (intro w' hw'; have s0 := pw_cell_below hw' s0; have s2 := pw_cell_below hw' s2; have t0 := pw_cell_below hw' t0; have t2 := pw_cell_below hw' t2; unfold Yl; go_wp2_with (go_at_call 42; refine (cmp_Compare_int.calls _ _ _ _ (cmpi_f _ _)).mono ?_; rintro e w2' ⟨rfl, hd⟩; have hdb := hd.below); first | exact ⟨rfl, _, rfl, rfl, hdb⟩ | exact ⟨rfl, _, rfl, rfl, Below.refl _ _⟩)); (try simp only [Act.put, List.setIfInBounds_toArray, List.set_cons_zero, List.set_cons_succ]))
        refine relQ_nil (fun xx => ?_)
        repeat (refine relL_quiet rfl ?_)
        refine relL_nil (fun w' hw' _ => ?_)
        clear s0 s2 t0 t2
        have HW4 := Aside0.mk hw'
        have HB4 := Aside0.mk (below_then HB3.out HB3.out.size hw')
        have HR4 : Aside0 (IM.Rng w' mb w.heap.size (akeys a) (akeys (lf.eraseIdx j))) := ⟨HR3.out.kept (grown_of_below hw' none) (by simp) (by simp)⟩
        clear hw'
        rw [HTi.out.1, HTi.out.2, HTb.out.1, HTb.out.2]
        have hcell := C_of_blk (k := .i64) (t := 3) [cmpi (T i) (T b), cmpi (R i) (R b)] (blk_new w' (.cells #[.int .i64 (cmpi (T i) (T b)), .int .i64 (cmpi (R i) (R b))] 3)) (by simp)
        have HC := Aside0.mk (cmp_Or_int.calls 4 _ 2 _ _ _ hcell (by simp) (or2_f _ _))
        clear hcell
        by_cases hgt : Scan.gt T R i b = true
        · have hd1 : decide (0 < or2 (cmpi (T i) (T b)) (cmpi (R i) (R b))) = true := decide_eq_true (or_gt.2 hgt)
          have HGT := Aside0.mk hgt
          clear hgt
          go_wp2_with (go_at_call 41; refine HC.out.mono ?_; rintro e w5 ⟨rfl, hd⟩)
          have HD := Aside0.mk hd.below
          go_roundw
          case rel => exact ⟨lf.eraseIdx j, i, rfl, ⟨HR4.out.kept (grown_of_below (below_step (below_alloc (Below.refl _ _) _) HD.out) none) (by simp) (by simp)⟩, ⟨HN.out.1.sublist (List.eraseIdx_sublist _ _), fun x hx => HN.out.2 x ((List.eraseIdx_sublist _ _).subset hx)⟩, ⟨below_then (HB4.out.alloc HB4.out.size _) (by rw [World.size_alloc]; have := HB4.out.size; omega) HD.out⟩, ⟨last_up HN.out HJ.out HL.out HGT.out⟩⟩
          case measure => rw [(HR4.out.kept (grown_of_below (below_step (below_alloc (Below.refl _ _) _) HD.out) none) (by simp) (by simp)).left_eq, ← HR2.out.left_eq]; exact HLT.out
        · have hd1 : decide (0 < or2 (cmpi (T i) (T b)) (cmpi (R i) (R b))) = false := decide_eq_false (fun h => hgt (or_gt.1 h))
          have HGT := Aside0.mk hgt
          clear hgt
          go_wp2_with (go_at_call 41; refine HC.out.mono ?_; rintro e w5 ⟨rfl, hd⟩)
          have HD := Aside0.mk hd.below
          go_roundw
          case rel => exact ⟨lf.eraseIdx j, b, rfl, ⟨HR4.out.kept (grown_of_below (below_step (below_alloc (Below.refl _ _) _) HD.out) none) (by simp) (by simp)⟩, ⟨HN.out.1.sublist (List.eraseIdx_sublist _ _), fun x hx => HN.out.2 x ((List.eraseIdx_sublist _ _).subset hx)⟩, ⟨below_then (HB4.out.alloc HB4.out.size _) (by rw [World.size_alloc]; have := HB4.out.size; omega) HD.out⟩, ⟨last_stay HN.out HJ.out HL.out HR1.out HGT.out⟩⟩
          case measure => rw [(HR4.out.kept (grown_of_below (below_step (below_alloc (Below.refl _ _) _) HD.out) none) (by simp) (by simp)).left_eq, ← HR2.out.left_eq]; exact HLT.out
end Go.Proofs.Ytncpgclcbdgndaa.S
