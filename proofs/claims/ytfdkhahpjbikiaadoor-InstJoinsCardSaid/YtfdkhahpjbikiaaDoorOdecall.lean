import Derived.RangeFuncNested
import Derived.RangeFuncBound
import Derived.RangeFuncCalls
import Derived.RangeFuncLeaves
import Derived.RangeFuncBox
import Derived.Shelf.Abstract
import Derived.Shelf.RegionOpen
import Derived.WalkKit
import Derived.OwnWalkIn
import Derived.TacticsInMore
import Derived.LoopNIn
import Derived.LoopIn
import Derived.Maps.AppendAt
import Derived.Test.YtfdkhahpjbikiaaDoorRel
import Derived.Test.YtfdkhahpjbikiaaDoorS0
import Derived.Test.YtfdkhahpjbikiaaDoorOdec
import Derived.Lib.ItoaMem
namespace Go.Proofs
open Go.RowKit Go.Shelf Go.RelRegion Go.Proofs.YtfdkhahpjbikiaaDoorW.PrintWords Go.Proofs.YtfdkhahpjbikiaaDoorW.PrintLast Go.Proofs.YtfdkhahpjbikiaaDoorW.PrintMore
attribute [local go_sem] max2_int min2_int max_two min_two
attribute [local go_sem] Oper.semAt_some
/-- The k-th piece of eight bytes. -/
def chunkV (b off len : Nat) (k : Nat) : Value := .slice (some ⟨b, off + 8 * k, none⟩) (min 8 (len - 8 * k)) (min 8 (len - 8 * k))
theorem range_succ_ (k : Nat) : List.range (k + 1) = List.range k ++ [k] := List.range_succ
/-- What a round keeps: whatever lay below n0, and the iterator's two boxes. -/
def ChunkK (n₀ Bs Bn : Nat) (A B : World) : Prop := Below n₀ A B ∧ (∀ v, A.cell? ⟨Bs, 0, none⟩ = some v → B.cell? ⟨Bs, 0, none⟩ = some v) ∧ (∀ v, A.cell? ⟨Bn, 0, none⟩ = some v → B.cell? ⟨Bn, 0, none⟩ = some v)
theorem ChunkK.trans {n₀ Bs Bn : Nat} {A B C : World} (h : ChunkK n₀ Bs Bn A B) (k : ChunkK n₀ Bs Bn B C) : ChunkK n₀ Bs Bn A C := ⟨h.1.trans k.1, fun v hv => k.2.1 v (h.2.1 v hv), fun v hv => k.2.2 v (h.2.2 v hv)⟩
theorem ChunkK.refl (n₀ Bs Bn : Nat) (A : World) : ChunkK n₀ Bs Bn A A := ⟨Below.refl _ _, fun _ h => h, fun _ h => h⟩
set_option maxRecDepth 100000 in
set_option maxHeartbeats 2000000 in
theorem Tryd.chunk1_in (n : Nat) (hn : 1 ≤ n) (l Bs Bn n₀ hs0 b off len cap : Nat) (hlc : len ≤ cap) (hlen : len ≤ 1000000000) (hn0 : n₀ ≤ hs0) (J Jx : List Nat → World → Prop) (hJ : ∀ s A B, J s A → Below A.heap.size A B → J s B)
    (hY : ∀ pre x W, J pre W → pre.length < (len + 7) / 8 → x < (len + 7) / 8 → YieldAt Fence.wide (n - 1) Tryd.prog l #[chunkV b off len x] W fun e W' =>
      (e = .returned (.bool true) ∧ J (pre ++ [x]) W' ∧ ChunkK n₀ Bs Bn W W') ∨ (e = .returned (.bool false) ∧ Jx (pre ++ [x]) W'))
    (W : World) (hW0 : hs0 ≤ W.heap.size) (hBs : W.cell? ⟨Bs, 0, none⟩ = some (.slice (some ⟨b, off, none⟩) len cap)) (hBn : W.cell? ⟨Bn, 0, none⟩ = some (.int .i64 8)) (h0 : J [] W) :
    CallsIn Fence.wide n Tryd.prog 46 #[.func (.yield l) #[] #[], .pointer (some ⟨Bs, 0, none⟩), .pointer (some ⟨Bn, 0, none⟩)] W fun e W' => (∃ v, e = .returned v) ∧
      ((∃ ys, ys = List.range ((len + 7) / 8) ∧ J ys W') ∨ (∃ pre, (∃ k, k < (len + 7) / 8 ∧ pre = List.range (k + 1)) ∧ Jx pre W')) := by
  refine callsIn_of_wp Tryd.func46 rfl trivial ?_ rfl
  simp only [Tryd.ntmps46, List.size_toArray, List.length_cons, List.length_nil, Nat.reduceAdd, Nat.reduceSub, Array.replicate_succ, Array.replicate_zero, List.push_toArray, List.append_toArray, List.nil_append, List.cons_append]
  gi_wp2
  gi_loopw [4] (fun i wr => ∃ k : Nat, k ≤ (len + 7) / 8 ∧ i = .int .i64 ((8 * k : Nat) : Int) ∧ J (List.range k) wr ∧ ChunkK n₀ Bs Bn W wr)
    (fun i _ => len + 8 - (intOf i).toNat)
  case atStart => exact ⟨0, Nat.zero_le _, rfl, h0, ChunkK.refl _ _ _ _⟩
  case round =>
    obtain ⟨k, hk, rfl, hJs, hnx⟩ := hrel
    have cBs := hnx.2.1 _ hBs
    have cBn := hnx.2.2 _ hBn
    by_cases hlt : 8 * k < len
    · obtain ⟨m, hm⟩ : ∃ m, min 8 (len - 8 * k) = m := ⟨_, rfl⟩
      have hm1 : 8 * k + m ≤ len := by omega
      have hm2 : m ≤ 8 := by omega
      gi_wp2
      refine wpIn_wide.2 ?_
      refine wp_region_rel 6 (fun _ => none) (fun _ => []) (fun _ _ _ => True) (fun w' => Below wr.heap.size wr w') (fun a b => Below a.heap.size a b) (by kernel_rfl) (by kernel_rfl) (below_drew (Below.refl _ _)) (fun a b h k => below_then h h.size k) (fun _ _ _ _ _ _ => trivial) ?_
      simp only [List.take_succ_cons, List.take_zero, List.drop_succ_cons, List.drop_zero]
      iterate 5 (apply relQ_step rfl; apply Exists.intro; constructor; (focus (intro w' hw'; have cBs := pw_cell_below hw' cBs; have cBn := pw_cell_below hw' cBn; unfold Yl; go_wp2_with fail; exact ⟨rfl, _, rfl, rfl, Below.refl _ _⟩)); (try simp only [Act.put, List.setIfInBounds_toArray, List.set_cons_zero, List.set_cons_succ]))
      refine relQ_quiet rfl (.int .i64 (m : Int)) (fun w' hw' => ?_) ?_
      · unfold Yl
        go_wp2_with fail
        all_goals (first | (exfalso; omega) | exact ⟨rfl, _, rfl, by simp only [Value.int.injEq, true_and]; omega, Below.refl _ _⟩)
      (try simp only [Act.put, List.setIfInBounds_toArray, List.set_cons_zero, List.set_cons_succ])
      refine relQ_nil (fun x => ?_)
      repeat (refine relL_quiet rfl ?_)
      refine relL_nil (fun w3 hb hR' => ?_)
      have cBs := pw_cell_below hb cBs
      have cBn := pw_cell_below hb cBn
      have hwr : W.heap.size ≤ wr.heap.size := hnx.1.size
      have hnx3 : ChunkK n₀ Bs Bn W w3 := hnx.trans ⟨hb.mono (by omega), fun v hv => pw_cell_below hb hv, fun v hv => pw_cell_below hb hv⟩
      obtain ⟨fn, tmps, assign, body, hy, hR⟩ := hY _ k w3 (hJ _ _ _ hJs hb) (by rw [List.length_range]; omega) (by omega)
      unfold chunkV at hy
      rw [hm] at hy
      clear hR' hb
      go_wp2_with fail
      gi_wp2
      refine hR.mono ?_
      rintro e W3 (⟨rfl, hJ3, hk3⟩ | ⟨rfl, hJx3⟩)
      · have hnx4 := hnx3.trans hk3
        have cBn := hnx4.2.2 _ hBn
        clear cBs hnx3 hk3 hy
        gi_wp2
        go_roundw
        case rel => exact ⟨k + 1, by omega, by (congr 1 <;> omega), by rw [range_succ_]; exact hJ3, hnx4⟩
        case measure => (simp [intOf]; try omega)
      · gi_wp2
        refine bodyPost_ret (results_none rfl _ _ _) rfl ?_
        exact ⟨⟨_, rfl⟩, .inr ⟨_, ⟨k, by omega, (range_succ_ k).symm⟩, hJx3⟩⟩
    · have hk' : k = (len + 7) / 8 := by omega
      gi_wp2
      go_end0
      exact ⟨⟨_, rfl⟩, .inl ⟨_, by rw [hk'], hJs⟩⟩
set_option maxRecDepth 100000 in
set_option maxHeartbeats 2000000 in
/-- .. no bytes: no round. -/
theorem Tryd.chunk1_nil_in (n : Nat) (l Bs Bn cap : Nat) (A : Option Addr) (J : List Nat → World → Prop) (W : World) (hBs : W.cell? ⟨Bs, 0, none⟩ = some (.slice A 0 cap)) (h0 : J [] W) :
    CallsIn Fence.wide n Tryd.prog 46 #[.func (.yield l) #[] #[], .pointer (some ⟨Bs, 0, none⟩), .pointer (some ⟨Bn, 0, none⟩)] W fun e W' => (∃ v, e = .returned v) ∧ J [] W' := by
  refine callsIn_of_wp Tryd.func46 rfl trivial ?_ rfl
  simp only [Tryd.ntmps46, List.size_toArray, List.length_cons, List.length_nil, Nat.reduceAdd, Nat.reduceSub, Array.replicate_succ, Array.replicate_zero, List.push_toArray, List.append_toArray, List.nil_append, List.cons_append]
  gi_wp2
  gi_loopw [4] (fun i wr => i = .int .i64 0 ∧ J [] wr ∧ wr = W) (fun _ _ => 0)
  case atStart => exact ⟨rfl, h0, rfl⟩
  case round =>
    obtain ⟨rfl, hJs, rfl⟩ := hrel
    gi_wp2
    go_end0
    exact ⟨⟨_, rfl⟩, hJs⟩
set_option maxHeartbeats 2000000 in
/-- slices.Chunk(s, 8): two boxes; the function value captures them. -/
theorem Tryd.chunk_in (n : Nat) (A : Option Addr) (len cap : Nat) (w : World) :
    CallsIn Fence.wide n Tryd.prog 43 #[.slice A len cap, .int .i64 8] w fun e w' => e = .returned (.func (.func 46) #[] #[.pointer (some ⟨w.heap.size, 0, none⟩), .pointer (some ⟨w.heap.size + 1, 0, none⟩)]) ∧ w' = (w.alloc (.cells #[.slice A len cap] 24)).alloc (.cells #[.int .i64 8] 3) := by
  refine callsIn_of_wp Tryd.func43 rfl trivial ?_ rfl
  simp only [Tryd.ntmps43, List.size_toArray, List.length_cons, List.length_nil, Nat.reduceAdd, Nat.reduceSub, Array.replicate_succ, Array.replicate_zero, List.push_toArray, List.append_toArray, List.nil_append, List.cons_append]
  gi_wp2
  go_ret
  exact ⟨rfl, rfl⟩
/-- slices.Chunk(s, 8) hands back a value that stops as it should: all pieces, in their order; or those up to one at which a round has said no more. -/
theorem Tryd.chunk_stops (n : Nat) (hn : 1 ≤ n) (Bs Bn n₀ b off len cap : Nat) (A : Option Addr) (hA : len = 0 ∨ A = some ⟨b, off, none⟩) (hlc : len ≤ cap) (hlen : len ≤ 1000000000) (w : World)
    (hs : Bs < w.heap.size) (hb : Bn < w.heap.size) (hn₀ : n₀ ≤ w.heap.size) (hBs : w.cell? ⟨Bs, 0, none⟩ = some (.slice A len cap)) (hBn : w.cell? ⟨Bn, 0, none⟩ = some (.int .i64 8)) :
    SeqStopsK Fence.wide n Tryd.prog 46 #[.pointer (some ⟨Bs, 0, none⟩), .pointer (some ⟨Bn, 0, none⟩)] (fun k : Nat => #[chunkV b off len (min k ((len + 7) / 8 - 1))]) (ChunkK n₀ Bs Bn) (fun ys => ys = List.range ((len + 7) / 8))
      (fun pre => ∃ k, k < (len + 7) / 8 ∧ pre = List.range (k + 1)) ((len + 7) / 8) w := fun l J Jx W hW hJ _ hY h0 => by
  have cS := pw_cell_below hW hBs
  have cN := pw_cell_below hW hBn
  rcases Nat.eq_zero_or_pos len with h | h
  · subst h
    exact (Tryd.chunk1_nil_in n l Bs Bn cap A J W cS h0).mono fun e W' ⟨he, hj⟩ => ⟨he, .inl ⟨_, rfl, hj⟩⟩
  · obtain rfl : A = some ⟨b, off, none⟩ := by rcases hA with h' | h'; omega; exact h'
    exact Tryd.chunk1_in n hn l Bs Bn n₀ w.heap.size b off len cap hlc hlen hn₀ J Jx (fun s A B hj hk => hJ s A B none hj ⟨hk.os, hk.tape, hk.output, hk.size, fun j hj _ => hk.block j hj⟩ (by simp)) (fun pre x W1 h1 h2 h3 => by have h : YieldAt Fence.wide (n - 1) Tryd.prog l #[chunkV b off len (min x ((len + 7) / 8 - 1))] W1 _ := hY pre x W1 h1 h2; rw [show min x ((len + 7) / 8 - 1) = x by omega] at h; exact h) W hW.size cS cN h0
end Go.Proofs
namespace Go.Proofs.YtfdkhahpjbikiaaDoor.S
open Go.RowKit Go.Shelf Go.RelRegion Go.Proofs.YtfdkhahpjbikiaaDoorW.PrintWords Go.Proofs.YtfdkhahpjbikiaaDoorW.PrintLast Go.Proofs.YtfdkhahpjbikiaaDoorW.PrintMore
set_option linter.unusedVariables false
attribute [local go_sem] Oper.semAt_some
theorem infoI23 : (Tryd.prog.info? 23).map (fun i => (i.zero, i.size, i.bytes)) = some (some (.agg #[.int .i64 0, .int .i64 0, .int .i64 0, .int .i64 0, .int .i64 0]), 5, 40) := by kernel_rfl
def cells5 (x : S23) : List Value := [.int .i64 x.f0, .int .i64 x.f1, .int .i64 x.f2, .int .i64 x.f3, .int .i64 x.f4]
theorem cells_new (W : World) (cs : List Value) (t : TypeId) : ∀ (j : Nat) (u : Value), cs[j]? = some u → (W.alloc (.cells cs.toArray t)).cell? ((⟨W.heap.size, 0, none⟩ : Addr).add j) = some u := by
  intro j u h
  rw [Lib.add_plain, Nat.zero_add, blk_cell (blk_new W _) j]
  simpa using h
theorem box_app {W2 w1 : World} {S B k : Nat} {t : TypeId} {u v : Value} {xs : List Value} {tmp : Obj} (hq : Boxed W2 B t u) (hte : t ≠ 23) (hrow : W2.ownsRow S 23 5 v k xs) (hgrow : (W2.alloc tmp).grownBy w1 v.ownBlock) (hne : B ≠ S + 2) (v' : Value) : Boxed (w1.setCell ⟨S + 2, 0, none⟩ v') B t u :=
  ((hq.alloc tmp).kept hgrow (hq.not_row hte hrow)).other hne v'
set_option maxRecDepth 100000 in
set_option maxHeartbeats 4000000 in
theorem decall_in (K : Nat) (A : Option Addr) (b off len cap : Nat) (l : List Int) (D : Nat → S23 × Int) (w : World) (hl : l.length = len) (hA : len = 0 ∨ A = some ⟨b, off, none⟩) (hlc : len ≤ cap) (hlen : len ≤ 8388615)
    (hc : ∀ j, j < len → w.cell? ⟨b, off + j, none⟩ = some (.int .u8 (l.getD j 0)))
    (hD : ∀ j, j < (len + 7) / 8 → inst_Decode.f K ((l.drop (8 * j)).take 8) = some ((D j).1.f0, (D j).1.f1, (D j).1.f2, (D j).1.f3, (D j).1.f4, (D j).2)) :
    CallsIn Fence.wide 5 Tryd.prog 25 #[.slice A len cap] w fun e W' => ((∀ j, j < (len + 7) / 8 → (D j).2 = 0) ∧ ∃ v, e = .returned (.tuple #[v, .int .i64 0]) ∧ W'.ownsRow w.heap.size 23 5 v ((len + 7) / 8) ((List.range ((len + 7) / 8)).flatMap fun j => cells5 (D j).1) ∧ Below w.heap.size w W') ∨
      ((∃ q, q < (len + 7) / 8 ∧ (∀ j, j < q → (D j).2 = 0) ∧ (D q).2 ≠ 0 ∧ e = .returned (.tuple #[.slice none 0 0, .int .i64 (D q).2])) ∧ Below w.heap.size w W') := by
  obtain ⟨i0, hi, hz0, hz1, hz2⟩ := info_parts infoI23
  refine callsIn_of_wp_marks Tryd.func25 rfl trivial ?_ rfl
  simp only [Tryd.ntmps25, List.size_toArray, List.length_cons, List.length_nil, Nat.reduceAdd, Nat.reduceSub, Array.replicate_succ, Array.replicate_zero, List.push_toArray, List.append_toArray, List.nil_append, List.cons_append]
  have h8 : ¬ (1048576 : Int) < (len : Int) / 8 := by omega
  gi_wp2_with (refine ⟨trivial, ?_⟩; gi_at_call 43; refine (Tryd.chunk_in _ _ _ _ _).mono ?_; rintro e w' ⟨rfl, rfl⟩)
  obtain ⟨S, hS⟩ : ∃ S, w.heap.size = S := ⟨_, rfl⟩
  have bR := Boxed.new w 39 (.slice none 0 0)
  have bE := Boxed.new (w.alloc (.cells #[.slice none 0 0] 39)) 26 (.int .i64 0)
  have bO := Boxed.new ((w.alloc (.cells #[.slice none 0 0] 39)).alloc (.cells #[.int .i64 0] 26)) 39 (.slice none 0 0)
  obtain ⟨w3, hw3⟩ : ∃ w3, ((w.alloc (.cells #[.slice none 0 0] 39)).alloc (.cells #[.int .i64 0] 26)).alloc (.cells #[.slice none 0 0] 39) = w3 := ⟨_, rfl⟩
  have hz3 : w3.heap.size = S + 3 := by rw [← hw3, ← hS]; simp [World.size_alloc]
  have bR3 : Boxed w3 S 39 (.slice none 0 0) := by rw [← hw3, ← hS]; exact (bR.alloc _).alloc _
  have bE3 : Boxed w3 (S + 1) 26 (.int .i64 0) := by rw [← hw3, ← hS]; simpa [World.size_alloc] using bE.alloc _
  have bO3 : Boxed w3 (S + 2) 39 (.slice none 0 0) := by rw [← hw3, ← hS]; simpa [World.size_alloc] using bO
  have hB3 : Below S w w3 := by rw [← hw3, ← hS]; exact (((Below.refl _ w).alloc (Nat.le_refl _) _).alloc (by simp) _).alloc (by simp; omega) _
  have e1 : w.heap.size + 1 = S + 1 := by rw [hS]
  rw [hw3]
  simp only [hS, hz3, Nat.add_assoc, Nat.reduceAdd]
  have bS := Boxed.new w3 24 (.slice A len cap)
  have bN := Boxed.new (w3.alloc (.cells #[.slice A len cap] 24)) 3 (.int .i64 8)
  obtain ⟨w5, hw5⟩ : ∃ w5, (w3.alloc (.cells #[.slice A len cap] 24)).alloc (.cells #[.int .i64 8] 3) = w5 := ⟨_, rfl⟩
  have hz5 : w5.heap.size = S + 5 := by rw [← hw5]; simp [World.size_alloc, hz3]
  have bR5 : Boxed w5 S 39 (.slice none 0 0) := by rw [← hw5]; exact (bR3.alloc _).alloc _
  have bE5 : Boxed w5 (S + 1) 26 (.int .i64 0) := by rw [← hw5]; exact (bE3.alloc _).alloc _
  have bO5 : Boxed w5 (S + 2) 39 (.slice none 0 0) := by rw [← hw5]; exact (bO3.alloc _).alloc _
  have bS5 : Boxed w5 (S + 3) 24 (.slice A len cap) := by rw [← hw5]; rw [hz3] at bS; exact bS.alloc _
  have bN5 : Boxed w5 (S + 4) 3 (.int .i64 8) := by rw [← hw5]; simpa [World.size_alloc, hz3] using bN
  have hB5 : Below S w w5 := by rw [← hw5]; exact (hB3.alloc (by omega) _).alloc (by simp [World.size_alloc]; omega) _
  rw [hw5]
  clear hw5 hw3 bR bE bO bS bN bR3 bE3 bO3 hB3 e1 hz3
  obtain ⟨N, hN⟩ : ∃ N, (len + 7) / 8 = N := ⟨_, rfl⟩
  obtain ⟨cl, hcl⟩ : ∃ cl : Nat → Nat, cl = fun j => min j (N - 1) := ⟨_, rfl⟩
  have hst := Tryd.chunk_stops 4 (by decide) (S + 3) (S + 4) S b off len cap A hA hlc (by omega) w5 (by omega) (by omega) (by omega) bS5.cell bN5.cell
  rw [hN] at hst hD
  refine wpIn_rangeFunc_ownF rfl (by decide) (gf := 46) (lb := #[.pointer (some ⟨S + 3, 0, none⟩), .pointer (some ⟨S + 4, 0, none⟩)]) rfl trivial (enters_of Tryd.func46 (by kernel_rfl) rfl)
    hst (fun h k => h.trans k) (fun W l o o' hl ho hnc _ => ?kb) (Below.refl _ _) (fun _ => rfl)
    (fun pre W => (∃ v, Boxed W (S + 2) 39 v ∧ W.ownsRow S 23 5 v pre.length (pre.flatMap fun j => cells5 (D (cl j)).1) ∧ ∀ j ∈ pre, (D (cl j)).2 = 0) ∧ Boxed W S 39 (.slice none 0 0) ∧ Boxed W (S + 1) 26 (.int .i64 0) ∧ Boxed W (S + 3) 24 (.slice A len cap) ∧ Boxed W (S + 4) 3 (.int .i64 8) ∧ Below S w W)
    (fun c pre W => (∃ p x, c = .ret ∧ pre = p ++ [x] ∧ (∀ j ∈ p, (D (cl j)).2 = 0) ∧ (D (cl x)).2 ≠ 0) ∧ Boxed W S 39 (.slice none 0 0) ∧ (∃ x, pre.getLast? = some x ∧ Boxed W (S + 1) 26 (.int .i64 (D (cl x)).2)) ∧ Below S w W)
    ?hI ?hIx ⟨⟨_, bO5, World.ownsRow_nil _ _ _ _, by simp⟩, bR5, bE5, bS5, bN5, hB5⟩
    (fun x => { tmps := #[.slice A len cap, undef, .pointer (some ⟨S, 0, none⟩), .pointer (some ⟨S + 1, 0, none⟩), .pointer (some ⟨S + 2, 0, none⟩), chunkV b off len (min x (N - 1)), undef, undef, .slice A len cap, .int .i64 (len : Int), .int .i64 ((len : Int) / 8), .bool false, .slice A len cap, .func (.func 46) #[] #[.pointer (some ⟨S + 3, 0, none⟩), .pointer (some ⟨S + 4, 0, none⟩)], chunkV b off len (min x (N - 1)), undef, undef, undef, undef, undef, undef, undef, undef, undef, undef, undef, undef, undef], defers := [] }) ?assign ?body ?done ?stop
  case kb =>
    have hg := grownBy_putObj' W l o'
    have hS5 : S + 5 ≤ l := by omega
    exact ⟨(Below.refl S W).grown hg (by have := (Array.getElem?_eq_some_iff.1 ho).1; omega) (fun k e => by cases e; omega), fun v hv => cell_kept hv hg (fun r e => by cases e; exact ⟨_, ho, hnc⟩), fun v hv => cell_kept hv hg (fun r e => by cases e; exact ⟨_, ho, hnc⟩)⟩
  case hI =>
    refine OwnFrom.and (Own.from (holdsRow_own S (S + 2) 39 23 5 (fun pre : List Nat => pre.length) (fun pre => pre.flatMap fun j => cells5 (D (cl j)).1) (fun pre v => ∀ j ∈ pre, (D (cl j)).2 = 0)) _) ?_
    exact OwnFrom.and (Own.from (boxed_own S 39 fun _ => .slice none 0 0) _) (OwnFrom.and (Own.from (boxed_own (S + 1) 26 fun _ => .int .i64 0) _) (OwnFrom.and (Own.from (boxed_own (S + 3) 24 fun _ => .slice A len cap) _) (OwnFrom.and (Own.from (boxed_own (S + 4) 3 fun _ => .int .i64 8) _) (ownFrom_below (by omega) (by omega)))))
  case hIx =>
    intro c
    refine OwnFrom.and (fun s W W' row hs hg hr => hs) ?_
    refine OwnFrom.and (Own.from (boxed_own S 39 fun _ => .slice none 0 0) _) (OwnFrom.and ?_ (ownFrom_below (by omega) (by omega)))
    rintro s W W' row ⟨x, hx, hb⟩ hg hr
    exact ⟨x, hx, hb.kept hg (fun e => by obtain ⟨_, o, ho, hc⟩ := hr _ e.symm; rw [show W.heap[S + 1]? = _ from hb] at ho; cases ho; cases hc)⟩
  case assign =>
    intro l x W K hK
    gi_wp2
    exact hK
  case body =>
    rintro lr pre x W ⟨⟨v, hv, hrow, hz⟩, hR, hE, hS3, hN3, hB⟩ hlt
    have hclx : cl x = min x (N - 1) := by rw [hcl]
    rw [← hclx]
    have hxN : cl x < N := by rw [hclx]; omega
    generalize hy : cl x = y at hxN ⊢
    clear hclx
    have hDy := hD y hxN
    have hpl : ((l.drop (8 * y)).take 8).length = min 8 (len - 8 * y) := by simp [hl]
    have hbS : b < S := by rw [← hS]; exact World.block_lt_of_cell? w _ (hc 0 (by omega))
    have hC : Kd.C (Kd.int .u8) W (some ⟨b, off + 8 * y, none⟩) ((l.drop (8 * y)).take 8).length ((l.drop (8 * y)).take 8) :=
      Kd.C_of_reads (enc := Value.int .u8) (d := (0 : Int)) (h1 := fun _ => rfl) ⟨rfl, by rw [hpl]; omega, fun _ => ⟨_, rfl, fun j hj => by
        have hj' : 8 * y + j < len := by rw [hpl] at hj; omega
        have hj8 : j < 8 := by rw [hpl] at hj; omega
        rw [show (⟨b, off + 8 * y, none⟩ : Addr).add j = ⟨b, off + (8 * y + j), none⟩ by rw [Lib.add_plain, Nat.add_assoc]]
        rw [(hB.cell (p := ⟨b, off + (8 * y + j), none⟩) hbS).trans (hc _ hj')]
        simp [List.getD_eq_getElem?_getD, hj8]⟩⟩
    have hcall := inst_Decode.calls K (some ⟨b, off + 8 * y, none⟩) (min 8 (len - 8 * y)) _ _ _ _ _ _ _ W hC (by rw [hpl]; exact Nat.le_refl _) hDy
    rw [hpl] at hcall
    unfold chunkV
    by_cases hzz : (D y).2 = 0
    · have hne : ((D y).2 != 0) = false := by simp [hzz]
      have mk : ∀ W1 : World, Below W.heap.size W W1 → Below S w W1 ∧ Boxed (W1.alloc (.cells #[.int .i64 (D y).1.f0, .int .i64 (D y).1.f1, .int .i64 (D y).1.f2, .int .i64 (D y).1.f3, .int .i64 (D y).1.f4] 23)) (S + 2) 39 v ∧ (W1.alloc (.cells #[.int .i64 (D y).1.f0, .int .i64 (D y).1.f1, .int .i64 (D y).1.f2, .int .i64 (D y).1.f3, .int .i64 (D y).1.f4] 23)).ownsRow S 23 5 v pre.length (pre.flatMap fun j => cells5 (D (cl j)).1) ∧ S ≤ (W1.alloc (.cells #[.int .i64 (D y).1.f0, .int .i64 (D y).1.f1, .int .i64 (D y).1.f2, .int .i64 (D y).1.f3, .int .i64 (D y).1.f4] 23)).heap.size := by
        intro W1 hb1
        have g1 : W.grownBy W1 none := ⟨hb1.os, hb1.tape, hb1.output, hb1.size, fun k hk _ => hb1.block k hk⟩
        have hB1 : Below S w W1 := below_then hB (by have := hB.size; omega) hb1
        have hrow1 := hrow.kept g1 (Classical.em _)
        refine ⟨hB1, (hv.kept g1 (by simp)).alloc _, hrow1.alloc _, ?_⟩
        rw [World.size_alloc]
        have := hB1.size
        omega
      gi_wp2_with (first | (refine ⟨trivial, ?_⟩; gi_at_call 13; refine (CallsIn.inRound lr (callsIn_wide.2 hcall)).mono ?_; rintro e W1 ⟨rfl, hb1⟩; have g1 : W.grownBy W1 none := ⟨hb1.os, hb1.tape, hb1.output, hb1.size, fun k hk _ => hb1.block k hk⟩; have hv1 := hv.kept g1 (by simp); have hR1 := hR.kept g1 (by simp); have hE1 := hE.kept g1 (by simp); have c4 := hv1.cell; have c2 := hR1.cell; have c3 := hE1.cell; have f4 := hv1.frozen; have f2 := hR1.frozen; have f3 := hE1.frozen; have l4 := hv1.lt; have l2 := hR1.lt; have l3 := hE1.lt; obtain ⟨hB1, hv2, hrow2, hz2s⟩ := mk W1 hb1) | (gi_at_builtin; refine wpListIn_append_own _ rfl _ _ 39 rfl S 23 i0 (.agg #[.int .i64 0, .int .i64 0, .int .i64 0, .int .i64 0, .int .i64 0]) 5 40 Tryd.underlying39 hi hz0 hz1 hz2 rfl (by decide) _ _ _ rfl (hrow2.alloc _) ⟨W1.heap.size + 1, 0, none⟩ 1 1 (cells5 (D y).1) rfl rfl (by have h := cells_new (W1.alloc (.cells #[.int .i64 (D y).1.f0, .int .i64 (D y).1.f1, .int .i64 (D y).1.f2, .int .i64 (D y).1.f3, .int .i64 (D y).1.f4] 23)) (cells5 (D y).1) 23; rw [World.size_alloc] at h; exact h) (by simp [cells5, Value.oneCell']) (by simp [maxLen]; omega) (by omega) (by have := hB1.size; simp; omega) ?_; intro v' w1 hown' hgrow _; obtain ⟨g', cap', rfl⟩ := ownsRow_succ hown'; obtain ⟨hv3, hv4, hr4, hk4, hb4⟩ := hv2.appended (by decide) hrow2 hz2s (by omega) hown' hgrow; have hc5 := hv3.cell; have hf5 := hv3.frozen))
      have pR := box_app ((hR.kept g1 (by simp)).alloc (.cells #[.int .i64 (D y).1.f0, .int .i64 (D y).1.f1, .int .i64 (D y).1.f2, .int .i64 (D y).1.f3, .int .i64 (D y).1.f4] 23)) (by decide) hrow2 hgrow (by omega) (.slice (some ⟨g', 0, none⟩) (pre.length + 1) cap')
      have pE := box_app ((hE.kept g1 (by simp)).alloc (.cells #[.int .i64 (D y).1.f0, .int .i64 (D y).1.f1, .int .i64 (D y).1.f2, .int .i64 (D y).1.f3, .int .i64 (D y).1.f4] 23)) (by decide) hrow2 hgrow (by omega) (.slice (some ⟨g', 0, none⟩) (pre.length + 1) cap')
      have pS := box_app ((hS3.kept g1 (by simp)).alloc (.cells #[.int .i64 (D y).1.f0, .int .i64 (D y).1.f1, .int .i64 (D y).1.f2, .int .i64 (D y).1.f3, .int .i64 (D y).1.f4] 23)) (by decide) hrow2 hgrow (by omega) (.slice (some ⟨g', 0, none⟩) (pre.length + 1) cap')
      have pN := box_app ((hN3.kept g1 (by simp)).alloc (.cells #[.int .i64 (D y).1.f0, .int .i64 (D y).1.f1, .int .i64 (D y).1.f2, .int .i64 (D y).1.f3, .int .i64 (D y).1.f4] 23)) (by decide) hrow2 hgrow (by omega) (.slice (some ⟨g', 0, none⟩) (pre.length + 1) cap')
      have hBW : Below S W (W1.alloc (.cells #[.int .i64 (D y).1.f0, .int .i64 (D y).1.f1, .int .i64 (D y).1.f2, .int .i64 (D y).1.f3, .int .i64 (D y).1.f4] 23)) := ((hb1.mono (by have := hB.size; omega)).alloc (by have := hB1.size; omega) _)
      refine ⟨(KeepsOthers.of_grownBy g1 (by simp)).trans ((KeepsOthers.alloc _ _).trans hk4), ⟨hBW.trans hb4, fun u hu => ?_, fun u hu => ?_⟩, ⟨_, hv4, ?_, ?_⟩, pR, pE, pS, pN, ?_⟩
      · rw [hS3.cell] at hu; rw [← hu]; exact pS.cell
      · rw [hN3.cell] at hu; rw [← hu]; exact pN.cell
      · simpa [List.flatMap_append, hy] using hr4
      · intro j hj
        simp only [List.mem_append, List.mem_singleton] at hj
        rcases hj with hj | rfl
        · exact hz j hj
        · rw [hy]; exact hzz
      · exact (hB1.alloc (by have := hB1.size; omega) _).trans hb4
    · have hne : ((D y).2 != 0) = true := bne_iff_ne.2 hzz
      gi_wp2_with (refine ⟨trivial, ?_⟩; gi_at_call 13; refine (CallsIn.inRound lr (callsIn_wide.2 hcall)).mono ?_; rintro e W1 ⟨rfl, hb1⟩; have g1 : W.grownBy W1 none := ⟨hb1.os, hb1.tape, hb1.output, hb1.size, fun k hk _ => hb1.block k hk⟩; have hv1 := hv.kept g1 (by simp); have hR1 := hR.kept g1 (by simp); have hE1 := hE.kept g1 (by simp); have c4 := hv1.cell; have c2 := hR1.cell; have c3 := hE1.cell; have f4 := hv1.frozen; have f2 := hR1.frozen; have f3 := hE1.frozen; have l4 := hv1.lt; have l2 := hR1.lt; have l3 := hE1.lt)
      have hB1 : Below S w W1 := below_then hB (by have := hB.size; omega) hb1
      refine ⟨(KeepsOthers.of_grownBy g1 (by simp)).trans ((KeepsOthers.setCell _ _ _).trans ((KeepsOthers.setCell _ _ _).trans (KeepsOthers.alloc _ _))), ⟨pre, x, rfl, rfl, hz, by rw [hy]; exact hzz⟩, ((hR1.set _).other (by omega) _).alloc _, ⟨x, by simp, by rw [hy]; exact ((hE1.other (by omega) _).set _).alloc _⟩, ?_⟩
      exact ((hB1.setCell (p := ⟨S, 0, none⟩) (Nat.le_refl _) _).setCell (p := ⟨S + 1, 0, none⟩) (by show S ≤ S + 1; omega) _).alloc (by have := hB1.size; simp; omega) _
  case done =>
    rintro Dd ys W hDd rfl ⟨⟨v, hv, hrow, hz⟩, hR, hE, hS3, hN3, hB⟩ hK
    subst hS
    subst hN
    have hclj : ∀ j, j < (len + 7) / 8 → cl j = j := fun j hj => by rw [hcl]; show min j _ = j; omega
    have hflat : (List.range ((len + 7) / 8)).flatMap (fun j => cells5 (D (cl j)).1) = (List.range ((len + 7) / 8)).flatMap fun j => cells5 (D j).1 := by
      rw [List.flatMap_def, List.flatMap_def, List.map_congr_left fun j hj => by rw [hclj j (List.mem_range.1 hj)]]
    rw [List.length_range] at hrow
    have hrow' := hrow
    rcases hrow'.2 with ⟨rfl, hn0⟩ | ⟨g, cap', cur, rfl, hgS, hgb, _⟩
    · have c4 := hv.cell
      have c2 := hR.cell
      have c3 := hE.cell
      have f2 := hR.frozen
      have f3 := hE.frozen
      gi_wp2
      have hR' : Boxed ((W.setCell ⟨w.heap.size, 0, none⟩ (.slice none 0 0)).setCell ⟨w.heap.size + 1, 0, none⟩ (.int .i64 0)) w.heap.size 39 (.slice none 0 0) := (hR.set _).other (by omega) _
      have hE' : Boxed ((W.setCell ⟨w.heap.size, 0, none⟩ (.slice none 0 0)).setCell ⟨w.heap.size + 1, 0, none⟩ (.int .i64 0)) (w.heap.size + 1) 26 (.int .i64 0) := (hE.other (by omega) _).set _
      have hK' := ((KeepsOthers.setCell W ⟨w.heap.size, 0, none⟩ (.slice none 0 0)).trans (KeepsOthers.setCell _ ⟨w.heap.size + 1, 0, none⟩ (.int .i64 0))).same Dd _ hK rfl
      have hrow2 := hrow.kept (grownBy_setCell' W w.heap.size (.slice none 0 0)) (.inr (hR.not_row (by decide) hrow).symm)
      have hrow3 := hrow2.kept (grownBy_setCell' (W.setCell ⟨w.heap.size, 0, none⟩ (.slice none 0 0)) (w.heap.size + 1) (.int .i64 0)) (.inr ((hE.other (by omega) _).not_row (by decide) hrow2).symm)
      refine ⟨by simp, .inl ⟨_, _, rfl, run_takeDeferred hK', ?_⟩⟩
      have hcR := cell_kept hR'.cell (grownBy_putObj' _ Dd (.deferred none)) (fun r e => by cases e; exact ⟨_, hK', rfl⟩)
      have hcE := cell_kept hE'.cell (grownBy_putObj' _ Dd (.deferred none)) (fun r e => by cases e; exact ⟨_, hK', rfl⟩)
      have hrow4 := ownsRow_putObj hrow3 (.deferred none) hK' rfl
      rw [hflat] at hrow4
      refine ⟨.tuple #[(.slice none 0 0), .int .i64 0], by simp [results, Tryd.results25, go_sem, hcR, hcE], .inl ⟨fun j hj => ?_, (.slice none 0 0), rfl, hrow4, ?_⟩⟩
      · have := hz j (List.mem_range.2 hj)
        rwa [hclj j hj] at this
      · exact ((hB.setCell (p := ⟨w.heap.size, 0, none⟩) (Nat.le_refl _) _).setCell (p := ⟨w.heap.size + 1, 0, none⟩) (by show w.heap.size ≤ w.heap.size + 1; omega) _).trans (belowK_b (w := w) (Nat.le_refl _) _ Dd _ _ (by omega) hK' rfl rfl)
    · have c4 := hv.cell
      have c2 := hR.cell
      have c3 := hE.cell
      have f2 := hR.frozen
      have f3 := hE.frozen
      gi_wp2
      have hR' : Boxed ((W.setCell ⟨w.heap.size, 0, none⟩ (.slice (some ⟨g, 0, none⟩) ((len + 7) / 8) cap')).setCell ⟨w.heap.size + 1, 0, none⟩ (.int .i64 0)) w.heap.size 39 (.slice (some ⟨g, 0, none⟩) ((len + 7) / 8) cap') := (hR.set _).other (by omega) _
      have hE' : Boxed ((W.setCell ⟨w.heap.size, 0, none⟩ (.slice (some ⟨g, 0, none⟩) ((len + 7) / 8) cap')).setCell ⟨w.heap.size + 1, 0, none⟩ (.int .i64 0)) (w.heap.size + 1) 26 (.int .i64 0) := (hE.other (by omega) _).set _
      have hK' := ((KeepsOthers.setCell W ⟨w.heap.size, 0, none⟩ (.slice (some ⟨g, 0, none⟩) ((len + 7) / 8) cap')).trans (KeepsOthers.setCell _ ⟨w.heap.size + 1, 0, none⟩ (.int .i64 0))).same Dd _ hK rfl
      have hrow2 := hrow.kept (grownBy_setCell' W w.heap.size (.slice (some ⟨g, 0, none⟩) ((len + 7) / 8) cap')) (.inr (hR.not_row (by decide) hrow).symm)
      have hrow3 := hrow2.kept (grownBy_setCell' (W.setCell ⟨w.heap.size, 0, none⟩ (.slice (some ⟨g, 0, none⟩) ((len + 7) / 8) cap')) (w.heap.size + 1) (.int .i64 0)) (.inr ((hE.other (by omega) _).not_row (by decide) hrow2).symm)
      refine ⟨by simp, .inl ⟨_, _, rfl, run_takeDeferred hK', ?_⟩⟩
      have hcR := cell_kept hR'.cell (grownBy_putObj' _ Dd (.deferred none)) (fun r e => by cases e; exact ⟨_, hK', rfl⟩)
      have hcE := cell_kept hE'.cell (grownBy_putObj' _ Dd (.deferred none)) (fun r e => by cases e; exact ⟨_, hK', rfl⟩)
      have hrow4 := ownsRow_putObj hrow3 (.deferred none) hK' rfl
      rw [hflat] at hrow4
      refine ⟨.tuple #[(.slice (some ⟨g, 0, none⟩) ((len + 7) / 8) cap'), .int .i64 0], by simp [results, Tryd.results25, go_sem, hcR, hcE], .inl ⟨fun j hj => ?_, (.slice (some ⟨g, 0, none⟩) ((len + 7) / 8) cap'), rfl, hrow4, ?_⟩⟩
      · have := hz j (List.mem_range.2 hj)
        rwa [hclj j hj] at this
      · exact ((hB.setCell (p := ⟨w.heap.size, 0, none⟩) (Nat.le_refl _) _).setCell (p := ⟨w.heap.size + 1, 0, none⟩) (by show w.heap.size ≤ w.heap.size + 1; omega) _).trans (belowK_b (w := w) (Nat.le_refl _) _ Dd _ _ (by omega) hK' rfl rfl)
  case stop =>
    rintro Dd c pre W hDd ⟨q, hq, hpre⟩ ⟨⟨p, x, rfl, hp, hz, hbad⟩, hR, ⟨y, hy, hE⟩, hB⟩ hK
    subst hS
    subst hN
    have c2 := hR.cell
    have c3 := hE.cell
    gi_wp2
    refine ⟨by simp, .inl ⟨_, _, rfl, run_takeDeferred hK, ?_⟩⟩
    have hcR := cell_kept hR.cell (grownBy_putObj' _ Dd (.deferred none)) (fun r e => by cases e; exact ⟨_, hK, rfl⟩)
    have hcE := cell_kept hE.cell (grownBy_putObj' _ Dd (.deferred none)) (fun r e => by cases e; exact ⟨_, hK, rfl⟩)
    have hclj : ∀ j, j < (len + 7) / 8 → cl j = j := fun j hj => by rw [hcl]; show min j _ = j; omega
    rw [hpre, range_succ_] at hp
    obtain ⟨rfl, e2⟩ := List.append_inj' hp rfl
    obtain rfl : q = x := by simpa using e2
    have hyq : y = q := by rw [hpre, range_succ_] at hy; simpa using hy.symm
    subst hyq
    rw [hclj y hq] at hbad hcE
    refine ⟨.tuple #[.slice none 0 0, .int .i64 (D y).2], by simp [results, Tryd.results25, go_sem, hcR, hcE], .inr ⟨⟨y, hq, fun j hj => ?_, hbad, rfl⟩, ?_⟩⟩
    · have := hz j (List.mem_range.2 hj)
      rwa [hclj j (by omega)] at this
    · exact hB.trans (belowK_b (w := w) (Nat.le_refl _) W Dd _ _ (by omega) hK rfl rfl)
end Go.Proofs.YtfdkhahpjbikiaaDoor.S
namespace Go.Proofs.YtfdkhahpjbikiaaDoor.S
open Go.RowKit Go.Proofs.YtfdkhahpjbikiaaDoorW.PrintWords Go.Proofs.YtfdkhahpjbikiaaDoorW.PrintLast Go.Proofs.YtfdkhahpjbikiaaDoorW.PrintMore
set_option linter.unusedVariables false
/-- The j-th piece of eight bytes. -/
def piece (l : List Int) (j : Nat) : List Int := (l.drop (8 * j)).take 8
def decD (k : Nat) (l : List Int) (j : Nat) : S23 × Int :=
  match inst_Decode.f k (piece l j) with
  | some t => (⟨t.1, t.2.1, t.2.2.1, t.2.2.2.1, t.2.2.2.2.1⟩, t.2.2.2.2.2)
  | none => (z23, 0)
def inst_DecodeAll.f (k : Nat) (l : List Int) : Option (List S23 × Int) :=
  if l.length ≤ 8388615 then
    if ∀ j, j < (l.length + 7) / 8 → (inst_Decode.f k (piece l j)).isSome = true then
      (match (List.range ((l.length + 7) / 8)).find? (fun j => (decD k l j).2 != 0) with
      | none => some ((List.range ((l.length + 7) / 8)).map fun j => (decD k l j).1, 0)
      | some q => some ([], (decD k l q).2))
    else none
  else if l.length ≤ 9223372036854775807 then some ([], 5) else none
theorem decD_mono {k : Nat} {l : List Int} {j : Nat} (h : (inst_Decode.f k (piece l j)).isSome = true) : (inst_Decode.f (k + 1) (piece l j)).isSome = true ∧ decD (k + 1) l j = decD k l j := by
  obtain ⟨t, ht⟩ := Option.isSome_iff_exists.1 h
  have h2 := inst_Decode.mono (piece l j) k t ht
  exact ⟨by rw [h2]; rfl, by unfold decD; rw [ht, h2]⟩
theorem inst_DecodeAll.mono : ∀ a0 k, LeO (inst_DecodeAll.f k a0) (inst_DecodeAll.f (k + 1) a0) := by
  intro l k r h
  unfold inst_DecodeAll.f at h ⊢
  split at h
  · rename_i hl
    rw [if_pos hl]
    split at h
    · rename_i ha
      rw [if_pos fun j hj => (decD_mono (ha j hj)).1]
      have e : ∀ j ∈ List.range ((l.length + 7) / 8), decD (k + 1) l j = decD k l j := fun j hj => (decD_mono (ha j (List.mem_range.1 hj))).2
      have e1 : (List.range ((l.length + 7) / 8)).find? (fun j => (decD (k + 1) l j).2 != 0) = (List.range ((l.length + 7) / 8)).find? (fun j => (decD k l j).2 != 0) := by
        have : ∀ (xs : List Nat), (∀ j ∈ xs, decD (k + 1) l j = decD k l j) → xs.find? (fun j => (decD (k + 1) l j).2 != 0) = xs.find? (fun j => (decD k l j).2 != 0) := by
          intro xs
          induction xs with
          | nil => intro _; rfl
          | cons x xs ih => intro hx; simp only [List.find?_cons, hx x (by simp)]; rw [ih fun j hj => hx j (by simp [hj])]
        exact this _ e
      rw [e1, List.map_congr_left fun j hj => by rw [e j hj]]
      cases hf : (List.range ((l.length + 7) / 8)).find? (fun j => (decD k l j).2 != 0) with
      | none => rw [hf] at h; exact h
      | some q =>
        rw [hf] at h
        have hq := List.mem_of_find?_eq_some hf
        simp only at h ⊢
        rw [e q hq]; exact h
    · cases h
  · rename_i hl
    rw [if_neg hl]
    exact h
theorem reps5 (w : World) (base : Nat) (ok : Nat → Prop) (f : Nat → S23) : ∀ xs : List Nat, Reps (k23.M w base ok) 5 (xs.map f) (xs.flatMap fun j => cells5 (f j))
  | [] => Reps.none _ _
  | x :: xs => by
    have h1 : Reps (k23.M w base ok) 5 [f x] (cells5 (f x)) := by
      have := (Reps.none (k23.M w base ok) 5).snoc (k23_mkM w base ok (f x)) (c := cells5 (f x)) rfl
      simpa using this
    have := Kd.reps_append h1 (reps5 w base ok f xs)
    simpa using this
set_option maxHeartbeats 8000000 in
theorem decall_long (A : Option Addr) (n c0 : Nat) (w : World) (hn : 8388615 < n) (hm : n ≤ 9223372036854775807) :
    Calls Tryd.prog 25 #[.slice A n c0] w fun e w' => e = .returned (.tuple #[.slice none 0 0, .int .i64 5]) ∧ Below w.heap.size w w' := by
  have h8 : (1048576 : Int) < (n : Int) / 8 := by omega
  go_enter Tryd.func25, Tryd.ntmps25
  go_wp2_with fail
  refine bodyPost_ret (v := .tuple #[.slice none 0 0, .int .i64 5]) (by simp [results, Tryd.results25, go_sem]) rfl ⟨rfl, ?_⟩
  repeat (first | (with_reducible exact Below.refl _ _) | (with_reducible apply below_alloc) | (with_reducible apply pw_below_drewN) | (with_reducible apply below_drew))
theorem inst_DecodeAll.calls (k : Nat) (A0 : Option Addr) (c0 : Nat) (l0 : List Int) (r1 : List (S23)) (r2 : Int) (w : World) (hr0 : Kd.C (Kd.int .u8) w A0 l0.length l0) (hc0 : l0.length ≤ c0) (h : inst_DecodeAll.f k l0 = some (r1, r2)) :
    Calls Tryd.prog 25 #[.slice A0 l0.length c0] w fun e w' => ∃ v0_ : Value, e = .returned (.tuple #[v0_, .int .i64 r2]) ∧ Kd.R k23 23 w' w.heap.size (fun _ => True) v0_ r1 ∧ Below w.heap.size w w' := by
  unfold inst_DecodeAll.f at h
  split at h
  · rename_i hl
    split at h
    · rename_i ha
      obtain ⟨b, off, hA, hc⟩ : ∃ b off, (l0.length = 0 ∨ A0 = some ⟨b, off, none⟩) ∧ ∀ j, j < l0.length → w.cell? ⟨b, off + j, none⟩ = some (.int .u8 (l0.getD j 0)) := by
        rcases Nat.eq_zero_or_pos l0.length with h0 | h0
        · exact ⟨0, 0, .inl h0, fun j hj => by omega⟩
        · obtain ⟨b, off, e, hc⟩ := kint_cells hr0 h0
          exact ⟨b, off, .inr e, hc⟩
      have hD : ∀ j, j < (l0.length + 7) / 8 → inst_Decode.f k ((l0.drop (8 * j)).take 8) = some ((decD k l0 j).1.f0, (decD k l0 j).1.f1, (decD k l0 j).1.f2, (decD k l0 j).1.f3, (decD k l0 j).1.f4, (decD k l0 j).2) := fun j hj => by
        obtain ⟨t, ht⟩ := Option.isSome_iff_exists.1 (ha j hj)
        unfold decD
        rw [ht]
        exact ht
      refine (callsIn_wide.1 (decall_in k A0 b off l0.length c0 l0 (decD k l0) w rfl hA hc0 hl hc hD)).mono ?_
      rintro e w' (⟨hz, v, rfl, hrow, hb⟩ | ⟨⟨q, hq, hz, hbad, rfl⟩, hb⟩)
      · have hf : (List.range ((l0.length + 7) / 8)).find? (fun j => (decD k l0 j).2 != 0) = none := List.find?_eq_none.2 fun j hj => by simp [hz j (List.mem_range.1 hj)]
        rw [hf] at h
        injection h with h
        injection h with e1 e2
        subst e1 e2
        refine ⟨v, rfl, ⟨fun _ _ => trivial, _, ?_, reps5 _ _ _ _ _⟩, hb⟩
        rw [List.length_map, List.length_range]
        exact hrow
      · have hf : (List.range ((l0.length + 7) / 8)).find? (fun j => (decD k l0 j).2 != 0) = some q := by
          rw [List.find?_range_eq_some]
          exact ⟨by simp [hbad], List.mem_range.2 hq, fun j hj => by simp [hz j hj]⟩
        rw [hf] at h
        injection h with h
        injection h with e1 e2
        subst e1 e2
        exact ⟨_, rfl, ⟨fun _ _ => trivial, OwnRow.none_ _ _ _ _ _⟩, hb⟩
    · cases h
  · split at h
    · injection h with h
      injection h with e1 e2
      subst e1 e2
      refine (decall_long A0 l0.length c0 w (by omega) ‹_›).mono ?_
      rintro e w' ⟨rfl, hb⟩
      exact ⟨_, rfl, ⟨fun _ _ => trivial, OwnRow.none_ _ _ _ _ _⟩, hb⟩
    · cases h
end Go.Proofs.YtfdkhahpjbikiaaDoor.S
