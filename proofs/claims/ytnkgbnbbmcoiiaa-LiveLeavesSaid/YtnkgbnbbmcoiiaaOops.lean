import Derived.Test.YtnkgbnbbmcoiiaaOset
import Derived.RangeFuncBound
import Derived.RangeFuncCalls
import Derived.Shelf.Abstract
import Derived.Shelf.RegionOpen
import Derived.WalkKit
import Derived.OwnWalkIn
import Derived.TacticsInMore
import Derived.LoopNIn
import Derived.LoopIn
import Derived.Outline
namespace Go.Proofs.Ytnkgbnbbmcoiiaa.S
open Go.RowKit Go.Shelf Go.IM Go.Proofs.YtnkgbnbbmcoiiaaW.PrintWords Go.Proofs.YtnkgbnbbmcoiiaaW.PrintLast Go.Proofs.YtnkgbnbbmcoiiaaW.PrintMore
set_option linter.unusedVariables false
attribute [local go_sem] Oper.semAt_some
/-- The operation at a place. -/
def opOf (bs : List S43) (p : Nat × Nat) : S45 := rd_T45 (rd_T43 bs (p.1 : Int)).f0 (p.2 : Int)
def opLen (bs : List S43) (i : Nat) : Nat := (rd_T43 bs (i : Int)).f0.length
/-- The places of the first i blocks' operations. -/
def plcs (bs : List S43) (i : Nat) : List (Nat × Nat) := (List.range i).flatMap fun j => (List.range (opLen bs j)).map fun k => (j, k)
def rowP (i k : Nat) : List (Nat × Nat) := (List.range k).map fun j => (i, j)
theorem rowP_zero (i : Nat) : rowP i 0 = [] := rfl
theorem rowP_succ (i k : Nat) : rowP i (k + 1) = rowP i k ++ [(i, k)] := by unfold rowP; rw [List.range_succ, List.map_append]; rfl
theorem plcs_succ (bs : List S43) (i : Nat) : plcs bs (i + 1) = plcs bs i ++ rowP i (opLen bs i) := by
  unfold plcs rowP
  rw [List.range_succ, List.flatMap_append]
  simp
theorem plcs_prefix (bs : List S43) : ∀ m i, ∃ rest, plcs bs (i + m) = plcs bs i ++ rest
  | 0, i => ⟨[], by simp⟩
  | m + 1, i => by
    obtain ⟨rest, h⟩ := plcs_prefix bs m i
    exact ⟨rest ++ rowP (i + m) (opLen bs (i + m)), by rw [← Nat.add_assoc, plcs_succ, h, List.append_assoc]⟩
theorem rowP_prefix (i : Nat) : ∀ m k, ∃ rest, rowP i (k + m) = rowP i k ++ rest
  | 0, k => ⟨[], by simp⟩
  | m + 1, k => by
    obtain ⟨rest, h⟩ := rowP_prefix i m k
    exact ⟨rest ++ [(i, k + m)], by rw [← Nat.add_assoc, rowP_succ, h, List.append_assoc]⟩
theorem part_prefix {bs : List S43} {i k : Nat} (hi : i < bs.length) (hk : k ≤ opLen bs i) : ∃ rest, plcs bs bs.length = plcs bs i ++ rowP i k ++ rest := by
  obtain ⟨m, hm⟩ : ∃ m, bs.length = (i + 1) + m := ⟨bs.length - (i + 1), by omega⟩
  obtain ⟨r1, h1⟩ := plcs_prefix bs m (i + 1)
  obtain ⟨j, hj⟩ : ∃ j, opLen bs i = k + j := ⟨opLen bs i - k, by omega⟩
  obtain ⟨r2, h2⟩ := rowP_prefix i j k
  exact ⟨r2 ++ r1, by rw [hm, h1, plcs_succ, hj, h2]; simp⟩
theorem part_len {bs : List S43} {i k : Nat} (hi : i < bs.length) (hk : k < opLen bs i) : (plcs bs i ++ rowP i k).length < (plcs bs bs.length).length := by
  obtain ⟨rest, h⟩ := part_prefix hi (Nat.succ_le_of_lt hk)
  rw [h, rowP_succ]
  simp
theorem mem_plcs {bs : List S43} {i j k : Nat} : (j, k) ∈ plcs bs i ↔ j < i ∧ k < opLen bs j := by
  unfold plcs
  simp [List.mem_flatMap, List.mem_range, List.mem_map, Prod.mk.injEq]
/-- What an iterator over a function's operations reads. -/
structure OpsF (wr : World) (Bs : Nat) (A : Option Addr) (c : Nat) (bs : List S43) (bg : Nat → Option Addr × Nat) (oo : Nat → Nat → Option Addr × Nat) : Prop where mk ::
  box : wr.cell? ⟨Bs, 1, none⟩ = some (.slice A bs.length c)
  blks : BlksAt wr A bs bg
  ops : ∀ i, i < bs.length → OpsAt wr (bg i).1 (rd_T43 bs (i : Int)).f0 (oo i)
/-- What goes out. -/
def opsV (bs : List S43) (oo : Nat → Nat → Option Addr × Nat) (p : Nat × Nat) : Array Value := #[opV (opOf bs p) (oo p.1 p.2)]
set_option maxRecDepth 100000 in
set_option maxHeartbeats 4000000 in
theorem ops1_in (n : Nat) (hn : 1 ≤ n) (l Bs : Nat) (A : Option Addr) (c : Nat) (bs : List S43) (bg : Nat → Option Addr × Nat) (oo : Nat → Nat → Option Addr × Nat) (hlen : bs.length ≤ 1000000000000)
    (Kp : World → World → Prop) (hKt : ∀ {A B C : World}, Kp A B → Kp B C → Kp A C) (hKb : ∀ {A B : World}, Below A.heap.size A B → Kp A B)
    (J Jx : List (Nat × Nat) → World → Prop) (hJ : ∀ s A B, J s A → Below A.heap.size A B → J s B)
    (hY : ∀ pre x W, J pre W → pre.length < (plcs bs bs.length).length → YieldAt Fence.wide (n - 1) Try.prog l (opsV bs oo x) W fun e W' =>
      (e = .returned (.bool true) ∧ J (pre ++ [x]) W' ∧ Kp W W') ∨ (e = .returned (.bool false) ∧ Jx (pre ++ [x]) W'))
    (W : World) (hF : ∀ wr, Kp W wr → OpsF wr Bs A c bs bg oo) (h0 : J [] W) :
    CallsIn Fence.wide n Try.prog 77 #[.func (.yield l) #[] #[], .pointer (some ⟨Bs, 0, none⟩)] W fun e W' => (∃ v, e = .returned v) ∧
      ((∃ ys, ys = plcs bs bs.length ∧ J ys W') ∨ (∃ pre, (∃ rest, plcs bs bs.length = pre ++ rest) ∧ Jx pre W')) := by
  have hu43 := Try.underlying43
  have hu45 := Try.underlying45
  have hu41 := Try.underlying41
  have hu34 := Try.underlying34
  have hbox := (hF W (hKb (Below.refl _ _))).box
  have HF := Aside0.mk hF
  have HY := Aside0.mk hY
  have HJ := Aside0.mk hJ
  have HKT := Aside0.mk @hKt
  have HKB := Aside0.mk @hKb
  clear hF hY hJ hKt hKb
  refine callsIn_of_wp Try.func77 rfl trivial ?_ rfl
  simp only [Try.ntmps77, List.size_toArray, List.length_cons, List.length_nil, Nat.reduceAdd, Nat.reduceSub, Array.replicate_succ, Array.replicate_zero, List.push_toArray, List.append_toArray, List.nil_append, List.cons_append]
  gi_wp2
  clear hbox
  gi_loopw [10] (fun i wr => ∃ k : Nat, k ≤ bs.length ∧ i = .int .i64 (k : Int) ∧ Aside0 (J (plcs bs k) wr) ∧ Aside0 (Kp W wr))
    (fun i _ => bs.length - (intOf i).toNat)
  case atStart => exact ⟨0, Nat.zero_le _, rfl, ⟨h0⟩, ⟨HKB.out (Below.refl _ _)⟩⟩
  case round =>
    obtain ⟨k, hk, rfl, HJs, HK⟩ := hrel
    by_cases hlt : k < bs.length
    · have b1 : decide ((k : Int) < (bs.length : Int)) = true := decide_eq_true (by omega)
      have HFr := Aside0.mk (HF.out wr HK.out)
      obtain ⟨⟨ad, eA, k0, k1, k2, k3, k4⟩, _, hrow⟩ := HFr.out.blks k hlt
      have hLm : opLen bs k ≤ 9223372036854775807 := hrow.2.1
      clear hrow
      have hLe : (rd_T43 bs (k : Int)).f0.length = opLen bs k := rfl
      rw [hLe] at k0
      obtain ⟨L, hL⟩ : ∃ L, opLen bs k = L := ⟨_, rfl⟩
      obtain ⟨GA, GC, hG⟩ : ∃ GA GC, bg k = (GA, GC) := ⟨_, _, rfl⟩
      have HPL : Aside0 (opLen bs k = L) := ⟨hL⟩
      have HPG : Aside0 (bg k = (GA, GC)) := ⟨hG⟩
      rw [hL, hG] at k0
      rw [hL] at hLm
      simp only at k0
      generalize (rd_T43 bs (k : Int)).f1 = tm at k1 k2 k3 k4
      clear hLe hL hG
      subst eA
      gi_wp2_with fail
      have HB1 := Aside0.mk (below_alloc (Below.refl wr.heap.size wr) (.cells #[.slice GA L GC, .int .i64 tm.f0, .int .i64 tm.f1, .int .i64 tm.f2, .int .i64 tm.f3] 43))
      gi_loopw [17] (fun i wr => ∃ j : Nat, j ≤ L ∧ i = .int .i64 (j : Int) ∧ Aside0 (J (plcs bs k ++ rowP k j) wr) ∧ Aside0 (Kp W wr))
        (fun i _ => L - (intOf i).toNat)
      case atStart => exact ⟨0, Nat.zero_le _, rfl, ⟨by rw [rowP_zero, List.append_nil]; exact HJ.out _ _ _ HJs.out HB1.out⟩, ⟨HKT.out HK.out (HKB.out HB1.out)⟩⟩
      case round =>
        obtain ⟨j, hj, rfl, HJq, HKq⟩ := hrel
        by_cases hlq : j < L
        · have b1 : decide ((j : Int) < (L : Int)) = true := decide_eq_true (by omega)
          have hop := (HF.out wr HKq.out).ops k hlt j (by show j < opLen bs k; rw [HPL.out]; exact hlq)
          rw [HPG.out] at hop
          simp only at hop
          have HPX : Aside0 (rd_T45 (rd_T43 bs (k : Int)).f0 (j : Int) = opOf bs (k, j)) := ⟨rfl⟩
          rw [HPX.out] at hop
          obtain ⟨⟨ad, eA, x0, x1, x2, x3, x4, x5⟩, _, _⟩ := hop
          have hyy := HY.out (plcs bs k ++ rowP k j) (k, j)
          unfold opsV opV at hyy
          have HPS : Aside0 (plcs bs k ++ rowP k (j + 1) = (plcs bs k ++ rowP k j) ++ [(k, j)]) := ⟨by rw [rowP_succ, List.append_assoc]⟩
          have hpl : (plcs bs k ++ rowP k j).length < (plcs bs bs.length).length := part_len hlt (by rw [HPL.out]; exact hlq)
          have hrest : ∃ rest, plcs bs bs.length = (plcs bs k ++ rowP k j) ++ [(k, j)] ++ rest := by
            obtain ⟨rest, hr⟩ := part_prefix (bs := bs) (k := j + 1) hlt (by rw [HPL.out]; exact hlq)
            exact ⟨rest, by rw [hr, HPS.out]⟩
          have HRE := Aside0.mk hrest
          clear hrest HPX
          simp only [] at hyy
          generalize opOf bs (k, j) = x at x0 x1 x2 x3 x4 x5 hyy
          generalize oo k j = g at x5 hyy
          obtain ⟨W1, hW1⟩ : ∃ W1, wr.alloc (.cells #[.int .i64 x.f0, .int .i64 x.f1, .int .i64 x.f2, .int .i64 x.f3, .int .i64 x.f4, .slice g.1 x.f5.length g.2] 45) = W1 := ⟨_, rfl⟩
          have hb1 : Below wr.heap.size wr W1 := by rw [← hW1]; exact below_alloc (Below.refl _ _) _
          have hbx := blk_new wr (.cells #[.int .i64 x.f0, .int .i64 x.f1, .int .i64 x.f2, .int .i64 x.f3, .int .i64 x.f4, .slice g.1 x.f5.length g.2] 45)
          rw [hW1] at hbx
          obtain ⟨fn, tmps, assign, body, hy, hR⟩ := hyy W1 (HJ.out _ _ _ HJq.out hb1) hpl
          rw [← hW1] at hy hR hbx hb1
          have HR := Aside0.mk hR
          have HB2 := Aside0.mk hb1
          clear hW1 hR hb1 hyy hpl hbx
          subst eA
          gi_wp2
          refine HR.out.mono ?_
          rintro e W3 (⟨rfl, hJ3, hk3⟩ | ⟨rfl, hJx3⟩)
          · have HK3 := Aside0.mk (HKT.out HKq.out (HKT.out (HKB.out HB2.out) hk3))
            have HJ3 := Aside0.mk hJ3
            clear hy hk3 hJ3 x0 x1 x2 x3 x4 x5
            gi_wp2
            go_roundw
            case rel => exact ⟨j + 1, by omega, by go_num, ⟨by rw [HPS.out]; exact HJ3.out⟩, HK3⟩
            case measure => (simp [intOf]; try omega)
          · gi_wp2
            refine bodyPost_ret (results_none rfl _ _ _) rfl ?_
            exact ⟨⟨_, rfl⟩, .inr ⟨_, HRE.out, hJx3⟩⟩
        · have b1 : decide ((j : Int) < (L : Int)) = false := decide_eq_false (by omega)
          have hj' : j = L := by omega
          gi_wp2
          go_roundw
          case rel => exact ⟨k + 1, by omega, by go_num, ⟨by rw [plcs_succ, HPL.out, ← hj']; exact HJq.out⟩, HKq⟩
          case measure => (simp [intOf]; try omega)
    · have b1 : decide ((k : Int) < (bs.length : Int)) = false := decide_eq_false (by omega)
      have hk' : k = bs.length := by omega
      gi_wp2
      go_end0
      exact ⟨⟨_, rfl⟩, .inl ⟨_, by rw [hk'], HJs.out⟩⟩
set_option maxHeartbeats 2000000 in
/-- ops: one box; the function value captures it. -/
theorem ops_in (n : Nat) (p : Int) (A : Option Addr) (len cap : Nat) (w : World) :
    CallsIn Fence.wide n Try.prog 49 #[.agg #[.int .i64 p, .slice A len cap]] w fun e w' => e = .returned (.func (.func 77) #[] #[.pointer (some ⟨w.heap.size, 0, none⟩)]) ∧ w' = w.alloc (.cells #[.int .i64 p, .slice A len cap] 34) := by
  have hu34 := Try.underlying34
  refine callsIn_of_wp Try.func49 rfl trivial ?_ rfl
  simp only [Try.ntmps49, List.size_toArray, List.length_cons, List.length_nil, Nat.reduceAdd, Nat.reduceSub, Array.replicate_succ, Array.replicate_zero, List.push_toArray, List.append_toArray, List.nil_append, List.cons_append]
  gi_wp2
  go_ret
  exact ⟨rfl, rfl⟩
/-- ops(f) hands back a value that stops as it should, whatever a round does, if it keeps what is read. -/
theorem ops_stops (n : Nat) (hn : 1 ≤ n) (Bs : Nat) (A : Option Addr) (c : Nat) (bs : List S43) (bg : Nat → Option Addr × Nat) (oo : Nat → Nat → Option Addr × Nat) (hlen : bs.length ≤ 1000000000000) (Kp : World → World → Prop) (hKt : ∀ {A B C : World}, Kp A B → Kp B C → Kp A C) (hKb : ∀ {A B : World}, Below A.heap.size A B → Kp A B) (w : World)
    (hF : ∀ W wr, Below w.heap.size w W → Kp W wr → OpsF wr Bs A c bs bg oo) :
    SeqStopsK Fence.wide n Try.prog 77 #[.pointer (some ⟨Bs, 0, none⟩)] (opsV bs oo) Kp (fun ys => ys = plcs bs bs.length) (fun pre => ∃ rest, plcs bs bs.length = pre ++ rest) (plcs bs bs.length).length w := fun l J Jx W hW hJ _ hY h0 =>
  ops1_in n hn l Bs A c bs bg oo hlen Kp hKt hKb J Jx (fun s A B hj hk => hJ s A B none hj ⟨hk.os, hk.tape, hk.output, hk.size, fun j hj _ => hk.block j hj⟩ (by simp)) hY W (fun wr hk => hF W wr hW hk) h0
end Go.Proofs.Ytnkgbnbbmcoiiaa.S
