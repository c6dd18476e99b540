import Derived.Test.YtnkgbnbbmcoiiaaOset
import Derived.Test.YtnkgbnbbmcoiiaaRfb
import Derived.RangeFuncBound
import Derived.RangeFuncCalls
import Derived.Shelf.Abstract
import Derived.Shelf.RegionOpen
import Derived.WalkKit
import Derived.OwnWalkIn
import Derived.TacticsInMore
import Derived.LoopNIn
import Derived.LoopIn
import Derived.Outline
namespace Go.Proofs.Ytnkgbnbbmcoiiaa.S
open Go.RowKit Go.Shelf Go.IM Go.Proofs.YtnkgbnbbmcoiiaaW.PrintWords Go.Proofs.YtnkgbnbbmcoiiaaW.PrintLast Go.Proofs.YtnkgbnbbmcoiiaaW.PrintMore
set_option linter.unusedVariables false
attribute [local go_sem] Oper.semAt_some
/-- The first k of n - 1, n - 2, .. -/
def downs (n k : Nat) : List Nat := (List.range k).map fun j => n - 1 - j
theorem downs_length (n k : Nat) : (downs n k).length = k := by simp [downs]
theorem downs_succ (n k : Nat) : downs n (k + 1) = downs n k ++ [n - 1 - k] := by unfold downs; rw [List.range_succ, List.map_append]; rfl
/-- What bb's iterator reads. -/
structure bbF (wr : World) (Bs : Nat) (A : Option Addr) (c : Nat) (xs : List S43) (bg : Nat → Option Addr × Nat) : Prop where mk ::
  box : wr.cell? ⟨Bs, 0, none⟩ = some (.slice A xs.length c)
  rows : BlksAt wr A xs bg
def bbV (xs : List S43) (bg : Nat → Option Addr × Nat) (i : Nat) : Array Value := #[.int .i64 (i : Int), blkV (rd_T43 xs (i : Int)) (bg i)]
set_option maxRecDepth 100000 in
set_option maxHeartbeats 4000000 in
theorem bb1_in (n : Nat) (hn : 1 ≤ n) (l Bs : Nat) (A : Option Addr) (c : Nat) (xs : List S43) (bg : Nat → Option Addr × Nat) (hlen : xs.length ≤ 1000000000000)
    (Kp : World → World → Prop) (hKt : ∀ {A B C : World}, Kp A B → Kp B C → Kp A C) (hKb : ∀ {A B : World}, Below A.heap.size A B → Kp A B)
    (J Jx : List Nat → World → Prop) (hJ : ∀ s A B, J s A → Below A.heap.size A B → J s B)
    (hY : ∀ pre x W, J pre W → (∃ k, k < xs.length ∧ pre = downs xs.length k ∧ x = xs.length - 1 - k) → YieldAt Fence.wide (n - 1) Try.prog l (bbV xs bg x) W fun e W' =>
      (e = .returned (.bool true) ∧ J (pre ++ [x]) W' ∧ Kp W W') ∨ (e = .returned (.bool false) ∧ Jx (pre ++ [x]) W'))
    (W : World) (hF : ∀ wr, Kp W wr → bbF wr Bs A c xs bg) (h0 : J [] W) :
    CallsIn Fence.wide n Try.prog 109 #[.func (.yield l) #[] #[], .pointer (some ⟨Bs, 0, none⟩)] W fun e W' => (∃ v, e = .returned v) ∧
      ((∃ ys, ys = downs xs.length xs.length ∧ J ys W') ∨ (∃ pre, (∃ k, k < xs.length ∧ pre = downs xs.length (k + 1)) ∧ Jx pre W')) := by
  have hu43 := Try.underlying43
  have hu45 := Try.underlying45
  have hu41 := Try.underlying41
  have hbox := (hF W (hKb (Below.refl _ _))).box
  have HF := Aside0.mk hF
  have HY := Aside0.mk hY
  have HJ := Aside0.mk hJ
  have HKT := Aside0.mk @hKt
  have HKB := Aside0.mk @hKb
  clear hF hY hJ hKt hKb
  refine callsIn_of_wp Try.func109 rfl trivial ?_ rfl
  simp only [Try.ntmps109, List.size_toArray, List.length_cons, List.length_nil, Nat.reduceAdd, Nat.reduceSub, Array.replicate_succ, Array.replicate_zero, List.push_toArray, List.append_toArray, List.nil_append, List.cons_append]
  gi_wp2
  clear hbox
  gi_loopw [3] (fun i wr => ∃ k : Nat, k ≤ xs.length ∧ i = .int .i64 ((xs.length : Int) - 1 - (k : Int)) ∧ Aside0 (J (downs xs.length k) wr) ∧ Aside0 (Kp W wr))
    (fun i _ => (intOf i + 1).toNat)
  case atStart => exact ⟨0, Nat.zero_le _, by first | go_num | (simp; done), ⟨h0⟩, ⟨HKB.out (Below.refl _ _)⟩⟩
  case round =>
    obtain ⟨k, hk, rfl, HJs, HK⟩ := hrel
    by_cases hlt : k < xs.length
    · obtain ⟨j, hj⟩ : ∃ j : Nat, xs.length = k + j + 1 := ⟨xs.length - (k + 1), by omega⟩
      have hz : ((xs.length : Int) - 1 - (k : Int)) = (j : Int) := by omega
      rw [hz]
      have b1 : decide ((0 : Int) ≤ (j : Int)) = true := decide_eq_true (by omega)
      have hjl : j < xs.length := by omega
      have hzz : (j : Int) < (xs.length : Int) := by omega
      have HFr := Aside0.mk (HF.out wr HK.out)
      have hbox := HFr.out.box
      have hop := HFr.out.rows j hjl
      obtain ⟨⟨ad, eA, k0, k1, k2, k3, k4⟩, _, _⟩ := hop
      obtain ⟨fn, tmps, assign, body, hy, hR⟩ := HY.out (downs xs.length k) j wr HJs.out ⟨k, hlt, rfl, by omega⟩
      have HDN : Aside0 (downs xs.length (k + 1) = downs xs.length k ++ [j]) := ⟨by rw [downs_succ, show xs.length - 1 - k = j by omega]⟩
      have HKL : Aside0 (k < xs.length) := ⟨hlt⟩
      have HZJ : Aside0 ((xs.length : Int) - 1 - ((k + 1 : Nat) : Int) = (j : Int) - 1) := ⟨by omega⟩
      unfold bbV blkV at hy
      generalize rd_T43 xs (j : Int) = x at k0 k1 k2 k3 k4 hy
      generalize bg j = g at k0 k1 k2 k3 k4 hy
      have HR := Aside0.mk hR
      clear hR hj hz hlt hk
      subst eA
      gi_wp2
      refine HR.out.mono ?_
      rintro e W3 (⟨rfl, hJ3, hk3⟩ | ⟨rfl, hJx3⟩)
      · have HK3 := Aside0.mk (HKT.out HK.out hk3)
        have HJ3 := Aside0.mk hJ3
        clear hy hk3 hJ3 hbox k0 k1 k2 k3 k4
        gi_wp2
        go_roundw
        case rel => exact ⟨k + 1, HKL.out, by rw [HZJ.out], ⟨by rw [HDN.out]; exact HJ3.out⟩, HK3⟩
        case measure => (simp [intOf]; try omega)
      · gi_wp2
        refine bodyPost_ret (results_none rfl _ _ _) rfl ?_
        exact ⟨⟨_, rfl⟩, .inr ⟨_, ⟨k, HKL.out, HDN.out.symm⟩, hJx3⟩⟩
    · obtain rfl : k = xs.length := by omega
      have hz : ((xs.length : Int) - 1 - (xs.length : Int)) = -1 := by omega
      rw [hz]
      gi_wp2
      go_end0
      exact ⟨⟨_, rfl⟩, .inl ⟨_, rfl, HJs.out⟩⟩
theorem bb_seq (n : Nat) (hn : 1 ≤ n) (Bs : Nat) (A : Option Addr) (c : Nat) (xs : List S43) (bg : Nat → Option Addr × Nat) (hlen : xs.length ≤ 1000000000000) (Kp : World → World → Prop) (hKt : ∀ {A B C : World}, Kp A B → Kp B C → Kp A C) (hKb : ∀ {A B : World}, Below A.heap.size A B → Kp A B) (w : World)
    (hF : ∀ W wr, Below w.heap.size w W → Kp W wr → bbF wr Bs A c xs bg) :
    SeqB Fence.wide n Try.prog 109 #[.pointer (some ⟨Bs, 0, none⟩)] (bbV xs bg) Kp (fun ys => ys = downs xs.length xs.length) (fun pre => ∃ k, k < xs.length ∧ pre = downs xs.length (k + 1)) (fun pre x => ∃ k, k < xs.length ∧ pre = downs xs.length k ∧ x = xs.length - 1 - k) w := fun l J Jx W hW hJ hY h0 =>
  bb1_in n hn l Bs A c xs bg hlen Kp hKt hKb J Jx hJ hY W (fun wr hk => hF W wr hW hk) h0
set_option maxHeartbeats 2000000 in
theorem bb_in (n : Nat) (A : Option Addr) (len cap : Nat) (w : World) :
    CallsIn Fence.wide n Try.prog 84 #[.slice A len cap] w fun e w' => e = .returned (.func (.func 109) #[] #[.pointer (some ⟨w.heap.size, 0, none⟩)]) ∧ w' = w.alloc (.cells #[.slice A len cap] 32) := by
  refine callsIn_of_wp Try.func84 rfl trivial ?_ rfl
  simp only [Try.ntmps84, List.size_toArray, List.length_cons, List.length_nil, Nat.reduceAdd, Nat.reduceSub, Array.replicate_succ, Array.replicate_zero, List.push_toArray, List.append_toArray, List.nil_append, List.cons_append]
  gi_wp2
  go_ret
  exact ⟨rfl, rfl⟩
/-- What bo's iterator reads. -/
structure boF (wr : World) (Bs : Nat) (A : Option Addr) (c : Nat) (xs : List S45) (bg : Nat → Option Addr × Nat) : Prop where mk ::
  box : wr.cell? ⟨Bs, 0, none⟩ = some (.slice A xs.length c)
  rows : OpsAt wr A xs bg
def boV (xs : List S45) (bg : Nat → Option Addr × Nat) (i : Nat) : Array Value := #[.int .i64 (i : Int), opV (rd_T45 xs (i : Int)) (bg i)]
set_option maxRecDepth 100000 in
set_option maxHeartbeats 4000000 in
theorem bo1_in (n : Nat) (hn : 1 ≤ n) (l Bs : Nat) (A : Option Addr) (c : Nat) (xs : List S45) (bg : Nat → Option Addr × Nat) (hlen : xs.length ≤ 1000000000000)
    (Kp : World → World → Prop) (hKt : ∀ {A B C : World}, Kp A B → Kp B C → Kp A C) (hKb : ∀ {A B : World}, Below A.heap.size A B → Kp A B)
    (J Jx : List Nat → World → Prop) (hJ : ∀ s A B, J s A → Below A.heap.size A B → J s B)
    (hY : ∀ pre x W, J pre W → (∃ k, k < xs.length ∧ pre = downs xs.length k ∧ x = xs.length - 1 - k) → YieldAt Fence.wide (n - 1) Try.prog l (boV xs bg x) W fun e W' =>
      (e = .returned (.bool true) ∧ J (pre ++ [x]) W' ∧ Kp W W') ∨ (e = .returned (.bool false) ∧ Jx (pre ++ [x]) W'))
    (W : World) (hF : ∀ wr, Kp W wr → boF wr Bs A c xs bg) (h0 : J [] W) :
    CallsIn Fence.wide n Try.prog 110 #[.func (.yield l) #[] #[], .pointer (some ⟨Bs, 0, none⟩)] W fun e W' => (∃ v, e = .returned v) ∧
      ((∃ ys, ys = downs xs.length xs.length ∧ J ys W') ∨ (∃ pre, (∃ k, k < xs.length ∧ pre = downs xs.length (k + 1)) ∧ Jx pre W')) := by
  have hu43 := Try.underlying43
  have hu45 := Try.underlying45
  have hu41 := Try.underlying41
  have hbox := (hF W (hKb (Below.refl _ _))).box
  have HF := Aside0.mk hF
  have HY := Aside0.mk hY
  have HJ := Aside0.mk hJ
  have HKT := Aside0.mk @hKt
  have HKB := Aside0.mk @hKb
  clear hF hY hJ hKt hKb
  refine callsIn_of_wp Try.func110 rfl trivial ?_ rfl
  simp only [Try.ntmps110, List.size_toArray, List.length_cons, List.length_nil, Nat.reduceAdd, Nat.reduceSub, Array.replicate_succ, Array.replicate_zero, List.push_toArray, List.append_toArray, List.nil_append, List.cons_append]
  gi_wp2
  clear hbox
  gi_loopw [3] (fun i wr => ∃ k : Nat, k ≤ xs.length ∧ i = .int .i64 ((xs.length : Int) - 1 - (k : Int)) ∧ Aside0 (J (downs xs.length k) wr) ∧ Aside0 (Kp W wr))
    (fun i _ => (intOf i + 1).toNat)
  case atStart => exact ⟨0, Nat.zero_le _, by first | go_num | (simp; done), ⟨h0⟩, ⟨HKB.out (Below.refl _ _)⟩⟩
  case round =>
    obtain ⟨k, hk, rfl, HJs, HK⟩ := hrel
    by_cases hlt : k < xs.length
    · obtain ⟨j, hj⟩ : ∃ j : Nat, xs.length = k + j + 1 := ⟨xs.length - (k + 1), by omega⟩
      have hz : ((xs.length : Int) - 1 - (k : Int)) = (j : Int) := by omega
      rw [hz]
      have b1 : decide ((0 : Int) ≤ (j : Int)) = true := decide_eq_true (by omega)
      have hjl : j < xs.length := by omega
      have hzz : (j : Int) < (xs.length : Int) := by omega
      have HFr := Aside0.mk (HF.out wr HK.out)
      have hbox := HFr.out.box
      have hop := HFr.out.rows j hjl
      obtain ⟨⟨ad, eA, k0, k1, k2, k3, k4, k5⟩, _, _⟩ := hop
      obtain ⟨fn, tmps, assign, body, hy, hR⟩ := HY.out (downs xs.length k) j wr HJs.out ⟨k, hlt, rfl, by omega⟩
      have HDN : Aside0 (downs xs.length (k + 1) = downs xs.length k ++ [j]) := ⟨by rw [downs_succ, show xs.length - 1 - k = j by omega]⟩
      have HKL : Aside0 (k < xs.length) := ⟨hlt⟩
      have HZJ : Aside0 ((xs.length : Int) - 1 - ((k + 1 : Nat) : Int) = (j : Int) - 1) := ⟨by omega⟩
      unfold boV opV at hy
      generalize rd_T45 xs (j : Int) = x at k0 k1 k2 k3 k4 k5 hy
      generalize bg j = g at k0 k1 k2 k3 k4 k5 hy
      have HR := Aside0.mk hR
      clear hR hj hz hlt hk
      subst eA
      gi_wp2
      refine HR.out.mono ?_
      rintro e W3 (⟨rfl, hJ3, hk3⟩ | ⟨rfl, hJx3⟩)
      · have HK3 := Aside0.mk (HKT.out HK.out hk3)
        have HJ3 := Aside0.mk hJ3
        clear hy hk3 hJ3 hbox k0 k1 k2 k3 k4 k5
        gi_wp2
        go_roundw
        case rel => exact ⟨k + 1, HKL.out, by rw [HZJ.out], ⟨by rw [HDN.out]; exact HJ3.out⟩, HK3⟩
        case measure => (simp [intOf]; try omega)
      · gi_wp2
        refine bodyPost_ret (results_none rfl _ _ _) rfl ?_
        exact ⟨⟨_, rfl⟩, .inr ⟨_, ⟨k, HKL.out, HDN.out.symm⟩, hJx3⟩⟩
    · obtain rfl : k = xs.length := by omega
      have hz : ((xs.length : Int) - 1 - (xs.length : Int)) = -1 := by omega
      rw [hz]
      gi_wp2
      go_end0
      exact ⟨⟨_, rfl⟩, .inl ⟨_, rfl, HJs.out⟩⟩
theorem bo_seq (n : Nat) (hn : 1 ≤ n) (Bs : Nat) (A : Option Addr) (c : Nat) (xs : List S45) (bg : Nat → Option Addr × Nat) (hlen : xs.length ≤ 1000000000000) (Kp : World → World → Prop) (hKt : ∀ {A B C : World}, Kp A B → Kp B C → Kp A C) (hKb : ∀ {A B : World}, Below A.heap.size A B → Kp A B) (w : World)
    (hF : ∀ W wr, Below w.heap.size w W → Kp W wr → boF wr Bs A c xs bg) :
    SeqB Fence.wide n Try.prog 110 #[.pointer (some ⟨Bs, 0, none⟩)] (boV xs bg) Kp (fun ys => ys = downs xs.length xs.length) (fun pre => ∃ k, k < xs.length ∧ pre = downs xs.length (k + 1)) (fun pre x => ∃ k, k < xs.length ∧ pre = downs xs.length k ∧ x = xs.length - 1 - k) w := fun l J Jx W hW hJ hY h0 =>
  bo1_in n hn l Bs A c xs bg hlen Kp hKt hKb J Jx hJ hY W (fun wr hk => hF W wr hW hk) h0
set_option maxHeartbeats 2000000 in
theorem bo_in (n : Nat) (A : Option Addr) (len cap : Nat) (w : World) :
    CallsIn Fence.wide n Try.prog 85 #[.slice A len cap] w fun e w' => e = .returned (.func (.func 110) #[] #[.pointer (some ⟨w.heap.size, 0, none⟩)]) ∧ w' = w.alloc (.cells #[.slice A len cap] 39) := by
  refine callsIn_of_wp Try.func85 rfl trivial ?_ rfl
  simp only [Try.ntmps85, List.size_toArray, List.length_cons, List.length_nil, Nat.reduceAdd, Nat.reduceSub, Array.replicate_succ, Array.replicate_zero, List.push_toArray, List.append_toArray, List.nil_append, List.cons_append]
  gi_wp2
  go_ret
  exact ⟨rfl, rfl⟩
end Go.Proofs.Ytnkgbnbbmcoiiaa.S
