import Derived.Test.YtmfcmjcgajjiiaaDoorImi
import Derived.Test.YtmfcmjcgajjiiaaDoorS6
import Derived.RangeFuncNested
import Derived.RangeFuncBound
import Derived.RangeFuncCalls
import Derived.RangeFuncLeaves
import Derived.RangeFuncBox
import Derived.RangeFuncWrites
import Derived.Shelf.Abstract
import Derived.Shelf.RegionOpen
import Derived.WalkKit
import Derived.OwnWalkIn
import Derived.TacticsInMore
import Derived.LoopNIn
import Derived.LoopIn
import Derived.Test.YtmfcmjcgajjiiaaDoorRfa
import Derived.Outline
namespace Go.Proofs.YtmfcmjcgajjiiaaDoor.S
open Go.RowKit Go.Proofs.YtmfcmjcgajjiiaaDoorW.PrintWords Go.Proofs.YtmfcmjcgajjiiaaDoorW.PrintLast Go.Proofs.YtmfcmjcgajjiiaaDoorW.PrintMore
set_option linter.unusedVariables false
/-- A line as a value. -/
def lineV (x : S38) : Value := .agg #[.int .i64 x.f0, .int .i64 x.f1.f0, .int .i64 x.f1.f1, .int .i64 x.f1.f2, .int .i64 x.f1.f3, .int .i64 x.f1.f4, .int .i64 x.f2]
/-- May a line be? -/
def rtA (K : Nat) (x : S38) : Option Bool := asm_right.f K x.f0 x.f1.f0 x.f1.f1 x.f1.f2 x.f1.f3 x.f1.f4 x.f2
theorem rd38' {l : List S38} {j : Nat} (h : j < l.length) : rd_T38 l (j : Int) = l[j] := by
  unfold rd_T38
  simp [List.getD_eq_getElem?_getD, h]
theorem rd38_mem {l : List S38} {j : Nat} (h : j < l.length) : rd_T38 l (j : Int) ∈ l := by
  rw [rd38' h]
  exact List.getElem_mem h
set_option maxHeartbeats 4000000 in
set_option maxRecDepth 100000 in
theorem find1_any (K : Nat) (x : S38) (b : Bool) (w : World) (h : rtA K x = some b) : Calls Tryd.prog 39 #[lineV x] w fun e w' => e = .returned (.bool (!b)) ∧ Below w.heap.size w w' := by
  have hu38 := Tryd.underlying38
  unfold lineV
  unfold rtA at h
  generalize x.f0 = x0 at h ⊢
  generalize x.f1.f0 = x1 at h ⊢
  generalize x.f1.f1 = x2 at h ⊢
  generalize x.f1.f2 = x3 at h ⊢
  generalize x.f1.f3 = x4 at h ⊢
  generalize x.f1.f4 = x5 at h ⊢
  generalize x.f2 = x6 at h ⊢
  have H := Aside0.mk h
  clear h
  go_enter Tryd.func39, Tryd.ntmps39
  go_wp2_with (go_at_call 40; refine (asm_right.calls K _ _ _ _ _ _ _ b _ H.out).mono ?_; rintro e w1 ⟨rfl, hb⟩)
  go_ret
  exact ⟨rfl, below_then (below_alloc (Below.refl _ _) _) (by simp [World.size_alloc]) hb⟩
/-- Where the first line is that may not be; -1: there is none. -/
def Idx (rt : S38 → Bool) (l : List S38) (n : Int) : Prop := (n = -1 ∧ ∀ x ∈ l, rt x = true) ∨ (0 ≤ n ∧ ∃ x ∈ l, rt x = false)
def IdxP (rt : S38 → Bool) (l : List S38) (w : World) (e : Ending) (w' : World) : Prop := ∃ n : Int, e = .returned (.int .i64 n) ∧ Idx rt l n ∧ Below w.heap.size w w'
theorem take_snoc38 {l : List S38} {j : Nat} (h : j < l.length) : l.take (j + 1) = l.take j ++ [rd_T38 l (j : Int)] := by
  rw [rd38' h, List.take_succ_eq_append_getElem h]
set_option maxHeartbeats 4000000 in
set_option maxRecDepth 100000 in
theorem index_any (K : Nat) (A : Option Addr) (c : Nat) (l : List S38) (rt : S38 → Bool) (w : World) (hC : Kd.C k38 w A l.length l) (hR : ∀ x ∈ l, rtA K x = some (rt x)) :
    Calls Tryd.prog 56 #[.slice A l.length c, .func (.func 39) #[] #[]] w (IdxP rt l w) := by
  have hu38 := Tryd.underlying38
  have hn : l.length ≤ 9223372036854775807 := hC.2.1
  have HC := Aside0.mk hC
  have HR := Aside0.mk hR
  clear hC hR
  go_enter Tryd.func56, Tryd.ntmps56
  go_wp2_with fail
  go_loopw [8] (fun i wr => ∃ j : Nat, j ≤ l.length ∧ i = .int .i64 j ∧ Aside0 (∀ x ∈ l.take j, rt x = true) ∧ Aside0 (Below w.heap.size w wr)) (fun i _ => l.length - (intOf i).toNat)
  case atStart => exact ⟨0, Nat.zero_le _, rfl, ⟨by simp⟩, ⟨Below.refl _ _⟩⟩
  case round =>
    obtain ⟨j, hj, rfl, HT, HB⟩ := hrel
    by_cases hlt : j < l.length
    · have b1 : decide ((j : Int) < (l.length : Int)) = true := decide_eq_true (by omega)
      obtain ⟨ad, eA, k0, k1, k2, k3, k4, k5, k6⟩ := at_T38 (Kd.C_below HC.out HB.out) (j : Int) (by omega) (by omega)
      simp only [Int.toNat_natCast] at k0 k1 k2 k3 k4 k5 k6
      have HX := Aside0.mk (HR.out _ (rd38_mem hlt))
      have HTS := Aside0.mk (take_snoc38 hlt)
      have HM := Aside0.mk (rd38_mem hlt)
      generalize rd_T38 l (j : Int) = x at k0 k1 k2 k3 k4 k5 k6 HX HTS HM
      subst eA
      have hcall := find1_any K x (rt x) wr HX.out
      unfold lineV at hcall
      generalize hb : rt x = b at hcall
      have HBX := Aside0.mk hb
      have HCA := Aside0.mk hcall
      clear hb hcall
      cases b with
      | true =>
        go_wp2_with (go_at_call 39; refine HCA.out.mono ?_; rintro e w1 ⟨rfl, hb⟩)
        go_roundw
        case rel => exact ⟨j + 1, by omega, by go_num, ⟨by
          rw [HTS.out]
          intro y hy
          rcases List.mem_append.1 hy with hy | hy
          · exact HT.out y hy
          · rw [List.mem_singleton.1 hy]; exact HBX.out⟩, ⟨below_then HB.out HB.out.size hb⟩⟩
        case measure => simp [intOf]; omega
      | false =>
        go_wp2_with (go_at_call 39; refine HCA.out.mono ?_; rintro e w1 ⟨rfl, hb⟩)
        go_ret
        exact ⟨j, rfl, .inr ⟨by omega, x, HM.out, HBX.out⟩, below_then HB.out HB.out.size hb⟩
    · have b1 : decide ((j : Int) < (l.length : Int)) = false := decide_eq_false (by omega)
      obtain rfl : j = l.length := by omega
      go_wp2_with fail
      go_ret
      exact ⟨-1, rfl, .inl ⟨rfl, by have := HT.out; rwa [List.take_length] at this⟩, HB.out⟩
set_option maxHeartbeats 4000000 in
set_option maxRecDepth 100000 in
/-- slices.ContainsFunc, with that closure: is there a line that may not be? -/
theorem contains_any (K : Nat) (A : Option Addr) (c : Nat) (l : List S38) (rt : S38 → Bool) (w : World) (hC : Kd.C k38 w A l.length l) (hR : ∀ x ∈ l, rtA K x = some (rt x)) :
    Calls Tryd.prog 38 #[.slice A l.length c, .func (.func 39) #[] #[]] w fun e w' => e = .returned (.bool (!l.all rt)) ∧ Below w.heap.size w w' := by
  have hcall := index_any K A c l rt w hC hR
  have HCA := Aside0.mk hcall
  clear hcall hC hR
  go_enter Tryd.func38, Tryd.ntmps38
  go_wp2_with (go_at_call 56; refine HCA.out.mono ?_; rintro e w1 ⟨n, rfl, hn, hb⟩; have HN := Aside0.mk hn; clear hn)
  go_ret
  refine ⟨?_, hb⟩
  rcases HN.out with ⟨rfl, h⟩ | ⟨h0, x, hx, h⟩
  · rw [List.all_eq_true.2 h]; rfl
  · have e : l.all rt = false := by rw [List.all_eq_false]; exact ⟨x, hx, by simp [h]⟩
    rw [e]
    simp [h0]
end Go.Proofs.YtmfcmjcgajjiiaaDoor.S
namespace Go.Proofs.YtmfcmjcgajjiiaaDoor.S
open Go.RowKit Go.Shelf Go.IM Go.Proofs.YtmfcmjcgajjiiaaDoorW.PrintWords Go.Proofs.YtmfcmjcgajjiiaaDoorW.PrintLast Go.Proofs.YtmfcmjcgajjiiaaDoorW.PrintMore
set_option linter.unusedVariables false
attribute [local go_sem] Oper.semAt_some
/-- How many of some lines are instructions. -/
def cnt (l : List S38) : Int := ((l.filter fun x => x.f0 == 0).length : Nat)
theorem cnt_le (l : List S38) : 0 ≤ cnt l ∧ cnt l ≤ l.length := by
  unfold cnt
  have := List.length_filter_le (fun x : S38 => x.f0 == 0) l
  omega
theorem cnt_snoc (l : List S38) (x : S38) : cnt (l ++ [x]) = if x.f0 = 0 then cnt l + 1 else cnt l := by
  unfold cnt
  by_cases h : x.f0 = 0 <;> simp [h]
/-- What goes out at line k: how many instructions are ahead, and the line. -/
def plV (l : List S38) (k : Nat) : Array Value := #[.int .i64 (cnt (l.take k)), lineV (rd_T38 l (k : Int))]
/-- A row that is read, behind a round that keeps cells. -/
theorem C_kc {w w' : World} {A : Option Addr} {n : Nat} {l : List S38} (h : Kd.C k38 w A n l) (hk : KC w w') : Kd.C k38 w' A n l := by
  obtain ⟨h1, h2, h3⟩ := h
  refine ⟨h1, h2, fun hn => ?_⟩
  obtain ⟨ad, e, hc⟩ := h3 hn
  refine ⟨ad, e, fun j p hj => ?_⟩
  obtain ⟨c, hl, hk', hu⟩ := hc j p hj
  exact ⟨c, hl, by rw [k38_open hk']; exact k38_mk _ _, fun i u hi => hk.cell (hu i u hi)⟩
theorem range_succ_ (k : Nat) : List.range (k + 1) = List.range k ++ [k] := List.range_succ
set_option maxRecDepth 100000 in
set_option maxHeartbeats 4000000 in
theorem placed1_in (n : Nat) (hn : 1 ≤ n) (l Bs hs0 : Nat) (A : Option Addr) (c : Nat) (xs : List S38) (hlen : xs.length ≤ 1000000000000) (J Jx : List Nat → World → Prop) (hJ : ∀ s A B, J s A → Below A.heap.size A B → J s B)
    (hY : ∀ pre x W, J pre W → pre.length < xs.length → YieldAt Fence.wide (n - 1) Tryd.prog l (plV xs x) W fun e W' =>
      (e = .returned (.bool true) ∧ J (pre ++ [x]) W' ∧ KC W W') ∨ (e = .returned (.bool false) ∧ Jx (pre ++ [x]) W'))
    (W : World) (hW0 : hs0 ≤ W.heap.size) (hBs : W.cell? ⟨Bs, 0, none⟩ = some (.slice A xs.length c)) (hC : Kd.C k38 W A xs.length xs) (h0 : J [] W) :
    CallsIn Fence.wide n Tryd.prog 58 #[.func (.yield l) #[] #[], .pointer (some ⟨Bs, 0, none⟩)] W fun e W' => (∃ v, e = .returned v) ∧
      ((∃ ys, ys = List.range xs.length ∧ J ys W') ∨ (∃ pre, (∃ k, k < xs.length ∧ pre = List.range (k + 1)) ∧ Jx pre W')) := by
  have hu38 := Tryd.underlying38
  have HC := Aside0.mk hC
  have HY := Aside0.mk hY
  have HJ := Aside0.mk hJ
  clear hC hY hJ
  refine callsIn_of_wp Tryd.func58 rfl trivial ?_ rfl
  simp only [Tryd.ntmps58, List.size_toArray, List.length_cons, List.length_nil, Nat.reduceAdd, Nat.reduceSub, Array.replicate_succ, Array.replicate_zero, List.push_toArray, List.append_toArray, List.nil_append, List.cons_append]
  gi_wp2
  gi_loopw [3, 8] (fun m i wr => ∃ k : Nat, k ≤ xs.length ∧ i = .int .i64 (k : Int) ∧ m = .int .i64 (cnt (xs.take k)) ∧ Aside0 (J (List.range k) wr) ∧ Aside0 (KC W wr))
    (fun _ i _ => xs.length - (intOf i).toNat)
  case atStart => exact ⟨0, Nat.zero_le _, rfl, rfl, ⟨h0⟩, ⟨KC.refl _⟩⟩
  case round =>
    obtain ⟨k, hk, rfl, rfl, HJs, HK⟩ := hrel
    by_cases hlt : k < xs.length
    · have b1 : decide ((k : Int) < (xs.length : Int)) = true := decide_eq_true (by omega)
      obtain ⟨ad, eA, k0, k1, k2, k3, k4, k5, k6⟩ := at_T38 (C_kc HC.out HK.out) (k : Int) (by omega) (by omega)
      simp only [Int.toNat_natCast] at k0 k1 k2 k3 k4 k5 k6
      have HTS := Aside0.mk (take_snoc38 hlt)
      obtain ⟨W1, hW1⟩ : ∃ W1, wr.alloc (.cells #[.int .i64 (rd_T38 xs (k : Int)).f0, .int .i64 (rd_T38 xs (k : Int)).f1.f0, .int .i64 (rd_T38 xs (k : Int)).f1.f1, .int .i64 (rd_T38 xs (k : Int)).f1.f2, .int .i64 (rd_T38 xs (k : Int)).f1.f3, .int .i64 (rd_T38 xs (k : Int)).f1.f4, .int .i64 (rd_T38 xs (k : Int)).f2] 38) = W1 := ⟨_, rfl⟩
      have hb1 : Below wr.heap.size wr W1 := by rw [← hW1]; exact below_alloc (Below.refl _ _) _
      have hbx := blk_new wr (.cells #[.int .i64 (rd_T38 xs (k : Int)).f0, .int .i64 (rd_T38 xs (k : Int)).f1.f0, .int .i64 (rd_T38 xs (k : Int)).f1.f1, .int .i64 (rd_T38 xs (k : Int)).f1.f2, .int .i64 (rd_T38 xs (k : Int)).f1.f3, .int .i64 (rd_T38 xs (k : Int)).f1.f4, .int .i64 (rd_T38 xs (k : Int)).f2] 38)
      rw [hW1] at hbx
      obtain ⟨fn, tmps, assign, body, hy, hR⟩ := HY.out _ k W1 (HJ.out _ _ _ HJs.out hb1) (by rw [List.length_range]; exact hlt)
      unfold plV lineV at hy
      rw [← hW1] at hy hR hbx hb1
      have HR := Aside0.mk hR
      have HBX := Aside0.mk hbx
      have HB1 := Aside0.mk hb1
      clear hW1 hR hb1 hbx
      have hcn := cnt_le (xs.take k)
      have hcl : (xs.take k).length ≤ k := List.length_take_le _ _
      have HCS := Aside0.mk (cnt_snoc (xs.take k) (rd_T38 xs (k : Int)))
      generalize hg : rd_T38 xs (k : Int) = x at k0 k1 k2 k3 k4 k5 k6 hy HR HB1 HBX HCS HTS
      clear hg
      generalize cnt (xs.take k) = cn at hcn hy HCS
      subst eA
      gi_wp2
      refine HR.out.mono ?_
      rintro e W3 (⟨rfl, hJ3, hk3⟩ | ⟨rfl, hJx3⟩)
      · have HK3 := Aside0.mk (HK.out.trans ((KC.of_below HB1.out).trans hk3))
        have HJ3 := Aside0.mk hJ3
        have hx3 := hk3.cells _ _ HBX.out rfl
        have c3 := blk_cell hx3 0
        simp only [List.getElem?_toArray, List.getElem?_cons_zero] at c3
        clear hy hx3 hk3 hJ3 k0 k1 k2 k3 k4 k5 k6
        by_cases hz : x.f0 = 0
        · have hzb : (x.f0 == 0) = true := beq_iff_eq.2 hz
          have HCS2 : Aside0 (cnt (xs.take (k + 1)) = cn + 1) := ⟨by rw [HTS.out, HCS.out, if_pos hz]⟩
          clear hz
          gi_wp2
          go_roundw
          case rel => exact ⟨k + 1, by omega, by go_num, by rw [HCS2.out], ⟨by rw [range_succ_]; exact HJ3.out⟩, HK3⟩
          case measure => (simp [intOf]; try omega)
        · have hzb : (x.f0 == 0) = false := beq_eq_false_iff_ne.2 hz
          have HCS2 : Aside0 (cnt (xs.take (k + 1)) = cn) := ⟨by rw [HTS.out, HCS.out, if_neg hz]⟩
          clear hz
          gi_wp2
          go_roundw
          case rel => exact ⟨k + 1, by omega, by go_num, by rw [HCS2.out], ⟨by rw [range_succ_]; exact HJ3.out⟩, HK3⟩
          case measure => (simp [intOf]; try omega)
      · gi_wp2
        refine bodyPost_ret (results_none rfl _ _ _) rfl ?_
        exact ⟨⟨_, rfl⟩, .inr ⟨_, ⟨k, by omega, (range_succ_ k).symm⟩, hJx3⟩⟩
    · have b1 : decide ((k : Int) < (xs.length : Int)) = false := decide_eq_false (by omega)
      have hk' : k = xs.length := by omega
      gi_wp2
      go_end0
      exact ⟨⟨_, rfl⟩, .inl ⟨_, by rw [hk'], HJs.out⟩⟩
set_option maxHeartbeats 2000000 in
/-- placed: one box; the function value captures it. -/
theorem placed_in (n : Nat) (A : Option Addr) (len cap : Nat) (w : World) :
    CallsIn Fence.wide n Tryd.prog 41 #[.slice A len cap] w fun e w' => e = .returned (.func (.func 58) #[] #[.pointer (some ⟨w.heap.size, 0, none⟩)]) ∧ w' = w.alloc (.cells #[.slice A len cap] 22) := by
  refine callsIn_of_wp Tryd.func41 rfl trivial ?_ rfl
  simp only [Tryd.ntmps41, List.size_toArray, List.length_cons, List.length_nil, Nat.reduceAdd, Nat.reduceSub, Array.replicate_succ, Array.replicate_zero, List.push_toArray, List.append_toArray, List.nil_append, List.cons_append]
  gi_wp2
  go_ret
  exact ⟨rfl, rfl⟩
/-- placed(l) hands back a value that stops as it should: all lines, in their order; or those up to one at which a round has said no more. -/
theorem placed_stops (n : Nat) (hn : 1 ≤ n) (Bs : Nat) (A : Option Addr) (c : Nat) (xs : List S38) (hlen : xs.length ≤ 1000000000000) (w : World) (hBs : w.cell? ⟨Bs, 0, none⟩ = some (.slice A xs.length c)) (hC : Kd.C k38 w A xs.length xs) :
    SeqStopsK Fence.wide n Tryd.prog 58 #[.pointer (some ⟨Bs, 0, none⟩)] (plV xs) KC (fun ys => ys = List.range xs.length) (fun pre => ∃ k, k < xs.length ∧ pre = List.range (k + 1)) xs.length w := fun l J Jx W hW hJ _ hY h0 =>
  placed1_in n hn l Bs w.heap.size A c xs hlen J Jx (fun s A B hj hk => hJ s A B none hj ⟨hk.os, hk.tape, hk.output, hk.size, fun j hj _ => hk.block j hj⟩ (by simp)) hY W hW.size (pw_cell_below hW hBs) (Kd.C_below hC hW) h0
end Go.Proofs.YtmfcmjcgajjiiaaDoor.S
namespace Go.Proofs.YtmfcmjcgajjiiaaDoor.S
open Go.RowKit Go.Shelf Go.IM Go.Proofs.YtmfcmjcgajjiiaaDoorW.PrintWords Go.Proofs.YtmfcmjcgajjiiaaDoorW.PrintLast Go.Proofs.YtmfcmjcgajjiiaaDoorW.PrintMore
set_option linter.unusedVariables false
attribute [local go_sem] Oper.semAt_some
/-- One line more: its label is put in; none: it was there. -/
def stp (xs : List S38) (o : Option (List (Int × Value))) (k : Nat) : Option (List (Int × Value)) := o.bind fun es => if (rd_T38 xs (k : Int)).f0 = 0 then some es else if (lk es (rd_T38 xs (k : Int)).f0).isSome = true then none else some (st es (rd_T38 xs (k : Int)).f0 (.int .i64 (cnt (xs.take k))))
/-- The labels of some lines with their places; none: one is there twice. -/
def fs (xs : List S38) (pre : List Nat) : Option (List (Int × Value)) := pre.foldl (stp xs) (some [])
theorem fs_snoc (xs : List S38) (pre : List Nat) (x : Nat) : fs xs (pre ++ [x]) = stp xs (fs xs pre) x := by simp [fs]
theorem fs_none (xs : List S38) : ∀ m k, fs xs (List.range k) = none → fs xs (List.range (k + m)) = none
  | 0, k, h => h
  | m + 1, k, h => by
    have := fs_none xs m k h
    rw [← Nat.add_assoc, range_succ_, fs_snoc, this]
    rfl
theorem zero3 (w : World) : (zeroValue 3).run Tryd.prog w = .ok (.int .i64 0) w := by kernel_rfl
/-- Find's answer: the map lies in a block of the call's own. -/
def FindP (K : Nat) (l : List S38) (w : World) (e : Ending) (W' : World) : Prop :=
  (∃ mb es, fs l (List.range l.length) = some es ∧ e = .returned (.tuple #[.map (some mb), .int .i64 0]) ∧ At W' mb es ∧ w.heap.size ≤ mb ∧ Below w.heap.size w W') ∨
  (fs l (List.range l.length) = none ∧ e = .returned (.tuple #[.map none, .int .i64 4]) ∧ Below w.heap.size w W')
set_option maxRecDepth 100000 in
set_option maxHeartbeats 8000000 in
theorem find_in (K : Nat) (A : Option Addr) (c : Nat) (l : List S38) (rt : S38 → Bool) (w : World) (hC : Kd.C k38 w A l.length l) (hR : ∀ x ∈ l, rtA K x = some (rt x)) (hlen : l.length ≤ 1000000000000) (hall : l.all rt = true) :
    CallsIn Fence.wide 5 Tryd.prog 22 #[.slice A l.length c] w (FindP K l w) := by
  have hu38 := Tryd.underlying38
  have hcon := fun W (h : Kd.C k38 W A l.length l) => contains_any K A c l rt W h hR
  rw [hall] at hcon
  have HCON := Aside0.mk hcon
  have HC := Aside0.mk hC
  clear hC hR hcon hall
  have hmm := @run_makeMap Tryd.prog
  refine callsIn_of_wp_marks Tryd.func22 rfl trivial ?_ rfl
  simp only [Tryd.ntmps22, List.size_toArray, List.length_cons, List.length_nil, Nat.reduceAdd, Nat.reduceSub, Array.replicate_succ, Array.replicate_zero, List.push_toArray, List.append_toArray, List.nil_append, List.cons_append]
  have hcall := HCON.out ((w.alloc (.cells #[.map none] 48)).alloc (.cells #[.int .i64 0] 25)) (Kd.C_below HC.out (below_alloc (below_alloc (Below.refl _ _) _) _))
  have HCA := Aside0.mk (callsIn_wide (n := 4) |>.2 hcall)
  clear hcall
  gi_wp2_with (refine ⟨trivial, ?_⟩; first | (gi_at_call 38; refine (HCA.out).mono ?_; rintro e w1 ⟨rfl, hb1⟩; have HB1 := Aside0.mk hb1; clear hb1) | (gi_at_call 41; refine (placed_in _ _ _ _ _).mono ?_; rintro e w2 ⟨rfl, rfl⟩))
  clear hmm
  obtain ⟨S, hS⟩ : ∃ S, w.heap.size = S := ⟨_, rfl⟩
  obtain ⟨M, hM⟩ : ∃ M, w1.heap.size = M := ⟨_, rfl⟩
  have hSM : S + 2 ≤ M := by have := HB1.out.size; simp only [World.size_alloc] at this; omega
  have bR := Boxed.new w 48 (.map none)
  have bE := Boxed.new (w.alloc (.cells #[.map none] 48)) 25 (.int .i64 0)
  have bR1 : Boxed w1 S 48 (.map none) := by rw [← hS]; exact blk_below (bR.alloc _) HB1.out
  have bE1 : Boxed w1 (S + 1) 25 (.int .i64 0) := by
    have := blk_below bE HB1.out
    rw [World.size_alloc, hS] at this
    exact this
  have hB1 : Below S w w1 := by rw [← hS]; exact below_then (below_alloc (below_alloc (Below.refl _ _) _) _) (by simp only [World.size_alloc]; omega) HB1.out
  obtain ⟨w5, hw5⟩ : ∃ w5, ((w1.alloc (.map #[] 0)).alloc (.cells #[.map (some M)] 48)).alloc (.cells #[.slice A l.length c] 22) = w5 := ⟨_, rfl⟩
  have hz5 : w5.heap.size = M + 3 := by rw [← hw5, ← hM]; simp [World.size_alloc]
  have bR5 : Boxed w5 S 48 (.map none) := by rw [← hw5]; exact ((bR1.alloc _).alloc _).alloc _
  have bE5 : Boxed w5 (S + 1) 25 (.int .i64 0) := by rw [← hw5]; exact ((bE1.alloc _).alloc _).alloc _
  have at5 : At w5 M [] := by rw [← hw5]; rw [← hM]; exact ((At.made w1).alloc _).alloc _
  have bO5 : Boxed w5 (M + 1) 48 (.map (some M)) := by
    rw [← hw5]
    have := Boxed.new (w1.alloc (.map #[] 0)) 48 (.map (some M))
    rw [World.size_alloc, hM] at this
    exact this.alloc _
  have bS5 : Boxed w5 (M + 2) 22 (.slice A l.length c) := by
    rw [← hw5]
    have := Boxed.new ((w1.alloc (.map #[] 0)).alloc (.cells #[.map (some M)] 48)) 22 (.slice A l.length c)
    rw [World.size_alloc, World.size_alloc, hM] at this
    exact this
  have hB5 : Below S w w5 := by rw [← hw5]; exact ((hB1.alloc (by omega) _).alloc (by simp only [World.size_alloc]; omega) _).alloc (by simp only [World.size_alloc]; omega) _
  have hC5 : Kd.C k38 w5 A l.length l := Kd.C_below HC.out (by rw [hS]; exact hB5)
  simp only [hS, hM, Nat.add_assoc, Nat.reduceAdd]
  rw [hw5]
  have hst := placed_stops 4 (by decide) (M + 2) A c l hlen w5 bS5.cell hC5
  clear hw5 bR bE bR1 bE1 hB1 HB1 hM HCA HCON hC5 HC
  refine wpIn_rangeFunc_ownGA rfl (by decide) (gf := 58) (lb := #[.pointer (some ⟨M + 2, 0, none⟩)]) rfl trivial (enters_of Tryd.func58 (by kernel_rfl) rfl)
    hst (fun h k => h.trans k) (fun W b o o' hb ho hnc _ => ?kb) (Below.refl _ _) (fun _ => rfl)
    (fun pre W => (∃ es, fs l pre = some es ∧ At W M es) ∧ Boxed W S 48 (.map none) ∧ Boxed W (S + 1) 25 (.int .i64 0) ∧ Boxed W (M + 1) 48 (.map (some M)) ∧ Below S w W)
    (fun cd pre W => (cd = .ret ∧ fs l pre = none) ∧ Boxed W S 48 (.map none) ∧ Boxed W (S + 1) 25 (.int .i64 4) ∧ Below S w W)
    ?hI ?hIx ⟨⟨[], rfl, at5⟩, bR5, bE5, bO5, hB5⟩
    (fun x b => { tmps := #[.slice A l.length c, undef, .pointer (some ⟨S, 0, none⟩), .pointer (some ⟨S + 1, 0, none⟩), .pointer (some ⟨M + 1, 0, none⟩), .int .i64 (cnt (l.take x)), .pointer (some ⟨b, 0, none⟩), undef, undef, .slice A l.length c, .bool false, .map (some M), .slice A l.length c, .func (.func 58) #[] #[.pointer (some ⟨M + 2, 0, none⟩)], .int .i64 (cnt (l.take x)), lineV (rd_T38 l (x : Int)), undef, undef, undef, undef, undef, undef, undef, undef, undef, undef, undef, undef, undef, undef, undef, undef], defers := [] })
    (fun x => .cells #[.int .i64 (rd_T38 l (x : Int)).f0, .int .i64 (rd_T38 l (x : Int)).f1.f0, .int .i64 (rd_T38 l (x : Int)).f1.f1, .int .i64 (rd_T38 l (x : Int)).f1.f2, .int .i64 (rd_T38 l (x : Int)).f1.f3, .int .i64 (rd_T38 l (x : Int)).f1.f4, .int .i64 (rd_T38 l (x : Int)).f2] 38)
    (fun W o => KC.of_below (below_alloc (Below.refl _ _) _)) ?assign ?body ?done ?stop
  case kb =>
    exact KC.of_grown (grownBy_putObj' W b o') (fun o2 h2 => by rw [ho] at h2; cases h2; exact hnc)
  case hI =>
    refine OwnFrom.and ?_ ?_
    · rintro s W W' row ⟨es, he, ha⟩ hg hr
      exact ⟨es, he, ha.kept hg (fun e => by have := (hr M e.symm).1; omega)⟩
    · exact OwnFrom.and (Own.from (boxed_own S 48 fun _ => .map none) _) (OwnFrom.and (Own.from (boxed_own (S + 1) 25 fun _ => .int .i64 0) _) (OwnFrom.and (Own.from (boxed_own (M + 1) 48 fun _ => .map (some M)) _) (ownFrom_below (by omega) (by omega))))
  case hIx =>
    intro cd
    refine OwnFrom.and (fun s W W' row hs hg hr => hs) ?_
    exact OwnFrom.and (Own.from (boxed_own S 48 fun _ => .map none) _) (OwnFrom.and (Own.from (boxed_own (S + 1) 25 fun _ => .int .i64 4) _) (ownFrom_below (by omega) (by omega)))
  case assign =>
    intro lr x W KK hKK
    unfold plV lineV
    unfold lineV at hKK
    generalize rd_T38 l (x : Int) = y at hKK
    generalize cnt (l.take x) = cn at hKK
    gi_wp2
    exact hKK
  case body =>
    rintro lr pre x W b ⟨⟨es, hes, hat⟩, hR, hE, hO, hB⟩ hlt hbM hbx
    have c0 := blk_cell hbx 0
    simp only [List.getElem?_toArray, List.getElem?_cons_zero] at c0
    have cO := hO.cell
    have HBX := Aside0.mk hbx
    clear hbx
    have HS := Aside0.mk (fs_snoc l pre x)
    rw [hes] at HS
    unfold stp at HS
    simp only [Option.bind_some] at HS
    unfold lineV
    generalize rd_T38 l (x : Int) = y at c0 HS HBX ⊢
    generalize cnt (l.take x) = cn at HS ⊢
    have HAT := Aside0.mk hat
    have HES := Aside0.mk hes
    have HR := Aside0.mk hR
    have HE := Aside0.mk hE
    have HO := Aside0.mk hO
    have HB := Aside0.mk hB
    clear hat hes hR hE hO hB
    by_cases hz : y.f0 = 0
    · have hzb : (y.f0 == 0) = true := beq_iff_eq.2 hz
      have HS2 : Aside0 (fs l (pre ++ [x]) = some es) := ⟨by rw [HS.out, if_pos hz]⟩
      clear hz
      gi_wp2
      exact ⟨KeepsFrom.refl _ _, KC.refl _, ⟨es, HS2.out, HAT.out⟩, HR.out, HE.out, HO.out, HB.out⟩
    · have hzb : (y.f0 == 0) = false := beq_eq_false_iff_ne.2 hz
      have hlk := HAT.out.lookup Tryd.underlying48 Tryd.underlying3 (zero3 W) y.f0 true
      simp only [if_true] at hlk
      cases hl : lk es y.f0 with
      | none =>
        rw [hl] at hlk
        simp only [Option.getD_none, Option.isSome_none] at hlk
        have HS2 : Aside0 (fs l (pre ++ [x]) = some (st es y.f0 (.int .i64 cn))) := ⟨by rw [HS.out, if_neg hz, hl]; rfl⟩
        obtain ⟨W2, hrun, ha2, hg2, hs2⟩ := HAT.out.update Tryd.underlying48 Tryd.underlying3 y.f0 (.int .i64 cn)
        have HA2 := Aside0.mk ha2
        have HG2 := Aside0.mk hg2
        clear hz hl ha2 hg2 hs2 HS
        gi_wp2
        have nS := HAT.out.not_cells HR.out
        have nE := HAT.out.not_cells HE.out
        have nO := HAT.out.not_cells HO.out
        exact ⟨KeepsFrom.of_grownBy HG2.out (fun j e => by cases e; omega), KC.of_grown HG2.out HAT.out.no_cells, ⟨_, HS2.out, HA2.out⟩, HR.out.kept HG2.out (fun e => nS (Option.some.inj e)), HE.out.kept HG2.out (fun e => nE (Option.some.inj e)), HO.out.kept HG2.out (fun e => nO (Option.some.inj e)), pw_below_grown HB.out (some M) (by have := HB.out.size; omega) HG2.out (fun k e => by cases e; omega)⟩
      | some u =>
        rw [hl] at hlk
        simp only [Option.getD_some, Option.isSome_some] at hlk
        have HS2 : Aside0 (fs l (pre ++ [x]) = none) := ⟨by rw [HS.out, if_neg hz, hl]; rfl⟩
        clear hz hl HS
        have c2 := HR.out.cell
        have c3 := HE.out.cell
        have f2 := HR.out.frozen
        have f3 := HE.out.frozen
        gi_wp2
        refine ⟨((KeepsOthers.setCell _ _ _).trans (KeepsOthers.setCell _ _ _)).from _, ⟨rfl, HS2.out⟩, (HR.out.set _).other (by omega) _, (HE.out.other (by omega) _).set _, ?_⟩
        exact (HB.out.setCell (p := ⟨S, 0, none⟩) (Nat.le_refl _) _).setCell (p := ⟨S + 1, 0, none⟩) (by show S ≤ S + 1; omega) _
  case done =>
    rintro Dd ys W hDd rfl ⟨⟨es, hes, hat⟩, hR, hE, hO, hB⟩ hK
    have c4 := hO.cell
    have c2 := hR.cell
    have c3 := hE.cell
    have f2 := hR.frozen
    have f3 := hE.frozen
    have HAT := Aside0.mk hat
    have HES := Aside0.mk hes
    have HR := Aside0.mk hR
    have HE := Aside0.mk hE
    have HO := Aside0.mk hO
    have HB := Aside0.mk hB
    have HK := Aside0.mk hK
    clear hat hes hR hE hO hB hK
    gi_wp2
    have hR' : Boxed ((W.setCell ⟨S, 0, none⟩ (.map (some M))).setCell ⟨S + 1, 0, none⟩ (.int .i64 0)) S 48 (.map (some M)) := (HR.out.set _).other (by omega) _
    have hE' : Boxed ((W.setCell ⟨S, 0, none⟩ (.map (some M))).setCell ⟨S + 1, 0, none⟩ (.int .i64 0)) (S + 1) 25 (.int .i64 0) := (HE.out.other (by omega) _).set _
    have hK' := ((KeepsOthers.setCell W ⟨S, 0, none⟩ (.map (some M))).trans (KeepsOthers.setCell _ ⟨S + 1, 0, none⟩ (.int .i64 0))).same Dd _ HK.out rfl
    have hA' : At ((W.setCell ⟨S, 0, none⟩ (.map (some M))).setCell ⟨S + 1, 0, none⟩ (.int .i64 0)) M es := (HAT.out.setCell (a := ⟨S, 0, none⟩) (by show M ≠ S; omega) _).setCell (a := ⟨S + 1, 0, none⟩) (by show M ≠ S + 1; omega) _
    refine ⟨by simp, .inl ⟨_, _, rfl, run_takeDeferred hK', ?_⟩⟩
    have hcR := cell_kept hR'.cell (grownBy_putObj' _ Dd (.deferred none)) (fun r e => by cases e; exact ⟨_, hK', rfl⟩)
    have hcE := cell_kept hE'.cell (grownBy_putObj' _ Dd (.deferred none)) (fun r e => by cases e; exact ⟨_, hK', rfl⟩)
    refine ⟨.tuple #[.map (some M), .int .i64 0], by simp [results, Tryd.results22, go_sem, hcR, hcE], .inl ⟨M, es, HES.out, rfl, hA'.kept (grownBy_putObj' _ Dd (.deferred none)) (fun e => by have := Option.some.inj e; omega), by omega, ?_⟩⟩
    rw [hS]
    exact ((HB.out.setCell (p := ⟨S, 0, none⟩) (Nat.le_refl _) _).setCell (p := ⟨S + 1, 0, none⟩) (by show S ≤ S + 1; omega) _).trans (belowK_b (w := w) (by omega) _ Dd _ _ (by omega) hK' rfl rfl)
  case stop =>
    rintro Dd cd pre W hDd ⟨q, hq, hpre⟩ ⟨⟨rfl, hn⟩, hR, hE, hB⟩ hK
    have c2 := hR.cell
    have c3 := hE.cell
    gi_wp2
    refine ⟨by simp, .inl ⟨_, _, rfl, run_takeDeferred hK, ?_⟩⟩
    have hcR := cell_kept hR.cell (grownBy_putObj' _ Dd (.deferred none)) (fun r e => by cases e; exact ⟨_, hK, rfl⟩)
    have hcE := cell_kept hE.cell (grownBy_putObj' _ Dd (.deferred none)) (fun r e => by cases e; exact ⟨_, hK, rfl⟩)
    refine ⟨.tuple #[.map none, .int .i64 4], by simp [results, Tryd.results22, go_sem, hcR, hcE], .inr ⟨?_, rfl, ?_⟩⟩
    · rw [hpre] at hn
      have := fs_none l (l.length - (q + 1)) _ hn
      rwa [show q + 1 + (l.length - (q + 1)) = l.length by omega] at this
    · rw [hS]
      exact hB.trans (belowK_b (w := w) (by omega) W Dd _ _ (by omega) hK rfl rfl)
end Go.Proofs.YtmfcmjcgajjiiaaDoor.S
