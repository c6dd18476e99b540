import Derived.Shelf.SlIterI.Nil
import Derived.Shelf.SlIterI.Sorted
import Derived.WalkKit
import Derived.OwnWalkIn
import Derived.TacticsInMore
import Derived.LoopNIn
import Derived.LoopIn
import Derived.Test.YtmfcmjcgajjiiaaDoorS0
import Derived.Test.YtmfcmjcgajjiiaaDoorImi
import Derived.Test.YtmfcmjcgajjiiaaDoorShelf
namespace Go.Proofs.YtmfcmjcgajjiiaaDoor.S
open Go.RowKit Go.Shelf Go.Maps Go.Sort Go.Proofs.YtmfcmjcgajjiiaaDoorW.PrintWords Go.Proofs.YtmfcmjcgajjiiaaDoorW.PrintLast Go.Proofs.YtmfcmjcgajjiiaaDoorW.PrintMore
set_option linter.unusedVariables false
attribute [local go_sem] Oper.semAt_some
def keysOf (es : List (Int × Value)) : List Int := es.map (·.1)
/-- slices.Sort's two contracts, at the fence that asks nothing. -/
theorem sortsK (m : Nat) : AnyZI.SortsIn Tryd.prog Tryd.sorted24_ren Fence.wide m :=
  ⟨fun blk off cap ss W hH hblk hsz => callsIn_wide.2 (Tryd.slices_Sort_int blk off cap ss W hH hblk hsz),
   fun p cap W => callsIn_wide.2 (Tryd.slices_Sort_int_none p cap W)⟩
set_option maxRecDepth 100000 in
set_option maxHeartbeats 4000000 in
/-- The iterator of maps.Keys: every key once. -/
theorem keys44_in (n : Nat) (hn : 1 ≤ n) (l Bm b : Nat) (es : List (Int × Value)) (J : List Int → World → Prop)
    (hY : ∀ pre x W, J pre W → pre.length < es.length → YieldAt Fence.wide (n - 1) Tryd.prog l #[encZ x] W fun e W' => e = .returned (.bool true) ∧ J (pre ++ [x]) W' ∧ KeepsWalks W W')
    (W : World) (hJ : AbidesFrom W.heap.size J) (hm : W.cell? ⟨Bm, 0, none⟩ = some (.map (some b))) (hat : IM.At W b es) (h0 : J [] W) :
    CallsIn Fence.wide n Tryd.prog 44 #[.func (.yield l) #[] #[], .pointer (some ⟨Bm, 0, none⟩)] W fun e W' => (∃ v, e = .returned v) ∧ ∃ ss : List Int, ss.Perm (keysOf es) ∧ J ss W' := by
  refine callsIn_of_wp Tryd.func44 rfl trivial ?_ rfl
  simp only [Tryd.ntmps44, List.size_toArray, List.length_cons, List.length_nil, Nat.reduceAdd, Nat.reduceSub, Array.replicate_succ, Array.replicate_zero, List.push_toArray, List.append_toArray, List.nil_append, List.cons_append]
  gi_wp2_with (first
    | (gi_at_range; refine IM.wplIn_range _ rfl _ 48 rfl 3 3 Tryd.underlying48 b es rfl hat ?_; intro w0 hrg0 hg0 hs0; clear hs0)
    | gi_in)
  go_frame
  gi_loopw [3] (fun _ wr => ∃ (left : List (Int × Value)) (ss : List Int), Aside0 (IM.Rng wr b W.heap.size es left) ∧ Aside0 ((ss ++ keysOf left).Perm (keysOf es)) ∧ Aside0 (J ss wr))
    (fun _ wr => wr.rangeLeft b W.heap.size)
  case atStart => exact ⟨es, [], ⟨hrg0⟩, ⟨List.Perm.refl _⟩, ⟨hJ [] W w0 none h0 hg0 (fun r e => by cases e)⟩⟩
  case round =>
    clear hrg0 hg0
    obtain ⟨left, ss, HR, HP, HJs⟩ := hrel
    gi_wp2_with (first
      | (gi_at_next; refine IM.wplIn_next (β := Value) _ rfl _ rfl b W.heap.size es left rfl HR.out id (fun p _ => ⟨p.2, rfl⟩) ?_ ?_)
      | gi_in)
    · intro hl0
      subst hl0
      gi_wp2
      go_end0
      exact ⟨⟨_, rfl⟩, ss, by have := HP.out; rwa [keysOf, List.map_nil, List.append_nil] at this, HJs.out⟩
    · intro j x c w2 hj hrg2 hlt hg2 hs2 hen
      have hJ2 : J ss w2 := hJ ss wr w2 (some W.heap.size) HJs.out hg2 (fun r e => by cases e; exact ⟨Nat.le_refl _, HR.out.iter_walk⟩)
      have hpl := HP.out.length_eq
      have hps := IM.perm_step hj
      have hjl := (List.getElem?_eq_some_iff.1 hj).1
      obtain ⟨fn, tmps, assign, body, hy, hRo⟩ := hY ss x w2 hJ2 (by simp only [keysOf, List.length_append, List.length_map] at hpl; omega)
      have HLT := Aside0.mk hlt
      have HRG2 := Aside0.mk hrg2
      have HPS := Aside0.mk hps
      have HRo := Aside0.mk hRo
      clear hs2 hlt hrg2 hps hRo hj hpl hJ2 hg2 hjl
      gi_wp2
      refine HRo.out.mono ?_
      rintro e W3 ⟨rfl, hJ3, hk3⟩
      have hrg3 := HRG2.out.of_walks hk3
      have HRG3 := Aside0.mk hrg3
      have HJ3 := Aside0.mk hJ3
      clear hy hrg3 hJ3 hk3 hen
      gi_wp2
      go_roundw
      case rel => exact ⟨left.eraseIdx j, ss ++ [x], HRG3, ⟨by
        refine List.Perm.trans ?_ HP.out
        rw [List.append_assoc]
        exact List.Perm.append_left ss HPS.out⟩, HJ3⟩
      case measure => rw [HRG3.out.left_eq, HR.out.left_eq]; exact HLT.out
/-- maps.Keys: one box; the function value captures it. -/
theorem keys25_in (n : Nat) (mb : Option Nat) (w : World) :
    CallsIn Fence.wide n Tryd.prog 25 #[.map mb] w fun e w' => e = .returned (.func (.func 44) #[] #[.pointer (some ⟨w.heap.size, 0, none⟩)]) ∧ w' = w.alloc (.cells #[.map mb] 48) := by
  refine callsIn_of_wp Tryd.func25 rfl trivial ?_ rfl
  simp only [Tryd.ntmps25, List.size_toArray, List.length_cons, List.length_nil, Nat.reduceAdd, Nat.reduceSub, Array.replicate_succ, Array.replicate_zero, List.push_toArray, List.append_toArray, List.nil_append, List.cons_append]
  gi_wp2
  go_ret
  exact ⟨rfl, rfl⟩
theorem keys25_any (mb : Option Nat) (w : World) :
    Calls Tryd.prog 25 #[.map mb] w fun e w' => e = .returned (.func (.func 44) #[] #[.pointer (some ⟨w.heap.size, 0, none⟩)]) ∧ w' = w.alloc (.cells #[.map mb] 48) := (callsIn_wide (n := 1)).1 (keys25_in 1 mb w)
/-- slices.Sorted at what maps.Keys handed back: a row of the call's own, the keys, sorted. -/
theorem sorted25_any (Bm b : Nat) (es : List (Int × Value)) (w : World) (hm : w.cell? ⟨Bm, 0, none⟩ = some (.map (some b))) (hat : IM.At w b es) (hlen : es.length ≤ 1000000000000) :
    Calls Tryd.prog 24 #[.func (.func 44) #[] #[.pointer (some ⟨Bm, 0, none⟩)]] w fun e w' => ∃ v, e = .returned v ∧ w'.ownsRow w.heap.size 3 1 v es.length (nums .i64 ((keysOf es).mergeSort fun x y => decide (x ≤ y))) ∧ Below w.heap.size w w' := by
  have hBm : Bm < w.heap.size := World.block_lt_of_cell? w _ hm
  have hseq : SeqGives Fence.wide 2 Tryd.prog 44 #[.pointer (some ⟨Bm, 0, none⟩)] encZ (fun ss => ss.Perm (keysOf es)) es.length w := fun l J W hW hJ hY h0 =>
    keys44_in 2 (by decide) l Bm b es J hY W hJ (pw_cell_below hW hm) (hat.below hW hat.lt) h0
  have cS := AnyZI.sorted_in Tryd.sorted24 Fence.wide 5 trivial trivial trivial trivial rfl (by omega) (sortsK _) (enters_of Tryd.func43 (by kernel_rfl) rfl) 44 #[.pointer (some ⟨Bm, 0, none⟩)] trivial (enters_of Tryd.func44 (by kernel_rfl) rfl) _ _ (by unfold maxLen; omega) (by omega) w hseq
  change CallsIn _ _ Tryd.prog 24 _ _ _ at cS
  refine (callsIn_wide.1 cS).mono ?_
  rintro e w' ⟨v, ss, rfl, hp, ho, _, hb⟩
  refine ⟨v, rfl, ?_, hb⟩
  have e1 : (ss.mergeSort fun x y => decide (x ≤ y)) = (keysOf es).mergeSort fun x y => decide (x ≤ y) := mergeSort_of_perm_i hp
  have e2 : ss.length = es.length := by rw [hp.length_eq, keysOf, List.length_map]
  rw [e1, e2] at ho
  exact ho
end Go.Proofs.YtmfcmjcgajjiiaaDoor.S
