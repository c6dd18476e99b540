import Derived.Test.YtncpgclcbdgndaaOsort
namespace Go.Proofs.Ytncpgclcbdgndaa.S
open Go.RowKit Go.Proofs.YtncpgclcbdgndaaW.PrintWords Go.Proofs.YtncpgclcbdgndaaW.PrintLast Go.Proofs.YtncpgclcbdgndaaW.PrintMore
set_option linter.unusedVariables false
/-! ### order -/
def iot (n : Nat) : List Int := (List.range n).map fun i : Nat => (i : Int)
theorem iot_succ (n : Nat) : iot (n + 1) = iot n ++ [(n : Int)] := by unfold iot; rw [List.range_succ, List.map_append]; rfl
theorem iot_length (n : Nat) : (iot n).length = n := by simp [iot]
set_option maxHeartbeats 8000000 in
set_option maxRecDepth 100000 in
theorem order_any (w0 : World) (s : Nat) (A : Option Addr) (c : Nat) (l : List S38) (hb hc : Nat) (H : List S40) (mb : Nat) (a : List Nat) (sl : Int) (w : World) (h : Sc w0 w s A c l hb hc H mb a sl) (hn : l.length ≤ 1000000000000) :
    Calls Try.prog 25 #[.pointer (some ⟨s, 0, none⟩)] w fun e w' => ∃ (v : Value) (ord : List Nat), e = .returned v ∧ ord.Perm (List.range l.length) ∧ ord.Pairwise (fun i j => ¬ cmp3 l j i < 0) ∧ w'.ownsRow w.heap.size 3 1 v l.length (nums .i64 (ord.map fun i : Nat => (i : Int))) ∧ Below w.heap.size w w' := by
  have hu48 := Try.underlying48
  have hu38 := Try.underlying38
  obtain ⟨q0, q1, q2, q3⟩ := h.cells
  have HSC := Aside0.mk h
  have HN := Aside0.mk hn
  have hsl : s < w.heap.size := blk_lt h.hs
  clear h
  go_enter Try.func25, Try.ntmps25
  go_wp2_with fail
  generalize hBX : w.heap.size = bx
  have HBX := Aside0.mk hBX
  go_loopw [10, 3] (fun i v wr => ∃ j : Nat, j ≤ l.length ∧ i = .int .i64 j ∧ Aside0 (wr.ownsRow (w.heap.size + 1) 3 1 v (iot j).length (nums .i64 (iot j))) ∧ Aside0 (Below (w.heap.size + 1) (w.alloc (.cells #[.pointer (some ⟨s, 0, none⟩)] 45)) wr)) (fun i _ _ => l.length - (intOf i).toNat)
  case atStart => exact ⟨0, Nat.zero_le _, rfl, ⟨own_nil _ _ _ _⟩, ⟨by rw [← World.size_alloc w (.cells #[.pointer (some ⟨s, 0, none⟩)] 45)]; exact Below.refl _ _⟩⟩
  case round =>
    obtain ⟨j, hj, rfl, HO, HB⟩ := hrel
    have HBS : Aside0 (w.heap.size + 1 ≤ wr.heap.size) := ⟨by have := HB.out.size; rwa [World.size_alloc] at this⟩
    by_cases hlt : j < l.length
    · have b1 : decide ((j : Int) < (l.length : Int)) = true := decide_eq_true (by omega)
      have hw1 : wrap64 ((j : Int) + 1) = ((j + 1 : Nat) : Int) := by unfold wrap64; omega
      go_wp2_with (at_builtin; refine print_append_num (w.heap.size + 1) rfl _ _ 35 3 .i64 8 rfl Try.underlying35 (by kernel_rfl) (by decide) u3 (iot j) (j : Int) rfl rfl HO.out HB.out HBS.out (by rw [iot_length]; have := HN.out; omega) ?_; intro v1 w1 hown hB1 hg1 hat)
      go_roundw
      case rel => exact ⟨j + 1, by omega, by go_num, ⟨by rw [iot_succ]; exact hown⟩, ⟨hB1⟩⟩
      case measure => simp [intOf]; omega
    · have b1 : decide ((j : Int) < (l.length : Int)) = false := decide_eq_false (by omega)
      obtain rfl : j = l.length := by omega
      rw [iot_length] at HO
      have HOB : Aside0 (Below w.heap.size w wr) := ⟨⟨HB.out.os, HB.out.tape, HB.out.output, by have := HBS.out; omega, fun k hk => by
        have h1 := HB.out.block k (by omega)
        rw [h1]
        exact (below_alloc (Below.refl w.heap.size w) (.cells #[.pointer (some ⟨s, 0, none⟩)] 45)).block k hk⟩⟩
      have HBXX : Aside0 (wr.heap[bx]? = some (.cells #[.pointer (some ⟨s, 0, none⟩)] 45 (0, 0))) := ⟨by
        have h1 := HB.out.block bx (by have := HBX.out; omega)
        rw [h1, ← HBX.out]
        exact blk_new w _⟩
      have HS := sort_any w0 wr s bx A c l HSC.out.hl0 (below_then HSC.out.hw HSC.out.hw.size HOB.out) HBXX.out _ _ _ (HSC.out.below HOB.out).hs (w.heap.size + 1) (by have := HSC.out.hw.size; omega) (by have := HBX.out; omega) (by omega) u3 HO.out (by have := HN.out; omega)
      have HS := Aside0.mk HS
      go_wp2_with (go_at_call 39; refine HS.out.mono ?_; rintro e w5 ⟨rfl, ord, hp, hs5, ho5, hg5⟩)
      go_ret
      have e := HBX.out
      subst e
      exact ⟨u3, rfl, ord, hp, hs5, own_less ho5 (by omega), pw_below_grown HOB.out _ HOB.out.size hg5 (fun k e => by have := own_base HO.out k e; omega)⟩
end Go.Proofs.Ytncpgclcbdgndaa.S
