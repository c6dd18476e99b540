import Derived.Test.YtncpgclcbdgndaaOused
import Derived.Test.YtncpgclcbdgndaaS7
namespace Go.Proofs.Ytncpgclcbdgndaa.S
open Go.RowKit Go.Proofs.YtncpgclcbdgndaaW.PrintWords Go.Proofs.YtncpgclcbdgndaaW.PrintLast Go.Proofs.YtncpgclcbdgndaaW.PrintMore
set_option linter.unusedVariables false
/-! ### At -/
def hasP (x : S38) (p : Int) : Bool := decide (x.f1 ≤ p) && decide (p ≤ x.f2)
theorem hasP_f (x : S38) (p : Int) : spans_has.f x.f0 x.f1 x.f2 p = some (hasP x p) := by
  unfold spans_has.f hasP
  by_cases h : x.f1 ≤ p
  · simp [h]
  · simp [h]
def ats (l : List S38) (p : Int) : List Int := (l.filter fun x => hasP x p).map (·.f0)
theorem ats_take {l : List S38} {j : Nat} (h : j < l.length) (p : Int) : ats (l.take (j + 1)) p = if hasP (rd_T38 l (j : Int)) p = true then ats (l.take j) p ++ [(rd_T38 l (j : Int)).f0] else ats (l.take j) p := by
  unfold ats
  rw [rd38 h, List.take_succ_eq_append_getElem h, List.filter_append, List.map_append]
  by_cases h0 : hasP l[j] p = true
  · simp [h0]
  · simp [h0]
theorem ats_len (l : List S38) (p : Int) : (ats l p).length ≤ l.length := by
  unfold ats
  rw [List.length_map]
  exact List.length_filter_le _ _
set_option maxHeartbeats 8000000 in
set_option maxRecDepth 100000 in
theorem at_any (A : Option Addr) (c : Nat) (H : List S38) (p : Int) (w : World) (hr : Kd.C k38 w A H.length H) (hn : H.length ≤ 1000000000000) :
    Calls Try.prog 38 #[.slice A H.length c, .int .i64 p] w fun e w' => ∃ v, e = .returned v ∧ w'.ownsRow w.heap.size 3 1 v (srt (ats H p)).length (nums .i64 (srt (ats H p))) ∧ Below w.heap.size w w' := by
  have hu38 := Try.underlying38
  have HR := Aside0.mk hr
  have HN := Aside0.mk hn
  clear hr
  go_enter Try.func38, Try.ntmps38
  go_wp2_with fail
  go_loopw [10, 5] (fun i v wr => ∃ j : Nat, j ≤ H.length ∧ i = .int .i64 j ∧ Aside0 (wr.ownsRow w.heap.size 3 1 v (ats (H.take j) p).length (nums .i64 (ats (H.take j) p))) ∧ Aside0 (Below w.heap.size w wr)) (fun i _ _ => H.length - (intOf i).toNat)
  case atStart => exact ⟨0, Nat.zero_le _, rfl, ⟨own_nil _ _ _ _⟩, ⟨Below.refl _ _⟩⟩
  case round =>
    obtain ⟨j, hj, rfl, HO, HB⟩ := hrel
    by_cases hlt : j < H.length
    · have b1 : decide ((j : Int) < (H.length : Int)) = true := decide_eq_true (by omega)
      have hw1 : wrap64 ((j : Int) + 1) = ((j + 1 : Nat) : Int) := by unfold wrap64; omega
      obtain ⟨ad, eA, k0, k1, k2⟩ := at_T38 (Kd.C_below HR.out HB.out) (j : Int) (by omega) (by omega)
      simp only [Int.toNat_natCast] at k0 k1 k2
      have HU := Aside0.mk (ats_take hlt p)
      have HUL : Aside0 ((ats (H.take j) p).length ≤ 1000000000000) := ⟨by have := ats_len (H.take j) p; rw [List.length_take] at this; omega⟩
      generalize rd_T38 H (j : Int) = x at k0 k1 k2 HU
      subst eA
      have HC := fun W => spans_has.calls x.f0 x.f1 x.f2 p _ W (hasP_f x p)
      cases h0 : hasP x p with
      | true =>
        rw [h0] at HC
        have HC := Aside0.mk HC
        have HU2 : Aside0 (ats (H.take (j + 1)) p = ats (H.take j) p ++ [x.f0]) := ⟨by rw [HU.out, if_pos h0]⟩
        clear h0
        have HB1 := Aside0.mk (below_alloc HB.out (.cells #[.int .i64 x.f0, .int .i64 x.f1, .int .i64 x.f2] 38))
        have HO1 := Aside0.mk (own_alloc HO.out (.cells #[.int .i64 x.f0, .int .i64 x.f1, .int .i64 x.f2] 38))
        have hblk := blk_new wr (.cells #[.int .i64 x.f0, .int .i64 x.f1, .int .i64 x.f2] 38)
        go_wp2_with (first
          | (go_at_call 47; refine (HC.out _).mono ?_; rintro e w3 ⟨rfl, hd3⟩; have hblk3 := blk_below hblk hd3; have s0 := blk_cell hblk3 0; have HB3 := Aside0.mk (below_then HB1.out HB1.out.size hd3); have HO3 := Aside0.mk (pw_own_below HO1.out hd3))
          | (at_builtin; refine print_append_num w.heap.size rfl _ _ 35 3 .i64 8 rfl Try.underlying35 (by kernel_rfl) (by decide) u5 (ats (H.take j) p) x.f0 rfl rfl HO3.out HB3.out (by have := HB3.out.size; omega) (by have := HUL.out; omega) ?_; intro v1 w1 hown hB1 hg1 hat))
        go_roundw
        case rel => exact ⟨j + 1, by omega, by go_num, ⟨by rw [HU2.out]; exact hown⟩, ⟨hB1⟩⟩
        case measure => first | exact meas1 hlt hw1 | exact meas1 hlt rfl
      | false =>
        rw [h0] at HC
        have HC := Aside0.mk HC
        have HU2 : Aside0 (ats (H.take (j + 1)) p = ats (H.take j) p) := ⟨by rw [HU.out, if_neg (by rw [h0]; decide)]⟩
        clear h0
        have HB1 := Aside0.mk (below_alloc HB.out (.cells #[.int .i64 x.f0, .int .i64 x.f1, .int .i64 x.f2] 38))
        have HO1 := Aside0.mk (own_alloc HO.out (.cells #[.int .i64 x.f0, .int .i64 x.f1, .int .i64 x.f2] 38))
        go_wp2_with (go_at_call 47; refine (HC.out _).mono ?_; rintro e w3 ⟨rfl, hd3⟩; have HB3 := Aside0.mk (below_then HB1.out HB1.out.size hd3); have HO3 := Aside0.mk (pw_own_below HO1.out hd3))
        go_roundw
        case rel => exact ⟨j + 1, by omega, by go_num, ⟨by rw [HU2.out]; exact HO3.out⟩, HB3⟩
        case measure => first | exact meas1 hlt hw1 | exact meas1 hlt rfl
    · have b1 : decide ((j : Int) < (H.length : Int)) = false := decide_eq_false (by omega)
      obtain rfl : j = H.length := by omega
      rw [List.take_length] at HO
      have HUL : Aside0 ((ats H p).length ≤ 1000000000000) := ⟨by have := ats_len H p; omega⟩
      go_wp2_with (go_at_call 36; refine (sortI_any _ w.heap.size _ _ HO.out (by have := HUL.out; omega)).mono ?_; rintro e w5 ⟨rfl, ho5, hg5⟩; have HO5 := Aside0.mk ho5; have HB5 := Aside0.mk (pw_below_grown HB.out _ HB.out.size hg5 (own_base HO.out)); clear ho5 hg5)
      go_ret
      exact ⟨_, rfl, by rw [srt_length]; exact HO5.out, HB5.out⟩
def spans_At.f (l0 : List S38) (a1 : Int) : Option (List Int) := if l0.length ≤ 1000000000000 then some (srt (ats l0 a1)) else none
theorem spans_At.calls (A0 : Option Addr) (c0 : Nat) (l0 : List S38) (a1 : Int) (r : List Int) (w : World) (hr0 : Kd.C k38 w A0 l0.length l0) (hc0 : l0.length ≤ c0) (h : spans_At.f l0 a1 = some r) :
    Calls Try.prog 38 #[.slice A0 l0.length c0, .int .i64 a1] w fun e w' => ∃ v0_, e = .returned v0_ ∧ Kd.R (Kd.int .i64) 3 w' w.heap.size (fun _ => True) v0_ r ∧ Below w.heap.size w w' := by
  unfold spans_At.f at h
  by_cases hn : l0.length ≤ 1000000000000
  · rw [if_pos hn] at h
    obtain rfl := Option.some.inj h
    refine (at_any A0 c0 l0 a1 w hr0 hn).mono ?_
    rintro e w' ⟨v, rfl, ho, hb⟩
    exact ⟨v, rfl, Kd.R_of_own ho (fun _ _ => trivial), hb⟩
  · rw [if_neg hn] at h
    cases h
end Go.Proofs.Ytncpgclcbdgndaa.S
