import Derived.Test.YtncpgclcbdgndaaOhomes
import Derived.Test.YtncpgclcbdgndaaOused
import Derived.Test.YtncpgclcbdgndaaS7
import Derived.Test.YtncpgclcbdgndaaS8
import Derived.Test.YtncpgclcbdgndaaS9a
namespace Go.Proofs.Ytncpgclcbdgndaa.S
open Go.RowKit Go.Proofs.YtncpgclcbdgndaaW.PrintWords Go.Proofs.YtncpgclcbdgndaaW.PrintLast Go.Proofs.YtncpgclcbdgndaaW.PrintMore
set_option linter.unusedVariables false
/-! ### small -/
def sRow : List S38 := [⟨1, 0, 9⟩, ⟨2, 1, 3⟩, ⟨3, 2, 4⟩]
def sHomes : List S40 := [⟨-1, 0⟩, ⟨1, 0⟩, ⟨0, 0⟩]
theorem sm_right : rgt sRow [] = true := by decide +kernel
theorem sm_ord : ordOf sRow = [0, 1, 2] := by
  symm
  refine ord_unique sm_right (by decide) ?_
  decide +kernel
theorem sm_homes : scan_Homes.f sRow 2 = some (sHomes, 0) := by
  unfold scan_Homes.f homesRow
  rw [if_pos ⟨sm_right, by decide, by decide⟩, sm_ord]
  rfl
theorem sm_same : swageref26_Same.f 30 sHomes [⟨-1, 0⟩, ⟨1, 0⟩, ⟨0, 0⟩] = some true := by decide +kernel
theorem sm_slots : scan_Slots.f 30 sHomes = some 1 := by decide +kernel
theorem sm_fits : scan_Fits.f 30 sRow sHomes 2 = some true := by decide +kernel
theorem sm_fits2 : scan_Fits.f 30 sRow [⟨0, 0⟩, ⟨0, 0⟩, ⟨0, 0⟩] 2 = some false := by decide +kernel
theorem sm_ints : swageref02_Ints.f 30 [0, 1] [0, 1] = some true := by decide +kernel
theorem sm_used : scan_Used.f sHomes = some [0, 1] := by
  unfold scan_Used.f
  rw [if_pos (by decide)]
  have e : srt (used sHomes) = [0, 1] := by
    have e1 : used sHomes = [1, 0] := by decide +kernel
    rw [e1]
    unfold srt
    simp [List.mergeSort, List.merge]
  rw [e]
  rfl
theorem sm_row : swagelaw26_row.f = some sRow := rfl
set_option maxHeartbeats 8000000 in
set_option maxRecDepth 100000 in
theorem small_walk (w : World) : Calls Try.prog 9 #[] w fun e w' => e = .returned (.bool true) ∧ Below w.heap.size w w' := by
  have hu38 := Try.underlying38
  have hu40 := Try.underlying40
  go_enter Try.func9, Try.ntmps9
  go_wp2_with fail
  refine (swagelaw26_row.calls _ _ sm_row).mono ?_
  rintro e w1 ⟨v1, rfl, hr1, hb1⟩
  obtain ⟨A1, k1, rfl, hk1, hc1⟩ := Kd.R_reads hr1
  have HB1 := Aside0.mk hb1
  have HC1 := Aside0.mk hc1
  have HK1 := Aside0.mk hk1
  clear hr1 hb1 hc1 hk1
  go_wp2_with fail
  refine (scan_Homes.calls A1 k1 sRow 2 _ _ _ HC1.out HK1.out sm_homes).mono ?_
  rintro e w2 ⟨v2, rfl, hr2, hb2⟩
  obtain ⟨A2, k2, rfl, hk2, hc2⟩ := Kd.R_reads hr2
  have HB2 := Aside0.mk (below_then HB1.out HB1.out.size hb2)
  have HC2 := Aside0.mk hc2
  have HK2 := Aside0.mk hk2
  clear hr2 hb2 hc2 hk2 HB1 HC1 HK1
  go_wp2_with fail
  have hz : (w2.alloc (.cells #[.int .i64 (-1), .int .i64 0, .int .i64 1, .int .i64 0, .int .i64 0, .int .i64 0] 40)).heap[w2.heap.size]? = some (.cells (c40 [⟨-1, 0⟩, ⟨1, 0⟩, ⟨0, 0⟩]).toArray 40 (0, 0)) := blk_new w2 _
  have hz2 := (Kd.R_reads' (R40_of (base := 0) hz rfl (Nat.zero_le _) (by decide))).2.2
  refine (swageref26_Same.calls 30 A2 k2 sHomes _ 3 _ _ _ (Kd.C_below HC2.out (below_alloc (Below.refl _ _) _)) HK2.out hz2 (by decide) sm_same).mono ?_
  rintro e w3 ⟨rfl, hd3⟩
  have HB3 := Aside0.mk (below_then (below_alloc HB2.out _) (below_alloc HB2.out _).size hd3.below)
  have HC3 := Aside0.mk (Kd.C_below HC2.out (below_step (below_alloc (Below.refl _ _) _) hd3.below))
  clear hz hz2 hd3 HB2 HC2
  go_wp2_with fail
  refine (scan_Slots.calls 30 A2 k2 sHomes _ _ HC3.out HK2.out sm_slots).mono ?_
  rintro e w4 ⟨rfl, hb4⟩
  have HB4 := Aside0.mk (below_then HB3.out HB3.out.size hb4)
  have HC4 := Aside0.mk (Kd.C_below HC3.out hb4)
  clear hb4 HB3 HC3
  go_wp2_with fail
  refine (swagelaw26_row.calls _ _ sm_row).mono ?_
  rintro e w5 ⟨v5, rfl, hr5, hb5⟩
  obtain ⟨A5, k5, rfl, hk5, hc5⟩ := Kd.R_reads hr5
  have HB5 := Aside0.mk (below_then HB4.out HB4.out.size hb5)
  have HC5 := Aside0.mk (Kd.C_below HC4.out hb5)
  have HD5 := Aside0.mk hc5
  have HK5 := Aside0.mk hk5
  clear hb5 hr5 hc5 hk5 HB4 HC4
  go_wp2_with fail
  refine (scan_Fits.calls 30 A5 k5 sRow A2 k2 sHomes 2 _ _ HD5.out HK5.out HC5.out HK2.out sm_fits).mono ?_
  rintro e w6 ⟨rfl, hb6⟩
  have HB6 := Aside0.mk (below_then HB5.out HB5.out.size hb6)
  have HC6 := Aside0.mk (Kd.C_below HC5.out hb6)
  clear hb6 HB5 HC5 HD5 HK5
  go_wp2_with fail
  refine (scan_Used.calls A2 k2 sHomes _ _ HC6.out HK2.out sm_used).mono ?_
  rintro e w7 ⟨v7, rfl, hr7, hb7⟩
  obtain ⟨A7, k7, rfl, hk7, hc7⟩ := Kd.R_reads hr7
  have HB7 := Aside0.mk (below_then HB6.out HB6.out.size hb7)
  have HC7 := Aside0.mk hc7
  have HK7 := Aside0.mk hk7
  clear hb7 hr7 hc7 hk7 HB6 HC6
  go_wp2_with fail
  have hy := C_of_blk (k := .i64) (t := 3) [0, 1] (blk_new w7 (.cells #[.int .i64 0, .int .i64 1] 3)) (by decide)
  refine (swageref02_Ints.calls 30 A7 k7 [0, 1] _ 2 [0, 1] _ _ (Kd.C_below HC7.out (below_alloc (Below.refl _ _) _)) HK7.out hy (by decide) sm_ints).mono ?_
  rintro e w8 ⟨rfl, hd8⟩
  have HB8 := Aside0.mk (below_then (below_alloc HB7.out _) (below_alloc HB7.out _).size hd8.below)
  clear hy hd8 HB7 HC7 HK7
  go_wp2_with fail
  refine (swagelaw26_row.calls _ _ sm_row).mono ?_
  rintro e w9 ⟨v9, rfl, hr9, hb9⟩
  obtain ⟨A9, k9, rfl, hk9, hc9⟩ := Kd.R_reads hr9
  have HB9 := Aside0.mk (below_then HB8.out HB8.out.size hb9)
  have HD9 := Aside0.mk hc9
  have HK9 := Aside0.mk hk9
  clear hb9 hr9 hc9 hk9 HB8
  go_wp2_with fail
  refine (scan_Right.calls A9 k9 sRow true _ HD9.out HK9.out (congrArg some sm_right)).mono ?_
  rintro e w10 ⟨rfl, hb10⟩
  have HB10 := Aside0.mk (below_then HB9.out HB9.out.size hb10)
  clear hb10 HB9 HD9 HK9
  go_wp2_with fail
  refine (swagelaw26_row.calls _ _ sm_row).mono ?_
  rintro e w11 ⟨v11, rfl, hr11, hb11⟩
  obtain ⟨A11, k11, rfl, hk11, hc11⟩ := Kd.R_reads hr11
  have HB11 := Aside0.mk (below_then HB10.out HB10.out.size hb11)
  have HD11 := Aside0.mk hc11
  have HK11 := Aside0.mk hk11
  clear hb11 hr11 hc11 hk11 HB10
  go_wp2_with fail
  have hz : (w11.alloc (.cells #[.int .i64 0, .int .i64 0, .int .i64 0, .int .i64 0, .int .i64 0, .int .i64 0] 40)).heap[w11.heap.size]? = some (.cells (c40 [⟨0, 0⟩, ⟨0, 0⟩, ⟨0, 0⟩]).toArray 40 (0, 0)) := blk_new w11 _
  have hz2 := (Kd.R_reads' (R40_of (base := 0) hz rfl (Nat.zero_le _) (by decide))).2.2
  refine (scan_Fits.calls 30 A11 k11 sRow _ 3 [⟨0, 0⟩, ⟨0, 0⟩, ⟨0, 0⟩] 2 _ _ (Kd.C_below HD11.out (below_alloc (Below.refl _ _) _)) HK11.out hz2 (by decide) sm_fits2).mono ?_
  rintro e w12 ⟨rfl, hb12⟩
  have HB12 := Aside0.mk (below_then (below_alloc HB11.out _) (below_alloc HB11.out _).size hb12)
  clear hz hz2 hb12 HB11 HD11 HK11
  go_wp2_with fail
  go_ret
  exact ⟨rfl, HB12.out⟩
def swagelaw26_small.f : Option Bool := some true
theorem swagelaw26_small.calls (r : Bool) (w : World) (h : swagelaw26_small.f = some r) : Calls Try.prog 9 #[] w fun e w' => e = .returned (.bool r) ∧ Below w.heap.size w w' := by
  obtain rfl : true = r := Option.some.inj h
  exact small_walk w
end Go.Proofs.Ytncpgclcbdgndaa.S
