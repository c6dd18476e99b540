import Derived.Test.YtfdkhahpjbikiaaDoorOdec8
namespace Go.Proofs.YtfdkhahpjbikiaaDoor.S
open Go.RowKit Go.Proofs.YtfdkhahpjbikiaaDoorW.PrintWords Go.Proofs.YtfdkhahpjbikiaaDoorW.PrintLast Go.Proofs.YtfdkhahpjbikiaaDoorW.PrintMore Go.RelRegion
set_option linter.unusedVariables false
def zI : Value := .agg #[.int .i64 0, .int .i64 0, .int .i64 0, .int .i64 0, .int .i64 0]
set_option maxHeartbeats 8000000 in
theorem decLen (A0 : Option Addr) (n c0 : Nat) (w : World) (hn : n ≠ 8) (hm : n ≤ 9223372036854775807) :
    Calls Tryd.prog 13 #[.slice A0 n c0] w fun e w' => e = .returned (.tuple #[.agg #[.int .i64 0, .int .i64 0, .int .i64 0, .int .i64 0, .int .i64 0], .int .i64 2]) ∧ Below w.heap.size w w' := by
  have hu23 := Tryd.underlying23
  have h8 : ((n : Int) != 8) = true := bne_iff_ne.2 (by omega)
  go_enter Tryd.func13, Tryd.ntmps13
  go_wp2_with fail
  refine bodyPost_ret (v := .tuple #[.agg #[.int .i64 0, .int .i64 0, .int .i64 0, .int .i64 0, .int .i64 0], .int .i64 2]) (by simp [results, Tryd.results13, go_sem]) rfl ⟨rfl, ?_⟩
  repeat (first | (with_reducible exact Below.refl _ _) | (with_reducible apply below_alloc) | (with_reducible apply pw_below_drewN) | (with_reducible apply below_drew) | (with_reducible refine Below.setCell ?_ (by exact Nat.le_refl _) _))
set_option maxHeartbeats 8000000 in
theorem decZero (b off c0 : Nat) (b3 : Int) (w : World) (hc : 8 ≤ c0) (c3 : w.cell? ⟨b, off + 3, none⟩ = some (.int .u8 b3)) (h3 : b3 ≠ 0) :
    Calls Tryd.prog 13 #[.slice (some ⟨b, off, none⟩) 8 c0] w fun e w' => e = .returned (.tuple #[.agg #[.int .i64 0, .int .i64 0, .int .i64 0, .int .i64 0, .int .i64 0], .int .i64 2]) ∧ Below w.heap.size w w' := by
  have hu23 := Tryd.underlying23
  have hbl : b < w.heap.size := World.block_lt_of_cell? w _ c3
  have h8 : (b3 != 0) = true := bne_iff_ne.2 h3
  go_enter Tryd.func13, Tryd.ntmps13
  go_wp2_with fail
  refine bodyPost_ret (v := .tuple #[.agg #[.int .i64 0, .int .i64 0, .int .i64 0, .int .i64 0, .int .i64 0], .int .i64 2]) (by simp [results, Tryd.results13, go_sem]) rfl ⟨rfl, ?_⟩
  repeat (first | (with_reducible exact Below.refl _ _) | (with_reducible apply below_alloc) | (with_reducible apply pw_below_drewN) | (with_reducible apply below_drew) | (with_reducible refine Below.setCell ?_ (by exact Nat.le_refl _) _))

/-- Are these eight bytes, the fourth of which is 0? -/
def inst_Decode.f (k : Nat) (l : List Int) : Option (Int × Int × Int × Int × Int × Int) :=
  if l.length = 8 ∧ rd l 3 = 0 then
    if ∀ x ∈ l, 0 ≤ x ∧ x ≤ 255 then
      (word_Wrap.f k (decImm (rd l 4) (rd l 5) (rd l 6) (rd l 7)) 32 true).bind fun z =>
      (inst_Right.f k (rd l 0) (rd l 1 / 16) (rd l 1 % 16) (rd l 2) z).bind fun t =>
      if t = true then some (rd l 0, rd l 1 / 16, rd l 1 % 16, rd l 2, z, 0) else some (0, 0, 0, 0, 0, 2)
    else none
  else if l.length ≤ 9223372036854775807 then some (0, 0, 0, 0, 0, 2) else none
theorem inst_Decode.mono : ∀ a0 k, LeO (inst_Decode.f k a0) (inst_Decode.f (k + 1) a0) := by
  intro a0 k
  unfold inst_Decode.f
  refine LeO.ite (LeO.ite ?_ (LeO.none _)) (LeO.refl _)
  exact LeO.bind (word_Wrap.mono _ _ _ _) (fun _ => LeO.bind (inst_Right.mono _ _ _ _ _ _) (fun _ => LeO.refl _))
theorem inst_Decode.calls (k : Nat) (A0 : Option Addr) (c0 : Nat) (l0 : List Int) (r1 : Int) (r2 : Int) (r3 : Int) (r4 : Int) (r5 : Int) (r6 : Int) (w : World) (hr0 : Kd.C (Kd.int .u8) w A0 l0.length l0) (hc0 : l0.length ≤ c0) (h : inst_Decode.f k l0 = some (r1, r2, r3, r4, r5, r6)) :
    Calls Tryd.prog 13 #[.slice A0 l0.length c0] w fun e w' => e = .returned (.tuple #[.agg #[.int .i64 r1, .int .i64 r2, .int .i64 r3, .int .i64 r4, .int .i64 r5], .int .i64 r6]) ∧ Below w.heap.size w w' := by
  unfold inst_Decode.f at h
  by_cases h8 : l0.length = 8
  · obtain ⟨b, off, rfl, hc⟩ := kint_cells hr0 (by omega)
    rw [h8] at hc hc0 ⊢
    by_cases h3 : rd l0 3 = 0
    · rw [if_pos ⟨h8, h3⟩] at h
      split at h
      · rename_i hall
        cases hW : word_Wrap.f k (decImm (rd l0 4) (rd l0 5) (rd l0 6) (rd l0 7)) 32 true with
        | none => rw [hW] at h; cases h
        | some z =>
          rw [hW] at h
          simp only [Option.bind_some] at h
          cases hR : inst_Right.f k (rd l0 0) (rd l0 1 / 16) (rd l0 1 % 16) (rd l0 2) z with
          | none => rw [hR] at h; cases h
          | some t =>
            rw [hR] at h
            simp only [Option.bind_some] at h
            have hb : ∀ j, j < 8 → 0 ≤ l0.getD j 0 ∧ l0.getD j 0 ≤ 255 := fun j hj => by
              have hj' : j < l0.length := by omega
              have e : l0.getD j 0 = l0[j] := by simp [List.getD_eq_getElem?_getD, hj']
              rw [e]
              exact hall _ (List.getElem_mem _)
            refine (dec8 k z b off c0 (rd l0 0) (rd l0 1) (rd l0 2) (rd l0 3) (rd l0 4) (rd l0 5) (rd l0 6) (rd l0 7) w hc0 (hc 0 (by omega)) (hc 1 (by omega)) (hc 2 (by omega)) (hc 3 (by omega)) (hc 4 (by omega)) (hc 5 (by omega)) (hc 6 (by omega)) (hc 7 (by omega))
              (hb 0 (by omega)).1 (hb 0 (by omega)).2 (hb 1 (by omega)).1 (hb 1 (by omega)).2 (hb 2 (by omega)).1 (hb 2 (by omega)).2 (hb 4 (by omega)).1 (hb 4 (by omega)).2 (hb 5 (by omega)).1 (hb 5 (by omega)).2 (hb 6 (by omega)).1 (hb 6 (by omega)).2 (hb 7 (by omega)).1 (hb 7 (by omega)).2 h3 hW t hR).mono ?_
            rintro e w' ⟨rfl, hbw⟩
            refine ⟨?_, hbw⟩
            cases t with
            | true => rw [if_pos rfl] at h; injection h with h; injection h with e1 h; injection h with e2 h; injection h with e3 h; injection h with e4 h; injection h with e5 e6; subst e1 e2 e3 e4 e5 e6; rfl
            | false => rw [if_neg (by simp)] at h; injection h with h; injection h with e1 h; injection h with e2 h; injection h with e3 h; injection h with e4 h; injection h with e5 e6; subst e1 e2 e3 e4 e5 e6; rfl
      · cases h
    · rw [if_neg (fun h => h3 h.2), if_pos (by omega)] at h
      injection h with h; injection h with e1 h; injection h with e2 h; injection h with e3 h; injection h with e4 h; injection h with e5 e6; subst e1 e2 e3 e4 e5 e6
      exact decZero b off c0 _ w hc0 (hc 3 (by omega)) h3
  · rw [if_neg (fun h => h8 h.1)] at h
    split at h
    · injection h with h; injection h with e1 h; injection h with e2 h; injection h with e3 h; injection h with e4 h; injection h with e5 e6; subst e1 e2 e3 e4 e5 e6
      exact decLen A0 l0.length c0 w h8 ‹_›
    · cases h
end Go.Proofs.YtfdkhahpjbikiaaDoor.S
