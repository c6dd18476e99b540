import Derived.Test.YtmfcmjcgajjiiaaDoorS6
import Derived.Test.YtmfcmjcgajjiiaaDoorS9
import Derived.Test.YtmfcmjcgajjiiaaDoorOfind
namespace Go.Proofs.YtmfcmjcgajjiiaaDoor.S
open Go.RowKit Go.Proofs.YtmfcmjcgajjiiaaDoorW.PrintWords Go.Proofs.YtmfcmjcgajjiiaaDoorW.PrintLast Go.Proofs.YtmfcmjcgajjiiaaDoorW.PrintMore
set_option linter.unusedVariables false
theorem info32r : (Tryd.prog.info? 32).map (fun i => (i.zero, i.size, i.bytes)) = some (some (.agg #[.int .i64 0, .int .i64 0, .int .i64 0, .int .i64 0, .int .i64 0]), 5, 40) := by kernel_rfl
/-- The document's Assemble, from some lines on. -/
def reaL (k : Nat) (l : List S38) : List S38 → List S32 → Option (List S32 × Int)
  | [], out => if 1048576 < out.length then some ([], 5) else some (out, 0)
  | x :: xs, out => if x.f0 = 0 then (if x.f2 = 0 then reaL k l xs (out ++ [x.f1]) else (swageref05_Place.f k l x.f2).bind fun n => if n < 0 then some ([], 3) else reaL k l xs (out ++ [⟨x.f1.f0, x.f1.f1, x.f1.f2, x.f1.f3, n⟩])) else reaL k l xs out
theorem reaL_mono (k : Nat) (l : List S38) : ∀ xs out, LeO (reaL k l xs out) (reaL (k + 1) l xs out)
  | [], out => LeO.refl _
  | x :: xs, out => by
    unfold reaL
    exact LeO.ite (LeO.ite (reaL_mono k l xs _) (LeO.bind (swageref05_Place.mono _ _ _) fun n => LeO.ite (LeO.refl _) (reaL_mono k l xs _))) (reaL_mono k l xs _)
def swageref05_Assemble.f (k : Nat) (l0 : List S38) : Option (List S32 × Int) := if l0.length ≤ 1000000000000 then (swageref05_Places.f k l0).bind fun bt => if bt.2 = 0 then reaL k l0 l0 [] else some ([], bt.2) else none
theorem swageref05_Assemble.mono : ∀ a0 k, LeO (swageref05_Assemble.f k a0) (swageref05_Assemble.f (k + 1) a0) := by
  intro a0 k
  unfold swageref05_Assemble.f
  exact LeO.ite (LeO.bind (swageref05_Places.mono _ _) fun bt => LeO.ite (reaL_mono _ _ _ _) (LeO.refl _)) (LeO.none _)
theorem own_slice_Rr {α : Type} {d : Kd α} {e : Nat} {w : World} {base : Nat} {ok : Nat → Prop} {v : Value} {xs : List α} (h : d.R e w base ok v xs) : ∃ A c, v = .slice A xs.length c ∧ xs.length ≤ c := OwnRow.slice_ h.2
theorem drop38 {l : List S38} {j : Nat} (h : j < l.length) : l.drop j = rd_T38 l (j : Int) :: l.drop (j + 1) := by
  rw [rd38' h, List.drop_eq_getElem_cons h]
def ReaP (r1 : List S32) (r2 : Int) (w : World) (e : Ending) (w' : World) : Prop := ∃ v0_ : Value, e = .returned (.tuple #[v0_, .int .i64 r2]) ∧ Kd.R k32 32 w' w.heap.size (fun _ => True) v0_ r1 ∧ Below w.heap.size w w'
set_option maxHeartbeats 8000000 in
set_option maxRecDepth 100000 in
theorem swageref05_Assemble.calls (k : Nat) (A0 : Option Addr) (c0 : Nat) (l0 : List S38) (r1 : List S32) (r2 : Int) (w : World) (hr0 : Kd.C k38 w A0 l0.length l0) (hc0 : l0.length ≤ c0) (h : swageref05_Assemble.f k l0 = some (r1, r2)) :
    Calls Tryd.prog 9 #[.slice A0 l0.length c0] w fun e w' => ∃ v0_ : Value, e = .returned (.tuple #[v0_, .int .i64 r2]) ∧ Kd.R k32 32 w' w.heap.size (fun _ => True) v0_ r1 ∧ Below w.heap.size w w' := by
  show Calls Tryd.prog 9 #[.slice A0 l0.length c0] w (ReaP r1 r2 w)
  have hu38 := Tryd.underlying38
  have hu32 := Tryd.underlying32
  unfold swageref05_Assemble.f at h
  split at h
  case isFalse => cases h
  rename_i hlen
  obtain ⟨⟨ps, er⟩, hps, h⟩ := Option.bind_eq_some_iff.1 h
  simp only at h
  have HP := Aside0.mk (swageref05_Places.calls k A0 c0 l0 ps er w hr0 hc0 hps)
  have HC := Aside0.mk hr0
  have HCC := Aside0.mk hc0
  clear hr0 hps hc0
  by_cases he : er = 0
  · rw [if_pos he] at h
    subst he
    have HL := Aside0.mk h
    clear h
    go_enter Tryd.func9, Tryd.ntmps9
    go_wp2_with (go_at_call 11; refine HP.out.mono ?_; rintro e w1 ⟨v1, rfl, _, hb1⟩; have HB1 := Aside0.mk hb1; clear hb1)
    go_loopw [6, 7] (fun v i wr => ∃ (j : Nat) (out : List S32), j ≤ l0.length ∧ i = .int .i64 (j : Int) ∧ Aside0 (reaL k l0 (l0.drop j) out = some (r1, r2)) ∧ Aside0 (out.length ≤ j) ∧ Aside0 (Kd.R k32 32 wr w.heap.size (fun _ => True) v out) ∧ Aside0 (Below w.heap.size w wr)) (fun _ i _ => l0.length - (intOf i).toNat)
    case atStart => exact ⟨0, [], Nat.zero_le _, rfl, HL, ⟨Nat.zero_le _⟩, ⟨Kd.R_nil _ _ _ _ _⟩, HB1⟩
    case round =>
      clear HL HP HB1
      obtain ⟨j, out, hj, rfl, HG, HOL, HO, HB⟩ := hrel
      by_cases hlt : j < l0.length
      · have b1 : decide ((j : Int) < (l0.length : Int)) = true := decide_eq_true (by omega)
        obtain ⟨ad, eA, k0, k1, k2, k3, k4, k5, k6⟩ := at_T38 (Kd.C_below HC.out HB.out) (j : Int) (by omega) (by omega)
        simp only [Int.toNat_natCast] at k0 k1 k2 k3 k4 k5 k6
        have hS := HG.out
        rw [drop38 hlt, reaL] at hS
        have HS := Aside0.mk hS
        clear hS
        generalize rd_T38 l0 (j : Int) = y at k0 k1 k2 k3 k4 k5 k6 HS
        subst eA
        have k6' := pw_cell_below (below_alloc (Below.refl wr.heap.size wr) (.cells #[.int .i64 y.f1.f0, .int .i64 y.f1.f1, .int .i64 y.f1.f2, .int .i64 y.f1.f3, .int .i64 y.f1.f4] 32)) k6
        by_cases hz : y.f0 = 0
        · have hzb : (y.f0 != 0) = false := bne_eq_false_iff_eq.2 hz
          by_cases ht : y.f2 = 0
          · have htb : (y.f2 != 0) = false := bne_eq_false_iff_eq.2 ht
            have HS2 : Aside0 (reaL k l0 (l0.drop (j + 1)) (out ++ [y.f1]) = some (r1, r2)) := ⟨by have := HS.out; rwa [if_pos hz, if_pos ht] at this⟩
            clear hz ht HS
            have HO1 := Aside0.mk (Kd.R_below HO.out (below_alloc (Below.refl _ _) (.cells #[.int .i64 y.f1.f0, .int .i64 y.f1.f1, .int .i64 y.f1.f2, .int .i64 y.f1.f3, .int .i64 y.f1.f4] 32)))
            have HB1 := Aside0.mk (below_alloc HB.out (.cells #[.int .i64 y.f1.f0, .int .i64 y.f1.f1, .int .i64 y.f1.f2, .int .i64 y.f1.f3, .int .i64 y.f1.f4] 32))
            go_wp2_with (at_builtin; refine Kd.R_append k32 (w0 := w) w.heap.size rfl _ _ 24 32 (.agg #[.int .i64 0, .int .i64 0, .int .i64 0, .int .i64 0, .int .i64 0]) 40 rfl Tryd.underlying24 info32r rfl (by decide) (by omega) u6 out y.f1 [.int .i64 y.f1.f0, .int .i64 y.f1.f1, .int .i64 y.f1.f2, .int .i64 y.f1.f3, .int .i64 y.f1.f4] (fun _ => True) (fun _ => False) rfl (by rw [World.size_alloc]; rfl) (k32_mkM _ _ _ _) (fun _ hk => hk.elim) (fun _ _ => trivial) HO1.out HB1.out HB1.out.size (by have := HOL.out; omega) ?_; intro v1 w2 ho2 hb2 hg2 hat2)
            go_roundw
            case rel => exact ⟨j + 1, _, by omega, by go_num, HS2, ⟨by have := HOL.out; simp only [List.length_append, List.length_cons, List.length_nil]; omega⟩, ⟨ho2⟩, ⟨hb2⟩⟩
            case measure => simp [intOf]; omega
          · have htb : (y.f2 != 0) = true := bne_iff_ne.2 ht
            have hS := HS.out
            rw [if_pos hz, if_neg ht] at hS
            obtain ⟨m, hm, hS⟩ := Option.bind_eq_some_iff.1 hS
            have HM := Aside0.mk hm
            have HC1 := Aside0.mk (Kd.C_below HC.out (below_alloc HB.out (.cells #[.int .i64 y.f1.f0, .int .i64 y.f1.f1, .int .i64 y.f1.f2, .int .i64 y.f1.f3, .int .i64 y.f1.f4] 32)))
            have HPC := Aside0.mk (swageref05_Place.calls k _ c0 l0 y.f2 m _ HC1.out HCC.out hm)
            clear hz ht HS hm
            have HBX0 := Aside0.mk (blk_new wr (.cells #[.int .i64 y.f1.f0, .int .i64 y.f1.f1, .int .i64 y.f1.f2, .int .i64 y.f1.f3, .int .i64 y.f1.f4] 32))
            have HBA := Aside0.mk (below_alloc HB.out (.cells #[.int .i64 y.f1.f0, .int .i64 y.f1.f1, .int .i64 y.f1.f2, .int .i64 y.f1.f3, .int .i64 y.f1.f4] 32))
            have HOA := Aside0.mk (Kd.R_below (Kd.R_elderB HO.out wr.heap.size (Nat.le_refl _)) (below_alloc (Below.refl _ _) (.cells #[.int .i64 y.f1.f0, .int .i64 y.f1.f1, .int .i64 y.f1.f2, .int .i64 y.f1.f3, .int .i64 y.f1.f4] 32)))
            by_cases hneg : m < 0
            · have hnb : decide (m < 0) = true := decide_eq_true hneg
              have HR : Aside0 (r1 = [] ∧ r2 = 3) := ⟨by rw [if_pos hneg] at hS; injection hS with hS; injection hS with e1 e2; exact ⟨e1.symm, e2.symm⟩⟩
              clear hneg hS
              go_wp2_with (go_at_call 23; refine HPC.out.mono ?_; rintro e w2 ⟨rfl, hd⟩; have hbx := blk_below HBX0.out hd.below; have HD := Aside0.mk hd.below; clear hd; have c4 := blk_cell hbx 4; have f4 := blk_frozen hbx 4; have hbl := blk_lt hbx; have hbx2 := blk_set hbx 4 (.int .i64 m); simp only [List.setIfInBounds_toArray, List.set_cons_zero, List.set_cons_succ] at hbx2; have d0 := blk_cell hbx2 0; have d1 := blk_cell hbx2 1; have d2 := blk_cell hbx2 2; have d3 := blk_cell hbx2 3; have d4 := blk_cell hbx2 4; simp only [List.getElem?_toArray, List.getElem?_cons_zero, List.getElem?_cons_succ] at c4 d0 d1 d2 d3 d4; have HBX2 := Aside0.mk hbx2; clear hbx hbx2)
              refine bodyPost_ret (v := .tuple #[.slice none 0 0, .int .i64 3]) (by simp [results, Tryd.results9, go_sem]) rfl ?_
              rw [HR.out.1, HR.out.2]
              refine ⟨_, rfl, Kd.R_nil _ _ _ _ _, ?_⟩
              exact (below_then HBA.out HBA.out.size HD.out).setCell (p := ⟨wr.heap.size, 4, none⟩) HB.out.size _
            · have hnb : decide (m < 0) = false := decide_eq_false hneg
              have HS2 : Aside0 (reaL k l0 (l0.drop (j + 1)) (out ++ [⟨y.f1.f0, y.f1.f1, y.f1.f2, y.f1.f3, m⟩]) = some (r1, r2)) := ⟨by rwa [if_neg hneg] at hS⟩
              clear hneg hS
              go_wp2_with (first | (go_at_call 23; refine HPC.out.mono ?_; rintro e w2 ⟨rfl, hd⟩; have hbx := blk_below HBX0.out hd.below; have HD := Aside0.mk hd.below; clear hd; have c4 := blk_cell hbx 4; have f4 := blk_frozen hbx 4; have hbl := blk_lt hbx; have hbx2 := blk_set hbx 4 (.int .i64 m); simp only [List.setIfInBounds_toArray, List.set_cons_zero, List.set_cons_succ] at hbx2; have d0 := blk_cell hbx2 0; have d1 := blk_cell hbx2 1; have d2 := blk_cell hbx2 2; have d3 := blk_cell hbx2 3; have d4 := blk_cell hbx2 4; simp only [List.getElem?_toArray, List.getElem?_cons_zero, List.getElem?_cons_succ] at c4 d0 d1 d2 d3 d4; have HBX2 := Aside0.mk hbx2; clear hbx hbx2; have HB1 := Aside0.mk ((below_then HBA.out HBA.out.size HD.out).setCell (p := ⟨wr.heap.size, 4, none⟩) HB.out.size (.int .i64 m)); have HO1 := Aside0.mk (Kd.R_drop (Kd.R_far (p := ⟨wr.heap.size, 4, none⟩) (Kd.R_below HOA.out HD.out) (fun _ hk => hk.2) (.int .i64 m)))) | (at_builtin; refine Kd.R_append k32 (w0 := w) w.heap.size rfl _ _ 24 32 (.agg #[.int .i64 0, .int .i64 0, .int .i64 0, .int .i64 0, .int .i64 0]) 40 rfl Tryd.underlying24 info32r rfl (by decide) (by omega) u6 out ⟨y.f1.f0, y.f1.f1, y.f1.f2, y.f1.f3, m⟩ [.int .i64 y.f1.f0, .int .i64 y.f1.f1, .int .i64 y.f1.f2, .int .i64 y.f1.f3, .int .i64 m] (fun _ => True) (fun _ => False) rfl (by first | rfl | (simp only [World.setCell, Array.size_modify]; rfl)) (k32_mkM _ _ _ _) (fun _ hk => hk.elim) (fun _ _ => trivial) HO1.out HB1.out HB1.out.size (by have := HOL.out; omega) ?_; intro v1 w3 ho2 hb2 hg2 hat2))
              go_roundw
              case rel => exact ⟨j + 1, _, by omega, by go_num, HS2, ⟨by have := HOL.out; simp only [List.length_append, List.length_cons, List.length_nil]; omega⟩, ⟨ho2⟩, ⟨hb2⟩⟩
              case measure => simp [intOf]; omega
        · have hzb : (y.f0 != 0) = true := bne_iff_ne.2 hz
          have HS2 : Aside0 (reaL k l0 (l0.drop (j + 1)) out = some (r1, r2)) := ⟨by have := HS.out; rwa [if_neg hz] at this⟩
          clear hz HS
          go_wp2_with fail
          go_roundw
          case rel => exact ⟨j + 1, out, by omega, by go_num, HS2, ⟨by have := HOL.out; omega⟩, HO, HB⟩
          case measure => simp [intOf]; omega
      · have b1 : decide ((j : Int) < (l0.length : Int)) = false := decide_eq_false (by omega)
        obtain rfl : j = l0.length := by omega
        have hg := HG.out
        rw [List.drop_length, reaL] at hg
        have HG2 := Aside0.mk hg
        clear hg
        obtain ⟨A6, k6, hv, hk6⟩ := own_slice_Rr HO.out
        subst hv
        by_cases hbig : 1048576 < out.length
        · have b2 : decide ((1048576 : Int) < (out.length : Int)) = true := decide_eq_true (by omega)
          have HR : Aside0 (r1 = [] ∧ r2 = 5) := ⟨by have := HG2.out; rw [if_pos hbig] at this; injection this with this; injection this with e1 e2; exact ⟨e1.symm, e2.symm⟩⟩
          clear hbig
          go_wp2_with fail
          refine bodyPost_ret (v := .tuple #[.slice none 0 0, .int .i64 5]) (by simp [results, Tryd.results9, go_sem]) rfl ?_
          rw [HR.out.1, HR.out.2]
          exact ⟨_, rfl, Kd.R_nil _ _ _ _ _, HB.out⟩
        · have b2 : decide ((1048576 : Int) < (out.length : Int)) = false := decide_eq_false (by omega)
          have HR : Aside0 (r1 = out ∧ r2 = 0) := ⟨by have := HG2.out; rw [if_neg hbig] at this; injection this with this; injection this with e1 e2; exact ⟨e1.symm, e2.symm⟩⟩
          clear hbig
          go_wp2_with fail
          refine bodyPost_ret (v := .tuple #[.slice A6 out.length k6, .int .i64 0]) (by simp [results, Tryd.results9, go_sem]) rfl ?_
          rw [HR.out.1, HR.out.2]
          exact ⟨_, rfl, HO.out, HB.out⟩
  · rw [if_neg he] at h
    injection h with h
    injection h with e1 e2
    subst e1 e2
    have b1 : (er != 0) = true := bne_iff_ne.2 he
    clear he
    go_enter Tryd.func9, Tryd.ntmps9
    go_wp2_with (go_at_call 11; refine HP.out.mono ?_; rintro e w1 ⟨v1, rfl, _, hb1⟩; have HB1 := Aside0.mk hb1; clear hb1)
    refine bodyPost_ret (v := .tuple #[.slice none 0 0, .int .i64 er]) (by simp [results, Tryd.results9, go_sem]) rfl ?_
    exact ⟨_, rfl, Kd.R_nil _ _ _ _ _, HB1.out⟩
end Go.Proofs.YtmfcmjcgajjiiaaDoor.S
