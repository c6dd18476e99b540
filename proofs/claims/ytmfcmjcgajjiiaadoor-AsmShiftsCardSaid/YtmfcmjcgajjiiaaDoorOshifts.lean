import Derived.Test.YtmfcmjcgajjiiaaDoorLshift
import Derived.Test.YtmfcmjcgajjiiaaDoorOsmall
import Derived.Test.YtmfcmjcgajjiiaaDoorS4
namespace Go.Proofs.YtmfcmjcgajjiiaaDoor.S
open Go.RowKit Go.Proofs.YtmfcmjcgajjiiaaDoorW.PrintWords Go.Proofs.YtmfcmjcgajjiiaaDoorW.PrintLast Go.Proofs.YtmfcmjcgajjiiaaDoorW.PrintMore
set_option linter.unusedVariables false
set_option linter.unusedSimpArgs false
attribute [local go_sem high] eqA32
theorem R_lt9 {α : Type} {d : Kd α} {e : Nat} {w : World} {base : Nat} {ok : Nat → Prop} {v : Value} {xs : List α} (h : d.R e w base ok v xs) (k : Nat) (hk : v.ownBlock = some k) : k < w.heap.size := by
  obtain ⟨_, inner, ho, _⟩ := h
  exact own_lt ho k hk
theorem asmR_le (rt : S38 → Bool) (l : List S38) : (asmR rt l).1.length ≤ l.length := by
  unfold asmR
  split
  · simp
  · split
    · simp
    · split
      · simp
      · rename_i out h
        split
        · simp
        · exact asG_len h
set_option maxHeartbeats 4000000 in
set_option maxRecDepth 100000 in
theorem shifts_far (A : Option Addr) (c m : Nat) (n : Int) (w : World) (hGL : GL w) (hn : 100 < m ∨ n < 0 ∨ 50 < n) :
    Calls Tryd.prog 5 #[.slice A m c, .int .i64 n] w fun e w' => e = .returned (.bool true) ∧ Below w.heap.size w w' := by
  have HG := Aside0.mk hGL
  clear hGL
  have hd : decide ((100 : Int) < (m : Int)) = true ∨ (decide ((100 : Int) < (m : Int)) = false ∧ decide (n < 0) = true) ∨ (decide ((100 : Int) < (m : Int)) = false ∧ decide (n < 0) = false ∧ decide (50 < n) = true) := by
    by_cases h1 : (100 : Int) < (m : Int)
    · exact .inl (decide_eq_true h1)
    · by_cases h2 : n < 0
      · exact .inr (.inl ⟨decide_eq_false h1, decide_eq_true h2⟩)
      · exact .inr (.inr ⟨decide_eq_false h1, decide_eq_false h2, decide_eq_true (by omega)⟩)
  clear hn
  rcases hd with b1 | ⟨b1, b2⟩ | ⟨b1, b2, b3⟩
  all_goals
    go_enter Tryd.func5, Tryd.ntmps5
    go_wp2_with (go_at_call 7; refine (small_walk w HG.out).mono ?_; rintro e w1 ⟨rfl, hb1⟩)
    go_ret
    exact ⟨rfl, hb1⟩
set_option maxHeartbeats 16000000 in
set_option maxRecDepth 100000 in
theorem shifts_walk (A : Option Addr) (c : Nat) (l : List S38) (N : Nat) (C C' : List S32) (E : Int) (w : World) (hGL : GL w) (hC : Kd.C k38 w A l.length l) (hc : l.length ≤ c) (hl : l.length ≤ 100) (hN : N ≤ 50)
    (h1 : asm_Assemble.f l = some (C, E)) (h2 : asm_Assemble.f (List.replicate N pA ++ l) = some (C', E)) (hcl : C.length ≤ 1000) (hE : E ≠ 0 → C = [] ∧ C' = []) (hF : E = 0 → C'.length = C.length + N ∧ ∀ i : Nat, i < C.length → ShR N (rd_T32 C (i : Int)) (rd_T32 C' ((i + N : Nat) : Int))) :
    Calls Tryd.prog 5 #[.slice A l.length c, .int .i64 (N : Int)] w fun e w' => e = .returned (.bool true) ∧ Below w.heap.size w w' := by
  have b1 : decide ((100 : Int) < (l.length : Int)) = false := decide_eq_false (by omega)
  have b2 : decide ((N : Int) < 0) = false := decide_eq_false (by omega)
  have b3 : decide (50 < (N : Int)) = false := decide_eq_false (by omega)
  have hu38 := Tryd.underlying38
  have hu32 := Tryd.underlying32
  have HG := Aside0.mk hGL
  have HC := Aside0.mk hC
  have HCC := Aside0.mk hc
  have HLL := Aside0.mk hl
  have H1 := Aside0.mk h1
  have H2 := Aside0.mk h2
  have HE := Aside0.mk hE
  have HF := Aside0.mk hF
  have HCL := Aside0.mk hcl
  clear hGL hC hc h1 h2 hE hF hcl
  go_enter Tryd.func5, Tryd.ntmps5
  go_wp2_with (go_at_call 7; refine (small_walk w HG.out).mono ?_; rintro e w1 ⟨rfl, hb1⟩; have HB1 := Aside0.mk hb1; clear hb1)
  go_loopw [6, 7] (fun v i wr => ∃ (j : Nat), j ≤ N ∧ i = .int .i64 (j : Int) ∧ Aside0 (Kd.R k38 38 wr w.heap.size (fun _ => True) v (List.replicate j pA)) ∧ Aside0 (Below w.heap.size w wr)) (fun _ i _ => N - (intOf i).toNat)
  case atStart => exact ⟨0, Nat.zero_le _, rfl, ⟨Kd.R_nil _ _ _ _ _⟩, HB1⟩
  case round =>
    clear HB1
    obtain ⟨j, hj, rfl, HO, HB⟩ := hrel
    by_cases hlt : j < N
    · have b4 : decide ((j : Int) < (N : Int)) = true := decide_eq_true (by omega)
      have b4n : decide (j < N) = true := decide_eq_true hlt
      go_wp2_with (first
        | (go_at_call 18; refine (asm_Plain.calls 12 3 0 0 0 _ _ _ _ _ _ _ _ rfl).mono ?_; rintro e w2 ⟨rfl, hb⟩; have HO1 := Aside0.mk (Kd.R_below HO.out hb); have HB2 := Aside0.mk (below_then HB.out HB.out.size hb); clear hb)
        | (at_builtin; refine Kd.R_append k38 (w0 := w) w.heap.size rfl _ _ 22 38 (.agg #[.int .i64 0, .int .i64 0, .int .i64 0, .int .i64 0, .int .i64 0, .int .i64 0, .int .i64 0]) 56 rfl Tryd.underlying22 info38' rfl (by decide) (by omega) u6 (List.replicate j pA) pA [.int .i64 0, .int .i64 12, .int .i64 3, .int .i64 0, .int .i64 0, .int .i64 0, .int .i64 0] (fun _ => True) (fun _ => False) rfl rfl (k38_mkM _ _ _ _) (fun _ hk => hk.elim) (fun _ _ => trivial) HO1.out HB2.out HB2.out.size (by rw [List.length_replicate]; omega) ?_; intro v1 w3 ho2 hb2 hg2 hat2; rw [← List.replicate_succ'] at ho2))
      go_roundw
      case rel => exact ⟨j + 1, by omega, by go_num, ⟨ho2⟩, ⟨hb2⟩⟩
      case measure => simp [intOf]; omega
    · have b4 : decide ((j : Int) < (N : Int)) = false := decide_eq_false (by omega)
      have b4n : decide (j < N) = false := decide_eq_false hlt
      obtain rfl : j = N := by omega
      obtain ⟨ml, hml⟩ : ∃ ml, List.replicate j pA ++ l = ml := ⟨_, rfl⟩
      have h2' := H2.out
      rw [hml] at h2'
      have HML := Aside0.mk hml
      have H2' := Aside0.mk h2'
      clear hml h2' H2
      by_cases hE0 : E = 0
      · subst hE0
        obtain ⟨hlen, hAll⟩ := HF.out rfl
        have HA := Aside0.mk hAll
        clear hAll
        obtain ⟨m, hm⟩ : ∃ m, C'.length = m := ⟨_, rfl⟩
        have hw : wrap64 ((C.length : Int) + (j : Int)) = (m : Int) := by have := HCL.out; rw [w64 _ ⟨by omega, by omega⟩]; omega
        rw [hm] at hlen
        have HLE := Aside0.mk hlen
        clear hlen
        go_wp2_with (first
          | (go_at_call 8; first
              | (have hc4_ := HC4; clear hc4_; refine (asm_Assemble.calls A4 c4 ml C' 0 _ HC4.out HK4.out H2'.out).mono ?_; rintro e w5 ⟨v5, rfl, hr5, hb5⟩; obtain ⟨A5, c5, hv5, hk5, hc5⟩ := Kd.R_reads hr5; subst hv5; rw [hm]; have HC5 := Aside0.mk hc5; have HC35 := Aside0.mk (Kd.C_below HC34.out hb5); have HB5 := Aside0.mk (below_then HB4.out HB4.out.size hb5); clear hr5 hb5 hc5 hk5)
              | (refine (asm_Assemble.calls A c l C 0 _ (Kd.C_below HC.out HB.out) HCC.out H1.out).mono ?_; rintro e w3 ⟨v3, rfl, hr3, hb3⟩; obtain ⟨A3, c3, hv3, hk3, hc3⟩ := Kd.R_reads hr3; subst hv3; have HR3 := Aside0.mk (Kd.R_mono (ok' := fun k => wr.heap.size ≤ k) (Kd.R_bound hr3) (fun k hk => hk.2.1)); have HO3 := Aside0.mk (Kd.R_below HO.out hb3); have HB3 := Aside0.mk (below_then HB.out HB.out.size hb3); clear hr3 hb3 hc3 hk3))
          | (at_builtin; refine Kd.R_append_rows k38 (w0 := w) w.heap.size rfl _ _ 22 38 (.agg #[.int .i64 0, .int .i64 0, .int .i64 0, .int .i64 0, .int .i64 0, .int .i64 0, .int .i64 0]) 56 rfl Tryd.underlying22 info38' rfl (by decide) (by omega) u6 (List.replicate j pA) l A l.length c (fun _ => True) (fun _ => False) rfl rfl HO3.out (Kd.C_below HC.out HB3.out) (fun x cs h => by rw [k38_open h]; exact k38_mkM _ _ _ _) (fun _ h => h.elim) (fun _ _ => trivial) HB3.out HB3.out.size (by have := HLL.out; rw [List.length_replicate]; omega) ?_; intro v4 w4 hr4 hb4 hg4 hat4; rw [HML.out] at hr4; obtain ⟨A4, c4, hv4, hk4, hc4⟩ := Kd.R_reads hr4; subst hv4; have HC4 := Aside0.mk hc4; have HK4 := Aside0.mk hk4; have HB4 := Aside0.mk hb4; have HC34 := Aside0.mk (Kd.R_reads' (Kd.R_grown HR3.out hg4 (fun k hk h => by have := R_lt9 HO.out k h.symm; omega))).2.2; clear hr4 hb4 hg4 hat4 hc4 hk4))
        go_loopw [12] (fun v wr2 => ∃ (i : Nat), i ≤ C.length ∧ v = .int .i64 (i : Int) ∧ Aside0 (Below w5.heap.size w5 wr2)) (fun v _ => C.length - (intOf v).toNat)
        case atStart => exact ⟨0, Nat.zero_le _, rfl, ⟨Below.refl _ _⟩⟩
        case round =>
          obtain ⟨i, hi, rfl, HB6⟩ := hrel
          by_cases hil : i < C.length
          · have b5 : decide ((i : Int) < (C.length : Int)) = true := decide_eq_true (by omega)
            have b5n : decide (i < C.length) = true := decide_eq_true hil
            have hin : i + j < m := by have := HLE.out; omega
            have hw2 : wrap64 ((i : Int) + (j : Int)) = ((i + j : Nat) : Int) := by have := HCL.out; rw [w64 _ ⟨by omega, by omega⟩]; omega
            have hS := HA.out i hil
            obtain ⟨ax, eX, x0, x1, x2, x3, x4⟩ := at_T32 (Kd.C_below HC35.out HB6.out) (i : Int) (by omega) (by omega)
            obtain ⟨ay, eY, y0, y1, y2, y3, y4⟩ := at_T32 (Kd.C_below HC5.out HB6.out) ((i + j : Nat) : Int) (by omega) (by omega)
            simp only [Int.toNat_natCast] at x0 x1 x2 x3 x4 y0 y1 y2 y3 y4
            subst eX eY
            generalize rd_T32 C (i : Int) = x at x0 x1 x2 x3 x4 hS
            generalize rd_T32 C' ((i + j : Nat) : Int) = y at y0 y1 y2 y3 y4 hS
            have hba := below_alloc (Below.refl wr.heap.size wr) (.cells #[.int .i64 x.f0, .int .i64 x.f1, .int .i64 x.f2, .int .i64 x.f3, .int .i64 x.f4] 32)
            have z0 := pw_cell_below hba y0
            have z1 := pw_cell_below hba y1
            have z2 := pw_cell_below hba y2
            have z3 := pw_cell_below hba y3
            have z4 := pw_cell_below hba y4
            clear hba
            have hbx0 := blk_alloc (blk_new wr (.cells #[.int .i64 x.f0, .int .i64 x.f1, .int .i64 x.f2, .int .i64 x.f3, .int .i64 x.f4] 32)) (.cells #[.int .i64 y.f0, .int .i64 y.f1, .int .i64 y.f2, .int .i64 y.f3, .int .i64 y.f4] 32)
            have g0 := blk_cell hbx0 0
            have g1 := blk_cell hbx0 1
            have g2 := blk_cell hbx0 2
            have g3 := blk_cell hbx0 3
            have g4 := blk_cell hbx0 4
            simp only [List.getElem?_toArray, List.getElem?_cons_zero, List.getElem?_cons_succ] at g0 g1 g2 g3 g4
            clear hbx0
            have hcl' := HCL.out
            rcases hS with rfl | ⟨hn, p0, p1, rfl⟩
            · obtain ⟨bb, hbb⟩ : ∃ bb, (y.f4 == wrap64 (y.f4 + (j : Int))) = bb := ⟨_, rfl⟩
              go_wp2_with fail
              go_roundw
              case rel => exact ⟨i + 1, by omega, by go_num, ⟨below_alloc (below_alloc HB6.out _) _⟩⟩
              case measure => simp [intOf]; omega
              all_goals (go_ret; exact ⟨rfl, below_then HB5.out HB5.out.size HB6.out⟩)
            · obtain ⟨q, hq⟩ : ∃ q, x.f4 + (j : Int) = q := ⟨_, rfl⟩
              have hw3 : wrap64 (x.f4 + (j : Int)) = q := by rw [w64 _ ⟨by omega, by omega⟩, hq]
              have hne : (x.f4 == q) = false := beq_eq_false_iff_ne.2 (by omega)
              simp only [hq] at y0 y1 y2 y3 y4 z0 z1 z2 z3 z4 g0 g1 g2 g3 g4
              clear hq hn p0 p1
              go_wp2_with fail
              go_roundw
              case rel => exact ⟨i + 1, by omega, by go_num, ⟨below_alloc (below_alloc HB6.out _) _⟩⟩
              case measure => simp [intOf]; omega
              all_goals (go_ret; exact ⟨rfl, below_then HB5.out HB5.out.size HB6.out⟩)
          · have b5 : decide ((i : Int) < (C.length : Int)) = false := decide_eq_false (by omega)
            have b5n : decide (i < C.length) = false := decide_eq_false hil
            go_wp2_with fail
            go_ret
            exact ⟨rfl, below_then HB5.out HB5.out.size HB6.out⟩
      · obtain ⟨rfl, rfl⟩ := HE.out hE0
        have b5 : (E == 0) = false := beq_eq_false_iff_ne.2 hE0
        clear hE0
        go_wp2_with (first
          | (go_at_call 8; first
              | (have hc4_ := HC4; clear hc4_; refine (asm_Assemble.calls A4 c4 ml [] E _ HC4.out HK4.out H2'.out).mono ?_; rintro e w5 ⟨v5, rfl, hr5, hb5⟩; obtain ⟨A5, c5, hv5, hk5, hc5⟩ := Kd.R_reads hr5; subst hv5; have HC5 := Aside0.mk hc5; have HC35 := Aside0.mk (Kd.C_below HC34.out hb5); have HB5 := Aside0.mk (below_then HB4.out HB4.out.size hb5); clear hr5 hb5 hc5 hk5)
              | (refine (asm_Assemble.calls A c l [] E _ (Kd.C_below HC.out HB.out) HCC.out H1.out).mono ?_; rintro e w3 ⟨v3, rfl, hr3, hb3⟩; obtain ⟨A3, c3, hv3, hk3, hc3⟩ := Kd.R_reads hr3; subst hv3; have HR3 := Aside0.mk (Kd.R_mono (ok' := fun k => wr.heap.size ≤ k) (Kd.R_bound hr3) (fun k hk => hk.2.1)); have HO3 := Aside0.mk (Kd.R_below HO.out hb3); have HB3 := Aside0.mk (below_then HB.out HB.out.size hb3); clear hr3 hb3 hc3 hk3))
          | (at_builtin; refine Kd.R_append_rows k38 (w0 := w) w.heap.size rfl _ _ 22 38 (.agg #[.int .i64 0, .int .i64 0, .int .i64 0, .int .i64 0, .int .i64 0, .int .i64 0, .int .i64 0]) 56 rfl Tryd.underlying22 info38' rfl (by decide) (by omega) u6 (List.replicate j pA) l A l.length c (fun _ => True) (fun _ => False) rfl rfl HO3.out (Kd.C_below HC.out HB3.out) (fun x cs h => by rw [k38_open h]; exact k38_mkM _ _ _ _) (fun _ h => h.elim) (fun _ _ => trivial) HB3.out HB3.out.size (by have := HLL.out; rw [List.length_replicate]; omega) ?_; intro v4 w4 hr4 hb4 hg4 hat4; rw [HML.out] at hr4; obtain ⟨A4, c4, hv4, hk4, hc4⟩ := Kd.R_reads hr4; subst hv4; have HC4 := Aside0.mk hc4; have HK4 := Aside0.mk hk4; have HB4 := Aside0.mk hb4; have HC34 := Aside0.mk (Kd.R_reads' (Kd.R_grown HR3.out hg4 (fun k hk h => by have := R_lt9 HO.out k h.symm; omega))).2.2; clear hr4 hb4 hg4 hat4 hc4 hk4))
        go_loopw [12] (fun v wr2 => v = .int .i64 0 ∧ Aside0 (Below w5.heap.size w5 wr2)) (fun v _ => 0)
        case atStart => exact ⟨rfl, ⟨Below.refl _ _⟩⟩
        case round =>
          obtain ⟨rfl, HB6⟩ := hrel
          go_wp2_with fail
          go_ret
          exact ⟨rfl, below_then HB5.out HB5.out.size HB6.out⟩
theorem shifts_law (A : Option Addr) (c : Nat) (l : List S38) (n : Int) (w : World) (hGL : GL w) (hC : Kd.C k38 w A l.length l) (hc : l.length ≤ c) (hi : ∀ x ∈ l, LI x) :
    Calls Tryd.prog 5 #[.slice A l.length c, .int .i64 n] w fun e w' => e = .returned (.bool true) ∧ Below w.heap.size w w' := by
  by_cases hn : 100 < l.length ∨ n < 0 ∨ 50 < n
  · exact shifts_far A c l.length n w hGL hn
  · obtain ⟨N, rfl⟩ : ∃ N : Nat, n = (N : Int) := ⟨n.toNat, by omega⟩
    have hA : ∀ x ∈ List.replicate N pA ++ l, LI x := by
      intro x hx
      rcases List.mem_append.1 hx with hx | hx
      · obtain ⟨_, rfl⟩ := List.mem_replicate.1 hx
        unfold LI I64 pA
        simp
      · exact hi x hx
    have hlen : (List.replicate N pA ++ l).length ≤ 1000000000000 := by
      rw [List.length_append, List.length_replicate]
      omega
    have e1 := asm_eq hi (by omega : l.length ≤ 1000000000000)
    have e2 := asm_eq hA hlen
    obtain ⟨⟨C, E⟩, hr⟩ : ∃ r, asmR rtP l = r := ⟨_, rfl⟩
    obtain ⟨C', hr', hF⟩ := shift_asm (n := N) (by omega) (by omega) hr
    have hcl := asmR_le rtP l
    rw [hr] at e1 hcl
    rw [hr'] at e2
    exact shifts_walk A c l N C C' E w hGL hC hc (by omega) (by omega) e1 e2 (by simp only at hcl; omega) (fun hE => ⟨asmR_bad hr hE, asmR_bad hr' hE⟩) hF
end Go.Proofs.YtmfcmjcgajjiiaaDoor.S
