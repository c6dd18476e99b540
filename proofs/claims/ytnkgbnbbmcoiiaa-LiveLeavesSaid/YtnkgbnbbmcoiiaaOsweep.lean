import Derived.Test.YtnkgbnbbmcoiiaaOwout
import Derived.Test.YtnkgbnbbmcoiiaaLsm
import Derived.Test.YtnkgbnbbmcoiiaaOmeet
import Derived.Deep.LoopGhost
namespace Go.Proofs.Ytnkgbnbbmcoiiaa.S
open Go.RowKit Go.IM Go.Proofs.YtnkgbnbbmcoiiaaW.PrintWords Go.Proofs.YtnkgbnbbmcoiiaaW.PrintLast Go.Proofs.YtnkgbnbbmcoiiaaW.PrintMore
set_option linter.unusedVariables false
set_option linter.unusedSimpArgs false
/-! ### Sweep, plain -/
theorem rightF_of {p : Int} {bs : List S43} {fn : Int} (h : RightP p bs fn) : rightF p bs fn = true := by
  unfold rightF
  simp only [Bool.and_eq_true, wi, decide_eq_true_eq, List.all_eq_true]
  refine ⟨⟨by have := h.len; omega, by have := h.len; omega⟩, h.par, ?_, h.few, fun q hq => ?_⟩
  · unfold termsR
    rw [List.all_eq_true]
    intro x hx
    obtain ⟨i, hi, e⟩ := List.getElem_of_mem hx
    have := h.term i hi
    rw [rd43' hi, e] at this
    exact this
  · obtain ⟨i, k⟩ := q
    obtain ⟨h1, h2⟩ := mem_plcs.1 hq
    exact h.op i k h1 h2
theorem opLen_wout {bs : List S43} {ds : List (Nat × Nat)} {i : Nat} (h : i < bs.length) : opLen (woutL bs ds) i = (opsW bs ds i (opLen bs i)).length := by
  unfold opLen
  rw [rd_woutL h]
  rfl
theorem opLen_wout_le {bs : List S43} {ds : List (Nat × Nat)} {i : Nat} (h : i < bs.length) : opLen (woutL bs ds) i ≤ opLen bs i := by
  rw [opLen_wout h]
  exact opsW_len _ _ _ _
theorem plcs_le {a b : List S43} : ∀ n, (∀ i, i < n → opLen a i ≤ opLen b i) → (plcs a n).length ≤ (plcs b n).length
  | 0, _ => Nat.le_refl _
  | n + 1, h => by
    have := plcs_le n (fun i hi => h i (by omega))
    have h2 := h n (by omega)
    rw [plcs_succ, plcs_succ, List.length_append, List.length_append]
    simp only [rowP, List.length_map, List.length_range]
    omega
theorem plcs_lt {a b : List S43} {j : Nat} (hj : opLen a j < opLen b j) : ∀ n, j < n → (∀ i, i < n → opLen a i ≤ opLen b i) → (plcs a n).length < (plcs b n).length
  | 0, h, _ => absurd h (Nat.not_lt_zero _)
  | n + 1, hn, h => by
    rw [plcs_succ, plcs_succ, List.length_append, List.length_append]
    simp only [rowP, List.length_map, List.length_range]
    by_cases e : j = n
    · subst e
      have := plcs_le (a := a) (b := b) j (fun i hi => h i (by omega))
      omega
    · have := plcs_lt hj n (by omega) (fun i hi => h i (by omega))
      have h2 := h n (by omega)
      omega
/-- An operation of what is left is one of what was. -/
theorem opOf_wout {bs : List S43} {ds : List (Nat × Nat)} {i k : Nat} (h : i < bs.length) (hk : k < opLen (woutL bs ds) i) : ∃ k', k' < opLen bs i ∧ opOf (woutL bs ds) (i, k) = opOf bs (i, k') ∧ (i, k') ∉ ds := by
  rw [opLen_wout h] at hk
  have e : opOf (woutL bs ds) (i, k) = (opsW bs ds i (opLen bs i))[k] := by
    show rd_T45 (rd_T43 (woutL bs ds) (i : Int)).f0 (k : Int) = _
    rw [rd_woutL h]
    exact rd45' hk
  have hm := List.getElem_mem hk
  obtain ⟨k', hk', he⟩ := List.mem_map.1 (show (opsW bs ds i (opLen bs i))[k] ∈ List.map (fun k => opOf bs (i, k)) _ from hm)
  obtain ⟨h1, h2⟩ := List.mem_filter.1 hk'
  exact ⟨k', List.mem_range.1 h1, e.trans he.symm, by simpa using h2⟩
theorem RightP.wout {p : Int} {bs : List S43} {fn : Int} (h : RightP p bs fn) (ds : List (Nat × Nat)) : RightP p (woutL bs ds) fn := by
  refine ⟨by rw [woutL_length]; exact h.len, h.par, fun i hi => ?_, ?_, fun i k hi hk => ?_⟩
  · rw [woutL_length] at hi ⊢
    rw [rd_woutL hi]
    exact h.term i hi
  · rw [woutL_length]
    exact Nat.le_trans (plcs_le _ (fun i hi => opLen_wout_le hi)) h.few
  · rw [woutL_length] at hi
    obtain ⟨k', hk', e, _⟩ := opOf_wout hi hk
    rw [e]
    exact h.op i k' hi hk'
noncomputable def deadL (bs : List S43) : List (Nat × Nat) := deadP bs (plcs bs bs.length)
theorem mem_deadL {bs : List S43} {q : Nat × Nat} : q ∈ deadL bs ↔ (q.1 < bs.length ∧ q.2 < opLen bs q.1) ∧ deadB bs q = true := by
  unfold deadL deadP
  rw [List.mem_filter]
  obtain ⟨i, k⟩ := q
  rw [mem_plcs]
def tot (bs : List S43) : Nat := (plcs bs bs.length).length
theorem opsW_lt {bs : List S43} {ds : List (Nat × Nat)} {i k : Nat} (hk : k < opLen bs i) (hd : (i, k) ∈ ds) : (opsW bs ds i (opLen bs i)).length < opLen bs i := by
  have : ∀ m, k < m → (opsW bs ds i m).length < m := fun m hm => by
    induction m with
    | zero => exact absurd hm (Nat.not_lt_zero _)
    | succ m ih =>
      rw [opsW_succ]
      by_cases e : k = m
      · subst e
        rw [if_pos hd]
        exact Nat.lt_succ_of_le (opsW_len _ _ _ _)
      · have h1 := ih (by omega)
        split
        · omega
        · rw [List.length_append, List.length_singleton]; omega
  exact this _ hk
theorem tot_wout {bs : List S43} (h : deadL bs ≠ []) : tot (woutL bs (deadL bs)) < tot bs := by
  obtain ⟨q, hq⟩ := List.exists_mem_of_ne_nil _ h
  obtain ⟨⟨h1, h2⟩, _⟩ := mem_deadL.1 hq
  unfold tot
  rw [woutL_length]
  refine plcs_lt (j := q.1) ?_ _ h1 (fun i hi => opLen_wout_le hi)
  rw [opLen_wout h1]
  exact opsW_lt h2 hq
/-- What Sweep makes of a function. -/
inductive SweepOf : List S43 → List S43 → Prop
  | done {bs : List S43} : deadL bs = [] → SweepOf bs bs
  | step {bs s : List S43} : deadL bs ≠ [] → SweepOf (woutL bs (deadL bs)) s → SweepOf bs s
theorem SweepOf.uniq {bs s : List S43} (h : SweepOf bs s) : ∀ {t : List S43}, SweepOf bs t → s = t := by
  induction h with
  | done h =>
    intro t ht
    cases ht with
    | done _ => rfl
    | step h2 _ => exact absurd h h2
  | step h _ ih =>
    intro t ht
    cases ht with
    | done h2 => exact absurd h2 h
    | step _ ht => exact ih ht
theorem SweepOf.fin {bs s : List S43} (h : SweepOf bs s) : deadL s = [] := by
  induction h with
  | done h => exact h
  | step _ _ ih => exact ih
theorem SweepOf.right {bs s : List S43} (h : SweepOf bs s) {p fn : Int} (hr : RightP p bs fn) : RightP p s fn := by
  induction h with
  | done _ => exact hr
  | step _ _ ih => exact ih (hr.wout _)
theorem SweepOf.len {bs s : List S43} (h : SweepOf bs s) : s.length = bs.length := by
  induction h with
  | done _ => rfl
  | step _ _ ih => rw [ih, woutL_length]
end Go.Proofs.Ytnkgbnbbmcoiiaa.S
namespace Go.Proofs.Ytnkgbnbbmcoiiaa.S
open Go.RowKit Go.IM Go.Proofs.YtnkgbnbbmcoiiaaW.PrintWords Go.Proofs.YtnkgbnbbmcoiiaaW.PrintLast Go.Proofs.YtnkgbnbbmcoiiaaW.PrintMore
set_option linter.unusedVariables false
set_option linter.unusedSimpArgs false
/-! ### The function of swagelaw17.small -/
def bsT : List S43 := [⟨[⟨1, 1, 0, 0, 4, []⟩, ⟨1, 2, 0, 0, 5, []⟩, ⟨9, 0, 1, 0, 0, []⟩], ⟨3, 1, 0, 0⟩⟩]
theorem t_right : rightF 0 bsT 256 = true := by decide +kernel
theorem t_u0 : (gOf bsT).use 0 0 = [] := by decide +kernel
theorem t_u1 : (gOf bsT).use 0 1 = [] := by decide +kernel
theorem t_u2 : (gOf bsT).use 0 2 = [1] := by decide +kernel
theorem t_s0 : (gOf bsT).set 0 0 = 1 := by decide +kernel
theorem t_s1 : (gOf bsT).set 0 1 = 2 := by decide +kernel
theorem t_s2 : (gOf bsT).set 0 2 = 0 := by decide +kernel
theorem t_t : (gOf bsT).tuse 0 = [1] := by decide +kernel
theorem t_succ : (gOf bsT).succ 0 = [] := by decide +kernel
theorem t_len : (gOf bsT).len 0 = 3 := rfl
theorem t_at3 {r : Int} : Lv.At (gOf bsT) r 0 3 ↔ r = 1 := by
  have h := Lv.at_end (g := gOf bsT) (r := r) (i := 0)
  rw [t_len, t_t, t_succ] at h
  rw [h]
  simp
theorem t_at2 {r : Int} : Lv.At (gOf bsT) r 0 2 ↔ r = 1 := by
  rw [Lv.at_iff (by rw [t_len]; decide), t_u2, t_s2, t_at3]
  simp only [List.mem_singleton]
  omega
theorem t_at1 {r : Int} : Lv.At (gOf bsT) r 0 1 ↔ r = 1 := by
  rw [Lv.at_iff (by rw [t_len]; decide), t_u1, t_s1, t_at2]
  simp only [List.not_mem_nil, false_or]
  omega
theorem t_at0 {r : Int} : ¬ Lv.At (gOf bsT) r 0 0 := by
  rw [Lv.at_iff (by rw [t_len]; decide), t_u0, t_s0, t_at1]
  simp only [List.not_mem_nil, false_or]
  omega
theorem rise1 : Rise [1] := List.pairwise_singleton _ _
theorem t_row0 : liveRow bsT 0 0 = [] := (liveRow_eq (rightF_iff t_right) List.Pairwise.nil (fun r => ⟨fun h => absurd h (by simp), fun h => absurd h t_at0⟩)).symm
theorem t_row1 : liveRow bsT 0 1 = [1] := (liveRow_eq (rightF_iff t_right) rise1 (fun r => by rw [List.mem_singleton]; exact t_at1.symm)).symm
theorem t_row2 : liveRow bsT 0 2 = [1] := (liveRow_eq (rightF_iff t_right) rise1 (fun r => by rw [List.mem_singleton]; exact t_at2.symm)).symm
theorem t_row3 : liveRow bsT 0 3 = [1] := (liveRow_eq (rightF_iff t_right) rise1 (fun r => by rw [List.mem_singleton]; exact t_at3.symm)).symm
theorem t_after : afterL bsT 0 = [[1], [1], [1]] := by
  have e : opLen bsT 0 = 3 := rfl
  unfold afterL
  rw [e]
  show [liveRow bsT 0 (0 + 1), liveRow bsT 0 (1 + 1), liveRow bsT 0 (2 + 1)] = _
  rw [t_row1, t_row2, t_row3]
theorem t_in : inL bsT = [[]] := by
  show [liveRow bsT 0 0] = _
  rw [t_row0]
theorem t_out : outL bsT = [[]] := by
  have h : ([] : List Int) = outRow bsT 0 := outRow_eq (rightF_iff t_right) List.Pairwise.nil (fun r => ⟨fun h => absurd h (by simp), fun ⟨j, h, _⟩ => by
    have e : succT (rd_T43 bsT ((0 : Nat) : Int)).f1 = [] := t_succ
    rw [e] at h
    exact absurd h (by simp)⟩)
  show [outRow bsT 0] = _
  rw [← h]
theorem t_plcs : plcs bsT bsT.length = [(0, 0), (0, 1), (0, 2)] := by decide +kernel
theorem t_dead : deadL bsT = [(0, 1)] := by
  have p0 : pureX (opOf bsT (0, 0)) = true := by decide +kernel
  have p1 : pureX (opOf bsT (0, 1)) = true := by decide +kernel
  have p2 : pureX (opOf bsT (0, 2)) = false := by decide +kernel
  have d0 : (opOf bsT (0, 0)).f1 = 1 := by decide +kernel
  have d1 : (opOf bsT (0, 1)).f1 = 2 := by decide +kernel
  have b0 : deadB bsT (0, 0) = false := by unfold deadB; rw [p0, d0, t_row1]; rfl
  have b1 : deadB bsT (0, 1) = true := by unfold deadB; rw [p1, d1, t_row2]; rfl
  have b2 : deadB bsT (0, 2) = false := by unfold deadB; rw [p2]; rfl
  unfold deadL deadP
  rw [t_plcs]
  simp [b0, b1, b2]
theorem t_most {m : Nat} (h : MaxOf (Sizes bsT bsT.length) m) : m = 1 := by
  have h1 : Sizes bsT bsT.length 1 := ⟨0, 1, by decide, by decide, by rw [t_row1]; rfl⟩
  have h2 := h.le 1 h1
  rcases h.is with e | ⟨i, k, hi, hk, e⟩
  · omega
  · have hi0 : i = 0 := by
      have : i < 1 := hi
      omega
    subst hi0
    have hk3 : k ≤ 3 := hk
    have : k = 0 ∨ k = 1 ∨ k = 2 ∨ k = 3 := by omega
    rcases this with rfl | rfl | rfl | rfl
    · rw [t_row0] at e; simp at e; omega
    · rw [t_row1] at e; exact e
    · rw [t_row2] at e; exact e
    · rw [t_row3] at e; exact e
theorem t_wout : woutL bsT [(0, 1)] = bsS := by kernel_rfl
/-! The rest: bsS again. -/
theorem s_at2 {r : Int} : Lv.At (gOf bsS) r 0 2 ↔ r = 1 := by
  have h := Lv.at_end (g := gOf bsS) (r := r) (i := 0)
  have e1 : (gOf bsS).len 0 = 2 := rfl
  have e2 : (gOf bsS).tuse 0 = [1] := sm_t
  have e3 : (gOf bsS).succ 0 = [] := sm_succ
  rw [e1, e2, e3] at h
  rw [h]
  simp
theorem s_at1 {r : Int} : Lv.At (gOf bsS) r 0 1 ↔ r = 1 := by
  have e1 : (gOf bsS).use 0 1 = [1] := sm_u1
  have e2 : (gOf bsS).set 0 1 = 0 := sm_s1
  rw [Lv.at_iff (show 1 < 2 by decide), e1, e2, s_at2]
  simp only [List.mem_singleton]
  omega
theorem s_row1 : liveRow bsS 0 1 = [1] := (liveRow_eq (rightF_iff sm_right) rise1 (fun r => by rw [List.mem_singleton]; exact s_at1.symm)).symm
theorem s_plcs : plcs bsS bsS.length = [(0, 0), (0, 1)] := by decide +kernel
theorem s_dead : deadL bsS = [] := by
  have p0 : pureX (opOf bsS (0, 0)) = true := by decide +kernel
  have p1 : pureX (opOf bsS (0, 1)) = false := by decide +kernel
  have d0 : (opOf bsS (0, 0)).f1 = 1 := by decide +kernel
  have b0 : deadB bsS (0, 0) = false := by unfold deadB; rw [p0, d0, s_row1]; rfl
  have b1 : deadB bsS (0, 1) = false := by unfold deadB; rw [p1]; rfl
  unfold deadL deadP
  rw [s_plcs]
  simp [b0, b1]
theorem t_sweep {s : List S43} (h : SweepOf bsT s) : s = bsS := by
  have h1 : SweepOf bsT bsS := .step (by rw [t_dead]; simp) (by rw [t_dead, t_wout]; exact .done s_dead)
  exact h.uniq h1
end Go.Proofs.Ytnkgbnbbmcoiiaa.S
namespace Go.Proofs.Ytnkgbnbbmcoiiaa.S
open Go.RowKit Go.IM Go.Proofs.YtnkgbnbbmcoiiaaW.PrintWords Go.Proofs.YtnkgbnbbmcoiiaaW.PrintLast Go.Proofs.YtnkgbnbbmcoiiaaW.PrintMore
set_option linter.unusedVariables false
set_option linter.unusedSimpArgs false
/-! ### live.Sweep -/
/-- A round of Sweep: what the boxes hold. -/
structure SwI (w W : World) (p : Int) (bs cur : List S43) (A : Option Addr) (c : Nat) (m : Nat) : Prop where mk ::
  bel : Below w.heap.size w W
  b1 : W.heap[w.heap.size]? = some (.cells #[.int .i64 p, .slice A cur.length c] 34 (0, 0))
  b2 : W.heap[w.heap.size + 1]? = some (.cells #[.int .i64 0, .slice none 0 0] 34 (0, 0))
  cap : cur.length ≤ c
  right : RightP p cur 256
  way : ∀ s, SweepOf cur s → SweepOf bs s
  deep : ∃ bg og, St (fun k => k = w.heap.size ∨ k = w.heap.size + 1) W (fun w' => DeepAt w' A cur bg og)
  tot : tot cur = m
theorem SwI.below {w W W' : World} {p : Int} {bs cur : List S43} {A : Option Addr} {c m : Nat} (h : SwI w W p bs cur A c m) (hb : Below W.heap.size W W') : SwI w W' p bs cur A c m :=
  ⟨below_then h.bel h.bel.size hb, blk_below h.b1 hb, blk_below h.b2 hb, h.cap, h.right, h.way, by
    obtain ⟨bg, og, hd⟩ := h.deep
    exact ⟨bg, og, hd.step (KP.of_below hb)⟩, h.tot⟩
def SwP (w : World) (p : Int) (bs : List S43) (m : Nat) (W : World) : Prop := ∃ cur A c, SwI w W p bs cur A c m
theorem SwI.set {w W : World} {p : Int} {bs cur cur' : List S43} {A A' : Option Addr} {c c' m : Nat} (h : SwI w W p bs cur A c m) (hc : cur'.length ≤ c') (hr : RightP p cur' 256) (ht : ∀ s, SweepOf cur' s → SweepOf bs s) (hd : ∃ bg og, St (fun k => k = w.heap.size ∨ k = w.heap.size + 1) W (fun w' => DeepAt w' A' cur' bg og)) :
    SwI w ((W.setCell ⟨w.heap.size, 0, none⟩ (.int .i64 p)).setCell ⟨w.heap.size, 1, none⟩ (.slice A' cur'.length c')) p bs cur' A' c' (S.tot cur') := by
  refine ⟨below_set (below_set h.bel _ _ (Nat.le_refl _)) _ _ (Nat.le_refl _), ?_, ?_, hc, hr, ht, ?_, rfl⟩
  · have := blk_set (blk_set h.b1 0 (.int .i64 p)) 1 (.slice A' cur'.length c')
    exact this
  · exact blk_far (blk_far h.b2 (by simp) _) (by simp) _
  · obtain ⟨bg, og, hd⟩ := hd
    exact ⟨bg, og, (hd.step (KP.setCell _ _ _ (.inl rfl))).step (KP.setCell _ _ _ (.inl rfl))⟩
set_option maxHeartbeats 8000000 in
set_option maxRecDepth 100000 in
theorem sweep_ok (p : Int) (A : Option Addr) (c : Nat) (bs : List S43) (w : World) (hC : Kd.C k43 w A bs.length bs) (hR : rightF p bs 256 = true) :
    Calls Try.prog 35 #[.agg #[.int .i64 p, .slice A bs.length c]] w fun e w' => ∃ A' c' s, e = .returned (.agg #[.int .i64 p, .slice A' s.length c']) ∧ s.length ≤ c' ∧ SweepOf bs s ∧ Kd.C k43 w' A' s.length s ∧ Below w.heap.size w w' := by
  have hu34 := Try.underlying34
  have RP := Aside0.mk (rightF_iff hR)
  obtain ⟨bg0, og0, hde⟩ := deep_of hC
  have hbA := below_alloc (below_alloc (Below.refl w.heap.size w) (.cells #[.int .i64 p, .slice A bs.length c] 34)) (.cells #[.int .i64 0, .slice none 0 0] 34)
  have hx1 := blk_alloc (blk_new w (.cells #[.int .i64 p, .slice A bs.length c] 34)) (.cells #[.int .i64 0, .slice none 0 0] 34)
  have hx2 := blk_new (w.alloc (.cells #[.int .i64 p, .slice A bs.length c] 34)) (.cells #[.int .i64 0, .slice none 0 0] 34)
  have hsz : ((w.alloc (.cells #[.int .i64 p, .slice A bs.length c] 34)).alloc (.cells #[.int .i64 0, .slice none 0 0] 34)).heap.size = w.heap.size + 2 := by rw [World.size_alloc, World.size_alloc]
  rw [World.size_alloc] at hx2
  have HST : Aside0 (St (fun k => k = w.heap.size ∨ k = w.heap.size + 1) ((w.alloc (.cells #[.int .i64 p, .slice A bs.length c] 34)).alloc (.cells #[.int .i64 0, .slice none 0 0] 34)) (fun w' => DeepAt w' A bs bg0 og0)) := ⟨fun w2 h2 => hde.kc (h2.kc hbA (fun k hk h => by omega))⟩
  have HBA := Aside0.mk hbA
  have HX1 := Aside0.mk hx1
  have HX2 := Aside0.mk hx2
  have HSZ := Aside0.mk hsz
  clear hC hR hbA hx1 hx2 hsz hde
  go_enter Try.func35, Try.ntmps35
  go_wp2_with (go_at_call 62; refine (copy_ok p A c bs _ (fun k => k = w.heap.size ∨ k = w.heap.size + 1) bg0 og0 HST.out (fun k hk => by rw [HSZ.out]; omega) RP.out.sml).mono ?_; rintro e w1 ⟨g, c1, bg1, cs1, rfl, hle, hg, hbr, hb⟩; have HLE := Aside0.mk hle; have HG := Aside0.mk hg; have HBR := Aside0.mk hbr; have HB1 := Aside0.mk (below_then HBA.out HBA.out.size hb); have HX11 := Aside0.mk (blk_below HX1.out hb); have HX21 := Aside0.mk (blk_below HX2.out hb); have s0 := blk_cell HX11.out 0; have s1 := blk_cell HX11.out 1; have f0 := blk_frozen HX11.out 0; have f1 := blk_frozen HX11.out 1; simp only [List.getElem?_toArray, List.getElem?_cons_zero, List.getElem?_cons_succ] at s0 s1; clear hle hg hbr hb)
  clear s0 s1 f0 f1
  have HP : Aside0 (SwP w p bs (tot bs) ((w1.setCell ⟨w.heap.size, 0, none⟩ (.int .i64 p)).setCell ⟨w.heap.size, 1, none⟩ (.slice (some ⟨g, 0, none⟩) bs.length c1))) := ⟨by
    have hg := HG.out
    rw [HSZ.out] at hg
    obtain ⟨og1, hd1⟩ := HBR.out.deep (Y := fun k => k = w.heap.size ∨ k = w.heap.size + 1) (fun h => by omega) (fun k h => .inr h)
    refine ⟨bs, some ⟨g, 0, none⟩, c1, ⟨below_set (below_set HB1.out _ _ (Nat.le_refl _)) _ _ (Nat.le_refl _), ?_, ?_, HLE.out, RP.out, fun s h => h, ⟨bg1, og1, (hd1.step (KP.setCell _ _ _ (.inl rfl))).step (KP.setCell _ _ _ (.inl rfl))⟩, rfl⟩⟩
    · have := blk_set (blk_set HX11.out 0 (.int .i64 p)) 1 (.slice (some ⟨g, 0, none⟩) bs.length c1)
      exact this
    · exact blk_far (blk_far HX21.out (by simp) _) (by simp) _⟩
  generalize (w1.setCell ⟨w.heap.size, 0, none⟩ (.int .i64 p)).setCell ⟨w.heap.size, 1, none⟩ (.slice (some ⟨g, 0, none⟩) bs.length c1) = W1 at HP ⊢
  clear HST HBA HX1 HX2 HSZ HLE HG HBR HB1 HX11 HX21
  go_loopw [3] (fun _ wr => ∃ m, SwP w p bs m wr) (fun _ wr => leastOf fun m => SwP w p bs m wr)
  case atStart => exact ⟨_, HP.out⟩
  case round =>
    clear HP
    obtain ⟨hls, hmin⟩ := leastOf_spec hrel
    have HMIN := Aside0.mk hmin
    obtain ⟨cur, A', c', hsw⟩ := hls
    have HSW := Aside0.mk hsw
    have c0 := blk_cell hsw.b1 0
    have c1' := blk_cell hsw.b1 1
    simp only [List.getElem?_toArray, List.getElem?_cons_zero, List.getElem?_cons_succ] at c0 c1'
    clear hrel hmin hsw
    have HTOT := Aside0.mk HSW.out.tot
    have HCC : Aside0 (Kd.C k43 wr A' cur.length cur) := ⟨by
      obtain ⟨bg, og, hd⟩ := HSW.out.deep
      exact blks_C hd.now.1 (by have := HSW.out.right.len; omega)⟩
    have HDL : Aside0 ((deadL cur).length ≤ 16384) := ⟨Nat.le_trans (deadP_len _ _) HSW.out.right.few⟩
    by_cases hd : deadL cur = []
    · have HD0 := Aside0.mk hd
      go_wp2_with (go_at_call 36; refine (dead_ok p A' c' cur _ HCC.out (rightF_of HSW.out.right)).mono ?_; rintro e w2 ⟨v, rfl, ho, hb⟩; obtain ⟨Dd, cd, rfl⟩ := own_slice ho; have hdl : (deadP cur (plcs cur cur.length)).length = 0 := (congrArg List.length HD0.out); rw [hdl] at ho ⊢; have HB2 := Aside0.mk hb; have hc0 := blk_cell (blk_below HSW.out.b1 hb) 0; have hc1 := blk_cell (blk_below HSW.out.b1 hb) 1; have d0 := blk_cell (blk_below HSW.out.b2 hb) 0; have d1 := blk_cell (blk_below HSW.out.b2 hb) 1; have e0 := blk_frozen (blk_below HSW.out.b2 hb) 0; have e1 := blk_frozen (blk_below HSW.out.b2 hb) 1; simp only [List.getElem?_toArray, List.getElem?_cons_zero, List.getElem?_cons_succ] at hc0 hc1 d0 d1; clear ho hb hdl)
      have hz := blk_set (blk_set (blk_below HSW.out.b2 HB2.out) 0 (.int .i64 p)) 1 (.slice A' cur.length c')
      have hb1 := below_set (below_set (below_then HSW.out.bel HSW.out.bel.size HB2.out) ⟨w.heap.size + 1, 0, none⟩ (.int .i64 p) (Nat.le_succ _)) ⟨w.heap.size + 1, 1, none⟩ (.slice A' cur.length c') (Nat.le_succ _)
      have hC2 : Kd.C k43 ((w2.setCell ⟨w.heap.size + 1, 0, none⟩ (.int .i64 p)).setCell ⟨w.heap.size + 1, 1, none⟩ (.slice A' cur.length c')) A' cur.length cur := by
        obtain ⟨bg, og, hd⟩ := HSW.out.deep
        exact blks_C (((hd.step (KP.of_below HB2.out)).step (KP.setCell _ _ _ (.inr rfl))).step (KP.setCell _ _ _ (.inr rfl))).now.1 (by have := HSW.out.right.len; omega)
      generalize (w2.setCell ⟨w.heap.size + 1, 0, none⟩ (.int .i64 p)).setCell ⟨w.heap.size + 1, 1, none⟩ (.slice A' cur.length c') = W2 at hz hb1 hC2 ⊢
      have z0 := blk_cell hz 0
      have z1 := blk_cell hz 1
      simp at z0 z1
      refine bodyPost_ret (v := .agg #[.int .i64 p, .slice A' cur.length c']) (by simp [results, Try.results35, go_sem, hu34, z0, z1]) rfl ?_
      exact ⟨A', c', cur, rfl, HSW.out.cap, HSW.out.way _ (.done HD0.out), hC2, hb1⟩
    · have hlt := List.length_pos_iff.2 hd
      have HD0 := Aside0.mk hd
      clear hd
      have b1 : ((deadL cur).length : Int) ≠ 0 := by omega
      have b2 : decide (((deadL cur).length : Int) = 0) = false := decide_eq_false b1
      have b3 : (((deadL cur).length : Int) == 0) = false := by simpa using b1
      obtain ⟨DL, hDL⟩ : ∃ DL, deadL cur = DL := ⟨_, rfl⟩
      rw [hDL] at hlt b1 b2 b3
      have HDE := Aside0.mk hDL
      clear hDL
      obtain ⟨bg, og, hdp⟩ := HSW.out.deep
      have HDP := Aside0.mk hdp
      clear hdp
      go_wp2_with (first
        | (go_at_call 36; refine (dead_ok p A' c' cur _ HCC.out (rightF_of HSW.out.right)).mono ?_; rintro e w2 ⟨v, rfl, ho, hb⟩; obtain ⟨Dd, cd, rfl⟩ := own_slice ho; have hde : deadP cur (plcs cur cur.length) = DL := HDE.out; rw [hde] at ho ⊢; have HPA := Aside0.mk (PrAt.of_own ho); have HB2 := Aside0.mk hb; have hc0 := blk_cell (blk_below HSW.out.b1 hb) 0; have hc1 := blk_cell (blk_below HSW.out.b1 hb) 1; simp only [List.getElem?_toArray, List.getElem?_cons_zero, List.getElem?_cons_succ] at hc0 hc1; clear ho hb hde)
        | (go_at_call 63; refine (without_ok p A' c' cur Dd cd DL _ (fun k => k = w.heap.size ∨ k = w.heap.size + 1) bg og (HDP.out.step (KP.of_below HB2.out)) (fun k hk => by have h1 := blk_lt HSW.out.b1; have h2 := blk_lt HSW.out.b2; have h3 := HB2.out.size; omega) HSW.out.right.sml HPA.out (by rw [← HDE.out]; exact HDL.out)).mono ?_; rintro e w3 ⟨A3, c3, bg3, og3, rfl, hle3, hst3, hb⟩; have HLE3 := Aside0.mk hle3; have HST3 := Aside0.mk hst3; have HB3 := Aside0.mk (below_then HB2.out HB2.out.size hb); have s0 := blk_cell (blk_below HSW.out.b1 HB3.out) 0; have s1 := blk_cell (blk_below HSW.out.b1 HB3.out) 1; have f0 := blk_frozen (blk_below HSW.out.b1 HB3.out) 0; have f1 := blk_frozen (blk_below HSW.out.b1 HB3.out) 1; simp only [List.getElem?_toArray, List.getElem?_cons_zero, List.getElem?_cons_succ] at s0 s1; clear hle3 hst3 hb hc0 hc1))
      go_roundw
      case rel =>
        have h := SwI.set (HSW.out.below HB3.out) (cur' := woutL cur DL) (A' := A3) (c' := c3) (by rw [woutL_length]; exact HLE3.out) (HSW.out.right.wout DL) (fun s hs => HSW.out.way s (.step HD0.out (by rw [HDE.out]; exact hs))) ⟨bg3, og3, HST3.out⟩
        rw [woutL_length] at h
        exact ⟨_, _, _, _, h⟩
      case measure =>
        have h := SwI.set (HSW.out.below HB3.out) (cur' := woutL cur DL) (A' := A3) (c' := c3) (by rw [woutL_length]; exact HLE3.out) (HSW.out.right.wout DL) (fun s hs => HSW.out.way s (.step HD0.out (by rw [HDE.out]; exact hs))) ⟨bg3, og3, HST3.out⟩
        rw [woutL_length] at h
        have h1 := (leastOf_spec (p := fun m => SwP w p bs m ((w3.setCell ⟨w.heap.size, 0, none⟩ (.int .i64 p)).setCell ⟨w.heap.size, 1, none⟩ (.slice A3 cur.length c3))) ⟨_, _, _, _, h⟩).2 _ ⟨_, _, _, h⟩
        have h2 := tot_wout HD0.out
        rw [HDE.out, HTOT.out] at h2
        exact Nat.lt_of_le_of_lt h1 h2
end Go.Proofs.Ytnkgbnbbmcoiiaa.S
