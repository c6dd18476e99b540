import Derived.Test.YtnkgbnbbmcoiiaaOsets
import Derived.Test.YtnkgbnbbmcoiiaaLright
import Derived.Test.YtnkgbnbbmcoiiaaOright
import Derived.Test.YtnkgbnbbmcoiiaaS7
import Derived.Test.YtnkgbnbbmcoiiaaS6
import Derived.Test.YtnkgbnbbmcoiiaaOm2
import Derived.Test.YtnkgbnbbmcoiiaaOover
import Derived.Test.YtnkgbnbbmcoiiaaRel
import Derived.Test.YtnkgbnbbmcoiiaaOpw
import Derived.Test.YtnkgbnbbmcoiiaaS8
namespace Go.Proofs.Ytnkgbnbbmcoiiaa.S
open Go.RowKit Go.IM Go.Proofs.YtnkgbnbbmcoiiaaW.PrintWords Go.Proofs.YtnkgbnbbmcoiiaaW.PrintLast Go.Proofs.YtnkgbnbbmcoiiaaW.PrintMore
set_option linter.unusedVariables false
set_option linter.unusedSimpArgs false
/-- The sets of a right function. -/
theorem sets_ok (p : Int) (A : Option Addr) (c : Nat) (bs : List S43) (w : World) (hC : Kd.C k43 w A bs.length bs) (hR : rightF p bs 256 = true) :
    Calls Try.prog 57 #[.agg #[.int .i64 p, .slice A bs.length c]] w (SetsP bs w) := callsIn_wide.1 (sets_in p A c bs w hC hR)
open Classical in
/-- The registers that are live at a place. -/
noncomputable def liveRow (bs : List S43) (i k : Nat) : List Int := ((List.range 4096).map fun j : Nat => (j : Int) + 1).filter fun r => decide (Lv.At (gOf bs) r i k)
theorem regs_rise (n : Nat) : ((List.range n).map fun j : Nat => (j : Int) + 1).Pairwise (· < ·) := by
  rw [List.pairwise_map]
  exact List.pairwise_lt_range.imp (fun h => by omega)
theorem liveRow_rise (bs : List S43) (i k : Nat) : Rise (liveRow bs i k) := (regs_rise 4096).sublist List.filter_sublist
theorem mem_regs {n : Nat} {r : Int} : r ∈ ((List.range n).map fun j : Nat => (j : Int) + 1) ↔ 1 ≤ r ∧ r ≤ (n : Int) := by
  simp only [List.mem_map, List.mem_range]
  constructor
  · rintro ⟨j, h1, rfl⟩; omega
  · rintro ⟨h1, h2⟩; exact ⟨(r - 1).toNat, by omega, by omega⟩
open Classical in
theorem mem_liveRow {p : Int} {bs : List S43} {fn : Int} (h : RightP p bs fn) {i k : Nat} {r : Int} : r ∈ liveRow bs i k ↔ Lv.At (gOf bs) r i k := by
  unfold liveRow
  rw [List.mem_filter, mem_regs]
  exact ⟨fun h => of_decide_eq_true h.2, fun ha => ⟨by have := h.at_reg ha; omega, decide_eq_true ha⟩⟩
theorem liveRow_eq {p : Int} {bs : List S43} {fn : Int} (h : RightP p bs fn) {i k : Nat} {zs : List Int} (hz : Rise zs) (hm : ∀ r, r ∈ zs ↔ Lv.At (gOf bs) r i k) : zs = liveRow bs i k :=
  Lv.rise_ext hz (liveRow_rise bs i k) (fun r => (hm r).trans (mem_liveRow h).symm)
/-- In, in closed form. -/
noncomputable def inL (bs : List S43) : List (List Int) := (List.range bs.length).map fun i => liveRow bs i 0
theorem KS.len {es : List (Int × Value)} {bs : List S43} {p fn : Int} {i k : Nat} (h : KS es (fun r => Lv.At (gOf bs) r i k)) (hr : RightP p bs fn) : es.length ≤ 4096 := h.sz.regs (fun r ha => hr.at_reg ha)
set_option maxHeartbeats 4000000 in
set_option maxRecDepth 100000 in
theorem in_ok (p : Int) (A : Option Addr) (c : Nat) (bs : List S43) (w : World) (hC : Kd.C k43 w A bs.length bs) (hR : rightF p bs 256 = true) :
    Calls Try.prog 27 #[.agg #[.int .i64 p, .slice A bs.length c]] w fun e w' => ∃ v, e = .returned v ∧ Kd.R (Kd.slice 3 (Kd.int .i64)) 28 w' w.heap.size (fun _ => True) v (inL bs) ∧ Below w.heap.size w w' := by
  have RP := Aside0.mk (rightF_iff hR)
  have HR := Aside0.mk hR
  have HC := Aside0.mk hC
  have HB0 := Aside0.mk (below_alloc (Below.refl w.heap.size w) (.cells #[.int .i64 p, .slice A bs.length c] 34))
  have hu34 := Try.underlying34
  have hlen := RP.out.len
  clear hC hR
  obtain ⟨fi, hfi⟩ : ∃ fi : Nat → List Int, fi = fun i => liveRow bs i 0 := ⟨_, rfl⟩
  have HFI := Aside0.mk hfi
  have hin : inL bs = (List.range bs.length).map fi := by rw [hfi]; rfl
  rw [hin]
  clear hfi hin
  go_enter Try.func27, Try.ntmps27
  go_wp2_with (go_at_call 57; refine (sets_ok p A c bs _ (Kd.C_below HC.out HB0.out) HR.out).mono ?_; rintro e w1 ⟨A1, rfl, hm, hb⟩; have HM := Aside0.mk hm; have HB1 := Aside0.mk (below_then HB0.out HB0.out.size hb); clear hb hm)
  go_loopw [5, 15] (fun v i wr => ∃ j : Nat, j ≤ bs.length ∧ i = .int .i64 (j : Int) ∧ Aside0 (Kd.R (Kd.slice 3 (Kd.int .i64)) 28 wr w1.heap.size (fun _ => True) v ((List.range j).map fi)) ∧ Aside0 (Below w1.heap.size w1 wr)) (fun _ i _ => bs.length - (intOf i).toNat)
  case atStart => exact ⟨0, Nat.zero_le _, rfl, ⟨Kd.R_nil _ _ _ _ _⟩, ⟨Below.refl _ _⟩⟩
  case round =>
    obtain ⟨j, hj, rfl, HO, HB⟩ := hrel
    by_cases hlt : j < bs.length
    · have b1 : decide ((j : Int) < (bs.length : Int)) = true := decide_eq_true (by omega)
      obtain ⟨adm, b, es, eM, hcm, hat, hks⟩ := (HM.out.below HB.out) j hlt
      have HAT := Aside0.mk hat
      have HKS := Aside0.mk hks
      have HEL := Aside0.mk (hks.len RP.out)
      clear hat hks
      subst eM
      have HTS : Aside0 ((List.range (j + 1)).map fi = (List.range j).map fi ++ [fi j]) := ⟨by rw [List.range_succ, List.map_append]; rfl⟩
      have HFJ : Aside0 (liveRow bs j 0 = fi j) := ⟨by rw [HFI.out]⟩
      have HL : Aside0 (((List.range j).map fi).length ≤ 4096) := ⟨by simp; omega⟩
      generalize (List.range j).map fi = out at HO HTS HL
      go_wp2_with (first
        | (go_at_call 58; refine (row_any b es _ _ HAT.out HKS.out (by have := HEL.out; omega)).mono ?_; rintro e w2 ⟨v2, zs, rfl, hr2, hrise, hmem, hb2⟩; have HR2 := Aside0.mk hr2; have HZ2 := Aside0.mk (liveRow_eq RP.out hrise hmem); have HB2 := Aside0.mk hb2; obtain ⟨A2, c2, rfl⟩ := Kd.R_slice hr2; clear hr2 hrise hmem hb2)
        | (at_builtin; refine Kd.R_append (Kd.slice 3 (Kd.int .i64)) (w0 := w1) w1.heap.size rfl _ _ 50 28 (.slice none 0 0) 24 rfl Try.underlying50 info28 rfl (by decide) (by decide) _ out zs [.slice A2 zs.length c2] (fun _ => True) (fun k => wr.heap.size ≤ k) rfl rfl ⟨_, rfl, Kd.R_lower (Kd.R_mono (Kd.R_bound HR2.out) (fun k hk => hk.2.1)) HB.out.size⟩ (fun k hk => ⟨trivial, fun e => by have := Kd.R_lt HO.out k e.symm; omega⟩) (fun _ _ => trivial) (Kd.R_below HO.out HB2.out) (below_then HB.out HB.out.size HB2.out) (by have := HB.out.size; have := HB2.out.size; omega) (by have := HL.out; omega) ?_; intro v3 w3 ho3 hb3 hg3 hat3; have HO3 := Aside0.mk ho3; have HB3 := Aside0.mk hb3; have HG3 := Aside0.mk hg3; clear ho3 hb3 hg3 hat3))
      go_roundw
      case rel =>
        refine ⟨j + 1, by omega, by go_num, ⟨by rw [HTS.out, ← HFJ.out, ← HZ2.out]; exact HO3.out⟩, HB3⟩
      case measure => simp [intOf]; omega
    · have b1 : decide ((j : Int) < (bs.length : Int)) = false := decide_eq_false (by omega)
      obtain rfl : j = bs.length := by omega
      go_wp2_with fail
      go_ret
      exact ⟨_, rfl, Kd.R_lower HO.out HB1.out.size, below_then HB1.out HB1.out.size HB.out⟩
end Go.Proofs.Ytnkgbnbbmcoiiaa.S
namespace Go.Proofs.Ytnkgbnbbmcoiiaa.S
open Go.RowKit Go.IM Go.Proofs.YtnkgbnbbmcoiiaaW.PrintWords Go.Proofs.YtnkgbnbbmcoiiaaW.PrintLast Go.Proofs.YtnkgbnbbmcoiiaaW.PrintMore
set_option linter.unusedVariables false
set_option linter.unusedSimpArgs false
/-! ### spans.Number -/
/-- Where block j starts. -/
def pos (bs : List S43) (j : Nat) : Nat := (plcs bs j).length + j
theorem num_inc {j n : Nat} (h : j < n) (hn : n ≤ 4096) : wrap64 ((j : Int) + 1) = ((j + 1 : Nat) : Int) := by
  unfold wrap64
  omega
end Go.Proofs.Ytnkgbnbbmcoiiaa.S
namespace Go.Proofs.Ytnkgbnbbmcoiiaa.S
open Go.RowKit Go.IM Go.Proofs.YtnkgbnbbmcoiiaaW.PrintWords Go.Proofs.YtnkgbnbbmcoiiaaW.PrintLast Go.Proofs.YtnkgbnbbmcoiiaaW.PrintMore
set_option linter.unusedVariables false
/-! ### The greatest of some numbers -/
/-- m is the greatest of those of which P tells, or 0. -/
structure MaxOf (P : Nat → Prop) (m : Nat) : Prop where mk ::
  le : ∀ x, P x → x ≤ m
  is : m = 0 ∨ P m
theorem MaxOf.zero : MaxOf (fun _ => False) 0 := ⟨fun _ h => h.elim, .inl rfl⟩
theorem MaxOf.imp {P Q : Nat → Prop} {m : Nat} (h : MaxOf P m) (hq : ∀ x, P x ↔ Q x) : MaxOf Q m := ⟨fun x hx => h.le x ((hq x).2 hx), h.is.imp id (hq m).1⟩
theorem MaxOf.add {P : Nat → Prop} {m : Nat} (h : MaxOf P m) (a : Nat) : MaxOf (fun x => x = a ∨ P x) (max m a) := by
  by_cases hlt : m < a
  · rw [Nat.max_eq_right (Nat.le_of_lt hlt)]
    exact ⟨fun x hx => by
      rcases hx with rfl | hx
      · exact Nat.le_refl _
      · have := h.le x hx; omega, .inr (.inl rfl)⟩
  · rw [Nat.max_eq_left (Nat.le_of_not_lt hlt)]
    exact ⟨fun x hx => by
      rcases hx with rfl | hx
      · omega
      · exact h.le x hx, h.is.imp id .inr⟩
theorem MaxOf.uniq {P : Nat → Prop} {m n : Nat} (h : MaxOf P m) (k : MaxOf P n) : m = n := by
  have h1 : m ≤ n := by
    rcases h.is with e | e
    · omega
    · exact k.le m e
  have h2 : n ≤ m := by
    rcases k.is with e | e
    · omega
    · exact h.le n e
  omega
/-- The sizes of the rows ahead of block n. -/
def Sizes (bs : List S43) (n x : Nat) : Prop := ∃ i k, i < n ∧ k ≤ opLen bs i ∧ x = (liveRow bs i k).length
/-- Those of block i, at places 1 to k, and at its two ends. -/
def SizesTo (bs : List S43) (i k x : Nat) : Prop := x = (liveRow bs i 0).length ∨ x = (liveRow bs i (opLen bs i)).length ∨ ∃ q, q < k ∧ x = (liveRow bs i (q + 1)).length
theorem sizes_succ (bs : List S43) (i x : Nat) : (SizesTo bs i (opLen bs i) x ∨ Sizes bs i x) ↔ Sizes bs (i + 1) x := by
  constructor
  · rintro ((h | h | ⟨q, hq, h⟩) | ⟨j, k, hj, hk, h⟩)
    · exact ⟨i, 0, Nat.lt_succ_self i, Nat.zero_le _, h⟩
    · exact ⟨i, _, Nat.lt_succ_self i, Nat.le_refl _, h⟩
    · exact ⟨i, q + 1, Nat.lt_succ_self i, hq, h⟩
    · exact ⟨j, k, Nat.lt_succ_of_lt hj, hk, h⟩
  · rintro ⟨j, k, hj, hk, h⟩
    by_cases e : j = i
    · subst e
      left
      by_cases e0 : k = 0
      · subst e0; exact .inl h
      · refine .inr (.inr ⟨k - 1, by omega, ?_⟩)
        rw [Nat.sub_add_cancel (Nat.pos_of_ne_zero e0)]; exact h
    · exact .inr ⟨j, k, by omega, hk, h⟩
theorem sizesTo_zero (bs : List S43) (i y : Nat) : SizesTo bs i 0 y ↔ (y = (liveRow bs i (opLen bs i)).length ∨ y = (liveRow bs i 0).length) := by
  constructor
  · rintro (h | h | ⟨q, hq, _⟩)
    · exact .inr h
    · exact .inl h
    · exact absurd hq (Nat.not_lt_zero _)
  · rintro (h | h)
    · exact .inr (.inl h)
    · exact .inl h
theorem sizesTo_succ (bs : List S43) (i k y : Nat) : SizesTo bs i (k + 1) y ↔ (y = (liveRow bs i (k + 1)).length ∨ SizesTo bs i k y) := by
  constructor
  · rintro (h | h | ⟨q, hq, h⟩)
    · exact .inr (.inl h)
    · exact .inr (.inr (.inl h))
    · by_cases e : q = k
      · subst e; exact .inl h
      · exact .inr (.inr (.inr ⟨q, by omega, h⟩))
  · rintro (h | h | h | ⟨q, hq, h⟩)
    · exact .inr (.inr ⟨k, Nat.lt_succ_self k, h⟩)
    · exact .inl h
    · exact .inr (.inl h)
    · exact .inr (.inr ⟨q, by omega, h⟩)
theorem liveRow_nodup (bs : List S43) (i k : Nat) : (liveRow bs i k).Nodup := (liveRow_rise bs i k).imp (fun h => by omega)
theorem liveRow_sz {p : Int} {bs : List S43} {fn : Int} (h : RightP p bs fn) (i k : Nat) : Lv.Sz (fun r => Lv.At (gOf bs) r i k) (liveRow bs i k).length := ⟨_, liveRow_nodup bs i k, fun r => mem_liveRow h, rfl⟩
theorem liveRow_le {p : Int} {bs : List S43} {fn : Int} (h : RightP p bs fn) (i k : Nat) : (liveRow bs i k).length ≤ 4096 := (liveRow_sz h i k).regs (fun r ha => h.at_reg ha)
end Go.Proofs.Ytnkgbnbbmcoiiaa.S
namespace Go.Proofs.Ytnkgbnbbmcoiiaa.S
open Go.RowKit Go.Proofs.YtnkgbnbbmcoiiaaW.PrintWords Go.Proofs.YtnkgbnbbmcoiiaaW.PrintLast Go.Proofs.YtnkgbnbbmcoiiaaW.PrintMore
set_option linter.unusedVariables false
set_option linter.unusedSimpArgs false
/-! ### few answers always -/
/-- From some fuel on, one answer. -/
def Tt {α : Type} (g : Nat → Option α) : Prop := ∃ k0 r, ∀ k, k0 ≤ k → g k = some r
theorem Tt.succ {α β : Type} {g : Nat → Option α} {h : Nat → Option β} (f : α → β) (hg : Tt g) (hs : ∀ k r, g k = some r → h (k + 1) = some (f r)) : Tt h := by
  obtain ⟨k0, r, h0⟩ := hg
  refine ⟨k0 + 1, f r, fun k hk => ?_⟩
  obtain ⟨k', rfl⟩ : ∃ k', k = k' + 1 := ⟨k - 1, by omega⟩
  exact hs k' r (h0 k' (by omega))
theorem Tt.now {α : Type} {h : Nat → Option α} (r : α) (hs : ∀ k, h (k + 1) = some r) : Tt h :=
  ⟨1, r, fun k hk => by
    obtain ⟨k', rfl⟩ : ∃ k', k = k' + 1 := ⟨k - 1, by omega⟩
    exact hs k'⟩
theorem few_in (p : Int) (bs : List S43) (j : Nat) (hj : j < bs.length) (hj1 : j < 100) (hn : ∀ x3, Tt (fun k => swagelaw14_Few.l0 k x3 ((j + 1 : Nat) : Int) p bs)) : ∀ (m q : Nat), q + m = 301 → ∀ x3, Tt (fun k => swagelaw14_Few.l1 k x3 (j : Int) (q : Int) p bs)
  | 0, q, hm, x3 => by
      have h3 : Tt (fun k => swagelaw14_Few.j3 k x3 (j : Int) (q : Int) false p bs) := (hn x3).succ id (fun k r h => by
        rw [swagelaw14_Few.j3, if_neg (by decide), num_inc hj1 (by decide)]; exact h)
      refine h3.succ id (fun k r h => ?_)
      rw [swagelaw14_Few.l1, if_pos (Int.natCast_nonneg j), if_pos (Int.ofNat_lt.2 hj)]
      have e : decide ((q : Int) < 300) = false := decide_eq_false (by omega)
      rw [e]
      split <;> exact h
  | m + 1, q, hm, x3 => by
      have h3 : Tt (fun k => swagelaw14_Few.j3 k x3 (j : Int) (q : Int) false p bs) := (hn x3).succ id (fun k r h => by
        rw [swagelaw14_Few.j3, if_neg (by decide), num_inc hj1 (by decide)]; exact h)
      by_cases hq : (q : Int) < ((rd_T43 bs (j : Int)).f0.length : Int)
      · by_cases hq3 : (q : Int) < 300
        · have e : decide ((q : Int) < 300) = true := decide_eq_true hq3
          have hj3 : Tt (fun k => swagelaw14_Few.j3 k x3 (j : Int) (q : Int) true p bs) := by
            by_cases ha : ((rd_T45 (rd_T43 bs (j : Int)).f0 (q : Int)).f5.length : Int) > 20
            · exact Tt.now false (fun k => by
                rw [swagelaw14_Few.j3, if_pos rfl, if_pos (Int.natCast_nonneg j), if_pos (Int.ofNat_lt.2 hj), if_pos (Int.natCast_nonneg q), if_pos hq, if_pos ha])
            · exact (few_in p bs j hj hj1 hn m (q + 1) (by omega) x3).succ id (fun k r h => by
                rw [swagelaw14_Few.j3, if_pos rfl, if_pos (Int.natCast_nonneg j), if_pos (Int.ofNat_lt.2 hj), if_pos (Int.natCast_nonneg q), if_pos hq, if_neg ha, num_inc (n := 300) (by omega) (by decide)]
                exact h)
          refine hj3.succ id (fun k r h => ?_)
          rw [swagelaw14_Few.l1, if_pos (Int.natCast_nonneg j), if_pos (Int.ofNat_lt.2 hj), if_pos hq, e]
          exact h
        · refine h3.succ id (fun k r h => ?_)
          rw [swagelaw14_Few.l1, if_pos (Int.natCast_nonneg j), if_pos (Int.ofNat_lt.2 hj), if_pos hq, decide_eq_false hq3]
          exact h
      · refine h3.succ id (fun k r h => ?_)
        rw [swagelaw14_Few.l1, if_pos (Int.natCast_nonneg j), if_pos (Int.ofNat_lt.2 hj), if_neg hq]
        exact h
theorem few_end (p : Int) (bs : List S43) (x3 : Int) (x4 : Int) : Tt (fun k => swagelaw14_Few.j1 k x3 x4 false p bs) := by
  by_cases h : (bs.length : Int) ≤ 40
  · exact Tt.now (decide (x3 ≤ 250)) (fun k => by rw [swagelaw14_Few.j1, if_neg (by decide), if_pos h])
  · exact Tt.now false (fun k => by rw [swagelaw14_Few.j1, if_neg (by decide), if_neg h])
theorem few_out (p : Int) (bs : List S43) : ∀ (m j : Nat), j + m = 101 → ∀ x3, Tt (fun k => swagelaw14_Few.l0 k x3 (j : Int) p bs)
  | 0, j, hm, x3 => by
      refine (few_end p bs x3 (j : Int)).succ id (fun k r h => ?_)
      have e : decide ((j : Int) < 100) = false := decide_eq_false (by omega)
      rw [swagelaw14_Few.l0, e]
      split <;> exact h
  | m + 1, j, hm, x3 => by
      by_cases hj : j < bs.length
      · by_cases h1 : j < 100
        · have e : decide ((j : Int) < 100) = true := decide_eq_true (by omega)
          have hi := few_in p bs j hj h1 (fun x => few_out p bs m (j + 1) (by omega) x) 301 0 (by decide) (wrap64 (x3 + ((rd_T43 bs (j : Int)).f0.length : Int)))
          have h2 : Tt (fun k => swagelaw14_Few.j1 k x3 (j : Int) true p bs) := hi.succ id (fun k r h => by
            rw [swagelaw14_Few.j1, if_pos rfl, if_pos (Int.natCast_nonneg j), if_pos (Int.ofNat_lt.2 hj)]
            exact h)
          refine h2.succ id (fun k r h => ?_)
          rw [swagelaw14_Few.l0, if_pos (Int.ofNat_lt.2 hj), e]
          exact h
        · have e : decide ((j : Int) < 100) = false := decide_eq_false (by omega)
          refine (few_end p bs x3 (j : Int)).succ id (fun k r h => ?_)
          rw [swagelaw14_Few.l0, e]
          split <;> exact h
      · refine (few_end p bs x3 (j : Int)).succ id (fun k r h => ?_)
        rw [swagelaw14_Few.l0, if_neg (by omega)]
        exact h
theorem few_total (p : Int) (bs : List S43) : Tt (fun k => swagelaw14_Few.f k p bs) := few_out p bs 101 0 (by decide) 0
end Go.Proofs.Ytnkgbnbbmcoiiaa.S
namespace Go.Proofs.Ytnkgbnbbmcoiiaa.S
open Go.RowKit Go.IM Go.Proofs.YtnkgbnbbmcoiiaaW.PrintWords Go.Proofs.YtnkgbnbbmcoiiaaW.PrintLast Go.Proofs.YtnkgbnbbmcoiiaaW.PrintMore
set_option linter.unusedVariables false
set_option linter.unusedSimpArgs false
/-- What is live behind a block. -/
def OutP (bs : List S43) (i : Nat) (r : Int) : Prop := ∃ j : Nat, (j : Int) ∈ succT (rd_T43 bs (i : Int)).f1 ∧ Lv.At (gOf bs) r j 0
open Classical in
noncomputable def outRow (bs : List S43) (i : Nat) : List Int := ((List.range 4096).map fun j : Nat => (j : Int) + 1).filter fun r => decide (OutP bs i r)
theorem outRow_rise (bs : List S43) (i : Nat) : Rise (outRow bs i) := (regs_rise 4096).sublist List.filter_sublist
open Classical in
theorem mem_outRow {p : Int} {bs : List S43} {fn : Int} (h : RightP p bs fn) {i : Nat} {r : Int} : r ∈ outRow bs i ↔ OutP bs i r := by
  unfold outRow
  rw [List.mem_filter, mem_regs]
  exact ⟨fun h => of_decide_eq_true h.2, fun ha => ⟨by obtain ⟨j, _, ha⟩ := ha; have := h.at_reg ha; omega, decide_eq_true ha⟩⟩
theorem outRow_eq {p : Int} {bs : List S43} {fn : Int} (h : RightP p bs fn) {i : Nat} {zs : List Int} (hz : Rise zs) (hm : ∀ r, r ∈ zs ↔ OutP bs i r) : zs = outRow bs i :=
  Lv.rise_ext hz (outRow_rise bs i) (fun r => (hm r).trans (mem_outRow h).symm)
noncomputable def outL (bs : List S43) : List (List Int) := (List.range bs.length).map fun i => outRow bs i
set_option maxHeartbeats 4000000 in
set_option maxRecDepth 100000 in
theorem out_ok (p : Int) (A : Option Addr) (c : Nat) (bs : List S43) (w : World) (hC : Kd.C k43 w A bs.length bs) (hR : rightF p bs 256 = true) :
    Calls Try.prog 28 #[.agg #[.int .i64 p, .slice A bs.length c]] w fun e w' => ∃ v, e = .returned v ∧ Kd.R (Kd.slice 3 (Kd.int .i64)) 28 w' w.heap.size (fun _ => True) v (outL bs) ∧ Below w.heap.size w w' := by
  have RP := Aside0.mk (rightF_iff hR)
  have HR := Aside0.mk hR
  have HC := Aside0.mk hC
  have HB0 := Aside0.mk (below_alloc (Below.refl w.heap.size w) (.cells #[.int .i64 p, .slice A bs.length c] 34))
  have HF0 := Aside0.mk (blk_new w (.cells #[.int .i64 p, .slice A bs.length c] 34))
  have hu34 := Try.underlying34
  have hlen := RP.out.len
  clear hC hR
  obtain ⟨fi, hfi⟩ : ∃ fi : Nat → List Int, fi = fun i => outRow bs i := ⟨_, rfl⟩
  have HFI := Aside0.mk hfi
  have hin : outL bs = (List.range bs.length).map fi := by rw [hfi]; rfl
  rw [hin]
  clear hfi hin
  have hsl := succL_length bs
  go_enter Try.func28, Try.ntmps28
  go_wp2_with (first
    | (go_at_call 57; refine (sets_ok p A c bs _ (Kd.C_below HC.out HB0.out) HR.out).mono ?_; rintro e w1 ⟨A1, rfl, hm, hb⟩; have HM1 := Aside0.mk hm; have HB1 := Aside0.mk (below_then HB0.out HB0.out.size hb); have HF1 := Aside0.mk (blk_below HF0.out hb); have c0 := blk_cell HF1.out 0; have c1 := blk_cell HF1.out 1; simp only [List.getElem?_toArray, List.getElem?_cons_zero, List.getElem?_cons_succ] at c0 c1; clear hb hm)
    | (go_at_call 29; refine (succ_any p A c bs _ (Kd.C_below HC.out HB1.out) RP.out.len.2).mono ?_; rintro e w2 ⟨v2, rfl, hr2, hb⟩; obtain ⟨A2, c2', rfl, _, hC2⟩ := Kd.R_reads hr2; have HC2 := Aside0.mk hC2; have HM := Aside0.mk (HM1.out.below hb); have HB2 := Aside0.mk (below_then HB1.out HB1.out.size hb); clear hb hr2 hC2))
  clear c0 c1
  go_loopw [5, 18] (fun v i wr => ∃ j : Nat, j ≤ bs.length ∧ i = .int .i64 (j : Int) ∧ Aside0 (Kd.R (Kd.slice 3 (Kd.int .i64)) 28 wr w2.heap.size (fun _ => True) v ((List.range j).map fi)) ∧ Aside0 (Below w2.heap.size w2 wr)) (fun _ i _ => bs.length - (intOf i).toNat)
  case atStart => exact ⟨0, Nat.zero_le _, rfl, ⟨Kd.R_nil _ _ _ _ _⟩, ⟨Below.refl _ _⟩⟩
  case round =>
    obtain ⟨j, hj, rfl, HO, HB⟩ := hrel
    by_cases hlt : j < bs.length
    · have b1 : decide ((j : Int) < ((succL bs).length : Int)) = true := decide_eq_true (by omega)
      have hlt2 : j < (succL bs).length := by omega
      obtain ⟨ad2, A0, cb, eA2, sE, hcb, hCr⟩ := at_L1 (Kd.C_below HC2.out HB.out) (j : Int) (by omega) (by omega)
      rw [Int.toNat_natCast] at sE
      have HCR := Aside0.mk hCr
      have HSL := Aside0.mk (succL_at hlt)
      have HSC := Aside0.mk (RP.out.succ hlt)
      have HMW := Aside0.mk (HM.out.below HB.out)
      clear hCr hcb
      have HTS : Aside0 ((List.range (j + 1)).map fi = (List.range j).map fi ++ [fi j]) := ⟨by rw [List.range_succ, List.map_append]; rfl⟩
      have HFJ : Aside0 (outRow bs j = fi j) := ⟨by rw [HFI.out]⟩
      have HL : Aside0 (((List.range j).map fi).length ≤ 4096) := ⟨by simp; omega⟩
      generalize (List.range j).map fi = out at HO HTS HL
      subst eA2
      go_wp2_with (first
        | (go_at_call 59; refine (ends_any A1 bs.length bs.length _ A0 cb (rd_L1 (succL bs) (j : Int)) _ (by omega) HMW.out HCR.out (by rw [HSL.out]; exact HSC.out)).mono ?_; rintro e w3 ⟨m, es, rfl, ha, hk, _, hb⟩; have HA3 := Aside0.mk ha; have HK3 := Aside0.mk hk; rw [HSL.out] at HK3; have HE3 : Aside0 (es.length ≤ 4096) := ⟨HK3.out.sz.regs (fun r ⟨j', _, h⟩ => RP.out.at_reg h)⟩; have HB3 := Aside0.mk hb; clear ha hk hb)
        | (go_at_call 58; refine (row_any m es _ _ HA3.out HK3.out (by have := HE3.out; omega)).mono ?_; rintro e w4 ⟨v4, zs, rfl, hr4, hrise, hmem, hb4⟩; have HR4 := Aside0.mk (Kd.R_lower hr4 HB3.out.size); have HZ4 := Aside0.mk (outRow_eq RP.out hrise hmem); have HB4 := Aside0.mk (below_then HB3.out HB3.out.size hb4); obtain ⟨A4, c4, rfl⟩ := Kd.R_slice hr4; clear hr4 hrise hmem hb4)
        | (at_builtin; refine Kd.R_append (Kd.slice 3 (Kd.int .i64)) (w0 := w2) w2.heap.size rfl _ _ 50 28 (.slice none 0 0) 24 rfl Try.underlying50 info28 rfl (by decide) (by decide) _ out zs [.slice A4 zs.length c4] (fun _ => True) (fun k => wr.heap.size ≤ k) rfl rfl ⟨_, rfl, Kd.R_lower (Kd.R_mono (Kd.R_bound HR4.out) (fun k hk => hk.2.1)) HB.out.size⟩ (fun k hk => ⟨trivial, fun e => by have := Kd.R_lt HO.out k e.symm; omega⟩) (fun _ _ => trivial) (Kd.R_below HO.out HB4.out) (below_then HB.out HB.out.size HB4.out) (by have := HB.out.size; have := HB4.out.size; omega) (by have := HL.out; omega) ?_; intro v5 w5 ho5 hb5 hg5 hat5; have HO5 := Aside0.mk ho5; have HB5 := Aside0.mk hb5; clear ho5 hb5 hg5 hat5))
      go_roundw
      case rel => exact ⟨j + 1, by omega, by go_num, ⟨by rw [HTS.out, ← HFJ.out, ← HZ4.out]; exact HO5.out⟩, HB5⟩
      case measure => simp [intOf]; omega
    · have b1 : decide ((j : Int) < ((succL bs).length : Int)) = false := decide_eq_false (by omega)
      have hlt2 : ¬ j < (succL bs).length := by omega
      obtain rfl : j = bs.length := by omega
      go_wp2_with fail
      go_ret
      exact ⟨_, rfl, Kd.R_lower HO.out HB2.out.size, below_then HB2.out HB2.out.size HB.out⟩
end Go.Proofs.Ytnkgbnbbmcoiiaa.S
namespace Go.Proofs.Ytnkgbnbbmcoiiaa.S
open Go.RowKit Go.IM Go.RelRegion Go.Proofs.YtnkgbnbbmcoiiaaW.PrintWords Go.Proofs.YtnkgbnbbmcoiiaaW.PrintLast Go.Proofs.YtnkgbnbbmcoiiaaW.PrintMore
set_option linter.unusedVariables false
set_option linter.unusedSimpArgs false
/-! ### spans.Of -/
theorem rd_inL {bs : List S43} {j : Nat} (h : j < bs.length) : rd_L1 (inL bs) (j : Int) = liveRow bs j 0 := by
  unfold rd_L1 inL
  simp [List.getD_eq_getElem?_getD, h]
theorem inL_length (bs : List S43) : (inL bs).length = bs.length := by simp [inL]
theorem C_of_blk {k : IntKind} {W : World} {g : Nat} {t : TypeId} (xs : List Int) (h : W.heap[g]? = some (.cells (xs.map (Value.int k)).toArray t (0, 0))) (hl : xs.length ≤ 9223372036854775807) : Kd.C (Kd.int k) W (some ⟨g, 0, none⟩) xs.length xs :=
  Kd.C_of_reads (enc := Value.int k) (d := (0 : Int)) (h1 := fun _ => rfl) ⟨rfl, hl, fun _ => ⟨_, rfl, fun j hj => by
    have := blk_cell h j
    have e : (⟨g, 0, none⟩ : Addr).add j = ⟨g, j, none⟩ := add_plain g j
    rw [e, this]
    simp [List.getD_eq_getElem?_getD, hj]⟩⟩
/-- A row of one number, new. -/
theorem C_one (W : World) (x : Int) : Kd.C (Kd.int .i64) (W.alloc (.cells #[.int .i64 x] 3)) (some ⟨W.heap.size, 0, none⟩) 1 [x] := C_of_blk (k := .i64) (t := 3) [x] (blk_new W (.cells #[.int .i64 x] 3)) (by simp)
/-- What region 4's calls give. -/
def R4 (li lo : List (List Int)) (k : Nat) (vs : List Value) (w : World) : Prop :=
  if k = 1 then ∃ A c, vs = [.slice A li.length c] ∧ Kd.C (Kd.slice 3 (Kd.int .i64)) w A li.length li
  else if k = 3 then ∃ A c, vs = [.slice A lo.length c] ∧ Kd.C (Kd.slice 3 (Kd.int .i64)) w A lo.length lo else True
theorem R4.below {li lo : List (List Int)} {k : Nat} {vs : List Value} {w w' : World} (h : R4 li lo k vs w) (hb : Below w.heap.size w w') : R4 li lo k vs w' := by
  unfold R4 at h ⊢
  split at h
  · obtain ⟨A, c, e, hc⟩ := h
    rename_i h1
    rw [if_pos h1]
    exact ⟨A, c, e, Kd.C_below hc hb⟩
  · rename_i h1
    rw [if_neg h1]
    split at h
    · obtain ⟨A, c, e, hc⟩ := h
      rename_i h2
      rw [if_pos h2]
      exact ⟨A, c, e, Kd.C_below hc hb⟩
    · rename_i h2
      rw [if_neg h2]
      trivial
/-- What a drawn region's call that reads tells. -/
def RT (l : List Int) (K : Nat) (k : Nat) (vs : List Value) (w : World) : Prop := k = K → ∃ A c, vs = [.slice A l.length c] ∧ Kd.C (Kd.int .i64) w A l.length l
theorem RT.below {l : List Int} {K k : Nat} {vs : List Value} {w w' : World} (h : RT l K k vs w) (hb : Below w.heap.size w w') : RT l K k vs w' := fun e => by
  obtain ⟨A, c, e1, h1⟩ := h e
  exact ⟨A, c, e1, Kd.C_below h1 hb⟩
theorem wr3 {z k : Nat} (hz : z ≤ 20480) (hk : k ≤ 16384) : wrap64 ((z : Int) + (k : Int)) = (z : Int) + (k : Int) ∧ wrap64 ((z : Int) + (k : Int) + 1) = (z : Int) + (k : Int) + 1 ∧ wrap64 ((k : Int) + 1) = (k : Int) + 1 := by
  refine ⟨?_, ?_, ?_⟩ <;> (unfold wrap64; omega)
theorem WS.key {es : List (Int × Value)} {P : Int → Int → Prop} (h : WS es P) {k : Int} (hk : k ∈ keysOf es) : ∃ a b, lk es k = some (spV k a b) ∧ SpanOf P k a b := by
  cases hl : lk es k with
  | none => exact absurd hk (lk_none.1 hl)
  | some v =>
    obtain ⟨a, b, rfl, hs⟩ := h.yes k v hl
    exact ⟨a, b, rfl, hs⟩
theorem num_cast (k : Nat) : Value.int .i64 ((k : Int) + 1) = Value.int .i64 ((k + 1 : Nat) : Int) := by rw [Int.natCast_succ]
theorem num_meas {n j : Nat} (h : j < n) : n - (intOf (.int .i64 ((j : Int) + 1))).toNat < n - (intOf (.int .i64 (j : Int))).toNat := by
  have e1 : (intOf (.int .i64 ((j : Int) + 1))).toNat = j + 1 := by
    show ((j : Int) + 1).toNat = j + 1
    omega
  have e2 : (intOf (.int .i64 (j : Int))).toNat = j := by simp [intOf]
  rw [e1, e2]
  omega
theorem row_cell {w : World} {A : Option Addr} {n : Nat} {L : List (List Int)} (h : Kd.C (Kd.slice 3 (Kd.int .i64)) w A n L) {j : Nat} (hj : j < n) {l : List Int} (hl : rd_L1 L (j : Int) = l) :
    ∃ ad A0 c0, A = some ad ∧ w.cell? (ad.add j) = some (.slice A0 l.length c0) ∧ l.length ≤ c0 ∧ Kd.C (Kd.int .i64) w A0 l.length l := by
  subst hl
  obtain ⟨ad, A0, c0, e, h1, h2, h3⟩ := at_L1 h (j : Int) (by omega) (by omega)
  rw [Int.toNat_natCast] at h1
  exact ⟨ad, A0, c0, e, h1, h2, h3⟩
end Go.Proofs.Ytnkgbnbbmcoiiaa.S
namespace Go.Proofs.Ytnkgbnbbmcoiiaa.S
open Go.RowKit Go.IM Go.Proofs.YtnkgbnbbmcoiiaaW.PrintWords Go.Proofs.YtnkgbnbbmcoiiaaW.PrintLast Go.Proofs.YtnkgbnbbmcoiiaaW.PrintMore
set_option linter.unusedVariables false
set_option linter.unusedSimpArgs false
/-! ### spans.Calls -/
theorem part_le {p : Int} {bs : List S43} (h : RightP p bs 256) {j k : Nat} (hj : j < bs.length) (hk : k ≤ opLen bs j) : (plcs bs j ++ rowP j k).length ≤ 16384 := by
  obtain ⟨rest, hr⟩ := part_prefix hj hk
  have h1 := congrArg List.length hr
  have h2 := h.few
  rw [List.length_append] at h1
  omega
end Go.Proofs.Ytnkgbnbbmcoiiaa.S
namespace Go.Proofs.Ytnkgbnbbmcoiiaa.S
open Go.RowKit Go.IM Go.Proofs.YtnkgbnbbmcoiiaaW.PrintWords Go.Proofs.YtnkgbnbbmcoiiaaW.PrintLast Go.Proofs.YtnkgbnbbmcoiiaaW.PrintMore
set_option linter.unusedVariables false
set_option linter.unusedSimpArgs false
/-! ### The function of swagelaw25.small -/
def bsS : List S43 := [⟨[⟨1, 1, 0, 0, 4, []⟩, ⟨9, 0, 1, 0, 0, []⟩], ⟨3, 1, 0, 0⟩⟩]
theorem sm_right : rightF 0 bsS 256 = true := by decide +kernel
theorem sm_u1 : useX (opOf bsS (0, 1)) = [1] := by decide +kernel
theorem sm_s1 : setX (opOf bsS (0, 1)) = 0 := by decide +kernel
theorem sm_t : tuseT (rd_T43 bsS ((0 : Nat) : Int)).f1 = [1] := by decide +kernel
theorem sm_succ : succT (rd_T43 bsS ((0 : Nat) : Int)).f1 = [] := by decide +kernel
end Go.Proofs.Ytnkgbnbbmcoiiaa.S
