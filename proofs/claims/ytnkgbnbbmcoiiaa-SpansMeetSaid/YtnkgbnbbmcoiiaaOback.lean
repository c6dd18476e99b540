import Derived.Test.YtnkgbnbbmcoiiaaS0
import Derived.Test.YtnkgbnbbmcoiiaaKe
import Derived.RangeFuncBound
import Derived.RangeFuncCalls
import Derived.Shelf.Abstract
import Derived.Shelf.RegionOpen
import Derived.WalkKit
import Derived.OwnWalkIn
import Derived.TacticsInMore
import Derived.LoopNIn
import Derived.LoopIn
import Derived.Outline
import Derived.Test.YtnkgbnbbmcoiiaaRfb
namespace Go.Proofs.Ytnkgbnbbmcoiiaa.S
open Go.RowKit Go.IM Go.Proofs.YtnkgbnbbmcoiiaaW.PrintWords Go.Proofs.YtnkgbnbbmcoiiaaW.PrintLast Go.Proofs.YtnkgbnbbmcoiiaaW.PrintMore
set_option linter.unusedVariables false
/-! ### Rows of operations and of blocks, with where their inner rows lie -/
/-- Where an operation's Args lie. -/
structure OpAt (w : World) (A : Option Addr) (k : Nat) (x : S45) (g : Option Addr × Nat) : Prop where mk ::
  out : ∃ ad, A = some ad ∧ w.cell? (ad.add (k * 6)) = some (.int .i64 x.f0) ∧ w.cell? ⟨(ad.add (k * 6)).block, (ad.add (k * 6)).off + 1, none⟩ = some (.int .i64 x.f1) ∧ w.cell? ⟨(ad.add (k * 6)).block, (ad.add (k * 6)).off + 2, none⟩ = some (.int .i64 x.f2) ∧
    w.cell? ⟨(ad.add (k * 6)).block, (ad.add (k * 6)).off + 3, none⟩ = some (.int .i64 x.f3) ∧ w.cell? ⟨(ad.add (k * 6)).block, (ad.add (k * 6)).off + 4, none⟩ = some (.int .i64 x.f4) ∧ w.cell? ⟨(ad.add (k * 6)).block, (ad.add (k * 6)).off + 5, none⟩ = some (.slice g.1 x.f5.length g.2)
  cap : x.f5.length ≤ g.2
  row : (Kd.int .i64).C w g.1 x.f5.length x.f5
/-- A row of operations. -/
def OpsAt (w : World) (A : Option Addr) (xs : List S45) (og : Nat → Option Addr × Nat) : Prop := ∀ k, k < xs.length → OpAt w A k (rd_T45 xs (k : Int)) (og k)
/-- A block's place. -/
structure BlkAt (w : World) (A : Option Addr) (i : Nat) (x : S43) (g : Option Addr × Nat) : Prop where mk ::
  out : ∃ ad, A = some ad ∧ w.cell? (ad.add (i * 5)) = some (.slice g.1 x.f0.length g.2) ∧ w.cell? ⟨(ad.add (i * 5)).block, (ad.add (i * 5)).off + 1, none⟩ = some (.int .i64 x.f1.f0) ∧ w.cell? ⟨(ad.add (i * 5)).block, (ad.add (i * 5)).off + 2, none⟩ = some (.int .i64 x.f1.f1) ∧
    w.cell? ⟨(ad.add (i * 5)).block, (ad.add (i * 5)).off + 3, none⟩ = some (.int .i64 x.f1.f2) ∧ w.cell? ⟨(ad.add (i * 5)).block, (ad.add (i * 5)).off + 4, none⟩ = some (.int .i64 x.f1.f3)
  cap : x.f0.length ≤ g.2
  row : k45.C w g.1 x.f0.length x.f0
/-- A row of blocks. -/
def BlksAt (w : World) (A : Option Addr) (bs : List S43) (bg : Nat → Option Addr × Nat) : Prop := ∀ i, i < bs.length → BlkAt w A i (rd_T43 bs (i : Int)) (bg i)
theorem choice_ {α : Type} [Inhabited α] (n : Nat) (p : Nat → α → Prop) (h : ∀ k, k < n → ∃ y, p k y) : ∃ f : Nat → α, ∀ k, k < n → p k (f k) :=
  ⟨fun k => if hk : k < n then Classical.choose (h k hk) else default, fun k hk => by simp only [dif_pos hk]; exact Classical.choose_spec (h k hk)⟩
theorem ops_at {w : World} {A : Option Addr} {xs : List S45} (h : Kd.C k45 w A xs.length xs) : ∃ og, OpsAt w A xs og := by
  refine choice_ (α := Option Addr × Nat) xs.length (fun k y => OpAt w A k (rd_T45 xs (k : Int)) y) (fun k hk => ?_)
  obtain ⟨ad, A5, c5, e, h0, h1, h2, h3, h4, h5, h6, h7⟩ := at_T45 h (k : Int) (by omega) (by omega)
  simp only [Int.toNat_natCast] at h0 h1 h2 h3 h4 h5
  exact ⟨(A5, c5), ⟨ad, e, h0, h1, h2, h3, h4, h5⟩, h6, h7⟩
theorem blks_at {w : World} {A : Option Addr} {bs : List S43} (h : Kd.C k43 w A bs.length bs) : ∃ bg, BlksAt w A bs bg := by
  refine choice_ (α := Option Addr × Nat) bs.length (fun k y => BlkAt w A k (rd_T43 bs (k : Int)) y) (fun k hk => ?_)
  obtain ⟨ad, A5, c5, e, h0, h1, h2, h3, h4, h5, h6⟩ := at_T43 h (k : Int) (by omega) (by omega)
  simp only [Int.toNat_natCast] at h0 h1 h2 h3 h4
  exact ⟨(A5, c5), ⟨ad, e, h0, h1, h2, h3, h4⟩, h5, h6⟩
/-! A row that is read, behind what keeps cells. -/
theorem Cint_kc {w w' : World} {A : Option Addr} {n : Nat} {l : List Int} (h : Kd.C (Kd.int .i64) w A n l) (hk : KC w w') : Kd.C (Kd.int .i64) w' A n l := by
  obtain ⟨h1, h2, h3⟩ := h
  refine ⟨h1, h2, fun hn => ?_⟩
  obtain ⟨ad, e, hc⟩ := h3 hn
  refine ⟨ad, e, fun j p hj => ?_⟩
  obtain ⟨c, hl, hk', hu⟩ := hc j p hj
  exact ⟨c, hl, hk', fun i u hi => hk.cell (hu i u hi)⟩
theorem C45_kc {w w' : World} {A : Option Addr} {n : Nat} {l : List S45} (h : Kd.C k45 w A n l) (hk : KC w w') : Kd.C k45 w' A n l := by
  obtain ⟨h1, h2, h3⟩ := h
  refine ⟨h1, h2, fun hn => ?_⟩
  obtain ⟨ad, e, hc⟩ := h3 hn
  refine ⟨ad, e, fun j p hj => ?_⟩
  obtain ⟨c, hl, hk', hu⟩ := hc j p hj
  obtain ⟨A5, c5, rfl, l5, g5⟩ := k45_open hk'
  exact ⟨_, hl, k45_mk _ _ l5 (Cint_kc g5 hk), fun i u hi => hk.cell (hu i u hi)⟩
theorem OpAt.kc {w w' : World} {A : Option Addr} {k : Nat} {x : S45} {g : Option Addr × Nat} (h : OpAt w A k x g) (hk : KC w w') : OpAt w' A k x g := by
  obtain ⟨⟨ad, e, h0, h1, h2, h3, h4, h5⟩, h6, h7⟩ := h
  exact ⟨⟨ad, e, hk.cell h0, hk.cell h1, hk.cell h2, hk.cell h3, hk.cell h4, hk.cell h5⟩, h6, Cint_kc h7 hk⟩
theorem OpsAt.kc {w w' : World} {A : Option Addr} {xs : List S45} {og : Nat → Option Addr × Nat} (h : OpsAt w A xs og) (hk : KC w w') : OpsAt w' A xs og := fun k hlt => (h k hlt).kc hk
theorem BlkAt.kc {w w' : World} {A : Option Addr} {k : Nat} {x : S43} {g : Option Addr × Nat} (h : BlkAt w A k x g) (hk : KC w w') : BlkAt w' A k x g := by
  obtain ⟨⟨ad, e, h0, h1, h2, h3, h4⟩, h6, h7⟩ := h
  exact ⟨⟨ad, e, hk.cell h0, hk.cell h1, hk.cell h2, hk.cell h3, hk.cell h4⟩, h6, C45_kc h7 hk⟩
theorem BlksAt.kc {w w' : World} {A : Option Addr} {bs : List S43} {bg : Nat → Option Addr × Nat} (h : BlksAt w A bs bg) (hk : KC w w') : BlksAt w' A bs bg := fun k hlt => (h k hlt).kc hk
theorem rd45' {l : List S45} {j : Nat} (h : j < l.length) : rd_T45 l (j : Int) = l[j] := by
  unfold rd_T45
  simp [List.getD_eq_getElem?_getD, h]
theorem rd43' {l : List S43} {j : Nat} (h : j < l.length) : rd_T43 l (j : Int) = l[j] := by
  unfold rd_T43
  simp [List.getD_eq_getElem?_getD, h]
/-- An operation's value. -/
def opV (x : S45) (g : Option Addr × Nat) : Value := .agg #[.int .i64 x.f0, .int .i64 x.f1, .int .i64 x.f2, .int .i64 x.f3, .int .i64 x.f4, .slice g.1 x.f5.length g.2]
/-- A block's value. -/
def blkV (x : S43) (g : Option Addr × Nat) : Value := .agg #[.slice g.1 x.f0.length g.2, .int .i64 x.f1.f0, .int .i64 x.f1.f1, .int .i64 x.f1.f2, .int .i64 x.f1.f3]
end Go.Proofs.Ytnkgbnbbmcoiiaa.S
namespace Go.Proofs.Ytnkgbnbbmcoiiaa.S
open Go.RowKit Go.Shelf Go.IM Go.Proofs.YtnkgbnbbmcoiiaaW.PrintWords Go.Proofs.YtnkgbnbbmcoiiaaW.PrintLast Go.Proofs.YtnkgbnbbmcoiiaaW.PrintMore
set_option linter.unusedVariables false
attribute [local go_sem] Oper.semAt_some
/-- The operation at a place. -/
def opOf (bs : List S43) (p : Nat × Nat) : S45 := rd_T45 (rd_T43 bs (p.1 : Int)).f0 (p.2 : Int)
def opLen (bs : List S43) (i : Nat) : Nat := (rd_T43 bs (i : Int)).f0.length
/-- The places of the first i blocks' operations. -/
def plcs (bs : List S43) (i : Nat) : List (Nat × Nat) := (List.range i).flatMap fun j => (List.range (opLen bs j)).map fun k => (j, k)
def rowP (i k : Nat) : List (Nat × Nat) := (List.range k).map fun j => (i, j)
theorem rowP_zero (i : Nat) : rowP i 0 = [] := rfl
theorem rowP_succ (i k : Nat) : rowP i (k + 1) = rowP i k ++ [(i, k)] := by unfold rowP; rw [List.range_succ, List.map_append]; rfl
theorem plcs_succ (bs : List S43) (i : Nat) : plcs bs (i + 1) = plcs bs i ++ rowP i (opLen bs i) := by
  unfold plcs rowP
  rw [List.range_succ, List.flatMap_append]
  simp
theorem plcs_prefix (bs : List S43) : ∀ m i, ∃ rest, plcs bs (i + m) = plcs bs i ++ rest
  | 0, i => ⟨[], by simp⟩
  | m + 1, i => by
    obtain ⟨rest, h⟩ := plcs_prefix bs m i
    exact ⟨rest ++ rowP (i + m) (opLen bs (i + m)), by rw [← Nat.add_assoc, plcs_succ, h, List.append_assoc]⟩
theorem rowP_prefix (i : Nat) : ∀ m k, ∃ rest, rowP i (k + m) = rowP i k ++ rest
  | 0, k => ⟨[], by simp⟩
  | m + 1, k => by
    obtain ⟨rest, h⟩ := rowP_prefix i m k
    exact ⟨rest ++ [(i, k + m)], by rw [← Nat.add_assoc, rowP_succ, h, List.append_assoc]⟩
theorem part_prefix {bs : List S43} {i k : Nat} (hi : i < bs.length) (hk : k ≤ opLen bs i) : ∃ rest, plcs bs bs.length = plcs bs i ++ rowP i k ++ rest := by
  obtain ⟨m, hm⟩ : ∃ m, bs.length = (i + 1) + m := ⟨bs.length - (i + 1), by omega⟩
  obtain ⟨r1, h1⟩ := plcs_prefix bs m (i + 1)
  obtain ⟨j, hj⟩ : ∃ j, opLen bs i = k + j := ⟨opLen bs i - k, by omega⟩
  obtain ⟨r2, h2⟩ := rowP_prefix i j k
  exact ⟨r2 ++ r1, by rw [hm, h1, plcs_succ, hj, h2]; simp⟩
theorem part_len {bs : List S43} {i k : Nat} (hi : i < bs.length) (hk : k < opLen bs i) : (plcs bs i ++ rowP i k).length < (plcs bs bs.length).length := by
  obtain ⟨rest, h⟩ := part_prefix hi (Nat.succ_le_of_lt hk)
  rw [h, rowP_succ]
  simp
theorem mem_plcs {bs : List S43} {i j k : Nat} : (j, k) ∈ plcs bs i ↔ j < i ∧ k < opLen bs j := by
  unfold plcs
  simp [List.mem_flatMap, List.mem_range, List.mem_map, Prod.mk.injEq]
/-- What an iterator over a function's operations reads. -/
structure OpsF (wr : World) (Bs : Nat) (A : Option Addr) (c : Nat) (bs : List S43) (bg : Nat → Option Addr × Nat) (oo : Nat → Nat → Option Addr × Nat) : Prop where mk ::
  box : wr.cell? ⟨Bs, 1, none⟩ = some (.slice A bs.length c)
  blks : BlksAt wr A bs bg
  ops : ∀ i, i < bs.length → OpsAt wr (bg i).1 (rd_T43 bs (i : Int)).f0 (oo i)
/-- What goes out. -/
def opsV (bs : List S43) (oo : Nat → Nat → Option Addr × Nat) (p : Nat × Nat) : Array Value := #[opV (opOf bs p) (oo p.1 p.2)]
set_option maxRecDepth 100000 in
set_option maxHeartbeats 4000000 in
theorem ops1_in (n : Nat) (hn : 1 ≤ n) (l Bs : Nat) (A : Option Addr) (c : Nat) (bs : List S43) (bg : Nat → Option Addr × Nat) (oo : Nat → Nat → Option Addr × Nat) (hlen : bs.length ≤ 1000000000000)
    (Kp : World → World → Prop) (hKt : ∀ {A B C : World}, Kp A B → Kp B C → Kp A C) (hKb : ∀ {A B : World}, Below A.heap.size A B → Kp A B)
    (J Jx : List (Nat × Nat) → World → Prop) (hJ : ∀ s A B, J s A → Below A.heap.size A B → J s B)
    (hY : ∀ pre x W, J pre W → pre.length < (plcs bs bs.length).length → YieldAt Fence.wide (n - 1) Try.prog l (opsV bs oo x) W fun e W' =>
      (e = .returned (.bool true) ∧ J (pre ++ [x]) W' ∧ Kp W W') ∨ (e = .returned (.bool false) ∧ Jx (pre ++ [x]) W'))
    (W : World) (hF : ∀ wr, Kp W wr → OpsF wr Bs A c bs bg oo) (h0 : J [] W) :
    CallsIn Fence.wide n Try.prog 77 #[.func (.yield l) #[] #[], .pointer (some ⟨Bs, 0, none⟩)] W fun e W' => (∃ v, e = .returned v) ∧
      ((∃ ys, ys = plcs bs bs.length ∧ J ys W') ∨ (∃ pre, (∃ rest, plcs bs bs.length = pre ++ rest) ∧ Jx pre W')) := by
  have hu43 := Try.underlying43
  have hu45 := Try.underlying45
  have hu41 := Try.underlying41
  have hu34 := Try.underlying34
  have hbox := (hF W (hKb (Below.refl _ _))).box
  have HF := Aside0.mk hF
  have HY := Aside0.mk hY
  have HJ := Aside0.mk hJ
  have HKT := Aside0.mk @hKt
  have HKB := Aside0.mk @hKb
  clear hF hY hJ hKt hKb
  refine callsIn_of_wp Try.func77 rfl trivial ?_ rfl
  simp only [Try.ntmps77, List.size_toArray, List.length_cons, List.length_nil, Nat.reduceAdd, Nat.reduceSub, Array.replicate_succ, Array.replicate_zero, List.push_toArray, List.append_toArray, List.nil_append, List.cons_append]
  gi_wp2
  clear hbox
  gi_loopw [10] (fun i wr => ∃ k : Nat, k ≤ bs.length ∧ i = .int .i64 (k : Int) ∧ Aside0 (J (plcs bs k) wr) ∧ Aside0 (Kp W wr))
    (fun i _ => bs.length - (intOf i).toNat)
  case atStart => exact ⟨0, Nat.zero_le _, rfl, ⟨h0⟩, ⟨HKB.out (Below.refl _ _)⟩⟩
  case round =>
    obtain ⟨k, hk, rfl, HJs, HK⟩ := hrel
    by_cases hlt : k < bs.length
    · have b1 : decide ((k : Int) < (bs.length : Int)) = true := decide_eq_true (by omega)
      have HFr := Aside0.mk (HF.out wr HK.out)
      obtain ⟨⟨ad, eA, k0, k1, k2, k3, k4⟩, _, hrow⟩ := HFr.out.blks k hlt
      have hLm : opLen bs k ≤ 9223372036854775807 := hrow.2.1
      clear hrow
      have hLe : (rd_T43 bs (k : Int)).f0.length = opLen bs k := rfl
      rw [hLe] at k0
      obtain ⟨L, hL⟩ : ∃ L, opLen bs k = L := ⟨_, rfl⟩
      obtain ⟨GA, GC, hG⟩ : ∃ GA GC, bg k = (GA, GC) := ⟨_, _, rfl⟩
      have HPL : Aside0 (opLen bs k = L) := ⟨hL⟩
      have HPG : Aside0 (bg k = (GA, GC)) := ⟨hG⟩
      rw [hL, hG] at k0
      rw [hL] at hLm
      simp only at k0
      generalize (rd_T43 bs (k : Int)).f1 = tm at k1 k2 k3 k4
      clear hLe hL hG
      subst eA
      gi_wp2_with fail
      have HB1 := Aside0.mk (below_alloc (Below.refl wr.heap.size wr) (.cells #[.slice GA L GC, .int .i64 tm.f0, .int .i64 tm.f1, .int .i64 tm.f2, .int .i64 tm.f3] 43))
      gi_loopw [17] (fun i wr => ∃ j : Nat, j ≤ L ∧ i = .int .i64 (j : Int) ∧ Aside0 (J (plcs bs k ++ rowP k j) wr) ∧ Aside0 (Kp W wr))
        (fun i _ => L - (intOf i).toNat)
      case atStart => exact ⟨0, Nat.zero_le _, rfl, ⟨by rw [rowP_zero, List.append_nil]; exact HJ.out _ _ _ HJs.out HB1.out⟩, ⟨HKT.out HK.out (HKB.out HB1.out)⟩⟩
      case round =>
        obtain ⟨j, hj, rfl, HJq, HKq⟩ := hrel
        by_cases hlq : j < L
        · have b1 : decide ((j : Int) < (L : Int)) = true := decide_eq_true (by omega)
          have hop := (HF.out wr HKq.out).ops k hlt j (by show j < opLen bs k; rw [HPL.out]; exact hlq)
          rw [HPG.out] at hop
          simp only at hop
          have HPX : Aside0 (rd_T45 (rd_T43 bs (k : Int)).f0 (j : Int) = opOf bs (k, j)) := ⟨rfl⟩
          rw [HPX.out] at hop
          obtain ⟨⟨ad, eA, x0, x1, x2, x3, x4, x5⟩, _, _⟩ := hop
          have hyy := HY.out (plcs bs k ++ rowP k j) (k, j)
          unfold opsV opV at hyy
          have HPS : Aside0 (plcs bs k ++ rowP k (j + 1) = (plcs bs k ++ rowP k j) ++ [(k, j)]) := ⟨by rw [rowP_succ, List.append_assoc]⟩
          have hpl : (plcs bs k ++ rowP k j).length < (plcs bs bs.length).length := part_len hlt (by rw [HPL.out]; exact hlq)
          have hrest : ∃ rest, plcs bs bs.length = (plcs bs k ++ rowP k j) ++ [(k, j)] ++ rest := by
            obtain ⟨rest, hr⟩ := part_prefix (bs := bs) (k := j + 1) hlt (by rw [HPL.out]; exact hlq)
            exact ⟨rest, by rw [hr, HPS.out]⟩
          have HRE := Aside0.mk hrest
          clear hrest HPX
          simp only [] at hyy
          generalize opOf bs (k, j) = x at x0 x1 x2 x3 x4 x5 hyy
          generalize oo k j = g at x5 hyy
          obtain ⟨W1, hW1⟩ : ∃ W1, wr.alloc (.cells #[.int .i64 x.f0, .int .i64 x.f1, .int .i64 x.f2, .int .i64 x.f3, .int .i64 x.f4, .slice g.1 x.f5.length g.2] 45) = W1 := ⟨_, rfl⟩
          have hb1 : Below wr.heap.size wr W1 := by rw [← hW1]; exact below_alloc (Below.refl _ _) _
          have hbx := blk_new wr (.cells #[.int .i64 x.f0, .int .i64 x.f1, .int .i64 x.f2, .int .i64 x.f3, .int .i64 x.f4, .slice g.1 x.f5.length g.2] 45)
          rw [hW1] at hbx
          obtain ⟨fn, tmps, assign, body, hy, hR⟩ := hyy W1 (HJ.out _ _ _ HJq.out hb1) hpl
          rw [← hW1] at hy hR hbx hb1
          have HR := Aside0.mk hR
          have HB2 := Aside0.mk hb1
          clear hW1 hR hb1 hyy hpl hbx
          subst eA
          gi_wp2
          refine HR.out.mono ?_
          rintro e W3 (⟨rfl, hJ3, hk3⟩ | ⟨rfl, hJx3⟩)
          · have HK3 := Aside0.mk (HKT.out HKq.out (HKT.out (HKB.out HB2.out) hk3))
            have HJ3 := Aside0.mk hJ3
            clear hy hk3 hJ3 x0 x1 x2 x3 x4 x5
            gi_wp2
            go_roundw
            case rel => exact ⟨j + 1, by omega, by go_num, ⟨by rw [HPS.out]; exact HJ3.out⟩, HK3⟩
            case measure => (simp [intOf]; try omega)
          · gi_wp2
            refine bodyPost_ret (results_none rfl _ _ _) rfl ?_
            exact ⟨⟨_, rfl⟩, .inr ⟨_, HRE.out, hJx3⟩⟩
        · have b1 : decide ((j : Int) < (L : Int)) = false := decide_eq_false (by omega)
          have hj' : j = L := by omega
          gi_wp2
          go_roundw
          case rel => exact ⟨k + 1, by omega, by go_num, ⟨by rw [plcs_succ, HPL.out, ← hj']; exact HJq.out⟩, HKq⟩
          case measure => (simp [intOf]; try omega)
    · have b1 : decide ((k : Int) < (bs.length : Int)) = false := decide_eq_false (by omega)
      have hk' : k = bs.length := by omega
      gi_wp2
      go_end0
      exact ⟨⟨_, rfl⟩, .inl ⟨_, by rw [hk'], HJs.out⟩⟩
set_option maxHeartbeats 2000000 in
/-- ops: one box; the function value captures it. -/
theorem ops_in (n : Nat) (p : Int) (A : Option Addr) (len cap : Nat) (w : World) :
    CallsIn Fence.wide n Try.prog 49 #[.agg #[.int .i64 p, .slice A len cap]] w fun e w' => e = .returned (.func (.func 77) #[] #[.pointer (some ⟨w.heap.size, 0, none⟩)]) ∧ w' = w.alloc (.cells #[.int .i64 p, .slice A len cap] 34) := by
  have hu34 := Try.underlying34
  refine callsIn_of_wp Try.func49 rfl trivial ?_ rfl
  simp only [Try.ntmps49, List.size_toArray, List.length_cons, List.length_nil, Nat.reduceAdd, Nat.reduceSub, Array.replicate_succ, Array.replicate_zero, List.push_toArray, List.append_toArray, List.nil_append, List.cons_append]
  gi_wp2
  go_ret
  exact ⟨rfl, rfl⟩
/-- ops(f) hands back a value that stops as it should, whatever a round does, if it keeps what is read. -/
theorem ops_stops (n : Nat) (hn : 1 ≤ n) (Bs : Nat) (A : Option Addr) (c : Nat) (bs : List S43) (bg : Nat → Option Addr × Nat) (oo : Nat → Nat → Option Addr × Nat) (hlen : bs.length ≤ 1000000000000) (Kp : World → World → Prop) (hKt : ∀ {A B C : World}, Kp A B → Kp B C → Kp A C) (hKb : ∀ {A B : World}, Below A.heap.size A B → Kp A B) (w : World)
    (hF : ∀ W wr, Below w.heap.size w W → Kp W wr → OpsF wr Bs A c bs bg oo) :
    SeqStopsK Fence.wide n Try.prog 77 #[.pointer (some ⟨Bs, 0, none⟩)] (opsV bs oo) Kp (fun ys => ys = plcs bs bs.length) (fun pre => ∃ rest, plcs bs bs.length = pre ++ rest) (plcs bs bs.length).length w := fun l J Jx W hW hJ _ hY h0 =>
  ops1_in n hn l Bs A c bs bg oo hlen Kp hKt hKb J Jx (fun s A B hj hk => hJ s A B none hj ⟨hk.os, hk.tape, hk.output, hk.size, fun j hj _ => hk.block j hj⟩ (by simp)) hY W (fun wr hk => hF W wr hW hk) h0
end Go.Proofs.Ytnkgbnbbmcoiiaa.S
namespace Go.Proofs.Ytnkgbnbbmcoiiaa.S
open Go.RowKit Go.IM Go.Proofs.YtnkgbnbbmcoiiaaW.PrintWords Go.Proofs.YtnkgbnbbmcoiiaaW.PrintLast Go.Proofs.YtnkgbnbbmcoiiaaW.PrintMore
set_option linter.unusedVariables false
set_option linter.unusedSimpArgs false
/-- The blocks behind a Term. -/
def succT (t : S41) : List Int := if t.f0 = 2 then [t.f2, t.f3] else if t.f0 = 1 then [t.f2] else []
def succL (bs : List S43) : List (List Int) := bs.map fun x => succT x.f1
theorem info28 : (Try.prog.info? 28).map (fun i => (i.zero, i.size, i.bytes)) = some (some (.slice none 0 0), 1, 24) := by kernel_rfl
theorem info28s : (Try.prog.info? 28).map (fun i => i.size) = some 1 := by kernel_rfl
/-- A row that is filled. -/
def filled (f : Nat → List Int) (n j : Nat) : List (List Int) := (List.range j).map f ++ List.replicate (n - j) []
theorem filled_zero (f : Nat → List Int) (n : Nat) : filled f n 0 = List.replicate n [] := by simp [filled]
theorem filled_full (f : Nat → List Int) (n : Nat) : filled f n n = (List.range n).map f := by simp [filled]
theorem filled_length (f : Nat → List Int) {n j : Nat} (h : j ≤ n) : (filled f n j).length = n := by simp [filled]; omega
theorem filled_set (f : Nat → List Int) {n j : Nat} (h : j < n) : (filled f n j).set j (f j) = filled f n (j + 1) := by
  unfold filled
  obtain ⟨m, hm⟩ : ∃ m, n - j = m + 1 := ⟨n - j - 1, by omega⟩
  have hm' : n - (j + 1) = m := by omega
  rw [hm, hm', List.range_succ, List.map_append, List.set_append_right _ _ (by simp)]
  simp [List.replicate_succ]
theorem filled_next (f : Nat → List Int) {n j : Nat} (h : j < n) (e : f j = []) : filled f n (j + 1) = filled f n j := by
  rw [← filled_set f h, e]
  unfold filled
  obtain ⟨m, hm⟩ : ∃ m, n - j = m + 1 := ⟨n - j - 1, by omega⟩
  rw [hm, List.set_append_right _ _ (by simp)]
  simp [List.replicate_succ]
theorem succL_filled (bs : List S43) : filled (fun j : Nat => succT (rd_T43 bs (j : Int)).f1) bs.length bs.length = succL bs := by
  rw [filled_full]
  unfold succL
  apply List.ext_getElem (by simp)
  intro i h1 h2
  simp at h1 h2
  simp [rd43' h1]
set_option maxHeartbeats 8000000 in
set_option maxRecDepth 100000 in
theorem succ_any (p : Int) (A : Option Addr) (c : Nat) (bs : List S43) (w : World) (hC : Kd.C k43 w A bs.length bs) (hlen : bs.length ≤ 4096) :
    Calls Try.prog 29 #[.agg #[.int .i64 p, .slice A bs.length c]] w fun e w' => ∃ v, e = .returned v ∧ Kd.R (Kd.slice 3 (Kd.int .i64)) 28 w' w.heap.size (fun _ => True) v (succL bs) ∧ Below w.heap.size w w' := by
  have hu34 := Try.underlying34
  have hu41 := Try.underlying41
  have hu43 := Try.underlying43
  have HC := Aside0.mk hC
  have HLN := Aside0.mk hlen
  have hsf := succL_filled bs
  obtain ⟨f, hf⟩ : ∃ f : Nat → List Int, f = fun j : Nat => succT (rd_T43 bs (j : Int)).f1 := ⟨_, rfl⟩
  rw [← hf] at hsf
  have HSF := Aside0.mk hsf
  have HFF := Aside0.mk hf
  clear hC hsf hf hlen
  have HB0 := Aside0.mk (below_alloc (Below.refl w.heap.size w) (.cells #[.int .i64 p, .slice A bs.length c] 34))
  go_enter Try.func29, Try.ntmps29
  go_wp2_with ((with_reducible refine gate_dst (N := 9) rfl ?_); refine Kd.R_make (Kd.slice 3 (Kd.int .i64)) w.heap.size 28 rfl (N := 9) rfl 50 _ _ rfl (bs.length : Int) rfl rfl Try.underlying50 (.slice none 0 0) 24 info28 rfl (by decide) (by decide) ([] : List Int) (ok := fun _ => True) (okp := fun _ => True) ⟨_, rfl, Kd.R_nil _ _ _ _ _⟩ (fun _ hk => hk) trivial (by omega) (by have := HLN.out; omega) HB0.out HB0.out.size ?_; intro v1 w1 hr1 hb1 hg1 hn1; have HR1 := Aside0.mk hr1; have HB1 := Aside0.mk hb1; have hf1 := blk_grown (blk_new w (.cells #[.int .i64 p, .slice A bs.length c] 34)) hg1 (by simp); have c1 := blk_cell hf1 1; simp only [List.getElem?_toArray, List.getElem?_cons_zero, List.getElem?_cons_succ] at c1; clear hr1 hb1 hg1 hn1 hf1)
  clear c1
  simp only [Int.toNat_natCast] at HR1
  have hn0 : 0 < bs.length ∨ bs.length = 0 := by omega
  go_loopw [13] (fun i wr => ∃ j : Nat, j ≤ bs.length ∧ i = .int .i64 (j : Int) ∧ Aside0 (Kd.R (Kd.slice 3 (Kd.int .i64)) 28 wr w.heap.size (fun _ => True) v1 (filled f bs.length j)) ∧ Aside0 (Below w.heap.size w wr)) (fun i _ => bs.length - (intOf i).toNat)
  case atStart => exact ⟨0, Nat.zero_le _, rfl, ⟨by rw [filled_zero]; exact HR1.out⟩, HB1⟩
  case round =>
    obtain ⟨j, hj, rfl, HO, HB⟩ := hrel
    have hz := HLN.out
    by_cases hlt : j < bs.length
    · have b1 : decide ((j : Int) < (bs.length : Int)) = true := decide_eq_true (by omega)
      obtain ⟨ad, A0, c0, eA, k0, k1, k2, k3, k4, _, _⟩ := at_T43 (Kd.C_below HC.out HB.out) (j : Int) (by omega) (by omega)
      simp only [Int.toNat_natCast] at k0 k1 k2 k3 k4
      have HFJ : Aside0 (f j = succT (rd_T43 bs (j : Int)).f1) := ⟨by rw [HFF.out]⟩
      generalize rd_T43 bs (j : Int) = x at k0 k1 k2 k3 k4 HFJ
      generalize x.f0.length = L at k0
      generalize x.f1 = t at k1 k2 k3 k4 HFJ
      subst eA
      obtain ⟨g, cap, hv, hg0, hglt, _⟩ := Kd.R_form HO.out (by rw [filled_length f hj]; omega)
      rw [filled_length f hj] at hv
      subst hv
      obtain ⟨t0, t1, t2, t3⟩ := t
      unfold succT at HFJ
      simp only at k1 k2 k3 k4 HFJ
      by_cases h2 : t0 = 2
      · rw [if_pos h2] at HFJ
        have q2 : (t0 == 2) = true := beq_iff_eq.2 h2
        clear h2
        have HBX := Aside0.mk (below_alloc HB.out (.cells #[.slice A0 L c0, .int .i64 t0, .int .i64 t1, .int .i64 t2, .int .i64 t3] 43))
        go_wp2_with (first | ((with_reducible refine gate_dst (N := 31) rfl ?_); refine Kd.R_lit (Kd.int .i64) _ 3 rfl (N := 31) rfl (xs := ([t2, t3] : List Int)) (inner := [.int .i64 t2, .int .i64 t3]) (ok := fun _ => True) (okp := fun _ => True) ?hr ?hp (fun _ hk => hk) trivial (Below.refl _ _) (Nat.le_refl _) (by simp) ?_; (case hr => first | (go_simp; done) | (go_simp; rfl)); (case hp => exact (Reps.one (show Kd.M (Kd.int .i64) _ _ _ t2 [.int .i64 t2] from rfl) (Reps.one (show Kd.M (Kd.int .i64) _ _ _ t3 [.int .i64 t3] from rfl) (Reps.none _ _)))); intro v2 w2 hr2 hb2 hg2 hn2; have HL2 := Aside0.mk (Kd.R_mono (Kd.R_bound hr2) (ok' := fun k => k ≠ g) (fun k hk e => by have := hk.2.1; simp only [World.size_alloc] at this; omega)); have HR2 := Aside0.mk (Kd.R_grown (Kd.R_alloc HO.out _) hg2 (fun _ _ => by simp)); have HB2 := Aside0.mk (below_then HBX.out HBX.out.size hb2); have HS2 := Aside0.mk (below_size HBX.out); clear hr2 hb2 hg2 hn2) | (obtain ⟨ce, hcl, _, hcc, _⟩ := Kd.R_elem HR2.out ([] : List Int) (j : Int) (by omega) (by omega); refine Kd.R_store (Kd.slice 3 (Kd.int .i64)) w.heap.size rfl rfl 28 _ _ rfl 28 (g := g) (n := bs.length) (cap := cap) (j : Int) 0 (filled f bs.length j) ([t2, t3]) v2 [v2] ce (fun _ => True) (fun k => k ≠ g) rfl (by simp [Kd.slice]) rfl (by obtain ⟨Av, cv, rfl⟩ := Kd.R_slice HL2.out; rfl) info28s (by obtain ⟨Av, cv, rfl⟩ := Kd.R_slice HL2.out; intro q hq; rw [List.mem_singleton.1 hq]; rfl) HR2.out (by omega) (by omega) hcl hcc (by simp [Kd.slice]) ?hM (fun k hk => ⟨trivial, hk⟩) HB2.out ?_; (case hM => (rw [show ce.take 0 ++ [v2] ++ ce.drop (0 + [v2].length) = [v2] by rw [List.drop_eq_nil_of_le (by rw [hcl]; simp [Kd.slice])]; simp]; exact ⟨v2, rfl, Kd.R_lower HL2.out (by have := HS2.out; simp only [World.size_alloc] at this ⊢; omega)⟩)); intro w3 hr3 hb3 hg3; have HR3 := Aside0.mk hr3; have HB3 := Aside0.mk hb3; clear hr3 hb3 hg3 hcl hcc))
        go_roundw
        case rel => exact ⟨j + 1, by omega, by go_num, ⟨by rw [← filled_set f hlt, HFJ.out]; have h := HR3.out; rwa [Int.toNat_natCast] at h⟩, HB3⟩
        case measure => simp [intOf]; omega
      · rw [if_neg h2] at HFJ
        have q2 : (t0 == 2) = false := beq_eq_false_iff_ne.2 h2
        clear h2
        by_cases h1 : t0 = 1
        · rw [if_pos h1] at HFJ
          have q1 : (t0 == 1) = true := beq_iff_eq.2 h1
          clear h1
          have HBX := Aside0.mk (below_alloc HB.out (.cells #[.slice A0 L c0, .int .i64 t0, .int .i64 t1, .int .i64 t2, .int .i64 t3] 43))
          go_wp2_with (first | ((with_reducible refine gate_dst (N := 40) rfl ?_); refine Kd.R_lit (Kd.int .i64) _ 3 rfl (N := 40) rfl (xs := ([t2] : List Int)) (inner := [.int .i64 t2]) (ok := fun _ => True) (okp := fun _ => True) ?hr ?hp (fun _ hk => hk) trivial (Below.refl _ _) (Nat.le_refl _) (by simp) ?_; (case hr => first | (go_simp; done) | (go_simp; rfl)); (case hp => exact (Reps.one (show Kd.M (Kd.int .i64) _ _ _ t2 [.int .i64 t2] from rfl) (Reps.none _ _))); intro v2 w2 hr2 hb2 hg2 hn2; have HL2 := Aside0.mk (Kd.R_mono (Kd.R_bound hr2) (ok' := fun k => k ≠ g) (fun k hk e => by have := hk.2.1; simp only [World.size_alloc] at this; omega)); have HR2 := Aside0.mk (Kd.R_grown (Kd.R_alloc HO.out _) hg2 (fun _ _ => by simp)); have HB2 := Aside0.mk (below_then HBX.out HBX.out.size hb2); have HS2 := Aside0.mk (below_size HBX.out); clear hr2 hb2 hg2 hn2) | (obtain ⟨ce, hcl, _, hcc, _⟩ := Kd.R_elem HR2.out ([] : List Int) (j : Int) (by omega) (by omega); refine Kd.R_store (Kd.slice 3 (Kd.int .i64)) w.heap.size rfl rfl 28 _ _ rfl 28 (g := g) (n := bs.length) (cap := cap) (j : Int) 0 (filled f bs.length j) ([t2]) v2 [v2] ce (fun _ => True) (fun k => k ≠ g) rfl (by simp [Kd.slice]) rfl (by obtain ⟨Av, cv, rfl⟩ := Kd.R_slice HL2.out; rfl) info28s (by obtain ⟨Av, cv, rfl⟩ := Kd.R_slice HL2.out; intro q hq; rw [List.mem_singleton.1 hq]; rfl) HR2.out (by omega) (by omega) hcl hcc (by simp [Kd.slice]) ?hM (fun k hk => ⟨trivial, hk⟩) HB2.out ?_; (case hM => (rw [show ce.take 0 ++ [v2] ++ ce.drop (0 + [v2].length) = [v2] by rw [List.drop_eq_nil_of_le (by rw [hcl]; simp [Kd.slice])]; simp]; exact ⟨v2, rfl, Kd.R_lower HL2.out (by have := HS2.out; simp only [World.size_alloc] at this ⊢; omega)⟩)); intro w3 hr3 hb3 hg3; have HR3 := Aside0.mk hr3; have HB3 := Aside0.mk hb3; clear hr3 hb3 hg3 hcl hcc))
          go_roundw
          case rel => exact ⟨j + 1, by omega, by go_num, ⟨by rw [← filled_set f hlt, HFJ.out]; have h := HR3.out; rwa [Int.toNat_natCast] at h⟩, HB3⟩
          case measure => simp [intOf]; omega
        · rw [if_neg h1] at HFJ
          have q1 : (t0 == 1) = false := beq_eq_false_iff_ne.2 h1
          clear h1
          have HBX := Aside0.mk (below_alloc HB.out (.cells #[.slice A0 L c0, .int .i64 t0, .int .i64 t1, .int .i64 t2, .int .i64 t3] 43))
          go_wp2_with fail
          go_roundw
          case rel => exact ⟨j + 1, by omega, by go_num, ⟨by rw [filled_next f hlt HFJ.out]; exact Kd.R_alloc HO.out _⟩, HBX⟩
          case measure => simp [intOf]; omega
    · have b1 : decide ((j : Int) < (bs.length : Int)) = false := decide_eq_false (by omega)
      obtain rfl : j = bs.length := by omega
      go_wp2_with fail
      go_ret
      exact ⟨v1, rfl, by rw [← HSF.out]; exact HO.out, HB.out⟩
end Go.Proofs.Ytnkgbnbbmcoiiaa.S
namespace Go.Proofs.Ytnkgbnbbmcoiiaa.S
open Go.RowKit Go.Shelf Go.IM Go.Proofs.YtnkgbnbbmcoiiaaW.PrintWords Go.Proofs.YtnkgbnbbmcoiiaaW.PrintLast Go.Proofs.YtnkgbnbbmcoiiaaW.PrintMore
set_option linter.unusedVariables false
attribute [local go_sem] Oper.semAt_some
/-- The first k of n - 1, n - 2, .. -/
def downs (n k : Nat) : List Nat := (List.range k).map fun j => n - 1 - j
theorem downs_length (n k : Nat) : (downs n k).length = k := by simp [downs]
theorem downs_succ (n k : Nat) : downs n (k + 1) = downs n k ++ [n - 1 - k] := by unfold downs; rw [List.range_succ, List.map_append]; rfl
/-- What bb's iterator reads. -/
structure bbF (wr : World) (Bs : Nat) (A : Option Addr) (c : Nat) (xs : List S43) (bg : Nat → Option Addr × Nat) : Prop where mk ::
  box : wr.cell? ⟨Bs, 0, none⟩ = some (.slice A xs.length c)
  rows : BlksAt wr A xs bg
def bbV (xs : List S43) (bg : Nat → Option Addr × Nat) (i : Nat) : Array Value := #[.int .i64 (i : Int), blkV (rd_T43 xs (i : Int)) (bg i)]
set_option maxRecDepth 100000 in
set_option maxHeartbeats 4000000 in
theorem bb1_in (n : Nat) (hn : 1 ≤ n) (l Bs : Nat) (A : Option Addr) (c : Nat) (xs : List S43) (bg : Nat → Option Addr × Nat) (hlen : xs.length ≤ 1000000000000)
    (Kp : World → World → Prop) (hKt : ∀ {A B C : World}, Kp A B → Kp B C → Kp A C) (hKb : ∀ {A B : World}, Below A.heap.size A B → Kp A B)
    (J Jx : List Nat → World → Prop) (hJ : ∀ s A B, J s A → Below A.heap.size A B → J s B)
    (hY : ∀ pre x W, J pre W → (∃ k, k < xs.length ∧ pre = downs xs.length k ∧ x = xs.length - 1 - k) → YieldAt Fence.wide (n - 1) Try.prog l (bbV xs bg x) W fun e W' =>
      (e = .returned (.bool true) ∧ J (pre ++ [x]) W' ∧ Kp W W') ∨ (e = .returned (.bool false) ∧ Jx (pre ++ [x]) W'))
    (W : World) (hF : ∀ wr, Kp W wr → bbF wr Bs A c xs bg) (h0 : J [] W) :
    CallsIn Fence.wide n Try.prog 109 #[.func (.yield l) #[] #[], .pointer (some ⟨Bs, 0, none⟩)] W fun e W' => (∃ v, e = .returned v) ∧
      ((∃ ys, ys = downs xs.length xs.length ∧ J ys W') ∨ (∃ pre, (∃ k, k < xs.length ∧ pre = downs xs.length (k + 1)) ∧ Jx pre W')) := by
  have hu43 := Try.underlying43
  have hu45 := Try.underlying45
  have hu41 := Try.underlying41
  have hbox := (hF W (hKb (Below.refl _ _))).box
  have HF := Aside0.mk hF
  have HY := Aside0.mk hY
  have HJ := Aside0.mk hJ
  have HKT := Aside0.mk @hKt
  have HKB := Aside0.mk @hKb
  clear hF hY hJ hKt hKb
  refine callsIn_of_wp Try.func109 rfl trivial ?_ rfl
  simp only [Try.ntmps109, List.size_toArray, List.length_cons, List.length_nil, Nat.reduceAdd, Nat.reduceSub, Array.replicate_succ, Array.replicate_zero, List.push_toArray, List.append_toArray, List.nil_append, List.cons_append]
  gi_wp2
  clear hbox
  gi_loopw [3] (fun i wr => ∃ k : Nat, k ≤ xs.length ∧ i = .int .i64 ((xs.length : Int) - 1 - (k : Int)) ∧ Aside0 (J (downs xs.length k) wr) ∧ Aside0 (Kp W wr))
    (fun i _ => (intOf i + 1).toNat)
  case atStart => exact ⟨0, Nat.zero_le _, by first | go_num | (simp; done), ⟨h0⟩, ⟨HKB.out (Below.refl _ _)⟩⟩
  case round =>
    obtain ⟨k, hk, rfl, HJs, HK⟩ := hrel
    by_cases hlt : k < xs.length
    · obtain ⟨j, hj⟩ : ∃ j : Nat, xs.length = k + j + 1 := ⟨xs.length - (k + 1), by omega⟩
      have hz : ((xs.length : Int) - 1 - (k : Int)) = (j : Int) := by omega
      rw [hz]
      have b1 : decide ((0 : Int) ≤ (j : Int)) = true := decide_eq_true (by omega)
      have hjl : j < xs.length := by omega
      have hzz : (j : Int) < (xs.length : Int) := by omega
      have HFr := Aside0.mk (HF.out wr HK.out)
      have hbox := HFr.out.box
      have hop := HFr.out.rows j hjl
      obtain ⟨⟨ad, eA, k0, k1, k2, k3, k4⟩, _, _⟩ := hop
      obtain ⟨fn, tmps, assign, body, hy, hR⟩ := HY.out (downs xs.length k) j wr HJs.out ⟨k, hlt, rfl, by omega⟩
      have HDN : Aside0 (downs xs.length (k + 1) = downs xs.length k ++ [j]) := ⟨by rw [downs_succ, show xs.length - 1 - k = j by omega]⟩
      have HKL : Aside0 (k < xs.length) := ⟨hlt⟩
      have HZJ : Aside0 ((xs.length : Int) - 1 - ((k + 1 : Nat) : Int) = (j : Int) - 1) := ⟨by omega⟩
      unfold bbV blkV at hy
      generalize rd_T43 xs (j : Int) = x at k0 k1 k2 k3 k4 hy
      generalize bg j = g at k0 k1 k2 k3 k4 hy
      have HR := Aside0.mk hR
      clear hR hj hz hlt hk
      subst eA
      gi_wp2
      refine HR.out.mono ?_
      rintro e W3 (⟨rfl, hJ3, hk3⟩ | ⟨rfl, hJx3⟩)
      · have HK3 := Aside0.mk (HKT.out HK.out hk3)
        have HJ3 := Aside0.mk hJ3
        clear hy hk3 hJ3 hbox k0 k1 k2 k3 k4
        gi_wp2
        go_roundw
        case rel => exact ⟨k + 1, HKL.out, by rw [HZJ.out], ⟨by rw [HDN.out]; exact HJ3.out⟩, HK3⟩
        case measure => (simp [intOf]; try omega)
      · gi_wp2
        refine bodyPost_ret (results_none rfl _ _ _) rfl ?_
        exact ⟨⟨_, rfl⟩, .inr ⟨_, ⟨k, HKL.out, HDN.out.symm⟩, hJx3⟩⟩
    · obtain rfl : k = xs.length := by omega
      have hz : ((xs.length : Int) - 1 - (xs.length : Int)) = -1 := by omega
      rw [hz]
      gi_wp2
      go_end0
      exact ⟨⟨_, rfl⟩, .inl ⟨_, rfl, HJs.out⟩⟩
theorem bb_seq (n : Nat) (hn : 1 ≤ n) (Bs : Nat) (A : Option Addr) (c : Nat) (xs : List S43) (bg : Nat → Option Addr × Nat) (hlen : xs.length ≤ 1000000000000) (Kp : World → World → Prop) (hKt : ∀ {A B C : World}, Kp A B → Kp B C → Kp A C) (hKb : ∀ {A B : World}, Below A.heap.size A B → Kp A B) (w : World)
    (hF : ∀ W wr, Below w.heap.size w W → Kp W wr → bbF wr Bs A c xs bg) :
    SeqB Fence.wide n Try.prog 109 #[.pointer (some ⟨Bs, 0, none⟩)] (bbV xs bg) Kp (fun ys => ys = downs xs.length xs.length) (fun pre => ∃ k, k < xs.length ∧ pre = downs xs.length (k + 1)) (fun pre x => ∃ k, k < xs.length ∧ pre = downs xs.length k ∧ x = xs.length - 1 - k) w := fun l J Jx W hW hJ hY h0 =>
  bb1_in n hn l Bs A c xs bg hlen Kp hKt hKb J Jx hJ hY W (fun wr hk => hF W wr hW hk) h0
set_option maxHeartbeats 2000000 in
theorem bb_in (n : Nat) (A : Option Addr) (len cap : Nat) (w : World) :
    CallsIn Fence.wide n Try.prog 84 #[.slice A len cap] w fun e w' => e = .returned (.func (.func 109) #[] #[.pointer (some ⟨w.heap.size, 0, none⟩)]) ∧ w' = w.alloc (.cells #[.slice A len cap] 32) := by
  refine callsIn_of_wp Try.func84 rfl trivial ?_ rfl
  simp only [Try.ntmps84, List.size_toArray, List.length_cons, List.length_nil, Nat.reduceAdd, Nat.reduceSub, Array.replicate_succ, Array.replicate_zero, List.push_toArray, List.append_toArray, List.nil_append, List.cons_append]
  gi_wp2
  go_ret
  exact ⟨rfl, rfl⟩
/-- What bo's iterator reads. -/
structure boF (wr : World) (Bs : Nat) (A : Option Addr) (c : Nat) (xs : List S45) (bg : Nat → Option Addr × Nat) : Prop where mk ::
  box : wr.cell? ⟨Bs, 0, none⟩ = some (.slice A xs.length c)
  rows : OpsAt wr A xs bg
def boV (xs : List S45) (bg : Nat → Option Addr × Nat) (i : Nat) : Array Value := #[.int .i64 (i : Int), opV (rd_T45 xs (i : Int)) (bg i)]
set_option maxRecDepth 100000 in
set_option maxHeartbeats 4000000 in
theorem bo1_in (n : Nat) (hn : 1 ≤ n) (l Bs : Nat) (A : Option Addr) (c : Nat) (xs : List S45) (bg : Nat → Option Addr × Nat) (hlen : xs.length ≤ 1000000000000)
    (Kp : World → World → Prop) (hKt : ∀ {A B C : World}, Kp A B → Kp B C → Kp A C) (hKb : ∀ {A B : World}, Below A.heap.size A B → Kp A B)
    (J Jx : List Nat → World → Prop) (hJ : ∀ s A B, J s A → Below A.heap.size A B → J s B)
    (hY : ∀ pre x W, J pre W → (∃ k, k < xs.length ∧ pre = downs xs.length k ∧ x = xs.length - 1 - k) → YieldAt Fence.wide (n - 1) Try.prog l (boV xs bg x) W fun e W' =>
      (e = .returned (.bool true) ∧ J (pre ++ [x]) W' ∧ Kp W W') ∨ (e = .returned (.bool false) ∧ Jx (pre ++ [x]) W'))
    (W : World) (hF : ∀ wr, Kp W wr → boF wr Bs A c xs bg) (h0 : J [] W) :
    CallsIn Fence.wide n Try.prog 110 #[.func (.yield l) #[] #[], .pointer (some ⟨Bs, 0, none⟩)] W fun e W' => (∃ v, e = .returned v) ∧
      ((∃ ys, ys = downs xs.length xs.length ∧ J ys W') ∨ (∃ pre, (∃ k, k < xs.length ∧ pre = downs xs.length (k + 1)) ∧ Jx pre W')) := by
  have hu43 := Try.underlying43
  have hu45 := Try.underlying45
  have hu41 := Try.underlying41
  have hbox := (hF W (hKb (Below.refl _ _))).box
  have HF := Aside0.mk hF
  have HY := Aside0.mk hY
  have HJ := Aside0.mk hJ
  have HKT := Aside0.mk @hKt
  have HKB := Aside0.mk @hKb
  clear hF hY hJ hKt hKb
  refine callsIn_of_wp Try.func110 rfl trivial ?_ rfl
  simp only [Try.ntmps110, List.size_toArray, List.length_cons, List.length_nil, Nat.reduceAdd, Nat.reduceSub, Array.replicate_succ, Array.replicate_zero, List.push_toArray, List.append_toArray, List.nil_append, List.cons_append]
  gi_wp2
  clear hbox
  gi_loopw [3] (fun i wr => ∃ k : Nat, k ≤ xs.length ∧ i = .int .i64 ((xs.length : Int) - 1 - (k : Int)) ∧ Aside0 (J (downs xs.length k) wr) ∧ Aside0 (Kp W wr))
    (fun i _ => (intOf i + 1).toNat)
  case atStart => exact ⟨0, Nat.zero_le _, by first | go_num | (simp; done), ⟨h0⟩, ⟨HKB.out (Below.refl _ _)⟩⟩
  case round =>
    obtain ⟨k, hk, rfl, HJs, HK⟩ := hrel
    by_cases hlt : k < xs.length
    · obtain ⟨j, hj⟩ : ∃ j : Nat, xs.length = k + j + 1 := ⟨xs.length - (k + 1), by omega⟩
      have hz : ((xs.length : Int) - 1 - (k : Int)) = (j : Int) := by omega
      rw [hz]
      have b1 : decide ((0 : Int) ≤ (j : Int)) = true := decide_eq_true (by omega)
      have hjl : j < xs.length := by omega
      have hzz : (j : Int) < (xs.length : Int) := by omega
      have HFr := Aside0.mk (HF.out wr HK.out)
      have hbox := HFr.out.box
      have hop := HFr.out.rows j hjl
      obtain ⟨⟨ad, eA, k0, k1, k2, k3, k4, k5⟩, _, _⟩ := hop
      obtain ⟨fn, tmps, assign, body, hy, hR⟩ := HY.out (downs xs.length k) j wr HJs.out ⟨k, hlt, rfl, by omega⟩
      have HDN : Aside0 (downs xs.length (k + 1) = downs xs.length k ++ [j]) := ⟨by rw [downs_succ, show xs.length - 1 - k = j by omega]⟩
      have HKL : Aside0 (k < xs.length) := ⟨hlt⟩
      have HZJ : Aside0 ((xs.length : Int) - 1 - ((k + 1 : Nat) : Int) = (j : Int) - 1) := ⟨by omega⟩
      unfold boV opV at hy
      generalize rd_T45 xs (j : Int) = x at k0 k1 k2 k3 k4 k5 hy
      generalize bg j = g at k0 k1 k2 k3 k4 k5 hy
      have HR := Aside0.mk hR
      clear hR hj hz hlt hk
      subst eA
      gi_wp2
      refine HR.out.mono ?_
      rintro e W3 (⟨rfl, hJ3, hk3⟩ | ⟨rfl, hJx3⟩)
      · have HK3 := Aside0.mk (HKT.out HK.out hk3)
        have HJ3 := Aside0.mk hJ3
        clear hy hk3 hJ3 hbox k0 k1 k2 k3 k4 k5
        gi_wp2
        go_roundw
        case rel => exact ⟨k + 1, HKL.out, by rw [HZJ.out], ⟨by rw [HDN.out]; exact HJ3.out⟩, HK3⟩
        case measure => (simp [intOf]; try omega)
      · gi_wp2
        refine bodyPost_ret (results_none rfl _ _ _) rfl ?_
        exact ⟨⟨_, rfl⟩, .inr ⟨_, ⟨k, HKL.out, HDN.out.symm⟩, hJx3⟩⟩
    · obtain rfl : k = xs.length := by omega
      have hz : ((xs.length : Int) - 1 - (xs.length : Int)) = -1 := by omega
      rw [hz]
      gi_wp2
      go_end0
      exact ⟨⟨_, rfl⟩, .inl ⟨_, rfl, HJs.out⟩⟩
theorem bo_seq (n : Nat) (hn : 1 ≤ n) (Bs : Nat) (A : Option Addr) (c : Nat) (xs : List S45) (bg : Nat → Option Addr × Nat) (hlen : xs.length ≤ 1000000000000) (Kp : World → World → Prop) (hKt : ∀ {A B C : World}, Kp A B → Kp B C → Kp A C) (hKb : ∀ {A B : World}, Below A.heap.size A B → Kp A B) (w : World)
    (hF : ∀ W wr, Below w.heap.size w W → Kp W wr → boF wr Bs A c xs bg) :
    SeqB Fence.wide n Try.prog 110 #[.pointer (some ⟨Bs, 0, none⟩)] (boV xs bg) Kp (fun ys => ys = downs xs.length xs.length) (fun pre => ∃ k, k < xs.length ∧ pre = downs xs.length (k + 1)) (fun pre x => ∃ k, k < xs.length ∧ pre = downs xs.length k ∧ x = xs.length - 1 - k) w := fun l J Jx W hW hJ hY h0 =>
  bo1_in n hn l Bs A c xs bg hlen Kp hKt hKb J Jx hJ hY W (fun wr hk => hF W wr hW hk) h0
set_option maxHeartbeats 2000000 in
theorem bo_in (n : Nat) (A : Option Addr) (len cap : Nat) (w : World) :
    CallsIn Fence.wide n Try.prog 85 #[.slice A len cap] w fun e w' => e = .returned (.func (.func 110) #[] #[.pointer (some ⟨w.heap.size, 0, none⟩)]) ∧ w' = w.alloc (.cells #[.slice A len cap] 39) := by
  refine callsIn_of_wp Try.func85 rfl trivial ?_ rfl
  simp only [Try.ntmps85, List.size_toArray, List.length_cons, List.length_nil, Nat.reduceAdd, Nat.reduceSub, Array.replicate_succ, Array.replicate_zero, List.push_toArray, List.append_toArray, List.nil_append, List.cons_append]
  gi_wp2
  go_ret
  exact ⟨rfl, rfl⟩
end Go.Proofs.Ytnkgbnbbmcoiiaa.S
