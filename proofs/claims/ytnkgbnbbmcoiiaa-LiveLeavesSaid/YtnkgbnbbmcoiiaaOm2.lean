import Derived.Test.YtnkgbnbbmcoiiaaOover
import Derived.WideKeyRuns
namespace Go.Proofs.Ytnkgbnbbmcoiiaa.S
open Go.RowKit Go.IM Go.Proofs.YtnkgbnbbmcoiiaaW.PrintWords Go.Proofs.YtnkgbnbbmcoiiaaW.PrintLast Go.Proofs.YtnkgbnbbmcoiiaaW.PrintMore
set_option linter.unusedVariables false
set_option linter.unusedSimpArgs false
/-! ### spans.wide: a map from registers to spans -/
def spV (r a b : Int) : Value := .agg #[.int .i64 r, .int .i64 a, .int .i64 b]
/-- The span of the places p at which P k p. -/
structure SpanOf (P : Int → Int → Prop) (k a b : Int) : Prop where mk ::
  lo : P k a
  hi : P k b
  all : ∀ p, P k p → a ≤ p ∧ p ≤ b
/-- The map's entries are the spans of the points P. -/
structure WS (es : List (Int × Value)) (P : Int → Int → Prop) : Prop where mk ::
  nodup : (keysOf es).Nodup
  no : ∀ k, lk es k = none → ∀ p, ¬ P k p
  yes : ∀ k v, lk es k = some v → ∃ a b, v = spV k a b ∧ SpanOf P k a b
theorem SpanOf.uniq {P : Int → Int → Prop} {k a b a' b' : Int} (h : SpanOf P k a b) (h' : SpanOf P k a' b') : a = a' ∧ b = b' := by
  have h1 := h.all _ h'.lo; have h2 := h.all _ h'.hi; have h3 := h'.all _ h.lo; have h4 := h'.all _ h.hi
  omega
theorem WS.nil : WS [] (fun _ _ => False) := ⟨List.nodup_nil, fun k _ p h => h, fun k v h => by simp [lk] at h⟩
theorem WS.imp {es : List (Int × Value)} {P Q : Int → Int → Prop} (h : WS es P) (hq : ∀ r p, P r p ↔ Q r p) : WS es Q :=
  ⟨h.nodup, fun k hk p hp => h.no k hk p ((hq k p).2 hp), fun k v hv => by
    obtain ⟨a, b, e, h1⟩ := h.yes k v hv
    exact ⟨a, b, e, (hq _ _).1 h1.lo, (hq _ _).1 h1.hi, fun p hp => h1.all p ((hq _ _).2 hp)⟩⟩
theorem lk_st (es : List (Int × Value)) (k : Int) (v : Value) (r : Int) : lk (st es k v) r = if r = k then some v else lk es r := by
  induction es with
  | nil => simp [st, lk]
  | cons p es ih =>
    unfold st
    split
    · rename_i h
      by_cases hr : r = k
      · rw [if_pos hr, lk, if_pos hr]
      · have hp : ¬ r = p.1 := fun e => hr (e.trans h.symm)
        rw [if_neg hr, lk, if_neg hr, lk, if_neg hp]
    · rename_i h
      by_cases hr : r = p.1
      · have hk : ¬ r = k := fun e => h (e ▸ hr)
        rw [if_neg hk, lk, if_pos hr, lk, if_pos hr]
      · rw [lk, if_neg hr, ih, lk, if_neg hr]
theorem lk_none {es : List (Int × Value)} {k : Int} : lk es k = none ↔ k ∉ keysOf es := by
  induction es with
  | nil => simp [lk, keysOf]
  | cons p es ih =>
    simp only [keysOf, List.map_cons, List.mem_cons, not_or] at ih ⊢
    unfold lk
    split
    · rename_i h
      simp [h]
    · rename_i h
      rw [ih]
      exact ⟨fun h2 => ⟨h, h2⟩, fun h2 => h2.2⟩
/-- What a put writes at one register. -/
def putV (o : Option Value) (k place : Int) : Value :=
  match o with
  | some (.agg #[.int .i64 r, .int .i64 a, .int .i64 b]) => spV r (min a place) (max b place)
  | _ => spV k (min place place) (max place place)
theorem WS.put {es : List (Int × Value)} {P : Int → Int → Prop} (h : WS es P) (k place : Int) : WS (IM.st es k (putV (lk es k) k place)) (fun r p => (r = k ∧ p = place) ∨ P r p) := by
  refine ⟨nodup_st h.nodup k _, fun r hr p hp => ?_, fun r v hr => ?_⟩
  · rw [lk_st] at hr
    split at hr
    · cases hr
    · rename_i hne
      rcases hp with ⟨e, _⟩ | hp
      · exact hne e
      · exact h.no r hr p hp
  · rw [lk_st] at hr
    split at hr
    · rename_i e
      subst e
      injection hr with hr
      subst hr
      cases hl : lk es r with
      | none =>
        refine ⟨place, place, ?_, ⟨.inl ⟨rfl, rfl⟩, .inl ⟨rfl, rfl⟩, fun p hp => ?_⟩⟩
        · simp [putV]
        · rcases hp with ⟨_, rfl⟩ | hp
          · omega
          · exact absurd hp (h.no r hl p)
      | some v =>
        obtain ⟨a, b, rfl, hs⟩ := h.yes r v hl
        refine ⟨min a place, max b place, rfl, ⟨?_, ?_, fun p hp => ?_⟩⟩
        · by_cases hle : a ≤ place
          · rw [Int.min_eq_left hle]; exact .inr hs.lo
          · rw [Int.min_eq_right (by omega)]; exact .inl ⟨rfl, rfl⟩
        · by_cases hle : b ≤ place
          · rw [Int.max_eq_right hle]; exact .inl ⟨rfl, rfl⟩
          · rw [Int.max_eq_left (by omega)]; exact .inr hs.hi
        · rcases hp with ⟨_, rfl⟩ | hp
          · omega
          · have := hs.all p hp; omega
    · rename_i hne
      obtain ⟨a, b, e, hs⟩ := h.yes r v hr
      refine ⟨a, b, e, .inr hs.lo, .inr hs.hi, fun p hp => ?_⟩
      rcases hp with ⟨e2, _⟩ | hp
      · exact absurd e2 hne
      · exact hs.all p hp
end Go.Proofs.Ytnkgbnbbmcoiiaa.S
namespace Go.Proofs.Ytnkgbnbbmcoiiaa.S
open Go.RowKit Go.IM Go.Proofs.YtnkgbnbbmcoiiaaW.PrintWords Go.Proofs.YtnkgbnbbmcoiiaaW.PrintLast Go.Proofs.YtnkgbnbbmcoiiaaW.PrintMore
set_option linter.unusedVariables false
set_option linter.unusedSimpArgs false
/-- A row of n sets: I i r: is r in set i? -/
def MapsAt (w : World) (A : Option Addr) (n : Nat) (I : Nat → Int → Prop) : Prop := ∀ i, i < n → ∃ ad b es, A = some ad ∧ w.cell? (ad.add i) = some (.map (some b)) ∧ At w b es ∧ KS es (I i)
theorem MapsAt.below {w w' : World} {A : Option Addr} {n : Nat} {I : Nat → Int → Prop} (h : MapsAt w A n I) (hb : Below w.heap.size w w') : MapsAt w' A n I := fun i hi => by
  obtain ⟨ad, b, es, e, hc, ha, hk⟩ := h i hi
  exact ⟨ad, b, es, e, pw_cell_below hb hc, ha.below hb ha.lt, hk⟩
theorem MapsAt.imp {w : World} {A : Option Addr} {n : Nat} {I I' : Nat → Int → Prop} (h : MapsAt w A n I) (hi : ∀ i, i < n → ∀ r, I i r ↔ I' i r) : MapsAt w A n I' := fun i hlt => by
  obtain ⟨ad, b, es, e, hc, ha, hk⟩ := h i hlt
  exact ⟨ad, b, es, e, hc, ha, hk.imp (hi i hlt)⟩
set_option maxHeartbeats 4000000 in
set_option maxRecDepth 100000 in
/-- ends: what is in the sets of some blocks, in a new set. -/
theorem ends_any (A : Option Addr) (n c : Nat) (I : Nat → Int → Prop) (B : Option Addr) (cb : Nat) (l : List Int) (w : World) (hn : n ≤ 1000000000000) (hm : MapsAt w A n I) (hC : Kd.C (Kd.int .i64) w B l.length l) (hl : ∀ t ∈ l, 0 ≤ t ∧ t < n) :
    Calls Try.prog 59 #[.slice A n c, .slice B l.length cb] w fun e w' => ∃ m es, e = .returned (.map (some m)) ∧ At w' m es ∧ KS es (fun r => ∃ j : Nat, (j : Int) ∈ l ∧ I j r) ∧ w.heap.size ≤ m ∧ Below w.heap.size w w' := by
  have hln : l.length ≤ 9223372036854775807 := hC.2.1
  have HC := Aside0.mk hC
  have HM := Aside0.mk hm
  have HL := Aside0.mk hl
  have HNN := Aside0.mk hn
  have hmm := @run_makeMap Try.prog
  clear hC hm hl hn
  go_enter Try.func59, Try.ntmps59
  go_wp2_with fail
  clear hmm
  go_loopw [11] (fun i wr => ∃ (j : Nat) (es' : List (Int × Value)), j ≤ l.length ∧ i = .int .i64 (j : Int) ∧ Aside0 (At wr w.heap.size es') ∧ Aside0 (KS es' (fun r => ∃ j' : Nat, (j' : Int) ∈ l.take j ∧ I j' r)) ∧ Aside0 (Below w.heap.size w wr)) (fun i _ => l.length - (intOf i).toNat)
  case atStart => exact ⟨0, [], Nat.zero_le _, rfl, ⟨At.made w⟩, ⟨KS.nil.imp (fun r => by simp)⟩, ⟨below_alloc (Below.refl _ _) _⟩⟩
  case round =>
    obtain ⟨j, es', hj, rfl, HA, HK, HB⟩ := hrel
    by_cases hlt : j < l.length
    · have b1 : decide ((j : Int) < (l.length : Int)) = true := decide_eq_true (by omega)
      obtain ⟨ad, eA, k0⟩ := Kd.at_int (Kd.C_below HC.out HB.out) (j : Int) (by omega) (by omega)
      simp only [Int.toNat_natCast] at k0
      obtain ⟨t, ht⟩ : ∃ t : Nat, rd l (j : Int) = (t : Int) ∧ t < n := by
        have := HL.out (rd l (j : Int)) (by rw [rd_mem hlt]; exact List.getElem_mem hlt)
        exact ⟨(rd l (j : Int)).toNat, by omega, by omega⟩
      obtain ⟨adm, b, es, eM, hcm, hat, hks⟩ := (HM.out.below HB.out) t ht.2
      have hbl : b < w.heap.size := by
        obtain ⟨adm', b', es2, eM', hcm', hat', _⟩ := HM.out t ht.2
        rw [eM] at eM'
        cases eM'
        have := pw_cell_below HB.out hcm'
        rw [hcm] at this
        cases this
        exact hat'.lt
      have HT := Aside0.mk (take_rd hlt)
      rw [ht.1] at k0 HT
      have q1 : (0 : Int) ≤ (t : Int) := by omega
      have q2 : (t : Int) < (n : Int) := by omega
      have hnn := HNN.out
      have HATS := Aside0.mk hat
      have HKSS := Aside0.mk hks
      clear ht hat hks
      subst eA eM
      go_wp2_with (go_at_call 88; refine (copy_any w.heap.size b es' es _ (I t) _ (by omega) HA.out HATS.out HK.out HKSS.out).mono ?_; rintro e w1 ⟨rfl, es2, ha2, hk2, hg2⟩; have HA2 := Aside0.mk ha2; have HK2 := Aside0.mk hk2; have HG2 := Aside0.mk hg2; clear ha2 hk2 hg2)
      go_roundw
      case rel => exact ⟨j + 1, es2, by omega, by go_num, HA2, ⟨HK2.out.imp (fun r => by
        rw [HT.out]
        simp only [List.mem_append, List.mem_singleton]
        constructor
        · rintro (h | ⟨j', h1, h2⟩)
          · exact ⟨t, .inr rfl, h⟩
          · exact ⟨j', .inl h1, h2⟩
        · rintro ⟨j', h1 | h1, h2⟩
          · exact .inr ⟨j', h1, h2⟩
          · obtain rfl : j' = t := by omega
            exact .inl h2)⟩, ⟨below_of_grown HB.out HG2.out (Nat.le_refl _)⟩⟩
      case measure => simp [intOf]; omega
    · have b1 : decide ((j : Int) < (l.length : Int)) = false := decide_eq_false (by omega)
      obtain rfl : j = l.length := by omega
      have hk := HK.out
      rw [List.take_length] at hk
      have HK2 := Aside0.mk hk
      clear hk
      go_wp2_with fail
      go_ret
      exact ⟨w.heap.size, es', rfl, HA.out, HK2.out, Nat.le_refl _, HB.out⟩
end Go.Proofs.Ytnkgbnbbmcoiiaa.S
namespace Go.Proofs.Ytnkgbnbbmcoiiaa.S
open Go.RowKit Go.IM Go.Proofs.YtnkgbnbbmcoiiaaW.PrintWords Go.Proofs.YtnkgbnbbmcoiiaaW.PrintLast Go.Proofs.YtnkgbnbbmcoiiaaW.PrintMore
set_option linter.unusedVariables false
set_option linter.unusedSimpArgs false
set_option maxHeartbeats 4000000 in
set_option maxRecDepth 100000 in
/-- behind: what is live behind a block's operations, in a new set. -/
theorem behind_any (A : Option Addr) (n c : Nat) (I : Nat → Int → Prop) (B : Option Addr) (cb : Nat) (l : List Int) (t : S41) (w : World) (hn : n ≤ 1000000000000) (hm : MapsAt w A n I) (hC : Kd.C (Kd.int .i64) w B l.length l) (hl : ∀ t ∈ l, 0 ≤ t ∧ t < n) :
    Calls Try.prog 61 #[.slice A n c, .slice B l.length cb, .agg #[.int .i64 t.f0, .int .i64 t.f1, .int .i64 t.f2, .int .i64 t.f3]] w fun e w' => ∃ m es, e = .returned (.map (some m)) ∧ At w' m es ∧ KS es (fun r => r ∈ tuseT t ∨ ∃ j : Nat, (j : Int) ∈ l ∧ I j r) ∧ w.heap.size ≤ m ∧ Below w.heap.size w w' := by
  have hu41 := Try.underlying41
  have HB0 := Aside0.mk (below_alloc (Below.refl w.heap.size w) (.cells #[.int .i64 t.f0, .int .i64 t.f1, .int .i64 t.f2, .int .i64 t.f3] 41))
  have HXB := Aside0.mk (blk_new w (.cells #[.int .i64 t.f0, .int .i64 t.f1, .int .i64 t.f2, .int .i64 t.f3] 41))
  have hends := ends_any A n c I B cb l (w.alloc (.cells #[.int .i64 t.f0, .int .i64 t.f1, .int .i64 t.f2, .int .i64 t.f3] 41)) hn (hm.below HB0.out) (Kd.C_below hC HB0.out) hl
  have HE := Aside0.mk hends
  clear hm hC hl hends
  go_enter Try.func61, Try.ntmps61
  go_wp2_with (first
    | (go_at_call 59; refine HE.out.mono ?_; rintro e w1 ⟨m, es, rfl, ha, hk, hms, hb⟩; have HB1 := Aside0.mk (below_then HB0.out HB0.out.size hb); have HX1 := Aside0.mk (blk_below HXB.out hb); have HA1 := Aside0.mk ha; have HK1 := Aside0.mk hk; have HMS := Aside0.mk (Nat.le_trans HB0.out.size hms); have c0 := blk_cell HX1.out 0; have c1 := blk_cell HX1.out 1; have c2 := blk_cell HX1.out 2; have c3 := blk_cell HX1.out 3; simp only [List.getElem?_toArray, List.getElem?_cons_zero, List.getElem?_cons_succ] at c0 c1 c2 c3; clear hb ha hk hms)
    | (go_at_call 31; refine (termUses_any t _).mono ?_; rintro e w2 ⟨A2, c2', rfl, hC2, hb⟩; have HC2 := Aside0.mk hC2; have HA2 := Aside0.mk (HA1.out.below hb HA1.out.lt); have HB2 := Aside0.mk (below_then HB1.out HB1.out.size hb); clear hC2 hb)
    | (go_at_call 89; refine (put_any m es _ A2 c2' (tuseT t) _ HA2.out HK1.out HC2.out).mono ?_; rintro e w3 ⟨rfl, es3, ha3, hk3, hg3⟩; have HA3 := Aside0.mk ha3; have HK3 := Aside0.mk hk3; have HB3 := Aside0.mk (below_of_grown HB2.out hg3 HMS.out); clear ha3 hk3 hg3))
  go_ret
  exact ⟨m, es3, rfl, HA3.out, HK3.out, HMS.out, HB3.out⟩
/-- A strictly rising row. -/
def Rise (l : List Int) : Prop := l.Pairwise (· < ·)
theorem rise_sort {l : List Int} (h : l.Nodup) : Rise (l.mergeSort fun x y => decide (x ≤ y)) := by
  have h1 : (l.mergeSort fun x y => decide (x ≤ y)).Pairwise (fun a b => (decide (a ≤ b)) = true) := List.pairwise_mergeSort (fun a b c h1 h2 => by simp only [decide_eq_true_eq] at *; omega) (fun a b => by simp only [Bool.or_eq_true, decide_eq_true_eq]; omega) l
  have h2 : (l.mergeSort fun x y => decide (x ≤ y)).Nodup := (List.mergeSort_perm l _).nodup_iff.2 h
  unfold Rise
  refine (h1.and h2).imp ?_
  rintro a b ⟨h1, h2⟩
  simp only [decide_eq_true_eq] at h1
  have : a ≠ b := h2
  omega
set_option maxHeartbeats 4000000 in
set_option maxRecDepth 100000 in
/-- row: a set, rising. -/
theorem row_any (b : Nat) (es : List (Int × Value)) (P : Int → Prop) (w : World) (hat : At w b es) (hks : KS es P) (hlen : es.length ≤ 1000000000000) :
    Calls Try.prog 58 #[.map (some b)] w fun e w' => ∃ v zs, e = .returned v ∧ Kd.R (Kd.int .i64) 3 w' w.heap.size (fun _ => True) v zs ∧ Rise zs ∧ (∀ r, r ∈ zs ↔ P r) ∧ Below w.heap.size w w' := by
  have HAT := Aside0.mk hat
  have HKS := Aside0.mk hks
  have HL := Aside0.mk hlen
  clear hat hks hlen
  go_enter Try.func58, Try.ntmps58
  go_wp2_with (first
    | (go_at_call 87; refine (keys87_any _ _).mono ?_; rintro e w1 ⟨rfl, rfl⟩)
    | (go_at_call 52; refine (sorted87_any w.heap.size b es _ (blk_cell (blk_new w (.cells #[.map (some b)] 91)) 0) (HAT.out.alloc _) HL.out).mono ?_; rintro e w2 ⟨v2, rfl, ho, hb⟩; have HO := Aside0.mk ho; have HB2 := Aside0.mk (below_then (below_alloc (Below.refl w.heap.size w) (.cells #[.map (some b)] 91)) (by simp [World.size_alloc]) hb); clear ho hb))
  go_ret
  have hl : ((keysOf es).mergeSort fun x y => decide (x ≤ y)).length = es.length := by rw [List.length_mergeSort, keysOf, List.length_map]
  have ho := HO.out
  rw [← hl] at ho
  refine ⟨v2, (keysOf es).mergeSort fun x y => decide (x ≤ y), rfl, ?_, rise_sort HKS.out.nodup, fun r => by rw [List.mem_mergeSort]; exact HKS.out.mem r, HB2.out⟩
  exact Kd.R_lower (Kd.R_of_own ho (fun _ _ => trivial)) (by simp [World.size_alloc])
end Go.Proofs.Ytnkgbnbbmcoiiaa.S
namespace Go.Proofs.Ytnkgbnbbmcoiiaa.S
open Go.RowKit Go.IM Go.Proofs.YtnkgbnbbmcoiiaaW.PrintWords Go.Proofs.YtnkgbnbbmcoiiaaW.PrintLast Go.Proofs.YtnkgbnbbmcoiiaaW.PrintMore
open Go.ChangeMaps (setBlock heap_setBlock_same heap_setBlock_other)
set_option linter.unusedVariables false
set_option linter.unusedSimpArgs false
/-! ### A set of pairs: map[[2]int]bool -/
def kv2 (q : Int × Int) : Value := .agg #[.int .i64 q.1, .int .i64 q.2]
theorem eqA86 (d : Nat) (w : World) (x y : Int × Int) : (Op.equalIn (d + 2) 86 (kv2 x) (kv2 y)).run Try.prog w = .ok (x.1 == y.1 && (x.2 == y.2)) w := by
  obtain ⟨x0, x1⟩ := x
  obtain ⟨y0, y1⟩ := y
  unfold kv2
  have p0 : ∀ (a b : Int), (part 3 #[.int .i64 a, .int .i64 b] 0).run Try.prog w = .ok (.int .i64 a) w := fun a b => by go_simp
  have p1 : ∀ (a b : Int), (part 3 #[.int .i64 a, .int .i64 b] 1).run Try.prog w = .ok (.int .i64 b) w := fun a b => by go_simp
  have e : ∀ (a b : Int), (Op.equalIn (d + 1) 3 (.int .i64 a) (.int .i64 b)).run Try.prog w = .ok (a == b) w := fun a b => by go_simp
  have hs : (sizeOf 3).run Try.prog w = .ok 1 w := by kernel_rfl
  rw [Op.equalIn]
  simp only [Sem.run_bind, run_underlying Try.underlying86, Result.andThen_ok, hs]
  by_cases h0 : x0 = y0 <;> by_cases h1 : x1 = y1 <;> simp [List.range', p0, p1, e, Sem.run_bind, Result.andThen_ok, h0, h1]
theorem eq86 (w : World) (x y : Int × Int) : (Op.equal 86 (kv2 x) (kv2 y)).run Try.prog w = .ok (decide (x = y)) w := by
  have h := eqA86 9998 w x y
  have e : (x.1 == y.1 && (x.2 == y.2)) = decide (x = y) := by
    obtain ⟨x0, x1⟩ := x
    obtain ⟨y0, y1⟩ := y
    by_cases h0 : x0 = y0 <;> by_cases h1 : x1 = y1 <;> simp [h0, h1]
  rw [e] at h
  exact h
theorem check86 (c : Bool) (w : World) (x : Int × Int) : (Instr.checkKey c 10000 86 (kv2 x)).run Try.prog w = .ok () w := by kernel_rfl
/-- The entries are the keys ks, each with true. -/
def KV2 (en : List MapEntry) (ks : List (Int × Int)) : Prop := en.map (fun e => (e.key, e.val)) = ks.map (fun q => (kv2 q, Value.bool true))
theorem KV2.cons_inv {e : MapEntry} {en : List MapEntry} {ks : List (Int × Int)} (h : KV2 (e :: en) ks) : ∃ q ks', ks = q :: ks' ∧ e.key = kv2 q ∧ e.val = .bool true ∧ KV2 en ks' := by
  cases ks with
  | nil => simp [KV2] at h
  | cons q ks =>
    simp only [KV2, List.map_cons, List.cons.injEq, Prod.mk.injEq] at h
    exact ⟨q, ks, rfl, h.1.1, h.1.2, h.2⟩
theorem find86 (w : World) (x : Int × Int) : ∀ (en : List MapEntry) (ks : List (Int × Int)) (i : Nat), KV2 en ks → (x ∉ ks ∧ (Instr.findAsking 86 (kv2 x) en i).run Try.prog w = .ok none w) ∨ ∃ m, ks[m]? = some x ∧ (Instr.findAsking 86 (kv2 x) en i).run Try.prog w = .ok (some (i + m, .bool true)) w
  | [], ks, i, h => by
    cases ks with
    | nil => exact .inl ⟨by simp, by simp [Instr.findAsking]⟩
    | cons q ks => simp [KV2] at h
  | e :: en, ks, i, h => by
    obtain ⟨q, ks', rfl, hk, hv, ht⟩ := h.cons_inv
    by_cases hq : x = q
    · right
      refine ⟨0, by rw [hq]; rfl, ?_⟩
      simp [Instr.findAsking, hk, hv, eq86, hq, Result.andThen]
    · have hr : (Instr.findAsking 86 (kv2 x) (e :: en) i).run Try.prog w = (Instr.findAsking 86 (kv2 x) en (i + 1)).run Try.prog w := by
        simp [Instr.findAsking, hk, eq86, hq, Result.andThen]
      rw [hr]
      rcases find86 w x en ks' (i + 1) ht with ⟨h1, h2⟩ | ⟨m, h1, h2⟩
      · exact .inl ⟨by simp [hq, h1], h2⟩
      · exact .inr ⟨m + 1, by simpa using h1, by (have e1 : i + 1 + m = i + (m + 1) := by omega); rw [h2, e1]⟩
theorem findKey86 (w : World) (x : Int × Int) (en : List MapEntry) : (Instr.findKey 86 (kv2 x) en).run Try.prog w = (Instr.findAsking 86 (kv2 x) en).run Try.prog w :=
  run_findKey_eq w (by kernel_rfl) (kv2 x) en
/-- Block b is a set of those pairs of which S tells. -/
def At2 (w : World) (b : Nat) (S : Int × Int → Prop) : Prop := ∃ (en : Array MapEntry) (clock : Nat) (ks : List (Int × Int)), w.heap[b]? = some (.map en clock) ∧ KV2 en.toList ks ∧ ∀ q, q ∈ ks ↔ S q
theorem At2.lt {w : World} {b : Nat} {S : Int × Int → Prop} (h : At2 w b S) : b < w.heap.size := by
  obtain ⟨en, clock, ks, hb, _⟩ := h
  exact (Array.getElem?_eq_some_iff.1 hb).1
theorem At2.below {w w' : World} {b B : Nat} {S : Int × Int → Prop} (h : At2 w b S) (hB : Below B w w') (hb : b < B) : At2 w' b S := by
  obtain ⟨en, clock, ks, hm, r⟩ := h
  exact ⟨en, clock, ks, (hB.block b hb).trans hm, r⟩
theorem At2.made (w : World) : At2 (w.alloc (.map #[] 0)) w.heap.size (fun _ => False) := ⟨#[], 0, [], (MapKept.heap_alloc w _).1, rfl, fun q => by simp⟩
theorem At2.alloc {w : World} {b : Nat} {S : Int × Int → Prop} (h : At2 w b S) (o : Obj) : At2 (w.alloc o) b S := h.below (below_alloc (Below.refl w.heap.size w) o) h.lt
theorem At2.imp {w : World} {b : Nat} {S T : Int × Int → Prop} (h : At2 w b S) (hs : ∀ q, S q ↔ T q) : At2 w b T := by
  obtain ⟨en, clock, ks, hm, h1, h2⟩ := h
  exact ⟨en, clock, ks, hm, h1, fun q => (h2 q).trans (hs q)⟩
theorem At2.setCell {w : World} {b : Nat} {S : Int × Int → Prop} (h : At2 w b S) {a : Addr} (ha : b ≠ a.block) (u : Value) : At2 (w.setCell a u) b S := by
  obtain ⟨en, clock, ks, hm, r⟩ := h
  exact ⟨en, clock, ks, by rw [Below.heap_setCell _ _ _ _ ha]; exact hm, r⟩
theorem At2.look {w : World} {b : Nat} {S : Int × Int → Prop} (h : At2 w b S) (x : Int × Int) (r : Bool) (hr : r = true ↔ S x) : (Instr.lookup 120 (.map (some b)) (kv2 x) false).run Try.prog w = .ok (.bool r) w := by
  obtain ⟨en, clock, ks, hb, hkv, hs⟩ := h
  have hz : (zeroValue 4).run Try.prog w = .ok (.bool false) w := by kernel_rfl
  rcases find86 w x en.toList ks 0 hkv with ⟨h1, h2⟩ | ⟨m, h1, h2⟩
  · have : r = false := by
      cases r with
      | false => rfl
      | true => exact absurd ((hs x).2 (hr.1 rfl)) h1
    subst this
    simp [Instr.lookup, run_underlying Try.underlying120, MapKept.run_getObj_map hb, Result.andThen, check86, findKey86, h2, hz]
  · have : r = true := hr.2 ((hs x).1 (List.mem_of_getElem? h1))
    subst this
    simp [Instr.lookup, run_underlying Try.underlying120, MapKept.run_getObj_map hb, Result.andThen, check86, findKey86, h2]
theorem At2.update {w : World} {b : Nat} {S : Int × Int → Prop} (h : At2 w b S) (x : Int × Int) : ∃ w', (Instr.mapUpdate 120 (.map (some b)) (kv2 x) (.bool true)).run Try.prog w = .ok () w' ∧ At2 w' b (fun q => q = x ∨ S q) ∧ w.grownBy w' (some b) := by
  obtain ⟨en, clock, ks, hb, hkv, hs⟩ := h
  rcases find86 w x en.toList ks 0 hkv with ⟨h1, h2⟩ | ⟨m, h1, h2⟩
  · refine ⟨setBlock w b (.map (en.push { key := kv2 x, val := .bool true, born := clock }) (clock + 1)), ?_, ⟨_, _, ks ++ [x], heap_setBlock_same hb _, ?_, fun q => ?_⟩, grown_setBlock hb _⟩
    · simp only [Instr.mapUpdate, Sem.run_bind, run_underlying Try.underlying120, MapKept.run_getObj_map hb, Result.andThen, check86, findKey86, h2, MapKept.run_setObj_map _ hb]
      rfl
    · unfold KV2 at hkv ⊢
      rw [Array.toList_push, List.map_append, List.map_append, hkv]
      rfl
    · rw [List.mem_append, List.mem_singleton, hs q]
      exact or_comm
  · rw [Nat.zero_add] at h2
    have hml : m < ks.length := (List.getElem?_eq_some_iff.1 h1).1
    have hel : en.toList.length = ks.length := by
      have := congrArg List.length hkv
      simpa using this
    have he : ∃ e, en[m]? = some e ∧ e.key = kv2 x ∧ e.val = .bool true := by
      have := congrArg (·[m]?) hkv
      simp only [List.getElem?_map, h1, Option.map_some] at this
      have hlt : m < en.size := by simpa using (show m < en.toList.length by omega)
      rw [← Array.getElem?_toList]
      cases hh : en.toList[m]? with
      | none => rw [hh] at this; simp at this
      | some e =>
        rw [hh] at this
        simp at this
        exact ⟨e, rfl, this.1, this.2⟩
    obtain ⟨e, he, hek, hev⟩ := he
    have hst : (Instr.keyThatStays (kv2 x) (kv2 x)).run Try.prog w = .ok (kv2 x) w := by
      have : Instr.sameBits 10000 (kv2 x) (kv2 x) = true := by
        have e1 : (10000 : Nat) = 9998 + 1 + 1 := rfl
        rw [e1]
        simp [Instr.sameBits, kv2]
      unfold Instr.keyThatStays
      rw [if_pos this]
      rfl
    refine ⟨setBlock w b (.map (en.modify m fun e => { e with key := kv2 x, val := .bool true }) clock), ?_, ⟨_, _, ks, heap_setBlock_same hb _, ?_, fun q => ?_⟩, grown_setBlock hb _⟩
    · simp only [Instr.mapUpdate, Sem.run_bind, run_underlying Try.underlying120, MapKept.run_getObj_map hb, Result.andThen, check86, findKey86, h2, he, Option.map_some, Option.getD_some, hek, hst, MapKept.run_setObj_map _ hb]
      rfl
    · unfold KV2 at hkv ⊢
      rw [← hkv, Array.toList_modify]
      apply List.ext_getElem?
      intro i
      simp only [List.getElem?_map, List.getElem?_modify]
      by_cases hij : m = i
      · subst hij
        rw [show en.toList[m]? = some e by rw [Array.getElem?_toList]; exact he]
        simp [hek, hev]
      · cases hh : en.toList[i]? <;> simp [hij]
    · show q ∈ ks ↔ q = x ∨ S q
      rw [← hs q]
      constructor
      · intro h; exact .inr h
      · rintro (rfl | h)
        · exact List.mem_of_getElem? h1
        · exact h
section
variable {ops : Array Oper} {rest : List Oper} {o : Oper} {a : Act} {Q : Exit → Act → World → Prop} {w : World}
theorem wpl_look2 (hg : o.guard = none) (m x : Operand) (hop : o.op = Op.lookup 120 m x false) (b : Nat) (S : Int × Int → Prop) (hm : a.eval m = .map (some b)) (h : At2 w b S) (k : Int × Int) (hx : a.eval x = kv2 k) (r : Bool) (hr : r = true ↔ S k)
    (hQ : wpList Try.prog ops Q rest (a.put o.dst (.bool r)) w) : wpList Try.prog ops Q (o :: rest) a w := by
  refine wpList_plain hg fun K' hK' => ?_
  unfold Oper.wp
  simp [execOp, hop, hm, hx, h.look k r hr, Result.andThen]
  exact hK' _ _ hQ
theorem wpl_upd2 (hg : o.guard = none) (m x v : Operand) (hop : o.op = Op.mapUpdate 120 m x v) (b : Nat) (S : Int × Int → Prop) (hm : a.eval m = .map (some b)) (h : At2 w b S) (k : Int × Int) (hx : a.eval x = kv2 k) (hv : a.eval v = .bool true)
    (hQ : ∀ w', At2 w' b (fun q => q = k ∨ S q) → w.grownBy w' (some b) → wpList Try.prog ops Q rest (a.put o.dst undef) w') : wpList Try.prog ops Q (o :: rest) a w := by
  refine wpList_plain hg fun K' hK' => ?_
  obtain ⟨w', hrun, h1, h2⟩ := h.update k
  unfold Oper.wp
  simp [execOp, hop, hm, hx, hv, hrun, Result.andThen]
  exact hK' _ _ (hQ w' h1 h2)
end
end Go.Proofs.Ytnkgbnbbmcoiiaa.S
