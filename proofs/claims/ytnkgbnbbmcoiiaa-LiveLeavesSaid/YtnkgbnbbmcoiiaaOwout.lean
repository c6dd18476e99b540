import Derived.Test.YtnkgbnbbmcoiiaaOcopy
import Derived.Test.YtnkgbnbbmcoiiaaOm2
import Derived.Test.YtnkgbnbbmcoiiaaOdead
namespace Go.Proofs.Ytnkgbnbbmcoiiaa.S
open Go.RowKit Go.IM Go.Proofs.YtnkgbnbbmcoiiaaW.PrintWords Go.Proofs.YtnkgbnbbmcoiiaaW.PrintLast Go.Proofs.YtnkgbnbbmcoiiaaW.PrintMore
set_option linter.unusedVariables false
set_option linter.unusedSimpArgs false
/-! ### live.without -/
/-- A row of pairs. -/
def PrAt (w : World) (D : Option Addr) (ds : List (Nat × Nat)) : Prop := ∀ j (h : j < ds.length), ∃ ad, D = some ad ∧ w.cell? (ad.add (j * 2)) = some (.int .i64 ((ds[j]'h).1 : Int)) ∧ w.cell? ⟨(ad.add (j * 2)).block, (ad.add (j * 2)).off + 1, none⟩ = some (.int .i64 ((ds[j]'h).2 : Int))
theorem PrAt.below {w w' : World} {D : Option Addr} {ds : List (Nat × Nat)} (h : PrAt w D ds) (hb : Below w.heap.size w w') : PrAt w' D ds := fun j hj => by
  obtain ⟨ad, e, h1, h2⟩ := h j hj
  exact ⟨ad, e, pw_cell_below hb h1, pw_cell_below hb h2⟩
theorem prCs_get : ∀ (ds : List (Nat × Nat)) (j : Nat) (h : j < ds.length), (prCs ds)[j * 2]? = some (.int .i64 ((ds[j]'h).1 : Int)) ∧ (prCs ds)[j * 2 + 1]? = some (.int .i64 ((ds[j]'h).2 : Int))
  | d :: ds, 0, _ => ⟨rfl, rfl⟩
  | d :: ds, j + 1, h => by
    have ih := prCs_get ds j (by simpa using h)
    have e1 : (prCs (d :: ds))[(j + 1) * 2]? = (prCs ds)[j * 2]? := by
      show ([_, _] ++ prCs ds)[(j + 1) * 2]? = _
      rw [List.getElem?_append_right (by simp; omega)]
      congr 1
      simp; omega
    have e2 : (prCs (d :: ds))[(j + 1) * 2 + 1]? = (prCs ds)[j * 2 + 1]? := by
      show ([_, _] ++ prCs ds)[(j + 1) * 2 + 1]? = _
      rw [List.getElem?_append_right (by simp; omega)]
      congr 1
      simp; omega
    rw [e1, e2]
    exact ih
theorem PrAt.of_own {w : World} {base : Nat} {D : Option Addr} {c : Nat} {ds : List (Nat × Nat)} (h : w.ownsRow base 86 2 (.slice D ds.length c) ds.length (prCs ds)) : PrAt w D ds := fun j hj => by
  rcases h.2 with ⟨_, h1⟩ | ⟨g, cap, cur, e, h2, h3, h4, h5, h6, h7⟩
  · omega
  · injection e with e1 _ _
    subst e1
    refine ⟨_, rfl, ?_, ?_⟩
    · rw [Addr.add_lit, Nat.zero_add]
      refine (blk_cell h3 _).trans ?_
      have := (prCs_get ds j hj).1
      rw [← h7, List.getElem?_take_of_lt (by omega), Array.getElem?_toList] at this
      exact this
    · simp only [Addr.add_lit, Nat.zero_add]
      refine (blk_cell h3 _).trans ?_
      have := (prCs_get ds j hj).2
      rw [← h7, List.getElem?_take_of_lt (by omega), Array.getElem?_toList] at this
      exact this
/-- The operations of a block, up to m, without some. -/
def opsW (bs : List S43) (ds : List (Nat × Nat)) (i m : Nat) : List S45 := ((List.range m).filter fun k => !decide ((i, k) ∈ ds)).map fun k => opOf bs (i, k)
theorem opsW_succ (bs : List S43) (ds : List (Nat × Nat)) (i m : Nat) : opsW bs ds i (m + 1) = if (i, m) ∈ ds then opsW bs ds i m else opsW bs ds i m ++ [opOf bs (i, m)] := by
  unfold opsW
  rw [List.range_succ, List.filter_append, List.map_append]
  by_cases h : (i, m) ∈ ds <;> simp [h]
theorem opsW_len (bs : List S43) (ds : List (Nat × Nat)) (i m : Nat) : (opsW bs ds i m).length ≤ m := by
  unfold opsW
  rw [List.length_map]
  exact Nat.le_trans (List.length_filter_le _ _) (by simp)
/-- A function without some operations. -/
def woutB (bs : List S43) (ds : List (Nat × Nat)) (i : Nat) : S43 := ⟨opsW bs ds i (opLen bs i), (rd_T43 bs (i : Int)).f1⟩
def woutL (bs : List S43) (ds : List (Nat × Nat)) : List S43 := (List.range bs.length).map (woutB bs ds)
theorem woutL_length (bs : List S43) (ds : List (Nat × Nat)) : (woutL bs ds).length = bs.length := by simp [woutL]
theorem rd_woutL {bs : List S43} {ds : List (Nat × Nat)} {i : Nat} (h : i < bs.length) : rd_T43 (woutL bs ds) (i : Int) = woutB bs ds i := by
  rw [rd43' (by rw [woutL_length]; exact h)]
  simp [woutL]
theorem blks_ext {a b : List S43} (h : a.length = b.length) (he : ∀ i : Nat, i < b.length → rd_T43 a (i : Int) = rd_T43 b (i : Int)) : a = b := by
  apply List.ext_getElem h
  intro i h1 h2
  have := he i h2
  rwa [rd43' h1, rd43' h2] at this
/-- A row of operations of the call's own, its inner rows elsewhere. -/
def LR (X : Nat → Prop) (w : World) (base : Nat) (v : Value) (xs : List S45) : Prop := ∃ gs : Nat → Option Addr × Nat, w.ownsRow base 45 6 v xs.length ((List.range xs.length).flatMap fun k : Nat => opC (rd_T45 xs (k : Int)) (gs k)) ∧ ∀ k, k < xs.length → (rd_T45 xs (k : Int)).f5.length ≤ (gs k).2 ∧ St X w (fun w' => Kd.C (Kd.int .i64) w' (gs k).1 (rd_T45 xs (k : Int)).f5.length (rd_T45 xs (k : Int)).f5)
theorem LR.nil (X : Nat → Prop) (w : World) (base : Nat) : LR X w base (.slice none 0 0) [] := ⟨fun _ => (none, 0), own_nil _ _ _ _, fun k hk => absurd hk (Nat.not_lt_zero _)⟩
theorem LR.below {X : Nat → Prop} {w w' : World} {base : Nat} {v : Value} {xs : List S45} (h : LR X w base v xs) (hb : Below w.heap.size w w') : LR X w' base v xs := by
  obtain ⟨gs, h1, h2⟩ := h
  exact ⟨gs, pw_own_below h1 hb, fun k hk => ⟨(h2 k hk).1, (h2 k hk).2.step (KP.of_below hb)⟩⟩
theorem rd45_snoc_l {xs : List S45} {x : S45} {k : Nat} (h : k < xs.length) : rd_T45 (xs ++ [x]) (k : Int) = rd_T45 xs (k : Int) := by
  rw [rd45' (by rw [List.length_append]; omega), rd45' h, List.getElem_append_left h]
theorem rd45_snoc_r {xs : List S45} {x : S45} : rd_T45 (xs ++ [x]) ((xs.length : Nat) : Int) = x := by
  rw [rd45' (by simp)]
  simp
theorem flat_congr {α : Type} {f g : Nat → List α} : ∀ (l : List Nat), (∀ k ∈ l, f k = g k) → l.flatMap f = l.flatMap g
  | [], _ => rfl
  | x :: l, h => by rw [List.flatMap_cons, List.flatMap_cons, h x List.mem_cons_self, flat_congr l (fun k hk => h k (List.mem_cons_of_mem _ hk))]
theorem lr_cells (xs : List S45) (gs : Nat → Option Addr × Nat) (x : S45) (g : Option Addr × Nat) : (List.range (xs ++ [x]).length).flatMap (fun k : Nat => opC (rd_T45 (xs ++ [x]) (k : Int)) (if k = xs.length then g else gs k)) = (List.range xs.length).flatMap (fun k : Nat => opC (rd_T45 xs (k : Int)) (gs k)) ++ opC x g := by
  rw [List.length_append, List.length_singleton, List.range_succ, List.flatMap_append]
  congr 1
  · refine flat_congr _ (fun k hk => ?_)
    have hlt := List.mem_range.1 hk
    rw [rd45_snoc_l hlt, if_neg (by omega)]
  · simp [rd45_snoc_r]
theorem opC_one (x : S45) (g : Option Addr × Nat) : ∀ u ∈ opC x g, u.oneCell' = true := by
  intro u hu
  simp only [opC, List.mem_cons, List.not_mem_nil, or_false] at hu
  rcases hu with rfl | rfl | rfl | rfl | rfl | rfl <;> rfl
section
variable {ops : Array Oper} {rest : List Oper} {o : Oper} {a : Act} {Q : Exit → Act → World → Prop}
theorem appLR {w0 W : World} {base : Nat} {X : Nat → Prop} (hgd : o.guard = none) (s x : Operand) (ho : o.op = .call { callee := .builtin .append, args := #[s, x], argTypes := #[39, 39] })
    (v : Value) (xs : List S45) (y : S45) (A : Option Addr) (c : Nat) (hs : a.eval s = v) (hx : a.eval x = .slice (some ⟨W.heap.size, 0, none⟩) 1 1) (hX : ∀ k, base ≤ k → X k) (HO : LR X W base v xs) (HB : Below base w0 W) (hbase : base ≤ W.heap.size) (hl : xs.length ≤ 16384)
    (hc : y.f5.length ≤ c) (hst : St X W (fun w' => Kd.C (Kd.int .i64) w' A y.f5.length y.f5))
    (h : ∀ v1 w1, LR X w1 base v1 (xs ++ [y]) → Below base w0 w1 → KP X W w1 → wpList Try.prog ops Q rest (a.put o.dst v1) w1) : wpList Try.prog ops Q (o :: rest) a (W.alloc (.cells #[.int .i64 y.f0, .int .i64 y.f1, .int .i64 y.f2, .int .i64 y.f3, .int .i64 y.f4, .slice A y.f5.length c] 45)) := by
  obtain ⟨gs, h1, h2⟩ := HO
  refine print_append_cells (w0 := w0) (W := W) base hgd s x 39 45 (.agg #[.int .i64 0, .int .i64 0, .int .i64 0, .int .i64 0, .int .i64 0, .slice none 0 0]) 6 64 ho Try.underlying39 info45c rfl (by decide) (by decide) v xs.length _ (opC y (A, c)) hs hx rfl (opC_one y (A, c)) h1 HB hbase (by omega) ?_
  intro v1 w1 ho1 hb1 hg1 _
  have hkp : KP X W w1 := ⟨hg1.size, fun k o hx hk _ => (hg1.block k (Array.getElem?_eq_some_iff.1 hk).1 (fun e => hx (hX k (own_base h1 k e.symm)))).trans hk⟩
  refine h v1 w1 ⟨fun k => if k = xs.length then (A, c) else gs k, ?_, fun k hk => ?_⟩ hb1 hkp
  · rw [lr_cells, List.length_append]
    exact ho1
  · by_cases e : k = xs.length
    · subst e
      rw [rd45_snoc_r]
      simp only [if_pos]
      exact ⟨hc, hst.step hkp⟩
    · rw [List.length_append, List.length_singleton] at hk
      rw [rd45_snoc_l (by omega)]
      simp only [if_neg e]
      exact ⟨(h2 k (by omega)).1, (h2 k (by omega)).2.step hkp⟩
end
/-- The finished row, whatever Y holds. -/
theorem LR.fin {X Y : Nat → Prop} {w : World} {base : Nat} {v : Value} {xs : List S45} (h : LR X w base v xs) (hs : ∀ k, Y k → X k) (hy : ∀ k, base ≤ k → k < w.heap.size → ¬ Y k) : ∃ A c, v = .slice A xs.length c ∧ xs.length ≤ c ∧ OpsS Y w A xs := by
  obtain ⟨gs, h1, h2⟩ := h
  rcases h1.2 with ⟨rfl, h0⟩ | ⟨g, cap, cur, rfl, hg, hbk, hle, _, hsz, htk⟩
  · rw [h0]
    exact ⟨none, 0, rfl, Nat.le_refl _, OpsS.nil h0⟩
  · refine ⟨some ⟨g, 0, none⟩, cap, rfl, hle, ?_⟩
    have hor : OR X w g xs gs cur := ⟨hbk, fun k hk => ⟨fun j u hu => ?_, (h2 k hk).1, (h2 k hk).2⟩⟩
    · exact hor.stS (hy g hg (blk_lt hbk)) hs
    · have hj : j < 6 := by
        have := (List.getElem?_eq_some_iff.1 hu).1
        simpa [opC] using this
      have hf := flat_get (fun k : Nat => opC (rd_T45 xs (k : Int)) (gs k)) 6 (fun i => rfl) xs.length k j hk hj
      rw [← htk] at hf
      have hlt : k * 6 + j < xs.length * 6 := by
        have := Nat.mul_le_mul_right 6 hk
        rw [Nat.succ_mul] at this
        omega
      rw [List.getElem?_take_of_lt hlt, Array.getElem?_toList] at hf
      exact hf.trans hu
/-- The two boxes, and what lay ahead. -/
structure CW (w W : World) (p : Int) (A : Option Addr) (n c : Nat) : Prop where mk ::
  bel : Below w.heap.size w W
  b2 : W.heap[w.heap.size]? = some (.cells #[.int .i64 p, .slice A n c] 34 (0, 0))
  b4 : W.heap[w.heap.size + 1]? = some (.cells #[.int .i64 0, .slice none 0 0] 34 (0, 0))
theorem CW.below {w W W' : World} {p : Int} {A : Option Addr} {n c : Nat} (h : CW w W p A n c) (hb : Below W.heap.size W W') : CW w W' p A n c := ⟨below_then h.bel h.bel.size hb, blk_below h.b2 hb, blk_below h.b4 hb⟩
theorem CW.grown {w W W' : World} {p : Int} {A : Option Addr} {n c b : Nat} (h : CW w W p A n c) (hg : W.grownBy W' (some b)) (hb : w.heap.size + 2 ≤ b) : CW w W' p A n c :=
  ⟨below_of_grown h.bel hg (by omega), blk_grown h.b2 hg (by simp; omega), blk_grown h.b4 hg (by simp; omega)⟩
theorem CW.set {w W : World} {p : Int} {A : Option Addr} {n c : Nat} (h : CW w W p A n c) (a : Addr) (v : Value) (ha : w.heap.size + 2 ≤ a.block) : CW w (W.setCell a v) p A n c :=
  ⟨below_set h.bel a v (by omega), blk_far h.b2 (by omega) v, blk_far h.b4 (by omega) v⟩
theorem dec_mem {ds : List (Nat × Nat)} {i k : Nat} : decide ((i, k) ∈ ds) = true ↔ ∃ r ∈ ds, ((i : Int), (k : Int)) = ((r.1 : Int), (r.2 : Int)) := by
  rw [decide_eq_true_eq]
  constructor
  · intro h
    exact ⟨_, h, rfl⟩
  · rintro ⟨r, hr, e⟩
    simp only [Prod.mk.injEq] at e
    obtain ⟨r1, r2⟩ := r
    simp only at e
    obtain rfl : i = r1 := by omega
    obtain rfl : k = r2 := by omega
    exact hr
set_option maxHeartbeats 8000000 in
set_option maxRecDepth 100000 in
theorem without_ok (p : Int) (A : Option Addr) (c : Nat) (bs : List S43) (D : Option Addr) (cd : Nat) (ds : List (Nat × Nat)) (w : World) (Z : Nat → Prop) (bg0 : Nat → Option Addr × Nat) (og0 : Nat → Nat → Option Addr × Nat) (hF : St Z w (fun w' => DeepAt w' A bs bg0 og0)) (hZ : ∀ k, Z k → k < w.heap.size) (hs : Sml bs) (hD : PrAt w D ds) (hdl : ds.length ≤ 16384) :
    Calls Try.prog 63 #[.agg #[.int .i64 p, .slice A bs.length c], .slice D ds.length cd] w fun e w' => ∃ A' c' bg' og', e = .returned (.agg #[.int .i64 p, .slice A' bs.length c']) ∧ bs.length ≤ c' ∧ St Z w' (fun w2 => DeepAt w2 A' (woutL bs ds) bg' og') ∧ Below w.heap.size w w' := by
  have hu34 := Try.underlying34
  have hu43 := Try.underlying43
  have hu41 := Try.underlying41
  have hu45 := Try.underlying45
  have hu86 := Try.underlying86
  have hmm := @run_makeMap Try.prog
  have HS := Aside0.mk hs
  have HFX : Aside0 (∀ W, Below w.heap.size w W → St (fun k => Z k ∨ k = w.heap.size + 1) W (fun w' => DeepAt w' A bs bg0 og0)) := ⟨fun W hb => ((hF.wide (Y := fun k => Z k ∨ w.heap.size ≤ k) (fun k h => h)).step (KP.of_below hb)).mono (fun k h => h.elim .inl (fun h => .inr (by omega)))⟩
  have HZ := Aside0.mk hZ
  have HD := Aside0.mk hD
  have hlen := hs.blks
  have hcw : CW w (((w.alloc (.cells #[.int .i64 p, .slice A bs.length c] 34)).alloc (.cells #[.int .i64 0, .slice none 0 0] 34)).alloc (.map #[] 0)) p A bs.length c := by
    have h0 : CW w ((w.alloc (.cells #[.int .i64 p, .slice A bs.length c] 34)).alloc (.cells #[.int .i64 0, .slice none 0 0] 34)) p A bs.length c := by
      refine ⟨below_alloc (below_alloc (Below.refl _ _) _) _, blk_alloc (blk_new w _) _, ?_⟩
      have := blk_new (w.alloc (.cells #[.int .i64 p, .slice A bs.length c] 34)) (.cells #[.int .i64 0, .slice none 0 0] 34)
      rwa [World.size_alloc] at this
    exact h0.below (below_alloc (Below.refl _ _) _)
  have hat := At2.made ((w.alloc (.cells #[.int .i64 p, .slice A bs.length c] 34)).alloc (.cells #[.int .i64 0, .slice none 0 0] 34))
  have hsz : ((w.alloc (.cells #[.int .i64 p, .slice A bs.length c] 34)).alloc (.cells #[.int .i64 0, .slice none 0 0] 34)).heap.size = w.heap.size + 2 := by rw [World.size_alloc, World.size_alloc]
  rw [hsz] at hat
  have HCW := Aside0.mk hcw
  have HAT := Aside0.mk hat
  clear hF hs hD hZ hcw hat hsz
  go_enter Try.func63, Try.ntmps63
  go_wp2_with fail
  clear hmm
  go_loopw [17] (fun i wr => ∃ j : Nat, j ≤ ds.length ∧ i = .int .i64 (j : Int) ∧ Aside0 (CW w wr p A bs.length c) ∧ Aside0 (At2 wr (w.heap.size + 2) (fun q => ∃ r ∈ ds.take j, q = ((r.1 : Int), (r.2 : Int))))) (fun i _ => ds.length - (intOf i).toNat)
  case atStart => exact ⟨0, Nat.zero_le _, rfl, HCW, ⟨HAT.out.imp (fun q => by simp)⟩⟩
  case round =>
    clear HCW HAT
    obtain ⟨j, hj, rfl, HCW, HAT⟩ := hrel
    by_cases hlj : j < ds.length
    · have b1 : decide ((j : Int) < (ds.length : Int)) = true := decide_eq_true (by omega)
      have hw1 : wrap64 ((j : Int) + 1) = (j : Int) + 1 := (wr3 (z := 0) (by decide) (by omega)).2.2
      obtain ⟨add, eD, h0, h1⟩ := (HD.out.below HCW.out.bel) j hlj
      subst eD
      have HTK : Aside0 (ds.take (j + 1) = ds.take j ++ [ds[j]]) := ⟨List.take_succ_eq_append_getElem hlj⟩
      generalize ds[j] = q at h0 h1 HTK
      have HAA := Aside0.mk (HAT.out.alloc (.cells #[.int .i64 (q.1 : Int), .int .i64 (q.2 : Int)] 86))
      have HCA := Aside0.mk (HCW.out.below (below_alloc (Below.refl wr.heap.size wr) (.cells #[.int .i64 (q.1 : Int), .int .i64 (q.2 : Int)] 86)))
      go_wp2_with (at_mapUpdate; refine wpl_upd2 rfl _ _ _ rfl (w.heap.size + 2) _ rfl HAA.out ((q.1 : Int), (q.2 : Int)) rfl rfl ?_; intro w1 hm1 hg1; have HM1 := Aside0.mk hm1; have HG1 := Aside0.mk hg1; clear hm1 hg1)
      go_roundw
      case rel =>
        refine ⟨j + 1, hlj, by first | (rw [hw1]; exact num_cast j) | (with_reducible exact num_cast j), ⟨HCA.out.grown HG1.out (Nat.le_refl _)⟩, ⟨HM1.out.imp (fun r => ?_)⟩⟩
        rw [HTK.out]
        simp only [List.mem_append, List.mem_singleton]
        constructor
        · rintro (h | ⟨r', h1, h2⟩)
          · exact ⟨q, .inr rfl, h⟩
          · exact ⟨r', .inl h1, h2⟩
        · rintro ⟨r', h1 | h1, h2⟩
          · exact .inr ⟨r', h1, h2⟩
          · subst h1; exact .inl h2
      case measure => first | (rw [hw1]; exact num_meas hlj) | (with_reducible exact num_meas hlj)
    · have b1 : decide ((j : Int) < (ds.length : Int)) = false := decide_eq_false (by omega)
      have HAS : Aside0 (At2 wr (w.heap.size + 2) (fun q => ∃ r ∈ ds, q = ((r.1 : Int), (r.2 : Int)))) := ⟨HAT.out.imp (fun q => by rw [List.take_of_length_le (Nat.le_of_not_lt hlj)])⟩
      have c0 := blk_cell HCW.out.b2 0
      have c1 := blk_cell HCW.out.b2 1
      simp only [List.getElem?_toArray, List.getElem?_cons_zero, List.getElem?_cons_succ] at c0 c1
      clear HAT
      go_wp2_with (go_at_call 62; refine (copy_ok p A c bs _ (fun k => Z k ∨ k = w.heap.size + 1) bg0 og0 (HFX.out _ HCW.out.bel) (fun k hk => hk.elim (fun h => Nat.lt_of_lt_of_le (HZ.out k h) HCW.out.bel.size) (fun h => by have h1 := HAS.out.lt; omega)) HS.out).mono ?_; rintro e w2 ⟨g, c1', bg, cs, rfl, hle, hgw, hbr, hb⟩; have HLE := Aside0.mk hle; have HGW := Aside0.mk (Nat.le_trans HAS.out.lt hgw); have HBR2 := Aside0.mk hbr; have HCW2 := Aside0.mk (HCW.out.below hb); have HAS2 := Aside0.mk (HAS.out.below hb HAS.out.lt); clear hle hgw hbr hb c0 c1)
      have hbA := below_alloc (Below.refl w2.heap.size w2) (.cells #[.int .i64 p, .slice (some ⟨g, 0, none⟩) bs.length c1'] 34)
      have HCW3 := Aside0.mk (HCW2.out.below hbA)
      have HAS3 := Aside0.mk (HAS2.out.below hbA HAS2.out.lt)
      have HBR3 := Aside0.mk (HBR2.out.step (KP.of_below hbA) (hbA.block g (blk_lt HBR2.out.blk)))
      have HX83 := Aside0.mk (blk_new w2 (.cells #[.int .i64 p, .slice (some ⟨g, 0, none⟩) bs.length c1'] 34))
      have HGB := Aside0.mk (blk_lt HBR2.out.blk)
      clear hbA HCW2 HAS2 HBR2
      generalize w2.heap.size = b8 at HX83 HGB ⊢
      generalize w2.alloc (.cells #[.int .i64 p, .slice (some ⟨g, 0, none⟩) bs.length c1'] 34) = W3 at HCW3 HAS3 HBR3 HX83 ⊢
      clear hlj hj b1 HCW HAS
      go_loopw [29] (fun i wr => ∃ (x : Nat) (mx : List S43) (bg' : Nat → Option Addr × Nat) (cs' : Array Value), x ≤ bs.length ∧ i = .int .i64 (x : Int) ∧ Aside0 (CW w wr p A bs.length c) ∧ Aside0 (At2 wr (w.heap.size + 2) (fun q => ∃ r ∈ ds, q = ((r.1 : Int), (r.2 : Int)))) ∧ Aside0 (BR (fun k => k = g ∨ Z k ∨ k = w.heap.size + 1) wr g mx bg' cs') ∧ Aside0 (wr.heap[b8]? = some (.cells #[.int .i64 p, .slice (some ⟨g, 0, none⟩) bs.length c1'] 34 (0, 0))) ∧
          Aside0 (mx.length = bs.length ∧ (∀ i : Nat, i < x → rd_T43 mx (i : Int) = woutB bs ds i) ∧ ∀ i : Nat, x ≤ i → i < bs.length → rd_T43 mx (i : Int) = rd_T43 bs (i : Int))) (fun i _ => bs.length - (intOf i).toNat)
      case atStart => exact ⟨0, bs, bg, cs, Nat.zero_le _, rfl, HCW3, HAS3, HBR3, HX83, ⟨rfl, fun i hi => absurd hi (Nat.not_lt_zero _), fun _ _ _ => rfl⟩⟩
      case round =>
        clear HCW3 HAS3 HBR3 HX83
        obtain ⟨x, mx, bg', cs', hx, rfl, HCW, HAS, HBR, HX8, HMX⟩ := hrel
        by_cases hlt : x < bs.length
        · have b1 : decide ((x : Int) < (bs.length : Int)) = true := decide_eq_true (by omega)
          have hw1 : wrap64 ((x : Int) + 1) = (x : Int) + 1 := (wr3 (z := 0) (by decide) (by omega)).2.2
          have HXM : Aside0 (x < mx.length) := ⟨by rw [HMX.out.1]; exact hlt⟩
          have hrx := HMX.out.2.2 x (Nat.le_refl _) hlt
          have k0 : wr.cell? ⟨g, x * 5, none⟩ = _ := HBR.out.cells HXM.out 0 _ rfl
          have k1 : wr.cell? ⟨g, x * 5 + 1, none⟩ = _ := HBR.out.cells HXM.out 1 _ rfl
          have k2 : wr.cell? ⟨g, x * 5 + 2, none⟩ = _ := HBR.out.cells HXM.out 2 _ rfl
          have k3 : wr.cell? ⟨g, x * 5 + 3, none⟩ = _ := HBR.out.cells HXM.out 3 _ rfl
          have k4 : wr.cell? ⟨g, x * 5 + 4, none⟩ = _ := HBR.out.cells HXM.out 4 _ rfl
          obtain ⟨_, hcap, _, og, hog⟩ := HBR.out.el x HXM.out
          have HOG := Aside0.mk (hog.wide (Y := fun q => (q = g ∨ Z q ∨ q = w.heap.size + 1) ∨ wr.heap.size ≤ q) (fun q h => h))
          rw [hrx] at k0 k1 k2 k3 k4 HOG hcap
          have HOP : Aside0 (∀ k : Nat, opOf bs (x, k) = rd_T45 (rd_T43 bs (x : Int)).f0 (k : Int)) := ⟨fun k => rfl⟩
          have HOL : Aside0 (opLen bs x = (rd_T43 bs (x : Int)).f0.length) := ⟨rfl⟩
          have HXL : Aside0 ((rd_T43 bs (x : Int)).f0.length ≤ 16384) := ⟨HS.out.ops x⟩
          have HWB : Aside0 (woutB bs ds x = ⟨opsW bs ds x (opLen bs x), (rd_T43 mx (x : Int)).f1⟩) := ⟨by rw [hrx]; rfl⟩
          clear hog hrx
          generalize rd_T43 bs (x : Int) = X43 at k0 k1 k2 k3 k4 HOG hcap HOP HOL HXL
          obtain ⟨xs, t0, t1, t2, t3⟩ := X43
          have HOP : Aside0 (∀ k : Nat, opOf bs (x, k) = rd_T45 xs (k : Int)) := HOP
          have HOL : Aside0 (opLen bs x = xs.length) := HOL
          have HXL : Aside0 (xs.length ≤ 16384) := HXL
          obtain ⟨ax, hax⟩ : ∃ ax, bg' x = ax := ⟨_, rfl⟩
          rw [hax] at k0 HOG hcap
          obtain ⟨Ax, cx⟩ := ax
          simp only at k0 k1 k2 k3 k4 hcap
          have HOG : Aside0 (St (fun q => (q = g ∨ Z q ∨ q = w.heap.size + 1) ∨ wr.heap.size ≤ q) wr (fun w' => OpsAt w' Ax xs og)) := HOG
          clear hax
          go_wp2_with fail
          clear k0 k1 k2 k3 k4 b1
          have HBA := Aside0.mk (below_alloc (Below.refl wr.heap.size wr) (.cells #[.slice Ax xs.length cx, .int .i64 t0, .int .i64 t1, .int .i64 t2, .int .i64 t3] 43))
          go_loopw [11, 37] (fun v i wi => ∃ k : Nat, k ≤ xs.length ∧ i = .int .i64 (k : Int) ∧ Aside0 (Below wr.heap.size wr wi) ∧ Aside0 (LR (fun q => (q = g ∨ Z q ∨ q = w.heap.size + 1) ∨ wr.heap.size ≤ q) wi wr.heap.size v (opsW bs ds x k))) (fun _ i _ => xs.length - (intOf i).toNat)
          case atStart => exact ⟨0, Nat.zero_le _, rfl, HBA, ⟨LR.nil _ _ _⟩⟩
          case round =>
            clear HBA
            obtain ⟨k, hk, rfl, HB, HLR⟩ := hrel
            have HLW := Aside0.mk (Nat.le_trans (opsW_len bs ds x k) (Nat.le_trans hk HXL.out))
            by_cases hlk : k < xs.length
            · have b2 : decide ((k : Int) < (xs.length : Int)) = true := decide_eq_true (by omega)
              have hw2 : wrap64 ((k : Int) + 1) = (k : Int) + 1 := (wr3 (z := 0) (by decide) (Nat.le_trans (Nat.le_of_lt hlk) HXL.out)).2.2
              have hopS := HOG.out.step (KP.of_below HB.out)
              obtain ⟨⟨adx, eA, y0, y1, y2, y3, y4, y5⟩, hcy, _⟩ := hopS.now k hlk
              have HSA := Aside0.mk (hopS.imp (fun w' h => (h k hlk).row))
              have HSU := Aside0.mk (opsW_succ bs ds x k)
              rw [HOP.out k] at HSU
              subst eA
              generalize rd_T45 xs (k : Int) = X at y0 y1 y2 y3 y4 y5 hcy HSA HSU
              generalize og k = gk at y5 hcy HSA
              obtain ⟨A6, c6⟩ := gk
              simp only at y5 hcy
              have HCY := Aside0.mk hcy
              have hbX := below_alloc (Below.refl wr.heap.size wr) (.cells #[.int .i64 X.f0, .int .i64 X.f1, .int .i64 X.f2, .int .i64 X.f3, .int .i64 X.f4, .slice A6 X.f5.length c6] 45)
              have HAL := Aside0.mk ((HAS.out.below HB.out HAS.out.lt).alloc (.cells #[.int .i64 X.f0, .int .i64 X.f1, .int .i64 X.f2, .int .i64 X.f3, .int .i64 X.f4, .slice A6 X.f5.length c6] 45))
              have HBX := Aside0.mk (below_alloc HB.out (.cells #[.int .i64 X.f0, .int .i64 X.f1, .int .i64 X.f2, .int .i64 X.f3, .int .i64 X.f4, .slice A6 X.f5.length c6] 45))
              have HLX := Aside0.mk (HLR.out.below hbX)
              have HSX := Aside0.mk (HSA.out.step (KP.of_below hbX))
              clear hopS hcy hbX
              generalize opsW bs ds x k = L at HLX HSU HLW
              cases hd : decide ((x, k) ∈ ds) with
              | true =>
                have HR := Aside0.mk (dec_mem (ds := ds) (i := x) (k := k))
                rw [hd] at HR
                have HSU2 : Aside0 (opsW bs ds x (k + 1) = L) := ⟨by rw [HSU.out, if_pos (of_decide_eq_true hd)]⟩
                clear hd
                go_wp2_with (at_lookup; refine wpl_look2 rfl _ _ rfl (w.heap.size + 2) _ rfl HAL.out ((x : Int), (k : Int)) rfl true HR.out ?_)
                go_roundw
                case rel => exact ⟨k + 1, hlk, by first | (rw [hw2]; exact num_cast k) | (with_reducible exact num_cast k), HBX, ⟨by rw [HSU2.out]; exact HLX.out⟩⟩
                case measure => first | (rw [hw2]; exact num_meas hlk) | (with_reducible exact num_meas hlk)
              | false =>
                have HR := Aside0.mk (dec_mem (ds := ds) (i := x) (k := k))
                rw [hd] at HR
                have HSU2 : Aside0 (opsW bs ds x (k + 1) = L ++ [X]) := ⟨by rw [HSU.out, if_neg (of_decide_eq_false hd)]⟩
                clear hd
                go_wp2_with (first
                  | (at_lookup; refine wpl_look2 rfl _ _ rfl (w.heap.size + 2) _ rfl HAL.out ((x : Int), (k : Int)) rfl false HR.out ?_)
                  | (at_builtin; refine appLR rfl _ _ rfl u11 L X A6 c6 rfl (by rw [World.size_alloc]; rfl) (fun q h => .inr h) HLX.out HBX.out HBX.out.size HLW.out HCY.out HSX.out ?_; intro v6 w6 ho6 hb6 _; have HO6 := Aside0.mk ho6; have HB6 := Aside0.mk hb6; clear ho6 hb6))
                go_roundw
                case rel => exact ⟨k + 1, hlk, by first | (rw [hw2]; exact num_cast k) | (with_reducible exact num_cast k), HB6, ⟨by rw [HSU2.out]; exact HO6.out⟩⟩
                case measure => first | (rw [hw2]; exact num_meas hlk) | (with_reducible exact num_meas hlk)
            · have b2 : decide ((k : Int) < (xs.length : Int)) = false := decide_eq_false (by omega)
              obtain ⟨A9, c9, rfl, hle9, hops⟩ := HLR.out.fin (Y := fun q => q = g ∨ Z q ∨ q = w.heap.size + 1) (fun q h => .inl h) (fun q h1 _ h2 => by
                have := blk_lt HBR.out.blk
                have := HCW.out.bel.size
                have h3 := blk_lt HCW.out.b4
                have h4 := HZ.out q
                rcases h2 with h2 | h2 | h2
                · omega
                · have := h4 h2; omega
                · omega)
              have ek : k = opLen bs x := (Nat.le_antisymm hk (Nat.le_of_not_lt hlk)).trans HOL.out.symm
              have HFW : Aside0 (opsW bs ds x k = opsW bs ds x (opLen bs x)) := ⟨by rw [ek]⟩
              rw [HFW.out] at hle9 hops HLW ⊢
              have HL9 := Aside0.mk hle9
              have HO9 := Aside0.mk hops
              have hb8 := blk_below HX8.out HB.out
              have c1 := blk_cell hb8 1
              simp only [List.getElem?_toArray, List.getElem?_cons_zero, List.getElem?_cons_succ] at c1
              have HBRi := Aside0.mk (HBR.out.step (KP.of_below HB.out) (HB.out.block g (blk_lt HBR.out.blk)))
              have sG : wr.cell? ⟨g, x * 5, none⟩ = _ := HBRi.out.cells HXM.out 0 _ rfl
              have fG : wr.frozen? ⟨g, x * 5, none⟩ = false := blk_frozen HBRi.out.blk _
              clear hle9 hops ek
              go_wp2_with fail
              go_roundw
              case rel =>
                have hgw := HGW.out
                have h := BR.put HBRi.out HXM.out (.inl rfl) (opsW bs ds x (opLen bs x)) (A := A9) (c := c9) HL9.out (by have := HLW.out; omega) HO9.out
                rw [← HWB.out] at h
                refine ⟨x + 1, _, _, _, hlt, by first | (rw [hw1]; exact num_cast x) | (with_reducible exact num_cast x), ⟨(HCW.out.below HB.out).set _ _ (by show w.heap.size + 2 ≤ g; omega)⟩, ⟨(HAS.out.below HB.out HAS.out.lt).setCell (by show w.heap.size + 2 ≠ g; omega) _⟩, ⟨h⟩, ⟨blk_far hb8 (by have := HGB.out; show b8 ≠ g; omega) _⟩, ⟨by rw [List.length_set]; exact HMX.out.1, fun i hi => ?_, fun i h1 h2 => ?_⟩⟩
                · by_cases e : i = x
                  · subst e
                    rw [rd43' (by rw [List.length_set]; exact HXM.out), List.getElem_set_self]
                  · have him : i < mx.length := by rw [HMX.out.1]; omega
                    rw [rd43' (by rw [List.length_set]; exact him), List.getElem_set_ne (fun h => e h.symm), ← rd43' him]
                    exact HMX.out.2.1 i (by omega)
                · have him : i < mx.length := by rw [HMX.out.1]; omega
                  rw [rd43' (by rw [List.length_set]; exact him), List.getElem_set_ne (by omega), ← rd43' him]
                  exact HMX.out.2.2 i (by omega) h2
              case measure => first | (rw [hw1]; exact num_meas hlt) | (with_reducible exact num_meas hlt)
        · have b1 : decide ((x : Int) < (bs.length : Int)) = false := decide_eq_false (by omega)
          have hxe : x = bs.length := Nat.le_antisymm hx (Nat.le_of_not_lt hlt)
          have HFM : Aside0 (mx = woutL bs ds) := ⟨blks_ext (by rw [HMX.out.1, woutL_length]) (fun i hi => by
            rw [woutL_length] at hi
            rw [rd_woutL hi]
            exact HMX.out.2.1 i (by omega))⟩
          have c0' := blk_cell HX8.out 0
          have c1'' := blk_cell HX8.out 1
          have d0 := blk_cell HCW.out.b4 0
          have d1 := blk_cell HCW.out.b4 1
          simp only [List.getElem?_toArray, List.getElem?_cons_zero, List.getElem?_cons_succ] at c0' c1'' d0 d1
          have e0 := blk_frozen HCW.out.b4 0
          have e1 := blk_frozen HCW.out.b4 1
          clear hxe
          go_wp2_with fail
          have hz := blk_set (blk_set HCW.out.b4 0 (.int .i64 p)) 1 (.slice (some ⟨g, 0, none⟩) bs.length c1')
          have hkp1 := KP.setCell (X := fun k => k = g ∨ Z k ∨ k = w.heap.size + 1) wr ⟨w.heap.size + 1, 0, none⟩ (.int .i64 p) (.inr (.inr rfl))
          have hkp2 := KP.setCell (X := fun k => k = g ∨ Z k ∨ k = w.heap.size + 1) (wr.setCell ⟨w.heap.size + 1, 0, none⟩ (.int .i64 p)) ⟨w.heap.size + 1, 1, none⟩ (.slice (some ⟨g, 0, none⟩) bs.length c1') (.inr (.inr rfl))
          have hg1 := HGW.out
          have hb1 := below_set (below_set HCW.out.bel ⟨w.heap.size + 1, 0, none⟩ (.int .i64 p) (Nat.le_succ _)) ⟨w.heap.size + 1, 1, none⟩ (.slice (some ⟨g, 0, none⟩) bs.length c1') (Nat.le_succ _)
          have hbr := (HBR.out.step hkp1 (Below.heap_setCell _ _ _ g (by show g ≠ w.heap.size + 1; omega))).step hkp2 (Below.heap_setCell _ _ _ g (by show g ≠ w.heap.size + 1; omega))
          generalize (wr.setCell ⟨w.heap.size + 1, 0, none⟩ (.int .i64 p)).setCell ⟨w.heap.size + 1, 1, none⟩ (.slice (some ⟨g, 0, none⟩) bs.length c1') = W2 at hz hb1 hbr ⊢
          have z0 := blk_cell hz 0
          have z1 := blk_cell hz 1
          simp at z0 z1
          refine bodyPost_ret (v := .agg #[.int .i64 p, .slice (some ⟨g, 0, none⟩) bs.length c1']) (by simp [results, Try.results63, go_sem, hu34, z0, z1]) rfl ?_
          obtain ⟨og', hde⟩ := hbr.deep (Y := Z) (fun h => by have := HZ.out g h; omega) (fun k h => .inr (.inl h))
          rw [HFM.out] at hde
          exact ⟨_, c1', bg', og', rfl, HLE.out, hde, hb1⟩
end Go.Proofs.Ytnkgbnbbmcoiiaa.S
