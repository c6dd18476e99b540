import Derived.Test.YtnkgbnbbmcoiiaaKp
import Derived.Test.YtnkgbnbbmcoiiaaOrat
import Derived.ArgAppend
namespace Go.Proofs.Ytnkgbnbbmcoiiaa.S
open Go.RowKit Go.IM Go.Proofs.YtnkgbnbbmcoiiaaW.PrintWords Go.Proofs.YtnkgbnbbmcoiiaaW.PrintLast Go.Proofs.YtnkgbnbbmcoiiaaW.PrintMore
set_option linter.unusedVariables false
set_option linter.unusedSimpArgs false
/-! ### slices.Clone at rows of numbers, operations, blocks -/
/-- What a row tells of a new block. -/
def NewRow (W0 : World) (w1 : World) (e : TypeId) (m : Nat) (news : List Value) (A1 : Option Addr) : Prop := 0 < m → ∃ (g1 : Nat) (cur : Array Value), A1 = some ⟨g1, 0, none⟩ ∧ W0.heap.size ≤ g1 ∧ w1.heap[g1]? = some (.cells cur e (0, 0)) ∧ ∀ (j : Nat) (u : Value), news[j]? = some u → cur[j]? = some u
section
variable {ops : Array Oper} {rest : List Oper} {o : Oper} {a : Act} {Q : Exit → Act → World → Prop}
theorem app_fresh {W : World} (hgd : o.guard = none) (s x : Operand) (t e : TypeId) (ho : o.op = .call { callee := .builtin .append, args := #[s, x], argTypes := #[t, t] })
    (ht : Try.prog.underlying t = some (.slice e)) (z : Value) (size bytes : Nat) (hinfo : (Try.prog.info? e).map (fun i => (i.zero, i.size, i.bytes)) = some (some z, size, bytes)) (hz : z.cells.size = size) (hs0 : 0 < size)
    (g : Nat) (hg : W.heap[g]? = some (.cells #[] e (0, 0))) (hs : a.eval s = .slice (some ⟨g, 0, none⟩) 0 0) (ad : Addr) (m c : Nat) (news : List Value) (hx : a.eval x = .slice (some ad) m c) (hn : news.length = m * size)
    (hc : ∀ j u, news[j]? = some u → W.cell? (ad.add j) = some u) (h1c : ∀ u ∈ news, u.oneCell' = true) (hl1 : m ≤ 1000000000000) (hl : m * bytes ≤ 140737488355328)
    (h : ∀ A1 c1 w1, m ≤ c1 → NewRow W w1 e m news A1 → Below W.heap.size W w1 → wpList Try.prog ops Q rest (a.put o.dst (.slice A1 m c1)) w1) : wpList Try.prog ops Q (o :: rest) a W := by
  obtain ⟨i0, hi, hzz⟩ := Option.map_eq_some_iff.1 hinfo
  simp only [Prod.mk.injEq] at hzz
  obtain ⟨hz0, hz1, hz2⟩ := hzz
  refine wpList_append_arg W hgd s x t ho e i0 z size bytes ht hi hz0 hz1 hz2 hz hs0 g 0 0 0 [] hs (by simp) (by simp) ad m c news hx hn hc h1c (fun h j hj => ?_) (by simp only [maxLen]; omega) (by rw [Nat.zero_add]; exact hl) (fun h0 => ?_) (fun h0 v1 w1 hown hgr => ?_)
  · obtain rfl : m = 0 := by omega
    rw [hn, Nat.zero_mul] at hj
    exact absurd hj (Nat.not_lt_zero _)
  · obtain rfl : m = 0 := by omega
    obtain rfl : news = [] := List.eq_nil_of_length_eq_zero (by rw [hn, Nat.zero_mul])
    exact h _ 0 W (Nat.zero_le _) (fun h => absurd h (Nat.lt_irrefl _)) (Below.refl _ _)
  · rw [Nat.zero_add, List.nil_append] at hown
    have hb : Below W.heap.size W w1 := ⟨hgr.os, hgr.tape, hgr.output, hgr.size, fun i hi => hgr.block i hi (by simp)⟩
    rcases hown.2 with ⟨_, h1⟩ | ⟨g1, cap, cur, rfl, h2, h3, h4, h5, h6, h7⟩
    · omega
    · refine h _ _ w1 h4 (fun _ => ⟨g1, cur, rfl, h2, h3, fun j u hu => ?_⟩) hb
      have hj : j < m * size := by
        have := (List.getElem?_eq_some_iff.1 hu).1
        omega
      rw [← h7, List.getElem?_take_of_lt hj, Array.getElem?_toList] at hu
      exact hu
end
theorem info45c : (Try.prog.info? 45).map (fun i => (i.zero, i.size, i.bytes)) = some (some (.agg #[.int .i64 0, .int .i64 0, .int .i64 0, .int .i64 0, .int .i64 0, .slice none 0 0]), 6, 64) := by kernel_rfl
theorem info43c : (Try.prog.info? 43).map (fun i => (i.zero, i.size, i.bytes)) = some (some (.agg #[.slice none 0 0, .int .i64 0, .int .i64 0, .int .i64 0, .int .i64 0]), 5, 56) := by kernel_rfl
theorem eqnil28 (a : Addr) (n c : Nat) (w : World) : Sem.run Try.prog (binOp .eql 28 (.slice (some a) n c) (.slice none 0 0)) w = .ok (.bool false) w := by kernel_rfl
theorem eqnil28n (n c : Nat) (w : World) : Sem.run Try.prog (binOp .eql 28 (.slice none n c) (.slice none 0 0)) w = .ok (.bool true) w := by kernel_rfl
set_option maxHeartbeats 2000000 in
set_option maxRecDepth 100000 in
theorem clone92 (A : Option Addr) (n c : Nat) (news : List Value) (w : World) (hn : news.length = n * 1) (h1c : ∀ u ∈ news, u.oneCell' = true) (hl : n ≤ 1000000000) (hc : 0 < n → ∃ ad, A = some ad ∧ ∀ j u, news[j]? = some u → w.cell? (ad.add j) = some u) :
    Calls Try.prog 92 #[.slice A n c] w fun e w' => ∃ A1 c1, e = .returned (.slice A1 n c1) ∧ n ≤ c1 ∧ NewRow w w' 3 n news A1 ∧ Below w.heap.size w w' := by
  have HN := Aside0.mk hn
  have H1 := Aside0.mk h1c
  have HC := Aside0.mk hc
  have HL := Aside0.mk hl
  clear hn h1c hc hl
  rcases A with _ | ad
  · have h0 : n = 0 := by
      rcases Nat.eq_zero_or_pos n with h | h
      · exact h
      · obtain ⟨_, h2, _⟩ := HC.out h
        cases h2
    subst h0
    have hnil := eqnil28n 0 c w
    go_enter Try.func92, Try.ntmps92
    go_wp2_with fail
    go_ret
    exact ⟨none, 0, rfl, Nat.le_refl _, fun h => absurd h (Nat.lt_irrefl _), Below.refl _ _⟩
  · have hnil := eqnil28 ad n c w
    have hbA := below_alloc (Below.refl w.heap.size w) (.cells #[] 3)
    have HBA := Aside0.mk hbA
    have HCC : Aside0 (∀ j u, news[j]? = some u → (w.alloc (.cells #[] 3)).cell? (ad.add j) = some u) := ⟨fun j u hu => by
      rcases Nat.eq_zero_or_pos n with h | h
      · have := (List.getElem?_eq_some_iff.1 hu).1
        rw [HN.out, h, Nat.zero_mul] at this
        exact absurd this (Nat.not_lt_zero _)
      · obtain ⟨ad', e, h2⟩ := HC.out h
        cases e
        exact pw_cell_below HBA.out (h2 j u hu)⟩
    clear hbA
    go_enter Try.func92, Try.ntmps92
    go_wp2_with (at_builtin; refine app_fresh (W := w.alloc (.cells #[] 3)) rfl _ _ 28 3 rfl Try.underlying28 (.int .i64 0) 1 8 info3' rfl (by decide) w.heap.size (blk_new w (.cells #[] 3)) rfl ad n c news rfl HN.out HCC.out H1.out (by have := HL.out; omega) (by have := HL.out; omega) ?_; intro A1 c1 w1 hle hnr hb; have HLE := Aside0.mk hle; have HNR := Aside0.mk hnr; have HB1 := Aside0.mk hb; clear hle hnr hb)
    go_ret
    refine ⟨A1, c1, rfl, HLE.out, fun h => ?_, below_then HBA.out HBA.out.size HB1.out⟩
    obtain ⟨g1, cur, e, h1, h2⟩ := HNR.out h
    exact ⟨g1, cur, e, Nat.le_trans HBA.out.size h1, h2⟩
theorem eqnil39 (a : Addr) (n c : Nat) (w : World) : Sem.run Try.prog (binOp .eql 39 (.slice (some a) n c) (.slice none 0 0)) w = .ok (.bool false) w := by kernel_rfl
theorem eqnil39n (n c : Nat) (w : World) : Sem.run Try.prog (binOp .eql 39 (.slice none n c) (.slice none 0 0)) w = .ok (.bool true) w := by kernel_rfl
set_option maxHeartbeats 2000000 in
set_option maxRecDepth 100000 in
theorem clone91 (A : Option Addr) (n c : Nat) (news : List Value) (w : World) (hn : news.length = n * 6) (h1c : ∀ u ∈ news, u.oneCell' = true) (hl : n ≤ 1000000000) (hc : 0 < n → ∃ ad, A = some ad ∧ ∀ j u, news[j]? = some u → w.cell? (ad.add j) = some u) :
    Calls Try.prog 91 #[.slice A n c] w fun e w' => ∃ A1 c1, e = .returned (.slice A1 n c1) ∧ n ≤ c1 ∧ NewRow w w' 45 n news A1 ∧ Below w.heap.size w w' := by
  have HN := Aside0.mk hn
  have H1 := Aside0.mk h1c
  have HC := Aside0.mk hc
  have HL := Aside0.mk hl
  clear hn h1c hc hl
  rcases A with _ | ad
  · have h0 : n = 0 := by
      rcases Nat.eq_zero_or_pos n with h | h
      · exact h
      · obtain ⟨_, h2, _⟩ := HC.out h
        cases h2
    subst h0
    have hnil := eqnil39n 0 c w
    go_enter Try.func91, Try.ntmps91
    go_wp2_with fail
    go_ret
    exact ⟨none, 0, rfl, Nat.le_refl _, fun h => absurd h (Nat.lt_irrefl _), Below.refl _ _⟩
  · have hnil := eqnil39 ad n c w
    have hbA := below_alloc (Below.refl w.heap.size w) (.cells #[] 45)
    have HBA := Aside0.mk hbA
    have HCC : Aside0 (∀ j u, news[j]? = some u → (w.alloc (.cells #[] 45)).cell? (ad.add j) = some u) := ⟨fun j u hu => by
      rcases Nat.eq_zero_or_pos n with h | h
      · have := (List.getElem?_eq_some_iff.1 hu).1
        rw [HN.out, h, Nat.zero_mul] at this
        exact absurd this (Nat.not_lt_zero _)
      · obtain ⟨ad', e, h2⟩ := HC.out h
        cases e
        exact pw_cell_below HBA.out (h2 j u hu)⟩
    clear hbA
    go_enter Try.func91, Try.ntmps91
    go_wp2_with (at_builtin; refine app_fresh (W := w.alloc (.cells #[] 45)) rfl _ _ 39 45 rfl Try.underlying39 (.agg #[.int .i64 0, .int .i64 0, .int .i64 0, .int .i64 0, .int .i64 0, .slice none 0 0]) 6 64 info45c rfl (by decide) w.heap.size (blk_new w (.cells #[] 45)) rfl ad n c news rfl HN.out HCC.out H1.out (by have := HL.out; omega) (by have := HL.out; omega) ?_; intro A1 c1 w1 hle hnr hb; have HLE := Aside0.mk hle; have HNR := Aside0.mk hnr; have HB1 := Aside0.mk hb; clear hle hnr hb)
    go_ret
    refine ⟨A1, c1, rfl, HLE.out, fun h => ?_, below_then HBA.out HBA.out.size HB1.out⟩
    obtain ⟨g1, cur, e, h1, h2⟩ := HNR.out h
    exact ⟨g1, cur, e, Nat.le_trans HBA.out.size h1, h2⟩
theorem eqnil32 (a : Addr) (n c : Nat) (w : World) : Sem.run Try.prog (binOp .eql 32 (.slice (some a) n c) (.slice none 0 0)) w = .ok (.bool false) w := by kernel_rfl
theorem eqnil32n (n c : Nat) (w : World) : Sem.run Try.prog (binOp .eql 32 (.slice none n c) (.slice none 0 0)) w = .ok (.bool true) w := by kernel_rfl
set_option maxHeartbeats 2000000 in
set_option maxRecDepth 100000 in
theorem clone90 (A : Option Addr) (n c : Nat) (news : List Value) (w : World) (hn : news.length = n * 5) (h1c : ∀ u ∈ news, u.oneCell' = true) (hl : n ≤ 1000000000) (hc : 0 < n → ∃ ad, A = some ad ∧ ∀ j u, news[j]? = some u → w.cell? (ad.add j) = some u) :
    Calls Try.prog 90 #[.slice A n c] w fun e w' => ∃ A1 c1, e = .returned (.slice A1 n c1) ∧ n ≤ c1 ∧ NewRow w w' 43 n news A1 ∧ Below w.heap.size w w' := by
  have HN := Aside0.mk hn
  have H1 := Aside0.mk h1c
  have HC := Aside0.mk hc
  have HL := Aside0.mk hl
  clear hn h1c hc hl
  rcases A with _ | ad
  · have h0 : n = 0 := by
      rcases Nat.eq_zero_or_pos n with h | h
      · exact h
      · obtain ⟨_, h2, _⟩ := HC.out h
        cases h2
    subst h0
    have hnil := eqnil32n 0 c w
    go_enter Try.func90, Try.ntmps90
    go_wp2_with fail
    go_ret
    exact ⟨none, 0, rfl, Nat.le_refl _, fun h => absurd h (Nat.lt_irrefl _), Below.refl _ _⟩
  · have hnil := eqnil32 ad n c w
    have hbA := below_alloc (Below.refl w.heap.size w) (.cells #[] 43)
    have HBA := Aside0.mk hbA
    have HCC : Aside0 (∀ j u, news[j]? = some u → (w.alloc (.cells #[] 43)).cell? (ad.add j) = some u) := ⟨fun j u hu => by
      rcases Nat.eq_zero_or_pos n with h | h
      · have := (List.getElem?_eq_some_iff.1 hu).1
        rw [HN.out, h, Nat.zero_mul] at this
        exact absurd this (Nat.not_lt_zero _)
      · obtain ⟨ad', e, h2⟩ := HC.out h
        cases e
        exact pw_cell_below HBA.out (h2 j u hu)⟩
    clear hbA
    go_enter Try.func90, Try.ntmps90
    go_wp2_with (at_builtin; refine app_fresh (W := w.alloc (.cells #[] 43)) rfl _ _ 32 43 rfl Try.underlying32 (.agg #[.slice none 0 0, .int .i64 0, .int .i64 0, .int .i64 0, .int .i64 0]) 5 56 info43c rfl (by decide) w.heap.size (blk_new w (.cells #[] 43)) rfl ad n c news rfl HN.out HCC.out H1.out (by have := HL.out; omega) (by have := HL.out; omega) ?_; intro A1 c1 w1 hle hnr hb; have HLE := Aside0.mk hle; have HNR := Aside0.mk hnr; have HB1 := Aside0.mk hb; clear hle hnr hb)
    go_ret
    refine ⟨A1, c1, rfl, HLE.out, fun h => ?_, below_then HBA.out HBA.out.size HB1.out⟩
    obtain ⟨g1, cur, e, h1, h2⟩ := HNR.out h
    exact ⟨g1, cur, e, Nat.le_trans HBA.out.size h1, h2⟩
/-- slices.Clone of a row of numbers. -/
theorem clone_int (A : Option Addr) (c : Nat) (l : List Int) (w : World) (hC : Kd.C (Kd.int .i64) w A l.length l) (hl : l.length ≤ 1000000000) :
    Calls Try.prog 92 #[.slice A l.length c] w fun e w' => ∃ A1 c1, e = .returned (.slice A1 l.length c1) ∧ l.length ≤ c1 ∧ (∀ X : Nat → Prop, (∀ k, w.heap.size ≤ k → ¬ X k) → St X w' (fun w2 => Kd.C (Kd.int .i64) w2 A1 l.length l)) ∧ Below w.heap.size w w' := by
  refine (clone92 A l.length c (nums .i64 l) w (by simp [nums]) (nums_one l) hl (fun h => ?_)).mono ?_
  · obtain ⟨ad, e, hc⟩ := (Kd.reads_of_C (enc := Value.int .i64) (d := (0 : Int)) (h1 := fun _ => rfl) hC).2.2 h
    exact ⟨ad, e, nums_cells hc⟩
  · rintro e w' ⟨A1, c1, rfl, hle, hnr, hb⟩
    refine ⟨A1, c1, rfl, hle, fun X hX w2 h2 => ⟨rfl, by omega, fun h => ?_⟩, hb⟩
    obtain ⟨g1, cur, rfl, hg, hbk, hcur⟩ := hnr h
    have hbk2 := h2.2 g1 _ (hX g1 hg) hbk rfl
    refine ⟨_, rfl, fun j p hj => ⟨[.int .i64 p], rfl, rfl, fun i u hu => ?_⟩⟩
    obtain rfl : i = 0 := by
      have := (List.getElem?_eq_some_iff.1 hu).1
      simp at this
      omega
    simp at hu
    subst hu
    have e2 : j * (Kd.int .i64).sz + 0 = j := Nat.mul_one j
    rw [e2, Addr.add_lit, Nat.zero_add]
    refine (blk_cell hbk2 j).trans (hcur j _ ?_)
    simp [nums, hj]
/-- slices.Clone of a row of operations: the inner rows stay where they are. -/
theorem clone_ops (A : Option Addr) (c : Nat) (xs : List S45) (og : Nat → Option Addr × Nat) (w : World) (h : OpsAt w A xs og) (hl : xs.length ≤ 1000000000) :
    Calls Try.prog 91 #[.slice A xs.length c] w fun e w' => ∃ A1 c1, e = .returned (.slice A1 xs.length c1) ∧ xs.length ≤ c1 ∧ NewRow w w' 45 xs.length ((List.range xs.length).flatMap fun k : Nat => opC (rd_T45 xs (k : Int)) (og k)) A1 ∧ Below w.heap.size w w' := by
  refine clone91 A xs.length c _ w (flat_len _ 6 (fun i => rfl) _) (fun u hu => ?_) hl (fun h0 => ?_)
  · obtain ⟨k, _, hk⟩ := List.mem_flatMap.1 hu
    simp only [opC, List.mem_cons, List.not_mem_nil, or_false] at hk
    rcases hk with rfl | rfl | rfl | rfl | rfl | rfl <;> rfl
  · obtain ⟨ad, e, _⟩ := (h 0 h0).out
    refine ⟨ad, e, fun j u hu => ?_⟩
    have hj := (List.getElem?_eq_some_iff.1 hu).1
    rw [flat_len _ 6 (fun i => rfl)] at hj
    have hj2 : j / 6 < xs.length := Nat.div_lt_of_lt_mul (by omega)
    have hjm : j % 6 < 6 := Nat.mod_lt _ (by decide)
    have ej : j / 6 * 6 + j % 6 = j := Nat.div_add_mod' j 6
    rw [← ej, flat_get (fun k : Nat => opC (rd_T45 xs (k : Int)) (og k)) 6 (fun i => rfl) xs.length (j / 6) (j % 6) hj2 hjm] at hu
    obtain ⟨ad', e', h0, h1, h2, h3, h4, h5⟩ := (h (j / 6) hj2).out
    cases e.symm.trans e'
    rw [← ej]
    generalize j / 6 = q at *
    generalize j % 6 = r at *
    have hr : r = 0 ∨ r = 1 ∨ r = 2 ∨ r = 3 ∨ r = 4 ∨ r = 5 := by omega
    rcases hr with rfl | rfl | rfl | rfl | rfl | rfl <;> (simp [opC] at hu; subst hu)
    · exact h0
    · rw [add_field _ _ 1 (by omega)]; exact h1
    · rw [add_field _ _ 2 (by omega)]; exact h2
    · rw [add_field _ _ 3 (by omega)]; exact h3
    · rw [add_field _ _ 4 (by omega)]; exact h4
    · rw [add_field _ _ 5 (by omega)]; exact h5
theorem clone_blks (A : Option Addr) (c : Nat) (bs : List S43) (bg : Nat → Option Addr × Nat) (w : World) (h : BlksAt w A bs bg) (hl : bs.length ≤ 1000000000) :
    Calls Try.prog 90 #[.slice A bs.length c] w fun e w' => ∃ A1 c1, e = .returned (.slice A1 bs.length c1) ∧ bs.length ≤ c1 ∧ NewRow w w' 43 bs.length ((List.range bs.length).flatMap fun k : Nat => blkC' (rd_T43 bs (k : Int)) (bg k)) A1 ∧ Below w.heap.size w w' := by
  refine clone90 A bs.length c _ w (flat_len _ 5 (fun i => rfl) _) (fun u hu => ?_) hl (fun h0 => ?_)
  · obtain ⟨k, _, hk⟩ := List.mem_flatMap.1 hu
    simp only [blkC', List.mem_cons, List.not_mem_nil, or_false] at hk
    rcases hk with rfl | rfl | rfl | rfl | rfl <;> rfl
  · obtain ⟨ad, e, _⟩ := (h 0 h0).out
    refine ⟨ad, e, fun j u hu => ?_⟩
    have hj := (List.getElem?_eq_some_iff.1 hu).1
    rw [flat_len _ 5 (fun i => rfl)] at hj
    have hj2 : j / 5 < bs.length := Nat.div_lt_of_lt_mul (by omega)
    have hjm : j % 5 < 5 := Nat.mod_lt _ (by decide)
    have ej : j / 5 * 5 + j % 5 = j := Nat.div_add_mod' j 5
    rw [← ej, flat_get (fun k : Nat => blkC' (rd_T43 bs (k : Int)) (bg k)) 5 (fun i => rfl) bs.length (j / 5) (j % 5) hj2 hjm] at hu
    obtain ⟨ad', e', h0, h1, h2, h3, h4⟩ := (h (j / 5) hj2).out
    cases e.symm.trans e'
    rw [← ej]
    generalize j / 5 = q at *
    generalize j % 5 = r at *
    have hr : r = 0 ∨ r = 1 ∨ r = 2 ∨ r = 3 ∨ r = 4 := by omega
    rcases hr with rfl | rfl | rfl | rfl | rfl <;> (simp [blkC'] at hu; subst hu)
    · exact h0
    · rw [add_field _ _ 1 (by omega)]; exact h1
    · rw [add_field _ _ 2 (by omega)]; exact h2
    · rw [add_field _ _ 3 (by omega)]; exact h3
    · rw [add_field _ _ 4 (by omega)]; exact h4
end Go.Proofs.Ytnkgbnbbmcoiiaa.S
