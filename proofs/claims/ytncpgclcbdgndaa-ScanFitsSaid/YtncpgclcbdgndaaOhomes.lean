import Derived.Test.YtncpgclcbdgndaaOhp
namespace Go.Proofs.Ytncpgclcbdgndaa.S
open Go.RowKit Go.Proofs.YtncpgclcbdgndaaW.PrintWords Go.Proofs.YtncpgclcbdgndaaW.PrintLast Go.Proofs.YtncpgclcbdgndaaW.PrintMore
set_option linter.unusedVariables false
/-! ### Homes -/
theorem c40_rep (n : Nat) : (madeCells #[.int .i64 0, .int .i64 0] (n * 2)) = (c40 (List.replicate n ⟨0, 0⟩)).toArray := by
  apply Array.ext_getElem?
  intro i
  by_cases hi : i < n * 2
  · have hl : i < (c40 (List.replicate n ⟨0, 0⟩)).length := by rw [c40_len, List.length_replicate]; omega
    have hz : ∀ m : Nat, m < n → (List.replicate n (⟨0, 0⟩ : S40))[m]? = some ⟨0, 0⟩ := fun m hm => by simp [List.getElem?_replicate, hm]
    obtain ⟨q, hq⟩ : ∃ q, i = q * 2 ∨ i = q * 2 + 1 := ⟨i / 2, by omega⟩
    have hqn : q < (List.replicate n (⟨0, 0⟩ : S40)).length := by rw [List.length_replicate]; omega
    obtain ⟨c0, c1⟩ := c40_at (List.replicate n ⟨0, 0⟩) q hqn
    have e : (madeCells #[Value.int .i64 0, Value.int .i64 0] (n * 2))[i]? = some (.int .i64 0) := by
      have h2 : i % 2 = 0 ∨ i % 2 = 1 := by omega
      rcases h2 with h2 | h2 <;> simp [madeCells, hi, h2]
    rw [e, List.getElem?_toArray]
    rcases hq with rfl | rfl
    · rw [c0]; simp
    · rw [c1]; simp
  · rw [Array.getElem?_eq_none (by rw [size_madeCells]; omega), List.getElem?_toArray, List.getElem?_eq_none (by rw [c40_len, List.length_replicate]; omega)]
theorem info40 : (Try.prog.info? 40).map (fun i => (i.zero, i.size, i.bytes)) = some (some (.agg #[.int .i64 0, .int .i64 0]), 2, 16) := by kernel_rfl
theorem make40 (n : Nat) (hn : n ≤ 4096) (w : World) : (Instr.makeSlice 24 (.int .i64 (n : Int)) (.int .i64 (n : Int))).run Try.prog w = .ok (.slice (some ⟨w.heap.size, 0, none⟩) n n) (w.alloc (.cells (c40 (List.replicate n ⟨0, 0⟩)).toArray 40)) := by
  obtain ⟨i0, hi, hzz⟩ := Option.map_eq_some_iff.1 info40
  simp only [Prod.mk.injEq] at hzz
  obtain ⟨hz0, hz1, hz2⟩ := hzz
  have hr := run_make (P := Try.prog) w 24 40 i0 _ Try.underlying24 hi hz0 .i64 .i64 (n : Int) (n : Int) (by omega) (by omega) (by rw [hz2]; omega) (by omega)
  simp only [Int.toNat_natCast] at hr
  rw [hz1] at hr
  rw [hr, ← c40_rep]
  rfl
structure HP (l : List S38) (a1 : Int) (w : World) (e : Ending) (w' : World) : Prop where mk :: (out : ∃ v0, (if rgt l [] = true ∧ 0 ≤ a1 ∧ a1 ≤ 16 then e = .returned (.tuple #[v0, .int .i64 0]) ∧ Kd.R k40 40 w' w.heap.size (fun _ => True) v0 (homesRow a1.toNat l) else e = .returned (.tuple #[v0, .int .i64 1]) ∧ v0 = .slice none 0 0) ∧ Below w.heap.size w w')
theorem hp_bad {l : List S38} {a1 : Int} {w w' : World} (h : ¬ (rgt l [] = true ∧ 0 ≤ a1 ∧ a1 ≤ 16)) (hB : Below w.heap.size w w') : HP l a1 w (.returned (.tuple #[.slice none 0 0, .int .i64 1])) w' := ⟨⟨_, by rw [if_neg h]; exact ⟨rfl, rfl⟩, hB⟩⟩
theorem hp_good {l : List S38} {a1 : Int} {w w' : World} {v0 : Value} (h : rgt l [] = true ∧ 0 ≤ a1 ∧ a1 ≤ 16) (hR : Kd.R k40 40 w' w.heap.size (fun _ => True) v0 (homesRow a1.toNat l)) (hB : Below w.heap.size w w') : HP l a1 w (.returned (.tuple #[v0, .int .i64 0])) w' := ⟨⟨_, by rw [if_pos h]; exact ⟨rfl, hR⟩, hB⟩⟩
set_option maxHeartbeats 8000000 in
set_option maxRecDepth 100000 in
theorem homes_bad (A : Option Addr) (c : Nat) (l : List S38) (a1 : Int) (w : World) (hr : Kd.C k38 w A l.length l) (hc : l.length ≤ c) (hb : ¬ (rgt l [] = true ∧ 0 ≤ a1 ∧ a1 ≤ 16)) :
    Calls Try.prog 10 #[.slice A l.length c, .int .i64 a1] w fun e w' => HP l a1 w e w' := by
  have hright := Aside0.mk (right_any A c l w hr)
  have HBad := Aside0.mk hb
  clear hr
  by_cases hg : rgt l [] = true
  · rw [hg] at hright
    by_cases h0 : a1 < 0
    · have b1 : decide (a1 < 0) = true := decide_eq_true h0
      clear hb hg h0
      go_enter Try.func10, Try.ntmps10
      go_wp2_with (go_at_call 13; refine hright.out.mono ?_; rintro e w5 ⟨rfl, hd⟩)
      go_ret2
      exact hp_bad HBad.out hd
    · have b1 : decide (a1 < 0) = false := decide_eq_false h0
      have b2 : decide (16 < a1) = true := decide_eq_true (Int.not_le.1 fun h => hb ⟨hg, by omega, h⟩)
      clear hb hg h0
      go_enter Try.func10, Try.ntmps10
      go_wp2_with (go_at_call 13; refine hright.out.mono ?_; rintro e w5 ⟨rfl, hd⟩)
      go_ret2
      exact hp_bad HBad.out hd
  · rw [Bool.eq_false_iff.2 hg] at hright
    clear hb hg
    go_enter Try.func10, Try.ntmps10
    go_wp2_with (go_at_call 13; refine hright.out.mono ?_; rintro e w5 ⟨rfl, hd⟩)
    go_ret2
    exact hp_bad HBad.out hd
theorem own_fr {w w1 : World} {base : Nat} {e : TypeId} {size n : Nat} {v : Value} {xs : List Value} (h : w.ownsRow base e size v n xs) {bs : List Nat} (hf : Fr w w1 bs) (hb : ∀ i ∈ bs, i < base) : w1.ownsRow base e size v n xs :=
  own_move h fun k hk => hf.block k (own_lt h k hk) (fun hm => by have := own_base h k hk; have := hb k hm; omega)
theorem sc_start {w w5 : World} {A : Option Addr} {l : List S38} (hl : Kd.C k38 w A l.length l) (hd : Below w.heap.size w w5) (c : Nat) :
    Sc w (((w5.alloc (.cells (c40 (List.replicate l.length ⟨0, 0⟩)).toArray 40)).alloc (.map #[] 0)).alloc (.cells #[.slice A l.length c, .slice (some ⟨w5.heap.size, 0, none⟩) l.length l.length, .map (some (w5.heap.size + 1)), .int .i64 0] 48)) (w5.heap.size + 1 + 1) A c l w5.heap.size l.length (List.replicate l.length ⟨0, 0⟩) (w5.heap.size + 1) [] 0 := by
  have hsz : ∀ (o : Obj), (w5.alloc o).heap.size = w5.heap.size + 1 := fun o => World.size_alloc _ _
  have hle := hd.size
  refine ⟨?_, hl, ?_, ?_, below_alloc (below_alloc (below_alloc hd _) _) _, by omega, by omega, by omega⟩
  · have := blk_new ((w5.alloc (.cells (c40 (List.replicate l.length ⟨0, 0⟩)).toArray 40)).alloc (.map #[] 0)) (.cells #[.slice A l.length c, .slice (some ⟨w5.heap.size, 0, none⟩) l.length l.length, .map (some (w5.heap.size + 1)), .int .i64 0] 48)
    rw [World.size_alloc, World.size_alloc] at this
    rw [List.length_replicate]
    exact this
  · exact blk_alloc (blk_alloc (blk_new w5 _) _) _
  · have h1 := IM.At.made (w5.alloc (.cells (c40 (List.replicate l.length ⟨0, 0⟩)).toArray 40))
    rw [World.size_alloc] at h1
    exact h1.alloc _
theorem R40_of {w : World} {base hb n : Nat} {H : List S40} (hh : w.heap[hb]? = some (.cells (c40 H).toArray 40 (0, 0))) (hn : H.length = n) (hbase : base ≤ hb) (hm : n ≤ 4096) : Kd.R k40 40 w base (fun _ => True) (.slice (some ⟨hb, 0, none⟩) n n) H := by
  refine ⟨fun _ _ => trivial, c40 H, ⟨?_, .inr ⟨hb, n, (c40 H).toArray, by rw [hn], hbase, hh, by omega, by simp [maxLen]; omega, ?_, ?_⟩⟩, ?_, ?_⟩
  · rw [c40_len]; exact Nat.mul_comm _ _
  · show (c40 H).toArray.size = n * 2
    rw [List.size_toArray, c40_len, hn]; exact Nat.mul_comm _ _
  · rw [List.take_of_length_le]
    show (c40 H).length ≤ H.length * 2
    rw [c40_len]; omega
  · rw [c40_len]; exact Nat.mul_comm _ _
  · intro j p hj
    obtain ⟨hl, hp⟩ := List.getElem?_eq_some_iff.1 hj
    obtain ⟨e0, e1⟩ := c40_at H j hl
    have e : ((c40 H).drop (j * 2)).take 2 = [.int .i64 p.f0, .int .i64 p.f1] := by
      apply List.ext_getElem?
      intro i
      rw [List.getElem?_take]
      split
      · rw [List.getElem?_drop]
        have : i = 0 ∨ i = 1 := by omega
        rcases this with rfl | rfl
        · rw [Nat.add_zero, e0, hp]; rfl
        · rw [e1, hp]; rfl
      · rw [List.getElem?_eq_none (by simp; omega)]
    show k40.M w base _ p (((c40 H).drop (j * 2)).take 2)
    rw [e]
    exact k40_mkM _ _ _ _
theorem meas {n j : Nat} (h : j < n) {x : Int} (e : x = ((j + 1 : Nat) : Int)) : n - (intOf (.int .i64 x)).toNat < n - (intOf (.int .i64 (j : Int))).toNat := by
  subst e
  have e1 : (intOf (.int .i64 ((j + 1 : Nat) : Int))).toNat = j + 1 := by simp [intOf]
  have e2 : (intOf (.int .i64 (j : Int))).toNat = j := by simp [intOf]
  rw [e1, e2]
  omega
theorem homes_succ (regs : Nat) (l : List S38) {j : Nat} (hj : j < (ordOf l).length) : Scan.homes regs (fF l) (fT l) (fR l) ((ordOf l).take (j + 1)) = Scan.step regs (fF l) (fT l) (fR l) (Scan.homes regs (fF l) (fT l) (fR l) ((ordOf l).take j)) (ordOf l)[j] := by
  unfold Scan.homes
  rw [List.take_succ_eq_append_getElem hj, List.foldl_append]
  rfl
set_option maxHeartbeats 8000000 in
set_option maxRecDepth 100000 in
theorem homes_good (A : Option Addr) (c : Nat) (l : List S38) (a1 : Int) (w : World) (hr : Kd.C k38 w A l.length l) (hc : l.length ≤ c) (hg : rgt l [] = true ∧ 0 ≤ a1 ∧ a1 ≤ 16) :
    Calls Try.prog 10 #[.slice A l.length c, .int .i64 a1] w fun e w' => HP l a1 w e w' := by
  have hu48 := Try.underlying48
  have hu38 := Try.underlying38
  have hu40 := Try.underlying40
  have hmm := @run_makeMap Try.prog
  have HR := Aside0.mk hr
  have hright := right_any A c l w hr
  rw [hg.1] at hright
  have hright := Aside0.mk hright
  have HG := Aside0.mk hg
  have HN := Aside0.mk (rgt_len hg.1)
  have hmk := make40 l.length (rgt_len hg.1)
  have b1 : decide (a1 < 0) = false := decide_eq_false (by omega)
  have b2 : decide (16 < a1) = false := decide_eq_false (by omega)
  clear hr hg
  go_enter Try.func10, Try.ntmps10
  go_wp2_with (first | (go_at_call 13; refine hright.out.mono ?_; rintro e w5 ⟨rfl, hd⟩; have HSC := Aside0.mk (sc_start HR.out hd c)) | (go_at_call 25; refine (order_any w _ A c l _ _ _ _ _ _ _ HSC.out (by have := HN.out; omega)).mono ?_; rintro e w6 ⟨v, ord, rfl, hp, hs, ho, hb6⟩; obtain ⟨A6, c6, rfl⟩ := own_slice ho; have HO := Aside0.mk ho; have HB6 := Aside0.mk hb6; have HPS := Aside0.mk (And.intro hp hs); clear hp hs ho hb6))
  have HORD : Aside0 (ord = ordOf l) := ⟨ord_unique HG.out.1 HPS.out.1 (HPS.out.2.imp fun h => Int.not_lt.2 h)⟩
  obtain rfl := HORD.out
  clear HORD HPS
  have HSZ : Aside0 ((((w5.alloc (.cells (c40 (List.replicate l.length ⟨0, 0⟩)).toArray 40)).alloc (.map #[] 0)).alloc (.cells #[.slice A l.length c, .slice (some ⟨w5.heap.size, 0, none⟩) l.length l.length, .map (some (w5.heap.size + 1)), .int .i64 0] 48)).heap.size = w5.heap.size + 3) := ⟨by rw [World.size_alloc, World.size_alloc, World.size_alloc]⟩
  have HO6 : Aside0 (w6.ownsRow (w5.heap.size + 3) 3 1 (.slice A6 l.length c6) l.length (nums .i64 ((ordOf l).map fun i : Nat => (i : Int)))) := ⟨by have := HO.out; rwa [HSZ.out] at this⟩
  have HSC6 := Aside0.mk (HSC.out.below HB6.out)
  clear HO HSC HB6 HSZ hd
  have HI := Aside0.mk (fun j => inv_take (l := l) HG.out.1 (regs := a1.toNat) (by have := HG.out; omega) j)
  go_loopw [31] (fun i wr => ∃ j : Nat, j ≤ l.length ∧ i = .int .i64 j ∧ ∃ (H : List S40) (act : List Nat) (sl : Nat), Aside0 (H.length = l.length) ∧ Aside0 (Sc w wr (w5.heap.size + 1 + 1) A c l w5.heap.size l.length H (w5.heap.size + 1) act (sl : Int)) ∧ Aside0 (Scan.homes a1.toNat (fF l) (fT l) (fR l) ((ordOf l).take j) = ⟨act, h0 H, h1 H, sl⟩) ∧ Aside0 (wr.ownsRow (w5.heap.size + 3) 3 1 (.slice A6 l.length c6) l.length (nums .i64 ((ordOf l).map fun i : Nat => (i : Int))))) (fun i _ => l.length - (intOf i).toNat)
  case atStart => exact ⟨0, Nat.zero_le _, rfl, _, _, 0, ⟨List.length_replicate⟩, HSC6, ⟨by rw [(h_rep _).1, (h_rep _).2]; rfl⟩, HO6⟩
  case round =>
    obtain ⟨j, hj, rfl, H, act, sl, HL, HSC, HST, HO⟩ := hrel
    clear HSC6 HO6 hmk hmm b1 b2
    by_cases hlt : j < l.length
    · have b3 : decide ((j : Int) < (l.length : Int)) = true := decide_eq_true (by omega)
      have hw1 : wrap64 ((j : Int) + 1) = ((j + 1 : Nat) : Int) := by have := HN.out; unfold wrap64; omega
      obtain ⟨g, cap, hA⟩ : ∃ g cap, A6 = some ⟨g, 0, none⟩ ∧ c6 = cap := by
        rcases HO.out.2 with ⟨_, h1⟩ | ⟨g, cap, cur, hv, _⟩
        · omega
        · injection hv with e1 e2 e3; exact ⟨g, cap, e1, e3⟩
      obtain ⟨rfl, rfl⟩ := hA
      have hjo : j < (ordOf l).length := by rw [ordOf_length]; exact hlt
      obtain ⟨k, hk⟩ : ∃ k, k = (ordOf l)[j] := ⟨_, rfl⟩
      have hkl : k < l.length := by rw [hk]; exact ordOf_mem.1 (List.getElem_mem hjo)
      have hcell := (own_at HO.out (j : Int) (by omega) (by omega)).1
      have hrd : rd ((ordOf l).map fun i : Nat => (i : Int)) (j : Int) = (k : Int) := by
        unfold rd
        rw [List.getD_eq_getElem?_getD, Int.toNat_natCast, List.getElem?_map, List.getElem?_eq_getElem hjo, ← hk]
        rfl
      rw [hrd] at hcell
      simp only [Int.toNat_natCast] at hcell
      obtain ⟨p, hI⟩ := HI.out j
      rw [HST.out] at hI
      have hmem : ∀ i ∈ (ordOf l).take j, i < l.length := fun i hi => ordOf_mem.1 (List.mem_of_mem_take hi)
      have hact : ∀ i ∈ act, i < l.length := fun i hi => hmem i ((hI.acts i).1 hi).1
      have hkt : k ∉ (ordOf l).take j := fun hm => by
        have hnd := ordOf_nodup (l := l)
        rw [← List.take_append_drop j (ordOf l), List.nodup_append] at hnd
        exact hnd.2.2 k hm k (by rw [hk, List.drop_eq_getElem_cons hjo]; exact List.mem_cons_self) rfl
      have hka : k ∉ act := fun hm => hkt ((hI.acts k).1 hm).1
      have HST1 : Aside0 (Scan.homes a1.toNat (fF l) (fT l) (fR l) ((ordOf l).take (j + 1)) = Scan.core a1.toNat (fT l) (fR l) k (Scan.expire (fF l) (fT l) k act) ⟨act, h0 H, h1 H, sl⟩) := ⟨by rw [homes_succ a1.toNat l hjo, HST.out, ← hk]; rfl⟩
      obtain ⟨act1, hact1⟩ : ∃ act1, act1 = act.filter fun i => decide (fF l k ≤ fT l i) := ⟨_, rfl⟩
      have HST2 : Aside0 (Scan.homes a1.toNat (fF l) (fT l) (fR l) ((ordOf l).take (j + 1)) = Scan.core a1.toNat (fT l) (fR l) k act1 ⟨act, h0 H, h1 H, sl⟩) := ⟨by rw [HST1.out, hact1]; rfl⟩
      have hsub : ∀ i ∈ act1, i ∈ act := fun i hi => by rw [hact1] at hi; exact (List.mem_filter.1 hi).1
      have HA1 : Aside0 (act1.Nodup ∧ (∀ i ∈ act1, i < l.length) ∧ k ∉ act1) := ⟨by rw [hact1]; exact hI.and.sublist (List.filter_sublist), fun i hi => hact i (hsub i hi), fun hm => hka (hsub k hm)⟩
      have HDOM : Aside0 (∀ i ∈ act1, i < H.length ∧ 0 ≤ (rd_T40 H (i : Int)).f0 ∧ (rd_T40 H (i : Int)).f0 < 16) := ⟨fun i hi => by
        have h2 := (hI.acts i).1 (hsub i hi)
        have h3 := hI.dom i h2.1
        have h4 : 0 ≤ h0 H i := h2.2.1
        refine ⟨by have := HL.out; have := hact i (hsub i hi); omega, h4, ?_⟩
        have := HG.out
        rcases h3 with ⟨h5, _⟩ | ⟨_, h5, _⟩
        · have h5 : h0 H i = -1 := h5
          omega
        · have h5 : h0 H i < (a1.toNat : Int) := h5
          show h0 H i < 16
          omega⟩
      have HINJ : Aside0 (∀ i ∈ k :: act1, ∀ j ∈ k :: act1, i ≠ j → (rd_T38 l (i : Int)).f0 ≠ (rd_T38 l (j : Int)).f0) := ⟨fun a ha b hb hab => by
        have q : ∀ x ∈ k :: act1, x < l.length := fun x hx => by
          rcases List.mem_cons.1 hx with rfl | hx
          · exact hkl
          · exact HA1.out.2.1 x hx
        exact rgt_inj HG.out.1 (q a ha) (q b hb) hab⟩
      have HSL : Aside0 (sl ≤ 4096) := ⟨by
        have h2 := hI.sl_le
        have h3 : sl ≤ ((ordOf l).take j).length := h2
        rw [List.length_take] at h3
        have := HN.out
        omega⟩
      have HAN := Aside0.mk (And.intro hI.and hact)
      have HKL := Aside0.mk hkl
      have HACT := Aside0.mk hact1
      clear hI hmem hact hkt hka HST1 hsub hk hrd hjo hact1
      obtain ⟨q0, q1, q2, q3⟩ := HSC.out.cells
      obtain ⟨ad, eA, f0, f1, f2⟩ := at_T38 HSC.out.hl (k : Int) (by omega) (by omega)
      simp only [Int.toNat_natCast] at f0 f1 f2
      subst eA
      have HFK : Aside0 ((rd_T38 l (k : Int)).f1 = fF l k) := ⟨rfl⟩
      generalize rd_T38 l (k : Int) = x at f0 f1 f2 HFK
      clear q1 q3
      by_cases hlen : act1.length < a1.toNat
      · have b4 : decide ((act1.length : Int) < a1) = true := decide_eq_true (by omega)
        have HLEN := Aside0.mk hlen
        clear hlen
        go_wp2_with (first
          | (go_at_call 26; refine (expire_any w _ _ c l _ _ H _ act (sl : Int) _ _ HSC.out HAN.out.1 HAN.out.2).mono ?_; rintro e w1 ⟨rfl, hsc1, hfr1⟩; have HSC1 : Aside0 (Sc w w1 (w5.heap.size + 1 + 1) (some ad) c l w5.heap.size l.length H (w5.heap.size + 1) act1 (sl : Int)) := ⟨by rw [HFK.out] at hsc1; rw [HACT.out]; exact hsc1⟩; have HO1 := Aside0.mk (own_fr HO.out hfr1 (by intro i hi; simp at hi; omega)); clear hsc1 hfr1; obtain ⟨q0, q1, q2, q3⟩ := HSC1.out.cells)
          | (at_len; refine IM.wpl_len _ rfl _ 46 rfl 3 4 Try.underlying46 _ _ rfl HSC1.out.hm ?_; rw [akeys_len])
          | (go_at_call 28; refine (free_any w _ _ c l _ _ H _ act1 (sl : Int) _ HSC1.out HA1.out.1 HDOM.out).mono ?_; rintro e w2 ⟨rfl, hb2⟩; have HSC2 := Aside0.mk (HSC1.out.below hb2); have HB2 := Aside0.mk hb2; clear hb2)
          | (go_at_call 27; refine (live_any w _ _ c l _ _ H _ act1 (sl : Int) k _ _ HSC2.out (by have := HL.out; have := HKL.out; omega) HA1.out.2.2).mono ?_; rintro e w3 ⟨rfl, hsc3, hfr3⟩; have HSC3 := Aside0.mk hsc3; have HFR3 := Aside0.mk hfr3; clear hsc3 hfr3))
        have HO3 := Aside0.mk (own_fr (pw_own_below HO1.out HB2.out) HFR3.out (by intro i hi; simp at hi; omega))
        have HL' := HL.out
        go_roundw
        case rel => exact ⟨j + 1, by omega, by go_num, _, _, sl, ⟨by rw [List.length_set]; exact HL'⟩, HSC3, ⟨by
          rw [HST2.out, h0_set (by have := HKL.out; omega), h1_set (by have := HKL.out; omega)]
          unfold Scan.core
          rw [if_pos HLEN.out]⟩, HO3⟩
        case measure => first | exact meas hlt hw1 | exact meas hlt rfl
      · have b4 : decide ((act1.length : Int) < a1) = false := decide_eq_false (by omega)
        have HLEN := Aside0.mk hlen
        clear hlen
        obtain ⟨m, hm⟩ : ∃ m, m = Scan.last (fun i => (rd_T38 l (i : Int)).f2) (fun i => (rd_T38 l (i : Int)).f0) act1 k := ⟨_, rfl⟩
        have HM : Aside0 (m = Scan.last (fT l) (fR l) act1 k) := ⟨hm⟩
        have hlast := fun W (h : Sc w W (w5.heap.size + 1 + 1) (some ad) c l w5.heap.size l.length H (w5.heap.size + 1) act1 (sl : Int)) => last_any w _ _ c l _ _ H _ act1 (sl : Int) k W h HA1.out.1 HA1.out.2.1 HKL.out HA1.out.2.2 HINJ.out
        rw [← hm] at hlast
        have HLAST := Aside0.mk hlast
        have hmem : m ∈ k :: act1 := by
          rw [hm]
          exact (Scan.last_spec act1 k HINJ.out).1
        clear hlast hm
        have HML : Aside0 (m < l.length) := ⟨by
          rcases List.mem_cons.1 hmem with rfl | h
          · exact HKL.out
          · exact HA1.out.2.1 m h⟩
        by_cases hmk : m = k
        · subst hmk
          clear hmem
          go_wp2_with (first
          | (go_at_call 26; refine (expire_any w _ _ c l _ _ H _ act (sl : Int) _ _ HSC.out HAN.out.1 HAN.out.2).mono ?_; rintro e w1 ⟨rfl, hsc1, hfr1⟩; have HSC1 : Aside0 (Sc w w1 (w5.heap.size + 1 + 1) (some ad) c l w5.heap.size l.length H (w5.heap.size + 1) act1 (sl : Int)) := ⟨by rw [HFK.out] at hsc1; rw [HACT.out]; exact hsc1⟩; have HO1 := Aside0.mk (own_fr HO.out hfr1 (by intro i hi; simp at hi; omega)); clear hsc1 hfr1; obtain ⟨q0, q1, q2, q3⟩ := HSC1.out.cells)
          | (at_len; refine IM.wpl_len _ rfl _ 46 rfl 3 4 Try.underlying46 _ _ rfl HSC1.out.hm ?_; rw [akeys_len])
          | (go_at_call 29; refine (HLAST.out _ HSC1.out).mono ?_; rintro e w2 ⟨rfl, hb2⟩; have HSC2 := Aside0.mk (HSC1.out.below hb2); have HB2 := Aside0.mk hb2; clear hb2)
          | (go_at_call 30; refine (spill_any w _ _ c l _ _ H _ act1 (sl : Int) m _ HSC2.out (by have := HL.out; have := HML.out; omega) (by omega) (by have := HSL.out; omega)).mono ?_; rintro e w3 ⟨rfl, hsc3, hfr3⟩; have HSC3 := Aside0.mk hsc3; have HFR3 := Aside0.mk hfr3; clear hsc3 hfr3))
          have HO3 := Aside0.mk (own_fr (pw_own_below HO1.out HB2.out) HFR3.out (by intro i hi; simp at hi; omega))
          have HL' := HL.out
          have HSC4 : Aside0 (Sc w w3 (w5.heap.size + 1 + 1) (some ad) c l w5.heap.size l.length (H.set m ⟨-1, (sl : Int)⟩) (w5.heap.size + 1) act1 ((sl + 1 : Nat) : Int)) := ⟨by
            have := HSC3.out
            rw [List.erase_of_not_mem HA1.out.2.2] at this
            exact this⟩
          clear HSC3
          go_roundw
          case rel => exact ⟨j + 1, by omega, by go_num, _, _, sl + 1, ⟨by rw [List.length_set]; exact HL'⟩, HSC4, ⟨by
            rw [HST2.out, h0_set (by have := HKL.out; omega), h1_set (by have := HKL.out; omega)]
            unfold Scan.core
            rw [if_neg HLEN.out, if_pos HM.out.symm]⟩, HO3⟩
          case measure => first | exact meas hlt hw1 | exact meas hlt rfl
        · have b5 : ((m : Int) != (k : Int)) = true := by simp; omega
          have hm1 : m ∈ act1 := by
            rcases List.mem_cons.1 hmem with h | h
            · exact absurd h hmk
            · exact h
          have HMK := Aside0.mk hmk
          have hmH : m < H.length := by have := HL.out; have := HML.out; omega
          have HMH := Aside0.mk hmH
          clear hmem hm1 hmk
          obtain ⟨e0, e1⟩ := c40_at H m hmH
          have HE0 := Aside0.mk e0
          clear e0 e1
          have HRM : Aside0 (H[m].f0 = h0 H m) := ⟨by unfold h0; rw [rd40 hmH]⟩
          go_wp2_with (first
          | (go_at_call 26; refine (expire_any w _ _ c l _ _ H _ act (sl : Int) _ _ HSC.out HAN.out.1 HAN.out.2).mono ?_; rintro e w1 ⟨rfl, hsc1, hfr1⟩; have HSC1 : Aside0 (Sc w w1 (w5.heap.size + 1 + 1) (some ad) c l w5.heap.size l.length H (w5.heap.size + 1) act1 (sl : Int)) := ⟨by rw [HFK.out] at hsc1; rw [HACT.out]; exact hsc1⟩; have HO1 := Aside0.mk (own_fr HO.out hfr1 (by intro i hi; simp at hi; omega)); clear hsc1 hfr1; obtain ⟨q0, q1, q2, q3⟩ := HSC1.out.cells)
          | (at_len; refine IM.wpl_len _ rfl _ 46 rfl 3 4 Try.underlying46 _ _ rfl HSC1.out.hm ?_; rw [akeys_len])
          | (go_at_call 29; refine (HLAST.out _ HSC1.out).mono ?_; rintro e w2 ⟨rfl, hb2⟩; have HSC2 := Aside0.mk (HSC1.out.below hb2); have HB2 := Aside0.mk hb2; clear hb2; obtain ⟨t0, t1, t2, t3⟩ := HSC2.out.cells; have hcm := blk_cell HSC2.out.hh (m * 2); rw [List.getElem?_toArray] at hcm; replace hcm := hcm.trans HE0.out; have hlm : m < H.length := HMH.out)
          | (go_at_call 27; refine (live_any w _ _ c l _ _ H _ act1 (sl : Int) k _ _ HSC2.out (by have := HL.out; have := HKL.out; omega) HA1.out.2.2).mono ?_; rintro e w3 ⟨rfl, hsc3, hfr3⟩; have HSC3 := Aside0.mk hsc3; have HFR3 := Aside0.mk hfr3; clear hsc3 hfr3)
          | (go_at_call 30; refine (spill_any w _ _ c l _ _ _ _ _ (sl : Int) m _ HSC3.out (by rw [List.length_set]; exact HMH.out) (by omega) (by have := HSL.out; omega)).mono ?_; rintro e w4 ⟨rfl, hsc4, hfr4⟩; have HSC4 := Aside0.mk hsc4; have HFR4 := Aside0.mk hfr4; clear hsc4 hfr4))
          have HO4 := Aside0.mk (own_fr (own_fr (pw_own_below HO1.out HB2.out) HFR3.out (by intro i hi; simp at hi; omega)) HFR4.out (by intro i hi; simp at hi; omega))
          have HL' := HL.out
          have HSC5 : Aside0 (Sc w w4 (w5.heap.size + 1 + 1) (some ad) c l w5.heap.size l.length ((H.set k ⟨H[m].f0, 0⟩).set m ⟨-1, (sl : Int)⟩) (w5.heap.size + 1) ((act1 ++ [k]).erase m) ((sl + 1 : Nat) : Int)) := ⟨HSC4.out⟩
          clear HSC4
          go_roundw
          case rel => exact ⟨j + 1, by omega, by go_num, _, _, sl + 1, ⟨by rw [List.length_set, List.length_set]; exact HL'⟩, HSC5, ⟨by
            rw [HST2.out, h0_set (by rw [List.length_set]; exact HMH.out), h1_set (by rw [List.length_set]; exact HMH.out), h0_set (by have := HKL.out; omega), h1_set (by have := HKL.out; omega)]
            have hne : ¬ Scan.last (fT l) (fR l) act1 k = k := by rw [← HM.out]; exact HMK.out
            unfold Scan.core
            rw [if_neg HLEN.out, if_neg hne, ← HM.out, HRM.out]⟩, HO4⟩
          case measure => first | exact meas hlt hw1 | exact meas hlt rfl
    · have b3 : decide ((j : Int) < (l.length : Int)) = false := decide_eq_false (by omega)
      obtain rfl : j = l.length := by omega
      obtain ⟨q0, q1, q2, q3⟩ := HSC.out.cells
      rw [HL.out] at q1
      go_wp2_with fail
      go_ret2
      refine hp_good HG.out ?_ HSC.out.hw
      have e : homesRow a1.toNat l = H := by
        rw [row_of HL.out]
        unfold homesRow
        have h2 := HST.out
        rw [List.take_of_length_le (by rw [ordOf_length]; exact Nat.le_refl _)] at h2
        rw [h2]
      rw [e]
      exact R40_of HSC.out.hh HL.out HSC.out.lh HN.out
theorem scan_Homes.calls (A0 : Option Addr) (c0 : Nat) (l0 : List S38) (a1 : Int) (r1 : List S40) (r2 : Int) (w : World) (hr0 : Kd.C k38 w A0 l0.length l0) (hc0 : l0.length ≤ c0) (h : scan_Homes.f l0 a1 = some (r1, r2)) :
    Calls Try.prog 10 #[.slice A0 l0.length c0, .int .i64 a1] w fun e w' => ∃ v0_, e = .returned (.tuple #[v0_, .int .i64 r2]) ∧ Kd.R k40 40 w' w.heap.size (fun _ => True) v0_ r1 ∧ Below w.heap.size w w' := by
  have e := Option.some.inj h
  by_cases hg : rgt l0 [] = true ∧ 0 ≤ a1 ∧ a1 ≤ 16
  · rw [if_pos hg] at e
    cases e
    refine (homes_good A0 c0 l0 a1 w hr0 hc0 hg).mono ?_
    rintro e w' ⟨v0, h1, h2⟩
    rw [if_pos hg] at h1
    exact ⟨v0, h1.1, h1.2, h2⟩
  · rw [if_neg hg] at e
    cases e
    refine (homes_bad A0 c0 l0 a1 w hr0 hc0 hg).mono ?_
    rintro e w' ⟨v0, h1, h2⟩
    rw [if_neg hg] at h1
    obtain ⟨h1, rfl⟩ := h1
    exact ⟨_, h1, Kd.R_nil _ _ _ _ _, h2⟩
end Go.Proofs.Ytncpgclcbdgndaa.S
