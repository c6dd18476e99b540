import Derived.Test.YtmfcmjcgajjiiaaDoorOfind
namespace Go.Proofs.YtmfcmjcgajjiiaaDoor.S
open Go.RowKit Go.IM Go.Proofs.YtmfcmjcgajjiiaaDoorW.PrintWords Go.Proofs.YtmfcmjcgajjiiaaDoorW.PrintLast Go.Proofs.YtmfcmjcgajjiiaaDoorW.PrintMore
set_option linter.unusedVariables false
set_option maxHeartbeats 4000000 in
set_option maxRecDepth 100000 in
/-- find, where a line may not be. -/
theorem find_bad (K : Nat) (A : Option Addr) (c : Nat) (l : List S38) (rt : S38 → Bool) (w : World) (hC : Kd.C k38 w A l.length l) (hR : ∀ x ∈ l, rtA K x = some (rt x)) (hall : l.all rt = false) :
    Calls Tryd.prog 22 #[.slice A l.length c] w fun e w' => e = .returned (.tuple #[.map none, .int .i64 1]) ∧ Below w.heap.size w w' := by
  have hcall := contains_any K A c l rt ((w.alloc (.cells #[.map none] 48)).alloc (.cells #[.int .i64 0] 25)) (Kd.C_below hC (below_alloc (below_alloc (Below.refl _ _) _) _)) hR
  rw [hall] at hcall
  have HCA := Aside0.mk hcall
  clear hcall hC hR hall
  go_enter Tryd.func22, Tryd.ntmps22
  go_wp2_with (go_at_call 38; refine HCA.out.mono ?_; rintro e w1 ⟨rfl, hb1⟩; have HB1 := Aside0.mk hb1; clear hb1; have h0 := blk_below (blk_alloc (blk_new w (.cells #[.map none] 48)) (.cells #[.int .i64 0] 25)) HB1.out; have h1 := blk_below (blk_new (w.alloc (.cells #[.map none] 48)) (.cells #[.int .i64 0] 25)) HB1.out; rw [World.size_alloc] at h1; have c0 := blk_cell h0 0; have c1 := blk_cell h1 0; have f0 := blk_frozen h0 0; have f1 := blk_frozen h1 0; simp only [List.getElem?_toArray, List.getElem?_cons_zero] at c0 c1; have H0 := Aside0.mk h0; have H1 := Aside0.mk h1; clear h0 h1)
  have g0 := blk_far (blk_set H0.out 0 (.map none)) (p := ⟨w.heap.size + 1, 0, none⟩) (by simp) (.int .i64 1)
  have g1 := blk_set (blk_far H1.out (p := ⟨w.heap.size, 0, none⟩) (by simp) (.map none)) 0 (.int .i64 1)
  have c0 := blk_cell g0 0
  have c1 := blk_cell g1 0
  simp only [List.setIfInBounds_toArray, List.set_cons_zero, List.getElem?_toArray, List.getElem?_cons_zero] at c0 c1
  refine bodyPost_ret (v := .tuple #[.map none, .int .i64 1]) (by simp [results, Tryd.results22, go_sem, c0, c1]) rfl ⟨rfl, ?_⟩
  have hb := below_then (below_alloc (below_alloc (Below.refl w.heap.size w) (.cells #[.map none] 48)) (.cells #[.int .i64 0] 25)) (by simp only [World.size_alloc]; omega) HB1.out
  exact (hb.setCell (p := ⟨w.heap.size, 0, none⟩) (Nat.le_refl _) _).setCell (p := ⟨w.heap.size + 1, 0, none⟩) (by show w.heap.size ≤ w.heap.size + 1; omega) _
/-- The values of a map of find's are whole numbers. -/
theorem st_int {es : List (Int × Value)} {k n : Int} (h : ∀ p ∈ es, ∃ m, p.2 = Value.int .i64 m) : ∀ p ∈ st es k (.int .i64 n), ∃ m, p.2 = Value.int .i64 m := by
  induction es with
  | nil => intro p hp; simp [st] at hp; subst hp; exact ⟨_, rfl⟩
  | cons q es ih =>
    intro p hp
    unfold st at hp
    split at hp
    · rcases List.mem_cons.1 hp with rfl | hp
      · exact ⟨_, rfl⟩
      · exact h p (List.mem_cons_of_mem _ hp)
    · rcases List.mem_cons.1 hp with rfl | hp
      · exact h p List.mem_cons_self
      · exact ih (fun r hr => h r (List.mem_cons_of_mem _ hr)) p hp
theorem lk_mem {es : List (Int × Value)} {k : Int} {v : Value} (h : lk es k = some v) : ∃ p ∈ es, p.2 = v := by
  induction es with
  | nil => cases h
  | cons q es ih =>
    unfold lk at h
    split at h
    · injection h with h; exact ⟨q, List.mem_cons_self, h⟩
    · obtain ⟨p, hp, he⟩ := ih h; exact ⟨p, List.mem_cons_of_mem _ hp, he⟩
theorem foldl_stp_int (xs : List S38) : ∀ (pre : List Nat) (o : Option (List (Int × Value))) (es : List (Int × Value)), (∀ es', o = some es' → ∀ p ∈ es', ∃ m, p.2 = Value.int .i64 m) → pre.foldl (stp xs) o = some es → ∀ p ∈ es, ∃ m, p.2 = Value.int .i64 m
  | [], o, es, h, he => h es he
  | x :: pre, o, es, h, he => by
    refine foldl_stp_int xs pre (stp xs o x) es ?_ he
    intro es' h'
    unfold stp at h'
    obtain ⟨e0, h0, h1⟩ := Option.bind_eq_some_iff.1 h'
    split at h1
    · injection h1 with h1; subst h1; exact h e0 h0
    · split at h1
      · cases h1
      · injection h1 with h1; subst h1; exact st_int (h e0 h0)
theorem fs_int {xs : List S38} {pre : List Nat} {es : List (Int × Value)} (h : fs xs pre = some es) : ∀ p ∈ es, ∃ m, p.2 = Value.int .i64 m :=
  foldl_stp_int xs pre (some []) es (fun es' h' => by injection h' with h'; subst h'; simp) h
def intV : Value → Int
  | .int _ n => n
  | _ => 0
/-- One line more. -/
def asS (es : List (Int × Value)) (o : Option (List S32)) (x : S38) : Option (List S32) := o.bind fun out => if x.f0 = 0 then (if x.f2 = 0 then some (out ++ [x.f1]) else match lk es x.f2 with
  | none => none
  | some v => some (out ++ [⟨x.f1.f0, x.f1.f1, x.f1.f2, x.f1.f3, intV v⟩])) else some out
def asG (es : List (Int × Value)) (l : List S38) : Option (List S32) := l.foldl (asS es) (some [])
theorem asG_snoc (es : List (Int × Value)) (l : List S38) (x : S38) : asG es (l ++ [x]) = asS es (asG es l) x := by simp [asG]
theorem asS_none (es : List (Int × Value)) (l : List S38) : l.foldl (asS es) none = none := by
  induction l with
  | nil => rfl
  | cons x l ih => exact ih
theorem asG_none {es : List (Int × Value)} {l : List S38} {j : Nat} (h : asG es (l.take j) = none) : asG es l = none := by
  rw [← List.take_append_drop j l]
  unfold asG at h ⊢
  rw [List.foldl_append, h, asS_none]
theorem asG_len {es : List (Int × Value)} : ∀ {l : List S38} {out : List S32}, asG es l = some out → out.length ≤ l.length := by
  have key : ∀ (l : List S38) (o : List S32) (out : List S32), l.foldl (asS es) (some o) = some out → out.length ≤ o.length + l.length := by
    intro l
    induction l with
    | nil => intro o out h; injection h with h; subst h; simp
    | cons x l ih =>
      intro o out h
      rw [List.foldl_cons] at h
      cases hx : asS es (some o) x with
      | none => rw [hx, asS_none] at h; cases h
      | some o' =>
        rw [hx] at h
        have h1 := ih o' out h
        have h2 : o'.length ≤ o.length + 1 := by
          unfold asS at hx
          simp only [Option.bind_some] at hx
          split at hx
          · split at hx
            · injection hx with hx; subst hx; simp
            · split at hx
              · cases hx
              · injection hx with hx; subst hx; simp
          · injection hx with hx; subst hx; omega
        simp only [List.length_cons]
        omega
  intro l out h
  have := key l [] out h
  simpa using this
/-- What Assemble answers. -/
def asmR (rt : S38 → Bool) (l : List S38) : List S32 × Int :=
  if l.all rt = false then ([], 1) else match fs l (List.range l.length) with
  | none => ([], 4)
  | some es => match asG es l with
    | none => ([], 3)
    | some out => if 1048576 < out.length then ([], 5) else (out, 0)
def AsmP (r : List S32 × Int) (w : World) (e : Ending) (w' : World) : Prop := ∃ v, e = .returned (.tuple #[v, .int .i64 r.2]) ∧ Kd.R k32 32 w' w.heap.size (fun _ => True) v r.1 ∧ Below w.heap.size w w'
set_option maxHeartbeats 4000000 in
set_option maxRecDepth 100000 in
/-- Assemble, where find ends with an error. -/
theorem asm_err (A : Option Addr) (c : Nat) (n : Nat) (er : Int) (w : World) (her : er = 1 ∨ er = 4) (hf : Calls Tryd.prog 22 #[.slice A n c] w fun e w' => e = .returned (.tuple #[.map none, .int .i64 er]) ∧ Below w.heap.size w w') :
    Calls Tryd.prog 8 #[.slice A n c] w (AsmP ([], er) w) := by
  have HF := Aside0.mk hf
  have b1 : (er != 0) = true := bne_iff_ne.2 (by omega)
  have HE := Aside0.mk her
  clear hf her
  go_enter Tryd.func8, Tryd.ntmps8
  go_wp2_with (go_at_call 22; refine HF.out.mono ?_; rintro e w1 ⟨rfl, hb1⟩)
  refine bodyPost_ret (v := .tuple #[.slice none 0 0, .int .i64 er]) (by simp [results, Tryd.results8, go_sem]) rfl ⟨_, rfl, Kd.R_nil _ _ _ _ _, hb1⟩
theorem map_ne_row {α : Type} {d : Kd α} {W : World} {mb base e : Nat} {es : List (Int × Value)} {ok : Nat → Prop} {v : Value} {xs : List α} (hm : At W mb es) (hr : d.R e W base ok v xs) : some mb ≠ v.ownBlock := by
  intro h
  obtain ⟨_, inner, ho, _⟩ := hr
  obtain ⟨cells, hc⟩ := own_typed ho mb h.symm
  exact hm.not_cells hc rfl
end Go.Proofs.YtmfcmjcgajjiiaaDoor.S
namespace Go.Proofs.YtmfcmjcgajjiiaaDoor.S
open Go.RowKit Go.IM Go.Proofs.YtmfcmjcgajjiiaaDoorW.PrintWords Go.Proofs.YtmfcmjcgajjiiaaDoorW.PrintLast Go.Proofs.YtmfcmjcgajjiiaaDoorW.PrintMore
set_option linter.unusedVariables false
theorem info32' : (Tryd.prog.info? 32).map (fun i => (i.zero, i.size, i.bytes)) = some (some (.agg #[.int .i64 0, .int .i64 0, .int .i64 0, .int .i64 0, .int .i64 0]), 5, 40) := by kernel_rfl
def asmEnd (o : Option (List S32)) : List S32 × Int := match o with
  | none => ([], 3)
  | some out => if 1048576 < out.length then ([], 5) else (out, 0)
theorem asmEnd_none : asmEnd none = ([], 3) := rfl
theorem asmEnd_some (out : List S32) : asmEnd (some out) = if 1048576 < out.length then ([], 5) else (out, 0) := rfl
theorem own_slice_R {α : Type} {d : Kd α} {e : Nat} {w : World} {base : Nat} {ok : Nat → Prop} {v : Value} {xs : List α} (h : d.R e w base ok v xs) : ∃ A c, v = .slice A xs.length c ∧ xs.length ≤ c := OwnRow.slice_ h.2
set_option maxHeartbeats 8000000 in
set_option maxRecDepth 100000 in
theorem asm_ok (A : Option Addr) (c : Nat) (l : List S38) (es : List (Int × Value)) (w : World) (hC : Kd.C k38 w A l.length l) (hlen : l.length ≤ 1000000000000) (hint : ∀ p ∈ es, ∃ m, p.2 = Value.int .i64 m)
    (hf : Calls Tryd.prog 22 #[.slice A l.length c] w fun e w' => ∃ mb, e = .returned (.tuple #[.map (some mb), .int .i64 0]) ∧ At w' mb es ∧ w.heap.size ≤ mb ∧ Below w.heap.size w w') :
    Calls Tryd.prog 8 #[.slice A l.length c] w (AsmP (asmEnd (asG es l)) w) := by
  have hu38 := Tryd.underlying38
  have hu32 := Tryd.underlying32
  have HF := Aside0.mk hf
  have HC := Aside0.mk hC
  have HI := Aside0.mk hint
  clear hf hC hint
  go_enter Tryd.func8, Tryd.ntmps8
  go_wp2_with (go_at_call 22; refine HF.out.mono ?_; rintro e w1 ⟨mb, rfl, hat, hmb, hb1⟩; have HAT1 := Aside0.mk hat; have HB1 := Aside0.mk hb1; clear hat hb1)
  go_loopw [6, 21] (fun v i wr => ∃ (j : Nat) (out : List S32), j ≤ l.length ∧ i = .int .i64 (j : Int) ∧ Aside0 (asG es (l.take j) = some out) ∧ Aside0 (Kd.R k32 32 wr w.heap.size (fun _ => True) v out) ∧ Aside0 (At wr mb es) ∧ Aside0 (Below w.heap.size w wr)) (fun _ i _ => l.length - (intOf i).toNat)
  case atStart => exact ⟨0, [], Nat.zero_le _, rfl, ⟨rfl⟩, ⟨Kd.R_nil _ _ _ _ _⟩, HAT1, HB1⟩
  case round =>
    obtain ⟨j, out, hj, rfl, HG, HO, HAT, HB⟩ := hrel
    have HOL : Aside0 (out.length ≤ 1000000000000) := ⟨by have := asG_len HG.out; rw [List.length_take] at this; omega⟩
    by_cases hlt : j < l.length
    · have b1 : decide ((j : Int) < (l.length : Int)) = true := decide_eq_true (by omega)
      obtain ⟨ad, eA, k0, k1, k2, k3, k4, k5, k6⟩ := at_T38 (Kd.C_below HC.out HB.out) (j : Int) (by omega) (by omega)
      simp only [Int.toNat_natCast] at k0 k1 k2 k3 k4 k5 k6
      have hS := asG_snoc es (l.take j) (rd_T38 l (j : Int))
      rw [← take_snoc38 hlt, HG.out] at hS
      unfold asS at hS
      simp only [Option.bind_some] at hS
      have HS := Aside0.mk hS
      clear hS
      generalize rd_T38 l (j : Int) = y at k0 k1 k2 k3 k4 k5 k6 HS
      subst eA
      by_cases hz : y.f0 = 0
      · have hzb : (y.f0 != 0) = false := bne_eq_false_iff_eq.2 hz
        by_cases ht : y.f2 = 0
        · have htb : (y.f2 != 0) = false := bne_eq_false_iff_eq.2 ht
          have HS2 : Aside0 (asG es (l.take (j + 1)) = some (out ++ [y.f1])) := ⟨by rw [HS.out, if_pos hz, if_pos ht]⟩
          clear hz ht HS
          have HO1 := Aside0.mk (Kd.R_below HO.out (below_alloc (Below.refl _ _) (.cells #[.int .i64 y.f0, .int .i64 y.f1.f0, .int .i64 y.f1.f1, .int .i64 y.f1.f2, .int .i64 y.f1.f3, .int .i64 y.f1.f4, .int .i64 y.f2] 38)))
          have HB1 := Aside0.mk (below_alloc HB.out (.cells #[.int .i64 y.f0, .int .i64 y.f1.f0, .int .i64 y.f1.f1, .int .i64 y.f1.f2, .int .i64 y.f1.f3, .int .i64 y.f1.f4, .int .i64 y.f2] 38))
          have HA1 := Aside0.mk (HAT.out.alloc (.cells #[.int .i64 y.f0, .int .i64 y.f1.f0, .int .i64 y.f1.f1, .int .i64 y.f1.f2, .int .i64 y.f1.f3, .int .i64 y.f1.f4, .int .i64 y.f2] 38))
          go_wp2_with (at_builtin; refine Kd.R_append k32 (w0 := w) w.heap.size rfl _ _ 24 32 (.agg #[.int .i64 0, .int .i64 0, .int .i64 0, .int .i64 0, .int .i64 0]) 40 rfl Tryd.underlying24 info32' rfl (by decide) (by omega) u6 out y.f1 [.int .i64 y.f1.f0, .int .i64 y.f1.f1, .int .i64 y.f1.f2, .int .i64 y.f1.f3, .int .i64 y.f1.f4] (fun _ => True) (fun _ => False) rfl (by rw [World.size_alloc]; rfl) (k32_mkM _ _ _ _) (fun _ hk => hk.elim) (fun _ _ => trivial) HO1.out HB1.out HB1.out.size (by have := HOL.out; omega) ?_; intro v1 w2 ho2 hb2 hg2 hat2)
          have HA2 := Aside0.mk (HA1.out.kept hg2 (map_ne_row HA1.out HO1.out))
          go_roundw
          case rel => exact ⟨j + 1, _, by omega, by go_num, HS2, ⟨ho2⟩, HA2, ⟨hb2⟩⟩
          case measure => simp [intOf]; omega
        · have htb : (y.f2 != 0) = true := bne_iff_ne.2 ht
          have hlk := (HAT.out.alloc (.cells #[.int .i64 y.f0, .int .i64 y.f1.f0, .int .i64 y.f1.f1, .int .i64 y.f1.f2, .int .i64 y.f1.f3, .int .i64 y.f1.f4, .int .i64 y.f2] 38)).lookup Tryd.underlying48 Tryd.underlying3 (zero3 _) y.f2 true
          simp only [if_true] at hlk
          cases hl : lk es y.f2 with
          | none =>
            rw [hl] at hlk
            simp only [Option.getD_none, Option.isSome_none] at hlk
            have HS2 : Aside0 (asG es l = none) := ⟨asG_none (j := j + 1) (by rw [HS.out, if_pos hz, if_neg ht, hl])⟩
            clear hz ht hl HS
            go_wp2_with fail
            refine bodyPost_ret (v := .tuple #[.slice none 0 0, .int .i64 3]) (by simp [results, Tryd.results8, go_sem]) rfl ?_
            rw [HS2.out, asmEnd_none]
            exact ⟨_, rfl, Kd.R_nil _ _ _ _ _, below_alloc HB.out _⟩
          | some u =>
            obtain ⟨p, hp, hpu⟩ := lk_mem hl
            obtain ⟨m, hm⟩ := HI.out p hp
            rw [hpu] at hm
            subst hm
            rw [hl] at hlk
            simp only [Option.getD_some, Option.isSome_some] at hlk
            have HS2 : Aside0 (asG es (l.take (j + 1)) = some (out ++ [⟨y.f1.f0, y.f1.f1, y.f1.f2, y.f1.f3, m⟩])) := ⟨by rw [HS.out, if_pos hz, if_neg ht, hl]; rfl⟩
            clear hz ht hl HS hp hpu
            have HO1 := Aside0.mk (Kd.R_below HO.out (below_alloc (Below.refl _ _) (.cells #[.int .i64 y.f0, .int .i64 y.f1.f0, .int .i64 y.f1.f1, .int .i64 y.f1.f2, .int .i64 y.f1.f3, .int .i64 m, .int .i64 y.f2] 38)))
            have HB1 := Aside0.mk (below_alloc HB.out (.cells #[.int .i64 y.f0, .int .i64 y.f1.f0, .int .i64 y.f1.f1, .int .i64 y.f1.f2, .int .i64 y.f1.f3, .int .i64 m, .int .i64 y.f2] 38))
            have HA1 := Aside0.mk (HAT.out.alloc (.cells #[.int .i64 y.f0, .int .i64 y.f1.f0, .int .i64 y.f1.f1, .int .i64 y.f1.f2, .int .i64 y.f1.f3, .int .i64 m, .int .i64 y.f2] 38))
            go_wp2_with (at_builtin; refine Kd.R_append k32 (w0 := w) w.heap.size rfl _ _ 24 32 (.agg #[.int .i64 0, .int .i64 0, .int .i64 0, .int .i64 0, .int .i64 0]) 40 rfl Tryd.underlying24 info32' rfl (by decide) (by omega) u6 out ⟨y.f1.f0, y.f1.f1, y.f1.f2, y.f1.f3, m⟩ [.int .i64 y.f1.f0, .int .i64 y.f1.f1, .int .i64 y.f1.f2, .int .i64 y.f1.f3, .int .i64 m] (fun _ => True) (fun _ => False) rfl (by rw [World.size_alloc]; rfl) (k32_mkM _ _ _ _) (fun _ hk => hk.elim) (fun _ _ => trivial) HO1.out HB1.out HB1.out.size (by have := HOL.out; omega) ?_; intro v1 w2 ho2 hb2 hg2 hat2)
            have HA2 := Aside0.mk (HA1.out.kept hg2 (map_ne_row HA1.out HO1.out))
            go_roundw
            case rel => exact ⟨j + 1, _, by omega, by go_num, HS2, ⟨ho2⟩, HA2, ⟨hb2⟩⟩
            case measure => simp [intOf]; omega
      · have hzb : (y.f0 != 0) = true := bne_iff_ne.2 hz
        have HS2 : Aside0 (asG es (l.take (j + 1)) = some out) := ⟨by rw [HS.out, if_neg hz]⟩
        clear hz HS
        go_wp2_with fail
        go_roundw
        case rel => exact ⟨j + 1, out, by omega, by go_num, HS2, ⟨Kd.R_below HO.out (below_alloc (Below.refl _ _) _)⟩, ⟨HAT.out.alloc _⟩, ⟨below_alloc HB.out _⟩⟩
        case measure => simp [intOf]; omega
    · have b1 : decide ((j : Int) < (l.length : Int)) = false := decide_eq_false (by omega)
      obtain rfl : j = l.length := by omega
      have hg := HG.out
      rw [List.take_length] at hg
      have HG2 := Aside0.mk hg
      clear hg
      obtain ⟨A6, k6, hv, hk6⟩ := own_slice_R HO.out
      subst hv
      by_cases hbig : 1048576 < out.length
      · have b2 : decide ((1048576 : Int) < (out.length : Int)) = true := decide_eq_true (by omega)
        have HBIG := Aside0.mk hbig
        clear hbig
        go_wp2_with fail
        refine bodyPost_ret (v := .tuple #[.slice none 0 0, .int .i64 5]) (by simp [results, Tryd.results8, go_sem]) rfl ?_
        rw [HG2.out, asmEnd_some, if_pos HBIG.out]
        exact ⟨_, rfl, Kd.R_nil _ _ _ _ _, HB.out⟩
      · have b2 : decide ((1048576 : Int) < (out.length : Int)) = false := decide_eq_false (by omega)
        have HBIG := Aside0.mk hbig
        clear hbig
        go_wp2_with fail
        refine bodyPost_ret (v := .tuple #[.slice A6 out.length k6, .int .i64 0]) (by simp [results, Tryd.results8, go_sem]) rfl ?_
        rw [HG2.out, asmEnd_some, if_neg HBIG.out]
        exact ⟨_, rfl, HO.out, HB.out⟩
/-- Assemble. -/
theorem asm_any (K : Nat) (A : Option Addr) (c : Nat) (l : List S38) (rt : S38 → Bool) (w : World) (hC : Kd.C k38 w A l.length l) (hR : ∀ x ∈ l, rtA K x = some (rt x)) (hlen : l.length ≤ 1000000000000) :
    Calls Tryd.prog 8 #[.slice A l.length c] w (AsmP (asmR rt l) w) := by
  unfold asmR
  cases hall : l.all rt with
  | false =>
    rw [if_pos rfl]
    exact asm_err A c _ 1 w (.inl rfl) (find_bad K A c l rt w hC hR hall)
  | true =>
    rw [if_neg (by simp)]
    have hf := callsIn_wide.1 (find_in K A c l rt w hC hR hlen hall)
    cases hs : fs l (List.range l.length) with
    | none =>
      refine asm_err A c _ 4 w (.inr rfl) (hf.mono fun e w' h => ?_)
      rcases h with ⟨_, es, h, _⟩ | ⟨_, h1, h2⟩
      · rw [hs] at h; cases h
      · exact ⟨h1, h2⟩
    | some es =>
      refine asm_ok A c l es w hC hlen (fs_int hs) (hf.mono fun e w' h => ?_)
      rcases h with ⟨mb, es', h, h1, h2, h3, h4⟩ | ⟨h, _⟩
      · rw [hs] at h; injection h with h; subst h; exact ⟨mb, h1, h2, h3, h4⟩
      · rw [hs] at h; cases h
/-- Assemble, as the print takes it. -/
def asm_Assemble.f (l : List S38) : Option (List S32 × Int) := if l.length ≤ 1000000000000 ∧ (l.all fun x => (rtA 30 x).isSome) = true then some (asmR (fun x => (rtA 30 x).getD false) l) else none
theorem asm_Assemble.calls (A0 : Option Addr) (c0 : Nat) (l0 : List S38) (r1 : List S32) (r2 : Int) (w : World) (hr0 : Kd.C k38 w A0 l0.length l0) (hc0 : l0.length ≤ c0) (h : asm_Assemble.f l0 = some (r1, r2)) :
    Calls Tryd.prog 8 #[.slice A0 l0.length c0] w fun e w' => ∃ v0_ : Value, e = .returned (.tuple #[v0_, .int .i64 r2]) ∧ Kd.R k32 32 w' w.heap.size (fun _ => True) v0_ r1 ∧ Below w.heap.size w w' := by
  unfold asm_Assemble.f at h
  split at h
  · rename_i hc
    injection h with h
    have := asm_any 30 A0 c0 l0 (fun x => (rtA 30 x).getD false) w hr0 (fun x hx => by
      have := List.all_eq_true.1 hc.2 x hx
      obtain ⟨b, hb⟩ := Option.isSome_iff_exists.1 this
      rw [hb]; rfl) hc.1
    rw [h] at this
    exact this
  · cases h
end Go.Proofs.YtmfcmjcgajjiiaaDoor.S
