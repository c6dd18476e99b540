import Derived.Test.YtmfcmjcgajjiiaaDoorOasm2
import Derived.Test.YtmfcmjcgajjiiaaDoorOkeys
namespace Go.Proofs.YtmfcmjcgajjiiaaDoor.S
open Go.RowKit Go.IM Go.Proofs.YtmfcmjcgajjiiaaDoorW.PrintWords Go.Proofs.YtmfcmjcgajjiiaaDoorW.PrintLast Go.Proofs.YtmfcmjcgajjiiaaDoorW.PrintMore
set_option linter.unusedVariables false
theorem info46' : (Tryd.prog.info? 46).map (fun i => (i.zero, i.size, i.bytes)) = some (some (.agg #[.int .i64 0, .int .i64 0]), 2, 16) := by kernel_rfl
/-- A label with its place. -/
def plP (es : List (Int × Value)) (k : Int) : S46 := ⟨k, intV ((lk es k).getD (.int .i64 0))⟩
def sortK (es : List (Int × Value)) : List Int := (keysOf es).mergeSort fun x y => decide (x ≤ y)
/-- What Places answers. -/
def plaR (rt : S38 → Bool) (l : List S38) : List S46 × Int :=
  if l.all rt = false then ([], 1) else match fs l (List.range l.length) with
  | none => ([], 4)
  | some es => ((sortK es).map (plP es), 0)
def PlaP (r : List S46 × Int) (w : World) (e : Ending) (w' : World) : Prop := ∃ v, e = .returned (.tuple #[v, .int .i64 r.2]) ∧ Kd.R k46 46 w' w.heap.size (fun _ => True) v r.1 ∧ Below w.heap.size w w'
set_option maxHeartbeats 4000000 in
set_option maxRecDepth 100000 in
theorem pla_err (A : Option Addr) (c : Nat) (n : Nat) (er : Int) (w : World) (her : er = 1 ∨ er = 4) (hf : Calls Tryd.prog 22 #[.slice A n c] w fun e w' => e = .returned (.tuple #[.map none, .int .i64 er]) ∧ Below w.heap.size w w') :
    Calls Tryd.prog 10 #[.slice A n c] w (PlaP ([], er) w) := by
  have HF := Aside0.mk hf
  have b1 : (er != 0) = true := bne_iff_ne.2 (by omega)
  have HE := Aside0.mk her
  clear hf her
  go_enter Tryd.func10, Tryd.ntmps10
  go_wp2_with (go_at_call 22; refine HF.out.mono ?_; rintro e w1 ⟨rfl, hb1⟩)
  refine bodyPost_ret (v := .tuple #[.slice none 0 0, .int .i64 er]) (by simp [results, Tryd.results10, go_sem]) rfl ⟨_, rfl, Kd.R_nil _ _ _ _ _, hb1⟩
theorem lk_some_of_mem {es : List (Int × Value)} {k : Int} (h : k ∈ keysOf es) : ∃ v, lk es k = some v := by
  induction es with
  | nil => simp [keysOf] at h
  | cons p es ih =>
    unfold lk
    split
    · exact ⟨_, rfl⟩
    · rename_i hne
      simp only [keysOf, List.map_cons, List.mem_cons] at h
      rcases h with h | h
      · exact absurd h hne
      · exact ih h
theorem rd_int {l : List Int} {j : Nat} (h : j < l.length) : rd l (j : Int) = l[j] := by
  unfold rd
  simp [List.getD_eq_getElem?_getD, h]
theorem take_snocI {l : List Int} {j : Nat} (h : j < l.length) : l.take (j + 1) = l.take j ++ [rd l (j : Int)] := by
  rw [rd_int h, List.take_succ_eq_append_getElem h]
theorem sortK_length (es : List (Int × Value)) : (sortK es).length = es.length := by rw [sortK, List.length_mergeSort, keysOf, List.length_map]
theorem sortedR_any (Bm b : Nat) (es : List (Int × Value)) (zs : List Int) (hz : sortK es = zs) (w : World) (hm : w.cell? ⟨Bm, 0, none⟩ = some (.map (some b))) (hat : IM.At w b es) (hlen : es.length ≤ 1000000000000) :
    Calls Tryd.prog 24 #[.func (.func 44) #[] #[.pointer (some ⟨Bm, 0, none⟩)]] w fun e w' => ∃ A c, e = .returned (.slice A zs.length c) ∧ ReadsInt w' .i64 A zs.length zs ∧ Below w.heap.size w w' := by
  refine (sorted25_any Bm b es w hm hat hlen).mono ?_
  rintro e w' ⟨v, rfl, ho, hb⟩
  change w'.ownsRow _ 3 1 v es.length (nums .i64 (sortK es)) at ho
  have hl := sortK_length es
  rw [hz] at ho hl
  rw [← hl] at ho
  obtain ⟨A3, c3, hv3, hr3⟩ := own_reads ho
  exact ⟨A3, c3, by rw [hv3], hr3, hb⟩
set_option maxHeartbeats 8000000 in
set_option maxRecDepth 100000 in
theorem pla_ok (A : Option Addr) (c n : Nat) (es : List (Int × Value)) (w : World) (hlen : es.length ≤ 1000000000000) (hint : ∀ p ∈ es, ∃ m, p.2 = Value.int .i64 m)
    (hf : Calls Tryd.prog 22 #[.slice A n c] w fun e w' => ∃ mb, e = .returned (.tuple #[.map (some mb), .int .i64 0]) ∧ At w' mb es ∧ w.heap.size ≤ mb ∧ Below w.heap.size w w') :
    Calls Tryd.prog 10 #[.slice A n c] w (PlaP ((sortK es).map (plP es), 0) w) := by
  have hu46 := Tryd.underlying46
  have HF := Aside0.mk hf
  have HI := Aside0.mk hint
  clear hf hint
  obtain ⟨zs, hzs⟩ : ∃ zs, sortK es = zs := ⟨_, rfl⟩
  have hzl : zs.length = es.length := by rw [← hzs, sortK_length]
  have hmem : ∀ z ∈ zs, ∃ m, lk es z = some (Value.int .i64 m) := fun z hz => by
    rw [← hzs, sortK, List.mem_mergeSort] at hz
    obtain ⟨v, hv⟩ := lk_some_of_mem hz
    obtain ⟨p, hp, he⟩ := lk_mem hv
    obtain ⟨m, hm⟩ := HI.out p hp
    exact ⟨m, by rw [hv, ← he, hm]⟩
  have HM := Aside0.mk hmem
  have HZ := Aside0.mk hzs
  have HLN : Aside0 (zs.length ≤ 1000000000000) := ⟨by omega⟩
  have HLE := Aside0.mk hlen
  clear hmem hzs hzl hlen
  go_enter Tryd.func10, Tryd.ntmps10
  go_wp2_with (first
    | (go_at_call 22; refine HF.out.mono ?_; rintro e w1 ⟨mb, rfl, hat, hmb, hb1⟩; have HAT1 := Aside0.mk hat; have HB1 := Aside0.mk hb1; clear hat hb1)
    | (go_at_call 25; refine (keys25_any _ _).mono ?_; rintro e w2 ⟨rfl, rfl⟩)
    | (go_at_call 24; refine (sortedR_any w1.heap.size mb es zs HZ.out _ (blk_cell (blk_new w1 (.cells #[.map (some mb)] 48)) 0) (HAT1.out.alloc _) HLE.out).mono ?_; rintro e w3 ⟨A3, c3, rfl, hr3, hb3⟩; have HR3 := Aside0.mk hr3; have HB3 := Aside0.mk hb3; clear hr3 hb3))
  have HAT3 := Aside0.mk ((HAT1.out.alloc (.cells #[.map (some mb)] 48)).below HB3.out (HAT1.out.alloc _).lt)
  have HB13 := Aside0.mk (below_then (below_alloc HB1.out (.cells #[.map (some mb)] 48)) (below_size (below_alloc HB1.out _)) HB3.out)
  clear HB3 HAT1
  go_loopw [6, 21] (fun v i wr => ∃ j : Nat, j ≤ zs.length ∧ i = .int .i64 (j : Int) ∧ Aside0 (Kd.R k46 46 wr w3.heap.size (fun _ => True) v ((zs.take j).map (plP es))) ∧ Aside0 (Below w3.heap.size w3 wr)) (fun _ i _ => zs.length - (intOf i).toNat)
  case atStart => exact ⟨0, Nat.zero_le _, rfl, ⟨Kd.R_nil _ _ _ _ _⟩, ⟨Below.refl _ _⟩⟩
  case round =>
    obtain ⟨j, hj, rfl, HO, HB⟩ := hrel
    have hz64 := HLN.out
    by_cases hlt : j < zs.length
    · have b1 : decide ((j : Int) < (zs.length : Int)) = true := decide_eq_true (by omega)
      obtain ⟨ad, eA, k0⟩ := (HR3.out.below HB.out).at_ (j : Int) (by omega) (by omega)
      simp only [Int.toNat_natCast] at k0
      obtain ⟨m, hm⟩ := HM.out _ (by rw [rd_int hlt]; exact List.getElem_mem hlt : rd zs (j : Int) ∈ zs)
      have hlk := (HAT3.out.below HB.out HAT3.out.lt).lookup Tryd.underlying48 Tryd.underlying3 (zero3 _) (rd zs (j : Int)) false
      rw [hm] at hlk
      simp only [Option.getD_some] at hlk
      have hlk : (Instr.lookup 48 (.map (some mb)) (.int .i64 (rd zs (j : Int))) false).run Tryd.prog wr = .ok (.int .i64 m) wr := hlk
      have HTS : Aside0 ((zs.take (j + 1)).map (plP es) = (zs.take j).map (plP es) ++ [⟨rd zs (j : Int), m⟩]) := ⟨by
        rw [take_snocI hlt, List.map_append, List.map_cons, List.map_nil]
        unfold plP
        rw [hm]
        rfl⟩
      have HL : Aside0 (((zs.take j).map (plP es)).length ≤ 1000000000000) := ⟨by have := HLN.out; rw [List.length_map, List.length_take]; omega⟩
      clear hm
      generalize rd zs (j : Int) = z at k0 hlk HTS
      subst eA
      generalize (zs.take j).map (plP es) = out at HO HTS HL
      go_wp2_with (at_builtin; refine Kd.R_append k46 (w0 := w3) w3.heap.size rfl _ _ 28 46 (.agg #[.int .i64 0, .int .i64 0]) 16 rfl Tryd.underlying28 info46' rfl (by decide) (by omega) u6 out ⟨z, m⟩ [.int .i64 z, .int .i64 m] (fun _ => True) (fun _ => False) rfl rfl (k46_mkM _ _ _ _) (fun _ hk => hk.elim) (fun _ _ => trivial) HO.out HB.out HB.out.size (by have := HL.out; omega) ?_; intro v1 w5 ho5 hb5 hg5 hat5)
      go_roundw
      case rel => exact ⟨j + 1, by omega, by go_num, ⟨by rw [HTS.out]; exact ho5⟩, ⟨hb5⟩⟩
      case measure => simp [intOf]; omega
    · have b1 : decide ((j : Int) < (zs.length : Int)) = false := decide_eq_false (by omega)
      obtain rfl : j = zs.length := by omega
      have ho := HO.out
      rw [List.take_length] at ho
      have HO2 := Aside0.mk ho
      clear ho
      obtain ⟨A6, k6, hv, hk6⟩ := own_slice_R HO2.out
      subst hv
      go_wp2_with fail
      refine bodyPost_ret (v := .tuple #[.slice A6 (zs.map (plP es)).length k6, .int .i64 0]) (by simp [results, Tryd.results10, go_sem]) rfl ?_
      rw [HZ.out]
      exact ⟨_, rfl, Kd.R_lower HO2.out HB13.out.size, below_then HB13.out HB13.out.size HB.out⟩
theorem st_length (es : List (Int × Value)) (k : Int) (v : Value) : (st es k v).length ≤ es.length + 1 := by
  induction es with
  | nil => simp [st]
  | cons p es ih =>
    unfold st
    split
    · simp
    · simp only [List.length_cons]; omega
theorem fs_len {xs : List S38} : ∀ {k : Nat} {es : List (Int × Value)}, fs xs (List.range k) = some es → es.length ≤ k
  | 0, es, h => by injection h with h; subst h; simp
  | k + 1, es, h => by
    rw [range_succ_, fs_snoc] at h
    unfold stp at h
    obtain ⟨e0, h0, h1⟩ := Option.bind_eq_some_iff.1 h
    have := fs_len h0
    split at h1
    · injection h1 with h1; subst h1; omega
    · split at h1
      · cases h1
      · injection h1 with h1; subst h1; have := st_length e0 (rd_T38 xs (k : Int)).f0 (.int .i64 (cnt (xs.take k))); omega
/-- Places. -/
theorem pla_any (K : Nat) (A : Option Addr) (c : Nat) (l : List S38) (rt : S38 → Bool) (w : World) (hC : Kd.C k38 w A l.length l) (hR : ∀ x ∈ l, rtA K x = some (rt x)) (hlen : l.length ≤ 1000000000000) :
    Calls Tryd.prog 10 #[.slice A l.length c] w (PlaP (plaR rt l) w) := by
  unfold plaR
  cases hall : l.all rt with
  | false =>
    rw [if_pos rfl]
    exact pla_err A c _ 1 w (.inl rfl) (find_bad K A c l rt w hC hR hall)
  | true =>
    rw [if_neg (by simp)]
    have hf := callsIn_wide.1 (find_in K A c l rt w hC hR hlen hall)
    cases hs : fs l (List.range l.length) with
    | none =>
      refine pla_err A c _ 4 w (.inr rfl) (hf.mono fun e w' h => ?_)
      rcases h with ⟨_, es, h, _⟩ | ⟨_, h1, h2⟩
      · rw [hs] at h; cases h
      · exact ⟨h1, h2⟩
    | some es =>
      refine pla_ok A c _ es w (Nat.le_trans (fs_len hs) hlen) (fs_int hs) (hf.mono fun e w' h => ?_)
      rcases h with ⟨mb, es', h, h1, h2, h3, h4⟩ | ⟨h, _⟩
      · rw [hs] at h; injection h with h; subst h; exact ⟨mb, h1, h2, h3, h4⟩
      · rw [hs] at h; cases h
/-- Places, as the print takes it. -/
def asm_Places.f (l : List S38) : Option (List S46 × Int) := if l.length ≤ 1000000000000 ∧ (l.all fun x => (rtA 30 x).isSome) = true then some (plaR (fun x => (rtA 30 x).getD false) l) else none
theorem asm_Places.calls (A0 : Option Addr) (c0 : Nat) (l0 : List S38) (r1 : List S46) (r2 : Int) (w : World) (hr0 : Kd.C k38 w A0 l0.length l0) (hc0 : l0.length ≤ c0) (h : asm_Places.f l0 = some (r1, r2)) :
    Calls Tryd.prog 10 #[.slice A0 l0.length c0] w fun e w' => ∃ v0_ : Value, e = .returned (.tuple #[v0_, .int .i64 r2]) ∧ Kd.R k46 46 w' w.heap.size (fun _ => True) v0_ r1 ∧ Below w.heap.size w w' := by
  unfold asm_Places.f at h
  split at h
  · rename_i hc
    injection h with h
    have := pla_any 30 A0 c0 l0 (fun x => (rtA 30 x).getD false) w hr0 (fun x hx => by
      have := List.all_eq_true.1 hc.2 x hx
      obtain ⟨b, hb⟩ := Option.isSome_iff_exists.1 this
      rw [hb]; rfl) hc.1
    rw [h] at this
    exact this
  · cases h
end Go.Proofs.YtmfcmjcgajjiiaaDoor.S
