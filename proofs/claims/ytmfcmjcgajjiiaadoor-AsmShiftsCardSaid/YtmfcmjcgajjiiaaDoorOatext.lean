import Derived.Test.YtmfcmjcgajjiiaaDoorObuild
import Derived.Test.YtmfcmjcgajjiiaaDoorOtext
import Derived.Test.YtmfcmjcgajjiiaaDoorOfind
namespace Go.Proofs.YtmfcmjcgajjiiaaDoor.S
open Go.RowKit Go.Proofs.YtmfcmjcgajjiiaaDoorW.PrintWords Go.Proofs.YtmfcmjcgajjiiaaDoorW.PrintLast Go.Proofs.YtmfcmjcgajjiiaaDoorW.PrintMore
set_option linter.unusedVariables false
theorem bytesOf_append (a b : ByteArray) : bytesOf (a ++ b) = bytesOf a ++ bytesOf b := by simp [bytesOf]
/-- A line's text, without the line feed; none: out of bounds. -/
def txB (k : Nat) (x : S38) : Option ByteArray :=
  if x.f0 = 0 then (inst_Text.f k x.f1.f0 x.f1.f1 x.f1.f2 x.f1.f3 x.f1.f4).bind fun t => if t.size ≤ 1000 then (if x.f2 = 0 then some ((⟨#[32, 32]⟩ : ByteArray) ++ t) else (strconv_Itoa.f x.f2).map fun n => ((⟨#[32, 32]⟩ : ByteArray) ++ t) ++ ((⟨#[32, 62, 76]⟩ : ByteArray) ++ n)) else none
  else (strconv_Itoa.f x.f0).map fun n => ((⟨#[76]⟩ : ByteArray) ++ n) ++ (⟨#[58]⟩ : ByteArray)
def txS (k : Nat) (o : Option ByteArray) (x : S38) : Option ByteArray := o.bind fun s => (txB k x).map fun t => s ++ (t ++ (⟨#[10]⟩ : ByteArray))
def txt (k : Nat) (l : List S38) : Option ByteArray := l.foldl (txS k) (some ⟨#[]⟩)
theorem txt_snoc (k : Nat) (l : List S38) (x : S38) : txt k (l ++ [x]) = txS k (txt k l) x := by simp [txt]
def asm_Text.f (k : Nat) (l : List S38) : Option ByteArray := if l.length ≤ 1000000000 then txt k l else none
theorem txB_mono (k : Nat) (x : S38) : LeO (txB k x) (txB (k + 1) x) := by
  unfold txB
  exact LeO.ite (LeO.bind (inst_Text.mono _ _ _ _ _ _) fun t => LeO.refl _) (LeO.refl _)
theorem txt_mono (k : Nat) (l : List S38) : LeO (txt k l) (txt (k + 1) l) := by
  have key : ∀ (l : List S38) (o o' : Option ByteArray), LeO o o' → LeO (l.foldl (txS k) o) (l.foldl (txS (k + 1)) o') := by
    intro l
    induction l with
    | nil => intro o o' h; exact h
    | cons x l ih => intro o o' h; exact ih _ _ (LeO.bind h fun s => LeO.map _ (txB_mono k x))
  exact key l _ _ (LeO.refl _)
theorem asm_Text.mono : ∀ a0 k, LeO (asm_Text.f k a0) (asm_Text.f (k + 1) a0) := fun l k => by
  unfold asm_Text.f
  exact LeO.ite (txt_mono k l) (LeO.none _)
theorem itoa_size {a : Int} {n : ByteArray} (h : strconv_Itoa.f a = some n) : n.size ≤ 21 := by
  unfold strconv_Itoa.f at h
  split at h
  · rename_i hb; injection h with h; subst h; exact Lib.itoa_length_le a hb.1 hb.2
  · cases h
theorem txB_size {k : Nat} {x : S38} {t : ByteArray} (h : txB k x = some t) : t.size ≤ 1030 := by
  unfold txB at h
  split at h
  · obtain ⟨u, _, h⟩ := Option.bind_eq_some_iff.1 h
    split at h
    · split at h
      · injection h with h; subst h
        rw [ByteArray.size_append]
        have e : (⟨#[32, 32]⟩ : ByteArray).size = 2 := rfl
        omega
      · obtain ⟨n, hn, h⟩ := Option.map_eq_some_iff.1 h
        have := itoa_size hn
        subst h
        simp only [ByteArray.size_append]
        have e : (⟨#[32, 32]⟩ : ByteArray).size = 2 := rfl
        have e2 : (⟨#[32, 62, 76]⟩ : ByteArray).size = 3 := rfl
        omega
    · cases h
  · obtain ⟨n, hn, h⟩ := Option.map_eq_some_iff.1 h
    have := itoa_size hn
    subst h
    simp only [ByteArray.size_append]
    have e : (⟨#[76]⟩ : ByteArray).size = 1 := rfl
    have e2 : (⟨#[58]⟩ : ByteArray).size = 1 := rfl
    omega
theorem txS_none (k : Nat) (l : List S38) : l.foldl (txS k) none = none := by
  induction l with
  | nil => rfl
  | cons x l ih => exact ih
/-- What a line of a text has. -/
theorem txt_step {k : Nat} {l : List S38} {r : ByteArray} (h : txt k l = some r) {j : Nat} (hj : j < l.length) {s : ByteArray} (hs : txt k (l.take j) = some s) :
    ∃ t, txB k (rd_T38 l (j : Int)) = some t ∧ txt k (l.take (j + 1)) = some (s ++ (t ++ (⟨#[10]⟩ : ByteArray))) := by
  have e1 := txt_snoc k (l.take j) (rd_T38 l (j : Int))
  rw [← take_snoc38 hj, hs] at e1
  cases ht : txB k (rd_T38 l (j : Int)) with
  | some t =>
    refine ⟨t, rfl, ?_⟩
    rw [e1]
    simp [txS, ht]
  | none =>
    exfalso
    have e2 : txt k (l.take (j + 1)) = none := by rw [e1]; simp [txS, ht]
    have e3 : txt k l = none := by
      conv => lhs; rw [← List.take_append_drop (j + 1) l]
      unfold txt at e2 ⊢
      rw [List.foldl_append, e2, txS_none]
    rw [e3] at h
    cases h
theorem itoa_calls' (a0 : Int) (r : ByteArray) (w : World) (hGL : GL w) (h : strconv_Itoa.f a0 = some r) : Calls Tryd.prog 28 #[.int .i64 a0] w fun e w' => e = .returned (.string r) ∧ Below w.heap.size w w' := strconv_Itoa.calls a0 r w ⟨hGL⟩ h
theorem itext_calls (k : Nat) (a b c d e : Int) (r : ByteArray) (w : World) (hGL : GL w) (h : inst_Text.f k a b c d e = some r) : Calls Tryd.prog 29 #[.agg #[.int .i64 a, .int .i64 b, .int .i64 c, .int .i64 d, .int .i64 e]] w fun e w' => e = .returned (.string r) ∧ Below w.heap.size w w' := inst_Text.calls k a b c d e r w ⟨hGL⟩ h
def TxR (r : ByteArray) (w : World) (e : Ending) (w' : World) : Prop := e = .returned (.string r) ∧ Below w.heap.size w w'
set_option maxHeartbeats 16000000 in
set_option maxRecDepth 100000 in
theorem text_any (k : Nat) (A : Option Addr) (c : Nat) (l : List S38) (r : ByteArray) (w : World) (hC : Kd.C k38 w A l.length l) (hGL : GL w) (hlen : l.length ≤ 1000000000) (h : txt k l = some r) :
    Calls Tryd.prog 14 #[.slice A l.length c] w (TxR r w) := by
  have hu38 := Tryd.underlying38
  have hu32 := Tryd.underlying32
  have HC := Aside0.mk hC
  have HG := Aside0.mk hGL
  have HT := Aside0.mk h
  clear hC hGL h
  go_enter Tryd.func14, Tryd.ntmps14
  go_wp2_with fail
  go_loopw [8] (fun i wr => ∃ (j : Nat) (s : ByteArray), j ≤ l.length ∧ i = .int .i64 (j : Int) ∧ Aside0 (txt k (l.take j) = some s) ∧ Aside0 (s.size ≤ 1040 * j) ∧ Aside0 (BD w.heap.size w.heap.size (bytesOf s) wr) ∧ Aside0 (Below w.heap.size w wr)) (fun i _ => l.length - (intOf i).toNat)
  case atStart => exact ⟨0, ⟨#[]⟩, Nat.zero_le _, rfl, ⟨rfl⟩, ⟨by decide⟩, ⟨bd_new w⟩, ⟨below_alloc (Below.refl _ _) _⟩⟩
  case round =>
    obtain ⟨j, s, hj, rfl, HS, HZ, HD, HB⟩ := hrel
    by_cases hlt : j < l.length
    · have b1 : decide ((j : Int) < (l.length : Int)) = true := decide_eq_true (by omega)
      obtain ⟨ad, eA, k0, k1, k2, k3, k4, k5, k6⟩ := at_T38 (Kd.C_below HC.out HB.out) (j : Int) (by omega) (by omega)
      simp only [Int.toNat_natCast] at k0 k1 k2 k3 k4 k5 k6
      obtain ⟨t, ht, hs1⟩ := txt_step HT.out hlt HS.out
      have HS1 := Aside0.mk hs1
      have HTS := Aside0.mk (txB_size ht)
      have HTB := Aside0.mk ht
      clear ht hs1
      generalize rd_T38 l (j : Int) = y at k0 k1 k2 k3 k4 k5 k6 HTB
      subst eA
      have HZ1 : Aside0 ((s ++ (t ++ (⟨#[10]⟩ : ByteArray))).size ≤ 1040 * (j + 1)) := ⟨by
        have := HZ.out
        have := HTS.out
        simp only [ByteArray.size_append]
        have e : (⟨#[10]⟩ : ByteArray).size = 1 := rfl
        omega⟩
      have HSL : Aside0 (s.size ≤ 1040000000000) := ⟨by have := HZ.out; omega⟩
      by_cases hz : y.f0 = 0
      · have hzb : (y.f0 == 0) = true := beq_iff_eq.2 hz
        have hzb2 : (y.f0 != 0) = false := bne_eq_false_iff_eq.2 hz
        have hT := HTB.out
        unfold txB at hT
        rw [if_pos hz] at hT
        obtain ⟨u, hu, hT⟩ := Option.bind_eq_some_iff.1 hT
        by_cases hus : u.size ≤ 1000
        case neg => rw [if_neg hus] at hT; cases hT
        rw [if_pos hus] at hT
        have hb1 : Below wr.heap.size wr (wr.alloc (.cells #[.int .i64 y.f0, .int .i64 y.f1.f0, .int .i64 y.f1.f1, .int .i64 y.f1.f2, .int .i64 y.f1.f3, .int .i64 y.f1.f4, .int .i64 y.f2] 38)) := below_alloc (Below.refl _ _) _
        have HI := Aside0.mk (itext_calls k y.f1.f0 y.f1.f1 y.f1.f2 y.f1.f3 y.f1.f4 u (wr.alloc (.cells #[.int .i64 y.f0, .int .i64 y.f1.f0, .int .i64 y.f1.f1, .int .i64 y.f1.f2, .int .i64 y.f1.f3, .int .i64 y.f1.f4, .int .i64 y.f2] 38)) (GL.below HG.out (below_then HB.out HB.out.size hb1)) hu)
        have HBX := Aside0.mk (blk_new wr (.cells #[.int .i64 y.f0, .int .i64 y.f1.f0, .int .i64 y.f1.f1, .int .i64 y.f1.f2, .int .i64 y.f1.f3, .int .i64 y.f1.f4, .int .i64 y.f2] 38))
        have HD1 := Aside0.mk (HD.out.below hb1)
        have HB1 := Aside0.mk (below_then HB.out HB.out.size hb1)
        clear hz hu HTB hb1
        by_cases h2 : y.f2 = 0
        · rw [if_pos h2] at hT
          injection hT with hT
          have HTE := Aside0.mk hT
          have h2b : (y.f2 != 0) = false := bne_eq_false_iff_eq.2 h2
          clear h2 hT
          go_wp2_with (first
            | (go_at_call 29; refine HI.out.mono ?_; rintro e w2 ⟨rfl, hb2⟩; have HBX2 := Aside0.mk (blk_below HBX.out hb2); have HD2 := Aside0.mk (HD1.out.below hb2); have HB2 := Aside0.mk (below_then HB1.out HB1.out.size hb2); clear hb2)
            | (go_at_call 27; refine (ws_any _ _ (bytesOf s) ((⟨#[32, 32]⟩ : ByteArray) ++ u) _ HD2.out HB2.out.size (by rw [bytesOf_length]; have := HSL.out; simp only [ByteArray.size_append]; have e : (⟨#[32, 32]⟩ : ByteArray).size = 2 := rfl; omega)).mono ?_; rintro e w3 ⟨rfl, hd3, hb3, ht3⟩; have HD3 := Aside0.mk hd3; have HB3 := Aside0.mk (HB2.out.trans hb3); have hbx3 := ht3 _ _ _ HBX2.out (by decide) (by decide); have d0 := blk_cell hbx3 0; have d6 := blk_cell hbx3 6; simp only [List.getElem?_toArray, List.getElem?_cons_zero, List.getElem?_cons_succ] at d0 d6; clear hd3 hb3 ht3 hbx3)
            | (go_at_call 30; refine (wb_any _ _ _ 10 _ HD3.out HB3.out.size (by rw [List.length_append, bytesOf_length, bytesOf_length]; have := HSL.out; simp only [ByteArray.size_append]; have e : (⟨#[32, 32]⟩ : ByteArray).size = 2 := rfl; omega)).mono ?_; rintro e w4 ⟨rfl, hd4, hb4, ht4⟩; have HD4 := Aside0.mk hd4; have HB4 := Aside0.mk (HB3.out.trans hb4); clear hd4 hb4 ht4))
          go_roundw
          case rel => exact ⟨j + 1, _, by omega, by go_num, HS1, HZ1, ⟨by rw [← HTE.out]; have := HD4.out; rwa [List.append_assoc, ← show bytesOf (⟨#[10]⟩ : ByteArray) = [10] from rfl, ← bytesOf_append, ← bytesOf_append] at this⟩, HB4⟩
          case measure => simp [intOf]; omega
        · rw [if_neg h2] at hT
          obtain ⟨n, hn, hT⟩ := Option.map_eq_some_iff.1 hT
          have hns : n.size ≤ 21 := itoa_size hn
          have HTE := Aside0.mk hT
          have HN := Aside0.mk hn
          have h2b : (y.f2 != 0) = true := bne_iff_ne.2 h2
          clear h2 hT hn
          have tok1 : True := trivial
          go_wp2_with (first
            | (go_at_call 29; refine HI.out.mono ?_; rintro e w2 ⟨rfl, hb2⟩; have HBX2 := Aside0.mk (blk_below HBX.out hb2); have HD2 := Aside0.mk (HD1.out.below hb2); have HB2 := Aside0.mk (below_then HB1.out HB1.out.size hb2); clear hb2 HI)
            | (go_at_call 28; refine (itoa_calls' y.f2 n _ (GL.below HG.out HB3.out) HN.out).mono ?_; rintro e w4 ⟨rfl, hb4⟩; have HD4 := Aside0.mk (HD3.out.below hb4); have HB4 := Aside0.mk (below_then HB3.out HB3.out.size hb4); clear hb4)
            | (go_at_call 27; have htok := tok1; clear tok1; refine (ws_any _ _ (bytesOf s) ((⟨#[32, 32]⟩ : ByteArray) ++ u) _ HD2.out HB2.out.size (by rw [bytesOf_length]; have := HSL.out; simp only [ByteArray.size_append]; have e : (⟨#[32, 32]⟩ : ByteArray).size = 2 := rfl; omega)).mono ?_; rintro e w3 ⟨rfl, hd3, hb3, ht3⟩; have HD3 := Aside0.mk hd3; have HB3 := Aside0.mk (HB2.out.trans hb3); have hbx3 := ht3 _ _ _ HBX2.out (by decide) (by decide); have d0 := blk_cell hbx3 0; have d6 := blk_cell hbx3 6; simp only [List.getElem?_toArray, List.getElem?_cons_zero, List.getElem?_cons_succ] at d0 d6; clear hd3 hb3 ht3 hbx3)
            | (go_at_call 27; refine (ws_any _ _ (bytesOf s ++ bytesOf ((⟨#[32, 32]⟩ : ByteArray) ++ u)) ((⟨#[32, 62, 76]⟩ : ByteArray) ++ n) _ HD4.out HB4.out.size (by rw [List.length_append, bytesOf_length, bytesOf_length]; have := HSL.out; simp only [ByteArray.size_append]; have e : (⟨#[32, 32]⟩ : ByteArray).size = 2 := rfl; have e2 : (⟨#[32, 62, 76]⟩ : ByteArray).size = 3 := rfl; omega)).mono ?_; rintro e w5 ⟨rfl, hd5, hb5, ht5⟩; have HD5 := Aside0.mk hd5; have HB5 := Aside0.mk (HB4.out.trans hb5); clear hd5 hb5 ht5)
            | (go_at_call 30; refine (wb_any _ _ _ 10 _ HD5.out HB5.out.size (by rw [List.length_append, List.length_append, bytesOf_length, bytesOf_length, bytesOf_length]; have := HSL.out; simp only [ByteArray.size_append]; have e : (⟨#[32, 32]⟩ : ByteArray).size = 2 := rfl; have e2 : (⟨#[32, 62, 76]⟩ : ByteArray).size = 3 := rfl; omega)).mono ?_; rintro e w6 ⟨rfl, hd6, hb6, ht6⟩; have HD6 := Aside0.mk hd6; have HB6 := Aside0.mk (HB5.out.trans hb6); clear hd6 hb6 ht6))
          go_roundw
          case rel => exact ⟨j + 1, _, by omega, by go_num, HS1, HZ1, ⟨by rw [← HTE.out]; have := HD6.out; rw [← show bytesOf (⟨#[10]⟩ : ByteArray) = [10] from rfl, ← bytesOf_append, ← bytesOf_append, ← bytesOf_append] at this; simp only [ByteArray.append_assoc] at this ⊢; exact this⟩, HB6⟩
          case measure => simp [intOf]; omega
      · have hzb : (y.f0 == 0) = false := beq_eq_false_iff_ne.2 hz
        have hzb2 : (y.f0 != 0) = true := bne_iff_ne.2 hz
        have hT := HTB.out
        unfold txB at hT
        rw [if_neg hz] at hT
        obtain ⟨n, hn, hT⟩ := Option.map_eq_some_iff.1 hT
        have HN := Aside0.mk hn
        have HTE := Aside0.mk hT
        have hns : n.size ≤ 21 := itoa_size hn
        clear hz hT hn HTB
        obtain ⟨W1, hW1⟩ : ∃ W1, wr.alloc (.cells #[.int .i64 y.f0, .int .i64 y.f1.f0, .int .i64 y.f1.f1, .int .i64 y.f1.f2, .int .i64 y.f1.f3, .int .i64 y.f1.f4, .int .i64 y.f2] 38) = W1 := ⟨_, rfl⟩
        have hb1 : Below wr.heap.size wr W1 := by rw [← hW1]; exact below_alloc (Below.refl _ _) _
        have hG1 := GL.below HG.out (below_then HB.out HB.out.size hb1)
        have hD1 := HD.out.below hb1
        have hbx := blk_new wr (.cells #[.int .i64 y.f0, .int .i64 y.f1.f0, .int .i64 y.f1.f1, .int .i64 y.f1.f2, .int .i64 y.f1.f3, .int .i64 y.f1.f4, .int .i64 y.f2] 38)
        rw [hW1] at hbx
        have hI := itoa_calls' y.f0 n W1 hG1 HN.out
        rw [← hW1] at hI hbx hD1 hb1
        have HI := Aside0.mk hI
        have HBX := Aside0.mk hbx
        have HD1 := Aside0.mk hD1
        have HB1 := Aside0.mk (below_then HB.out HB.out.size hb1)
        clear hI hbx hD1 hb1 hG1 hW1
        go_wp2_with (first
          | (go_at_call 28; refine HI.out.mono ?_; rintro e w2 ⟨rfl, hb2⟩; have HBX2 := Aside0.mk (blk_below HBX.out hb2); have HD2 := Aside0.mk (HD1.out.below hb2); have HB2 := Aside0.mk (below_then HB1.out HB1.out.size hb2); clear hb2)
          | (go_at_call 27; refine (ws_any _ _ (bytesOf s) (((⟨#[76]⟩ : ByteArray) ++ n) ++ (⟨#[58]⟩ : ByteArray)) _ HD2.out HB2.out.size (by rw [bytesOf_length]; have := HSL.out; simp only [ByteArray.size_append]; have e : (⟨#[76]⟩ : ByteArray).size = 1 := rfl; have e2 : (⟨#[58]⟩ : ByteArray).size = 1 := rfl; omega)).mono ?_; rintro e w3 ⟨rfl, hd3, hb3, ht3⟩; have HD3 := Aside0.mk hd3; have HB3 := Aside0.mk (HB2.out.trans hb3); have hbx3 := ht3 _ _ _ HBX2.out (by decide) (by decide); have d0 := blk_cell hbx3 0; simp only [List.getElem?_toArray, List.getElem?_cons_zero] at d0; clear hd3 hb3 ht3 hbx3)
          | (go_at_call 30; refine (wb_any _ _ _ 10 _ HD3.out HB3.out.size (by rw [List.length_append, bytesOf_length, bytesOf_length]; have := HSL.out; simp only [ByteArray.size_append]; have e : (⟨#[76]⟩ : ByteArray).size = 1 := rfl; have e2 : (⟨#[58]⟩ : ByteArray).size = 1 := rfl; omega)).mono ?_; rintro e w4 ⟨rfl, hd4, hb4, ht4⟩; have HD4 := Aside0.mk hd4; have HB4 := Aside0.mk (HB3.out.trans hb4); clear hd4 hb4 ht4))
        go_roundw
        case rel => exact ⟨j + 1, _, by omega, by go_num, HS1, HZ1, ⟨by rw [← HTE.out]; have := HD4.out; rwa [List.append_assoc, ← show bytesOf (⟨#[10]⟩ : ByteArray) = [10] from rfl, ← bytesOf_append, ← bytesOf_append] at this⟩, HB4⟩
        case measure => simp [intOf]; omega
    · have b1 : decide ((j : Int) < (l.length : Int)) = false := decide_eq_false (by omega)
      obtain rfl : j = l.length := by omega
      have hs := HS.out
      rw [List.take_length, HT.out] at hs
      injection hs with hs
      subst hs
      go_wp2_with (go_at_call 31; refine (bs_any _ _ r _ HD.out HB.out.size).mono ?_; rintro e w2 ⟨rfl, hb2⟩)
      go_ret
      exact ⟨rfl, HB.out.trans hb2⟩
theorem asm_Text.calls (k : Nat) (A0 : Option Addr) (c0 : Nat) (l0 : List S38) (r : ByteArray) (w : World) (hGL : Aside0 (GL w)) (hr0 : Kd.C k38 w A0 l0.length l0) (hc0 : l0.length ≤ c0) (h : asm_Text.f k l0 = some r) :
    Calls Tryd.prog 14 #[.slice A0 l0.length c0] w fun e w' => e = .returned (.string r) ∧ Below w.heap.size w w' := by
  unfold asm_Text.f at h
  split at h
  · rename_i hl
    exact text_any k A0 c0 l0 r w hr0 hGL.out hl h
  · cases h
end Go.Proofs.YtmfcmjcgajjiiaaDoor.S
