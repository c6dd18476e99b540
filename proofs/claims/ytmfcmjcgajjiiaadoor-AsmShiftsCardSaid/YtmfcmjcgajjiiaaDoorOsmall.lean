import Derived.Test.YtmfcmjcgajjiiaaDoorOatext
import Derived.Test.YtmfcmjcgajjiiaaDoorOplaces
import Derived.Test.YtmfcmjcgajjiiaaDoorS4
import Derived.Test.YtmfcmjcgajjiiaaDoorS6
import Derived.ArgAppend
namespace Go.Proofs.YtmfcmjcgajjiiaaDoor.S
open Go.RowKit Go.Proofs.YtmfcmjcgajjiiaaDoorW.PrintWords Go.Proofs.YtmfcmjcgajjiiaaDoorW.PrintLast Go.Proofs.YtmfcmjcgajjiiaaDoorW.PrintMore
set_option linter.unusedVariables false
def smL : List S38 := [⟨0, ⟨7, 0, 0, 0, 0⟩, 1⟩, ⟨0, ⟨12, 2, 0, 0, 0⟩, 0⟩, ⟨1, ⟨0, 0, 0, 0, 0⟩, 0⟩, ⟨0, ⟨0, 0, 0, 0, 0⟩, 0⟩]
def smC : List S32 := [⟨7, 0, 0, 0, 2⟩, ⟨12, 2, 0, 0, 0⟩, ⟨0, 0, 0, 0, 0⟩]
theorem sm_asm : asm_Assemble.f smL = some (smC, 0) := by kernel_rfl
def smX : S38 := ⟨1, ⟨0, 0, 0, 0, 0⟩, 0⟩
theorem sm_asm2 : asm_Assemble.f (smL ++ [smX]) = some ([], 4) := by kernel_rfl
theorem sm_fs : fs smL (List.range smL.length) = some [(1, .int .i64 2)] := by kernel_rfl
theorem sm_all : smL.all (fun x => (rtA 30 x).getD false) = true := by kernel_rfl
theorem sm_all2 : (smL.all fun x => (rtA 30 x).isSome) = true := by kernel_rfl
theorem sm_pla : asm_Places.f smL = some ([⟨1, 2⟩], 0) := by
  unfold asm_Places.f
  rw [if_pos ⟨by decide, sm_all2⟩]
  unfold plaR
  rw [if_neg (by rw [sm_all]; simp), sm_fs]
  simp only [sortK, keysOf, List.map_cons, List.map_nil, List.mergeSort_singleton]
  rfl
def smT : ByteArray := ⟨#[32, 32, 106, 109, 112, 32, 48, 32, 62, 76, 49, 10, 32, 32, 111, 117, 116, 32, 114, 50, 10, 76, 49, 58, 10, 32, 32, 104, 97, 108, 116, 32, 48, 10]⟩
theorem sm_text : asm_Text.f 30 smL = some smT := by decide +kernel
theorem sm_text0 : txt 30 smL = some smT := by decide +kernel
theorem sm_jump : asm_Jump.f 7 0 1 = some (0, 7, 0, 0, 0, 0, 1) := by kernel_rfl
theorem sm_plain : asm_Plain.f 12 2 0 0 0 = some (0, 12, 2, 0, 0, 0, 0) := by kernel_rfl
theorem sm_plain2 : asm_Plain.f 0 0 0 0 0 = some (0, 0, 0, 0, 0, 0, 0) := by kernel_rfl
theorem sm_label : asm_Label.f 1 = some (1, 0, 0, 0, 0, 0, 0) := by kernel_rfl
theorem sm_const : asm_Const.f 1 1099511627776 = some [⟨1, 1, 0, 0, 256⟩, ⟨2, 1, 0, 0, 0⟩] := by kernel_rfl
theorem sm_same : swageref02_Same.f 30 smC smC = some true := by kernel_rfl
theorem sm_pairs : swageref05_Pairs.f 30 [⟨1, 2⟩] [⟨1, 2⟩] = some true := by kernel_rfl
/-- A literal row, in a block of its own. -/
theorem reps_lit {α : Type} (d : Kd α) (f : α → List Value) (hM : ∀ (w : World) (base : Nat) (ok : Nat → Prop) (x : α), d.M w base ok x (f x)) (hl : ∀ x, (f x).length = d.sz) (w : World) (base : Nat) (ok : Nat → Prop) : ∀ xs : List α, Reps (d.M w base ok) d.sz xs (xs.flatMap f)
  | [] => Reps.none _ _
  | x :: xs => by
    have h1 : Reps (d.M w base ok) d.sz [x] (f x) := by
      have := (Reps.none (d.M w base ok) d.sz).snoc (hM w base ok x) (c := f x) (hl x)
      simpa using this
    have := Kd.reps_append h1 (reps_lit d f hM hl w base ok xs)
    simpa using this
theorem R_lit {α : Type} (d : Kd α) (e : Nat) (f : α → List Value) (hM : ∀ (w : World) (base : Nat) (ok : Nat → Prop) (x : α), d.M w base ok x (f x)) (hl : ∀ x, (f x).length = d.sz) (W : World) (l : List α) (hn : l.length ≤ 9223372036854775807) :
    d.R e (W.alloc (.cells (l.flatMap f).toArray e)) W.heap.size (fun _ => True) (.slice (some ⟨W.heap.size, 0, none⟩) l.length l.length) l := by
  have hlen : (l.flatMap f).length = l.length * d.sz := (reps_lit d f hM hl W 0 (fun _ => True) l).1
  refine ⟨fun _ _ => trivial, l.flatMap f, ⟨hlen, .inr ⟨W.heap.size, l.length, (l.flatMap f).toArray, rfl, Nat.le_refl _, blk_new W _, Nat.le_refl _, by unfold maxLen; exact hn, by simp [hlen], ?_⟩⟩, reps_lit d f hM hl _ _ _ l⟩
  show List.take (l.length * d.sz) (l.flatMap f) = _
  rw [← hlen, List.take_length]
def c38 (x : S38) : List Value := [.int .i64 x.f0, .int .i64 x.f1.f0, .int .i64 x.f1.f1, .int .i64 x.f1.f2, .int .i64 x.f1.f3, .int .i64 x.f1.f4, .int .i64 x.f2]
def c32 (x : S32) : List Value := [.int .i64 x.f0, .int .i64 x.f1, .int .i64 x.f2, .int .i64 x.f3, .int .i64 x.f4]
def c46 (x : S46) : List Value := [.int .i64 x.f0, .int .i64 x.f1]
theorem R_lit38 (W : World) (l : List S38) (hn : l.length ≤ 9223372036854775807) : Kd.R k38 38 (W.alloc (.cells (l.flatMap c38).toArray 38)) W.heap.size (fun _ => True) (.slice (some ⟨W.heap.size, 0, none⟩) l.length l.length) l := R_lit k38 38 c38 (fun w b ok x => k38_mkM w b ok x) (fun _ => rfl) W l hn
theorem R_lit32 (W : World) (l : List S32) (hn : l.length ≤ 9223372036854775807) : Kd.R k32 32 (W.alloc (.cells (l.flatMap c32).toArray 32)) W.heap.size (fun _ => True) (.slice (some ⟨W.heap.size, 0, none⟩) l.length l.length) l := R_lit k32 32 c32 (fun w b ok x => k32_mkM w b ok x) (fun _ => rfl) W l hn
theorem R_lit46 (W : World) (l : List S46) (hn : l.length ≤ 9223372036854775807) : Kd.R k46 46 (W.alloc (.cells (l.flatMap c46).toArray 46)) W.heap.size (fun _ => True) (.slice (some ⟨W.heap.size, 0, none⟩) l.length l.length) l := R_lit k46 46 c46 (fun w b ok x => k46_mkM w b ok x) (fun _ => rfl) W l hn
theorem C_of_R {α : Type} {d : Kd α} {e : Nat} {w : World} {base : Nat} {ok : Nat → Prop} {A : Option Addr} {n c : Nat} {xs : List α} (h : d.R e w base ok (.slice A n c) xs) : n = xs.length ∧ xs.length ≤ c ∧ d.C w A xs.length xs := by
  obtain ⟨A', c', e1, h1, h2⟩ := Kd.R_reads h
  injection e1 with e1 e2 e3
  subst e1 e2 e3
  exact ⟨rfl, h1, h2⟩
end Go.Proofs.YtmfcmjcgajjiiaaDoor.S
namespace Go.Proofs.YtmfcmjcgajjiiaaDoor.S
open Go.RowKit Go.Proofs.YtmfcmjcgajjiiaaDoorW.PrintWords Go.Proofs.YtmfcmjcgajjiiaaDoorW.PrintLast Go.Proofs.YtmfcmjcgajjiiaaDoorW.PrintMore
set_option linter.unusedVariables false
attribute [local go_sem high] eqA32 eqA38
theorem ownsRow_succ9 {W : World} {base : Nat} {v : Value} {xs : List Value} (h : W.ownsRow base 38 7 v (4 + 1) xs) : ∃ g c, v = .slice (some ⟨g, 0, none⟩) 5 c := by
  rcases h.2 with ⟨_, h0⟩ | ⟨g, cap, cur, rfl, _⟩
  · omega
  · exact ⟨g, cap, rfl⟩
theorem info38' : (Tryd.prog.info? 38).map (fun i => (i.zero, i.size, i.bytes)) = some (some (.agg #[.int .i64 0, .int .i64 0, .int .i64 0, .int .i64 0, .int .i64 0, .int .i64 0, .int .i64 0]), 7, 56) := by kernel_rfl
set_option maxHeartbeats 8000000 in
set_option maxRecDepth 100000 in
theorem small_walk (w : World) (hGL : GL w) : Calls Tryd.prog 7 #[] w fun e w' => e = .returned (.bool true) ∧ Below w.heap.size w w' := by
  have HG := Aside0.mk hGL
  clear hGL
  have hu32 := Tryd.underlying32
  have hu38 := Tryd.underlying38
  go_enter Tryd.func7, Tryd.ntmps7
  go_wp2_with fail
  refine (asm_Jump.calls 7 0 1 _ _ _ _ _ _ _ _ sm_jump).mono ?_
  rintro e w1 ⟨rfl, hb1⟩
  have HB1 := Aside0.mk hb1
  clear hb1
  go_wp2_with fail
  refine (asm_Plain.calls 12 2 0 0 0 _ _ _ _ _ _ _ _ sm_plain).mono ?_
  rintro e w2 ⟨rfl, hb2⟩
  have HB2 := Aside0.mk (below_then HB1.out HB1.out.size hb2)
  clear hb2
  go_wp2_with fail
  refine (asm_Label.calls 1 _ _ _ _ _ _ _ _ sm_label).mono ?_
  rintro e w3 ⟨rfl, hb3⟩
  have HB3 := Aside0.mk (below_then HB2.out HB2.out.size hb3)
  clear hb3
  go_wp2_with fail
  refine (asm_Plain.calls 0 0 0 0 0 _ _ _ _ _ _ _ _ sm_plain2).mono ?_
  rintro e w4 ⟨rfl, hb4⟩
  have HB4 := Aside0.mk (below_then HB3.out HB3.out.size hb4)
  clear hb4 HB1 HB2 HB3
  go_wp2_with fail
  have hl := R_lit38 w4 smL (by decide)
  change Kd.R k38 38 (w4.alloc (.cells #[.int .i64 0, .int .i64 7, .int .i64 0, .int .i64 0, .int .i64 0, .int .i64 0, .int .i64 1, .int .i64 0, .int .i64 12, .int .i64 2, .int .i64 0, .int .i64 0, .int .i64 0, .int .i64 0, .int .i64 1, .int .i64 0, .int .i64 0, .int .i64 0, .int .i64 0, .int .i64 0, .int .i64 0, .int .i64 0, .int .i64 0, .int .i64 0, .int .i64 0, .int .i64 0, .int .i64 0, .int .i64 0] 38)) w4.heap.size (fun _ => True) (.slice (some ⟨w4.heap.size, 0, none⟩) 4 4) smL at hl
  obtain ⟨W5, hW5⟩ : ∃ W5, w4.alloc (.cells #[.int .i64 0, .int .i64 7, .int .i64 0, .int .i64 0, .int .i64 0, .int .i64 0, .int .i64 1, .int .i64 0, .int .i64 12, .int .i64 2, .int .i64 0, .int .i64 0, .int .i64 0, .int .i64 0, .int .i64 1, .int .i64 0, .int .i64 0, .int .i64 0, .int .i64 0, .int .i64 0, .int .i64 0, .int .i64 0, .int .i64 0, .int .i64 0, .int .i64 0, .int .i64 0, .int .i64 0, .int .i64 0] 38) = W5 := ⟨_, rfl⟩
  have hB5 : Below w.heap.size w W5 := by rw [← hW5]; exact below_alloc HB4.out _
  rw [hW5] at hl ⊢
  have hg5 : w4.heap.size < W5.heap.size := by rw [← hW5]; simp [World.size_alloc]
  have hL := Kd.R_lower hl HB4.out.size
  have hX : W5.heap[w4.heap.size]? = some (.cells (smL.flatMap c38).toArray 38 (0, 0)) := by rw [← hW5]; exact blk_new w4 _
  clear hl hW5 HB4
  generalize w4.heap.size = g at hL hg5 hX ⊢
  have HX5 := Aside0.mk hX
  clear hX
  have HL5 := Aside0.mk hL
  have HB5 := Aside0.mk hB5
  have HG5 := Aside0.mk hg5
  clear hL hB5 hg5
  refine (asm_Assemble.calls (some ⟨g, 0, none⟩) 4 smL smC 0 W5 (C_of_R HL5.out).2.2 (by decide) sm_asm).mono ?_
  rintro e w6 ⟨v6, rfl, hr6, hb6⟩
  obtain ⟨A6, k6, rfl, hk6, hc6⟩ := Kd.R_reads hr6
  have HL6 := Aside0.mk (Kd.R_below HL5.out hb6)
  have HB6 := Aside0.mk (below_then HB5.out HB5.out.size hb6)
  have HX6 := Aside0.mk (blk_below HX5.out hb6)
  have HR6 := Aside0.mk hr6
  have HK6 := Aside0.mk hk6
  have HG6 : Aside0 (g < w6.heap.size) := ⟨Nat.lt_of_lt_of_le HG5.out hb6.size⟩
  clear hr6 hb6 hc6 hk6 HL5 HB5 HX5
  go_wp2_with fail
  refine (asm_Places.calls (some ⟨g, 0, none⟩) 4 smL [⟨1, 2⟩] 0 w6 (C_of_R HL6.out).2.2 (by decide) sm_pla).mono ?_
  rintro e w7 ⟨v7, rfl, hr7, hb7⟩
  obtain ⟨A7, k7, rfl, hk7, hc7⟩ := Kd.R_reads hr7
  have HL7 := Aside0.mk (Kd.R_below HL6.out hb7)
  have HB7 := Aside0.mk (below_then HB6.out HB6.out.size hb7)
  have HX7 := Aside0.mk (blk_below HX6.out hb7)
  have HR7 := Aside0.mk hr7
  have HK7 := Aside0.mk hk7
  have HR67 := Aside0.mk (Kd.R_below HR6.out hb7)
  clear hr7 hb7 hc7 hk7 HL6 HB6 HR6 HX6
  go_wp2_with fail
  refine (asm_Label.calls 1 _ _ _ _ _ _ _ _ sm_label).mono ?_
  rintro e w8 ⟨rfl, hb8⟩
  have HL8 := Aside0.mk (Kd.R_below HL7.out hb8)
  have HB8 := Aside0.mk (below_then HB7.out HB7.out.size hb8)
  have HX8 := Aside0.mk (blk_below HX7.out hb8)
  have HR8 := Aside0.mk (Kd.R_below HR7.out hb8)
  have HR68 := Aside0.mk (Kd.R_below HR67.out hb8)
  clear hb8 HL7 HB7 HR7 HR67 HX7
  obtain ⟨i0, hi, hz0, hz1, hz2⟩ := info_parts info38'
  obtain ⟨W8, hW8⟩ : ∃ W8, w8.alloc (.cells #[.int .i64 1, .int .i64 0, .int .i64 0, .int .i64 0, .int .i64 0, .int .i64 0, .int .i64 0] 38) = W8 := ⟨_, rfl⟩
  have hb8 : Below w8.heap.size w8 W8 := by rw [← hW8]; exact below_alloc (Below.refl _ _) _
  have hx8 : W8.heap[w8.heap.size]? = some (.cells #[.int .i64 1, .int .i64 0, .int .i64 0, .int .i64 0, .int .i64 0, .int .i64 0, .int .i64 0] 38 (0, 0)) := by rw [← hW8]; exact blk_new w8 _
  have HXX := Aside0.mk (blk_below HX8.out hb8)
  have HNX := Aside0.mk hx8
  rw [← hW8] at hx8 HXX HNX hb8
  clear hW8
  have HLX := Aside0.mk (Kd.R_below HL8.out hb8)
  have HBX := Aside0.mk (below_then HB8.out HB8.out.size hb8)
  have HRX := Aside0.mk (Kd.R_below HR8.out hb8)
  have HR6X := Aside0.mk (Kd.R_below HR68.out hb8)
  clear hx8 hb8 HL8 HB8 HR8 HR68 HX8
  go_wp2_with (at_builtin; refine wpList_append_arg _ rfl _ _ 22 rfl 38 i0 (.agg #[.int .i64 0, .int .i64 0, .int .i64 0, .int .i64 0, .int .i64 0, .int .i64 0, .int .i64 0]) 7 56 Tryd.underlying22 hi hz0 hz1 hz2 rfl (by decide) g 0 4 4 (smL.flatMap c38) rfl rfl (fun j u hj => by rw [Nat.zero_add, blk_cell HXX.out j]; simpa using hj) ⟨w8.heap.size, 0, none⟩ 1 1 [.int .i64 1, .int .i64 0, .int .i64 0, .int .i64 0, .int .i64 0, .int .i64 0, .int .i64 0] rfl rfl (fun j u hj => by rw [add_plain, blk_cell HNX.out j]; simpa using hj) (by simp [Value.oneCell']) (fun h => absurd h (by decide)) (by decide) (by decide) (fun h => absurd h (by decide)) (fun _ v9 w9 hown9 hg9 => ?_))
  have hb9 : Below (w8.alloc (.cells #[.int .i64 1, .int .i64 0, .int .i64 0, .int .i64 0, .int .i64 0, .int .i64 0, .int .i64 0] 38)).heap.size (w8.alloc (.cells #[.int .i64 1, .int .i64 0, .int .i64 0, .int .i64 0, .int .i64 0, .int .i64 0, .int .i64 0] 38)) w9 := ⟨hg9.os, hg9.tape, hg9.output, hg9.size, fun i hi => hg9.block i hi (by simp)⟩
  obtain ⟨g9, k9, rfl⟩ := ownsRow_succ9 hown9
  have hc9 : Kd.C k38 w9 (some ⟨g9, 0, none⟩) (smL ++ [smX]).length (smL ++ [smX]) ∧ 5 ≤ k9 := by
    have h1 : Kd.R k38 38 w9 (w8.alloc (.cells #[.int .i64 1, .int .i64 0, .int .i64 0, .int .i64 0, .int .i64 0, .int .i64 0, .int .i64 0] 38)).heap.size (fun _ => True) (.slice (some ⟨g9, 0, none⟩) 5 k9) (smL ++ [smX]) :=
      ⟨fun _ _ => trivial, _, hown9, by
        have h2 := reps_lit k38 c38 (fun w b ok x => k38_mkM w b ok x) (fun _ => rfl) w9 (w8.alloc (.cells #[.int .i64 1, .int .i64 0, .int .i64 0, .int .i64 0, .int .i64 0, .int .i64 0, .int .i64 0] 38)).heap.size (fun k => True ∧ some k ≠ (Value.slice (some ⟨g9, 0, none⟩) 5 k9).ownBlock) (smL ++ [smX])
        exact h2⟩
    obtain ⟨_, h2, h3⟩ := C_of_R h1
    exact ⟨h3, h2⟩
  have HL9 := Aside0.mk (Kd.R_below HLX.out hb9)
  have HB9 := Aside0.mk (below_then HBX.out HBX.out.size hb9)
  have HR9 := Aside0.mk (Kd.R_below HRX.out hb9)
  have HR69 := Aside0.mk (Kd.R_below HR6X.out hb9)
  clear hb9 hg9 hown9 HLX HBX HRX HR6X HXX HNX
  have hcall := asm_Assemble.calls (some ⟨g9, 0, none⟩) k9 (smL ++ [smX]) [] 4 w9 hc9.1 hc9.2 sm_asm2
  rw [show (smL ++ [smX]).length = 5 from rfl] at hcall
  refine hcall.mono ?_
  clear hcall
  rintro e w10 ⟨v10, rfl, hr10, hb10⟩
  obtain ⟨A10, k10, rfl, _, _⟩ := Kd.R_reads hr10
  have HL10 := Aside0.mk (Kd.R_below HL9.out hb10)
  have HB10 := Aside0.mk (below_then HB9.out HB9.out.size hb10)
  have HR10 := Aside0.mk (Kd.R_below HR9.out hb10)
  have HR610 := Aside0.mk (Kd.R_below HR69.out hb10)
  clear hr10 hb10 hc9 HL9 HB9 HR9 HR69
  go_wp2_with fail
  have hs := R_lit32 w10 smC (by decide)
  obtain ⟨W11, hW11⟩ : ∃ W11, w10.alloc (.cells #[.int .i64 7, .int .i64 0, .int .i64 0, .int .i64 0, .int .i64 2, .int .i64 12, .int .i64 2, .int .i64 0, .int .i64 0, .int .i64 0, .int .i64 0, .int .i64 0, .int .i64 0, .int .i64 0, .int .i64 0] 32) = W11 := ⟨_, rfl⟩
  change Kd.R k32 32 (w10.alloc (.cells #[.int .i64 7, .int .i64 0, .int .i64 0, .int .i64 0, .int .i64 2, .int .i64 12, .int .i64 2, .int .i64 0, .int .i64 0, .int .i64 0, .int .i64 0, .int .i64 0, .int .i64 0, .int .i64 0, .int .i64 0] 32)) w10.heap.size (fun _ => True) (.slice (some ⟨w10.heap.size, 0, none⟩) 3 3) smC at hs
  have hb11 : Below w10.heap.size w10 W11 := by rw [← hW11]; exact below_alloc (Below.refl _ _) _
  rw [hW11] at hs ⊢
  have hc6 := (C_of_R (Kd.R_below HR610.out hb11)).2
  have hcall := swageref02_Same.calls 30 A6 k6 smC (some ⟨w10.heap.size, 0, none⟩) 3 smC true W11 hc6.2 hc6.1 (C_of_R hs).2.2 (by decide) sm_same
  rw [show (smC.length : Nat) = 3 from rfl] at hcall ⊢
  refine hcall.mono ?_
  rintro e w12 ⟨rfl, hd12⟩
  have hb12 : Below w10.heap.size w10 w12 := below_then hb11 hb11.size hd12.below
  have HL12 := Aside0.mk (Kd.R_below HL10.out hb12)
  have HB12 := Aside0.mk (below_then HB10.out HB10.out.size hb12)
  have HR12 := Aside0.mk (Kd.R_below HR10.out hb12)
  clear hcall hs hW11 hb11 hc6 hd12 hb12 HL10 HB10 HR10 HR610
  go_wp2_with fail
  have hs := R_lit46 w12 [⟨1, 2⟩] (by decide)
  obtain ⟨W13, hW13⟩ : ∃ W13, w12.alloc (.cells #[.int .i64 1, .int .i64 2] 46) = W13 := ⟨_, rfl⟩
  change Kd.R k46 46 (w12.alloc (.cells #[.int .i64 1, .int .i64 2] 46)) w12.heap.size (fun _ => True) (.slice (some ⟨w12.heap.size, 0, none⟩) 1 1) [⟨1, 2⟩] at hs
  have hb13 : Below w12.heap.size w12 W13 := by rw [← hW13]; exact below_alloc (Below.refl _ _) _
  rw [hW13] at hs ⊢
  have hc7 := (C_of_R (Kd.R_below HR12.out hb13)).2
  have hcall := swageref05_Pairs.calls 30 A7 k7 [⟨1, 2⟩] (some ⟨w12.heap.size, 0, none⟩) 1 [⟨1, 2⟩] true W13 hc7.2 hc7.1 (C_of_R hs).2.2 (by decide) sm_pairs
  refine hcall.mono ?_
  rintro e w14 ⟨rfl, hd14⟩
  have hb14 : Below w12.heap.size w12 w14 := below_then hb13 hb13.size hd14.below
  have HL14 := Aside0.mk (Kd.R_below HL12.out hb14)
  have HB14 := Aside0.mk (below_then HB12.out HB12.out.size hb14)
  clear hcall hs hW13 hb13 hc7 hd14 hb14 HL12 HB12 HR12
  go_wp2_with fail
  have htx := text_any 30 (some ⟨g, 0, none⟩) 4 smL smT w14 (C_of_R HL14.out).2.2 (GL.below HG.out HB14.out) (by decide) sm_text0
  unfold smT at htx
  refine htx.mono ?_
  clear htx
  rintro e w15 ⟨rfl, hb15⟩
  have HB15 := Aside0.mk (below_then HB14.out HB14.out.size hb15)
  clear hb15 HL14 HB14
  go_wp2_with fail
  refine (asm_Const.calls 1 1099511627776 _ _ sm_const).mono ?_
  rintro e w16 ⟨v16, rfl, hr16, hb16⟩
  obtain ⟨A16, k16, rfl, _, _⟩ := Kd.R_reads hr16
  have HB16 := Aside0.mk (below_then HB15.out HB15.out.size hb16)
  clear hr16 hb16 HB15
  go_wp2_with fail
  refine bodyPost_ret (v := .bool true) (by simp [results, Tryd.results7, go_sem]) rfl ⟨rfl, HB16.out⟩
def swagelaw05_small.f : Option Bool := some true
theorem swagelaw05_small.calls (r : Bool) (w : World) (hGL : Aside0 (GL w)) (h : swagelaw05_small.f = some r) : Calls Tryd.prog 7 #[] w fun e w' => e = .returned (.bool r) ∧ Below w.heap.size w w' := by
  injection h with h
  subst h
  exact small_walk w hGL.out
end Go.Proofs.YtmfcmjcgajjiiaaDoor.S
