import Derived.Test.YtmfcmjcgajjiiaaDoorLasm
import Derived.Test.YtmfcmjcgajjiiaaDoorOsmall
import Derived.Test.YtmfcmjcgajjiiaaDoorRel
import Derived.Test.YtmfcmjcgajjiiaaDoorS4
import Derived.Test.YtmfcmjcgajjiiaaDoorS6
namespace Go.Proofs.YtmfcmjcgajjiiaaDoor.S
open Go.RowKit Go.RelRegion Go.Proofs.YtmfcmjcgajjiiaaDoorW.PrintWords Go.Proofs.YtmfcmjcgajjiiaaDoorW.PrintLast Go.Proofs.YtmfcmjcgajjiiaaDoorW.PrintMore
set_option linter.unusedVariables false
set_option linter.unusedSimpArgs false
attribute [local go_sem high] eqA32 eqA38
theorem same32 (l : List S32) (k : Nat) (hk : l.length < k) (hl : l.length < 100000000) : swageref02_Same.f k l l = some true := by
  have key : ∀ (n k : Nat) (i : Nat), l.length - i < n → n ≤ k → swageref02_Same.l0 k l l (i : Int) = some true := by
    intro n
    induction n with
    | zero => intro k i h; omega
    | succ n ih =>
      intro k i h hk
      obtain ⟨k, rfl⟩ : ∃ j, k = j + 1 := ⟨k - 1, by omega⟩
      simp only [swageref02_Same.l0]
      by_cases hi : (i : Int) < (l.length : Int)
      · rw [if_pos hi, if_pos (by omega), if_pos hi, if_neg (by simp)]
        have e : wrap64 ((i : Int) + 1) = ((i + 1 : Nat) : Int) := by rw [w64 _ (by omega)]; omega
        rw [e]
        exact ih k (i + 1) (by omega) (by omega)
      · rw [if_neg hi]
  unfold swageref02_Same.f
  rw [if_pos rfl]
  exact key (l.length + 1) k 0 (by omega) (by omega)
theorem same46 (l : List S46) (k : Nat) (hk : l.length < k) (hl : l.length < 100000000) : swageref05_Pairs.f k l l = some true := by
  have key : ∀ (n k : Nat) (i : Nat), l.length - i < n → n ≤ k → swageref05_Pairs.l0 k l l (i : Int) = some true := by
    intro n
    induction n with
    | zero => intro k i h; omega
    | succ n ih =>
      intro k i h hk
      obtain ⟨k, rfl⟩ : ∃ j, k = j + 1 := ⟨k - 1, by omega⟩
      simp only [swageref05_Pairs.l0]
      by_cases hi : (i : Int) < (l.length : Int)
      · rw [if_pos hi, if_pos (by omega), if_pos hi, if_neg (by simp)]
        have e : wrap64 ((i : Int) + 1) = ((i + 1 : Nat) : Int) := by rw [w64 _ (by omega)]; omega
        rw [e]
        exact ih k (i + 1) (by omega) (by omega)
      · rw [if_neg hi]
  unfold swageref05_Pairs.f
  rw [if_pos rfl]
  exact key (l.length + 1) k 0 (by omega) (by omega)
theorem same38 (l : List S38) (k : Nat) (hk : l.length < k) (hl : l.length < 100000000) : swageref05_Same.f k l l = some true := by
  have key : ∀ (n k : Nat) (i : Nat), l.length - i < n → n ≤ k → swageref05_Same.l0 k l l (i : Int) = some true := by
    intro n
    induction n with
    | zero => intro k i h; omega
    | succ n ih =>
      intro k i h hk
      obtain ⟨k, rfl⟩ : ∃ j, k = j + 1 := ⟨k - 1, by omega⟩
      simp only [swageref05_Same.l0]
      by_cases hi : (i : Int) < (l.length : Int)
      · rw [if_pos hi, if_pos (by omega), if_pos hi, if_neg (by simp)]
        have e : wrap64 ((i : Int) + 1) = ((i + 1 : Nat) : Int) := by rw [w64 _ (by omega)]; omega
        rw [e]
        exact ih k (i + 1) (by omega) (by omega)
      · rw [if_neg hi]
  unfold swageref05_Same.f
  rw [if_pos rfl]
  exact key (l.length + 1) k 0 (by omega) (by omega)
set_option maxHeartbeats 4000000 in
set_option maxRecDepth 100000 in
theorem makes_long (A : Option Addr) (c n : Nat) (op a to' : Int) (w : World) (hGL : GL w) (hl : 150 < n) (hn : n ≤ 9223372036854775807) :
    Calls Tryd.prog 3 #[.slice A n c, .int .i64 op, .int .i64 a, .int .i64 to'] w fun e w' => e = .returned (.bool true) ∧ Below w.heap.size w w' := by
  have b1 : decide ((150 : Int) < (n : Int)) = true := decide_eq_true (by omega)
  have HG := Aside0.mk hGL
  clear hGL hl hn
  go_enter Tryd.func3, Tryd.ntmps3
  go_wp2_with (go_at_call 7; refine (small_walk w HG.out).mono ?_; rintro e w1 ⟨rfl, hb1⟩)
  go_ret
  exact ⟨rfl, hb1⟩
set_option maxHeartbeats 16000000 in
set_option maxRecDepth 100000 in
theorem makes_walk (k : Nat) (A : Option Addr) (c : Nat) (l : List S38) (op a to' : Int) (C : List S32) (E : Int) (Pl : List S46) (G : Int) (tx : ByteArray) (w : World) (hGL : GL w) (hC : Kd.C k38 w A l.length l) (hc : l.length ≤ c) (hl : l.length ≤ 150)
    (h1 : asm_Assemble.f l = some (C, E)) (h2 : swageref05_Assemble.f k l = some (C, E)) (h3 : asm_Places.f l = some (Pl, G)) (h4 : swageref05_Places.f k l = some (Pl, G)) (h5 : asm_Text.f k l = some tx) (h6 : swageref05_Text.f k l = some tx)
    (s1 : swageref02_Same.f k C C = some true) (s2 : swageref05_Pairs.f k Pl Pl = some true) (s3 : swageref05_Same.f k l l = some true) :
    Calls Tryd.prog 3 #[.slice A l.length c, .int .i64 op, .int .i64 a, .int .i64 to'] w fun e w' => e = .returned (.bool true) ∧ Below w.heap.size w w' := by
  have b1 : decide ((150 : Int) < (l.length : Int)) = false := decide_eq_false (by omega)
  have hu38 := Tryd.underlying38
  have hu32 := Tryd.underlying32
  have HG := Aside0.mk hGL
  have HC := Aside0.mk hC
  have HCC := Aside0.mk hc
  have HLL := Aside0.mk hl
  have H1 := Aside0.mk h1
  have H2 := Aside0.mk h2
  have H3 := Aside0.mk h3
  have H4 := Aside0.mk h4
  have H5 := Aside0.mk h5
  have H6 := Aside0.mk h6
  have T1 := Aside0.mk s1
  have T2 := Aside0.mk s2
  have T3 := Aside0.mk s3
  clear hGL hC hc hl h1 h2 h3 h4 h5 h6 s1 s2 s3
  go_enter Tryd.func3, Tryd.ntmps3
  go_wp2_with (first
    | (go_at_call 7; refine (small_walk w HG.out).mono ?_; rintro e w1 ⟨rfl, hb1⟩; have HB1 := Aside0.mk hb1; have HR0 := Aside0.mk (Kd.R_lower (R_lit38 w1 [] (by decide)) hb1.size); have HBX := Aside0.mk (below_alloc hb1 (.cells #[] 38)); clear hb1)
    | (at_builtin; refine Kd.R_append_rows k38 (w0 := w) w.heap.size rfl _ _ 22 38 (.agg #[.int .i64 0, .int .i64 0, .int .i64 0, .int .i64 0, .int .i64 0, .int .i64 0, .int .i64 0]) 56 rfl Tryd.underlying22 info38' rfl (by decide) (by omega) (.slice (some ⟨w1.heap.size, 0, none⟩) 0 0) [] l A l.length c (fun _ => True) (fun _ => False) rfl rfl HR0.out (Kd.C_below HC.out HBX.out) (fun x cs h => by rw [k38_open h]; exact k38_mkM _ _ _ _) (fun _ h => h.elim) (fun _ _ => trivial) HBX.out HBX.out.size (by have := HLL.out; simp only [List.length_nil]; omega) ?_; intro v2 w2 hr2 hb2 hg2 hat2; rw [List.nil_append] at hr2; obtain ⟨A2, c2, hv2, hk2, hc2⟩ := Kd.R_reads hr2; subst hv2; have HC2 := Aside0.mk hc2; have HK2 := Aside0.mk hk2; have HB2 := Aside0.mk hb2; clear hr2 hb2 hg2 hat2 hc2 hk2)
    | (go_at_call 8; refine (asm_Assemble.calls A2 c2 l C E _ HC2.out HK2.out H1.out).mono ?_; rintro e w3 ⟨v3, rfl, hr3, hb3⟩; obtain ⟨A3, c3, hv3, hk3, hc3⟩ := Kd.R_reads hr3; subst hv3; have HC3 := Aside0.mk hc3; have HK3 := Aside0.mk hk3; have HB3 := Aside0.mk (below_then HB2.out HB2.out.size hb3); have HC23 := Aside0.mk (Kd.C_below HC2.out hb3); clear hr3 hb3 hc3 hk3)
    | (go_at_call 9; refine (swageref05_Assemble.calls k A c l C E _ (Kd.C_below HC.out HB3.out) HCC.out H2.out).mono ?_; rintro e w4 ⟨v4, rfl, hr4, hb4⟩; obtain ⟨A4, c4, hv4, hk4, hc4⟩ := Kd.R_reads hr4; subst hv4; have HC4 := Aside0.mk hc4; have HK4 := Aside0.mk hk4; have HB4 := Aside0.mk (below_then HB3.out HB3.out.size hb4); have HC24 := Aside0.mk (Kd.C_below HC23.out hb4); have HC34 := Aside0.mk (Kd.C_below HC3.out hb4); clear hr4 hb4 hc4 hk4)
    | (go_at_call 10; refine (asm_Places.calls A2 c2 l Pl G _ HC24.out HK2.out H3.out).mono ?_; rintro e w5 ⟨v5, rfl, hr5, hb5⟩; obtain ⟨A5, c5, hv5, hk5, hc5⟩ := Kd.R_reads hr5; subst hv5; have HC5 := Aside0.mk hc5; have HK5 := Aside0.mk hk5; have HB5 := Aside0.mk (below_then HB4.out HB4.out.size hb5); have HC25 := Aside0.mk (Kd.C_below HC24.out hb5); have HC35 := Aside0.mk (Kd.C_below HC34.out hb5); have HC45 := Aside0.mk (Kd.C_below HC4.out hb5); clear hr5 hb5 hc5 hk5)
    | (go_at_call 11; refine (swageref05_Places.calls k A c l Pl G _ (Kd.C_below HC.out HB5.out) HCC.out H4.out).mono ?_; rintro e w6 ⟨v6, rfl, hr6, hb6⟩; obtain ⟨A6, c6, hv6, hk6, hc6⟩ := Kd.R_reads hr6; subst hv6; have HC6 := Aside0.mk hc6; have HK6 := Aside0.mk hk6; have HB6 := Aside0.mk (below_then HB5.out HB5.out.size hb6); have HC26 := Aside0.mk (Kd.C_below HC25.out hb6); have HC36 := Aside0.mk (Kd.C_below HC35.out hb6); have HC46 := Aside0.mk (Kd.C_below HC45.out hb6); have HC56 := Aside0.mk (Kd.C_below HC5.out hb6); clear hr6 hb6 hc6 hk6))
  have hbx := blk_new w6 (.cells #[.int .i64 op, .int .i64 a, .int .i64 0, .int .i64 0, .int .i64 0] 32)
  have hb7 : Below w6.heap.size w6 (w6.alloc (.cells #[.int .i64 op, .int .i64 a, .int .i64 0, .int .i64 0, .int .i64 0] 32)) := below_alloc (Below.refl _ _) _
  obtain ⟨W7, hW7⟩ : ∃ W7, w6.alloc (.cells #[.int .i64 op, .int .i64 a, .int .i64 0, .int .i64 0, .int .i64 0] 32) = W7 := ⟨_, rfl⟩
  rw [hW7] at hbx hb7 ⊢
  clear hW7
  have hB7 := below_then HB6.out HB6.out.size hb7
  have hG7 := GL.below HG.out hB7
  have hD0 := Kd.C_below HC.out hB7
  have hD2 := Kd.C_below HC26.out hb7
  have hD3 := Kd.C_below HC36.out hb7
  have hD4 := Kd.C_below HC46.out hb7
  have hD5 := Kd.C_below HC56.out hb7
  have hD6 := Kd.C_below HC6.out hb7
  have x0 := blk_cell hbx 0
  have x1 := blk_cell hbx 1
  have x2 := blk_cell hbx 2
  have x3 := blk_cell hbx 3
  have x4 := blk_cell hbx 4
  simp only [List.getElem?_toArray, List.getElem?_cons_zero, List.getElem?_cons_succ] at x0 x1 x2 x3 x4
  clear hbx hb7
  refine wp_region_rel 58 (fun _ => none) (fun _ => []) (fun _ _ _ => True) (fun w' => Below W7.heap.size W7 w') (fun a b => Below a.heap.size a b) (by kernel_rfl) (by kernel_rfl) (below_drew (Below.refl _ _)) (fun a b h k => below_then h h.size k) (fun _ _ _ _ _ _ => trivial) ?_
  simp only [List.take_succ_cons, List.take_zero, List.drop_succ_cons, List.drop_zero]
  iterate 58 (apply relQ_step rfl; apply Exists.intro; constructor; (focus (intro w' hw'; have x0 := pw_cell_below hw' x0; have x1 := pw_cell_below hw' x1; have x2 := pw_cell_below hw' x2; have x3 := pw_cell_below hw' x3; have x4 := pw_cell_below hw' x4; unfold Yl; go_wp2_with (first | (go_at_call 12; refine (swageref02_Same.calls k A3 c3 C A4 c4 C true _ (Kd.C_below hD3 hw') HK3.out (Kd.C_below hD4 hw') HK4.out T1.out).mono ?_; rintro e w2 ⟨rfl, hd⟩; have hb := hd.below) | (go_at_call 13; refine (swageref05_Pairs.calls k A5 c5 Pl A6 c6 Pl true _ (Kd.C_below hD5 hw') HK5.out (Kd.C_below hD6 hw') HK6.out T2.out).mono ?_; rintro e w2 ⟨rfl, hd⟩; have hb := hd.below) | (go_at_call 14; refine (asm_Text.calls k A2 c2 l tx _ ⟨GL.below hG7 hw'⟩ (Kd.C_below hD2 hw') HK2.out H5.out).mono ?_; rintro e w2 ⟨rfl, hb⟩) | (go_at_call 15; refine (swageref05_Text.calls k A c l tx _ (Kd.C_below hD0 hw') HCC.out H6.out).mono ?_; rintro e w2 ⟨rfl, hb⟩) | (go_at_call 16; refine (swageref05_Same.calls k A2 c2 l A c l true _ (Kd.C_below hD2 hw') HK2.out (Kd.C_below hD0 hw') HCC.out T3.out).mono ?_; rintro e w2 ⟨rfl, hd⟩; have hb := hd.below) | (go_at_call 17; refine (asm_Label.calls to' _ _ _ _ _ _ _ _ rfl).mono ?_; rintro e w2 ⟨rfl, hb⟩) | (go_at_call 18; refine (asm_Plain.calls op a 0 0 0 _ _ _ _ _ _ _ _ rfl).mono ?_; rintro e w2 ⟨rfl, hb⟩) | (go_at_call 19; refine (asm_Jump.calls op a to' _ _ _ _ _ _ _ _ rfl).mono ?_; rintro e w2 ⟨rfl, hb⟩)); first | exact ⟨rfl, _, rfl, rfl, hb⟩ | exact ⟨rfl, _, rfl, rfl, Below.refl _ _⟩)); (try simp only [Act.put, List.setIfInBounds_toArray, List.set_cons_zero, List.set_cons_succ]))
  refine relQ_nil (fun x => ?_)
  repeat (refine relL_quiet rfl ?_)
  refine relL_nil (fun w' hw' _ => ?_)
  clear x0 x1 x2 x3 x4
  have hBe := Aside0.mk (below_then hB7 hB7.size hw')
  go_wp2_with fail
  refine bodyPost_ret (v := .bool true) (by simp [results, Tryd.results3, go_sem]) rfl ⟨rfl, hBe.out⟩
theorem asmR_len (rt : S38 → Bool) (l : List S38) : (asmR rt l).1.length ≤ l.length := by
  unfold asmR
  split
  · simp
  · split
    · simp
    · split
      · simp
      · rename_i out h
        split
        · simp
        · exact asG_len h
theorem plaR_len (rt : S38 → Bool) (l : List S38) : (plaR rt l).1.length ≤ l.length := by
  unfold plaR
  split
  · simp
  · split
    · simp
    · rename_i es h
      rw [List.length_map, sortK_length]
      exact fs_len h
theorem makes_law (A : Option Addr) (c : Nat) (l : List S38) (op a to' : Int) (w : World) (hGL : GL w) (hC : Kd.C k38 w A l.length l) (hc : l.length ≤ c) (hi : ∀ x ∈ l, LI x) :
    Calls Tryd.prog 3 #[.slice A l.length c, .int .i64 op, .int .i64 a, .int .i64 to'] w fun e w' => e = .returned (.bool true) ∧ Below w.heap.size w w' := by
  by_cases hl : 150 < l.length
  · exact makes_long A c l.length op a to' w hGL hl hC.2.1
  · obtain ⟨k, hk⟩ : ∃ k : Nat, 50000 ≤ k := ⟨50000, Nat.le_refl _⟩
    have hb : (l.length + 2) * (2 * l.length + 5) + l.length ≤ k := by
      have : (l.length + 2) * (2 * l.length + 5) ≤ 152 * 305 := Nat.mul_le_mul (by omega) (by omega)
      omega
    obtain ⟨tx, htx⟩ := txt_ok l hi
    have e1 := asm_eq hi (by omega : l.length ≤ 1000000000000)
    have e2 := rasm_eq (by omega : l.length ≤ 1000000) hb
    have e3 := pla_eq hi (by omega : l.length ≤ 1000000000000)
    have e4 := rplaces_eq l (by omega) hb
    rw [places_same] at e4
    have e5 : asm_Text.f k l = some tx := by
      unfold asm_Text.f
      rw [if_pos (by omega), htx k (by omega)]
    have e6 : swageref05_Text.f k l = some tx := by
      unfold swageref05_Text.f
      rw [if_pos ⟨by omega, List.all_eq_true.2 fun x hx => decide_eq_true (hi x hx)⟩, htx 30 (by omega)]
    have n1 := asmR_len rtP l
    have n2 := plaR_len rtP l
    exact makes_walk k A c l op a to' (asmR rtP l).1 (asmR rtP l).2 (plaR rtP l).1 (plaR rtP l).2 tx w hGL hC hc (by omega) e1 e2 e3 e4 e5 e6 (same32 _ k (by omega) (by omega)) (same46 _ k (by omega) (by omega)) (same38 _ k (by omega) (by omega))
end Go.Proofs.YtmfcmjcgajjiiaaDoor.S
