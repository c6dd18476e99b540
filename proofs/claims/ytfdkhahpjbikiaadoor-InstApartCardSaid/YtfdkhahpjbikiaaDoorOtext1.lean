import Derived.Test.YtfdkhahpjbikiaaDoorS0
import Derived.Test.YtfdkhahpjbikiaaDoorGl
import Derived.Test.YtfdkhahpjbikiaaDoorOitoa
import Derived.Test.YtfdkhahpjbikiaaDoorRel
import Derived.Lib.ItoaLen
namespace Go.Proofs.YtfdkhahpjbikiaaDoor.S
open Go.RowKit Go.Proofs.YtfdkhahpjbikiaaDoorW.PrintWords Go.Proofs.YtfdkhahpjbikiaaDoorW.PrintLast Go.Proofs.YtfdkhahpjbikiaaDoorW.PrintMore Go.RelRegion
set_option linter.unusedVariables false
theorem itoa_calls (a0 : Int) (w : World) (hGL : GL w) (h0 : -9223372036854775808 ≤ a0) (h1 : a0 ≤ 9223372036854775807) :
    Calls Tryd.prog 34 #[.int .i64 a0] w fun e w' => e = .returned (.string ⟨(Lib.itoa a0).toArray⟩) ∧ Below w.heap.size w w' :=
  strconv_Itoa.calls a0 _ w ⟨hGL⟩ (by unfold strconv_Itoa.f; rw [if_pos ⟨h0, h1⟩])
theorem stp_trans {B : Nat} {a b c : World} (hB : B ≤ b.heap.size) (h : Below B a b) (k : Below b.heap.size b c) : Below B a c := below_then h hB k

/-- A closure of Text: it adds to the text out, which lies in block B. -/
theorem text1_yes (p s : ByteArray) (n : Int) (B : Nat) (w : World) (hGL : GL w) (h0 : -9223372036854775808 ≤ n) (h1 : n ≤ 9223372036854775807)
    (hp : p.size ≤ 10) (hs : s.size ≤ 1000) (hB : w.heap[B]? = some (.cells #[.string s] 9 (0, 0))) :
    Calls Tryd.prog 35 #[.bool true, .string p, .int .i64 n, .pointer (some ⟨B, 0, none⟩)] w fun e w' =>
      e = .returned (.tuple #[]) ∧ w'.heap[B]? = some (.cells #[.string (s ++ ((⟨#[32]⟩ : ByteArray) ++ p ++ ⟨(Lib.itoa n).toArray⟩))] 9 (0, 0)) ∧ w.grownBy w' (some B) := by
  have hc : w.cell? ⟨B, 0, none⟩ = some (.string s) := by simp [World.cell?, hB]
  have hBl : B < w.heap.size := (Array.getElem?_eq_some_iff.1 hB).1
  have hlen := Lib.itoa_length_le n h0 h1
  go_enter Tryd.func35, Tryd.ntmps35
  go_wp2_with fail
  refine wp_region_rel 7 (fun _ => none) (fun _ => []) (fun _ _ _ => True) (fun w' => Below w.heap.size w w') (fun a b => Below a.heap.size a b) (by kernel_rfl) (by kernel_rfl) (below_drew (Below.refl _ _)) (fun a b h k => below_then h h.size k) (fun _ _ _ _ _ _ => trivial) ?_
  simp only [List.take_succ_cons, List.take_zero, List.drop_succ_cons, List.drop_zero]
  apply relQ_step rfl; apply Exists.intro; refine ⟨fun w' hw' => ?_, ?_⟩
  · have hc' : w'.cell? ⟨B, 0, none⟩ = some (.string s) := (hw'.cell hBl).trans hc
    unfold Yl
    go_wp2
    exact ⟨rfl, _, rfl, rfl, Below.refl _ _⟩
  apply relQ_step rfl; apply Exists.intro; refine ⟨fun w' hw' => ?_, ?_⟩
  · unfold Yl
    go_wp2
    exact ⟨rfl, _, rfl, rfl, Below.refl _ _⟩
  apply relQ_step rfl; apply Exists.intro; refine ⟨fun w' hw' => ?_, ?_⟩
  · unfold Yl
    go_wp2
    exact ⟨rfl, _, rfl, rfl, Below.refl _ _⟩
  apply relQ_step rfl; apply Exists.intro; refine ⟨fun w' hw' => ?_, ?_⟩
  · unfold Yl
    go_wp2
    exact ⟨rfl, _, rfl, rfl, Below.refl _ _⟩
  apply relQ_step rfl; apply Exists.intro; refine ⟨fun w' hw' => ?_, ?_⟩
  · have hg := hGL.below hw'
    unfold Yl
    go_wp2_with (go_at_call 34; refine (itoa_calls n _ hg h0 h1).mono ?_; rintro e w2 ⟨rfl, hb2⟩)
    exact ⟨rfl, _, rfl, rfl, hb2⟩
  apply relQ_step rfl; apply Exists.intro; refine ⟨fun w' hw' => ?_, ?_⟩
  · unfold Yl
    go_wp2
    exact ⟨rfl, _, rfl, rfl, Below.refl _ _⟩
  apply relQ_step rfl; apply Exists.intro; refine ⟨fun w' hw' => ?_, ?_⟩
  · unfold Yl
    go_wp2
    exact ⟨rfl, _, rfl, rfl, Below.refl _ _⟩
  refine relQ_nil (fun x => ?_)
  repeat (refine relL_quiet rfl ?_)
  refine relL_nil (fun w' hw' _ => ?_)
  have hB' : w'.heap[B]? = some (.cells #[.string s] 9 (0, 0)) := (hw'.block B hBl).trans hB
  have hc' : w'.cell? ⟨B, 0, none⟩ = some (.string s) := (hw'.cell hBl).trans hc
  have hf' : w'.frozen? ⟨B, 0, none⟩ = false := by simp [World.frozen?, hB']
  clear hB hc
  go_wp2
  go_end0
  refine ⟨rfl, ?_, hw'.os, hw'.tape, hw'.output, ?_, fun i hi hne => ?_⟩
  · exact Joins.block_setCell hB' _
  · have := hw'.size
    simpa [World.setCell] using this
  · rw [Below.heap_setCell _ _ _ _ (fun e => hne (congrArg some e))]
    exact hw'.block i hi

theorem text1_no (p : ByteArray) (n : Int) (B : Nat) (w : World) :
    Calls Tryd.prog 35 #[.bool false, .string p, .int .i64 n, .pointer (some ⟨B, 0, none⟩)] w fun e w' => e = .returned (.tuple #[]) ∧ w' = w := by
  go_enter Tryd.func35, Tryd.ntmps35
  go_wp2_with fail
  go_end0
  exact ⟨rfl, rfl⟩
end Go.Proofs.YtfdkhahpjbikiaaDoor.S
