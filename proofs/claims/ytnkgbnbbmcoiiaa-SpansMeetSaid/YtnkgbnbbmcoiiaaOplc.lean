import Derived.Test.YtnkgbnbbmcoiiaaLregs
import Derived.Test.YtnkgbnbbmcoiiaaOsmall
import Derived.Test.YtnkgbnbbmcoiiaaS6
namespace Go.Proofs.Ytnkgbnbbmcoiiaa.S
open Go.RowKit Go.IM Go.RelRegion Go.Proofs.YtnkgbnbbmcoiiaaW.PrintWords Go.Proofs.YtnkgbnbbmcoiiaaW.PrintLast Go.Proofs.YtnkgbnbbmcoiiaaW.PrintMore
set_option linter.unusedVariables false
set_option linter.unusedSimpArgs false
/-! ### swagelaw25.SpansPlaces -/
def RiseTo (l : List Int) (z : Int) : Prop := l.Pairwise (· < ·) ∧ ∀ x ∈ l, x < z
theorem RiseTo.snoc {l : List Int} {z : Int} (h : RiseTo l z) : RiseTo (l ++ [z]) (z + 1) := by
  refine ⟨List.pairwise_append.2 ⟨h.1, List.pairwise_singleton _ _, fun a ha b hb => ?_⟩, fun x hx => ?_⟩
  · rw [List.mem_singleton] at hb
    subst hb
    exact h.2 a ha
  · rcases List.mem_append.1 hx with hx | hx
    · have := h.2 x hx; omega
    · rw [List.mem_singleton] at hx; omega
theorem inc63 {j n : Nat} (h : j < n) (hn : n ≤ 9223372036854775807) : wrap64 ((j : Int) + 1) = (j : Int) + 1 := by
  unfold wrap64
  omega
theorem span_any (A : Option Addr) (c : Nat) (l : List S26) (r : Int) (a b : Int) (w : World) (hC : Kd.C k26 w A l.length l) (hc : l.length ≤ c) (hl : l.length ≤ 4096) (h : spanF l r = (r, a, b, true)) :
    Calls Try.prog 22 #[.slice A l.length c, .int .i64 r] w fun e w' => e = .returned (.tuple #[.agg #[.int .i64 r, .int .i64 a, .int .i64 b], .bool true]) ∧ Below w.heap.size w w' :=
  swagelaw25_span.calls (l.length + 1) A c l r r a b true w hC hc ((span_f l r hl).trans (by rw [h]))
theorem ofq_len {p : Int} {bs : List S43} (h : RightP p bs 256) {out : List S26} (hq : OfQ (Pts p bs bs.length) out) : out.length ≤ 4096 := by
  have hn : (out.map (·.f0)).Nodup := hq.rise.imp (fun h => by omega)
  have := Lv.regs_le hn (fun r hr => by
    obtain ⟨x, hx, rfl⟩ := List.mem_map.1 hr
    have hs := hq.span x hx
    exact pts_reg h (Nat.le_refl _) hs.1)
  simpa using this
end Go.Proofs.Ytnkgbnbbmcoiiaa.S
