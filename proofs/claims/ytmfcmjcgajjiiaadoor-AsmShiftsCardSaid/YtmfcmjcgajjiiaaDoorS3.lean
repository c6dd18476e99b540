-- a text of the seat, by a program
import Derived.Test.YtmfcmjcgajjiiaaDoorS0
namespace Go.Proofs.YtmfcmjcgajjiiaaDoor.S
open Go.RowKit Go.Proofs.YtmfcmjcgajjiiaaDoorW.PrintWords Go.Proofs.YtmfcmjcgajjiiaaDoorW.PrintLast
set_option linter.unusedVariables false
set_option linter.unusedSimpArgs false

theorem eqA46 (d : Nat) (w : World) (x0 y0 : Int) (x1 y1 : Int) :
    (Op.equalIn (d + 2) 46 (.agg #[.int .i64 x0, .int .i64 x1]) (.agg #[.int .i64 y0, .int .i64 y1])).run Tryd.prog w = .ok (x0 == y0 && (x1 == y1)) w := by
  have p0 : ∀ (a b : Int), (part 3 #[.int .i64 a, .int .i64 b] 0).run Tryd.prog w = .ok (.int .i64 a) w := fun a b => by go_simp
  have p1 : ∀ (a b : Int), (part 3 #[.int .i64 a, .int .i64 b] 1).run Tryd.prog w = .ok (.int .i64 b) w := fun a b => by go_simp
  have e : ∀ (a b : Int), (Op.equalIn (d + 1) 3 (.int .i64 a) (.int .i64 b)).run Tryd.prog w = .ok (a == b) w := fun a b => by go_simp
  have hs : (sizeOf 3).run Tryd.prog w = .ok 1 w := by kernel_rfl
  rw [Op.equalIn]
  simp only [Sem.run_bind, run_underlying Tryd.underlying46, Result.andThen_ok, hs]
  by_cases h0 : x0 = y0 <;> by_cases h1 : x1 = y1 <;> simp [List.range', p0, p1, e, Sem.run_bind, Result.andThen_ok, h0, h1]
end Go.Proofs.YtmfcmjcgajjiiaaDoor.S
