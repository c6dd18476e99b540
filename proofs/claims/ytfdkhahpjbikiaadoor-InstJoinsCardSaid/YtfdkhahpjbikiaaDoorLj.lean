import Derived.Test.YtfdkhahpjbikiaaDoorLq
import Derived.Test.YtfdkhahpjbikiaaDoorS7
namespace Go.Proofs.YtfdkhahpjbikiaaDoor.S
open Go.RowKit Go.Proofs.YtfdkhahpjbikiaaDoorW.PrintWords Go.Proofs.YtfdkhahpjbikiaaDoorW.PrintLast Go.Proofs.YtfdkhahpjbikiaaDoorW.PrintMore
set_option linter.unusedVariables false
theorem str_cat (x y : List Int) : strOfNums x ++ strOfNums y = strOfNums (x ++ y) := by
  unfold strOfNums
  apply ByteArray.ext
  simp
theorem encA_yes {l : List S23} (h : ∀ x ∈ l, RP x) : encA l = (l.flatMap b8, 0) := by unfold encA; rw [if_pos h]
theorem encA_no {l : List S23} (h : ¬ ∀ x ∈ l, RP x) : encA l = ([], 1) := by unfold encA; rw [if_neg h]
theorem str_size (x : List Int) : (strOfNums x).size = x.length := by
  unfold strOfNums
  show (Array.size _) = _
  simp
theorem joins_law (a b : List S23) (ha : ∀ x ∈ a, I64 x.f4) (hb : ∀ x ∈ b, I64 x.f4) : swagelaw02_InstJoins.f 400 a b = some true := by
  unfold swagelaw02_InstJoins.f
  rw [show swagelaw02_small.f = some true from rfl, show (400 : Nat) = 399 + 1 from rfl]
  simp only [Option.bind_some]
  by_cases h1 : (a.length : Int) > 100
  · rw [if_pos h1]
    simp only [swagelaw02_InstJoins.j0]
    rw [if_pos trivial]
  rw [if_neg h1]
  by_cases h2 : (b.length : Int) > 100
  · rw [decide_eq_true h2]
    simp only [swagelaw02_InstJoins.j0]
    rw [if_pos trivial]
  rw [decide_eq_false h2]
  simp only [swagelaw02_InstJoins.j0]
  have hab : ∀ x ∈ a ++ b, I64 x.f4 := fun x hx => by
    rcases List.mem_append.1 hx with h | h
    · exact ha x h
    · exact hb x h
  rw [if_neg (by decide), ea_eq (by omega) ha (by omega), ea_eq (by omega) hb (by omega)]
  simp only [Option.bind_some, List.nil_append, List.length_nil, Nat.zero_add]
  rw [if_pos (by omega), if_pos (by omega), ea_eq (by simp; omega) hab (by simp; omega)]
  simp only [Option.bind_some]
  by_cases pa : ∀ x ∈ a, RP x
  · rw [encA_yes pa]
    simp only
    rw [if_pos trivial]
    by_cases pb : ∀ x ∈ b, RP x
    · have pab : ∀ x ∈ a ++ b, RP x := fun x hx => by
        rcases List.mem_append.1 hx with h | h
        · exact pa x h
        · exact pb x h
      rw [encA_yes pb, encA_yes pab]
      simp only
      rw [if_pos trivial, flat_len, flat_len, if_pos (by omega), if_pos (by omega)]
      have ej : a.flatMap b8 ++ b.flatMap b8 = (a ++ b).flatMap b8 := by rw [List.flatMap_append]
      rw [ej, da_eq (by rw [flat_len]; simp; omega) (flat_byte pab) (by omega), allD_flat pab]
      simp only [Option.bind_some]
      rw [if_pos trivial, if_pos trivial, str_size, str_size, flat_len, flat_len, if_pos (by omega), str_cat, ej, if_pos rfl, if_pos trivial, w64 _ (by omega)]
      congr 1
      simp
    · have pab : ¬ ∀ x ∈ a ++ b, RP x := fun h => pb fun x hx => h x (by simp [hx])
      rw [encA_no pb, encA_no pab]
      simp
  · have pab : ¬ ∀ x ∈ a ++ b, RP x := fun h => pa fun x hx => h x (by simp [hx])
    rw [encA_no pa, encA_no pab]
    simp
end Go.Proofs.YtfdkhahpjbikiaaDoor.S
