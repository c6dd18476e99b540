import Derived.Test.YtncpgclcbdgndaaS0
import Derived.Test.YtncpgclcbdgndaaIm
namespace Go.Proofs.Ytncpgclcbdgndaa.S
open Go.RowKit Go.Proofs.YtncpgclcbdgndaaW.PrintWords Go.Proofs.YtncpgclcbdgndaaW.PrintLast Go.Proofs.YtncpgclcbdgndaaW.PrintMore
set_option linter.unusedVariables false
/-- Are spans a row, behind some whose registers were met? -/
def rgt : List S38 → List Int → Bool
  | [], _ => true
  | s :: l, seen => if s.f0 < 1 then false else if s.f0 > 4096 then false else if s.f1 > s.f2 then false else if s.f0 ∈ seen then false else rgt l (seen ++ [s.f0])
def keyed (l : List Int) : List (Int × Value) := l.map fun r => (r, .bool true)
theorem lk_keyed (l : List Int) (k : Int) : (IM.lk (keyed l) k).getD (.bool false) = .bool (decide (k ∈ l)) := by
  induction l with
  | nil => rfl
  | cons a l ih =>
    show (if k = a then some (Value.bool true) else IM.lk (keyed l) k).getD _ = _
    by_cases h : k = a
    · simp [h]
    · rw [if_neg h, ih]
      simp [h]
theorem st_keyed (l : List Int) (k : Int) (h : k ∉ l) : IM.st (keyed l) k (.bool true) = keyed (l ++ [k]) := by
  induction l with
  | nil => rfl
  | cons a l ih =>
    simp only [List.mem_cons, not_or] at h
    have e : IM.st (keyed (a :: l)) k (.bool true) = (a, .bool true) :: IM.st (keyed l) k (.bool true) := by
      show (if k = a then _ else _) = _
      rw [if_neg h.1]
      rfl
    rw [e, ih h.2]
    rfl
theorem zero4 (w : World) : (zeroValue 4).run Try.prog w = .ok (.bool false) w := by kernel_rfl
theorem rd38 {l : List S38} {j : Nat} (h : j < l.length) : rd_T38 l (j : Int) = l[j] := by
  unfold rd_T38
  simp [List.getD_eq_getElem?_getD, h]
set_option maxHeartbeats 8000000 in
set_option maxRecDepth 100000 in
theorem right_any (A : Option Addr) (c : Nat) (l : List S38) (w : World) (hr : Kd.C k38 w A l.length l) :
    Calls Try.prog 13 #[.slice A l.length c] w fun e w' => e = .returned (.bool (rgt l [])) ∧ Below w.heap.size w w' := by
  have hu38 := Try.underlying38
  have hmm := @run_makeMap Try.prog
  have HR := Aside0.mk hr
  have hn : l.length ≤ 9223372036854775807 := hr.2.1
  clear hr
  go_enter Try.func13, Try.ntmps13
  go_wp2_with fail
  go_loopw [9] (fun i wr => ∃ j : Nat, j ≤ l.length ∧ i = .int .i64 j ∧ Aside0 (IM.At wr w.heap.size (keyed ((l.take j).map (·.f0)))) ∧ Aside0 (rgt (l.drop j) ((l.take j).map (·.f0)) = rgt l []) ∧ Aside0 (Below w.heap.size w wr)) (fun i _ => l.length - (intOf i).toNat)
  case atStart => exact ⟨0, Nat.zero_le _, rfl, ⟨IM.At.made w⟩, ⟨rfl⟩, ⟨below_alloc (Below.refl _ _) _⟩⟩
  case round =>
    obtain ⟨j, hj, rfl, HM, HG, HB⟩ := hrel
    have fin : ∀ (b : Bool) (W : World), Aside0 (rgt l [] = b) → Below w.heap.size w W → (fun (e : Ending) w' => e = .returned (.bool (rgt l [])) ∧ Below w.heap.size w w') (.returned (.bool b)) W := fun b W h hb => ⟨by rw [h.out], hb⟩
    by_cases hlt : j < l.length
    · obtain ⟨ad, eA, k0, k1, k2⟩ := at_T38 (Kd.C_below HR.out HB.out) (j : Int) (by omega) (by omega)
      rw [rd38 hlt] at k0 k1 k2
      simp only [Int.toNat_natCast] at k0 k1 k2
      have HD : Aside0 (l.drop j = l[j] :: l.drop (j + 1)) := ⟨List.drop_eq_getElem_cons hlt⟩
      have HT : Aside0 ((l.take (j + 1)).map (·.f0) = (l.take j).map (·.f0) ++ [l[j].f0]) := ⟨by rw [List.take_succ_eq_append_getElem hlt, List.map_append]; rfl⟩
      generalize l[j] = s at k0 k1 k2 HD HT
      subst eA
      by_cases c1 : s.f0 < 1
      · have b1 : decide (s.f0 < 1) = true := decide_eq_true c1
        have HF : Aside0 (rgt l [] = false) := ⟨by rw [← HG.out, HD.out]; simp only [rgt]; rw [if_pos c1]⟩
        clear c1
        go_wp2_with fail
        go_ret
        exact fin _ _ HF (below_alloc HB.out _)
      · have b1 : decide (s.f0 < 1) = false := decide_eq_false c1
        by_cases c2 : 4096 < s.f0
        · have b2 : decide (4096 < s.f0) = true := decide_eq_true c2
          have HF : Aside0 (rgt l [] = false) := ⟨by rw [← HG.out, HD.out]; simp only [rgt]; rw [if_neg c1, if_pos c2]⟩
          clear c1 c2
          go_wp2_with fail
          go_ret
          exact fin _ _ HF (below_alloc HB.out _)
        · have b2 : decide (4096 < s.f0) = false := decide_eq_false c2
          by_cases c3 : s.f2 < s.f1
          · have b3 : decide (s.f2 < s.f1) = true := decide_eq_true c3
            have HF : Aside0 (rgt l [] = false) := ⟨by rw [← HG.out, HD.out]; simp only [rgt]; rw [if_neg c1, if_neg c2, if_pos c3]⟩
            clear c1 c2 c3
            go_wp2_with fail
            go_ret
            exact fin _ _ HF (below_alloc HB.out _)
          · have b3 : decide (s.f2 < s.f1) = false := decide_eq_false c3
            by_cases c4 : s.f0 ∈ (l.take j).map (·.f0)
            · have b4 : decide (s.f0 ∈ (l.take j).map (·.f0)) = true := decide_eq_true c4
              have HF : Aside0 (rgt l [] = false) := ⟨by rw [← HG.out, HD.out]; simp only [rgt]; rw [if_neg c1, if_neg c2, if_neg c3, if_pos c4]⟩
              have HL : ∀ W : World, (IM.lk (keyed ((l.take j).map (·.f0))) s.f0).getD (.bool false) = .bool true := fun _ => by rw [lk_keyed, b4]
              have HL := Aside0.mk (HL w)
              clear c1 c2 c3 c4 b4
              go_wp2_with (at_lookup; refine IM.guard_on _ (by rfl) ?_; dsimp only; refine IM.wpl_lookup _ rfl _ _ 46 false rfl 3 4 Try.underlying46 Try.underlying3 (.bool false) (zero4 _) w.heap.size _ rfl (HM.out.alloc _) s.f0 rfl ?_; simp only [Bool.false_eq_true, if_false]; rw [HL.out])
              go_ret
              exact fin _ _ HF (below_alloc HB.out _)
            · have b4 : decide (s.f0 ∈ (l.take j).map (·.f0)) = false := decide_eq_false c4
              have HF : Aside0 (rgt (l.drop (j + 1)) ((l.take (j + 1)).map (·.f0)) = rgt l []) := ⟨by rw [← HG.out, HD.out, HT.out]; simp only [rgt]; rw [if_neg c1, if_neg c2, if_neg c3, if_neg c4]⟩
              have HL : Aside0 ((IM.lk (keyed ((l.take j).map (·.f0))) s.f0).getD (.bool false) = .bool false) := ⟨by rw [lk_keyed, b4]⟩
              have HS : Aside0 (IM.st (keyed ((l.take j).map (·.f0))) s.f0 (.bool true) = keyed ((l.take (j + 1)).map (·.f0))) := ⟨by rw [st_keyed _ _ c4, HT.out]⟩
              clear c1 c2 c3 c4 b4
              go_wp2_with (first | (at_lookup; refine IM.guard_on _ (by rfl) ?_; dsimp only; refine IM.wpl_lookup _ rfl _ _ 46 false rfl 3 4 Try.underlying46 Try.underlying3 (.bool false) (zero4 _) w.heap.size _ rfl (HM.out.alloc _) s.f0 rfl ?_; simp only [Bool.false_eq_true, if_false]; rw [HL.out]) | (at_mapUpdate; refine IM.wpl_update _ rfl _ _ _ 46 rfl 3 4 Try.underlying46 Try.underlying3 w.heap.size _ rfl (HM.out.alloc _) s.f0 rfl (.bool true) rfl ?_; intro w1 hm1 hg1 hs1; rw [HS.out] at hm1; clear hs1))
              go_roundw
              case rel => exact ⟨j + 1, by omega, by go_num, ⟨hm1⟩, HF, ⟨pw_below_grown (below_alloc HB.out _) _ (below_alloc HB.out _).size hg1 (fun k e => by cases e; exact Nat.le_refl _)⟩⟩
              case measure => simp [intOf]; omega
    · have HF : Aside0 (rgt l [] = true) := ⟨by rw [← HG.out, List.drop_of_length_le (by omega)]; rfl⟩
      have b1 : decide (j < l.length) = false := decide_eq_false hlt
      go_wp2_with fail
      go_ret
      exact fin _ _ HF HB.out
def scan_Right.f (l0 : List S38) : Option Bool := some (rgt l0 [])
theorem scan_Right.calls (A0 : Option Addr) (c0 : Nat) (l0 : List (S38)) (r : Bool) (w : World) (hr0 : Kd.C k38 w A0 l0.length l0) (hc0 : l0.length ≤ c0) (h : scan_Right.f l0 = some r) :
    Calls Try.prog 13 #[.slice A0 l0.length c0] w fun e w' => e = .returned (.bool r) ∧ Below w.heap.size w w' := by
  obtain rfl : rgt l0 [] = r := Option.some.inj h
  exact right_any A0 c0 l0 w hr0
end Go.Proofs.Ytncpgclcbdgndaa.S
