import Derived.Test.YtnkgbnbbmcoiiaaOof
import Derived.Test.YtnkgbnbbmcoiiaaOat
import Derived.Test.YtnkgbnbbmcoiiaaS8
namespace Go.Proofs.Ytnkgbnbbmcoiiaa.S
open Go.RowKit Go.IM Go.Proofs.YtnkgbnbbmcoiiaaW.PrintWords Go.Proofs.YtnkgbnbbmcoiiaaW.PrintLast Go.Proofs.YtnkgbnbbmcoiiaaW.PrintMore
set_option linter.unusedVariables false
set_option linter.unusedSimpArgs false
/-! ### The function of swagelaw25.small -/
def bsS : List S43 := [⟨[⟨1, 1, 0, 0, 4, []⟩, ⟨9, 0, 1, 0, 0, []⟩], ⟨3, 1, 0, 0⟩⟩]
theorem sm_right : rightF 0 bsS 256 = true := by decide +kernel
theorem sm_u0 : useX (opOf bsS (0, 0)) = [] := by decide +kernel
theorem sm_u1 : useX (opOf bsS (0, 1)) = [1] := by decide +kernel
theorem sm_s0 : setX (opOf bsS (0, 0)) = 1 := by decide +kernel
theorem sm_s1 : setX (opOf bsS (0, 1)) = 0 := by decide +kernel
theorem sm_len : opLen bsS 0 = 2 := rfl
theorem sm_t : tuseT (rd_T43 bsS ((0 : Nat) : Int)).f1 = [1] := by decide +kernel
theorem sm_succ : succT (rd_T43 bsS ((0 : Nat) : Int)).f1 = [] := by decide +kernel
theorem sm_p0 : pos bsS 0 = 0 := by decide +kernel
theorem sm_p1 : pos bsS 1 = 3 := by decide +kernel
theorem sm_num : numL bsS = [0, 3] := by decide +kernel
theorem sm_bk {r : Int} : ¬ Lv.Bk (gOf bsS) (fun _ _ => False) 0 2 r := by
  intro h
  have e0 : (gOf bsS).use 0 ((gOf bsS).len 0 - 1 - 1) = [] := sm_u0
  have e1 : (gOf bsS).use 0 ((gOf bsS).len 0 - 1 - 0) = [1] := sm_u1
  have e2 : (gOf bsS).set 0 ((gOf bsS).len 0 - 1 - 1) = 1 := sm_s0
  have e3 : (gOf bsS).tuse 0 = [1] := sm_t
  rcases h with h | ⟨h1, h⟩
  · rw [e0] at h; cases h
  · rw [e2] at h1
    rcases h with h | ⟨_, h⟩
    · rw [e1, List.mem_singleton] at h; exact h1 h
    · rcases h with h | ⟨j, _, h⟩
      · rw [e3, List.mem_singleton] at h; exact h1 h
      · exact h
theorem sm_at {r : Int} : ¬ Lv.At (gOf bsS) r 0 0 := fun h => by
  have hw := (rightF_iff sm_right).wf
  exact sm_bk (Lv.Bk.complete hw (fun i hi r hb => by
    have : i = 0 := by
      have : i < 1 := hi
      omega
    subst this
    exact sm_bk hb) h (show 0 < 1 by decide) (Nat.zero_le _))
theorem sm_pts {r q : Int} : Pts 0 bsS bsS.length r q ↔ r = 1 ∧ (q = 1 ∨ q = 2) := by
  have RP := rightF_iff sm_right
  constructor
  · rintro (⟨_, h1, h2⟩ | ⟨i, hi, h⟩)
    · omega
    · have e : i = 0 := by
        have : i < 1 := hi
        omega
      subst e
      rcases h with ⟨h, _⟩ | ⟨h, _⟩ | ⟨h, hq⟩ | ⟨k, hk, h⟩
      · exact absurd ((mem_liveRow RP).1 h) sm_at
      · obtain ⟨j, hj, _⟩ := (mem_outRow RP).1 h
        rw [sm_succ] at hj
        cases hj
      · rw [sm_t, List.mem_singleton] at h
        rw [show (0 : Nat) + 1 = 1 from rfl, sm_p1] at hq
        exact ⟨h, by omega⟩
      · rw [sm_len] at hk
        have hk2 : k = 0 ∨ k = 1 := by omega
        rcases hk2 with rfl | rfl
        · rcases h with ⟨h, _⟩ | ⟨_, h, hq⟩
          · rw [sm_u0] at h; cases h
          · rw [sm_s0] at h
            rw [sm_p0] at hq
            exact ⟨h, by omega⟩
        · rcases h with ⟨h, hq⟩ | ⟨h0, _⟩
          · rw [sm_u1, List.mem_singleton] at h
            rw [sm_p0] at hq
            exact ⟨h, by omega⟩
          · exact absurd sm_s1 h0
  · rintro ⟨rfl, rfl | rfl⟩
    · refine .inr ⟨0, by decide, .inr (.inr (.inr ⟨0, by decide, .inr ⟨?_, ?_, ?_⟩⟩))⟩
      · rw [sm_s0]; decide
      · rw [sm_s0]
      · rw [sm_p0]; rfl
    · refine .inr ⟨0, by decide, .inr (.inr (.inl ⟨?_, ?_⟩))⟩
      · rw [sm_t]; exact List.mem_singleton.2 rfl
      · rw [show (0 : Nat) + 1 = 1 from rfl, sm_p1]; rfl
theorem sm_of {out : List S26} (h : OfQ (Pts 0 bsS bsS.length) out) : out = [⟨1, 1, 2⟩] := by
  have hx : ∀ x ∈ out, x = ⟨1, 1, 2⟩ := fun x hx => by
    obtain ⟨r, a, b⟩ := x
    have hs := h.span _ hx
    obtain ⟨e, h1⟩ := sm_pts.1 hs.lo
    obtain ⟨_, h2⟩ := sm_pts.1 hs.hi
    have h3 := hs.all 1 (sm_pts.2 ⟨e, .inl rfl⟩)
    have h4 := hs.all 2 (sm_pts.2 ⟨e, .inr rfl⟩)
    simp only at e h1 h2 h3 h4
    have ea : a = 1 := by omega
    have eb : b = 2 := by omega
    rw [e, ea, eb]
  obtain ⟨x, hx1, _⟩ := h.all 1 1 (sm_pts.2 ⟨rfl, .inl rfl⟩)
  have hr := h.rise
  cases out with
  | nil => cases hx1
  | cons y ys =>
    cases ys with
    | nil => rw [hx y List.mem_cons_self]
    | cons z zs =>
      have e1 := hx y List.mem_cons_self
      have e2 := hx z (List.mem_cons_of_mem _ List.mem_cons_self)
      subst e1 e2
      have := List.rel_of_pairwise_cons hr (show (1 : Int) ∈ _ from List.mem_cons_self)
      simp at this
theorem srt1 : srt [1] = [1] := by
  unfold srt
  simp
theorem sm_most : spans_Most.f 5 [⟨1, 1, 2⟩] = some 1 := by
  have e : spans_At.f [⟨1, 1, 2⟩] 1 = some [1] := by
    unfold spans_At.f
    rw [if_pos (by decide)]
    have : ats [⟨1, 1, 2⟩] 1 = [1] := by decide +kernel
    rw [this, srt1]
  unfold spans_Most.f spans_Most.l0
  rw [if_pos (by decide), if_pos (by decide), if_pos (by decide)]
  have e1 : (rd_T26 [⟨1, 1, 2⟩] 0).f1 = 1 := rfl
  rw [e1, e, Option.bind_some]
  decide +kernel
theorem sm_at2 : spans_At.f [⟨1, 1, 2⟩] 2 = some [1] := by
  unfold spans_At.f
  rw [if_pos (by decide)]
  have : ats [⟨1, 1, 2⟩] 2 = [1] := by decide +kernel
  rw [this, srt1]
end Go.Proofs.Ytnkgbnbbmcoiiaa.S
