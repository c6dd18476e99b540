import Derived.Test.YtfdkhahpjbikiaaDoorLf0
import Derived.Test.YtfdkhahpjbikiaaDoorLr
import Derived.Lib.ItoaMem
namespace Go.Proofs.YtfdkhahpjbikiaaDoor.S
open Go.RowKit Go.Proofs.YtfdkhahpjbikiaaDoorW.PrintWords Go.Proofs.YtfdkhahpjbikiaaDoorW.PrintLast Go.Proofs.YtfdkhahpjbikiaaDoorW.PrintMore
set_option linter.unusedVariables false
set_option linter.unusedSimpArgs false
/-! ### The texts: unlike instructions have unlike ones -/
/-- A run of letters of one kind, and what begins with none of them: told apart. -/
theorem split_inj (P : UInt8 → Bool) : ∀ (p q r s : List UInt8), (∀ c ∈ p, P c = true) → (∀ c ∈ q, P c = true) → (∀ c, r.head? = some c → P c = false) → (∀ c, s.head? = some c → P c = false) → p ++ r = q ++ s → p = q ∧ r = s
  | [], [], r, s, _, _, _, _, h => ⟨rfl, h⟩
  | [], c :: q, r, s, _, hq, hr, _, h => by
    have h : r = c :: (q ++ s) := h
    have e := hr c (by rw [h]; rfl)
    rw [hq c (by simp)] at e
    cases e
  | c :: p, [], r, s, hp, _, _, hs, h => by
    have h : c :: (p ++ r) = s := h
    have e := hs c (by rw [← h]; rfl)
    rw [hp c (by simp)] at e
    cases e
  | c :: p, d :: q, r, s, hp, hq, hr, hs, h => by
    simp only [List.cons_append, List.cons.injEq] at h
    obtain ⟨h1, h2⟩ := split_inj P p q r s (fun x hx => hp x (by simp [hx])) (fun x hx => hq x (by simp [hx])) hr hs h.2
    exact ⟨by rw [h.1, h1], h2⟩
def isLet (c : UInt8) : Bool := 97 ≤ c.toNat && c.toNat ≤ 122
def isDig (c : UInt8) : Bool := c.toNat == 45 || (48 ≤ c.toNat && c.toNat ≤ 57)
theorem dec_dig (u : Nat) : ∀ c ∈ Lib.decDigits u, 48 ≤ c.toNat ∧ c.toNat ≤ 57 := by
  induction u using Nat.strongRecOn with
  | _ u ih =>
    intro c hc
    rw [Lib.decDigits] at hc
    split at hc
    · simp only [List.mem_singleton] at hc
      subst hc
      rw [UInt8.toNat_ofNat']
      omega
    · simp only [List.mem_append, List.mem_singleton] at hc
      rcases hc with hc | rfl
      · exact ih (u / 10) (by omega) c hc
      · rw [UInt8.toNat_ofNat']
        omega
def decVal (l : List UInt8) : Nat := l.foldl (fun a c => a * 10 + (c.toNat - 48)) 0
theorem dec_val (u : Nat) : decVal (Lib.decDigits u) = u := by
  induction u using Nat.strongRecOn with
  | _ u ih =>
    rw [Lib.decDigits]
    split
    · simp only [decVal, List.foldl_cons, List.foldl_nil, UInt8.toNat_ofNat']
      omega
    · have := ih (u / 10) (by omega)
      unfold decVal at this ⊢
      rw [List.foldl_append, this]
      simp only [List.foldl_cons, List.foldl_nil, UInt8.toNat_ofNat']
      omega
theorem itoa_dig (n : Int) : ∀ c ∈ Lib.itoa n, isDig c = true := by
  intro c hc
  unfold Lib.itoa at hc
  unfold isDig
  split at hc
  · simp only [List.mem_cons] at hc
    rcases hc with rfl | hc
    · rfl
    · have := dec_dig _ c hc
      simp [this]
  · have := dec_dig _ c hc
    simp [this]
theorem itoa_inj {n m : Int} (h : Lib.itoa n = Lib.itoa m) : n = m := by
  unfold Lib.itoa at h
  have hd : ∀ (u : Nat) (l : List UInt8), Lib.decDigits u = 45 :: l → False := fun u l e => by
    have := dec_dig u 45 (by rw [e]; simp)
    revert this
    decide
  split at h <;> split at h
  · simp only [List.cons.injEq, true_and] at h
    have := congrArg decVal h
    rw [dec_val, dec_val] at this
    omega
  · exact (hd _ _ h.symm).elim
  · exact (hd _ _ h).elim
  · have := congrArg decVal h
    rw [dec_val, dec_val] at this
    omega
/-- A part of a text: its mark, a number. -/
def seg (t : Bool) (p : List UInt8) (n : Int) : List UInt8 := if t = true then p ++ Lib.itoa n else []
theorem seg_inj {t : Bool} {p : List UInt8} {n m : Int} {r s : List UInt8} (hr : ∀ c, r.head? = some c → isDig c = false) (hs : ∀ c, s.head? = some c → isDig c = false) (h : seg t p n ++ r = seg t p m ++ s) : (t = true → n = m) ∧ r = s := by
  unfold seg at h
  cases t with
  | false => simpa using h
  | true =>
    simp only [if_true, List.append_assoc, List.append_cancel_left_eq] at h
    obtain ⟨h1, h2⟩ := split_inj isDig _ _ _ _ (itoa_dig n) (itoa_dig m) hr hs h
    exact ⟨fun _ => itoa_inj h1, h2⟩
/-- What stands behind the name. -/
def tailL (sa sb sc si : Bool) (a b c imm : Int) : List UInt8 := seg sc [46] imm ++ (seg sa [32, 114] a ++ (seg sb [32, 114] b ++ (seg sc [32, 114] c ++ (seg (if sc = true then false else si) [32] imm ++ []))))
theorem head_seg {t : Bool} {p : List UInt8} {n : Int} {r : List UInt8} {P : UInt8 → Prop} (hp : ∃ c l, p = c :: l ∧ P c) (hr : ∀ c, r.head? = some c → P c) : ∀ c, (seg t p n ++ r).head? = some c → P c := by
  obtain ⟨c, l, rfl, hc⟩ := hp
  intro d hd
  unfold seg at hd
  cases t with
  | false => exact hr d (by simpa using hd)
  | true =>
    simp at hd
    rw [← hd]
    exact hc
theorem tail_inj {sa sb sc si : Bool} {a b c i a' b' c' i' : Int} (h : tailL sa sb sc si a b c i = tailL sa sb sc si a' b' c' i') : (sc = true → i = i') ∧ (sa = true → a = a') ∧ (sb = true → b = b') ∧ (sc = true → c = c') ∧ (si = true → i = i') := by
  unfold tailL at h
  have n0 : ∀ d, ([] : List UInt8).head? = some d → isDig d = false := fun d hd => by simp at hd
  have p1 : ∃ c l, ([32, 114] : List UInt8) = c :: l ∧ isDig c = false := ⟨32, [114], rfl, by decide⟩
  have p2 : ∃ c l, ([32] : List UInt8) = c :: l ∧ isDig c = false := ⟨32, [], rfl, by decide⟩
  have q1 : ∀ (t : Bool) n d, (seg t [32] n ++ []).head? = some d → isDig d = false := fun t n => head_seg p2 n0
  have q2 : ∀ (t t2 : Bool) n n2 d, (seg t [32, 114] n ++ (seg t2 [32] n2 ++ [])).head? = some d → isDig d = false := fun t t2 n n2 => head_seg p1 (q1 t2 n2)
  have q3 : ∀ (t t2 t3 : Bool) n n2 n3 d, (seg t [32, 114] n ++ (seg t2 [32, 114] n2 ++ (seg t3 [32] n3 ++ []))).head? = some d → isDig d = false := fun t t2 t3 n n2 n3 => head_seg p1 (q2 t2 t3 n2 n3)
  have q4 : ∀ (t t2 t3 t4 : Bool) n n2 n3 n4 d, (seg t [32, 114] n ++ (seg t2 [32, 114] n2 ++ (seg t3 [32, 114] n3 ++ (seg t4 [32] n4 ++ [])))).head? = some d → isDig d = false := fun t t2 t3 t4 n n2 n3 n4 => head_seg p1 (q3 t2 t3 t4 n2 n3 n4)
  obtain ⟨e1, h⟩ := seg_inj (q4 _ _ _ _ _ _ _ _) (q4 _ _ _ _ _ _ _ _) h
  obtain ⟨e2, h⟩ := seg_inj (q3 _ _ _ _ _ _) (q3 _ _ _ _ _ _) h
  obtain ⟨e3, h⟩ := seg_inj (q2 _ _ _ _) (q2 _ _ _ _) h
  obtain ⟨e4, h⟩ := seg_inj (q1 _ _) (q1 _ _) h
  obtain ⟨e5, h⟩ := seg_inj n0 n0 h
  refine ⟨e1, e2, e3, e4, fun hsi => ?_⟩
  cases sc with
  | true => exact e1 rfl
  | false => exact e5 hsi
theorem addS_list (t : Bool) (p : List UInt8) (s : ByteArray) (n : Int) : (addS t ⟨p.toArray⟩ s n).data.toList = s.data.toList ++ seg t (32 :: p) n := by
  unfold addS seg itoaB
  cases t <;> simp
theorem textS_list (nm : ByteArray) (sa sb sc si : Bool) (a b c imm : Int) : (textS nm sa sb sc si a b c imm).data.toList = nm.data.toList ++ tailL sa sb sc si a b c imm := by
  unfold textS tailL
  rw [show (⟨#[]⟩ : ByteArray) = ⟨([] : List UInt8).toArray⟩ from rfl, show (⟨#[114]⟩ : ByteArray) = ⟨([114] : List UInt8).toArray⟩ from rfl, addS_list, addS_list, addS_list, addS_list]
  cases sc <;> simp [seg, itoaB]
theorem names_let : ∀ i : Fin 15, ∀ c ∈ (shapeTab.getD i.val (⟨#[]⟩, false, false, false, false, false, false)).1.data.toList, isLet c = true := by decide +kernel
theorem names_inj : ∀ i j : Fin 15, (shapeTab.getD i.val (⟨#[]⟩, false, false, false, false, false, false)).1.data.toList = (shapeTab.getD j.val (⟨#[]⟩, false, false, false, false, false, false)).1.data.toList → i = j := by decide +kernel
theorem tail_head (sa sb sc si : Bool) (a b c imm : Int) : ∀ d, (tailL sa sb sc si a b c imm).head? = some d → isLet d = false := by
  unfold tailL
  have p0 : ∃ c l, ([46] : List UInt8) = c :: l ∧ isLet c = false := ⟨46, [], rfl, by decide⟩
  have p1 : ∃ c l, ([32, 114] : List UInt8) = c :: l ∧ isLet c = false := ⟨32, [114], rfl, by decide⟩
  have p2 : ∃ c l, ([32] : List UInt8) = c :: l ∧ isLet c = false := ⟨32, [], rfl, by decide⟩
  exact head_seg p0 (head_seg p1 (head_seg p1 (head_seg p1 (head_seg p2 (fun d hd => by simp at hd)))))
theorem reg_off {n : Int} {b : Bool} (h : regOk n b) (hb : ¬ b = true) : n = 0 := by
  rcases h with h | h
  · exact h
  · exact (hb h.1).elim
theorem text_inj {op a b c i op' a' b' c' i' : Int} (h : RightP op a b c i) (h' : RightP op' a' b' c' i')
    (he : (let s := shapeTab.getD op.toNat (⟨#[]⟩, false, false, false, false, false, false); textS s.1 s.2.1 s.2.2.1 s.2.2.2.1 s.2.2.2.2.1 a b c i) = (let s := shapeTab.getD op'.toNat (⟨#[]⟩, false, false, false, false, false, false); textS s.1 s.2.1 s.2.2.1 s.2.2.2.1 s.2.2.2.2.1 a' b' c' i')) :
    op = op' ∧ a = a' ∧ b = b' ∧ c = c' ∧ i = i' := by
  have he := congrArg (fun b : ByteArray => b.data.toList) he
  simp only [textS_list] at he
  obtain ⟨hn, ht⟩ := split_inj isLet _ _ _ _ (names_let ⟨op.toNat, by have := h.1; have := h.2.1; omega⟩) (names_let ⟨op'.toNat, by have := h'.1; have := h'.2.1; omega⟩) (tail_head _ _ _ _ _ _ _ _) (tail_head _ _ _ _ _ _ _ _) he
  have ho := names_inj ⟨op.toNat, by have := h.1; have := h.2.1; omega⟩ ⟨op'.toNat, by have := h'.1; have := h'.2.1; omega⟩ hn
  have ho : op = op' := by
    have := congrArg Fin.val ho
    have h1 := h.1
    have h2 := h'.1
    simp only at this
    omega
  subst ho
  obtain ⟨e1, e2, e3, e4, e5⟩ := tail_inj ht
  have ha : a = a' := by
    by_cases hb : (shapeTab.getD op.toNat (⟨#[]⟩, false, false, false, false, false, false)).2.1 = true
    · exact e2 hb
    · rw [reg_off h.2.2.1 hb, reg_off h'.2.2.1 hb]
  have hb : b = b' := by
    by_cases hb : (shapeTab.getD op.toNat (⟨#[]⟩, false, false, false, false, false, false)).2.2.1 = true
    · exact e3 hb
    · rw [reg_off h.2.2.2.1 hb, reg_off h'.2.2.2.1 hb]
  have hc : c = c' := by
    by_cases hb : (shapeTab.getD op.toNat (⟨#[]⟩, false, false, false, false, false, false)).2.2.2.1 = true
    · exact e4 hb
    · rw [reg_off h.2.2.2.2.1 hb, reg_off h'.2.2.2.2.1 hb]
  have hi : i = i' := by
    by_cases hb : (shapeTab.getD op.toNat (⟨#[]⟩, false, false, false, false, false, false)).2.2.2.2.1 = true
    · exact e5 hb
    · have g := h.2.2.2.2.2
      have g' := h'.2.2.2.2.2
      have k4 : ¬ op = 4 := fun e => by subst e; exact hb rfl
      have kp : ¬ (shapeTab.getD op.toNat (⟨#[]⟩, false, false, false, false, false, false)).2.2.2.2.2.1 = true := fun e => by
        have := (by decide +kernel : ∀ j : Fin 15, (shapeTab.getD j.val (⟨#[]⟩, false, false, false, false, false, false)).2.2.2.2.2.1 = true → (shapeTab.getD j.val (⟨#[]⟩, false, false, false, false, false, false)).2.2.2.2.1 = true) ⟨op.toNat, by have := h.1; have := h.2.1; omega⟩ e
        exact hb this
      rw [if_neg k4, if_neg kp, if_neg hb] at g g'
      rw [g, g']
  exact ⟨rfl, ha, hb, hc, hi⟩
end Go.Proofs.YtfdkhahpjbikiaaDoor.S
