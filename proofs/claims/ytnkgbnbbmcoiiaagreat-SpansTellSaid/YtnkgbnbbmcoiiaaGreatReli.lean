import Derived.Deep.Quiet
import Derived.Below
import Derived.OwnWalkIn
import Derived.OrdersIn
import Derived.RangeFuncCalls
namespace Go.RelRegion
variable {P:Program} {ops:Array Oper}

theorem yielded_congr {tmps tmps' : Array Value} {j:Nat} (h:∀ t,(ops[j]?).bind (·.dst)=some t→tmps.getD t undef=tmps'.getD t undef):yielded ops tmps j=yielded ops tmps' j:=by
 unfold yielded
 cases hd:(ops[j]?).bind (·.dst) with
 | none=>rfl
 | some t =>
  have:=h t hd
  simp only [Option.bind_some]
  rw [Array.getD_eq_getD_getElem?,Array.getD_eq_getD_getElem?] at this
  generalize tmps[t]?=x at this ⊢
  generalize tmps'[t]?=y at this ⊢
  cases x with
  | none =>
   cases y with
   | none=>rfl
   | some v =>
    have e:v=.tuple #[]:=this.symm
    subst e
    rfl
  | some u =>
   cases y with
   | none =>
    have e:u=.tuple #[]:=this
    subst e
    rfl
   | some v =>
    have e:u=v:=this
    subst e
    rfl

theorem wanted_congr {o:Oper} {a a' : Act} (h:∀ t∈o.looksAt ops,a.tmps.getD t undef=a'.tmps.getD t undef):Region.wanted o (yielded ops a.tmps)=Region.wanted o (yielded ops a'.tmps):=by
 unfold Region.wanted
 cases hg:o.guard with
 | none=>rfl
 | some gw =>
  obtain ⟨g,want⟩:=gw
  simp only
  rw [yielded_congr (ops:=ops) (tmps:=a.tmps) (tmps':=a'.tmps) (j:=g) (fun t ht=>h t ?_)]
  unfold Oper.looksAt
  rw [hg]
  refine List.mem_append_right _ ?_
  simp only [ht,Option.toList_some,List.mem_singleton]

theorem exec_congr {o:Oper} {a a' : Act} (hs:∀ cs b,o.op≠.select cs b) (h:∀ t∈o.looksAt ops,a.tmps.getD t undef=a'.tmps.getD t undef):execOp a.eval o=execOp a'.eval o:=by
 refine execOp_congr o hs fun x hx=>?_
 cases x with
 | tmp t =>
  refine h t ?_
  unfold Oper.looksAt
  refine List.mem_append_left _ (List.mem_filterMap.2 ⟨.tmp t,by simpa using hx,rfl⟩)
 | _=>rfl

/-- One operation from act 'a' in world 'w': it goes on normally,with a value 'v' in its temporary of which R tells. -/
def YQ (o:Oper) (a:Act) (R:Value→World→Prop) (e:Exit) (a' : Act) (w' : World):Prop:=e=.normal∧∃ v,a'=a.put o.dst v∧R v w'
def Yl (P:Program) (ops:Array Oper) (o:Oper) (a:Act) (w:World) (R:Value→World→Prop):Prop :=
 wpList P ops (YQ o a R) [o] a w
def QR (v:Value) (S:World→World→Prop) (w:World) (u:Value) (w' : World):Prop:=u=v∧S w w'

theorem put_same {a a' : Act} (hz:a.tmps.size=a'.tmps.size) {d:Option Tmp} {v u:Value} (h:a.put d v=a.put d u):a'.put d v=a'.put d u:=by
 cases d with
 | none=>rfl
 | some t =>
  simp only [Act.put] at h ⊢
  have h1:a.tmps.setIfInBounds t v=a.tmps.setIfInBounds t u:=by
   have:=congrArg Act.tmps h
   simpa using this
  by_cases ht:t<a.tmps.size
  ·have h2:(a.tmps.setIfInBounds t v)[t]?=(a.tmps.setIfInBounds t u)[t]?:=by rw [h1]
   rw [Array.getElem?_setIfInBounds_self_of_lt ht,Array.getElem?_setIfInBounds_self_of_lt ht] at h2
   rw [Option.some.inj h2]
  ·have e1:a'.tmps.setIfInBounds t v=a'.tmps:=Array.setIfInBounds_eq_of_size_le (Nat.le_of_not_lt (hz▸ht))
   have e2:a'.tmps.setIfInBounds t u=a'.tmps:=Array.setIfInBounds_eq_of_size_le (Nat.le_of_not_lt (hz▸ht))
   rw [e1,e2]

theorem put_defers' (a:Act) (d:Option Tmp) (v:Value):(a.put d v).defers=a.defers:=by cases d<;>rfl

theorem Yl.move {o:Oper} {a a' : Act} {w:World} {R:Value→World→Prop} {K:Act→World→Prop} {Q:Exit→Act→World→Prop} (hs:∀ cs b,o.op≠.select cs b)
  (hz:a.tmps.size=a'.tmps.size) (hl:∀ t∈o.looksAt ops,a.tmps.getD t undef=a'.tmps.getD t undef) (h:Yl P ops o a w R) (hK:∀ v w',R v w'→K (a'.put o.dst v) w') :
  if Region.wanted o (yielded ops a'.tmps) then o.wp P a' w K Q∨(o.asks P a' w∧LetsOut Q) else K (a'.put o.dst undef) w:=by
 unfold Yl wpList at h
 rw [wanted_congr hl] at h
 split
 ·rename_i hw
  rw [if_pos hw] at h
  left
  rcases h with h|⟨_,a1,w1,h1,_⟩
  ·unfold Oper.wp at h ⊢
   rw [exec_congr (a:=a) (a':=a') hs hl] at h
   generalize (execOp a'.eval o).run P w=r at h ⊢
   cases r with
   | ok n w' =>
    cases n<;>simp only [Oper.upon,wpList] at h ⊢
    case value v =>
     obtain ⟨_,v0,e,hR⟩:=h
     rw [put_same hz e]
     exact hK _ _ hR
    case skip =>
     obtain ⟨_,v0,e,hR⟩:=h
     rw [put_same hz e]
     exact hK _ _ hR
    case defer d =>
     obtain ⟨_,v0,e,hR⟩:=h
     have:=congrArg Act.defers e
     rw [put_defers',put_defers'] at this
     simp at this
    case enter f args =>
     refine hc_mono h ?_
     intro e w'' he
     cases e with
     | returned v =>
      obtain ⟨_,v0,e,hR⟩:=he
      show K (a'.put o.dst v) w''
      rw [put_same hz e]
      exact hK _ _ hR
     | panicked c=>exact absurd he.1 (by simp)
     | outgrown =>
      obtain ⟨a1,w1,h1,_⟩:=he
      cases h1
    case row f args =>
     refine Rows.mono h ?_
     intro v w'' he
     obtain ⟨_,v0,e,hR⟩:=he
     rw [put_same hz e]
     exact hK _ _ hR
   | halt x w' =>
    cases x<;>simp only [Oper.upon] at h ⊢
    exact absurd h.1 (by simp)
  ·cases h1
 ·rename_i hw
  rw [if_neg hw] at h
  obtain ⟨_,v0,e,hR⟩:=h
  rw [put_same hz e]
  exact hK _ _ hR
where
 hc_mono {f:FuncId} {args:Array Value} {w:World} {R R' : Ending→World→Prop} (h:Calls P f args w R) (hr:∀ e w',R e w'→R' e w'):Calls P f args w R':=h.mono hr

/-! ### What has been placed -/
structure Desc (l:List Oper) (a0 a:Act) (s:Nat→Option Value):Prop where
 defers:a.defers=a0.defers
 size:a.tmps.size=a0.tmps.size
 at_:∀ (k:Nat) (o:Oper) t v,l[k]?=some o→o.dst=some t→s k=some v→t<a0.tmps.size→a.tmps[t]?=some v
 off:∀ t,(∀ (k:Nat) (o:Oper),l[k]?=some o→o.dst=some t→s k=none)→a.tmps[t]?=a0.tmps[t]?

def Uniq (l:List Oper):Prop:=∀ (i j:Nat) (oi oj:Oper) (t:Tmp),l[i]?=some oi→l[j]?=some oj→oi.dst=some t→oj.dst=some t→i=j

theorem Desc.look {l:List Oper} {a0 a a' : Act} {s s' : Nat→Option Value} (h:Desc l a0 a s) (h' : Desc l a0 a' s') (hu:Uniq l) (t:Tmp)
  (hs:∀ (k:Nat) (o:Oper),l[k]?=some o→o.dst=some t→s k=s' k):a.tmps[t]?=a'.tmps[t]?:=by
 by_cases ht:t<a0.tmps.size
 ·by_cases hw:∃ k:Nat,∃ o:Oper,l[k]?=some o∧o.dst=some t
  ·obtain ⟨k,o,hk,hd⟩:=hw
   have e:=hs k o hk hd
   cases hv:s k with
   | some v=>rw [h.at_ k o t v hk hd hv ht,h'.at_ k o t v hk hd (e▸hv) ht]
   | none =>
    rw [h.off t fun k' o' hk' hd'=>?_,h'.off t fun k' o' hk' hd'=>?_]
    ·obtain rfl:=hu _ _ _ _ _ hk hk' hd hd';rw [← e];exact hv
    ·obtain rfl:=hu _ _ _ _ _ hk hk' hd hd';exact hv
  ·rw [h.off t fun k o hk hd=>absurd ⟨k,o,hk,hd⟩ hw,h'.off t fun k o hk hd=>absurd ⟨k,o,hk,hd⟩ hw]
 ·have e1:a.tmps.size≤t:=by rw [h.size];exact Nat.le_of_not_lt ht
  have e2:a'.tmps.size≤t:=by rw [h'.size];exact Nat.le_of_not_lt ht
  rw [Array.getElem?_eq_none e1,Array.getElem?_eq_none e2]

theorem Desc.eq {l:List Oper} {a0 a a' : Act} {s s' : Nat→Option Value} (h:Desc l a0 a s) (h' : Desc l a0 a' s') (hu:Uniq l)
  (hs:∀ k,k<l.length→s k=s' k):a=a':=by
 have h1:a.tmps=a'.tmps:=Array.ext_getElem? fun t=>h.look h' hu t fun k o hk _=>hs k (List.getElem?_eq_some_iff.1 hk).1
 have h2:a.defers=a'.defers:=h.defers.trans h'.defers.symm
 cases a;cases a'
 simp only at h1 h2
 rw [h1,h2]

theorem Desc.put {l:List Oper} {a0 a:Act} {s s' : Nat→Option Value} (h:Desc l a0 a s) (hu:Uniq l) {k:Nat} {o:Oper} {v:Value} (hk:l[k]?=some o)
  (hs:∀ e,s' e=if e=k then some v else s e):Desc l a0 (a.put o.dst v) s':=by
 refine ⟨(put_defers' _ _ _).trans h.defers,?_,?_,?_⟩
 ·rw [← h.size]
  cases o.dst<;>simp [Act.put]
 ·intro k' o' t u hk' hd' hv ht
  by_cases e:k'=k
  ·subst e
   obtain rfl:o=o':=Option.some.inj (hk.symm.trans hk')
   rw [hs,if_pos rfl] at hv
   obtain rfl:=Option.some.inj hv
   rw [hd']
   simp only [Act.put]
   exact Array.getElem?_setIfInBounds_self_of_lt (by rw [h.size];exact ht)
  ·rw [hs,if_neg e] at hv
   have:=h.at_ k' o' t u hk' hd' hv ht
   cases hd:o.dst with
   | none=>simpa [Act.put] using this
   | some t' =>
    have hne:t'≠t:=fun e'=>e (hu _ _ _ _ _ hk' hk hd' (e'▸hd))
    simp only [Act.put]
    rw [Array.getElem?_setIfInBounds_ne hne]
    exact this
 ·intro t ht
  have h1:=h.off t fun k' o' hk' hd'=>by
   have:=ht k' o' hk' hd'
   rw [hs] at this
   split at this
   ·cases this
   ·exact this
  cases hd:o.dst with
  | none=>simpa [Act.put] using h1
  | some t' =>
   have hne:t'≠t:=fun e'=>by
    have:=ht k o hk (e'▸hd)
    rw [hs,if_pos rfl] at this
    cases this
   simp only [Act.put]
   rw [Array.getElem?_setIfInBounds_ne hne]
   exact h1

theorem Desc.refl (l:List Oper) (a0:Act) (s:Nat→Option Value) (hs:∀ k,s k=none):Desc l a0 a0 s :=
 ⟨rfl,rfl,fun k o t v _ _ hv _=>(by rw [hs] at hv;cases hv),fun _ _=>rfl⟩

/-! ### The two passes -/
def relQ (P:Program) (ops:Array Oper) (C:World→Prop) (S:World→World→Prop) (E:Nat→Option (List Nat)):List Oper→Nat→Act→(Act→Prop)→Prop
 | [],_,a,K=>K a
 | o::r,k,a,K=>match E k with
  | none=>∃ v,(∀ w,C w→Yl P ops o a w (QR v S w))∧relQ P ops C S E r (k+1) (a.put o.dst v) K
  | some _=>relQ P ops C S E r (k+1) a K

def relL (P:Program) (ops:Array Oper) (C:World→Prop) (S:World→World→Prop) (E:Nat→Option (List Nat)) (D:Nat→List Nat) (R:Nat→List Value→World→Prop) (x:Nat→Value) :
  List Oper→Nat→Act→(Act→Prop)→Prop
 | [],_,a,K=>K a
 | o::r,k,a,K=>match E k with
  | none=>relL P ops C S E D R x r (k+1) a K
  | some es=>(∀ w,C w→(∀ e∈es,R e ((D e).map x) w)→Yl P ops o a w (fun v w'=>S w w'∧R k ((D k).map (fun e=>if e=k then v else x e)) w')) ∧
    relL P ops C S E D R x r (k+1) (a.put o.dst (x k)) K

section
variable {C:World→Prop} {S:World→World→Prop} {E:Nat→Option (List Nat)} {D:Nat→List Nat} {R:Nat→List Value→World→Prop} {x:Nat→Value} {K:Act→Prop} {a:Act} {o:Oper} {r:List Oper} {k:Nat}
theorem relQ_nil (h:K a):relQ P ops C S E [] k a K:=h
theorem relL_nil (h:K a):relL P ops C S E D R x [] k a K:=h
theorem relQ_step (hE:E k=none) (h:∃ v,(∀ w,C w→Yl P ops o a w (QR v S w))∧relQ P ops C S E r (k+1) (a.put o.dst v) K):relQ P ops C S E (o::r) k a K:=by
 unfold relQ
 rw [hE]
 exact h
theorem relQ_loud {es:List Nat} (hE:E k=some es) (hr:relQ P ops C S E r (k+1) a K):relQ P ops C S E (o::r) k a K:=by
 unfold relQ
 rw [hE]
 exact hr
theorem relL_quiet (hE:E k=none) (hr:relL P ops C S E D R x r (k+1) a K):relL P ops C S E D R x (o::r) k a K:=by
 unfold relL
 rw [hE]
 exact hr
theorem relL_loud {es:List Nat} (hE:E k=some es) (h:∀ w,C w→(∀ e∈es,R e ((D e).map x) w)→Yl P ops o a w (fun v w'=>S w w'∧R k ((D k).map (fun e=>if e=k then v else x e)) w'))
  (hr:relL P ops C S E D R x r (k+1) (a.put o.dst (x k)) K):relL P ops C S E D R x (o::r) k a K:=by
 unfold relL
 rw [hE]
 exact ⟨h,hr⟩
end

def sq (E:Nat→Option (List Nat)) (v:Nat→Value) (k:Nat):Nat→Option Value:=fun e=>if e<k∧E e=none then some (v e) else none
def s2 (E:Nat→Option (List Nat)) (v x:Nat→Value) (n k:Nat):Nat→Option Value:=fun e=>if E e=none then (if e<n then some (v e) else none) else if e<k then some (x e) else none

theorem relQ_sound {C:World→Prop} {S:World→World→Prop} {E:Nat→Option (List Nat)} {l:List Oper} {a0:Act} {K:Act→Prop} (hu:Uniq l) :
  ∀ (r:List Oper) (k:Nat) (a:Act) (v0:Nat→Value),k+r.length=l.length→(∀ j,r[j]?=l[k+j]?)→Desc l a0 a (sq E v0 k)→relQ P ops C S E r k a K →
   ∃ v,(∀ e,e<k→v e=v0 e)∧(∀ i o,k≤i→l[i]?=some o→E i=none→∃ a,Desc l a0 a (sq E v i)∧∀ w,C w→Yl P ops o a w (QR (v i) S w)) ∧
    ∃ aq,Desc l a0 aq (sq E v l.length)∧K aq
 | [],k,a,v0,hk,_,hd,h=>by
  simp only [List.length_nil,Nat.add_zero] at hk
  subst hk
  refine ⟨v0,fun _ _=>rfl,fun i o hi ho _=>?_,a,hd,h⟩
  have:=(List.getElem?_eq_some_iff.1 ho).1
  omega
 | o::r,k,a,v0,hk,hr,hd,h=>by
  have h0:l[k]?=some o:=by simpa using (hr 0).symm
  have hr' : ∀ j,r[j]?=l[k+1+j]?:=fun j=>by have:=hr (j+1);simpa [Nat.add_assoc,Nat.add_comm 1 j] using this
  have hk' : k+1+r.length=l.length:=by simp only [List.length_cons] at hk;omega
  unfold relQ at h
  cases hE:E k with
  | none =>
   rw [hE] at h
   obtain ⟨u,h1,h2⟩:=h
   obtain ⟨v,hv,hs,hq⟩:=relQ_sound hu r (k+1) (a.put o.dst u) (fun e=>if e=k then u else v0 e) hk' hr' (hd.put hu h0 (v:=u) fun e=>by
    unfold sq
    by_cases e1:e=k
    ·subst e1;rw [if_pos rfl,if_pos ⟨by omega,hE⟩];simp
    ·rw [if_neg e1]
     by_cases e2:e<k∧E e=none
     ·rw [if_pos e2,if_pos ⟨by omega,e2.2⟩];simp [e1]
     ·rw [if_neg e2,if_neg (fun h=>e2 ⟨by omega,h.2⟩)]) h2
   refine ⟨v,fun e he=>?_,fun i oi hi ho hEi=>?_,hq⟩
   ·rw [hv e (by omega),if_neg (by omega)]
   ·by_cases e1:i=k
    ·subst e1
     obtain rfl:o=oi:=Option.some.inj (h0.symm.trans ho)
     have e2:v i=u:=by rw [hv i (by omega),if_pos rfl]
     refine ⟨a,?_,by rw [e2];exact h1⟩
     have e3:sq E v i=sq E v0 i:=by
      funext e
      unfold sq
      by_cases e4:e<i∧E e=none
      ·rw [if_pos e4,if_pos e4,hv e (by omega),if_neg (by omega)]
      ·rw [if_neg e4,if_neg e4]
     rw [e3]
     exact hd
    ·exact hs i oi (by omega) ho hEi
  | some es =>
   rw [hE] at h
   obtain ⟨v,hv,hs,hq⟩:=relQ_sound hu r (k+1) a v0 hk' hr' (by
    have:sq E v0 (k+1)=sq E v0 k:=by
     funext e
     unfold sq
     by_cases e1:e=k
     ·subst e1;rw [if_neg (fun h=>by rw [hE] at h;cases h.2),if_neg (fun h=>by rw [hE] at h;cases h.2)]
     ·by_cases e2:e<k∧E e=none
      ·rw [if_pos e2,if_pos ⟨by omega,e2.2⟩]
      ·rw [if_neg e2,if_neg (fun h=>e2 ⟨by omega,h.2⟩)]
    rw [this]
    exact hd) h
   refine ⟨v,fun e he=>hv e (by omega),fun i oi hi ho hEi=>?_,hq⟩
   by_cases e1:i=k
   ·subst e1;rw [hE] at hEi;cases hEi
   ·exact hs i oi (by omega) ho hEi

theorem relL_sound {C:World→Prop} {S:World→World→Prop} {E:Nat→Option (List Nat)} {D:Nat→List Nat} {R:Nat→List Value→World→Prop} {l:List Oper} {a0:Act} {v x:Nat→Value} {K:Act→Prop} (hu:Uniq l) :
  ∀ (r:List Oper) (k:Nat) (a:Act),k+r.length=l.length→(∀ j,r[j]?=l[k+j]?)→Desc l a0 a (s2 E v x l.length k)→relL P ops C S E D R x r k a K →
   (∀ i o es,k≤i→l[i]?=some o→E i=some es→∃ a,Desc l a0 a (s2 E v x l.length i)∧∀ w,C w→(∀ e∈es,R e ((D e).map x) w) →
     Yl P ops o a w (fun u w'=>S w w'∧R i ((D i).map (fun e=>if e=i then u else x e)) w')) ∧
    ∃ af,Desc l a0 af (s2 E v x l.length l.length)∧K af
 | [],k,a,hk,_,hd,h=>by
  simp only [List.length_nil,Nat.add_zero] at hk
  subst hk
  refine ⟨fun i o es hi ho _=>?_,a,hd,h⟩
  have:=(List.getElem?_eq_some_iff.1 ho).1
  omega
 | o::r,k,a,hk,hr,hd,h=>by
  have h0:l[k]?=some o:=by simpa using (hr 0).symm
  have hr' : ∀ j,r[j]?=l[k+1+j]?:=fun j=>by have:=hr (j+1);simpa [Nat.add_assoc,Nat.add_comm 1 j] using this
  have hk' : k+1+r.length=l.length:=by simp only [List.length_cons] at hk;omega
  unfold relL at h
  cases hE:E k with
  | none =>
   rw [hE] at h
   obtain ⟨hs,hq⟩:=relL_sound hu r (k+1) a hk' hr' (by
    have:s2 E v x l.length (k+1)=s2 E v x l.length k:=by
     funext e
     unfold s2
     by_cases e1:E e=none
     ·rw [if_pos e1,if_pos e1]
     ·rw [if_neg e1,if_neg e1]
      have:e≠k:=fun e2=>e1 (e2▸hE)
      by_cases e3:e<k
      ·rw [if_pos e3,if_pos (by omega)]
      ·rw [if_neg e3,if_neg (by omega)]
    rw [this]
    exact hd) h
   refine ⟨fun i oi es hi ho hEi=>?_,hq⟩
   by_cases e1:i=k
   ·subst e1;rw [hE] at hEi;cases hEi
   ·exact hs i oi es (by omega) ho hEi
  | some es =>
   rw [hE] at h
   obtain ⟨h1,h2⟩:=h
   obtain ⟨hs,hq⟩:=relL_sound hu r (k+1) (a.put o.dst (x k)) hk' hr' (hd.put hu h0 (v:=x k) fun e=>by
    unfold s2
    by_cases e1:e=k
    ·subst e1;rw [if_pos rfl,if_neg (by rw [hE];simp),if_pos (by omega)]
    ·rw [if_neg e1]
     by_cases e2:E e=none
     ·rw [if_pos e2,if_pos e2]
     ·rw [if_neg e2,if_neg e2]
      by_cases e3:e<k
      ·rw [if_pos e3,if_pos (by omega)]
      ·rw [if_neg e3,if_neg (by omega)]) h2
   refine ⟨fun i oi es' hi ho hEi=>?_,hq⟩
   by_cases e1:i=k
   ·subst e1
    obtain rfl:o=oi:=Option.some.inj (h0.symm.trans ho)
    obtain rfl:es=es':=Option.some.inj (hE.symm.trans hEi)
    exact ⟨a,hd,h1⟩
   ·exact hs i oi es' (by omega) ho hEi

/-! ### Whatever order -/
def dep (ops:Array Oper) (j i:Nat):Bool:=(ops[j]?).any fun o=>o.after.any fun e=>Region.binds .any e && e.on == i
def okB (ops:Array Oper) (n:Nat) (E:Nat→Option (List Nat)) (D:Nat→List Nat):Bool :=
 decide (n≤ops.size) && (n == ops.size || (((List.range n).all fun i=>(List.range (n+1)).any fun j=>decide (i<j) && dep ops j i) && (List.range ops.size).all fun t=>decide (t≤n) || dep ops t (t - 1))) &&
 Region.noSelect ops && ((List.range ops.size).all fun j=>(ops[j]?).any fun oj=>oj.after.all fun e=>!Region.binds .any e || decide (e.on<j)) && (List.range n).all fun j =>
  ((List.range j).all fun i=>dep ops j i || ((ops[i]?).any fun oi=>(ops[j]?).any fun oj=>oi.apart ops oj)) &&
  ((List.range j).all fun i=>((ops[i]?).any fun oi=>(ops[j]?).any fun oj=>oi.dst != oj.dst || oj.dst.isNone)) &&
  (match E j with
   | none=>(List.range j).all fun i=>!dep ops j i || (E i).isNone
   | some es=>es.all (fun e=>decide (e<j) && dep ops j e && (E e).isSome) && (D j).all (fun e=>e == j || es.contains e))

theorem dep_iff {j i:Nat} {o:Oper} (ho:ops[j]?=some o):dep ops j i=true↔∃ e∈o.after,Region.binds .any e=true∧e.on=i:=by
 unfold dep
 rw [ho]
 simp only [Option.any_some,Array.any_eq_true']
 constructor
 ·rintro ⟨e,he,h⟩
  simp only [Bool.and_eq_true,beq_iff_eq] at h
  exact ⟨e,he,h.1,h.2⟩
 ·rintro ⟨e,he,h1,h2⟩
  exact ⟨e,he,by simp [h1,h2]⟩

structure OkP (ops:Array Oper) (n:Nat) (E:Nat→Option (List Nat)) (D:Nat→List Nat):Prop where
 le:n≤ops.size
 sink:n<ops.size→∀ i,i<n→∃ j,i<j∧j≤n∧dep ops j i=true
 chain:n<ops.size→∀ t,n<t→t<ops.size→dep ops t (t - 1)=true
 sel:Region.noSelect ops=true
 text:∀ (j i:Nat),dep ops j i=true→i<j
 far:∀ (i j:Nat) (oi oj:Oper),i<j→j<n→ops[i]?=some oi→ops[j]?=some oj→dep ops j i=false→oi.apart ops oj=true
 uniq:∀ (i j:Nat) (oi oj:Oper) (t:Tmp),i<n→j<n→ops[i]?=some oi→ops[j]?=some oj→oi.dst=some t→oj.dst=some t→i=j
 quiet:∀ (j i:Nat),j<n→E j=none→dep ops j i=true→E i=none
 loud:∀ (j e:Nat) (es:List Nat),j<n→E j=some es→e∈es→e<j∧dep ops j e=true∧(E e).isSome
 vals:∀ (j e:Nat) (es:List Nat),j<n→E j=some es→e∈D j→e=j∨e∈es

theorem okP_of_okB {n:Nat} {E:Nat→Option (List Nat)} {D:Nat→List Nat} (h:okB ops n E D=true):OkP ops n E D:=by
 unfold okB at h
 simp only [Bool.and_eq_true,List.all_eq_true,List.mem_range,decide_eq_true_eq,Bool.or_eq_true,beq_iff_eq,List.any_eq_true] at h
 obtain ⟨⟨⟨⟨hle,ht⟩,hs⟩,htx⟩,h⟩:=h
 have htext:∀ (j i:Nat),dep ops j i=true→i<j:=by
  intro j i hd
  cases ho:ops[j]? with
  | none=>simp [dep,ho] at hd
  | some o =>
   obtain ⟨e,he,hb,rfl⟩:=(dep_iff ho).1 hd
   have:=htx j (Array.getElem?_eq_some_iff.1 ho).1
   rw [ho] at this
   simp only [Option.any_some] at this
   have:=Array.all_eq_true_iff_forall_mem.1 this e he
   simpa [hb] using this
 refine ⟨hle,?_,?_,hs,htext,?_,?_,?_,?_,?_⟩
 ·intro hn i hi
  rcases ht with ht|ht
  ·omega
  ·obtain ⟨j,hj,hij,hd⟩:=ht.1 i hi
   exact ⟨j,hij,by omega,hd⟩
 ·intro hn t hnt htl
  rcases ht with ht|ht
  ·omega
  ·rcases ht.2 t htl with h1|h1
   ·omega
   ·exact h1
 ·intro i j oi oj hij hjn hi hj hd
  have:=(h j hjn).1.1 i hij
  rw [hi,hj,hd] at this
  simpa using this
 ·intro i j oi oj t hin hjn hi hj hdi hdj
  rcases Nat.lt_trichotomy i j with hij|rfl|hij
  ·have:=(h j hjn).1.2 i hij
   rw [hi,hj] at this
   simp [hdi,hdj] at this
  ·rfl
  ·have:=(h i hin).1.2 j hij
   rw [hi,hj] at this
   simp [hdi,hdj] at this
 ·intro j i hj hE hd
  have h1:=(h j hj).2
  rw [hE] at h1
  simp only [List.all_eq_true,List.mem_range] at h1
  have:=h1 i (htext j i hd)
  rw [hd] at this
  simpa using this
 ·intro j e es hj hE he
  have h1:=(h j hj).2
  rw [hE] at h1
  simp only [Bool.and_eq_true,List.all_eq_true,decide_eq_true_eq] at h1
  have:=h1.1 e he
  exact ⟨this.1.1,this.1.2,this.2⟩
 ·intro j e es hj hE he
  have h1:=(h j hj).2
  rw [hE] at h1
  simp only [Bool.and_eq_true,List.all_eq_true] at h1
  have:=h1.2 e he
  simpa using this

theorem count_set {l:Array Bool} {i:Nat} (hi:i<l.size) (h:l.getD i false=false):(l.setIfInBounds i true).toList.count false+1=l.toList.count false:=by
 have h1:l[i]=false:=by simpa [hi] using h
 rw [Array.toList_setIfInBounds,List.count_set (by simpa using hi)]
 have h2:l.toList[i]'(by simpa using hi)=false:=by simpa using h1
 have:0<l.toList.count false:=List.count_pos_iff.2 (h2▸List.getElem_mem _)
 rw [if_pos (by rw [h2];rfl),if_neg (by decide)]
 omega

theorem apart_looks {oi ok:Oper} {t:Tmp} (ht:t∈oi.looksAt ops) (hd:ok.dst=some t):oi.apart ops ok=false∧ok.apart ops oi=false:=by
 constructor
 ·unfold Oper.apart
  rw [hd]
  simp only [Bool.and_eq_false_iff]
  right
  simpa using ht
 ·unfold Oper.apart
  rw [hd]
  simp only [Bool.and_eq_false_iff]
  left
  left
  simpa using ht

structure Inv (l:List Oper) (n:Nat) (a0:Act) (C:World→Prop) (E:Nat→Option (List Nat)) (D:Nat→List Nat) (R:Nat→List Value→World→Prop) (v:Nat→Value) (L:Array Bool) (x:Nat→Value) (a:Act) (w:World):Prop where
 size:L.size=l.length
 closed:∀ j i:Nat,L.getD j false=true→dep l.toArray j i=true→L.getD i false=true
 tail:∀ t,n≤t→L.getD t false=false
 desc:Desc (l.take n) a0 a (fun e=>if L.getD e false=true then some (if E e=none then v e else x e) else none)
 rel:∀ d,L.getD d false=true→(E d).isSome→R d ((D d).map x) w
 cls:C w

/-- What is left waits one for the other. -/
theorem wpAny_tail {l:List Oper} {n:Nat} {Q:Exit→Act→World→Prop} (hch:∀ t,n<t→t<l.length→dep l.toArray t (t - 1)=true) (htx:∀ j i:Nat,dep l.toArray j i=true→i<j) :
  ∀ (g k fuel:Nat) (L:Array Bool) (a:Act) (w:World),n≤k→k+g=l.length→g≤fuel→L.size=l.length→(∀ t,t<l.length→L.getD t false=decide (t<k)) →
   wpList P l.toArray Q (l.drop k) a w→wpAny P .any l.toArray Q fuel L a w:=by
 have hready:∀ (k:Nat) (L:Array Bool),n≤k→L.size=l.length→(∀ t,t<l.length→L.getD t false=decide (t<k))→∀ i∈Region.ready .any l.toArray L,i=k∧i<l.length:=by
  intro k L hnk hL ht i hi
  obtain ⟨h0,o,ho,hd⟩:=mem_ready.1 hi
  have hil:i<l.length:=by simpa using (Array.getElem?_eq_some_iff.1 ho).1
  have h1:L.getD i false=false:=by
   have:i<L.size:=by omega
   simpa [this] using h0
  rw [ht i hil] at h1
  have hki:=of_decide_eq_false h1
  rcases Nat.lt_or_ge k i with h2|h2
  ·have h3:=hch i (by omega) hil
   obtain ⟨e,he,hb,he2⟩:=(dep_iff ho).1 h3
   have h4:=hd e he hb
   rw [he2,ht _ (by omega)] at h4
   have:=of_decide_eq_true h4
   omega
  ·exact ⟨by omega,hil⟩
 intro g
 induction g with
 | zero =>
  intro k fuel L a w hnk hk hf hL ht h
  have hr0:Region.ready .any l.toArray L=[]:=by
   rw [List.eq_nil_iff_forall_not_mem]
   intro i hi
   have:=hready k L hnk hL ht i hi
   omega
  rw [List.drop_of_length_le (by omega)] at h
  cases fuel with
  | zero=>exact ⟨hr0,h⟩
  | succ f=>exact ⟨fun _=>h,fun i hi=>by rw [hr0] at hi;cases hi⟩
 | succ g ih =>
  intro k fuel L a w hnk hk hf hL ht h
  obtain ⟨f,rfl⟩:∃ f,fuel=f+1:=⟨fuel - 1,by omega⟩
  have hkl:k<l.length:=by omega
  have hkr:k∈Region.ready .any l.toArray L:=by
   rw [mem_ready]
   have h5:k<L.size:=by omega
   have h6:=ht k hkl
   refine ⟨?_,l[k],by simp [hkl],fun e he hb=>?_⟩
   ·rw [decide_eq_false (by omega)] at h6
    simpa [h5] using h6
   ·have h7:=htx k e.on ((dep_iff (o:=l[k]) (by simp [hkl])).2 ⟨e,he,hb,rfl⟩)
    rw [ht _ (by omega)]
    exact decide_eq_true h7
  refine ⟨fun h0=>(by rw [h0] at hkr;cases hkr),fun i hi=>?_⟩
  have hik:=(hready k L hnk hL ht i hi).1
  subst hik
  have ho:l.toArray[i]?=some l[i]:=by simp [hkl]
  rw [List.drop_eq_getElem_cons hkl] at h
  have hw:wpOp P l.toArray Q i (wpList P l.toArray Q (l.drop (i+1))) a w:=by unfold wpOp;simp only [ho];exact h
  have hall:∀ t,t<l.length→(L.setIfInBounds i true).getD t false=decide (t<i+1):=by
   intro t htl
   by_cases e:t=i
   ·subst e
    have:t<L.size:=by omega
    simp [this]
   ·rw [getD_set_ne false (fun e'=>e e'.symm),ht t htl,decide_eq_decide];omega
  exact wpOp_mono (fun a' w' h'=>ih (i+1) f _ a' w' (by omega) (by omega) (by omega) (by simpa using hL) hall h') hw

section
variable {l:List Oper} {n:Nat} {a0:Act} {C:World→Prop} {S:World→World→Prop} {E:Nat→Option (List Nat)} {D:Nat→List Nat} {R:Nat→List Value→World→Prop} {v:Nat→Value} {Q:Exit→Act→World→Prop}

theorem take_get {l:List Oper} {n i:Nat} {o:Oper} : (l.take n)[i]?=some o↔i<n∧l[i]?=some o:=by
 rw [List.getElem?_take]
 by_cases h:i<n
 ·simp [h]
 ·simp [h]

theorem wpAny_rel (ok:OkP l.toArray n E D) (hCS:∀ w w',C w→S w w'→C w') (hRS:∀ d vs w w',R d vs w→S w w'→R d vs w')
  (hq:∀ (i:Nat) (o:Oper),(l.take n)[i]?=some o→E i=none→∃ a,Desc (l.take n) a0 a (sq E v i)∧∀ w,C w→Yl P l.toArray o a w (QR (v i) S w))
  (hl:∀ x:Nat→Value,∀ (i:Nat) (o:Oper) es,(l.take n)[i]?=some o→E i=some es→∃ a,Desc (l.take n) a0 a (s2 E v x (l.take n).length i)∧∀ w,C w→(∀ e∈es,R e ((D e).map x) w) →
     Yl P l.toArray o a w (fun u w'=>S w w'∧R i ((D i).map (fun e=>if e=i then u else x e)) w'))
  (hf:∀ x:Nat→Value,∃ af,Desc (l.take n) a0 af (s2 E v x (l.take n).length (l.take n).length)∧∀ w,C w→(∀ d,d<n→(E d).isSome→R d ((D d).map x) w)→wpList P l.toArray Q (l.drop n) af w) :
  ∀ (fuel:Nat) (L:Array Bool) (x:Nat→Value) (a:Act) (w:World),L.toList.count false≤fuel→Inv l n a0 C E D R v L x a w→wpAny P .any l.toArray Q fuel L a w:=by
 have hnl:n≤l.length:=by simpa using ok.le
 have hlen:(l.take n).length=n:=by simp;omega
 have hu:Uniq (l.take n):=fun i j oi oj t hi hj=>by
  rw [take_get] at hi hj
  exact ok.uniq i j oi oj t hi.1 hj.1 (by simpa using hi.2) (by simpa using hj.2)
 have hend:∀ (fuel:Nat) (L:Array Bool) (x:Nat→Value) (a:Act) (w:World),L.toList.count false≤fuel→Inv l n a0 C E D R v L x a w→(∀ k,k<n→L.getD k false=true)→wpAny P .any l.toArray Q fuel L a w:=by
  intro fuel L x a w hc inv hall
  obtain ⟨af,hd,hQ⟩:=hf x
  have e:a=af:=inv.desc.eq hd hu fun k hk=>by
   rw [hlen] at hk
   rw [if_pos (hall k hk)]
   unfold s2
   rw [hlen]
   by_cases e:E k=none
   ·rw [if_pos e,if_pos e,if_pos hk]
   ·rw [if_neg e,if_neg e,if_pos hk]
  have hcnt:L.toList.count false=l.length - n:=by
   have h1:L.toList=List.replicate n true++List.replicate (l.length - n) false:=by
    apply List.ext_getElem?
    intro i
    have hget:i<l.length→L.toList[i]?=some (L.getD i false):=fun hi=>by
     have:i<L.size:=by rw [inv.size];exact hi
     simp [this]
    rcases Nat.lt_or_ge i l.length with hi|hi
    ·rw [hget hi]
     rcases Nat.lt_or_ge i n with h2|h2
     ·rw [hall i h2,List.getElem?_append_left (by simpa using h2)]
      simp [h2]
     ·rw [inv.tail i h2,List.getElem?_append_right (by simpa using h2)]
      rw [List.getElem?_replicate,if_pos (by simp;omega)]
    ·rw [List.getElem?_eq_none (by simp [inv.size];exact hi),List.getElem?_eq_none (by simp;omega)]
   rw [h1]
   simp [List.count_replicate]
  refine wpAny_tail (n:=n) (fun t h1 h2=>ok.chain (by simp;omega) t h1 (by simpa using h2)) ok.text (l.length - n) n fuel L a w (Nat.le_refl _) (by omega) (by omega) inv.size (fun t ht=>?_) (by rw [e];exact hQ w inv.cls fun d hd' hs=>inv.rel d (hall d hd') hs)
  rcases Nat.lt_or_ge t n with h2|h2
  ·rw [hall t h2];exact (decide_eq_true h2).symm
  ·rw [inv.tail t h2];exact (decide_eq_false (by omega)).symm
 intro fuel
 induction fuel with
 | zero =>
  intro L x a w hc inv
  refine hend 0 L x a w hc inv fun k hk=>?_
  cases hL:L.getD k false with
  | true=>rfl
  | false =>
   have hlt:k<L.size:=by rw [inv.size];omega
   have:=count_set hlt hL
   omega
 | succ fuel ih =>
  intro L x a w hc inv
  by_cases hall:∀ k,k<n→L.getD k false=true
  ·exact hend _ L x a w hc inv hall
  have hsome:∃ k,k<n∧L.getD k false=false∧∀ j,j<k→L.getD j false=true:=by
   have hex:∃ k,k<n∧L.getD k false=false:=by
    rcases Classical.em (∃ k,k<n∧L.getD k false=false) with h|h
    ·exact h
    ·exact absurd (fun k hk=>by
      cases hL:L.getD k false with
      | true=>rfl
      | false=>exact absurd ⟨k,hk,hL⟩ h) hall
   obtain ⟨k,hk⟩:=hex
   induction k using Nat.strongRecOn with
   | _ k ihk =>
    by_cases h:∃ j,j<k∧L.getD j false=false
    ·obtain ⟨j,hj,hLj⟩:=h
     exact ihk j hj ⟨by omega,hLj⟩
    ·refine ⟨k,hk.1,hk.2,fun j hj=>?_⟩
     cases hL:L.getD j false with
     | true=>rfl
     | false=>exact absurd ⟨j,hj,hL⟩ h
  obtain ⟨k0,hk0,hk0f,hk0l⟩:=hsome
  have hk0r:k0∈Region.ready .any l.toArray L:=by
   rw [mem_ready]
   have hkl:k0<l.length:=by omega
   refine ⟨?_,l[k0],by simp [hkl],fun e he hb=>?_⟩
   ·have:k0<L.size:=by rw [inv.size];exact hkl
    simpa [this] using hk0f
   ·exact hk0l _ (ok.text k0 e.on ((dep_iff (o:=l[k0]) (by simp [hkl])).2 ⟨e,he,hb,rfl⟩))
  refine ⟨fun h=>(by rw [h] at hk0r;cases hk0r),fun i hi=>?_⟩
  obtain ⟨h0,o,ho,hdeps⟩:=mem_ready.1 hi
  have hil:i<l.length:=by simpa using (Array.getElem?_eq_some_iff.1 ho).1
  have hiL:i<L.size:=by rw [inv.size];exact hil
  have hnot:L.getD i false=false:=by simpa [hiL] using h0
  -- it is of the head
  have hin:i<n:=by
   rcases Nat.lt_or_ge i n with h|h
   ·exact h
   ·exfalso
    have hn' : n<l.toArray.size:=by simp;omega
    have hnn:∀ j,dep l.toArray i j=true→L.getD j false=true:=fun j hj=>by
     obtain ⟨e,he,hb,rfl⟩:=(dep_iff ho).1 hj
     exact hdeps e he hb
    have hieq:i=n:=by
     rcases Nat.lt_or_ge n i with h2|h2
     ·have h3:=hnn _ (ok.chain hn' i h2 (by simpa using hil))
      rw [inv.tail _ (by omega)] at h3
      cases h3
     ·omega
    subst hieq
    -- every head operation is listed then
    have:∀ g k,k<i→i - k≤g→L.getD k false=true:=by
     intro g
     induction g with
     | zero=>intro k h1 h2;omega
     | succ g ihg =>
      intro k h1 h2
      obtain ⟨j,hkj,hji,hd⟩:=ok.sink hn' k h1
      rcases Nat.lt_or_ge j i with h3|h3
      ·exact inv.closed j k (ihg j h3 (by omega)) hd
      ·have:j=i:=by omega
       subst this
       exact hnn k hd
    have:=this i k0 hk0 (by omega)
    rw [hk0f] at this
    cases this
  have ho' : (l.take n)[i]?=some o:=take_get.2 ⟨hin,by simpa using ho⟩
  have hcnt:(L.setIfInBounds i true).toList.count false≤fuel:=by have:=count_set hiL hnot;omega
  have hset:∀ j,(L.setIfInBounds i true).getD j false=if j=i then true else L.getD j false:=by
   intro j
   by_cases e:j=i
   ·subst e
    rw [if_pos rfl]
    simp [hiL]
   ·rw [if_neg e]
    exact getD_set_ne false (fun e'=>e e'.symm)
  have htail:∀ t,n≤t→(L.setIfInBounds i true).getD t false=false:=fun t ht=>by
   rw [hset,if_neg (by omega)]
   exact inv.tail t ht
  have hclosed:∀ j k:Nat,(L.setIfInBounds i true).getD j false=true→dep l.toArray j k=true→(L.setIfInBounds i true).getD k false=true:=by
   intro j k hj hd
   rw [hset] at hj ⊢
   by_cases e:k=i
   ·rw [if_pos e]
   ·rw [if_neg e]
    by_cases e2:j=i
    ·subst e2
     obtain ⟨e3,he3,hb3,rfl⟩:=(dep_iff ho).1 hd
     exact hdeps e3 he3 hb3
    ·rw [if_neg e2] at hj
     exact inv.closed j k hj hd
  have hlook:∀ {a1:Act} {s:Nat→Option Value},Desc (l.take n) a0 a1 s →
    (∀ k,k<i→dep l.toArray i k=true→s k=some (if E k=none then v k else x k))→(∀ k,k<n→i<k→dep l.toArray k i=true→s k=none)→(s i=none) →
    ∀ t∈o.looksAt l.toArray,a1.tmps.getD t undef=a.tmps.getD t undef:=by
   intro a1 s hd hin' hout hself t ht
   rw [Array.getD_eq_getD_getElem?,Array.getD_eq_getD_getElem?]
   congr 1
   refine hd.look inv.desc hu t fun k ok' hk hdk=>?_
   obtain ⟨hkn,hk⟩:=take_get.1 hk
   rcases Nat.lt_trichotomy k i with hki|rfl|hki
   ·have hdep:dep l.toArray i k=true:=by
     cases hdd:dep l.toArray i k with
     | true=>rfl
     | false =>
      have:=ok.far k i ok' o hki hin (by simpa using hk) ho hdd
      rw [(apart_looks ht hdk).2] at this
      cases this
    rw [hin' k hki hdep]
    obtain ⟨e3,he3,hb3,he4⟩:=(dep_iff ho).1 hdep
    have:=hdeps e3 he3 hb3
    rw [he4] at this
    rw [if_pos this]
   ·rw [hself,hnot]
    simp
   ·have hdep:dep l.toArray k i=true:=by
     cases hdd:dep l.toArray k i with
     | true=>rfl
     | false =>
      have:=ok.far i k o ok' hki hkn ho (by simpa using hk) hdd
      rw [(apart_looks ht hdk).1] at this
      cases this
    rw [hout k hkn hki hdep]
    cases hLk:L.getD k false with
    | false=>simp
    | true =>
     have:=inv.closed k i hLk hdep
     rw [hnot] at this
     cases this
  unfold wpOp
  rw [ho]
  simp only
  have hsel:∀ cs b,o.op≠.select cs b:=fun cs b=>Region.noSelect_spec ok.sel i o cs b ho
  cases hE:E i with
  | none =>
   obtain ⟨a1,hd1,hy⟩:=hq i o ho' hE
   refine Yl.move (Q:=Q) hsel (hd1.size.trans inv.desc.size.symm) (hlook hd1 (fun k hk hdep=>?_) (fun k hkl hk hdep=>?_) ?_) (hy w inv.cls) (K:=wpAny P .any l.toArray Q fuel (L.setIfInBounds i true)) fun u w' ⟨hu',hS⟩=>?_
   ·have hEk:=ok.quiet i k hin hE hdep
    unfold sq
    rw [if_pos ⟨hk,hEk⟩,if_pos hEk]
   ·unfold sq
    rw [if_neg (fun h=>by omega)]
   ·unfold sq
    rw [if_neg (fun h=>by omega)]
   ·subst hu'
    refine ih _ x _ w' hcnt ⟨by simpa using inv.size,hclosed,htail,inv.desc.put hu ho' fun e=>?_,fun d hd hs=>?_,hCS _ _ inv.cls hS⟩
    ·rw [hset]
     by_cases e1:e=i
     ·subst e1
      rw [if_pos rfl,if_pos rfl,if_pos rfl,if_pos hE]
     ·rw [if_neg e1,if_neg e1]
    ·rw [hset] at hd
     by_cases e1:d=i
     ·subst e1;rw [hE] at hs;cases hs
     ·rw [if_neg e1] at hd
      exact hRS _ _ _ _ (inv.rel d hd hs) hS
  | some es =>
   obtain ⟨a1,hd1,hy⟩:=hl x i o es ho' hE
   rw [hlen] at hd1
   refine Yl.move (Q:=Q) hsel (hd1.size.trans inv.desc.size.symm) (hlook hd1 (fun k hk hdep=>?_) (fun k hkl hk hdep=>?_) ?_) (hy w inv.cls fun e he=>?_) (K:=wpAny P .any l.toArray Q fuel (L.setIfInBounds i true)) fun u w' ⟨hS,hR⟩=>?_
   ·unfold s2
    by_cases e1:E k=none
    ·rw [if_pos e1,if_pos e1,if_pos (by omega)]
    ·rw [if_neg e1,if_neg e1,if_pos hk]
   ·unfold s2
    have hEk:¬ E k=none:=fun e1=>by
     have:=ok.quiet k i hkl e1 hdep
     rw [hE] at this
     cases this
    rw [if_neg hEk,if_neg (by omega)]
   ·unfold s2
    rw [if_neg (by rw [hE];simp),if_neg (by omega)]
   ·have h1:=ok.loud i e es hin hE he
    obtain ⟨e3,he3,hb3,he4⟩:=(dep_iff ho).1 h1.2.1
    have:=hdeps e3 he3 hb3
    rw [he4] at this
    exact inv.rel e this h1.2.2
   ·refine ih _ (fun e=>if e=i then u else x e) _ w' hcnt ⟨by simpa using inv.size,hclosed,htail,inv.desc.put hu ho' (v:=u) fun e=>?_,fun d hd hs=>?_,hCS _ _ inv.cls hS⟩
    ·rw [hset]
     by_cases e1:e=i
     ·subst e1
      rw [if_pos rfl,if_pos rfl,if_neg (by rw [hE];simp),if_pos rfl,if_pos rfl]
     ·rw [if_neg e1,if_neg e1,if_neg e1]
    ·rw [hset] at hd
     by_cases e1:d=i
     ·subst e1;exact hR
     ·rw [if_neg e1] at hd
      have h1:=hRS _ _ _ _ (inv.rel d hd hs) hS
      have:(D d).map (fun e=>if e=i then u else x e)=(D d).map x:=List.map_congr_left fun e he=>by
       have hdn:d<n:=by
        rcases Nat.lt_or_ge d n with h|h
        ·exact h
        ·rw [inv.tail d h] at hd;cases hd
       obtain ⟨es',hes'⟩:=Option.isSome_iff_exists.1 hs
       rw [if_neg]
       rintro rfl
       rcases ok.vals d e es' hdn hes' he with rfl|h2
       ·exact e1 rfl
       ·have h3:=ok.loud d e es' hdn hes' h2
        have:=inv.closed d e hd h3.2.1
        rw [hnot] at this
        cases this
      rw [this]
      exact h1

/-- .. as the orders' word tells. -/
theorem wpAny_region_rel {w0:World} (n:Nat) (E:Nat→Option (List Nat)) (D:Nat→List Nat) (R:Nat→List Value→World→Prop) (C:World→Prop) (S:World→World→Prop)
  (hB:okB l.toArray n E D=true) (hC0:C { w0 with drawn:=w0.drawn+1 }) (hCS:∀ w w',C w→S w w'→C w')
  (hRS:∀ d vs w w',R d vs w→S w w'→R d vs w')
  (h:relQ P l.toArray C S E (l.take n) 0 a0 (fun aq=>∀ x:Nat→Value,relL P l.toArray C S E D R x (l.take n) 0 aq (fun af=>∀ w,C w→(∀ d,d<n→(E d).isSome→R d ((D d).map x) w)→wpList P l.toArray Q (l.drop n) af w))) :
  wpAny P .any l.toArray Q l.toArray.size (Array.replicate l.toArray.size false) a0 { w0 with drawn:=w0.drawn+1 }:=by
 have ok:=okP_of_okB hB
 have hnl:n≤l.length:=by simpa using ok.le
 have hu:Uniq (l.take n):=fun i j oi oj t hi hj=>by
  rw [take_get] at hi hj
  exact ok.uniq i j oi oj t hi.1 hj.1 (by simpa using hi.2) (by simpa using hj.2)
 obtain ⟨v,_,hq,aq,hdq,hL⟩:=relQ_sound (C:=C) (S:=S) (E:=E) hu (l.take n) 0 a0 (fun _=>undef) (by simp) (by simp) (Desc.refl _ _ _ fun k=>by unfold sq;rw [if_neg (by omega)]) h
 have hL':=fun x=>relL_sound (P:=P) (ops:=l.toArray) (C:=C) (S:=S) (E:=E) (D:=D) (R:=R) (a0:=a0) (v:=v) (x:=x) hu (l.take n) 0 aq (by simp) (by simp) (by
  have:s2 E v x (l.take n).length 0=sq E v (l.take n).length:=by
   funext e
   unfold s2 sq
   by_cases e1:E e=none
   ·rw [if_pos e1]
    by_cases e2:e<(l.take n).length
    ·rw [if_pos e2,if_pos ⟨e2,e1⟩]
    ·rw [if_neg e2,if_neg (fun h=>e2 h.1)]
   ·rw [if_neg e1,if_neg (by omega),if_neg (fun h=>e1 h.2)]
  rw [this]
  exact hdq) (hL x)
 refine wpAny_rel (v:=v) ok hCS hRS (fun i o ho hE=>hq i o (Nat.zero_le _) ho hE) (fun x i o es ho hE=>(hL' x).1 i o es (Nat.zero_le _) ho hE) (fun x=>(hL' x).2) _ _ (fun _=>undef) _ _ ?_ ⟨by simp,?_,fun t _=>getD_replicate_false',Desc.refl _ _ _ fun k=>?_,?_,hC0⟩
 ·simp
 ·intro j i hj
  rw [getD_replicate_false'] at hj
  cases hj
 ·rw [getD_replicate_false']
  simp
 ·intro d hd
  rw [getD_replicate_false'] at hd
  cases hd
where
 getD_replicate_false' {m j:Nat} : (Array.replicate m false).getD j false=false:=by
  rw [Array.getD_eq_getD_getElem?,Array.getElem?_replicate]
  split<;>rfl
/-- A REGION THAT DRAWS ITS ORDER. The first n operations in whatever order,those behind (each of which waits for all ahead) one by one. Quiet operations (E k=none): one value in every world of the class;the others: a value of which R tells,out of what R tells of those among 'es' that they wait for. -/
theorem wp_region_rel {id:Nat} {w0:World} (n:Nat) (E:Nat→Option (List Nat)) (D:Nat→List Nat) (R:Nat→List Value→World→Prop) (C:World→Prop) (S:World→World→Prop)
  (hm:P.follows .mixedOrders=true) (hB:okB l.toArray n E D=true) (hC0:C { w0 with drawn:=w0.drawn+1 }) (hCS:∀ w w',C w→S w w'→C w')
  (hRS:∀ d vs w w',R d vs w→S w w'→R d vs w')
  (h:relQ P l.toArray C S E (l.take n) 0 a0 (fun aq=>∀ x:Nat→Value,relL P l.toArray C S E D R x (l.take n) 0 aq (fun af=>∀ w,C w→(∀ d,d<n→(E d).isSome→R d ((D d).map x) w)→wpList P l.toArray Q (l.drop n) af w))) :
  (Code.region id l.toArray true).wp P Q a0 w0 :=
 wp_region_any hm (wpAny_region_rel n E D R C S hB hC0 hCS hRS h)
end
end Go.RelRegion
namespace Go.RelRegion
set_option linter.unusedVariables false
/-! ### A region that draws its order,in a round -/
/-- The fence that asks nothing;ro: in a round,or not. -/
def wideR (ro:Option Nat):Fence:={ Fence.wide with round:=ro }
theorem callsIn_wideR {ro:Option Nat} {n:Nat} {P:Program} {f:FuncId} {args:Array Value} {w:World} {R:Ending→World→Prop} (h:Calls P f args w R):CallsIn (wideR ro) n P f args w R:=callsIn_wide.2 h
theorem rowsIn_wideR {ro:Option Nat} {n:Nat} {P:Program} {row:String} {args:Array Value} {w:World} {R:Value→World→Prop} (h:Rows P row args w R):RowsIn (wideR ro) n P row args w R :=
 fun c cs _=>let ⟨v,w',r,s⟩:=h c cs;⟨v,w',r,stepsIn_wide.2 s⟩
theorem uponIn_of {ro:Option Nat} {n:Nat} {P:Program} {o:Oper} {a:Act} {K K' : Act→World→Prop} {Q:Exit→Act→World→Prop} (hK:∀ a w,K a w→K' a w) {r:Result Next} (h:o.upon P a K Q r):o.uponIn (wideR ro) n P a K' Q r:=by
 cases r with
 | ok x w' =>
  cases x with
  | value v=>exact hK _ _ h
  | skip=>exact hK _ _ h
  | defer d=>exact hK _ _ h
  | enter f args=>exact ⟨fun h=>by simp [wideR,Fence.wide] at h,(callsIn_wideR h).mono (fun e w'' he=>by
    cases e with
    | returned v=>exact hK _ _ he
    | panicked c=>exact he
    | outgrown=>exact he)⟩
  | row f args=>exact ⟨fun h=>by simp [wideR,Fence.wide] at h,(rowsIn_wideR h).mono (fun v w'' he=>hK _ _ he)⟩
  | _=>exact h.elim
 | halt x w' =>
  cases x with
  | panic v=>exact h
  | _=>exact h.elim
theorem wpIn_of {ro:Option Nat} {n:Nat} {P:Program} {o:Oper} {a:Act} {w:World} {K K' : Act→World→Prop} {Q:Exit→Act→World→Prop} (hd:∀ c,o.op≠.defer c) (hK:∀ a w,K a w→K' a w) (h:o.wp P a w K Q):o.wpIn (wideR ro) n P a w K' Q:=by
 refine ⟨fun f _=>trivial,?_⟩
 rw [Oper.semAt_plain (wideR ro) _ _ hd]
 exact uponIn_of hK h
theorem wpAnyIn_of {ro:Option Nat} {n:Nat} {P:Program} {md:Region.Mode} {ops:Array Oper} {Q:Exit→Act→World→Prop} (hQ:∀ a w,¬ Q .outgrown a w) (hd:∀ (i:Nat) (o:Oper) (c:Call),ops[i]?=some o→o.op≠.defer c):∀ (fuel:Nat) (listed:Array Bool) (a:Act) (w:World),wpAny P md ops Q fuel listed a w→wpAnyIn (wideR ro) n P md ops Q fuel listed a w
 | 0,listed,a,w,h=>h
 | fuel+1,listed,a,w,h=>by
  refine ⟨h.1,fun i hi=>?_⟩
  have:=h.2 i hi
  unfold wpOp at this
  unfold wpOpIn
  cases ho:ops[i]? with
  | none=>rw [ho] at this;exact wpAnyIn_of hQ hd fuel _ _ _ this
  | some o =>
   rw [ho] at this
   simp only at this ⊢
   split
   ·rename_i hw
    rw [if_pos hw] at this
    rcases this with this|⟨_,a1,w1,h1⟩
    ·exact wpIn_of (fun c=>hd i o c ho) (fun a w h=>wpAnyIn_of hQ hd fuel _ _ _ h) this
    ·exact absurd h1 (hQ _ _)
   ·rename_i hw
    rw [if_neg hw] at this
    exact ⟨fun f _=>trivial,wpAnyIn_of hQ hd fuel _ _ _ this⟩
def noDefer (l:List Oper):Bool:=l.all fun o=>match o.op with|.defer _=>false|_=>true
theorem noDefer_spec {l:List Oper} (h:noDefer l=true):∀ (i:Nat) (o:Oper) (c:Call),l.toArray[i]?=some o→o.op≠.defer c:=by
 intro i o c ho e
 have hm:o∈l:=by
  rw [List.getElem?_toArray] at ho
  exact List.mem_of_getElem? ho
 have:=List.all_eq_true.1 h o hm
 rw [e] at this
 cases this
/-- The law,in a round: the head in whatever order,then the rest. -/
theorem wpIn_region_rel {ro:Option Nat} {nF:Nat} {P:Program} {l:List Oper} {a0:Act} {Q:Exit→Act→World→Prop} {K0:Act→World→Prop} {id:Nat} {w0:World} (n:Nat) (E:Nat→Option (List Nat)) (D:Nat→List Nat) (R:Nat→List Value→World→Prop) (C:World→Prop) (S:World→World→Prop)
  (hm:P.follows .mixedOrders=true) (hnd:noDefer l=true) (hB:okB l.toArray n E D=true) (hC0:C { w0 with drawn:=w0.drawn+1 }) (hCS:∀ w w',C w→S w w'→C w')
  (hRS:∀ d vs w w',R d vs w→S w w'→R d vs w')
  (h:relQ P l.toArray C S E (l.take n) 0 a0 (fun aq=>∀ x:Nat→Value,relL P l.toArray C S E D R x (l.take n) 0 aq (fun af=>∀ w,C w→(∀ d,d<n→(E d).isSome→R d ((D d).map x) w)→wpList P l.toArray (fun e a w=>e=.normal∧K0 a w) (l.drop n) af w))) 
  (hK:∀ a w,K0 a w→Q .normal a w):(Code.region id l.toArray true).wpIn (wideR ro) nF P Q a0 w0:=by
 refine Code.wpIn_mono (Q:=fun e a w=>e=.normal∧K0 a w) (fun e a w he=>by obtain ⟨rfl,hk⟩:=he;exact hK a w hk) ?_
 refine wpIn_region_any hm (wpAnyIn_of (fun a w h=>by cases h.1) (noDefer_spec hnd) _ _ _ _ ?_)
 exact wpAny_region_rel n E D R C S hB hC0 hCS hRS h
end Go.RelRegion
