import Derived.Test.YtnkgbnbbmcoiiaaGreatRfz
import Derived.Test.YtnkgbnbbmcoiiaaGreatLsm
import Derived.Test.YtnkgbnbbmcoiiaaGreatS4
import Derived.Test.YtnkgbnbbmcoiiaaGreatS5
import Derived.Test.YtnkgbnbbmcoiiaaGreatS11
import Derived.Test.YtnkgbnbbmcoiiaaGreatS12
import Derived.Test.YtnkgbnbbmcoiiaaGreatS14
import Derived.Test.YtnkgbnbbmcoiiaaGreatS6
namespace Go.Proofs.YtnkgbnbbmcoiiaaGreat.S
open Go.RowKit Go.IM Go.Proofs.YtnkgbnbbmcoiiaaGreatW.PrintWords Go.Proofs.YtnkgbnbbmcoiiaaGreatW.PrintLast Go.Proofs.YtnkgbnbbmcoiiaaGreatW.PrintMore
set_option linter.unusedVariables false
set_option linter.unusedSimpArgs false
/-! ### The document's words of chapter 14,in closed form -/
theorem Ev.step {α:Type} {g h:Nat→Option α} {r:α} (hg:Ev g r) (hs:∀ k,h (k+1)=g k):Ev h r:=by
 obtain ⟨K,hK⟩:=hg
 refine ⟨K+1,fun k hk=>?_⟩
 obtain ⟨k',rfl⟩:∃ k',k=k'+1:=⟨k - 1,by omega⟩
 rw [hs]
 exact hK k' (by omega)
theorem Ev.same {α:Type} {g h:Nat→Option α} {r:α} (hg:Ev g r) (hs:∀ k,h k=g k):Ev h r:=by
 obtain ⟨K,hK⟩:=hg
 exact ⟨K,fun k hk=>(hs k).trans (hK k hk)⟩
theorem Ev.pure {α:Type} {h:Nat→Option α} (r:α) (hs:∀ k,h k=some r):Ev h r:=⟨0,fun k _=>hs k⟩
theorem Ev.pure1 {α:Type} {h:Nat→Option α} (r:α) (hs:∀ k,h (k+1)=some r):Ev h r:=by
 refine ⟨1,fun k hk=>?_⟩
 obtain ⟨k',rfl⟩:∃ k',k=k'+1:=⟨k - 1,by omega⟩
 exact hs k'
theorem Ev.then {α β:Type} {g:Nat→Option α} {h:Nat→α→Option β} {a:α} {r:β} (hg:Ev g a) (hh:Ev (fun k=>h k a) r):Ev (fun k=>(g k).bind (h k)) r:=by
 obtain ⟨K,hK⟩:=hg
 obtain ⟨L,hL⟩:=hh
 refine ⟨max K L,fun k hk=>?_⟩
 show (g k).bind (h k)=some r
 rw [hK k (by omega),Option.bind_some]
 exact hL k (by omega)
theorem r14_sets (x:S45):swageref14_Sets.f x.f0 x.f1 x.f2 x.f3 x.f4 x.f5=some (setX x):=by
 unfold swageref14_Sets.f setX shp
 by_cases h1:x.f0<1
 ·rw [if_pos h1,if_neg]
  repeat' split
  all_goals first|(simp;done)|omega
 ·by_cases h8:x.f0 > 8
  ·rw [if_neg h1,if_pos h8]
   have g1:¬ x.f0=1:=by omega
   have g2:¬ x.f0=2:=by omega
   have g3:¬ x.f0=3:=by omega
   have g4:¬ x.f0=4:=by omega
   have g5:¬ x.f0=5:=by omega
   have g6:¬ x.f0=6:=by omega
   have g7:¬ x.f0=7:=by omega
   have g8:¬ x.f0=8:=by omega
   by_cases g9:x.f0=9<;>simp [g1,g2,g3,g4,g5,g6,g7,g8,g9]
  ·rw [if_neg h1,if_neg h8]
   by_cases h5:x.f0=5
   ·simp [h5]
   ·rw [if_neg h5]
    have:x.f0=1∨x.f0=2∨x.f0=3∨x.f0=4∨x.f0=6∨x.f0=7∨x.f0=8:=by omega
    rcases this with h|h|h|h|h|h|h<;>simp [h]
theorem r14_uses (x:S45) (hx:x.f5.length≤1000000000000):Ev (fun k=>swageref14_Uses.f k x.f0 x.f1 x.f2 x.f3 x.f4 x.f5) (useX x):=by
 refine ⟨3,fun k hk=>?_⟩
 obtain ⟨k,rfl⟩:∃ k',k=k'+2:=⟨k - 2,by omega⟩
 show swageref14_Uses.f (k+2) x.f0 x.f1 x.f2 x.f3 x.f4 x.f5=some (useX x)
 unfold swageref14_Uses.f useX shp
 have hl:([]:List Int).length+x.f5.length<17592186044416:=by simp;omega
 have e1:∀ b:Bool,swageref14_Uses.j1 (k+1) x.f0 b x.f0 x.f1 x.f2 x.f3 x.f4 x.f5=if b=true then some [x.f2] else if x.f0=7 then some x.f5 else some []:=fun b=>by
  rw [swageref14_Uses.j1,Option.bind_some,if_pos hl,List.nil_append]
 have e0:∀ b:Bool,swageref14_Uses.j0 (k+2) x.f0 b x.f0 x.f1 x.f2 x.f3 x.f4 x.f5=if b=true then some [x.f2,x.f3] else if x.f0=3∨x.f0=4∨x.f0=9 then some [x.f2] else if x.f0=7 then some x.f5 else some []:=fun b=>by
  rw [swageref14_Uses.j0,e1,e1,e1]
  cases b
  ·by_cases h3:x.f0=3
   ·simp [h3]
   ·by_cases h4:x.f0=4
    ·simp [h4]
    ·by_cases h9:x.f0=9<;>simp [h3,h4,h9]
  ·rfl
 rw [e0,e0]
 by_cases h:x.f0=1∨x.f0=2∨x.f0=3∨x.f0=4∨x.f0=5∨x.f0=6∨x.f0=7∨x.f0=8∨x.f0=9
 ·rcases h with h|h|h|h|h|h|h|h|h<;>simp [h]
 ·have h1:¬ x.f0=1:=by omega
  have h2:¬ x.f0=2:=by omega
  have h3:¬ x.f0=3:=by omega
  have h4:¬ x.f0=4:=by omega
  have h5:¬ x.f0=5:=by omega
  have h6:¬ x.f0=6:=by omega
  have h7:¬ x.f0=7:=by omega
  have h8:¬ x.f0=8:=by omega
  have h9:¬ x.f0=9:=by omega
  simp [h1,h2,h3,h4,h5,h6,h7,h8,h9]
theorem r14_tuses (t:S48):swageref14_TermUses.f t.f0 t.f1 t.f2 t.f3=some (tuseT t):=by
 unfold swageref14_TermUses.f tuseT
 by_cases h2:t.f0=2
 ·simp [h2]
 ·by_cases h3:t.f0=3<;>simp [h2,h3]
theorem r17_has (l:List Int) (x:Int) (hl:l.length≤1000000000000):Ev (fun k=>swageref17_has.f k l x) (decide (x∈l)):=by
 have key:∀ m j,j+m=l.length→Ev (fun k=>swageref17_has.l0 k l x (j:Int)) (decide (x∈l.drop j)):=by
  intro m
  induction m with
  | zero =>
   intro j hj
   rw [List.drop_eq_nil_of_le (by omega)]
   refine Ev.pure1 _ (fun k=>?_)
   rw [swageref17_has.l0,if_neg (by omega)]
   simp
  | succ m ih =>
   intro j hj
   have hj' : j<l.length:=by omega
   rw [List.drop_eq_getElem_cons hj']
   by_cases e:l[j]=x
   ·refine Ev.pure1 _ (fun k=>?_)
    rw [swageref17_has.l0,if_pos (by omega),if_pos (Int.natCast_nonneg j),rd_mem hj',if_pos e]
    simp [e]
   ·have h:=(ih (j+1) (by omega))
    have e2:¬ x=l[j]:=fun h=>e h.symm
    rw [show decide (x∈l[j]::l.drop (j+1))=decide (x∈l.drop (j+1)) from decide_eq_decide.2 ⟨fun h=>(List.mem_cons.1 h).resolve_left e2,fun h=>List.mem_cons_of_mem _ h⟩]
    refine h.step (fun k=>?_)
    rw [swageref17_has.l0,if_pos (by omega),if_pos (Int.natCast_nonneg j),rd_mem hj',if_neg e]
    have hw:wrap64 ((j:Int)+1)=((j+1:Nat):Int):=by
     unfold wrap64
     omega
    rw [hw]
 have:=key l.length 0 (Nat.zero_add _)
 rw [List.drop_zero] at this
 exact this
/-! Right. -/
theorem r14_reg (n:Int):swageref14_reg.f n=some (isReg n):=by
 unfold swageref14_reg.f isReg wi
 by_cases h:n ≥ 1
 ·rw [if_pos h]
  by_cases h2:n≤4096<;>simp [h2]<;>omega
 ·rw [if_neg h]
  simp
  omega
theorem r14_field (n:Int) (b:Bool):swageref14_field.f n b=some (fld n b):=by
 unfold swageref14_field.f fld
 rw [r14_reg]
 cases b
 ·simp
 ·cases h:isReg n<;>simp [h]
theorem wrap_pred {b:Int} (h0:0≤b) (h1:b≤4096):wrap64 (b - 1)=b - 1:=by
 unfold wrap64
 omega
theorem r14_term (t:S48) (b:Int) (h0:0≤b) (h1:b≤4096):Ev (fun k=>swageref14_rightTerm.f k t.f0 t.f1 t.f2 t.f3 b) (rtT t.f0 t.f1 t.f2 t.f3 b):=by
  refine ⟨2,fun k hk=>?_⟩
  obtain ⟨k,rfl⟩:∃ k',k=k'+2:=⟨k - 2,by omega⟩
  have e1:∀ x y:Bool,swageref14_rightTerm.j1 (k+1) x y t.f0 t.f1 t.f2 t.f3=some (if t.f0=1 then x && (decide (t.f1=0) && decide (t.f3=0)) else if t.f0=2 then x && (y && isReg t.f1) else if t.f0=3 then isReg t.f1 && (decide (t.f2=0) && decide (t.f3=0)) else if t.f0=4 then wi t.f2 1 15 && (decide (t.f1=0) && decide (t.f3=0)) else false):=fun x y=>by
    rw [swageref14_rightTerm.j1,r14_reg]
    by_cases h1:t.f0=1
    · rw [if_pos h1,if_pos h1]
      cases x
      · simp
      · by_cases h:t.f1=0<;>simp [h]<;>rfl
    · rw [if_neg h1,if_neg h1]
      by_cases h2:t.f0=2
      · rw [if_pos h2,if_pos h2]
        cases x<;>cases y<;>simp
      · rw [if_neg h2,if_neg h2]
        by_cases h3:t.f0=3
        · rw [if_pos h3,if_pos h3]
          cases hr:isReg t.f1
          · simp
          · by_cases h:t.f2=0<;>simp [h]<;>rfl
        · rw [if_neg h3,if_neg h3]
          by_cases h4:t.f0=4
          · rw [if_pos h4,if_pos h4]
            unfold wi
            by_cases ha:t.f2 ≥ 1
            · by_cases hb:t.f2≤15
              · by_cases h:t.f1=0
                · simp [ha,hb,h]
                  rfl
                · simp [ha,hb,h]
              · simp [ha,hb]
            · simp [ha]
          · rw [if_neg h4,if_neg h4]
  have e0:∀ x:Bool,swageref14_rightTerm.j0 (k+2) b x t.f0 t.f1 t.f2 t.f3=some (if t.f0=1 then x && (decide (t.f1=0) && decide (t.f3=0)) else if t.f0=2 then x && (wi t.f3 0 (b - 1) && isReg t.f1) else if t.f0=3 then isReg t.f1 && (decide (t.f2=0) && decide (t.f3=0)) else if t.f0=4 then wi t.f2 1 15 && (decide (t.f1=0) && decide (t.f3=0)) else false):=fun x=>by
    rw [swageref14_rightTerm.j0,e1,e1]
    by_cases h:t.f3 ≥ 0
    · rw [if_pos h,show wi t.f3 0 (b - 1)=decide (t.f3<b) by unfold wi;exact decide_eq_decide.2 (by omega)]
    · rw [if_neg h,show wi t.f3 0 (b - 1)=false by unfold wi;exact decide_eq_false (by omega)]
  show swageref14_rightTerm.f (k+2) t.f0 t.f1 t.f2 t.f3 b=_
  unfold swageref14_rightTerm.f rtT
  rw [e0,e0,wrap_pred h0 h1]
  have hw:(if t.f2 ≥ 0 then decide (t.f2<b) else false)=wi t.f2 0 (b - 1):=by
    unfold wi
    by_cases h:t.f2 ≥ 0
    · rw [if_pos h];exact decide_eq_decide.2 (by omega)
    · rw [if_neg h];exact (decide_eq_false (by omega)).symm
  rw [← hw]
  unfold isReg
  have d0:∀ z:Int,(z == 0)=decide (z=0):=fun z=>rfl
  simp only [d0]
  by_cases h:t.f2 ≥ 0
  · rw [if_pos h,if_pos h]
    congr 1
    by_cases g1:t.f0=1
    · simp [g1]
    · by_cases g2:t.f0=2
      · simp [g2,Bool.and_assoc]
      · simp [g1,g2]
  · rw [if_neg h,if_neg h]
    first
      | (congr 1;done)
      | (congr 1
         by_cases g1:t.f0=1
         · simp [g1]
         · by_cases g2:t.f0=2
           · simp [g2]
           · simp [g1,g2])
/-- What RightOp asks of a Kind's Imm. -/
def knB (x:S45) (fn:Int):Bool:=if x.f0=2 then wi x.f4 1 14 else if x.f0=4∨x.f0=5 then wi x.f4 (-2147483648) 2147483647 else if x.f0=6 then wi x.f4 0 1048576 else if x.f0=7 then wi x.f4 0 (fn - 1) else true
theorem r14_known (i:Int):swageref01_Known.f i=some (wi i 1 14):=by
 unfold swageref01_Known.f wi
 by_cases h:i ≥ 1
 ·rw [if_pos h]
  by_cases h2:i≤14<;>simp [h2]<;>omega
 ·rw [if_neg h]
  simp
  omega
theorem wi_two (a lo hi:Int):(if a ≥ lo then some (decide (a≤hi)) else some false)=some (wi a lo hi):=by
 unfold wi
 by_cases h:a ≥ lo
 ·rw [if_pos h]
  congr 1
  exact decide_eq_decide.2 ⟨fun g=>⟨h,g⟩,fun g=>g.2⟩
 ·rw [if_neg h]
  congr 1
  exact (decide_eq_false (fun g=>h g.1)).symm
theorem wi_lt (a hi:Int):(if a ≥ 0 then some (decide (a<hi)) else some false)=some (wi a 0 (hi - 1)):=by
 rw [← wi_two]
 by_cases h:a ≥ 0
 ·rw [if_pos h,if_pos h]
  congr 1
  exact decide_eq_decide.2 (by omega)
 ·rw [if_neg h,if_neg h]
theorem r14_l0 (x:S45) (fn:Int) (hx:x.f5.length≤1000000000000):∀ m j,j+m=x.f5.length→Ev (fun k=>swageref14_RightOp.l0 k fn (j:Int) x.f0 x.f1 x.f2 x.f3 x.f4 x.f5) ((x.f5.drop j).all isReg && knB x fn):=by
 intro m
 induction m with
 | zero =>
  intro j hj
  rw [List.drop_eq_nil_of_le (by omega)]
  refine ⟨2,fun k hk=>?_⟩
  obtain ⟨k,rfl⟩:∃ k',k=k'+2:=⟨k - 2,by omega⟩
  show swageref14_RightOp.l0 (k+2) fn (j:Int) x.f0 x.f1 x.f2 x.f3 x.f4 x.f5=_
  rw [swageref14_RightOp.l0,if_neg (by omega),swageref14_RightOp.j2,swageref14_RightOp.j2,r14_known]
  unfold knB
  rw [wi_two,wi_two,wi_lt]
  simp only [List.all_nil,Bool.true_and,Option.bind_some]
  by_cases h2:x.f0=2
  ·simp [h2]
  ·by_cases h4:x.f0=4
   ·simp [h4]
   ·by_cases h5:x.f0=5
    ·simp [h5]
    ·by_cases h6:x.f0=6
     ·simp [h6]
     ·by_cases h7:x.f0=7<;>simp [h2,h4,h5,h6,h7]
 | succ m ih =>
  intro j hj
  have hj' : j<x.f5.length:=by omega
  have hw:wrap64 ((j:Int)+1)=((j+1:Nat):Int):=by
   unfold wrap64
   omega
  rw [List.drop_eq_getElem_cons hj',List.all_cons]
  cases hr:isReg x.f5[j] with
  | false =>
   refine Ev.pure1 _ (fun k=>?_)
   rw [swageref14_RightOp.l0,if_pos (by omega),if_pos (Int.natCast_nonneg j),rd_mem hj',r14_reg,hr]
   rfl
  | true =>
   rw [Bool.true_and]
   refine (ih (j+1) (by omega)).step (fun k=>?_)
   rw [swageref14_RightOp.l0,if_pos (by omega),if_pos (Int.natCast_nonneg j),rd_mem hj',r14_reg,hr,hw]
   rfl
theorem r14_j0 (x:S45) (fn:Int) (hx:x.f5.length≤1000000000000) (b:Bool):Ev (fun k=>swageref14_RightOp.j0 k fn b x.f0 x.f1 x.f2 x.f3 x.f4 x.f5) (!b && (x.f5.all isReg && knB x fn)):=by
 cases b with
 | true =>
  refine Ev.pure1 _ (fun k=>?_)
  rw [swageref14_RightOp.j0,if_pos rfl]
  rfl
 | false =>
  have:=r14_l0 x fn hx x.f5.length 0 (Nat.zero_add _)
  rw [List.drop_zero] at this
  refine this.step (fun k=>?_)
  rw [swageref14_RightOp.j0,if_neg (by simp)]
  rfl
theorem r14_shape (K:Int):Ev (fun k=>swageref14_shape.f k K) (shp K):=by
 refine Ev.pure1 _ (fun k=>?_)
 show swageref14_shape.f (k+1) K=_
 unfold swageref14_shape.f shp
 rw [swageref14_shape.j0,swageref14_shape.j0]
 by_cases h1:K=1
 ·simp [h1]
 ·by_cases h6:K=6
  ·simp [h6]
  ·by_cases h7:K=7
   ·simp [h7]
   ·simp only [h1,h6,h7,if_false,or_self,beq_iff_eq]
    by_cases h2:K=2
    ·simp [h2]
    ·by_cases h3:K=3
     ·simp [h3]
     ·by_cases h4:K=4
      ·simp [h4]
      ·by_cases h5:K=5
       ·simp [h5]
       ·by_cases h8:K=8
        ·simp [h8]
        ·by_cases h9:K=9
         ·simp [h9]
         ·simp [h2,h3,h4,h5,h8,h9]
theorem ropX_alt (x:S45) {fn:Int} (h0:0≤fn) (h1:fn≤4096):ropX x fn=((shp x.f0).2.2.2.2 && (fld x.f1 (shp x.f0).1 && (fld x.f2 (shp x.f0).2.1 && (fld x.f3 (shp x.f0).2.2.1 && (((shp x.f0).2.2.2.1 || decide (x.f4=0)) && (!(if x.f0=7 then decide ((x.f5.length:Int) > 8) else decide ((x.f5.length:Int) > 0) || decide ((x.f5.length:Int) > 8)) && (x.f5.all isReg && knB x fn))))))):=by
 have hb:∀ z:Int,(z == 0)=decide (z=0):=fun z=>rfl
 have hL:x.f0≠7→((x.f5.length:Int) == 0)=(!(decide ((x.f5.length:Int) > 0) || decide ((x.f5.length:Int) > 8)) && x.f5.all isReg):=fun _=>by
  cases hl:x.f5 with
  | nil=>rfl
  | cons a l =>
   have h2:((a::l).length:Int) > 0:=by simp only [List.length_cons];omega
   have h3:¬ ((a::l).length:Int)=0:=by omega
   rw [hb,decide_eq_false h3,decide_eq_true h2]
   rfl
 unfold ropX ropB
 cases hs:(shp x.f0).2.2.2.2 with
 | false=>rfl
 | true =>
  by_cases h7:x.f0=7
  ·rw [if_pos h7,if_pos h7]
   have e1:imB x fn=wi x.f4 0 (fn - 1):=by
    unfold imB immB
    rw [if_neg (by omega),if_neg (by omega),if_neg (by omega),if_pos h7,wrap_pred h0 h1]
   have e2:knB x fn=wi x.f4 0 (fn - 1):=by
    unfold knB
    rw [if_neg (by omega),if_neg (by omega),if_neg (by omega),if_pos h7]
   have e3:(shp x.f0).2.2.2.1=true:=by rw [h7];rfl
   have e4:(!decide ((x.f5.length:Int) > 8))=decide ((x.f5.length:Int)≤8):=by
    by_cases h:(x.f5.length:Int) > 8
    ·rw [decide_eq_true h,decide_eq_false (by omega)];rfl
    ·rw [decide_eq_false h,decide_eq_true (by omega)];rfl
   rw [e1,e2,e3,e4]
   cases fld x.f1 (shp x.f0).1<;>cases fld x.f2 (shp x.f0).2.1<;>cases fld x.f3 (shp x.f0).2.2.1<;>cases wi x.f4 0 (fn - 1)<;>cases decide ((x.f5.length:Int)≤8)<;>cases x.f5.all isReg<;>rfl
  ·rw [if_neg h7,if_neg h7,hL h7]
   have e1:imB x fn=(((shp x.f0).2.2.2.1 || decide (x.f4=0)) && knB x fn):=by
    unfold imB immB knB
    have hk:x.f0=1∨x.f0=2∨x.f0=3∨x.f0=4∨x.f0=5∨x.f0=6∨x.f0=8∨x.f0=9:=by
     unfold shp at hs
     repeat' split at hs
     all_goals first|omega|(simp at hs)
    rcases hk with h|h|h|h|h|h|h|h<;>simp [h,shp,hb]<;>rfl
   rw [e1]
   cases fld x.f1 (shp x.f0).1<;>cases fld x.f2 (shp x.f0).2.1<;>cases fld x.f3 (shp x.f0).2.2.1<;>cases knB x fn<;>cases (decide ((x.f5.length:Int) > 0) || decide ((x.f5.length:Int) > 8))<;>cases x.f5.all isReg<;>cases ((shp x.f0).2.2.2.1 || decide (x.f4=0))<;>rfl
theorem r14_op (x:S45) {fn:Int} (h0:0≤fn) (h1:fn≤4096) (hx:x.f5.length≤1000000000000):Ev (fun k=>swageref14_RightOp.f k x.f0 x.f1 x.f2 x.f3 x.f4 x.f5 fn) (ropX x fn):=by
 unfold swageref14_RightOp.f
 refine Ev.then (r14_shape x.f0) ?_
 rw [ropX_alt x h0 h1]
 simp only [r14_field,Option.bind_some]
 have J:=r14_j0 x fn hx
 generalize fld x.f1 (shp x.f0).1=a
 generalize fld x.f2 (shp x.f0).2.1=b
 generalize fld x.f3 (shp x.f0).2.2.1=c
 generalize (shp x.f0).2.2.2.2=ok
 generalize (shp x.f0).2.2.2.1=im
 have key:Ev (fun k=>if x.f0=7 then swageref14_RightOp.j0 k fn (decide ((x.f5.length:Int) > 8)) x.f0 x.f1 x.f2 x.f3 x.f4 x.f5 else if (x.f5.length:Int) > 0 then swageref14_RightOp.j0 k fn true x.f0 x.f1 x.f2 x.f3 x.f4 x.f5 else swageref14_RightOp.j0 k fn (decide ((x.f5.length:Int) > 8)) x.f0 x.f1 x.f2 x.f3 x.f4 x.f5)
   (!(if x.f0=7 then decide ((x.f5.length:Int) > 8) else decide ((x.f5.length:Int) > 0) || decide ((x.f5.length:Int) > 8)) && (x.f5.all isReg && knB x fn)):=by
  by_cases h7:x.f0=7
  ·simp only [if_pos h7]
   exact J _
  ·simp only [if_neg h7]
   by_cases hl:(x.f5.length:Int) > 0
   ·simp only [if_pos hl,decide_eq_true hl]
    exact J true
   ·simp only [if_neg hl,decide_eq_false hl]
    exact J _
 cases ok
 ·exact J true
 ·cases a
  ·exact J true
  ·cases b
   ·exact J true
   ·cases c
    ·exact J true
    ·cases im
     ·by_cases h4:x.f4=0
      ·simp only [if_pos h4,decide_eq_true h4]
       exact key
      ·simp only [if_neg h4,decide_eq_false h4]
       exact J true
     ·exact key
/-- May block i stand? -/
def blkR (bs:List S50) (fn:Int) (i:Nat):Bool:=decide ((plcs bs (i+1)).length≤16384) && (rtT (rd_T50 bs (i:Int)).f1.f0 (rd_T50 bs (i:Int)).f1.f1 (rd_T50 bs (i:Int)).f1.f2 (rd_T50 bs (i:Int)).f1.f3 (bs.length:Int) && (rd_T50 bs (i:Int)).f0.all fun x=>ropX x fn)
def allR (bs:List S50) (fn:Int):Nat→Nat→Bool
 | 0,_=>true
 | m+1,i=>blkR bs fn i && allR bs fn m (i+1)
theorem nat_wrap {j:Nat} (h:j<1000000000000):wrap64 ((j:Int)+1)=((j+1:Nat):Int):=by
 unfold wrap64
 omega
theorem r14_l1 (bs:List S50) (p:Int) {fn:Int} (h0:0≤fn) (h1:fn≤4096) (n:Int) (i:Nat) (hi:i<bs.length) (hl:(rd_T50 bs (i:Int)).f0.length≤1000000000000) (hA:∀ q,(opOf bs q).f5.length≤1000000000000) {R:Bool} (hR:Ev (fun k=>swageref14_Right.l0 k fn n ((i+1:Nat):Int) p bs) R) (hib:bs.length≤1000000000000) :
  ∀ m j,j+m=(rd_T50 bs (i:Int)).f0.length→Ev (fun k=>swageref14_Right.l1 k fn n (i:Int) (j:Int) p bs) ((((rd_T50 bs (i:Int)).f0.drop j).all fun x=>ropX x fn) && R):=by
 intro m
 induction m with
 | zero =>
  intro j hj
  rw [List.drop_eq_nil_of_le (by omega),List.all_nil,Bool.true_and]
  refine hR.step (fun k=>?_)
  rw [swageref14_Right.l1,if_pos (Int.natCast_nonneg i),if_pos (by omega),if_neg (by omega),nat_wrap (by omega)]
 | succ m ih =>
  intro j hj
  have hj' : j<(rd_T50 bs (i:Int)).f0.length:=by omega
  have hx:(rd_T45 (rd_T50 bs (i:Int)).f0 (j:Int)).f5.length≤1000000000000:=hA (i,j)
  rw [List.drop_eq_getElem_cons hj',List.all_cons,← rd45' hj']
  have hop:=r14_op (rd_T45 (rd_T50 bs (i:Int)).f0 (j:Int)) h0 h1 hx
  have hstep:∀ k,swageref14_Right.l1 (k+1) fn n (i:Int) (j:Int) p bs=(swageref14_RightOp.f k (rd_T45 (rd_T50 bs (i:Int)).f0 (j:Int)).f0 (rd_T45 (rd_T50 bs (i:Int)).f0 (j:Int)).f1 (rd_T45 (rd_T50 bs (i:Int)).f0 (j:Int)).f2 (rd_T45 (rd_T50 bs (i:Int)).f0 (j:Int)).f3 (rd_T45 (rd_T50 bs (i:Int)).f0 (j:Int)).f4 (rd_T45 (rd_T50 bs (i:Int)).f0 (j:Int)).f5 fn).bind fun t=>if t=true then swageref14_Right.l1 k fn n (i:Int) (wrap64 ((j:Int)+1)) p bs else some false:=fun k=>by
   rw [swageref14_Right.l1,if_pos (Int.natCast_nonneg i),if_pos (by omega),if_pos (by omega),if_pos (Int.natCast_nonneg j)]
  refine Ev.step (g:=fun k=>(swageref14_RightOp.f k (rd_T45 (rd_T50 bs (i:Int)).f0 (j:Int)).f0 (rd_T45 (rd_T50 bs (i:Int)).f0 (j:Int)).f1 (rd_T45 (rd_T50 bs (i:Int)).f0 (j:Int)).f2 (rd_T45 (rd_T50 bs (i:Int)).f0 (j:Int)).f3 (rd_T45 (rd_T50 bs (i:Int)).f0 (j:Int)).f4 (rd_T45 (rd_T50 bs (i:Int)).f0 (j:Int)).f5 fn).bind fun t=>if t=true then swageref14_Right.l1 k fn n (i:Int) (wrap64 ((j:Int)+1)) p bs else some false) (Ev.then hop ?_) hstep
  cases hr:ropX (rd_T45 (rd_T50 bs (i:Int)).f0 (j:Int)) fn with
  | false=>exact Ev.pure _ (fun k=>rfl)
  | true =>
   simp only [if_true,Bool.true_and]
   rw [nat_wrap (by omega)]
   exact ih (j+1) (by omega)
theorem plcs_step (bs:List S50) (i:Nat):(plcs bs (i+1)).length=(plcs bs i).length+(rd_T50 bs (i:Int)).f0.length:=by
 rw [plcs_succ,List.length_append]
 simp only [rowP,List.length_map,List.length_range]
 rfl
theorem r14_l0r (bs:List S50) (p:Int) {fn:Int} (h0:0≤fn) (h1:fn≤4096) (hib:bs.length≤4096) (hl:∀ i:Nat,(rd_T50 bs (i:Int)).f0.length≤1000000000000) (hA:∀ q,(opOf bs q).f5.length≤1000000000000) :
  ∀ m i,i+m=bs.length→(plcs bs i).length≤16384→Ev (fun k=>swageref14_Right.l0 k fn ((plcs bs i).length:Int) (i:Int) p bs) (allR bs fn m i):=by
 intro m
 induction m with
 | zero =>
  intro i hi hn
  refine Ev.pure1 _ (fun k=>?_)
  rw [swageref14_Right.l0,if_neg (by omega)]
  rfl
 | succ m ih =>
  intro i hi hn
  have hlt:i<bs.length:=by omega
  have hw:wrap64 (((plcs bs i).length:Int)+((rd_T50 bs (i:Int)).f0.length:Int))=((plcs bs (i+1)).length:Int):=by
   have:=hl i
   rw [plcs_step]
   unfold wrap64
   omega
  show Ev _ (blkR bs fn i && allR bs fn m (i+1))
  unfold blkR
  by_cases hc:(plcs bs (i+1)).length≤16384
  ·have hj2:∀ b:Bool,Ev (fun k=>swageref14_Right.j2 k fn ((plcs bs (i+1)).length:Int) (i:Int) b p bs) (!b && (((rd_T50 bs (i:Int)).f0.all fun x=>ropX x fn) && allR bs fn m (i+1))):=fun b=>by
    cases b with
    | true =>
     refine Ev.pure1 _ (fun k=>?_)
     rw [swageref14_Right.j2,if_pos rfl]
     rfl
    | false =>
     have h:=r14_l1 bs p h0 h1 ((plcs bs (i+1)).length:Int) i hlt (hl i) hA (ih (i+1) (by omega) hc) (by omega) _ 0 (Nat.zero_add _)
     rw [List.drop_zero] at h
     refine h.step (fun k=>?_)
     rw [swageref14_Right.j2,if_neg (by simp)]
     rfl
   have ht:=r14_term (rd_T50 bs (i:Int)).f1 (bs.length:Int) (by omega) (by omega)
   refine Ev.step (g:=fun k=>(swageref14_rightTerm.f k (rd_T50 bs (i:Int)).f1.f0 (rd_T50 bs (i:Int)).f1.f1 (rd_T50 bs (i:Int)).f1.f2 (rd_T50 bs (i:Int)).f1.f3 (bs.length:Int)).bind fun t=>swageref14_Right.j2 k fn ((plcs bs (i+1)).length:Int) (i:Int) (!t) p bs) (Ev.then ht ?_) (fun k=>?_)
   ·have:=hj2 (!rtT (rd_T50 bs (i:Int)).f1.f0 (rd_T50 bs (i:Int)).f1.f1 (rd_T50 bs (i:Int)).f1.f2 (rd_T50 bs (i:Int)).f1.f3 (bs.length:Int))
    rw [Bool.not_not] at this
    rw [decide_eq_true hc,Bool.true_and,Bool.and_assoc]
    exact this
   ·rw [swageref14_Right.l0,if_pos (by omega),if_pos (Int.natCast_nonneg i),hw,if_neg (by omega)]
  ·rw [decide_eq_false hc,Bool.false_and,Bool.false_and]
   refine ⟨2,fun k hk=>?_⟩
   obtain ⟨k,rfl⟩:∃ k',k=k'+2:=⟨k - 2,by omega⟩
   show swageref14_Right.l0 (k+2) fn ((plcs bs i).length:Int) (i:Int) p bs=some false
   rw [swageref14_Right.l0,if_pos (by omega),if_pos (Int.natCast_nonneg i),hw,if_pos (by omega),swageref14_Right.j2,if_pos rfl]
theorem allR_iff (bs:List S50) (fn:Int):∀ m i,allR bs fn m i=true↔∀ j,i≤j→j<i+m→blkR bs fn j=true
 | 0,i=>⟨fun _ j h1 h2=>absurd h2 (by omega),fun _=>rfl⟩
 | m+1,i=>by
  unfold allR
  rw [Bool.and_eq_true,allR_iff bs fn m (i+1)]
  constructor
  ·rintro ⟨h1,h2⟩ j hj hj2
   by_cases e:j=i
   ·subst e;exact h1
   ·exact h2 j (by omega) (by omega)
  ·exact fun h=>⟨h i (Nat.le_refl _) (by omega),fun j h1 h2=>h j (by omega) (by omega)⟩
theorem plcs_mono (bs:List S50):∀ m i,(plcs bs i).length≤(plcs bs (i+m)).length
 | 0,i=>Nat.le_refl _
 | m+1,i=>by
  have h1:=plcs_mono bs m i
  have h2:=plcs_step bs (i+m)
  rw [← Nat.add_assoc,h2]
  omega
theorem rightF_alt (p:Int) (bs:List S50) (fn:Int):rightF p bs fn=(wi (bs.length:Int) 1 4096 && (wi p 0 8 && allR bs fn bs.length 0)):=by
 unfold rightF
 congr 2
 rw [Bool.eq_iff_iff,allR_iff]
 simp only [Bool.and_eq_true,decide_eq_true_eq]
 unfold termsR
 rw [List.all_eq_true,List.all_eq_true]
 constructor
 ·rintro ⟨ht,hn,ho⟩ j _ hj
  have hj:j<bs.length:=by omega
  unfold blkR
  rw [Bool.and_eq_true,Bool.and_eq_true,decide_eq_true_eq,List.all_eq_true]
  refine ⟨?_,?_,fun x hx=>?_⟩
  ·have:=plcs_mono bs (bs.length - (j+1)) (j+1)
   rw [show j+1+(bs.length - (j+1))=bs.length by omega] at this
   omega
  ·rw [rd43' hj]
   exact ht _ (List.getElem_mem hj)
  ·obtain ⟨q,hq,e⟩:=List.getElem_of_mem hx
   have:=ho (j,q) (mem_plcs.2 ⟨hj,hq⟩)
   rw [← e,← rd45' hq]
   exact this
 ·intro h
  have hb:∀ j,j<bs.length→blkR bs fn j=true:=fun j hj=>h j (Nat.zero_le _) (by omega)
  refine ⟨fun x hx=>?_,?_,fun q hq=>?_⟩
  ·obtain ⟨j,hj,e⟩:=List.getElem_of_mem hx
   have h1:=hb j hj
   unfold blkR at h1
   rw [Bool.and_eq_true,Bool.and_eq_true,rd43' hj,e] at h1
   exact h1.2.1
  ·by_cases e:bs.length=0
   ·rw [e]
    exact Nat.zero_le _
   ·have h1:=hb (bs.length - 1) (by omega)
    unfold blkR at h1
    rw [Bool.and_eq_true,decide_eq_true_eq,show bs.length - 1+1=bs.length by omega] at h1
    exact h1.1
  ·obtain ⟨i,k⟩:=q
   obtain ⟨h1,h2⟩:=mem_plcs.1 hq
   have h3:=hb i h1
   unfold blkR at h3
   rw [Bool.and_eq_true,Bool.and_eq_true,List.all_eq_true] at h3
   have h2:k<(rd_T50 bs (i:Int)).f0.length:=h2
   have:=h3.2.2 _ (List.getElem_mem h2)
   rw [← rd45' h2] at this
   exact this
/-- The document's Right is the program's. -/
theorem r14_right (p:Int) (bs:List S50) {fn:Int} (h0:0≤fn) (h1:fn≤4096) (hl:∀ i:Nat,(rd_T50 bs (i:Int)).f0.length≤1000000000000) (hA:∀ q,(opOf bs q).f5.length≤1000000000000):Ev (fun k=>swageref14_Right.f k p bs fn) (rightF p bs fn):=by
 rw [rightF_alt]
 have hj1:Ev (fun k=>swageref14_Right.j0 k fn true p bs) false:=Ev.pure1 _ (fun k=>by rw [swageref14_Right.j0,if_pos rfl])
 unfold swageref14_Right.f
 by_cases g1:(bs.length:Int)<1
 ·simp only [if_pos g1]
  rw [show wi (bs.length:Int) 1 4096=false from decide_eq_false (by omega),Bool.false_and]
  exact hj1
 ·by_cases g2:(bs.length:Int) > 4096
  ·simp only [if_neg g1,if_pos g2]
   rw [show wi (bs.length:Int) 1 4096=false from decide_eq_false (by omega),Bool.false_and]
   exact hj1
  ·simp only [if_neg g1,if_neg g2]
   rw [show wi (bs.length:Int) 1 4096=true from decide_eq_true (by omega),Bool.true_and]
   by_cases g3:p<0
   ·simp only [if_pos g3]
    rw [show wi p 0 8=false from decide_eq_false (by omega),Bool.false_and]
    exact hj1
   ·simp only [if_neg g3]
    by_cases g4:p > 8
    ·rw [decide_eq_true g4,show wi p 0 8=false from decide_eq_false (by omega),Bool.false_and]
     exact hj1
    ·rw [decide_eq_false g4,show wi p 0 8=true from decide_eq_true (by omega),Bool.true_and]
     have h:=r14_l0r bs p h0 h1 (by omega) hl hA bs.length 0 (Nat.zero_add _) (by show 0≤16384;omega)
     refine h.step (fun k=>?_)
     rw [swageref14_Right.j0,if_neg (by simp)]
     rfl
theorem succL_take (bs:List S50) {j:Nat} (h:j<bs.length):(succL bs).take (j+1)=(succL bs).take j++[succT (rd_T50 bs (j:Int)).f1]:=by
 unfold succL
 rw [List.take_succ_eq_append_getElem (by simpa using h),List.getElem_map,rd43' h]
theorem r14_succ (p:Int) (bs:List S50) (hl:bs.length≤1000000000000):Ev (fun k=>swageref14_Succ.f k p bs) (succL bs):=by
 have key:∀ m j,j+m=bs.length→Ev (fun k=>swageref14_Succ.l0 k ((succL bs).take j) (j:Int) p bs) (succL bs):=by
  intro m
  induction m with
  | zero =>
   intro j hj
   refine Ev.pure1 _ (fun k=>?_)
   rw [swageref14_Succ.l0,if_neg (by omega),List.take_of_length_le (by unfold succL;rw [List.length_map];omega)]
  | succ m ih =>
   intro j hj
   have hlt:j<bs.length:=by omega
   refine (ih (j+1) (by omega)).step (fun k=>?_)
   have hlen:((succL bs).take j).length<5864062014805:=by rw [List.length_take];unfold succL;rw [List.length_map];omega
   rw [swageref14_Succ.l0,if_pos (by omega),if_pos (Int.natCast_nonneg j),nat_wrap (by omega),succL_take bs hlt]
   unfold succT
   by_cases h1:(rd_T50 bs (j:Int)).f1.f0=1
   ·rw [if_pos h1,if_neg (show ¬ (rd_T50 bs (j:Int)).f1.f0=2 by omega),if_neg (show ¬ (rd_T50 bs (j:Int)).f1.f0=2 by omega),if_pos hlen,if_pos h1]
   ·rw [if_neg h1]
    by_cases h2:(rd_T50 bs (j:Int)).f1.f0=2
    ·rw [if_pos h2,if_pos hlen,if_pos h2]
    ·rw [if_neg h2,if_pos hlen,if_neg h2,if_neg h1]
 exact key bs.length 0 (Nat.zero_add _)
/-! Regs: the greatest of all. -/
def opR' (x:S45):List Int:=setX x::useX x
def blkU (bs:List S50) (i:Nat):List Int:=(rd_T50 bs (i:Int)).f0.flatMap opR'++tuseT (rd_T50 bs (i:Int)).f1
def allU (bs:List S50):Nat→Nat→List Int
 | 0,_=>[]
 | m+1,i=>blkU bs i++allU bs m (i+1)
theorem pmx_eq (a b:Int):mx a b=max a b:=by
 unfold mx
 split<;>omega
/-- The document's greatest register. -/
def topR (p:Int) (bs:List S50):Int:=(allU bs bs.length 0).foldl max (max p 0)
theorem foldl_ge:∀ (l:List Int) (z:Int),z≤l.foldl max z
 | [],z=>Int.le_refl _
 | x::l,z=>Int.le_trans (by omega:z≤max z x) (foldl_ge l _)
theorem foldl_mem:∀ (l:List Int) (z x:Int),x∈l→x≤l.foldl max z
 | y::l,z,x,h=>by
  rw [List.foldl_cons]
  rcases List.mem_cons.1 h with e|h
  ·have:=foldl_ge l (max z y)
   omega
  ·exact foldl_mem l _ x h
theorem r14_regs (p:Int) (bs:List S50) (hl:bs.length≤1000000000000) (hO:∀ i:Nat,(rd_T50 bs (i:Int)).f0.length≤1000000000000) (hA:∀ q,(opOf bs q).f5.length≤1000000000):Ev (fun k=>swageref14_Regs.f k p bs) (topR p bs):=by
 have hU:∀ x:S45,x.f5.length≤1000000000→(useX x).length≤1000000000010:=fun x h=>by
  unfold useX
  simp only [List.length_append]
  repeat' split
  all_goals (simp only [List.length_cons,List.length_nil];omega)
 have l2:∀ (u:List Int) (i q:Nat) (R:Int) (hu:u.length≤1000000000010) (m j:Nat) (z:Int),j+m=u.length→Ev (fun k=>swageref14_Regs.l1 k ((u.drop j).foldl max z) (i:Int) (wrap64 ((q:Int)+1)) p bs) R→Ev (fun k=>swageref14_Regs.l2 k z (i:Int) (q:Int) u (j:Int) p bs) R:=by
  intro u i q R hu m
  induction m with
  | zero =>
   intro j z hj h
   rw [List.drop_eq_nil_of_le (by omega)] at h
   refine h.step (fun k=>?_)
   rw [swageref14_Regs.l2,if_neg (by omega)]
   rfl
  | succ m ih =>
   intro j z hj h
   have hj' : j<u.length:=by omega
   rw [List.drop_eq_getElem_cons hj',List.foldl_cons] at h
   refine (ih (j+1) (max z u[j]) (by omega) h).step (fun k=>?_)
   have hw:wrap64 ((j:Int)+1)=((j+1:Nat):Int):=by
    unfold wrap64
    omega
   rw [swageref14_Regs.l2,if_pos (by omega),if_pos (Int.natCast_nonneg j),rd_mem hj',hw,pmx_eq]
 have l3:∀ (u:List Int) (i:Nat) (R:Int) (hu:u.length≤1000000000010) (m j:Nat) (z:Int),j+m=u.length→Ev (fun k=>swageref14_Regs.l0 k ((u.drop j).foldl max z) (wrap64 ((i:Int)+1)) p bs) R→Ev (fun k=>swageref14_Regs.l3 k z (i:Int) u (j:Int) p bs) R:=by
  intro u i R hu m
  induction m with
  | zero =>
   intro j z hj h
   rw [List.drop_eq_nil_of_le (by omega)] at h
   refine h.step (fun k=>?_)
   rw [swageref14_Regs.l3,if_neg (by omega)]
   rfl
  | succ m ih =>
   intro j z hj h
   have hj' : j<u.length:=by omega
   rw [List.drop_eq_getElem_cons hj',List.foldl_cons] at h
   refine (ih (j+1) (max z u[j]) (by omega) h).step (fun k=>?_)
   have hw:wrap64 ((j:Int)+1)=((j+1:Nat):Int):=by
    unfold wrap64
    omega
   rw [swageref14_Regs.l3,if_pos (by omega),if_pos (Int.natCast_nonneg j),rd_mem hj',hw,pmx_eq]
 have l1:∀ (i:Nat) (R:Int) (hi:i<bs.length) (m j:Nat) (z:Int),j+m=(rd_T50 bs (i:Int)).f0.length→Ev (fun k=>swageref14_Regs.l0 k ((((rd_T50 bs (i:Int)).f0.drop j).flatMap opR'++tuseT (rd_T50 bs (i:Int)).f1).foldl max z) ((i+1:Nat):Int) p bs) R→Ev (fun k=>swageref14_Regs.l1 k z (i:Int) (j:Int) p bs) R:=by
  intro i R hi m
  induction m with
  | zero =>
   intro j z hj h
   rw [List.drop_eq_nil_of_le (by omega),List.flatMap_nil,List.nil_append] at h
   have h3:=l3 (tuseT (rd_T50 bs (i:Int)).f1) i R (by unfold tuseT;split<;>simp) _ 0 z (Nat.zero_add _) (by rw [List.drop_zero,nat_wrap (by omega)];exact h)
   refine Ev.step (g:=fun k=>swageref14_Regs.l3 k z (i:Int) (tuseT (rd_T50 bs (i:Int)).f1) 0 p bs) h3 (fun k=>?_)
   rw [swageref14_Regs.l1,if_pos (Int.natCast_nonneg i),if_pos (by omega),if_neg (by omega),r14_tuses,Option.bind_some]
  | succ m ih =>
   intro j z hj h
   have hj' : j<(rd_T50 bs (i:Int)).f0.length:=by omega
   have hx:(rd_T45 (rd_T50 bs (i:Int)).f0 (j:Int)).f5.length≤1000000000:=hA (i,j)
   rw [List.drop_eq_getElem_cons hj',List.flatMap_cons,← rd45' hj',List.append_assoc,List.foldl_append] at h
   have h2:=ih (j+1) _ (by omega) h
   have hO':=hO i
   have h4:=l2 (useX (rd_T45 (rd_T50 bs (i:Int)).f0 (j:Int))) i j R (hU _ hx) _ 0 (max z (setX (rd_T45 (rd_T50 bs (i:Int)).f0 (j:Int)))) (Nat.zero_add _) (by rw [List.drop_zero,nat_wrap (by omega)];exact h2)
   have hu:=r14_uses (rd_T45 (rd_T50 bs (i:Int)).f0 (j:Int)) (by omega)
   refine Ev.step (g:=fun k=>(swageref14_Uses.f k (rd_T45 (rd_T50 bs (i:Int)).f0 (j:Int)).f0 (rd_T45 (rd_T50 bs (i:Int)).f0 (j:Int)).f1 (rd_T45 (rd_T50 bs (i:Int)).f0 (j:Int)).f2 (rd_T45 (rd_T50 bs (i:Int)).f0 (j:Int)).f3 (rd_T45 (rd_T50 bs (i:Int)).f0 (j:Int)).f4 (rd_T45 (rd_T50 bs (i:Int)).f0 (j:Int)).f5).bind fun t=>swageref14_Regs.l2 k (max z (setX (rd_T45 (rd_T50 bs (i:Int)).f0 (j:Int)))) (i:Int) (j:Int) t 0 p bs) (Ev.then hu h4) (fun k=>?_)
   rw [swageref14_Regs.l1,if_pos (Int.natCast_nonneg i),if_pos (by omega),if_pos (by omega),if_pos (Int.natCast_nonneg j),r14_sets,Option.bind_some,pmx_eq]
 have l0:∀ (m i:Nat) (z:Int),i+m=bs.length→Ev (fun k=>swageref14_Regs.l0 k z (i:Int) p bs) ((allU bs m i).foldl max z):=by
  intro m
  induction m with
  | zero =>
   intro i z hi
   refine Ev.pure1 _ (fun k=>?_)
   rw [swageref14_Regs.l0,if_neg (by omega)]
   rfl
  | succ m ih =>
   intro i z hi
   have h:=ih (i+1) ((blkU bs i).foldl max z) (by omega)
   have h1:=l1 i _ (by omega) _ 0 z (Nat.zero_add _) (by rw [List.drop_zero];exact h)
   rw [show allU bs (m+1) i=blkU bs i++allU bs m (i+1) from rfl,List.foldl_append]
   refine h1.step (fun k=>?_)
   rw [swageref14_Regs.l0,if_pos (by omega)]
   rfl
 have:=l0 bs.length 0 (max p 0) (Nat.zero_add _)
 unfold swageref14_Regs.f
 rw [pmx_eq]
 exact this
theorem mem_allU (bs:List S50):∀ m i j r,i≤j→j<i+m→r∈blkU bs j→r∈allU bs m i
 | 0,i,j,r,h1,h2,_=>absurd h2 (by omega)
 | m+1,i,j,r,h1,h2,h=>by
  unfold allU
  by_cases e:j=i
  ·subst e;exact List.mem_append_left _ h
  ·exact List.mem_append_right _ (mem_allU bs m (i+1) j r (by omega) (by omega) h)
theorem topR_nonneg (p:Int) (bs:List S50):0≤topR p bs:=by
 have:=foldl_ge (allU bs bs.length 0) (max p 0)
 unfold topR
 omega
theorem live_top {p:Int} {bs:List S50} {fn:Int} (h:RightP p bs fn) {r:Int} {i k:Nat} (ha:Lv.At (gOf bs) r i k):r≤topR p bs:=by
 refine Lv.at_some (g:=gOf bs) (Q:=fun r=>r≤topR p bs) (fun i k r hr=>?_) (fun i r hr=>?_) ha
 ·have hr:r∈useX (opOf bs (i,k)):=hr
  by_cases hq:i<bs.length∧k<opLen bs i
  ·refine foldl_mem _ _ _ (mem_allU bs bs.length 0 i r (Nat.zero_le _) (by omega) (List.mem_append_left _ (List.mem_flatMap.2 ⟨opOf bs (i,k),?_,List.mem_cons_of_mem _ hr⟩)))
   have h2:k<(rd_T50 bs (i:Int)).f0.length:=hq.2
   rw [show opOf bs (i,k)=(rd_T50 bs (i:Int)).f0[k] from rd45' h2]
   exact List.getElem_mem h2
  ·rw [opOf_far hq] at hr
   cases hr
 ·have hr:r∈tuseT (rd_T50 bs (i:Int)).f1:=hr
  by_cases hi:i<bs.length
  ·exact foldl_mem _ _ _ (mem_allU bs bs.length 0 i r (Nat.zero_le _) (by omega) (List.mem_append_right _ hr))
  ·have e:rd_T50 bs (i:Int)=z50:=by
    unfold rd_T50
    rw [List.getD_eq_getElem?_getD,Int.toNat_natCast,List.getElem?_eq_none (by omega)]
    rfl
   rw [e] at hr
   cases hr
/-! ### What swageref17.reads looks for,plain -/
/-- Goes over operations: a use,or a set,or neither. -/
def scan (r:Int):List S45→Option Bool
 | []=>none
 | x::l=>if r∈useX x then some true else if setX x=r then some false else scan r l
def opsFrom (bs:List S50) (i k:Nat):List S45:=(rd_T50 bs (i:Int)).f0.drop k
theorem opsFrom_cons {bs:List S50} {i k:Nat} (h:k<opLen bs i):opsFrom bs i k=opOf bs (i,k)::opsFrom bs i (k+1):=by
 have h2:k<(rd_T50 bs (i:Int)).f0.length:=h
 unfold opsFrom
 rw [List.drop_eq_getElem_cons h2,← rd45' h2]
 rfl
theorem opsFrom_nil (bs:List S50) (i:Nat):opsFrom bs i (opLen bs i)=[]:=List.drop_eq_nil_of_le (Nat.le_refl _)
theorem scan_use {bs:List S50} {r:Int} {i:Nat} : ∀ n k,opLen bs i=k+n→scan r (opsFrom bs i k)=some true→Lv.At (gOf bs) r i k
 | 0,k,hk,h=>by
  have e:k=opLen bs i:=by omega
  rw [e,opsFrom_nil] at h
  cases h
 | n+1,k,hk,h=>by
  have hlt:k<opLen bs i:=by omega
  rw [opsFrom_cons hlt,scan] at h
  by_cases hu:r∈useX (opOf bs (i,k))
  ·exact .use hlt hu
  ·rw [if_neg hu] at h
   by_cases hs:setX (opOf bs (i,k))=r
   ·rw [if_pos hs] at h
    cases h
   ·rw [if_neg hs] at h
    exact .step hlt (fun e=>hs e.symm) (scan_use n (k+1) (by omega) h)
theorem scan_pass {bs:List S50} {r:Int} {i:Nat} (he:Lv.At (gOf bs) r i (opLen bs i)):∀ n k,opLen bs i=k+n→scan r (opsFrom bs i k)=none→Lv.At (gOf bs) r i k
 | 0,k,hk,h=>by
  have e:k=opLen bs i:=by omega
  rw [e]
  exact he
 | n+1,k,hk,h=>by
  have hlt:k<opLen bs i:=by omega
  rw [opsFrom_cons hlt,scan] at h
  by_cases hu:r∈useX (opOf bs (i,k))
  ·rw [if_pos hu] at h
   cases h
  ·rw [if_neg hu] at h
   by_cases hs:setX (opOf bs (i,k))=r
   ·rw [if_pos hs] at h
    cases h
   ·rw [if_neg hs] at h
    exact .step hlt (fun e=>hs e.symm) (scan_pass he n (k+1) (by omega) h)
def met (M:List Bool) (t:Nat):Bool:=M.getD t false
/-- Nothing is found from here on,but behind blocks that are met. -/
def Loc (bs:List S50) (r:Int) (M:List Bool) (i k:Nat):Prop :=
 scan r (opsFrom bs i k)=some false∨(scan r (opsFrom bs i k)=none∧r∉tuseT (rd_T50 bs (i:Int)).f1∧∀ t:Nat,(t:Int)∈succT (rd_T50 bs (i:Int)).f1→met M t=true)
theorem Loc.mono {bs:List S50} {r:Int} {M M' : List Bool} {i k:Nat} (h:Loc bs r M i k) (hm:∀ t,met M t=true→met M' t=true):Loc bs r M' i k:=by
 rcases h with h|⟨h1,h2,h3⟩
 ·exact .inl h
 ·exact .inr ⟨h1,h2,fun t ht=>hm t (h3 t ht)⟩
theorem Loc.none_ {bs:List S50} {r:Int} {M:List Bool} (hc:∀ j,met M j=true→Loc bs r M j 0) {i k:Nat} (ha:Lv.At (gOf bs) r i k):¬ Loc bs r M i k:=by
 induction ha with
 | @use i k hlt hu =>
  have hlt:k<opLen bs i:=hlt
  have hu:r∈useX (opOf bs (i,k)):=hu
  rintro (h|⟨h,_,_⟩)
  all_goals
   rw [opsFrom_cons hlt,scan,if_pos hu] at h
   cases h
 | @step i k hlt hs _ ih =>
  have hlt:k<opLen bs i:=hlt
  have hs:r≠setX (opOf bs (i,k)):=hs
  intro h
  refine ih ?_
  rcases h with h|⟨h,h2⟩
  ·rw [opsFrom_cons hlt,scan] at h
   by_cases hu:r∈useX (opOf bs (i,k))
   ·rw [if_pos hu] at h
    cases h
   ·rw [if_neg hu,if_neg (fun e=>hs e.symm)] at h
    exact .inl h
  ·rw [opsFrom_cons hlt,scan] at h
   by_cases hu:r∈useX (opOf bs (i,k))
   ·rw [if_pos hu] at h
    cases h
   ·rw [if_neg hu,if_neg (fun e=>hs e.symm)] at h
    exact .inr ⟨h,h2⟩
 | @tuse i hu =>
  have hu:r∈tuseT (rd_T50 bs (i:Int)).f1:=hu
  rintro (h|⟨_,h,_⟩)
  ·rw [show (gOf bs).len i=opLen bs i from rfl,opsFrom_nil] at h
   cases h
  ·exact h hu
 | @jump i j hj _ ih =>
  have hj:(j:Int)∈succT (rd_T50 bs (i:Int)).f1:=hj
  rintro (h|⟨_,_,h⟩)
  ·rw [show (gOf bs).len i=opLen bs i from rfl,opsFrom_nil] at h
   cases h
  ·exact ih (hc j (h j hj))
/-- What a call of reads tells. -/
structure RdQ (bs:List S50) (r:Int) (i k:Nat) (M:List Bool) (b:Bool) (M' : List Bool):Prop where mk ::
 len:M'.length=M.length
 more:∀ t,met M t=true→met M' t=true
 yes:b=true→Lv.At (gOf bs) r i k
 no:b=false→Loc bs r M' i k∧∀ j,met M' j=true→met M j=false→Loc bs r M' j 0
/-- How many are not met. -/
def left (M:List Bool):Nat:=M.count false
theorem met_set (M:List Bool) (t u:Nat) (h:t<M.length):met (M.set t true) u=if u=t then true else met M u:=by
 unfold met
 rw [List.getD_eq_getElem?_getD,List.getD_eq_getElem?_getD,List.getElem?_set]
 by_cases e:t=u
 ·subst e
  rw [if_pos rfl,if_pos rfl,if_pos h]
  rfl
 ·rw [if_neg e,if_neg (fun e2=>e e2.symm)]
theorem left_set:∀ (M:List Bool) (t:Nat),t<M.length→met M t=false→left (M.set t true)+1=left M
 | [],t,h,_=>absurd h (Nat.not_lt_zero _)
 | b::M,0,_,hm=>by
  have hm:b=false:=hm
  subst hm
  unfold left
  simp
 | b::M,t+1,h,hm=>by
  have ih:=left_set M t (by simpa using h) hm
  unfold left at ih ⊢
  rw [List.set_cons_succ,List.count_cons,List.count_cons]
  omega
theorem reads_all {bs:List S50} {r:Int} {n i k:Nat} {M' : List Bool} {b:Bool} (h:RdQ bs r i k (List.replicate n false) b M'):b=true↔Lv.At (gOf bs) r i k:=by
 constructor
 ·exact h.yes
 ·intro ha
  cases b with
  | true=>rfl
  | false =>
   obtain ⟨h1,h2⟩:=h.no rfl
   have hn:∀ j,met (List.replicate n false) j=false:=fun j=>by
    unfold met
    rw [List.getD_eq_getElem?_getD,List.getElem?_replicate]
    split<;>rfl
   exact absurd h1 (Loc.none_ (fun j hj=>h2 j hj (hn j)) ha)
