import Derived.Test.YtnkgbnbbmcoiiaaGreatBk
import Derived.Test.YtnkgbnbbmcoiiaaGreatS3
namespace Go.Proofs.YtnkgbnbbmcoiiaaGreat.S
open Go.RowKit Go.Proofs.YtnkgbnbbmcoiiaaGreatW.PrintWords Go.Proofs.YtnkgbnbbmcoiiaaGreatW.PrintLast Go.Proofs.YtnkgbnbbmcoiiaaGreatW.PrintMore
set_option linter.unusedVariables false
set_option linter.unusedSimpArgs false
def wi (a b c:Int):Bool:=decide (b≤a∧a≤c)
theorem within_eq (a b c:Int):code_within.f a b c=some (wi a b c):=by
 unfold code_within.f wi
 by_cases h:a ≥ b
 ·rw [if_pos h]
  by_cases h2:a≤c<;>simp [h2]<;>omega
 ·rw [if_neg h]
  simp
  omega
theorem within_any (a b c:Int) (w:World):Calls Tryz.prog 71 #[.int .i64 a,.int .i64 b,.int .i64 c] w fun e w'=>e=.returned (.bool (wi a b c))∧Below w.heap.size w w' :=
 (code_within.calls a b c _ w (within_eq a b c)).mono fun e w' h=>⟨h.1,h.2.below⟩
theorem reg_any (a:Int) (w:World):Calls Tryz.prog 96 #[.int .i64 a] w fun e w'=>e=.returned (.bool (wi a 1 4096))∧Below w.heap.size w w' :=
 (code_reg.calls a _ w (by unfold code_reg.f;rw [within_eq];rfl)).mono fun e w' h=>⟨h.1,h.2.below⟩
set_option maxHeartbeats 4000000 in
set_option maxRecDepth 100000 in
theorem block_any (n b:Int) (p:Addr) (w:World) (hp:w.cell? p=some (.int .i64 b)):Calls Tryz.prog 95 #[.int .i64 n,.pointer (some p)] w fun e w'=>e=.returned (.bool (wi n 0 (wrap64 (b - 1))))∧Below w.heap.size w w':=by
 go_enter Tryz.func95,Tryz.ntmps95
 go_wp2_with (go_at_call 71;refine (within_any _ _ _ _).mono ?_;rintro e w1 ⟨rfl,hb⟩)
 go_ret
 exact ⟨rfl,hb⟩
/-- Which Terms are right,among so many blocks. -/
def rtT (k a t e b:Int):Bool :=
 if k=1 then wi t 0 (wrap64 (b - 1)) && (a == 0 && e == 0)
 else if k=2 then wi t 0 (wrap64 (b - 1)) && wi e 0 (wrap64 (b - 1)) && wi a 1 4096
 else if k=3 then wi a 1 4096 && (t == 0 && e == 0)
 else if k=4 then wi t 1 15 && (a == 0 && e == 0)
 else false
theorem eqA48 (d:Nat) (w:World) (x0 y0:Int) (x1 y1:Int) (x2 y2:Int) (x3 y3:Int) :
  (Op.equalIn (d+2) 48 (.agg #[.int .i64 x0,.int .i64 x1,.int .i64 x2,.int .i64 x3]) (.agg #[.int .i64 y0,.int .i64 y1,.int .i64 y2,.int .i64 y3])).run Tryz.prog w=.ok (x0 == y0 && (x1 == y1 && (x2 == y2 && (x3 == y3)))) w:=by
 refine eqA_of Tryz.underlying48 (by kernel_rfl) ?_
 refine eqf_cons (by rfl) (by go_simp;rfl) (by go_simp;rfl) (by go_simp) ?_
 refine eqf_cons (by rfl) (by go_simp;rfl) (by go_simp;rfl) (by go_simp) ?_
 refine eqf_cons (by rfl) (by go_simp;rfl) (by go_simp;rfl) (by go_simp) ?_
 exact eqf_last (by rfl) (by go_simp;rfl) (by go_simp;rfl) (by go_simp)
attribute [local go_sem high] eqA48
set_option maxHeartbeats 8000000 in
set_option maxRecDepth 100000 in
theorem rightTerm_any (k a t e b:Int) (w:World):Calls Tryz.prog 74 #[.agg #[.int .i64 k,.int .i64 a,.int .i64 t,.int .i64 e],.int .i64 b] w fun r w'=>r=.returned (.bool (rtT k a t e b))∧Below w.heap.size w w':=by
 have hu41:=Tryz.underlying48
 obtain ⟨W1,hW1⟩:∃ W1,(w.alloc (.cells #[.int .i64 k,.int .i64 a,.int .i64 t,.int .i64 e] 48)).alloc (.cells #[.int .i64 b] 3)=W1:=⟨_,rfl⟩
 have hb1:Below w.heap.size w W1:=by rw [← hW1];exact below_alloc (below_alloc (Below.refl _ _) _) _
 have hx0:=blk_alloc (blk_new w (.cells #[.int .i64 k,.int .i64 a,.int .i64 t,.int .i64 e] 48)) (.cells #[.int .i64 b] 3)
 have hx1:=blk_new (w.alloc (.cells #[.int .i64 k,.int .i64 a,.int .i64 t,.int .i64 e] 48)) (.cells #[.int .i64 b] 3)
 rw [World.size_alloc] at hx1
 rw [hW1] at hx0 hx1
 have HB1:=ak_ hb1
 have HX0:=ak_ hx0
 have HX1:=ak_ hx1
 have HW1:=ak_ hW1
 have hp0:=blk_cell hx1 0
 simp only [List.getElem?_toArray,List.getElem?_cons_zero] at hp0
 rw [← hW1] at hp0
 have HP0:=ak_ hp0
 clear hp0
 clear hb1 hx0 hx1 hW1
 obtain ⟨v1,hv1⟩:∃ v,wi t 0 (wrap64 (b - 1))=v:=⟨_,rfl⟩
 obtain ⟨v2,hv2⟩:∃ v,wi e 0 (wrap64 (b - 1))=v:=⟨_,rfl⟩
 obtain ⟨v3,hv3⟩:∃ v,wi a 1 4096=v:=⟨_,rfl⟩
 obtain ⟨v4,hv4⟩:∃ v,wi t 1 15=v:=⟨_,rfl⟩
 have hR:∃ r,rtT k a t e b=r:=⟨_,rfl⟩
 obtain ⟨r,hr⟩:=hR
 rw [hr]
 unfold rtT at hr
 rw [hv1,hv2,hv3,hv4] at hr
 have HR:=ak_ hr
 have V1:=ak_ hv1
 have V2:=ak_ hv2
 have V3:=ak_ hv3
 have V4:=ak_ hv4
 clear hr hv1 hv2 hv3 hv4
 by_cases k1:k=1
 ·have q1:(k == 1)=true:=beq_iff_eq.2 k1
  have hr:=HR.out
  rw [if_pos k1] at hr
  clear k1 HR
  cases v1 with
  | false =>
   rw [Bool.false_and] at hr
   subst hr
   go_enter Tryz.func74,Tryz.ntmps74
   go_wp2_with (go_at_call 95;refine (block_any _ _ _ _ HP0.out).mono ?_;rintro e_ w2 ⟨rfl,hb⟩;rw [V1.out];have hb':=hb;rw [HW1.out] at hb';have HY0:=ak_ (blk_below HX0.out hb');have HY1:=ak_ (blk_below HX1.out hb');have HB2:=ak_ (below_then HB1.out HB1.out.size hb');clear hb hb';have c0:=bc_ HY0 0;have c1:=bc_ HY0 1;have c2:=bc_ HY0 2;have c3:=bc_ HY0 3;have d0:=bc_ HY1 0;simp only [ga_,gb_,gc_] at c0 c1 c2 c3 d0)
   go_ret
   exact ⟨rfl,HB2.out⟩
  | true =>
   rw [Bool.true_and] at hr
   subst hr
   go_enter Tryz.func74,Tryz.ntmps74
   go_wp2_with (go_at_call 95;refine (block_any _ _ _ _ HP0.out).mono ?_;rintro e_ w2 ⟨rfl,hb⟩;rw [V1.out];have hb':=hb;rw [HW1.out] at hb';have HY0:=ak_ (blk_below HX0.out hb');have HY1:=ak_ (blk_below HX1.out hb');have HB2:=ak_ (below_then HB1.out HB1.out.size hb');clear hb hb';have c0:=bc_ HY0 0;have c1:=bc_ HY0 1;have c2:=bc_ HY0 2;have c3:=bc_ HY0 3;have d0:=bc_ HY1 0;simp only [ga_,gb_,gc_] at c0 c1 c2 c3 d0)
   go_ret
   exact ⟨by first|rfl|simp,HB2.out⟩
 ·have q1:(k == 1)=false:=beq_eq_false_iff_ne.2 k1
  by_cases k2:k=2
  ·have q2:(k == 2)=true:=beq_iff_eq.2 k2
   have hr:=HR.out
   rw [if_neg k1,if_pos k2] at hr
   clear k1 k2 HR
   cases v1 with
   | false =>
    rw [Bool.false_and,Bool.false_and] at hr
    subst hr
    go_enter Tryz.func74,Tryz.ntmps74
    go_wp2_with (go_at_call 95;refine (block_any _ _ _ _ HP0.out).mono ?_;rintro e_ w2 ⟨rfl,hb⟩;rw [V1.out];have hb':=hb;rw [HW1.out] at hb';have HY0:=ak_ (blk_below HX0.out hb');have HY1:=ak_ (blk_below HX1.out hb');have HB2:=ak_ (below_then HB1.out HB1.out.size hb');clear hb hb';have c0:=bc_ HY0 0;have c1:=bc_ HY0 1;have c2:=bc_ HY0 2;have c3:=bc_ HY0 3;have d0:=bc_ HY1 0;simp only [ga_,gb_,gc_] at c0 c1 c2 c3 d0;have HD0:=ak_ d0)
    go_ret
    exact ⟨rfl,HB2.out⟩
   | true =>
    cases v2 with
    | false =>
     rw [Bool.and_false,Bool.false_and] at hr
     subst hr
     go_enter Tryz.func74,Tryz.ntmps74
     go_wp2_with (first|(go_at_call 95;have hz:=HY1;clear hz;refine (block_any _ _ _ _ HD0.out).mono ?_;rintro e_ w3 ⟨rfl,hb⟩;rw [V2.out];have HZ0:=ak_ (blk_below HY0.out hb);have HB3:=ak_ (below_then HB2.out HB2.out.size hb);clear hb c0 c1 c2 c3 d0;have c1:=bc_ HZ0 1;simp only [ga_,gb_,gc_] at c1)|(go_at_call 95;refine (block_any _ _ _ _ HP0.out).mono ?_;rintro e_ w2 ⟨rfl,hb⟩;rw [V1.out];have hb':=hb;rw [HW1.out] at hb';have HY0:=ak_ (blk_below HX0.out hb');have HY1:=ak_ (blk_below HX1.out hb');have HB2:=ak_ (below_then HB1.out HB1.out.size hb');clear hb hb';have c0:=bc_ HY0 0;have c1:=bc_ HY0 1;have c2:=bc_ HY0 2;have c3:=bc_ HY0 3;have d0:=bc_ HY1 0;simp only [ga_,gb_,gc_] at c0 c1 c2 c3 d0;have HD0:=ak_ d0))
     go_ret
     exact ⟨rfl,HB3.out⟩
    | true =>
     rw [Bool.and_self,Bool.true_and] at hr
     subst hr
     go_enter Tryz.func74,Tryz.ntmps74
     go_wp2_with (first|(go_at_call 95;have hz:=HY1;clear hz;refine (block_any _ _ _ _ HD0.out).mono ?_;rintro e_ w3 ⟨rfl,hb⟩;rw [V2.out];have HZ0:=ak_ (blk_below HY0.out hb);have HB3:=ak_ (below_then HB2.out HB2.out.size hb);clear hb c0 c1 c2 c3 d0;have c1:=bc_ HZ0 1;simp only [ga_,gb_,gc_] at c1)|(go_at_call 95;refine (block_any _ _ _ _ HP0.out).mono ?_;rintro e_ w2 ⟨rfl,hb⟩;rw [V1.out];have hb':=hb;rw [HW1.out] at hb';have HY0:=ak_ (blk_below HX0.out hb');have HY1:=ak_ (blk_below HX1.out hb');have HB2:=ak_ (below_then HB1.out HB1.out.size hb');clear hb hb';have c0:=bc_ HY0 0;have c1:=bc_ HY0 1;have c2:=bc_ HY0 2;have c3:=bc_ HY0 3;have d0:=bc_ HY1 0;simp only [ga_,gb_,gc_] at c0 c1 c2 c3 d0;have HD0:=ak_ d0)|(go_at_call 96;refine (reg_any _ _).mono ?_;rintro e_ w4 ⟨rfl,hb⟩;rw [V3.out];have HB4:=ak_ (below_then HB3.out HB3.out.size hb);clear hb))
     go_ret
     exact ⟨rfl,HB4.out⟩
  ·have q2:(k == 2)=false:=beq_eq_false_iff_ne.2 k2
   by_cases k3:k=3
   ·have q3:(k == 3)=true:=beq_iff_eq.2 k3
    have hr:=HR.out
    rw [if_neg k1,if_neg k2,if_pos k3] at hr
    clear k1 k2 k3
    clear HR
    cases v3 with
    | false =>
     rw [Bool.false_and] at hr
     subst hr
     go_enter Tryz.func74,Tryz.ntmps74
     go_wp2_with (go_at_call 96;refine (reg_any _ _).mono ?_;rintro e_ w2 ⟨rfl,hb⟩;rw [V3.out];have hb':=hb;rw [HW1.out] at hb';have HY0:=ak_ (blk_below HX0.out hb');have HY1:=ak_ (blk_below HX1.out hb');have HB2:=ak_ (below_then HB1.out HB1.out.size hb');clear hb hb';have c0:=bc_ HY0 0;have c1:=bc_ HY0 1;have c2:=bc_ HY0 2;have c3:=bc_ HY0 3;have d0:=bc_ HY1 0;simp only [ga_,gb_,gc_] at c0 c1 c2 c3 d0;have HD0:=ak_ d0)
     go_ret
     exact ⟨rfl,HB2.out⟩
    | true =>
     rw [Bool.true_and] at hr
     subst hr
     go_enter Tryz.func74,Tryz.ntmps74
     go_wp2_with (go_at_call 96;refine (reg_any _ _).mono ?_;rintro e_ w2 ⟨rfl,hb⟩;rw [V3.out];have hb':=hb;rw [HW1.out] at hb';have HY0:=ak_ (blk_below HX0.out hb');have HY1:=ak_ (blk_below HX1.out hb');have HB2:=ak_ (below_then HB1.out HB1.out.size hb');clear hb hb';have c0:=bc_ HY0 0;have c1:=bc_ HY0 1;have c2:=bc_ HY0 2;have c3:=bc_ HY0 3;have d0:=bc_ HY1 0;simp only [ga_,gb_,gc_] at c0 c1 c2 c3 d0;have HD0:=ak_ d0)
     go_ret
     exact ⟨by first|rfl|simp,HB2.out⟩
   ·have q3:(k == 3)=false:=beq_eq_false_iff_ne.2 k3
    by_cases k4:k=4
    ·have q4:(k == 4)=true:=beq_iff_eq.2 k4
     have hr:=HR.out
     rw [if_neg k1,if_neg k2,if_neg k3,if_pos k4] at hr
     clear k1 k2 k3 k4
     clear HR
     cases v4 with
     | false =>
      rw [Bool.false_and] at hr
      subst hr
      go_enter Tryz.func74,Tryz.ntmps74
      go_wp2_with (go_at_call 71;refine (within_any _ _ _ _).mono ?_;rintro e_ w2 ⟨rfl,hb⟩;rw [V4.out];have hb':=hb;rw [HW1.out] at hb';have HY0:=ak_ (blk_below HX0.out hb');have HY1:=ak_ (blk_below HX1.out hb');have HB2:=ak_ (below_then HB1.out HB1.out.size hb');clear hb hb';have c0:=bc_ HY0 0;have c1:=bc_ HY0 1;have c2:=bc_ HY0 2;have c3:=bc_ HY0 3;have d0:=bc_ HY1 0;simp only [ga_,gb_,gc_] at c0 c1 c2 c3 d0;have HD0:=ak_ d0)
      go_ret
      exact ⟨rfl,HB2.out⟩
     | true =>
      rw [Bool.true_and] at hr
      subst hr
      go_enter Tryz.func74,Tryz.ntmps74
      go_wp2_with (go_at_call 71;refine (within_any _ _ _ _).mono ?_;rintro e_ w2 ⟨rfl,hb⟩;rw [V4.out];have hb':=hb;rw [HW1.out] at hb';have HY0:=ak_ (blk_below HX0.out hb');have HY1:=ak_ (blk_below HX1.out hb');have HB2:=ak_ (below_then HB1.out HB1.out.size hb');clear hb hb';have c0:=bc_ HY0 0;have c1:=bc_ HY0 1;have c2:=bc_ HY0 2;have c3:=bc_ HY0 3;have d0:=bc_ HY1 0;simp only [ga_,gb_,gc_] at c0 c1 c2 c3 d0;have HD0:=ak_ d0)
      go_ret
      exact ⟨by first|rfl|simp,HB2.out⟩
    ·have q4:(k == 4)=false:=beq_eq_false_iff_ne.2 k4
     have hr:=HR.out
     rw [if_neg k1,if_neg k2,if_neg k3,if_neg k4] at hr
     clear k1 k2 k3 k4 HR
     subst hr
     go_enter Tryz.func74,Tryz.ntmps74
     go_wp2_with fail
     go_ret
     exact ⟨rfl,by rw [HW1.out];exact HB1.out⟩
end Go.Proofs.YtnkgbnbbmcoiiaaGreat.S
namespace Go.Proofs.YtnkgbnbbmcoiiaaGreat.S
open Go.RowKit Go.Proofs.YtnkgbnbbmcoiiaaGreatW.PrintWords Go.Proofs.YtnkgbnbbmcoiiaaGreatW.PrintLast Go.Proofs.YtnkgbnbbmcoiiaaGreatW.PrintMore
set_option linter.unusedVariables false
set_option linter.unusedSimpArgs false
set_option maxHeartbeats 4000000 in
set_option maxRecDepth 100000 in
/-- Right's closure over blocks: is a block's Term not right? -/
theorem rblock_any (B:Option Addr) (m c:Nat) (k a t e:Int) (p:Addr) (A:Option Addr) (n c' : Nat) (w:World) (hp:w.cell? ⟨p.block,p.off+1,none⟩=some (.slice A n c')) :
  Calls Tryz.prog 73 #[.agg #[.slice B m c,.int .i64 k,.int .i64 a,.int .i64 t,.int .i64 e],.pointer (some p)] w fun r w'=>r=.returned (.bool (!rtT k a t e (n:Int)))∧Below w.heap.size w w':=by
 have hu41:=Tryz.underlying48
 have hu43:=Tryz.underlying50
 have hu34:=Tryz.underlying24
 have HB0:=ak_ (below_alloc (Below.refl w.heap.size w) (.cells #[.slice B m c,.int .i64 k,.int .i64 a,.int .i64 t,.int .i64 e] 50))
 have hq:=pw_cell_below HB0.out hp
 go_enter Tryz.func73,Tryz.ntmps73
 go_wp2_with (go_at_call 74;refine (rightTerm_any k a t e (n:Int) _).mono ?_;rintro r w1 ⟨rfl,hb⟩;have HB1:=ak_ (below_then HB0.out HB0.out.size hb);clear hb)
 go_ret
 exact ⟨rfl,HB1.out⟩
theorem getD_43 {l:List S50} {j:Nat} (h:j<l.length):rd_T50 l (j:Int)∈l∧l.take (j+1)=l.take j++[rd_T50 l (j:Int)]:=by
 have e:rd_T50 l (j:Int)=l[j]:=by unfold rd_T50;simp [List.getD_eq_getElem?_getD,h]
 rw [e]
 exact ⟨List.getElem_mem h,List.take_succ_eq_append_getElem h⟩
def IdxB (n0:Nat) (l:List S50) (n:Int):Prop:=(n=-1∧∀ x∈l,rtT x.f1.f0 x.f1.f1 x.f1.f2 x.f1.f3 (n0:Int)=true)∨(0≤n∧∃ x∈l,rtT x.f1.f0 x.f1.f1 x.f1.f2 x.f1.f3 (n0:Int)=false)
def IdxBP (n0:Nat) (l:List S50) (w:World) (e:Ending) (w' : World):Prop:=∃ n:Int,e=.returned (.int .i64 n)∧IdxB n0 l n∧Below w.heap.size w w'
set_option maxHeartbeats 4000000 in
set_option maxRecDepth 100000 in
theorem indexB_any (A:Option Addr) (c:Nat) (l:List S50) (p:Addr) (A0:Option Addr) (n0 c0:Nat) (w:World) (hC:Kd.C k50 w A l.length l) (hp:w.cell? ⟨p.block,p.off+1,none⟩=some (.slice A0 n0 c0)) :
  Calls Tryz.prog 94 #[.slice A l.length c,.func (.func 73) #[] #[.pointer (some p)]] w (IdxBP n0 l w):=by
 have hn:l.length≤9223372036854775807:=hC.2.1
 have HC:=ak_ hC
 have HP:=ak_ hp
 have hu43:=Tryz.underlying50
 clear hC hp
 go_enter Tryz.func94,Tryz.ntmps94
 go_wp2_with fail
 go_loopw [8] (fun i wr=>∃ j:Nat,j≤l.length∧i=.int .i64 j∧Aside0 (∀ x∈l.take j,rtT x.f1.f0 x.f1.f1 x.f1.f2 x.f1.f3 (n0:Int)=true)∧Aside0 (Below w.heap.size w wr)) (fun i _=>l.length - (intOf i).toNat)
 case atStart=>exact ⟨0,Nat.zero_le _,rfl,⟨by simp⟩,⟨Below.refl _ _⟩⟩
 case round =>
  obtain ⟨j,hj,rfl,HT,HB⟩:=hrel
  by_cases hlt:j<l.length
  ·have b1:decide ((j:Int)<(l.length:Int))=true:=decide_eq_true (by omega)
   obtain ⟨ad,B0,d0,eA,k0,k1,k2,k3,k4,_,_⟩:=at_T50 (Kd.C_below HC.out HB.out) (j:Int) (by omega) (by omega)
   simp only [Int.toNat_natCast] at k0 k1 k2 k3 k4
   have HM:=ak_ (getD_43 hlt)
   generalize rd_T50 l (j:Int)=x at k0 k1 k2 k3 k4 HM
   subst eA
   have hcall:=rblock_any B0 x.f0.length d0 x.f1.f0 x.f1.f1 x.f1.f2 x.f1.f3 p A0 n0 c0 wr (pw_cell_below HB.out HP.out)
   generalize hb:rtT x.f1.f0 x.f1.f1 x.f1.f2 x.f1.f3 (n0:Int)=b at hcall
   have HBX:=ak_ hb
   have HCA:=ak_ hcall
   clear hb hcall
   cases b with
   | true =>
    go_wp2_with (go_at_call 73;refine HCA.out.mono ?_;rintro e w1 ⟨rfl,hb⟩)
    go_roundw
    case rel=>exact ⟨j+1,by omega,by go_num,⟨by
     rw [HM.out.2]
     intro y hy
     rcases List.mem_append.1 hy with hy|hy
     ·exact HT.out y hy
     ·rw [List.mem_singleton.1 hy];exact HBX.out⟩,⟨below_then HB.out HB.out.size hb⟩⟩
    case measure=>simp [intOf];omega
   | false =>
    go_wp2_with (go_at_call 73;refine HCA.out.mono ?_;rintro e w1 ⟨rfl,hb⟩)
    go_ret
    exact ⟨j,rfl,.inr ⟨by omega,x,HM.out.1,HBX.out⟩,below_then HB.out HB.out.size hb⟩
  ·have b1:decide ((j:Int)<(l.length:Int))=false:=decide_eq_false (by omega)
   obtain rfl:j=l.length:=by omega
   go_wp2_with fail
   go_ret
   exact ⟨-1,rfl,.inl ⟨rfl,by have:=HT.out;rwa [List.take_length] at this⟩,HB.out⟩
set_option maxHeartbeats 4000000 in
set_option maxRecDepth 100000 in
/-- slices.ContainsFunc over blocks: is one's Term not right? -/
theorem containsB_any (A:Option Addr) (c:Nat) (l:List S50) (p:Addr) (A0:Option Addr) (n0 c0:Nat) (w:World) (hC:Kd.C k50 w A l.length l) (hp:w.cell? ⟨p.block,p.off+1,none⟩=some (.slice A0 n0 c0)) :
  Calls Tryz.prog 72 #[.slice A l.length c,.func (.func 73) #[] #[.pointer (some p)]] w fun e w'=>e=.returned (.bool (!(l.all fun x=>rtT x.f1.f0 x.f1.f1 x.f1.f2 x.f1.f3 (n0:Int))))∧Below w.heap.size w w':=by
 have HCA:=ak_ (indexB_any A c l p A0 n0 c0 w hC hp)
 clear hC hp
 go_enter Tryz.func72,Tryz.ntmps72
 go_wp2_with (go_at_call 94;refine HCA.out.mono ?_;rintro e w1 ⟨n,rfl,hn,hb⟩;have HN:=ak_ hn;clear hn)
 go_ret
 refine ⟨?_,hb⟩
 rcases HN.out with ⟨rfl,h⟩|⟨h0,x,hx,h⟩
 ·rw [List.all_eq_true.2 h];rfl
 ·have e:(l.all fun x=>rtT x.f1.f0 x.f1.f1 x.f1.f2 x.f1.f3 (n0:Int))=false:=by rw [List.all_eq_false];exact ⟨x,hx,by simp [h]⟩
  rw [e]
  simp [h0]
theorem at_int {w:World} {A:Option Addr} {n:Nat} {xs:List Int} (h:Kd.C (Kd.int .i64) w A n xs) (i:Nat) (hi:i<n):∃ ad,A=some ad∧w.cell? (ad.add i)=some (.int .i64 (xs.getD i 0)):=by
 obtain ⟨ad,c,e,_,hK,hc⟩:=Kd.C_get h 0 (i:Int) (by omega) (by omega)
 have hk:c=[.int .i64 (xs.getD i 0)]:=by simpa [Kd.int,Kd.scalar] using hK
 have:=hc 0 (.int .i64 (xs.getD i 0)) (by rw [hk];rfl)
 refine ⟨ad,e,?_⟩
 simpa [Kd.int,Kd.scalar] using this
def isReg (n:Int):Bool:=wi n 1 4096
set_option maxHeartbeats 4000000 in
set_option maxRecDepth 100000 in
theorem arg1_any (n:Int) (w:World):Calls Tryz.prog 101 #[.int .i64 n] w fun e w'=>e=.returned (.bool (!isReg n))∧Below w.heap.size w w':=by
 go_enter Tryz.func101,Tryz.ntmps101
 go_wp2_with (go_at_call 96;refine (reg_any _ _).mono ?_;rintro e w1 ⟨rfl,hb⟩)
 go_ret
 exact ⟨rfl,hb⟩
def IdxI (l:List Int) (n:Int):Prop:=(n=-1∧∀ x∈l,isReg x=true)∨(0≤n∧∃ x∈l,isReg x=false)
def IdxIP (l:List Int) (w:World) (e:Ending) (w' : World):Prop:=∃ n:Int,e=.returned (.int .i64 n)∧IdxI l n∧Below w.heap.size w w'
theorem getD_int {l:List Int} {j:Nat} (h:j<l.length):l.getD j 0∈l∧l.take (j+1)=l.take j++[l.getD j 0]:=by
 have e:l.getD j 0=l[j]:=by simp [List.getD_eq_getElem?_getD,h]
 rw [e]
 exact ⟨List.getElem_mem h,List.take_succ_eq_append_getElem h⟩
set_option maxHeartbeats 4000000 in
set_option maxRecDepth 100000 in
theorem indexI_any (A:Option Addr) (c:Nat) (l:List Int) (w:World) (hC:Kd.C (Kd.int .i64) w A l.length l) :
  Calls Tryz.prog 121 #[.slice A l.length c,.func (.func 101) #[] #[]] w (IdxIP l w):=by
 have hn:l.length≤9223372036854775807:=hC.2.1
 have HC:=ak_ hC
 clear hC
 go_enter Tryz.func121,Tryz.ntmps121
 go_wp2_with fail
 go_loopw [8] (fun i wr=>∃ j:Nat,j≤l.length∧i=.int .i64 j∧Aside0 (∀ x∈l.take j,isReg x=true)∧Aside0 (Below w.heap.size w wr)) (fun i _=>l.length - (intOf i).toNat)
 case atStart=>exact ⟨0,Nat.zero_le _,rfl,⟨by simp⟩,⟨Below.refl _ _⟩⟩
 case round =>
  obtain ⟨j,hj,rfl,HT,HB⟩:=hrel
  by_cases hlt:j<l.length
  ·have b1:decide ((j:Int)<(l.length:Int))=true:=decide_eq_true (by omega)
   obtain ⟨ad,eA,k0⟩:=at_int (Kd.C_below HC.out HB.out) j hlt
   have HM:=ak_ (getD_int hlt)
   generalize l.getD j 0=x at k0 HM
   subst eA
   have hcall:=arg1_any x wr
   generalize hb:isReg x=b at hcall
   have HBX:=ak_ hb
   have HCA:=ak_ hcall
   clear hb hcall
   cases b with
   | true =>
    go_wp2_with (go_at_call 101;refine HCA.out.mono ?_;rintro e w1 ⟨rfl,hb⟩)
    go_roundw
    case rel=>exact ⟨j+1,by omega,by go_num,⟨by
     rw [HM.out.2]
     intro y hy
     rcases List.mem_append.1 hy with hy|hy
     ·exact HT.out y hy
     ·rw [List.mem_singleton.1 hy];exact HBX.out⟩,⟨below_then HB.out HB.out.size hb⟩⟩
    case measure=>simp [intOf];omega
   | false =>
    go_wp2_with (go_at_call 101;refine HCA.out.mono ?_;rintro e w1 ⟨rfl,hb⟩)
    go_ret
    exact ⟨j,rfl,.inr ⟨by omega,x,HM.out.1,HBX.out⟩,below_then HB.out HB.out.size hb⟩
  ·have b1:decide ((j:Int)<(l.length:Int))=false:=decide_eq_false (by omega)
   obtain rfl:j=l.length:=by omega
   go_wp2_with fail
   go_ret
   exact ⟨-1,rfl,.inl ⟨rfl,by have:=HT.out;rwa [List.take_length] at this⟩,HB.out⟩
set_option maxHeartbeats 4000000 in
set_option maxRecDepth 100000 in
/-- slices.ContainsFunc over arguments: is one no register? -/
theorem containsI_any (A:Option Addr) (c:Nat) (l:List Int) (w:World) (hC:Kd.C (Kd.int .i64) w A l.length l) :
  Calls Tryz.prog 100 #[.slice A l.length c,.func (.func 101) #[] #[]] w fun e w'=>e=.returned (.bool (!l.all isReg))∧Below w.heap.size w w':=by
 have HCA:=ak_ (indexI_any A c l w hC)
 clear hC
 go_enter Tryz.func100,Tryz.ntmps100
 go_wp2_with (go_at_call 121;refine HCA.out.mono ?_;rintro e w1 ⟨n,rfl,hn,hb⟩;have HN:=ak_ hn;clear hn)
 go_ret
 refine ⟨?_,hb⟩
 rcases HN.out with ⟨rfl,h⟩|⟨h0,x,hx,h⟩
 ·rw [List.all_eq_true.2 h];rfl
 ·have e:l.all isReg=false:=by rw [List.all_eq_false];exact ⟨x,hx,by simp [h]⟩
  rw [e]
  simp [h0]
end Go.Proofs.YtnkgbnbbmcoiiaaGreat.S
namespace Go.Proofs.YtnkgbnbbmcoiiaaGreat.S
open Go.RowKit
set_option linter.unusedVariables false
set_option linter.unusedSimpArgs false
/-- What an operation of a Kind names: dst,a,b,imm;is it one? -/
def shp (k:Int):Bool × Bool × Bool × Bool × Bool :=
 if k=1∨k=6∨k=7 then (true,false,false,true,true) else if k=2 then (true,true,true,true,true) else if k=3 then (true,true,false,false,true) else if k=4 then (true,true,false,true,true)
 else if k=5 then (false,true,true,true,true) else if k=8 then (true,false,false,false,true) else if k=9 then (false,true,false,false,true) else (false,false,false,false,false)
theorem shapeOf_eq (k:Nat) (op:Int):code_shapeOf.f (k+1) op=some (shp op):=by
 unfold code_shapeOf.f code_shapeOf.j0 shp
 by_cases h1:op=1
 ·simp [h1]
 ·by_cases h6:op=6
  ·simp [h6]
  ·by_cases h7:op=7
   ·simp [h7]
   ·simp [h1,h6,h7]
    split<;>(try rfl)
    split<;>(try rfl)
    split<;>(try rfl)
    split<;>(try rfl)
    split<;>(try rfl)
    split<;>rfl
def fld (n:Int) (named:Bool):Bool:=if named=true then isReg n else n == 0
theorem field_eq (n:Int) (b:Bool):code_field.f n b=some (fld n b):=by
 have hr:code_reg.f n=some (isReg n):=by unfold code_reg.f;rw [within_eq];rfl
 unfold code_field.f fld
 rw [hr]
 by_cases h:n=0<;>cases b<;>simp [h]
/-- May an operation's Imm be so? (All but a Bin's.) -/
def immB (k i fn:Int) (s4:Bool):Bool :=
 if k=4∨k=5 then wi i (-2147483648) 2147483647 else if k=6 then wi i 0 1048576 else if k=7 then wi i 0 (wrap64 (fn - 1)) else s4 || i == 0
theorem immediate_eq (K:Nat) (k d a b i fn:Int) (l:List Int) (s1 s2 s3 s4:Bool):code_immediate.f (K+1) k d a b i l s1 s2 s3 s4 fn=if k=2 then word_Known.f i else some (immB k i fn s4):=by
 unfold code_immediate.f code_immediate.j0 immB
 by_cases h2:k=2
 ·rw [if_pos h2,if_pos h2]
  cases word_Known.f i<;>rfl
 ·rw [if_neg h2,if_neg h2]
  simp only [within_eq,Option.bind_some]
  by_cases h4:k=4
  ·simp [h4]
  ·by_cases h5:k=5
   ·simp [h5]
   ·by_cases h6:k=6
    ·simp [h6]
    ·by_cases h7:k=7
     ·simp [h7]
     ·cases s4<;>simp [h4,h5,h6,h7]
end Go.Proofs.YtnkgbnbbmcoiiaaGreat.S
namespace Go.Proofs.YtnkgbnbbmcoiiaaGreat.S
open Go.RowKit Go.Proofs.YtnkgbnbbmcoiiaaGreatW.PrintWords Go.Proofs.YtnkgbnbbmcoiiaaGreatW.PrintLast Go.Proofs.YtnkgbnbbmcoiiaaGreatW.PrintMore
set_option linter.unusedVariables false
set_option linter.unusedSimpArgs false
/-- Is an operation right? im: is its Imm? -/
def ropB (k d a b i:Int) (l:List Int) (im:Bool):Bool :=
 (shp k).2.2.2.2 && (fld d (shp k).1 && (fld a (shp k).2.1 && (fld b (shp k).2.2.1 && (im && (if k=7 then decide ((l.length:Int)≤8) && l.all isReg else (l.length:Int) == 0)))))
set_option maxHeartbeats 8000000 in
set_option maxRecDepth 100000 in
theorem rightOp_any (K:Nat) (k d a b i fn:Int) (A:Option Addr) (c:Nat) (l:List Int) (im:Bool) (w:World) (hC:Kd.C (Kd.int .i64) w A l.length l) (hc:l.length≤c)
  (him:code_immediate.f K k d a b i l (shp k).1 (shp k).2.1 (shp k).2.2.1 (shp k).2.2.2.1 fn=some im) :
  Calls Tryz.prog 76 #[.agg #[.int .i64 k,.int .i64 d,.int .i64 a,.int .i64 b,.int .i64 i,.slice A l.length c],.int .i64 fn] w fun e w'=>e=.returned (.bool (ropB k d a b i l im))∧Below w.heap.size w w':=by
 have hu45:=Tryz.underlying45
 have hu81:=Tryz.underlying86
 obtain ⟨r,hr⟩:∃ r,ropB k d a b i l im=r:=⟨_,rfl⟩
 rw [hr]
 unfold ropB at hr
 have hsh:=shapeOf_eq 0 k
 obtain ⟨⟨s1,s2,s3,s4,s5⟩,hs⟩:∃ s,shp k=s:=⟨_,rfl⟩
 rw [hs] at hr him hsh
 simp only at hr him
 obtain ⟨f1,hf1⟩:∃ v,fld d s1=v:=⟨_,rfl⟩
 obtain ⟨f2,hf2⟩:∃ v,fld a s2=v:=⟨_,rfl⟩
 obtain ⟨f3,hf3⟩:∃ v,fld b s3=v:=⟨_,rfl⟩
 rw [hf1,hf2,hf3] at hr
 have F1:=ak_ ((field_eq d s1).trans (congrArg some hf1))
 have F2:=ak_ ((field_eq a s2).trans (congrArg some hf2))
 have F3:=ak_ ((field_eq b s3).trans (congrArg some hf3))
 have HSH:=ak_ hsh
 have HIM:=ak_ him
 have HC:=ak_ hC
 have HCC:=ak_ hc
 have HR:=ak_ hr
 have HX0:=ak_ (blk_new w (.cells #[.int .i64 k,.int .i64 d,.int .i64 a,.int .i64 b,.int .i64 i,.slice A l.length c] 45))
 have HB0:=ak_ (below_alloc (Below.refl w.heap.size w) (.cells #[.int .i64 k,.int .i64 d,.int .i64 a,.int .i64 b,.int .i64 i,.slice A l.length c] 45))
 clear hf1 hf2 hf3 hsh him hC hc hr hs
 cases s5 with
 | false =>
  have hr:=HR.out
  rw [Bool.false_and] at hr
  subst hr
  go_enter Tryz.func76,Tryz.ntmps76
  go_wp2_with (go_at_call 68;refine (code_shapeOf.calls 1 k s1 s2 s3 s4 false _ HSH.out).mono ?_;rintro e w1 ⟨rfl,hb⟩;have HB1:=ak_ (below_then HB0.out HB0.out.size hb);clear hb)
  go_ret
  exact ⟨rfl,below_alloc HB1.out _⟩
 | true =>
  have hr:=HR.out
  rw [Bool.true_and] at hr
  clear HR
  cases f1 with
  | false =>
   rw [Bool.false_and] at hr
   subst hr
   go_enter Tryz.func76,Tryz.ntmps76
   go_wp2_with (first|(go_at_call 98;have hz:=HX2;clear hz;refine (code_field.calls d s1 false _ F1.out).mono ?_;rintro e w3 ⟨rfl,hd⟩;have hb:=hd.below;have HX3:=ak_ (blk_below HX2.out hb);have HS3:=ak_ (blk_below HS2.out hb);have HB3:=ak_ (below_then HB2.out HB2.out.size hb);clear hb hd ;clear x0 x1 x2 x3 x4 x5 t0 t1 t2 t3;have x0:=bc_ HX3 0;have x1:=bc_ HX3 1;have x2:=bc_ HX3 2;have x3:=bc_ HX3 3;have x4:=bc_ HX3 4;have x5:=bc_ HX3 5;have t0:=bc_ HS3 0;have t1:=bc_ HS3 1;have t2:=bc_ HS3 2;have t3:=bc_ HS3 3;simp only [ga_,gb_,gc_] at x0 x1 x2 x3 x4 x5 t0 t1 t2 t3)|(go_at_call 68;refine (code_shapeOf.calls 1 k s1 s2 s3 s4 true _ HSH.out).mono ?_;rintro e w1 ⟨rfl,hb⟩;have hx1:=blk_below HX0.out hb;have HX2:=ak_ (blk_alloc hx1 (.cells #[.bool s1,.bool s2,.bool s3,.bool s4] 86));have HS2:=ak_ (blk_new w1 (.cells #[.bool s1,.bool s2,.bool s3,.bool s4] 86));have HB2:=ak_ (below_alloc (below_then HB0.out HB0.out.size hb) (.cells #[.bool s1,.bool s2,.bool s3,.bool s4] 86));clear hb hx1;have x0:=bc_ HX2 0;have x1:=bc_ HX2 1;have x2:=bc_ HX2 2;have x3:=bc_ HX2 3;have x4:=bc_ HX2 4;have x5:=bc_ HX2 5;have t0:=bc_ HS2 0;have t1:=bc_ HS2 1;have t2:=bc_ HS2 2;have t3:=bc_ HS2 3;simp only [ga_,gb_,gc_] at x0 x1 x2 x3 x4 x5 t0 t1 t2 t3))
   go_ret
   exact ⟨rfl,HB3.out⟩
  | true =>
   rw [Bool.true_and] at hr
   cases f2 with
   | false =>
    rw [Bool.false_and] at hr
    subst hr
    go_enter Tryz.func76,Tryz.ntmps76
    go_wp2_with (first|(go_at_call 98;have hz:=HX3;clear hz;refine (code_field.calls a s2 false _ F2.out).mono ?_;rintro e w4 ⟨rfl,hd⟩;have hb:=hd.below;have HX4:=ak_ (blk_below HX3.out hb);have HS4:=ak_ (blk_below HS3.out hb);have HB4:=ak_ (below_then HB3.out HB3.out.size hb);clear hb hd ;clear x0 x1 x2 x3 x4 x5 t0 t1 t2 t3;have x0:=bc_ HX4 0;have x1:=bc_ HX4 1;have x2:=bc_ HX4 2;have x3:=bc_ HX4 3;have x4:=bc_ HX4 4;have x5:=bc_ HX4 5;have t0:=bc_ HS4 0;have t1:=bc_ HS4 1;have t2:=bc_ HS4 2;have t3:=bc_ HS4 3;simp only [ga_,gb_,gc_] at x0 x1 x2 x3 x4 x5 t0 t1 t2 t3)|(go_at_call 98;have hz:=HX2;clear hz;refine (code_field.calls d s1 true _ F1.out).mono ?_;rintro e w3 ⟨rfl,hd⟩;have hb:=hd.below;have HX3:=ak_ (blk_below HX2.out hb);have HS3:=ak_ (blk_below HS2.out hb);have HB3:=ak_ (below_then HB2.out HB2.out.size hb);clear hb hd ;clear x0 x1 x2 x3 x4 x5 t0 t1 t2 t3;have x0:=bc_ HX3 0;have x1:=bc_ HX3 1;have x2:=bc_ HX3 2;have x3:=bc_ HX3 3;have x4:=bc_ HX3 4;have x5:=bc_ HX3 5;have t0:=bc_ HS3 0;have t1:=bc_ HS3 1;have t2:=bc_ HS3 2;have t3:=bc_ HS3 3;simp only [ga_,gb_,gc_] at x0 x1 x2 x3 x4 x5 t0 t1 t2 t3)|(go_at_call 68;refine (code_shapeOf.calls 1 k s1 s2 s3 s4 true _ HSH.out).mono ?_;rintro e w1 ⟨rfl,hb⟩;have hx1:=blk_below HX0.out hb;have HX2:=ak_ (blk_alloc hx1 (.cells #[.bool s1,.bool s2,.bool s3,.bool s4] 86));have HS2:=ak_ (blk_new w1 (.cells #[.bool s1,.bool s2,.bool s3,.bool s4] 86));have HB2:=ak_ (below_alloc (below_then HB0.out HB0.out.size hb) (.cells #[.bool s1,.bool s2,.bool s3,.bool s4] 86));clear hb hx1;have x0:=bc_ HX2 0;have x1:=bc_ HX2 1;have x2:=bc_ HX2 2;have x3:=bc_ HX2 3;have x4:=bc_ HX2 4;have x5:=bc_ HX2 5;have t0:=bc_ HS2 0;have t1:=bc_ HS2 1;have t2:=bc_ HS2 2;have t3:=bc_ HS2 3;simp only [ga_,gb_,gc_] at x0 x1 x2 x3 x4 x5 t0 t1 t2 t3))
    go_ret
    exact ⟨rfl,HB4.out⟩
   | true =>
    rw [Bool.true_and] at hr
    cases f3 with
    | false =>
     rw [Bool.false_and] at hr
     subst hr
     go_enter Tryz.func76,Tryz.ntmps76
     go_wp2_with (first|(go_at_call 98;have hz:=HX4;clear hz;refine (code_field.calls b s3 false _ F3.out).mono ?_;rintro e w5 ⟨rfl,hd⟩;have hb:=hd.below;have HX5:=ak_ (blk_below HX4.out hb);have HS5:=ak_ (blk_below HS4.out hb);have HB5:=ak_ (below_then HB4.out HB4.out.size hb);clear hb hd ;clear x0 x1 x2 x3 x4 x5 t0 t1 t2 t3;have x0:=bc_ HX5 0;have x1:=bc_ HX5 1;have x2:=bc_ HX5 2;have x3:=bc_ HX5 3;have x4:=bc_ HX5 4;have x5:=bc_ HX5 5;have t0:=bc_ HS5 0;have t1:=bc_ HS5 1;have t2:=bc_ HS5 2;have t3:=bc_ HS5 3;simp only [ga_,gb_,gc_] at x0 x1 x2 x3 x4 x5 t0 t1 t2 t3)|(go_at_call 98;have hz:=HX3;clear hz;refine (code_field.calls a s2 true _ F2.out).mono ?_;rintro e w4 ⟨rfl,hd⟩;have hb:=hd.below;have HX4:=ak_ (blk_below HX3.out hb);have HS4:=ak_ (blk_below HS3.out hb);have HB4:=ak_ (below_then HB3.out HB3.out.size hb);clear hb hd ;clear x0 x1 x2 x3 x4 x5 t0 t1 t2 t3;have x0:=bc_ HX4 0;have x1:=bc_ HX4 1;have x2:=bc_ HX4 2;have x3:=bc_ HX4 3;have x4:=bc_ HX4 4;have x5:=bc_ HX4 5;have t0:=bc_ HS4 0;have t1:=bc_ HS4 1;have t2:=bc_ HS4 2;have t3:=bc_ HS4 3;simp only [ga_,gb_,gc_] at x0 x1 x2 x3 x4 x5 t0 t1 t2 t3)|(go_at_call 98;have hz:=HX2;clear hz;refine (code_field.calls d s1 true _ F1.out).mono ?_;rintro e w3 ⟨rfl,hd⟩;have hb:=hd.below;have HX3:=ak_ (blk_below HX2.out hb);have HS3:=ak_ (blk_below HS2.out hb);have HB3:=ak_ (below_then HB2.out HB2.out.size hb);clear hb hd ;clear x0 x1 x2 x3 x4 x5 t0 t1 t2 t3;have x0:=bc_ HX3 0;have x1:=bc_ HX3 1;have x2:=bc_ HX3 2;have x3:=bc_ HX3 3;have x4:=bc_ HX3 4;have x5:=bc_ HX3 5;have t0:=bc_ HS3 0;have t1:=bc_ HS3 1;have t2:=bc_ HS3 2;have t3:=bc_ HS3 3;simp only [ga_,gb_,gc_] at x0 x1 x2 x3 x4 x5 t0 t1 t2 t3)|(go_at_call 68;refine (code_shapeOf.calls 1 k s1 s2 s3 s4 true _ HSH.out).mono ?_;rintro e w1 ⟨rfl,hb⟩;have hx1:=blk_below HX0.out hb;have HX2:=ak_ (blk_alloc hx1 (.cells #[.bool s1,.bool s2,.bool s3,.bool s4] 86));have HS2:=ak_ (blk_new w1 (.cells #[.bool s1,.bool s2,.bool s3,.bool s4] 86));have HB2:=ak_ (below_alloc (below_then HB0.out HB0.out.size hb) (.cells #[.bool s1,.bool s2,.bool s3,.bool s4] 86));clear hb hx1;have x0:=bc_ HX2 0;have x1:=bc_ HX2 1;have x2:=bc_ HX2 2;have x3:=bc_ HX2 3;have x4:=bc_ HX2 4;have x5:=bc_ HX2 5;have t0:=bc_ HS2 0;have t1:=bc_ HS2 1;have t2:=bc_ HS2 2;have t3:=bc_ HS2 3;simp only [ga_,gb_,gc_] at x0 x1 x2 x3 x4 x5 t0 t1 t2 t3))
     go_ret
     exact ⟨rfl,HB5.out⟩
    | true =>
     rw [Bool.true_and] at hr
     cases im with
     | false =>
      rw [Bool.false_and] at hr
      subst hr
      go_enter Tryz.func76,Tryz.ntmps76
      go_wp2_with (first|(go_at_call 98;have hz:=HX4;clear hz;refine (code_field.calls b s3 true _ F3.out).mono ?_;rintro e w5 ⟨rfl,hd⟩;have hb:=hd.below;have HX5:=ak_ (blk_below HX4.out hb);have HS5:=ak_ (blk_below HS4.out hb);have HB5:=ak_ (below_then HB4.out HB4.out.size hb);clear hb hd ;clear x0 x1 x2 x3 x4 x5 t0 t1 t2 t3;have x0:=bc_ HX5 0;have x1:=bc_ HX5 1;have x2:=bc_ HX5 2;have x3:=bc_ HX5 3;have x4:=bc_ HX5 4;have x5:=bc_ HX5 5;have t0:=bc_ HS5 0;have t1:=bc_ HS5 1;have t2:=bc_ HS5 2;have t3:=bc_ HS5 3;simp only [ga_,gb_,gc_] at x0 x1 x2 x3 x4 x5 t0 t1 t2 t3)|(go_at_call 98;have hz:=HX3;clear hz;refine (code_field.calls a s2 true _ F2.out).mono ?_;rintro e w4 ⟨rfl,hd⟩;have hb:=hd.below;have HX4:=ak_ (blk_below HX3.out hb);have HS4:=ak_ (blk_below HS3.out hb);have HB4:=ak_ (below_then HB3.out HB3.out.size hb);clear hb hd ;clear x0 x1 x2 x3 x4 x5 t0 t1 t2 t3;have x0:=bc_ HX4 0;have x1:=bc_ HX4 1;have x2:=bc_ HX4 2;have x3:=bc_ HX4 3;have x4:=bc_ HX4 4;have x5:=bc_ HX4 5;have t0:=bc_ HS4 0;have t1:=bc_ HS4 1;have t2:=bc_ HS4 2;have t3:=bc_ HS4 3;simp only [ga_,gb_,gc_] at x0 x1 x2 x3 x4 x5 t0 t1 t2 t3)|(go_at_call 98;have hz:=HX2;clear hz;refine (code_field.calls d s1 true _ F1.out).mono ?_;rintro e w3 ⟨rfl,hd⟩;have hb:=hd.below;have HX3:=ak_ (blk_below HX2.out hb);have HS3:=ak_ (blk_below HS2.out hb);have HB3:=ak_ (below_then HB2.out HB2.out.size hb);clear hb hd ;clear x0 x1 x2 x3 x4 x5 t0 t1 t2 t3;have x0:=bc_ HX3 0;have x1:=bc_ HX3 1;have x2:=bc_ HX3 2;have x3:=bc_ HX3 3;have x4:=bc_ HX3 4;have x5:=bc_ HX3 5;have t0:=bc_ HS3 0;have t1:=bc_ HS3 1;have t2:=bc_ HS3 2;have t3:=bc_ HS3 3;simp only [ga_,gb_,gc_] at x0 x1 x2 x3 x4 x5 t0 t1 t2 t3)|(go_at_call 99;refine (code_immediate.calls K k d a b i A c l s1 s2 s3 s4 fn false _ (Kd.C_below HC.out HB5.out) HCC.out HIM.out).mono ?_;rintro e w6 ⟨rfl,hb⟩;have HX6:=ak_ (blk_below HX5.out hb);have HS6:=ak_ (blk_below HS5.out hb);have HB6:=ak_ (below_then HB5.out HB5.out.size hb);clear hb;clear x0 x1 x2 x3 x4 x5 t0 t1 t2 t3;have x0:=bc_ HX6 0;have x1:=bc_ HX6 1;have x2:=bc_ HX6 2;have x3:=bc_ HX6 3;have x4:=bc_ HX6 4;have x5:=bc_ HX6 5;have t0:=bc_ HS6 0;have t1:=bc_ HS6 1;have t2:=bc_ HS6 2;have t3:=bc_ HS6 3;simp only [ga_,gb_,gc_] at x0 x1 x2 x3 x4 x5 t0 t1 t2 t3)|(go_at_call 68;refine (code_shapeOf.calls 1 k s1 s2 s3 s4 true _ HSH.out).mono ?_;rintro e w1 ⟨rfl,hb⟩;have hx1:=blk_below HX0.out hb;have HX2:=ak_ (blk_alloc hx1 (.cells #[.bool s1,.bool s2,.bool s3,.bool s4] 86));have HS2:=ak_ (blk_new w1 (.cells #[.bool s1,.bool s2,.bool s3,.bool s4] 86));have HB2:=ak_ (below_alloc (below_then HB0.out HB0.out.size hb) (.cells #[.bool s1,.bool s2,.bool s3,.bool s4] 86));clear hb hx1;have x0:=bc_ HX2 0;have x1:=bc_ HX2 1;have x2:=bc_ HX2 2;have x3:=bc_ HX2 3;have x4:=bc_ HX2 4;have x5:=bc_ HX2 5;have t0:=bc_ HS2 0;have t1:=bc_ HS2 1;have t2:=bc_ HS2 2;have t3:=bc_ HS2 3;simp only [ga_,gb_,gc_] at x0 x1 x2 x3 x4 x5 t0 t1 t2 t3))
      go_ret
      exact ⟨rfl,HB6.out⟩
     | true =>
      rw [Bool.true_and] at hr
      by_cases k7:k=7
      ·have q7:(k != 7)=false:=bne_eq_false_iff_eq.2 k7
       rw [if_pos k7] at hr
       clear k7
       by_cases hl:(l.length:Int)≤8
       ·have qL:decide ((l.length:Int)≤8)=true:=decide_eq_true hl
        have qN:decide (l.length≤8)=true:=decide_eq_true (by omega)
        clear hl
        rw [qL,Bool.true_and] at hr
        subst hr
        go_enter Tryz.func76,Tryz.ntmps76
        go_wp2_with (first|(go_at_call 98;have hz:=HX4;clear hz;refine (code_field.calls b s3 true _ F3.out).mono ?_;rintro e w5 ⟨rfl,hd⟩;have hb:=hd.below;have HX5:=ak_ (blk_below HX4.out hb);have HS5:=ak_ (blk_below HS4.out hb);have HB5:=ak_ (below_then HB4.out HB4.out.size hb);clear hb hd ;clear x0 x1 x2 x3 x4 x5 t0 t1 t2 t3;have x0:=bc_ HX5 0;have x1:=bc_ HX5 1;have x2:=bc_ HX5 2;have x3:=bc_ HX5 3;have x4:=bc_ HX5 4;have x5:=bc_ HX5 5;have t0:=bc_ HS5 0;have t1:=bc_ HS5 1;have t2:=bc_ HS5 2;have t3:=bc_ HS5 3;simp only [ga_,gb_,gc_] at x0 x1 x2 x3 x4 x5 t0 t1 t2 t3)|(go_at_call 98;have hz:=HX3;clear hz;refine (code_field.calls a s2 true _ F2.out).mono ?_;rintro e w4 ⟨rfl,hd⟩;have hb:=hd.below;have HX4:=ak_ (blk_below HX3.out hb);have HS4:=ak_ (blk_below HS3.out hb);have HB4:=ak_ (below_then HB3.out HB3.out.size hb);clear hb hd ;clear x0 x1 x2 x3 x4 x5 t0 t1 t2 t3;have x0:=bc_ HX4 0;have x1:=bc_ HX4 1;have x2:=bc_ HX4 2;have x3:=bc_ HX4 3;have x4:=bc_ HX4 4;have x5:=bc_ HX4 5;have t0:=bc_ HS4 0;have t1:=bc_ HS4 1;have t2:=bc_ HS4 2;have t3:=bc_ HS4 3;simp only [ga_,gb_,gc_] at x0 x1 x2 x3 x4 x5 t0 t1 t2 t3)|(go_at_call 98;have hz:=HX2;clear hz;refine (code_field.calls d s1 true _ F1.out).mono ?_;rintro e w3 ⟨rfl,hd⟩;have hb:=hd.below;have HX3:=ak_ (blk_below HX2.out hb);have HS3:=ak_ (blk_below HS2.out hb);have HB3:=ak_ (below_then HB2.out HB2.out.size hb);clear hb hd ;clear x0 x1 x2 x3 x4 x5 t0 t1 t2 t3;have x0:=bc_ HX3 0;have x1:=bc_ HX3 1;have x2:=bc_ HX3 2;have x3:=bc_ HX3 3;have x4:=bc_ HX3 4;have x5:=bc_ HX3 5;have t0:=bc_ HS3 0;have t1:=bc_ HS3 1;have t2:=bc_ HS3 2;have t3:=bc_ HS3 3;simp only [ga_,gb_,gc_] at x0 x1 x2 x3 x4 x5 t0 t1 t2 t3)|(go_at_call 99;refine (code_immediate.calls K k d a b i A c l s1 s2 s3 s4 fn true _ (Kd.C_below HC.out HB5.out) HCC.out HIM.out).mono ?_;rintro e w6 ⟨rfl,hb⟩;have HX6:=ak_ (blk_below HX5.out hb);have HS6:=ak_ (blk_below HS5.out hb);have HB6:=ak_ (below_then HB5.out HB5.out.size hb);clear hb;clear x0 x1 x2 x3 x4 x5 t0 t1 t2 t3;have x0:=bc_ HX6 0;have x1:=bc_ HX6 1;have x2:=bc_ HX6 2;have x3:=bc_ HX6 3;have x4:=bc_ HX6 4;have x5:=bc_ HX6 5;have t0:=bc_ HS6 0;have t1:=bc_ HS6 1;have t2:=bc_ HS6 2;have t3:=bc_ HS6 3;simp only [ga_,gb_,gc_] at x0 x1 x2 x3 x4 x5 t0 t1 t2 t3)|(go_at_call 100;refine (containsI_any A c l _ (Kd.C_below HC.out HB6.out)).mono ?_;rintro e w7 ⟨rfl,hb⟩;have HB7:=ak_ (below_then HB6.out HB6.out.size hb);clear hb)|(go_at_call 68;refine (code_shapeOf.calls 1 k s1 s2 s3 s4 true _ HSH.out).mono ?_;rintro e w1 ⟨rfl,hb⟩;have hx1:=blk_below HX0.out hb;have HX2:=ak_ (blk_alloc hx1 (.cells #[.bool s1,.bool s2,.bool s3,.bool s4] 86));have HS2:=ak_ (blk_new w1 (.cells #[.bool s1,.bool s2,.bool s3,.bool s4] 86));have HB2:=ak_ (below_alloc (below_then HB0.out HB0.out.size hb) (.cells #[.bool s1,.bool s2,.bool s3,.bool s4] 86));clear hb hx1;have x0:=bc_ HX2 0;have x1:=bc_ HX2 1;have x2:=bc_ HX2 2;have x3:=bc_ HX2 3;have x4:=bc_ HX2 4;have x5:=bc_ HX2 5;have t0:=bc_ HS2 0;have t1:=bc_ HS2 1;have t2:=bc_ HS2 2;have t3:=bc_ HS2 3;simp only [ga_,gb_,gc_] at x0 x1 x2 x3 x4 x5 t0 t1 t2 t3))
        go_ret
        exact ⟨by first|rfl|simp,HB7.out⟩
       ·have qL:decide ((l.length:Int)≤8)=false:=decide_eq_false hl
        have qN:decide (l.length≤8)=false:=decide_eq_false (by omega)
        clear hl
        rw [qL,Bool.false_and] at hr
        subst hr
        go_enter Tryz.func76,Tryz.ntmps76
        go_wp2_with (first|(go_at_call 98;have hz:=HX4;clear hz;refine (code_field.calls b s3 true _ F3.out).mono ?_;rintro e w5 ⟨rfl,hd⟩;have hb:=hd.below;have HX5:=ak_ (blk_below HX4.out hb);have HS5:=ak_ (blk_below HS4.out hb);have HB5:=ak_ (below_then HB4.out HB4.out.size hb);clear hb hd ;clear x0 x1 x2 x3 x4 x5 t0 t1 t2 t3;have x0:=bc_ HX5 0;have x1:=bc_ HX5 1;have x2:=bc_ HX5 2;have x3:=bc_ HX5 3;have x4:=bc_ HX5 4;have x5:=bc_ HX5 5;have t0:=bc_ HS5 0;have t1:=bc_ HS5 1;have t2:=bc_ HS5 2;have t3:=bc_ HS5 3;simp only [ga_,gb_,gc_] at x0 x1 x2 x3 x4 x5 t0 t1 t2 t3)|(go_at_call 98;have hz:=HX3;clear hz;refine (code_field.calls a s2 true _ F2.out).mono ?_;rintro e w4 ⟨rfl,hd⟩;have hb:=hd.below;have HX4:=ak_ (blk_below HX3.out hb);have HS4:=ak_ (blk_below HS3.out hb);have HB4:=ak_ (below_then HB3.out HB3.out.size hb);clear hb hd ;clear x0 x1 x2 x3 x4 x5 t0 t1 t2 t3;have x0:=bc_ HX4 0;have x1:=bc_ HX4 1;have x2:=bc_ HX4 2;have x3:=bc_ HX4 3;have x4:=bc_ HX4 4;have x5:=bc_ HX4 5;have t0:=bc_ HS4 0;have t1:=bc_ HS4 1;have t2:=bc_ HS4 2;have t3:=bc_ HS4 3;simp only [ga_,gb_,gc_] at x0 x1 x2 x3 x4 x5 t0 t1 t2 t3)|(go_at_call 98;have hz:=HX2;clear hz;refine (code_field.calls d s1 true _ F1.out).mono ?_;rintro e w3 ⟨rfl,hd⟩;have hb:=hd.below;have HX3:=ak_ (blk_below HX2.out hb);have HS3:=ak_ (blk_below HS2.out hb);have HB3:=ak_ (below_then HB2.out HB2.out.size hb);clear hb hd ;clear x0 x1 x2 x3 x4 x5 t0 t1 t2 t3;have x0:=bc_ HX3 0;have x1:=bc_ HX3 1;have x2:=bc_ HX3 2;have x3:=bc_ HX3 3;have x4:=bc_ HX3 4;have x5:=bc_ HX3 5;have t0:=bc_ HS3 0;have t1:=bc_ HS3 1;have t2:=bc_ HS3 2;have t3:=bc_ HS3 3;simp only [ga_,gb_,gc_] at x0 x1 x2 x3 x4 x5 t0 t1 t2 t3)|(go_at_call 99;refine (code_immediate.calls K k d a b i A c l s1 s2 s3 s4 fn true _ (Kd.C_below HC.out HB5.out) HCC.out HIM.out).mono ?_;rintro e w6 ⟨rfl,hb⟩;have HX6:=ak_ (blk_below HX5.out hb);have HS6:=ak_ (blk_below HS5.out hb);have HB6:=ak_ (below_then HB5.out HB5.out.size hb);clear hb;clear x0 x1 x2 x3 x4 x5 t0 t1 t2 t3;have x0:=bc_ HX6 0;have x1:=bc_ HX6 1;have x2:=bc_ HX6 2;have x3:=bc_ HX6 3;have x4:=bc_ HX6 4;have x5:=bc_ HX6 5;have t0:=bc_ HS6 0;have t1:=bc_ HS6 1;have t2:=bc_ HS6 2;have t3:=bc_ HS6 3;simp only [ga_,gb_,gc_] at x0 x1 x2 x3 x4 x5 t0 t1 t2 t3)|(go_at_call 68;refine (code_shapeOf.calls 1 k s1 s2 s3 s4 true _ HSH.out).mono ?_;rintro e w1 ⟨rfl,hb⟩;have hx1:=blk_below HX0.out hb;have HX2:=ak_ (blk_alloc hx1 (.cells #[.bool s1,.bool s2,.bool s3,.bool s4] 86));have HS2:=ak_ (blk_new w1 (.cells #[.bool s1,.bool s2,.bool s3,.bool s4] 86));have HB2:=ak_ (below_alloc (below_then HB0.out HB0.out.size hb) (.cells #[.bool s1,.bool s2,.bool s3,.bool s4] 86));clear hb hx1;have x0:=bc_ HX2 0;have x1:=bc_ HX2 1;have x2:=bc_ HX2 2;have x3:=bc_ HX2 3;have x4:=bc_ HX2 4;have x5:=bc_ HX2 5;have t0:=bc_ HS2 0;have t1:=bc_ HS2 1;have t2:=bc_ HS2 2;have t3:=bc_ HS2 3;simp only [ga_,gb_,gc_] at x0 x1 x2 x3 x4 x5 t0 t1 t2 t3))
        go_ret
        exact ⟨rfl,HB6.out⟩
      ·have q7:(k != 7)=true:=bne_iff_ne.2 k7
       rw [if_neg k7] at hr
       clear k7
       skip
       subst hr
       go_enter Tryz.func76,Tryz.ntmps76
       go_wp2_with (first|(go_at_call 98;have hz:=HX4;clear hz;refine (code_field.calls b s3 true _ F3.out).mono ?_;rintro e w5 ⟨rfl,hd⟩;have hb:=hd.below;have HX5:=ak_ (blk_below HX4.out hb);have HS5:=ak_ (blk_below HS4.out hb);have HB5:=ak_ (below_then HB4.out HB4.out.size hb);clear hb hd ;clear x0 x1 x2 x3 x4 x5 t0 t1 t2 t3;have x0:=bc_ HX5 0;have x1:=bc_ HX5 1;have x2:=bc_ HX5 2;have x3:=bc_ HX5 3;have x4:=bc_ HX5 4;have x5:=bc_ HX5 5;have t0:=bc_ HS5 0;have t1:=bc_ HS5 1;have t2:=bc_ HS5 2;have t3:=bc_ HS5 3;simp only [ga_,gb_,gc_] at x0 x1 x2 x3 x4 x5 t0 t1 t2 t3)|(go_at_call 98;have hz:=HX3;clear hz;refine (code_field.calls a s2 true _ F2.out).mono ?_;rintro e w4 ⟨rfl,hd⟩;have hb:=hd.below;have HX4:=ak_ (blk_below HX3.out hb);have HS4:=ak_ (blk_below HS3.out hb);have HB4:=ak_ (below_then HB3.out HB3.out.size hb);clear hb hd ;clear x0 x1 x2 x3 x4 x5 t0 t1 t2 t3;have x0:=bc_ HX4 0;have x1:=bc_ HX4 1;have x2:=bc_ HX4 2;have x3:=bc_ HX4 3;have x4:=bc_ HX4 4;have x5:=bc_ HX4 5;have t0:=bc_ HS4 0;have t1:=bc_ HS4 1;have t2:=bc_ HS4 2;have t3:=bc_ HS4 3;simp only [ga_,gb_,gc_] at x0 x1 x2 x3 x4 x5 t0 t1 t2 t3)|(go_at_call 98;have hz:=HX2;clear hz;refine (code_field.calls d s1 true _ F1.out).mono ?_;rintro e w3 ⟨rfl,hd⟩;have hb:=hd.below;have HX3:=ak_ (blk_below HX2.out hb);have HS3:=ak_ (blk_below HS2.out hb);have HB3:=ak_ (below_then HB2.out HB2.out.size hb);clear hb hd ;clear x0 x1 x2 x3 x4 x5 t0 t1 t2 t3;have x0:=bc_ HX3 0;have x1:=bc_ HX3 1;have x2:=bc_ HX3 2;have x3:=bc_ HX3 3;have x4:=bc_ HX3 4;have x5:=bc_ HX3 5;have t0:=bc_ HS3 0;have t1:=bc_ HS3 1;have t2:=bc_ HS3 2;have t3:=bc_ HS3 3;simp only [ga_,gb_,gc_] at x0 x1 x2 x3 x4 x5 t0 t1 t2 t3)|(go_at_call 99;refine (code_immediate.calls K k d a b i A c l s1 s2 s3 s4 fn true _ (Kd.C_below HC.out HB5.out) HCC.out HIM.out).mono ?_;rintro e w6 ⟨rfl,hb⟩;have HX6:=ak_ (blk_below HX5.out hb);have HS6:=ak_ (blk_below HS5.out hb);have HB6:=ak_ (below_then HB5.out HB5.out.size hb);clear hb;clear x0 x1 x2 x3 x4 x5 t0 t1 t2 t3;have x0:=bc_ HX6 0;have x1:=bc_ HX6 1;have x2:=bc_ HX6 2;have x3:=bc_ HX6 3;have x4:=bc_ HX6 4;have x5:=bc_ HX6 5;have t0:=bc_ HS6 0;have t1:=bc_ HS6 1;have t2:=bc_ HS6 2;have t3:=bc_ HS6 3;simp only [ga_,gb_,gc_] at x0 x1 x2 x3 x4 x5 t0 t1 t2 t3)|(go_at_call 68;refine (code_shapeOf.calls 1 k s1 s2 s3 s4 true _ HSH.out).mono ?_;rintro e w1 ⟨rfl,hb⟩;have hx1:=blk_below HX0.out hb;have HX2:=ak_ (blk_alloc hx1 (.cells #[.bool s1,.bool s2,.bool s3,.bool s4] 86));have HS2:=ak_ (blk_new w1 (.cells #[.bool s1,.bool s2,.bool s3,.bool s4] 86));have HB2:=ak_ (below_alloc (below_then HB0.out HB0.out.size hb) (.cells #[.bool s1,.bool s2,.bool s3,.bool s4] 86));clear hb hx1;have x0:=bc_ HX2 0;have x1:=bc_ HX2 1;have x2:=bc_ HX2 2;have x3:=bc_ HX2 3;have x4:=bc_ HX2 4;have x5:=bc_ HX2 5;have t0:=bc_ HS2 0;have t1:=bc_ HS2 1;have t2:=bc_ HS2 2;have t3:=bc_ HS2 3;simp only [ga_,gb_,gc_] at x0 x1 x2 x3 x4 x5 t0 t1 t2 t3))
       go_ret
       exact ⟨by first|rfl|simp,HB6.out⟩
