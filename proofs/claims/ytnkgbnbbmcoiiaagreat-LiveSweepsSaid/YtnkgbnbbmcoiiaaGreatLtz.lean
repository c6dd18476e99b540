import Derived.Test.YtnkgbnbbmcoiiaaGreatBk
import Derived.Test.YtnkgbnbbmcoiiaaGreatRfz
import Derived.Test.YtnkgbnbbmcoiiaaGreatOrterm
import Derived.Test.YtnkgbnbbmcoiiaaGreatOAft
import Derived.Test.YtnkgbnbbmcoiiaaGreatOapp
import Derived.Test.YtnkgbnbbmcoiiaaGreatObeh
import Derived.Test.YtnkgbnbbmcoiiaaGreatOo17
import Derived.Test.YtnkgbnbbmcoiiaaGreatS14b
import Derived.Test.YtnkgbnbbmcoiiaaGreatS13
import Derived.Test.YtnkgbnbbmcoiiaaGreatS14
import Derived.Test.YtnkgbnbbmcoiiaaGreatS15
import Derived.Test.YtnkgbnbbmcoiiaaGreatS16
import Derived.Test.YtnkgbnbbmcoiiaaGreatS8
namespace Go.Proofs.YtnkgbnbbmcoiiaaGreat.S
open Go.RowKit Go.IM Go.RelRegion Go.Proofs.YtnkgbnbbmcoiiaaGreatW.PrintWords Go.Proofs.YtnkgbnbbmcoiiaaGreatW.PrintLast Go.Proofs.YtnkgbnbbmcoiiaaGreatW.PrintMore
set_option linter.unusedVariables false
set_option linter.unusedSimpArgs false
/-! ### live.Most -/
theorem max2_nat (ats:Array TypeId) (ty:TypeId) (a b:Nat):Builtin.max_ ats ty #[.int .i64 (a:Int),.int .i64 (b:Int)]=pure (.int .i64 ((max a b:Nat):Int)):=by
 rw [max_two,max2_int,pure_bind]
 congr 2
 split<;>omega
theorem max3_nat (ats:Array TypeId) (ty:TypeId) (a b c:Nat):Builtin.max_ ats ty #[.int .i64 (a:Int),.int .i64 (b:Int),.int .i64 (c:Int)]=pure (.int .i64 ((max (max a b) c:Nat):Int)):=by
 rw [max_three,max2_int,pure_bind,max2_int,pure_bind]
 congr 2
 split<;>split<;>omega
theorem rd_afterL {bs:List S50} {x k:Nat} (h:k<opLen bs x):rd_L1 (afterL bs x) (k:Int)=liveRow bs x (k+1):=by
 unfold rd_L1 afterL
 simp [List.getD_eq_getElem?_getD,h]
theorem end_sz {p:Int} {bs:List S50} {fn:Int} (h:RightP p bs fn) {x:Nat} {es:List (Int × Value)} (hk:KS es (fun r=>r∈tuseT (rd_T50 bs (x:Int)).f1∨∃ j:Nat,(j:Int)∈succT (rd_T50 bs (x:Int)).f1∧Lv.At (gOf bs) r j 0)) {a1:Nat} (ha:(liveRow bs x (opLen bs x)).length=a1):es.length=a1:=by
 have hs:=liveRow_sz h x (opLen bs x)
 rw [ha] at hs
 refine hk.sz.uniq (hs.imp (fun r=>?_))
 have e:=Lv.at_end (g:=gOf bs) (r:=r) (i:=x)
 exact e
/-- What the loud of 'max(most,len(s),len(behind(in,code.Succ(f)[i],b.Term)))' tell. -/
def RMo (bs:List S50) (x a:Nat) (k:Nat) (vs:List Value) (w' : World):Prop :=
 if k=5 then ∃ A2 c2,vs=[.slice A2 (succL bs).length c2]∧Kd.C (Kd.slice 3 (Kd.int .i64)) w' A2 (succL bs).length (succL bs)
 else if k=7 then ∃ ad A0 cb,vs=[.pointer (some ad)]∧w'.cell? ad=some (.slice A0 (rd_L1 (succL bs) (x:Int)).length cb)∧Kd.C (Kd.int .i64) w' A0 (rd_L1 (succL bs) (x:Int)).length (rd_L1 (succL bs) (x:Int))
 else if k=8 then ∃ A0 cb,vs=[.slice A0 (rd_L1 (succL bs) (x:Int)).length cb]∧Kd.C (Kd.int .i64) w' A0 (rd_L1 (succL bs) (x:Int)).length (rd_L1 (succL bs) (x:Int))
 else if k=15 then ∃ m es,vs=[.map (some m)]∧At w' m es∧es.length=a
 else if k=16 then vs=[.int .i64 (a:Int)] else True
theorem RMo.below {bs:List S50} {x a k:Nat} {vs:List Value} {w' w2:World} (h:RMo bs x a k vs w') (hb:Below w'.heap.size w' w2):RMo bs x a k vs w2:=by
 unfold RMo at h ⊢
 repeat' split at h
 ·rename_i h1
  rw [if_pos h1]
  obtain ⟨A2,c2,e,h⟩:=h
  exact ⟨A2,c2,e,Kd.C_below h hb⟩
 ·rename_i h1 h2
  rw [if_neg h1,if_pos h2]
  obtain ⟨ad,A0,cb,e,hc,h⟩:=h
  exact ⟨ad,A0,cb,e,pw_cell_below hb hc,Kd.C_below h hb⟩
 ·rename_i h1 h2 h3
  rw [if_neg h1,if_neg h2,if_pos h3]
  obtain ⟨A0,cb,e,h⟩:=h
  exact ⟨A0,cb,e,Kd.C_below h hb⟩
 ·rename_i h1 h2 h3 h4
  rw [if_neg h1,if_neg h2,if_neg h3,if_pos h4]
  obtain ⟨m,es,e,ha,hk⟩:=h
  exact ⟨m,es,e,ha.below hb ha.lt,hk⟩
 ·rename_i h1 h2 h3 h4 h5
  rw [if_neg h1,if_neg h2,if_neg h3,if_neg h4,if_pos h5]
  exact h
 ·rename_i h1 h2 h3 h4 h5
  rw [if_neg h1,if_neg h2,if_neg h3,if_neg h4,if_neg h5]
  trivial
attribute [local go_sem] max2_nat max3_nat
set_option maxHeartbeats 8000000 in
set_option maxRecDepth 100000 in
theorem most_ok (p:Int) (A:Option Addr) (c:Nat) (bs:List S50) (w:World) (hC:Kd.C k50 w A bs.length bs) (hR:rightF p bs 256=true) :
  Calls Tryz.prog 27 #[.agg #[.int .i64 p,.slice A bs.length c]] w fun e w'=>∃ m:Nat,e=.returned (.int .i64 (m:Int))∧MaxOf (Sizes bs bs.length) m∧Below w.heap.size w w':=by
 have RP:=ak_ (rightF_iff hR)
 have HR:=ak_ hR
 have HC:=ak_ hC
 have HB0:=ak_ (below_alloc (Below.refl w.heap.size w) (.cells #[.int .i64 p,.slice A bs.length c] 24))
 have HF0:=ak_ (blk_new w (.cells #[.int .i64 p,.slice A bs.length c] 24))
 have hu34:=Tryz.underlying24
 have hu43:=Tryz.underlying50
 have hu41:=Tryz.underlying48
 have hlen:=RP.out.len
 clear hC hR
 go_enter Tryz.func27,Tryz.ntmps27
 go_wp2_with (go_at_call 49;refine (sets_ok p A c bs _ (Kd.C_below HC.out HB0.out) HR.out).mono ?_;rintro e w1 ⟨A1,rfl,hm,hb⟩;have HM:=ak_ hm;have HF1:=ak_ (blk_below HF0.out hb);have HB1:=ak_ (below_then HB0.out HB0.out.size hb);clear hb hm)
 go_loopw [5,17] (fun v i wr=>∃ j m:Nat,j≤bs.length∧i=.int .i64 (j:Int)∧v=.int .i64 (m:Int)∧Aside0 (MaxOf (Sizes bs j) m)∧Aside0 (Below w1.heap.size w1 wr)) (fun _ i _=>bs.length - (intOf i).toNat)
 case atStart=>exact ⟨0,0,Nat.zero_le _,rfl,rfl,⟨MaxOf.zero.imp (fun x=>⟨False.elim,fun ⟨i,_,h,_⟩=>absurd h (Nat.not_lt_zero _)⟩)⟩,⟨Below.refl _ _⟩⟩
 case round =>
  obtain ⟨x,m,hx,rfl,rfl,HMX,HB⟩:=hrel
  by_cases hlt:x<bs.length
  ·have b1:decide ((x:Int)<(bs.length:Int))=true:=decide_eq_true (by omega)
   have hw1:wrap64 ((x:Int)+1)=(x:Int)+1:=(wr3 (z:=0) (by decide) (by omega)).2.2
   have q1:(0:Int)≤(x:Int):=by omega
   have q2:(x:Int)<(bs.length:Int):=by omega
   obtain ⟨adm,b,es,eM,hcm,hat,hks⟩:=(HM.out.below HB.out) x hlt
   have HAT:=ak_ hat
   have HE0:=ak_ (hks.sz.uniq (liveRow_sz RP.out x 0))
   clear hat hks
   subst eM
   obtain ⟨ad,A5,c5,eA,h0,h1,h2,h3,h4,l5,g5⟩:=at_T50 (Kd.C_below HC.out (below_then HB1.out HB1.out.size HB.out)) (x:Int) q1 q2
   simp only [Int.toNat_natCast] at h0 h1 h2 h3 h4
   subst eA
   clear h0 l5 g5
   have c0:=blk_cell (blk_below HF1.out HB.out) 0
   have c1:=blk_cell (blk_below HF1.out HB.out) 1
   simp only [ga_,gb_,gc_] at c0 c1
   have HSL:=ak_ (succL_at hlt)
   have HSC:=ak_ (RP.out.succ hlt)
   have hsll:=succL_length bs
   obtain ⟨a1,ha1⟩:∃ a1,(liveRow bs x (opLen bs x)).length=a1:=⟨_,rfl⟩
   have HA1:=ak_ ha1
   clear ha1
   go_wp2_with fail
   refine wp_region_rel 17 (fun k=>if k=5 then some [] else if k=7 then some [5] else if k=8 then some [7] else if k=15 then some [8] else if k=16 then some [15] else none) (fun k=>[k]) (RMo bs x a1) (fun w'=>Below wr.heap.size wr w') (fun a b=>Below a.heap.size a b) (by kernel_rfl) (by kernel_rfl) (below_drew (Below.refl _ _)) (fun a b h k=>below_then h h.size k) (fun _ _ _ _ h hb=>h.below hb) ?_
   simp only [List.take_succ_cons,List.take_zero,List.drop_succ_cons,List.drop_zero]
   iterate 17 (first|(refine relQ_loud rfl ?_)|(apply relQ_step rfl;apply Exists.intro;constructor;(focus (intro w' hw';have c0:=pw_cell_below hw' c0;have c1:=pw_cell_below hw' c1;have h1:=pw_cell_below hw' h1;have h2:=pw_cell_below hw' h2;have h3:=pw_cell_below hw' h3;have h4:=pw_cell_below hw' h4;unfold Yl;go_wp2_with (at_len;refine IM.wpl_len _ rfl _ 73 rfl 3 4 Tryz.underlying73 b es rfl (HAT.out.below hw' HAT.out.lt) ?_);exact ⟨rfl,_,rfl,rfl,Below.refl _ _⟩));(try simp only [Act.put,pa_,pb_,pc_])))
   refine relQ_nil (fun xx=>?_)
   repeat (refine relL_quiet rfl ?_)
   refine relL_loud rfl (fun w' hw' _=>?_) ?_
   ·unfold Yl
    go_wp2_with (go_at_call 52;refine (succ_any p (some ad) c bs _ (Kd.C_below HC.out (below_then HB1.out HB1.out.size (below_then HB.out HB.out.size hw'))) RP.out.len.2).mono ?_;rintro e w6 ⟨v2,rfl,hr2,hb⟩)
    obtain ⟨A2,c2,rfl,_,hC2⟩:=Kd.R_reads hr2
    refine ⟨rfl,_,rfl,hb,?_⟩
    unfold RMo
    rw [if_pos rfl]
    exact ⟨A2,c2,by simp,hC2⟩
   (try simp only [Act.put,pa_,pb_,pc_])
   repeat (refine relL_quiet rfl ?_)
   refine relL_loud rfl (fun w' hw' hR=>?_) ?_
   ·have r2:=hR 5 (by simp)
    unfold RMo at r2
    rw [if_pos rfl] at r2
    obtain ⟨A2,c2,e2,hC2⟩:=r2
    have e2:xx 5=.slice A2 (succL bs).length c2:=by simpa using e2
    rw [e2]
    obtain ⟨ad2,A0,cb,eA2,sE,hcb,hCr⟩:=at_L1 hC2 (x:Int) (by omega) (by omega)
    rw [Int.toNat_natCast] at sE
    subst eA2
    have q3:(x:Int)<((succL bs).length:Int):=by omega
    have HCR:=ak_ hCr
    clear hCr hcb hC2
    unfold Yl
    go_wp2_with fail
    refine ⟨rfl,_,rfl,Below.refl _ _,?_⟩
    unfold RMo
    rw [if_neg (by decide),if_pos rfl]
    exact ⟨ad2.add x,A0,cb,by simp,sE,HCR.out⟩
   (try simp only [Act.put,pa_,pb_,pc_])
   refine relL_loud rfl (fun w' hw' hR=>?_) ?_
   ·have r4:=hR 7 (by simp)
    unfold RMo at r4
    rw [if_neg (by decide),if_pos rfl] at r4
    obtain ⟨adx,A0,cb,e4,sE,hCr⟩:=r4
    have e4:xx 7=.pointer (some adx):=by simpa using e4
    rw [e4]
    have HCR:=ak_ hCr
    clear hCr
    unfold Yl
    go_wp2_with fail
    refine ⟨rfl,_,rfl,Below.refl _ _,?_⟩
    unfold RMo
    rw [if_neg (by decide),if_neg (by decide),if_pos rfl]
    exact ⟨A0,cb,by simp,HCR.out⟩
   (try simp only [Act.put,pa_,pb_,pc_])
   repeat (refine relL_quiet rfl ?_)
   refine relL_loud rfl (fun w' hw' hR=>?_) ?_
   ·have r5:=hR 8 (by simp)
    unfold RMo at r5
    rw [if_neg (by decide),if_neg (by decide),if_pos rfl] at r5
    obtain ⟨A0,cb,e5,hCr⟩:=r5
    have e5:xx 8=.slice A0 (rd_L1 (succL bs) (x:Int)).length cb:=by simpa using e5
    rw [e5]
    have hb61:=behind_any (some adm) bs.length bs.length (fun i r=>Lv.At (gOf bs) r i 0) A0 cb (rd_L1 (succL bs) (x:Int)) (rd_T50 bs (x:Int)).f1 w' (by omega) (HM.out.below (below_then HB.out HB.out.size hw')) hCr (by rw [HSL.out];exact HSC.out)
    have HB61:=ak_ hb61
    clear hb61 hCr
    unfold Yl
    go_wp2_with (go_at_call 57;refine HB61.out.mono ?_;rintro e w6 ⟨m,es,rfl,ha,hk,hms,hb⟩)
    refine ⟨rfl,_,rfl,hb,?_⟩
    unfold RMo
    rw [if_neg (by decide),if_neg (by decide),if_neg (by decide),if_pos rfl]
    refine ⟨m,es,by simp,ha,?_⟩
    rw [HSL.out] at hk
    exact end_sz RP.out hk HA1.out
   (try simp only [Act.put,pa_,pb_,pc_])
   refine relL_loud rfl (fun w' hw' hR=>?_) ?_
   ·have r5:=hR 15 (by simp)
    unfold RMo at r5
    rw [if_neg (by decide),if_neg (by decide),if_neg (by decide),if_pos rfl] at r5
    obtain ⟨m5,es5,e5,ha5,hl5⟩:=r5
    have e5:xx 15=.map (some m5):=by simpa using e5
    rw [e5]
    have HA5:=ak_ ha5
    clear ha5
    unfold Yl
    go_wp2_with (at_len;refine IM.wpl_len _ rfl _ 73 rfl 3 4 Tryz.underlying73 m5 es5 rfl HA5.out ?_)
    refine ⟨rfl,_,rfl,Below.refl _ _,?_⟩
    unfold RMo
    rw [if_neg (by decide),if_neg (by decide),if_neg (by decide),if_neg (by decide),if_pos rfl]
   (try simp only [Act.put,pa_,pb_,pc_])
   refine relL_nil (fun w2 hw2 hRR=>?_)
   have r16:=hRR 16 (by decide) rfl
   unfold RMo at r16
   rw [if_neg (by decide),if_neg (by decide),if_neg (by decide),if_neg (by decide),if_pos rfl] at r16
   have r16:xx 16=.int .i64 (a1:Int):=by simpa using r16
   rw [r16]
   have HB2:=ak_ (below_then HB.out HB.out.size hw2)
   have c0:=pw_cell_below hw2 c0
   have c1:=pw_cell_below hw2 c1
   have HM0:Aside0 (MaxOf (fun y=>SizesTo bs x 0 y∨Sizes bs x y) (max m (max es.length a1))):=⟨by
    rw [← Nat.max_assoc]
    exact ((HMX.out.add es.length).add a1).imp (fun y=>by
    rw [sizesTo_zero,HA1.out,HE0.out,or_assoc])⟩
   obtain ⟨L,hL⟩:∃ L,afterL bs x=L:=⟨_,rfl⟩
   have HL:=ak_ hL
   have HLL:Aside0 (L.length=opLen bs x):=⟨by rw [← hL,afterL,List.length_map,List.length_range]⟩
   have HLA:Aside0 (∀ k:Nat,k<L.length→rd_L1 L (k:Int)=liveRow bs x (k+1)):=⟨fun k hk=>by
    rw [HLL.out] at hk
    rw [← hL]
    exact rd_afterL hk⟩
   clear hL hw2 hRR h1 h2 h3 h4 hcm
   go_wp2_with (go_at_call 56;refine (after_any p (some ad) c bs 256 (some adm) x _ (Kd.C_below HC.out (below_then HB1.out HB1.out.size HB2.out)) RP.out (HM.out.below HB2.out) hlt).mono ?_;rintro e w3 ⟨v3,rfl,hr,hb⟩;obtain ⟨A3,c3,rfl,_,hC3⟩:=Kd.R_reads hr;rw [HL.out] at hC3 ⊢;have HC3:=ak_ hC3;have HB3:=ak_ (below_then HB2.out HB2.out.size hb);clear hr hb hC3 c0 c1)
   generalize max m (max es.length a1)=m2 at HM0 ⊢
   go_loopw [5,45] (fun v i wr=>∃ k m3:Nat,k≤L.length∧i=.int .i64 (k:Int)∧v=.int .i64 (m3:Int)∧Aside0 (MaxOf (fun y=>SizesTo bs x k y∨Sizes bs x y) m3)∧Aside0 (Below w3.heap.size w3 wr)) (fun _ i _=>L.length - (intOf i).toNat)
   case atStart=>exact ⟨0,m2,Nat.zero_le _,rfl,rfl,HM0,⟨Below.refl _ _⟩⟩
   case round =>
    clear HMX HB HB2 HM0
    obtain ⟨k,m3,hk,rfl,rfl,HMX,HB⟩:=hrel
    by_cases hlk:k<L.length
    ·have b2:decide ((k:Int)<(L.length:Int))=true:=decide_eq_true (Int.ofNat_lt.2 hlk)
     have hw2:wrap64 ((k:Int)+1)=(k:Int)+1:=(wr3 (z:=0) (by decide) (by have:=RP.out.opLen_le x;have:=HLL.out;omega)).2.2
     obtain ⟨adk,A0,k0,eI,hi0,hi1,hi2⟩:=row_cell (Kd.C_below HC3.out HB.out) hlk (HLA.out k hlk)
     subst eI
     have HMN:Aside0 (MaxOf (fun y=>SizesTo bs x (k+1) y∨Sizes bs x y) (max m3 (liveRow bs x (k+1)).length)):=⟨(HMX.out.add (liveRow bs x (k+1)).length).imp (fun y=>by rw [sizesTo_succ,or_assoc])⟩
     generalize (liveRow bs x (k+1)).length=n1 at hi0 HMN
     clear hi1 hi2
     go_wp2_with fail
     go_roundw
     case rel=>exact ⟨k+1,_,hlk,by first|(rw [hw2];exact num_cast k)|(with_reducible exact num_cast k),rfl,HMN,HB⟩
     case measure=>first|(rw [hw2];exact num_meas hlk)|(with_reducible exact num_meas hlk)
    ·have b2:decide ((k:Int)<(L.length:Int))=false:=decide_eq_false (fun h=>hlk (Int.ofNat_lt.1 h))
     have ek:k=opLen bs x:=(Nat.le_antisymm hk (Nat.le_of_not_lt hlk)).trans HLL.out
     have HMN:Aside0 (MaxOf (Sizes bs (x+1)) m3):=⟨HMX.out.imp (fun y=>by rw [ek];exact sizes_succ bs x y)⟩
     clear ek
     go_wp2_with fail
     go_roundw
     case rel=>exact ⟨x+1,m3,hlt,by first|(rw [hw1];exact num_cast x)|(with_reducible exact num_cast x),rfl,HMN,⟨below_then HB3.out HB3.out.size HB.out⟩⟩
     case measure=>first|(rw [hw1];exact num_meas hlt)|(with_reducible exact num_meas hlt)
  ·have b1:decide ((x:Int)<(bs.length:Int))=false:=decide_eq_false (by omega)
   obtain rfl:x=bs.length:=Nat.le_antisymm hx (Nat.le_of_not_lt hlt)
   go_wp2_with fail
   go_ret
   exact ⟨m,rfl,HMX.out,below_then HB1.out HB1.out.size HB.out⟩
end Go.Proofs.YtnkgbnbbmcoiiaaGreat.S
namespace Go.Proofs.YtnkgbnbbmcoiiaaGreat.S
open Go.RowKit Go.IM Go.RelRegion Go.Proofs.YtnkgbnbbmcoiiaaGreatW.PrintWords Go.Proofs.YtnkgbnbbmcoiiaaGreatW.PrintLast Go.Proofs.YtnkgbnbbmcoiiaaGreatW.PrintMore
set_option linter.unusedVariables false
set_option linter.unusedSimpArgs false
/-! ### live.Most,its answer named -/
theorem MaxOf.ex {P:Nat→Prop} : ∀ B,(∀ x,P x→x≤B)→∃ m,MaxOf P m
 | 0,h=>⟨0,fun x hx=>h x hx,.inl rfl⟩
 | B+1,h=>by
  by_cases e:P (B+1)
  ·exact ⟨B+1,fun x hx=>h x hx,.inr e⟩
  ·exact MaxOf.ex B (fun x hx=>by
    have:=h x hx
    by_cases e2:x=B+1
    ·subst e2;exact absurd hx e
    ·omega)
end Go.Proofs.YtnkgbnbbmcoiiaaGreat.S
namespace Go.Proofs.YtnkgbnbbmcoiiaaGreat.S
open Go.RowKit Go.IM Go.Proofs.YtnkgbnbbmcoiiaaGreatW.PrintWords Go.Proofs.YtnkgbnbbmcoiiaaGreatW.PrintLast Go.Proofs.YtnkgbnbbmcoiiaaGreatW.PrintMore
set_option linter.unusedVariables false
set_option linter.unusedSimpArgs false
/-! ### The document's In,and what its Out goes over -/
structure Fits (bs:List S50):Prop where mk ::
 len:bs.length≤4096
 ops:∀ i:Nat,(rd_T50 bs (i:Int)).f0.length≤1000000000000
 args:∀ q,(opOf bs q).f5.length≤1000000000
theorem Fits.right {p:Int} {bs:List S50} (h:Fits bs):Ev (fun k=>swageref14_Right.f k p bs 256) (rightF p bs 256) :=
 r14_right p bs (by decide) (by decide) h.ops (fun q=>Nat.le_trans (h.args q) (by decide))
noncomputable def anyB (bs:List S50) (r:Int) (l:List Int):Bool:=l.any fun t=>decide (r∈liveRow bs t.toNat 0)
/-! ### The document's words of chapter 17,in closed form -/
theorem afterL_take (bs:List S50) (x:Nat) {j:Nat} (h:j<opLen bs x):(afterL bs x).take (j+1)=(afterL bs x).take j++[liveRow bs x (j+1)]:=by
 unfold afterL
 rw [List.take_succ_eq_append_getElem (by simpa using h),List.getElem_map,List.getElem_range]
theorem afterL_len (bs:List S50) (x:Nat):(afterL bs x).length=opLen bs x:=by rw [afterL,List.length_map,List.length_range]
theorem r17_after (p:Int) (bs:List S50) (h:Fits bs) (hR:rightF p bs 256=true) (x:Nat) (hx:x<bs.length):Ev (fun k=>swageref17_After.f k p bs (x:Int)) (afterL bs x):=by
 have RP:=rightF_iff hR
 have key:∀ m j,j+m=opLen bs x→Ev (fun k=>swageref17_After.l0 k (x:Int) ((afterL bs x).take j) (j:Int) p bs) (afterL bs x):=by
  intro m
  induction m with
  | zero =>
   intro j hj
   have hj:j=(rd_T50 bs (x:Int)).f0.length:=hj
   refine Ev.pure1 _ (fun k=>?_)
   rw [swageref17_After.l0,if_pos (Int.natCast_nonneg x),if_pos (by omega),if_neg (by omega),List.take_of_length_le (by rw [afterL_len];exact Nat.le_of_eq hj.symm)]
  | succ m ih =>
   intro j hj
   have hlt:j<opLen bs x:=by omega
   have hlt' : j<(rd_T50 bs (x:Int)).f0.length:=hlt
   have ho:=RP.opLen_le x
   refine (ih (j+1) (by omega)).step (fun k=>?_)
   have hlen:((afterL bs x).take j).length<5864062014805:=by rw [List.length_take,afterL_len];omega
   have ha:=swageref17_at.is hR hx (show j+1≤opLen bs x from hlt)
   rw [swageref17_After.l0,if_pos (Int.natCast_nonneg x),if_pos (by omega),if_pos (by omega),nat_wrap (by omega),ha,Option.bind_some,if_pos hlen,afterL_take bs x hlt]
 unfold swageref17_After.f
 have hr:=h.right (p:=p)
 rw [hR] at hr
 refine Ev.then hr ?_
 simp only [if_true]
 rw [decide_eq_false (by omega:¬ (x:Int) ≥ (bs.length:Int))]
 simp only [if_neg (by omega:¬ (x:Int)<0)]
 refine (key (opLen bs x) 0 (Nat.zero_add _)).step (fun k=>?_)
 rw [swageref17_After.j0,if_neg (by simp)]
 rfl
theorem ints_self (l:List Int) (hl:l.length≤4096):Ev (fun k=>swageref02_Ints.f k l l) true:=by
 have key:∀ m j,j+m=l.length→Ev (fun k=>swageref02_Ints.l0 k l l (j:Int)) true:=by
  intro m
  induction m with
  | zero =>
   intro j hj
   refine Ev.pure1 _ (fun k=>?_)
   rw [swageref02_Ints.l0,if_neg (by omega)]
  | succ m ih =>
   intro j hj
   refine (ih (j+1) (by omega)).step (fun k=>?_)
   rw [swageref02_Ints.l0,if_pos (by omega),if_pos (Int.natCast_nonneg j),if_pos (by omega),if_pos rfl,nat_wrap (by omega)]
 refine Ev.same (key l.length 0 (Nat.zero_add _)) (fun k=>?_)
 unfold swageref02_Ints.f
 rw [if_pos rfl]
 rfl
/-! ### swageref17.Out;Copy and Same of chapter 14 -/
theorem r14_copy (p:Int) (bs:List S50) (h:Fits bs):Ev (fun k=>swageref14_Copy.f k p bs) (p,bs):=by
 have hl:=h.len
 have l1:∀ (i:Nat) (hi:i<bs.length) (acc:List S50) (hacc:acc.length≤4096) (R:Int × List S50) (hE:Ev (fun k=>swageref14_Copy.l0 k ((i+1:Nat):Int) p bs p (acc++[rd_T50 bs (i:Int)])) R) (m q:Nat),q+m=(rd_T50 bs (i:Int)).f0.length→Ev (fun k=>swageref14_Copy.l1 k (i:Int) (q:Int) p bs p acc ((rd_T50 bs (i:Int)).f0.take q) (rd_T50 bs (i:Int)).f1.f0 (rd_T50 bs (i:Int)).f1.f1 (rd_T50 bs (i:Int)).f1.f2 (rd_T50 bs (i:Int)).f1.f3) R:=by
  intro i hi acc hacc R hE m
  have ho:=h.ops i
  induction m with
  | zero =>
   intro q hq
   refine hE.step (fun k=>?_)
   rw [swageref14_Copy.l1,if_pos (Int.natCast_nonneg i),if_pos (by omega),if_neg (by omega),if_pos (by omega),nat_wrap (by omega),List.take_of_length_le (by omega)]
  | succ m ih =>
   intro q hq
   have hq' : q<(rd_T50 bs (i:Int)).f0.length:=by omega
   have ha:(rd_T45 (rd_T50 bs (i:Int)).f0 (q:Int)).f5.length≤1000000000:=h.args (i,q)
   refine (ih (q+1) (by omega)).step (fun k=>?_)
   rw [swageref14_Copy.l1,if_pos (Int.natCast_nonneg i),if_pos (by omega),if_pos (by omega),if_pos (Int.natCast_nonneg q),Option.bind_some,if_pos (by simp;omega),if_pos (by rw [List.length_take];omega),nat_wrap (by omega),List.take_succ_eq_append_getElem hq',← rd45' hq',List.nil_append]
 have l0:∀ m i,i+m=bs.length→Ev (fun k=>swageref14_Copy.l0 k (i:Int) p bs p (bs.take i)) (p,bs):=by
  intro m
  induction m with
  | zero =>
   intro i hi
   refine Ev.pure1 _ (fun k=>?_)
   rw [swageref14_Copy.l0,if_neg (by omega),List.take_of_length_le (by omega)]
  | succ m ih =>
   intro i hi
   have hlt:i<bs.length:=by omega
   have h2:=ih (i+1) (by omega)
   rw [List.take_succ_eq_append_getElem hlt,← rd43' hlt] at h2
   have h3:=l1 i hlt (bs.take i) (by rw [List.length_take];omega) _ h2 _ 0 (Nat.zero_add _)
   refine h3.step (fun k=>?_)
   rw [swageref14_Copy.l0,if_pos (by omega),if_pos (Int.natCast_nonneg i)]
   rfl
 exact l0 bs.length 0 (Nat.zero_add _)
theorem sameOp_self (x:S45) (hx:x.f5.length≤4096):Ev (fun k=>swageref14_SameOp.f k x.f0 x.f1 x.f2 x.f3 x.f4 x.f5 x.f0 x.f1 x.f2 x.f3 x.f4 x.f5) true:=by
 unfold swageref14_SameOp.f
 refine Ev.then (ints_self x.f5 hx) ?_
 refine Ev.pure _ (fun k=>?_)
 simp
end Go.Proofs.YtnkgbnbbmcoiiaaGreat.S
namespace Go.Proofs.YtnkgbnbbmcoiiaaGreat.S
open Go.RowKit Go.Proofs.YtnkgbnbbmcoiiaaGreatW.PrintWords Go.Proofs.YtnkgbnbbmcoiiaaGreatW.PrintLast Go.Proofs.YtnkgbnbbmcoiiaaGreatW.PrintMore
set_option linter.unusedVariables false
set_option linter.unusedSimpArgs false
/-! ### What a function of few blocks is -/
/-- A block's operations are few. -/
def Small14 (bs:List S50) (i:Nat):Prop:=(rd_T50 bs (i:Int)).f0.length≤250∧∀ q:Nat,q<(rd_T50 bs (i:Int)).f0.length→(rd_T45 (rd_T50 bs (i:Int)).f0 (q:Int)).f5.length≤20
theorem few14_true (p:Int) (bs:List S50) (hb:bs.length≤12) (hL:∀ j:Nat,(rd_T50 bs (j:Int)).f0.length≤2199023255552):∀ k:Nat,
  (∀ (x3:Int) (j:Nat),swagelaw14_Few.l0 k x3 (j:Int) p bs=some true→0≤x3→x3≤2199023255552*(j:Int)→j≤bs.length→x3≤250∧∀ i,j≤i→i<bs.length→Small14 bs i) ∧
  (∀ (x3:Int) (j q:Nat),swagelaw14_Few.l1 k x3 (j:Int) (q:Int) p bs=some true→0≤x3→x3≤2199023255552*((j:Int)+1)→j<bs.length→(x3≤250∧∀ i,j+1≤i→i<bs.length→Small14 bs i)∧∀ q' : Nat,q≤q'→q'<(rd_T50 bs (j:Int)).f0.length→q'<300→(rd_T45 (rd_T50 bs (j:Int)).f0 (q' : Int)).f5.length≤20):=by
 intro k
 induction k using Nat.strongRecOn with
 | ind k ih =>
  constructor
  ·intro x3 j h h0 h1 hj
   cases k with
   | zero=>rw [swagelaw14_Few.l0] at h;cases h
   | succ k =>
    by_cases hlt:j<bs.length
    ·rw [swagelaw14_Few.l0,if_pos (Int.ofNat_lt.2 hlt),decide_eq_true (show (j:Int)<100 by omega)] at h
     cases k with
     | zero=>rw [swagelaw14_Few.j1] at h;cases h
     | succ k =>
      rw [swagelaw14_Few.j1,if_pos rfl,if_pos (Int.natCast_nonneg j),if_pos (Int.ofNat_lt.2 hlt)] at h
      have hl:=hL j
      have hw:wrap64 (x3+((rd_T50 bs (j:Int)).f0.length:Int))=x3+((rd_T50 bs (j:Int)).f0.length:Int):=by
       unfold wrap64
       omega
      rw [hw] at h
      obtain ⟨⟨e1,e2⟩,e3⟩:=(ih k (by omega)).2 _ j 0 h (by omega) (by omega) hlt
      refine ⟨by omega,fun i hi hi2=>?_⟩
      by_cases e:i=j
      ·subst e
       exact ⟨by omega,fun q hq=>e3 q (Nat.zero_le _) hq (by omega)⟩
      ·exact e2 i (by omega) hi2
    ·rw [swagelaw14_Few.l0,if_neg (by omega)] at h
     cases k with
     | zero=>rw [swagelaw14_Few.j1] at h;cases h
     | succ k =>
      rw [swagelaw14_Few.j1,if_neg (by decide),if_pos (by omega)] at h
      injection h with h
      exact ⟨of_decide_eq_true h,fun i hi hi2=>absurd hi2 (by omega)⟩
  ·intro x3 j q h h0 h1 hj
   cases k with
   | zero=>rw [swagelaw14_Few.l1] at h;cases h
   | succ k =>
    rw [swagelaw14_Few.l1,if_pos (Int.natCast_nonneg j),if_pos (Int.ofNat_lt.2 hj)] at h
    have hend:swagelaw14_Few.j3 k x3 (j:Int) (q:Int) false p bs=some true→x3≤250∧∀ i,j+1≤i→i<bs.length→Small14 bs i:=fun h=>by
     cases k with
     | zero=>rw [swagelaw14_Few.j3] at h;cases h
     | succ k =>
      rw [swagelaw14_Few.j3,if_neg (by decide),num_inc (n:=12) (by omega) (by decide)] at h
      exact (ih k (by omega)).1 x3 (j+1) h h0 (by omega) hj
    by_cases hq:q<(rd_T50 bs (j:Int)).f0.length
    ·rw [if_pos (Int.ofNat_lt.2 hq)] at h
     by_cases h3:(q:Int)<300
     ·rw [decide_eq_true h3] at h
      cases k with
      | zero=>rw [swagelaw14_Few.j3] at h;cases h
      | succ k =>
       rw [swagelaw14_Few.j3,if_pos rfl,if_pos (Int.natCast_nonneg j),if_pos (Int.ofNat_lt.2 hj),if_pos (Int.natCast_nonneg q),if_pos (Int.ofNat_lt.2 hq)] at h
       by_cases ha:((rd_T45 (rd_T50 bs (j:Int)).f0 (q:Int)).f5.length:Int) > 20
       ·rw [if_pos ha] at h;cases h
       ·rw [if_neg ha,num_inc (n:=300) (by omega) (by decide)] at h
        obtain ⟨e1,e3⟩:=(ih k (by omega)).2 x3 j (q+1) h h0 h1 hj
        refine ⟨e1,fun q' hq1 hq2 hq3=>?_⟩
        by_cases e:q'=q
        ·subst e;omega
        ·exact e3 q' (by omega) hq2 hq3
     ·rw [decide_eq_false h3] at h
      exact ⟨hend h,fun q' hq1 hq2 hq3=>absurd hq3 (by omega)⟩
    ·rw [if_neg (by omega)] at h
     exact ⟨hend h,fun q' hq1 hq2 hq3=>absurd hq2 (by omega)⟩
/-- What few tells of a function. -/
structure Few17 (bs:List S50):Prop where mk ::
 len:bs.length≤12
 ops:∀ i:Nat,(rd_T50 bs (i:Int)).f0.length≤250
 args:∀ q,(opOf bs q).f5.length≤20
theorem few17_true (k:Nat) (p:Int) (bs:List S50) (hL:∀ j:Nat,(rd_T50 bs (j:Int)).f0.length≤2199023255552) (h:swagelaw17_few.f k p bs=some true):Few17 bs:=by
 unfold swagelaw17_few.f at h
 cases hf:swagelaw14_Few.f k p bs with
 | none=>rw [hf] at h;cases h
 | some b =>
  rw [hf,Option.bind_some] at h
  cases b with
  | false=>rw [if_neg (by decide)] at h;cases h
  | true =>
   rw [if_pos rfl] at h
   by_cases hb:(bs.length:Int)≤12
   ·have hb' : bs.length≤12:=by omega
    have hS:=(((few14_true p bs hb' hL k).1 0 0 hf (by decide) (by decide) (Nat.zero_le _)).2)
    have hz:∀ i:Nat,¬ i<bs.length→rd_T50 bs (i:Int)=z50:=fun i hi=>by
     unfold rd_T50
     rw [Int.toNat_natCast,List.getD_eq_getElem?_getD,List.getElem?_eq_none (by omega)]
     rfl
    refine ⟨hb',fun i=>?_,fun q=>?_⟩
    ·by_cases hi:i<bs.length
     ·exact (hS i (Nat.zero_le _) hi).1
     ·rw [hz i hi];decide
    ·unfold opOf
     by_cases hi:q.1<bs.length
     ·by_cases hq:q.2<(rd_T50 bs (q.1:Int)).f0.length
      ·exact (hS q.1 (Nat.zero_le _) hi).2 q.2 hq
      ·have e:rd_T45 (rd_T50 bs (q.1:Int)).f0 (q.2:Int)=z45:=by
        unfold rd_T45
        rw [Int.toNat_natCast,List.getD_eq_getElem?_getD,List.getElem?_eq_none (by omega)]
        rfl
       rw [e];decide
     ·rw [hz q.1 hi]
      have e:rd_T45 z50.f0 (q.2:Int)=z45:=by
       unfold rd_T45
       rw [Int.toNat_natCast,List.getD_eq_getElem?_getD]
       rfl
      rw [e];decide
   ·rw [if_neg hb] at h;cases h
theorem Few17.fits {bs:List S50} (h:Few17 bs):Fits bs:=⟨Nat.le_trans h.len (by decide),fun i=>Nat.le_trans (h.ops i) (by decide),fun q=>Nat.le_trans (h.args q) (by decide)⟩
end Go.Proofs.YtnkgbnbbmcoiiaaGreat.S
namespace Go.Proofs.YtnkgbnbbmcoiiaaGreat.S
open Go.RowKit Go.IM Go.RelRegion Go.Proofs.YtnkgbnbbmcoiiaaGreatW.PrintWords Go.Proofs.YtnkgbnbbmcoiiaaGreatW.PrintLast Go.Proofs.YtnkgbnbbmcoiiaaGreatW.PrintMore
set_option linter.unusedVariables false
set_option linter.unusedSimpArgs false
/-! ### swageref14.Same of equal functions -/
theorem eqT48 (w:World) (a0 a1 a2 a3:Int):(Op.equalIn 10000 48 (.agg #[.int .i64 a0,.int .i64 a1,.int .i64 a2,.int .i64 a3]) (.agg #[.int .i64 a0,.int .i64 a1,.int .i64 a2,.int .i64 a3])).run Tryz.prog w=.ok true w:=by
 rw [eqA48 9998 w]
 simp
attribute [local go_sem high] eqT48
set_option maxHeartbeats 16000000 in
set_option maxRecDepth 100000 in
theorem same14_eq (p:Int) (A A' : Option Addr) (c c' : Nat) (bs:List S50) (w:World) (hF:Fits bs) (hA:∀ q,(opOf bs q).f5.length≤4096) (hC:Kd.C k50 w A bs.length bs) (hC' : Kd.C k50 w A' bs.length bs) :
  Calls Tryz.prog 17 #[.agg #[.int .i64 p,.slice A bs.length c],.agg #[.int .i64 p,.slice A' bs.length c']] w fun e w'=>e=.returned (.bool true)∧Below w.heap.size w w':=by
 have hu24:=Tryz.underlying24
 have hu50:=Tryz.underlying50
 have hu48:=Tryz.underlying48
 have hu45:=Tryz.underlying45
 have HC:=ak_ hC
 have HC2:=ak_ hC'
 have HFT:=ak_ hF
 have HA:=ak_ hA
 have hlen4:=hF.len
 have hbA:=below_alloc (Below.refl w.heap.size w) (.cells #[.int .i64 p,.slice A bs.length c] 24)
 have hbB:=below_alloc hbA (.cells #[.int .i64 p,.slice A' bs.length c'] 24)
 have HF0:=blk_alloc (blk_new w (.cells #[.int .i64 p,.slice A bs.length c] 24)) (.cells #[.int .i64 p,.slice A' bs.length c'] 24)
 have HG0:=blk_new (w.alloc (.cells #[.int .i64 p,.slice A bs.length c] 24)) (.cells #[.int .i64 p,.slice A' bs.length c'] 24)
 rw [World.size_alloc] at HG0
 have c0:=blk_cell HF0 0
 have c1:=blk_cell HF0 1
 have d0:=blk_cell HG0 0
 have d1:=blk_cell HG0 1
 simp only [ga_,gb_,gc_] at c0 c1 d0 d1
 obtain ⟨W,hW⟩:∃ W,(w.alloc (.cells #[.int .i64 p,.slice A bs.length c] 24)).alloc (.cells #[.int .i64 p,.slice A' bs.length c'] 24)=W:=⟨_,rfl⟩
 have HWQ:=ak_ hW
 have HBW:=ak_ (hW▸hbB)
 have HF:=ak_ (hW▸HF0)
 have HG:=ak_ (hW▸HG0)
 clear hC hC' hF hA hbA hbB HF0 HG0 hW
 go_enter Tryz.func17,Tryz.ntmps17
 go_wp2_with fail
 rw [HWQ.out]
 clear c0 c1 d0 d1 HWQ
 go_loopw [5] (fun i wr=>∃ j:Nat,j≤bs.length∧i=.int .i64 (j:Int)∧Aside0 (Below W.heap.size W wr)) (fun i _=>bs.length - (intOf i).toNat)
 case atStart=>exact ⟨0,Nat.zero_le _,rfl,⟨Below.refl _ _⟩⟩
 case round =>
  obtain ⟨j,hj,rfl,HB⟩:=hrel
  have c0:=blk_cell (blk_below HF.out HB.out) 0
  have c1:=blk_cell (blk_below HF.out HB.out) 1
  have d0:=blk_cell (blk_below HG.out HB.out) 0
  have d1:=blk_cell (blk_below HG.out HB.out) 1
  simp only [ga_,gb_,gc_] at c0 c1 d0 d1
  by_cases hlt:j<bs.length
  ·have b1:decide ((j:Int)<(bs.length:Int))=true:=decide_eq_true (Int.ofNat_lt.2 hlt)
   have hw1:wrap64 ((j:Int)+1)=(j:Int)+1:=inc63 hlt (Nat.le_trans hlen4 (by decide))
   have HBB:=ak_ (below_then HBW.out HBW.out.size HB.out)
   obtain ⟨adf,A5,c5,eA,fh,t0,t1,t2,t3,l5,g5⟩:=at_T50 (Kd.C_below HC.out HBB.out) (j:Int) (Int.natCast_nonneg j) (Int.ofNat_lt.2 hlt)
   obtain ⟨ads,A6,c6,eS,sh,u0,u1,u2,u3,l6,g6⟩:=at_T50 (Kd.C_below HC2.out HBB.out) (j:Int) (Int.natCast_nonneg j) (Int.ofNat_lt.2 hlt)
   simp only [Int.toNat_natCast] at fh t0 t1 t2 t3 sh u0 u1 u2 u3
   subst eA eS
   have HYL:=ak_ (HFT.out.ops j)
   have HY5:Aside0 (∀ k:Nat,(rd_T45 (rd_T50 bs (j:Int)).f0 (k:Int)).f5.length≤4096):=⟨fun k=>HA.out (j,k)⟩
   generalize (rd_T50 bs (j:Int)).f0=ys at fh sh l5 g5 l6 g6 HYL HY5
   generalize (rd_T50 bs (j:Int)).f1=tm at t0 t1 t2 t3 u0 u1 u2 u3
   have HG5:=ak_ g5
   have HG6:=ak_ g6
   clear l5 g5 l6 g6
   go_wp2_with fail
   refine wp_region_rel 30 (fun _=>none) (fun _=>[]) (fun _ _ _=>True) (fun wq=>Below wr.heap.size wr wq) (fun a b=>Below a.heap.size a b) (by kernel_rfl) (by kernel_rfl) (below_drew (Below.refl _ _)) (fun a b h k=>below_then h h.size k) (fun _ _ _ _ h _=>h) ?_
   simp only [List.take_succ_cons,List.take_zero,List.drop_succ_cons,List.drop_zero]
   iterate 30 (apply relQ_step rfl;apply Exists.intro;constructor;(focus (intro wq hwq;have c1:=pw_cell_below hwq c1;have d1:=pw_cell_below hwq d1;have fh:=pw_cell_below hwq fh;have t0:=pw_cell_below hwq t0;have t1:=pw_cell_below hwq t1;have t2:=pw_cell_below hwq t2;have t3:=pw_cell_below hwq t3;have sh:=pw_cell_below hwq sh;have u0:=pw_cell_below hwq u0;have u1:=pw_cell_below hwq u1;have u2:=pw_cell_below hwq u2;have u3:=pw_cell_below hwq u3;unfold Yl;go_wp2_with fail;exact ⟨rfl,_,rfl,rfl,Below.refl _ _⟩));(try simp only [Act.put,pa_,pb_,pc_]))
   refine relQ_nil (fun xx=>?_)
   repeat (refine relL_quiet rfl ?_)
   refine relL_nil (fun w13 hw13 _=>?_)
   clear c0 c1 d0 d1 t0 t1 t2 t3 u0 u1 u2 u3
   have fh:=pw_cell_below hw13 fh
   have sh:=pw_cell_below hw13 sh
   have Hfh:=ak_ fh
   have Hsh:=ak_ sh
   have HG7:=ak_ (Kd.C_below HG5.out hw13)
   have HG8:=ak_ (Kd.C_below HG6.out hw13)
   have HB13:=ak_ (below_then HB.out HB.out.size hw13)
   clear hw13 fh sh HG5 HG6
   go_wp2_with fail
   go_loopw [6] (fun i wi=>∃ q:Nat,q≤ys.length∧i=.int .i64 (q:Int)∧Aside0 (Below w13.heap.size w13 wi)) (fun i _=>ys.length - (intOf i).toNat)
   case atStart=>exact ⟨0,Nat.zero_le _,rfl,⟨Below.refl _ _⟩⟩
   case round =>
    obtain ⟨q,hq,rfl,HBi⟩:=hrel
    have HB:=ak_ (below_then HB13.out HB13.out.size HBi.out)
    have c0:=blk_cell (blk_below HF.out HB.out) 0
    have c1:=blk_cell (blk_below HF.out HB.out) 1
    have d0:=blk_cell (blk_below HG.out HB.out) 0
    have d1:=blk_cell (blk_below HG.out HB.out) 1
    simp only [ga_,gb_,gc_] at c0 c1 d0 d1
    have fh:=pw_cell_below HBi.out Hfh.out
    have sh:=pw_cell_below HBi.out Hsh.out
    by_cases hlq:q<ys.length
    ·have b2:decide ((q:Int)<(ys.length:Int))=true:=decide_eq_true (Int.ofNat_lt.2 hlq)
     have hw2:wrap64 ((q:Int)+1)=(q:Int)+1:=inc63 hlq (Nat.le_trans HYL.out (by decide))
     obtain ⟨adx,A7,c7,eX,x0,x1,x2,x3,x4,x5,x6,x7⟩:=at_T45 (Kd.C_below HG7.out HBi.out) (q:Int) (Int.natCast_nonneg q) (Int.ofNat_lt.2 hlq)
     obtain ⟨ady,A8,c8,eY,y0,y1,y2,y3,y4,y5,y6,y7⟩:=at_T45 (Kd.C_below HG8.out HBi.out) (q:Int) (Int.natCast_nonneg q) (Int.ofNat_lt.2 hlq)
     simp only [Int.toNat_natCast] at x0 x1 x2 x3 x4 x5 y0 y1 y2 y3 y4 y5
     subst eX eY
     obtain ⟨k,hk⟩:=sameOp_self (rd_T45 ys (q:Int)) (HY5.out q)
     have HK:=ak_ (hk k (Nat.le_refl _))
     clear hk
     generalize rd_T45 ys (q:Int)=X at x0 x1 x2 x3 x4 x5 x6 x7 y0 y1 y2 y3 y4 y5 y6 y7 HK
     have HX6:=ak_ x6
     have HX7:=ak_ x7
     have HY6:=ak_ y6
     have HY7:=ak_ y7
     clear x6 x7 y6 y7
     go_wp2_with fail
     refine wp_region_rel 20 (fun _=>none) (fun _=>[]) (fun _ _ _=>True) (fun wq=>Below wr.heap.size wr wq) (fun a b=>Below a.heap.size a b) (by kernel_rfl) (by kernel_rfl) (below_drew (Below.refl _ _)) (fun a b h k=>below_then h h.size k) (fun _ _ _ _ h _=>h) ?_
     simp only [List.take_succ_cons,List.take_zero,List.drop_succ_cons,List.drop_zero]
     iterate 20 (apply relQ_step rfl;apply Exists.intro;constructor;(focus (intro wq hwq;have c1:=pw_cell_below hwq c1;have d1:=pw_cell_below hwq d1;have fh:=pw_cell_below hwq fh;have sh:=pw_cell_below hwq sh;have x0:=pw_cell_below hwq x0;have x1:=pw_cell_below hwq x1;have x2:=pw_cell_below hwq x2;have x3:=pw_cell_below hwq x3;have x4:=pw_cell_below hwq x4;have x5:=pw_cell_below hwq x5;have y0:=pw_cell_below hwq y0;have y1:=pw_cell_below hwq y1;have y2:=pw_cell_below hwq y2;have y3:=pw_cell_below hwq y3;have y4:=pw_cell_below hwq y4;have y5:=pw_cell_below hwq y5;unfold Yl;go_wp2_with (go_at_call 48;refine (swageref14_SameOp.calls k X.f0 X.f1 X.f2 X.f3 X.f4 A7 c7 X.f5 X.f0 X.f1 X.f2 X.f3 X.f4 A8 c8 X.f5 true _ (Kd.C_below HX7.out hwq) HX6.out (Kd.C_below HY7.out hwq) HY6.out HK.out).mono ?_;rintro e w9 ⟨rfl,hbq⟩);first|exact ⟨rfl,_,rfl,rfl,Below.refl _ _⟩|exact ⟨rfl,_,rfl,rfl,hbq⟩));(try simp only [Act.put,pa_,pb_,pc_]))
     refine relQ_nil (fun xx=>?_)
     repeat (refine relL_quiet rfl ?_)
     refine relL_nil (fun w14 hw14 _=>?_)
     have HB14:=ak_ (below_then HBi.out HBi.out.size hw14)
     go_wp2_with fail
     go_roundw
     case rel=>exact ⟨q+1,hlq,by first|(rw [hw2];exact num_cast q)|(with_reducible exact num_cast q),HB14⟩
     case measure=>first|(rw [hw2];exact num_meas hlq)|(with_reducible exact num_meas hlq)
    ·have b2:decide ((q:Int)<(ys.length:Int))=false:=decide_eq_false (fun h=>hlq (Int.ofNat_lt.1 h))
     go_wp2_with fail
     go_roundw
     case rel=>exact ⟨j+1,hlt,by first|(rw [hw1];exact num_cast j)|(with_reducible exact num_cast j),HB⟩
     case measure=>first|(rw [hw1];exact num_meas hlt)|(with_reducible exact num_meas hlt)
  ·have b1:decide ((j:Int)<(bs.length:Int))=false:=decide_eq_false (fun h=>hlt (Int.ofNat_lt.1 h))
   go_wp2_with fail
   go_ret
   exact ⟨rfl,below_then HBW.out HBW.out.size HB.out⟩
end Go.Proofs.YtnkgbnbbmcoiiaaGreat.S
namespace Go.Proofs.YtnkgbnbbmcoiiaaGreat.S
open Go.RowKit Go.IM Go.Proofs.YtnkgbnbbmcoiiaaGreatW.PrintWords Go.Proofs.YtnkgbnbbmcoiiaaGreatW.PrintLast Go.Proofs.YtnkgbnbbmcoiiaaGreatW.PrintMore
set_option linter.unusedVariables false
set_option linter.unusedSimpArgs false
/-! ### What LiveTells calls: program and document tell one row -/
theorem copy14_told (p:Int) (A:Option Addr) (c:Nat) (bs:List S50) (w:World) (hF:Fits bs) (hC:Kd.C k50 w A bs.length bs) (hc:bs.length≤c) :
  Calls Tryz.prog 8 #[.agg #[.int .i64 p,.slice A bs.length c]] w fun e w'=>∃ A' c',e=.returned (.agg #[.int .i64 p,.slice A' bs.length c'])∧bs.length≤c'∧Kd.C k50 w' A' bs.length bs∧Below w.heap.size w w':=by
 obtain ⟨k,hk⟩:=r14_copy p bs hF
 refine (swageref14_Copy.calls k p A c bs p bs w hC hc (hk k (Nat.le_refl _))).mono ?_
 rintro e w' ⟨v,rfl,h,hb⟩
 obtain ⟨A',c',rfl,hl,hC'⟩:=Kd.R_reads h
 exact ⟨A',c',rfl,hl,hC',hb⟩
theorem same14_told (p:Int) (A A' : Option Addr) (c c' : Nat) (bs:List S50) (w:World) (hF:Fits bs) (hA:∀ q,(opOf bs q).f5.length≤4096) (hC:Kd.C k50 w A bs.length bs) (hc:bs.length≤c) (hC' : Kd.C k50 w A' bs.length bs) (hc' : bs.length≤c') :
  Calls Tryz.prog 17 #[.agg #[.int .i64 p,.slice A bs.length c],.agg #[.int .i64 p,.slice A' bs.length c']] w fun e w'=>e=.returned (.bool true)∧Below w.heap.size w w':=by
 exact same14_eq p A A' c c' bs w hF hA hC hC'
