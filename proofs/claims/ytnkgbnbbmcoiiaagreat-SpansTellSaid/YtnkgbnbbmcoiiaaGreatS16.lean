-- a text of the seat,by a program
import Derived.Test.YtnkgbnbbmcoiiaaGreatBk
import Derived.Test.YtnkgbnbbmcoiiaaGreatS0
import Derived.Test.YtnkgbnbbmcoiiaaGreatS11
import Derived.Test.YtnkgbnbbmcoiiaaGreatOo17
namespace Go.Proofs.YtnkgbnbbmcoiiaaGreat.S
open Go.RowKit Go.Proofs.YtnkgbnbbmcoiiaaGreatW.PrintWords Go.Proofs.YtnkgbnbbmcoiiaaGreatW.PrintLast Go.Proofs.YtnkgbnbbmcoiiaaGreatW.PrintMore
attribute [local go_sem] max2_int min2_int max_two min_two max_three min_three max_four min_four   -- for this text's walks alone
set_option linter.unusedVariables false
set_option linter.unusedSimpArgs false

/-! ### swageref17_Most: function 28 -/
/-! ### swageref25_Number: function 12 -/
def swageref25_Number.l0:Nat→Int→List Int→Int→Int→List (S50)→Option (List Int)
 | 0,_,_,_,_,_=>none
 | k+1,x4,x5,x6,x380000,x380001=>if x6<(x380001.length:Int) then (if 0≤x6 then (if x5.length<17592186044416 then (swageref25_Number.l0 k (wrap64 ((wrap64 (x4+(((rd_T50 x380001 x6).f0).length:Int)))+1)) (x5++[wrap64 ((wrap64 (x4+(((rd_T50 x380001 x6).f0).length:Int)))+1)]) (wrap64 (x6+1)) x380000 x380001) else (none)) else (none)) else (some x5)
def swageref25_Number.f (k:Nat) (a0_0:Int) (l0_1:List (S50)):Option (List Int):=(swageref14_Right.f k a0_0 l0_1 256).bind fun t380=>(if t380=true then (swageref25_Number.l0 k 0 (([0]:List Int)) 0 a0_0 l0_1) else (some ([]:List Int)))
set_option maxHeartbeats 8000000 in
set_option maxRecDepth 100000 in
theorem swageref25_Number.calls (k:Nat) (a0_0:Int) (A0_1:Option Addr) (c0_1:Nat) (l0_1:List (S50)) (r:List Int) (w:World) (hr0_1:Kd.C k50 w A0_1 l0_1.length l0_1) (hc0_1:l0_1.length≤c0_1) (h:swageref25_Number.f k a0_0 l0_1=some r) :
  Calls Tryz.prog 12 #[.agg #[.int .i64 a0_0,.slice A0_1 l0_1.length c0_1]] w fun e w'=>∃ v0_:Value,e=.returned (v0_)∧Kd.R (Kd.int .i64) 3 w' w.heap.size (fun _=>True) v0_ r∧Below w.heap.size w w':=by
 have hu24:=Tryz.underlying24
 have HR0_1:=ak_ hr0_1
 have HC0_1:=ak_ hc0_1
 clear hr0_1 hc0_1
 have HB:=ak_ (Below.refl w.heap.size w)
 have H:((swageref14_Right.f k a0_0 l0_1 256).bind fun t380=>(if t380=true then (swageref25_Number.l0 k 0 (([0]:List Int)) 0 a0_0 l0_1) else (some ([]:List Int))))=some r:=h
 clear h
 replace H:=Option.bind_eq_some_iff.mp H
 obtain ⟨t380,A20,H⟩:=H
 replace H:(if t380=true then (swageref25_Number.l0 k 0 (([0]:List Int)) 0 a0_0 l0_1) else (some ([]:List Int)))=some r:=H
 have A2:=ak_ A20
 clear A20
 by_cases c3:t380=true
 ·subst c3
  have H1:(swageref25_Number.l0 k 0 (([0]:List Int)) 0 a0_0 l0_1)=some r:=by rw [if_pos rfl] at H;exact H
  clear H
  have H:=H1
  clear H1
  obtain ⟨y381,hy381⟩:∃ y_:List Int,y_=(([0]:List Int)):=⟨_,rfl⟩
  replace H:(swageref25_Number.l0 k 0 y381 0 a0_0 l0_1)=some r:=by first|(rw [hy381];with_reducible exact H)|(have H2_:=(Option.bind_some _ _).symm.trans H;rw [hy381];with_reducible exact H2_)|(have H2_:=(Option.bind_some _ _).symm.trans H;with_reducible exact H2_)|with_reducible exact H|(rw [hy381];exact H)|exact H
  have Ny381:=ak_ hy381
  clear hy381
  have H':=ak_ H
  clear H
  go_enter Tryz.func12,Tryz.ntmps12
  go_wp2_with (first|((with_reducible refine gate_dst (N:=1) rfl ?_);refine box_event ?hg (N:=1) ?hd (cs:=#[.int .i64 a0_0,.slice A0_1 l0_1.length c0_1]) (t:=24) ?hr ?_;(case hd=>rfl);(case hg=>rfl);(case hr=>first|(go_simp;done)|(go_simp;rfl));intro gb379 hg w4 hbox hb;have n0_:=ak_ (below_step (bl_ HB) hb);have n1_:=ak_ (hbox);have n2_:=ak_ ((by rw [hg];exact (below_size (bl_ HB)):w.heap.size≤gb379));have n3_:=ak_ ((by rw [hg];exact (below_size (bl_ HB)):w.heap.size≤gb379));clear HB;have HB:=n0_;have BK379:=n1_;have GW379:=n2_;have GE379:=n3_;clear n0_ n1_ n2_ n3_;clear hb hbox hg;have hcz5_0:=ck_ BK379 0;have hcz5_1:=ck_ BK379 1;have hfz5_0:=fz_ BK379 0;have hfz5_1:=fz_ BK379 1)|((with_reducible refine gate_callee (f:=46) rfl ?_);refine goesL_ (some 8) rfl rfl Tryz.func46 (by kernel_rfl) rfl #[.agg #[.int .i64 a0_0,.slice A0_1 l0_1.length c0_1],.int .i64 256] rfl (by (try simp only [List.map_toArray,List.map_cons,List.map_nil]);first|done|rfl|(simp only [List.length_drop,List.length_take];rfl)) ?_;(with_reducible refine (swageref14_Right.calls k a0_0 _ _ l0_1 256 true _ ?side1 ?side2 A2.out).mono ?_);(case side1=>repeat (first|exact (Kd.C_below HR0_1.out HB.out)|(with_reducible refine Kd.C_alloc ?_ _)|(with_reducible refine Kd.C_drewN ?_ _)|(with_reducible refine Kd.C_drew ?_)));(case side2=>exact HC0_1.out);rintro e w6 ⟨rfl,hb⟩;refine ⟨_,rfl,?_⟩;have n0_:=ak_ (blk_below (g:=gb379) (o:=.cells #[.int .i64 a0_0,.slice A0_1 l0_1.length c0_1] 24 (0,0)) (bk_ BK379) hb);have n1_:=ak_ (below_step (bl_ HB) hb);clear BK379;clear HB;have BK379:=n0_;have HB:=n1_;clear n0_ n1_;(try clear hb);(try clear hb2);(try clear hk);(try clear hi))|((with_reducible refine gate_dst (N:=11) rfl ?_);refine Kd.R_lit (Kd.int .i64) _ 3 ?hg (N:=11) ?hd (xs:=([0]:List Int)) (inner:=[.int .i64 0]) (ok:=fun _=>True) (okp:=fun _=>True) ?hr ?hp (fun _ hk=>hk) trivial (Below.refl _ _) (Nat.le_refl _) (by simp) ?_;(case hd=>rfl);(case hg=>rfl);(case hr=>first|(go_simp;done)|(go_simp;rfl));(case hp=>exact (Reps.one (show Kd.M (Kd.int .i64) _ _ _ 0 [.int .i64 0] from rfl) (Reps.none _ _)));intro v382 w7 ho8 hb hg_ hnew_;clear hg_ hnew_;(first|rw [← Ny381.out] at ho8|(simp only [Int.reduceToNat] at ho8;rw [← Ny381.out] at ho8));have n0_:=ak_ (Kd.R_lower ho8 (below_size (bl_ HB)));have n1_:=ak_ (blk_below (g:=gb379) (o:=.cells #[.int .i64 a0_0,.slice A0_1 l0_1.length c0_1] 24 (0,0)) (bk_ BK379) hb);have n2_:=ak_ (below_step (bl_ HB) hb);clear BK379;clear HB;have HO383:=n0_;have BK379:=n1_;have HB:=n2_;clear n0_ n1_ n2_;clear hb ho8))
  go_loopg [4,5,6] k (fun kq v4 v5 v6 w'=>∃ (x4_1:Int) (x5_1:List Int) (x6_1:Int),v4=.int .i64 x4_1∧v6=.int .i64 x6_1∧Aside0 (swageref25_Number.l0 kq x4_1 x5_1 x6_1 a0_0 l0_1=some r)∧Aside0 (kq≤k)∧Aside0 (Kd.R (Kd.int .i64) 3 w' w.heap.size (fun _=>True) v5 x5_1)∧Aside0 (w'.heap[gb379]?=some (.cells #[.int .i64 a0_0,(.slice A0_1 l0_1.length c0_1)] 24 (0,0)))∧Aside0 (Below w.heap.size w w'))
  case atStart=>exact ⟨(0),(y381),(0),(by first|rfl|(simp;done)|(simp [*];done)),(by first|rfl|(simp;done)|(simp [*];done)),H',⟨Nat.le_refl _⟩,⟨by (with_reducible repeat (first|apply Kd.R_alloc|apply Kd.R_drewN|apply Kd.R_drew));exact HO383.out⟩,⟨bk_ BK379⟩,⟨bl_ HB⟩⟩
  case round =>
   clear H'
   obtain ⟨x4_1,x5_1,x6_1,rfl,rfl,HA,HK1,HO_5,BK379,HB⟩:=hrel
   cases gk with
   | zero=>exact absurd HA.out (by simp [swageref25_Number.l0])
   | succ k1 =>
    have H:=HA.out
    clear HA
    simp only [swageref25_Number.l0] at H
    by_cases c9:x6_1<(l0_1.length:Int)
    ·rw [if_pos c9] at H
     have c9b0:decide (x6_1<(l0_1.length:Int))=true:=decide_eq_true c9
     clear c9
     by_cases c10:0≤x6_1
     ·rw [if_pos c10] at H
      have c10b0:decide (0≤x6_1)=true:=decide_eq_true c10
      clear c10
      by_cases c11:x5_1.length<17592186044416
      ·rw [if_pos c11] at H
       have LMc11:=ak_ c11
       clear c11
       obtain ⟨y385,hy385⟩:∃ y_:List Int,y_=(x5_1++[wrap64 ((wrap64 (x4_1+(((rd_T50 l0_1 x6_1).f0).length:Int)))+1)]):=⟨_,rfl⟩
       replace H:(swageref25_Number.l0 k1 (wrap64 ((wrap64 (x4_1+(((rd_T50 l0_1 x6_1).f0).length:Int)))+1)) y385 (wrap64 (x6_1+1)) a0_0 l0_1)=some r:=by first|(rw [hy385];with_reducible exact H)|(have H2_:=(Option.bind_some _ _).symm.trans H;rw [hy385];with_reducible exact H2_)|(have H2_:=(Option.bind_some _ _).symm.trans H;with_reducible exact H2_)|with_reducible exact H|(rw [hy385];exact H)|exact H
       have Ny385:=ak_ hy385
       clear hy385
       have H':=ak_ H
       clear H
       have hcz12_0:=ck_ BK379 0
       have hcz12_1:=ck_ BK379 1
       have hfz12_0:=fz_ BK379 0
       have hfz12_1:=fz_ BK379 1
       have p384:0≤(x6_1:Int):=of_decide_eq_true (by first|(with_reducible assumption)|assumption)
       have q384:x6_1<(l0_1.length:Int):=of_decide_eq_true (by first|(with_reducible assumption)|assumption)
       obtain ⟨ad384,A384_0,c384_0,e384,hx384_0,hx384_1,hx384_2,hx384_3,hx384_4,hl384_0,hi384_0⟩:=at_T50 HR0_1.out x6_1 p384 q384
       cases e384
       replace hx384_0:=cl_ HB hx384_0
       replace hx384_1:=cl_ HB hx384_1
       replace hx384_2:=cl_ HB hx384_2
       replace hx384_3:=cl_ HB hx384_3
       replace hx384_4:=cl_ HB hx384_4
       have HR384_0:=ak_ hi384_0
       have HC384_0:=ak_ hl384_0
       clear hi384_0 hl384_0
       replace p384:=eq_true p384
       replace q384:=eq_true q384
       go_wp2_with (first|((with_reducible refine gate_builtin (b:=.append) (xs:=#[.tmp 29,.tmp 31]) rfl ?_);at_builtin;refine Kd.R_append (Kd.int .i64) (w0:=w) w.heap.size rfl (.tmp 29) (.tmp 31) 31 3 (.int .i64 0) 8 rfl Tryz.underlying31 info3 rfl (by decide) (by omega) u5 x5_1 (wrap64 ((wrap64 (x4_1+(((rd_T50 l0_1 x6_1).f0).length:Int)))+1)) [.int .i64 (wrap64 ((wrap64 (x4_1+(((rd_T50 l0_1 x6_1).f0).length:Int)))+1))] (fun _=>True) (fun _=>False) rfl rfl ?aP (fun _ hk=>hk.elim) ?aF ?aO ?aB ?aS ?aL ?_;(case aP=>exact rfl);(case aB=>exact (bl_ HB));(case aF=>exact (fun _ _=>trivial));(case aO=>exact (by (with_reducible repeat (first|apply Kd.R_alloc|apply Kd.R_drewN|apply Kd.R_drew));exact HO_5.out));(case aS=>exact (below_size (bl_ HB)));(case aL=>have:=LMc11.out;omega);intro v386 w13 ho hb hg hat;rw [← Ny385.out] at ho;have n0_:=ak_ (blk_grown (g:=gb379) (o:=.cells #[.int .i64 a0_0,.slice (some ad384) l0_1.length c0_1] 24 (0,0)) (bk_ BK379) hg (Kd.R_ne HO_5.out BK379.out (by decide)));have n1_:=ak_ (hb);have n2_:=ak_ (ho);clear BK379;clear HB;clear HO_5;have BK379:=n0_;have HB:=n1_;have HO387:=n2_;clear n0_ n1_ n2_;clear ho hb hg hat))
       go_roundg k1
       case measure=>have:=HK1.out;omega
       case rel=>exact ⟨(wrap64 ((wrap64 (x4_1+(((rd_T50 l0_1 x6_1).f0).length:Int)))+1)),(y385),(wrap64 (x6_1+1)),(by first|rfl|(simp;done)|(simp [*];done)),(by first|rfl|(simp;done)|(simp [*];done)),H',⟨by have:=HK1.out;omega⟩,⟨by (with_reducible repeat (first|apply Kd.R_alloc|apply Kd.R_drewN|apply Kd.R_drew));exact HO387.out⟩,⟨bk_ BK379⟩,⟨bl_ HB⟩⟩
      ·rw [if_neg c11] at H
       exact absurd H (by simp)
     ·rw [if_neg c10] at H
      exact absurd H (by simp)
    ·rw [if_neg c9] at H
     have c9b0:decide (x6_1<(l0_1.length:Int))=false:=decide_eq_false c9
     clear c9
     obtain rfl:=Option.some.inj H
     have hcz14_0:=ck_ BK379 0
     have hcz14_1:=ck_ BK379 1
     have hfz14_0:=fz_ BK379 0
     have hfz14_1:=fz_ BK379 1
     go_wp2
     go_ret
     exact ⟨_,by first|rfl|(simp [errW_none,errW_some]<;>rfl)|(simp [*,errW_none,errW_some]<;>rfl),by (with_reducible repeat (first|apply Kd.R_alloc|apply Kd.R_drewN|apply Kd.R_drew));exact HO_5.out,bl_ HB⟩
 ·replace c3:=Bool.eq_false_iff.mpr c3
  subst c3
  have H1:(some ([]:List Int))=some r:=by rw [if_neg (show ¬ (false=true) by decide)] at H;exact H
  clear H
  have H:=H1
  clear H1
  obtain rfl:=Option.some.inj H
  go_enter Tryz.func12,Tryz.ntmps12
  go_wp2_with (first|((with_reducible refine gate_dst (N:=1) rfl ?_);refine box_event ?hg (N:=1) ?hd (cs:=#[.int .i64 a0_0,.slice A0_1 l0_1.length c0_1]) (t:=24) ?hr ?_;(case hd=>rfl);(case hg=>rfl);(case hr=>first|(go_simp;done)|(go_simp;rfl));intro gb379 hg w15 hbox hb;have n0_:=ak_ (below_step (bl_ HB) hb);have n1_:=ak_ (hbox);have n2_:=ak_ ((by rw [hg];exact (below_size (bl_ HB)):w.heap.size≤gb379));have n3_:=ak_ ((by rw [hg];exact (below_size (bl_ HB)):w.heap.size≤gb379));clear HB;have HB:=n0_;have BK379:=n1_;have GW379:=n2_;have GE379:=n3_;clear n0_ n1_ n2_ n3_;clear hb hbox hg;have hcz16_0:=ck_ BK379 0;have hcz16_1:=ck_ BK379 1;have hfz16_0:=fz_ BK379 0;have hfz16_1:=fz_ BK379 1)|((with_reducible refine gate_callee (f:=46) rfl ?_);refine goesL_ (some 8) rfl rfl Tryz.func46 (by kernel_rfl) rfl #[.agg #[.int .i64 a0_0,.slice A0_1 l0_1.length c0_1],.int .i64 256] rfl (by (try simp only [List.map_toArray,List.map_cons,List.map_nil]);first|done|rfl|(simp only [List.length_drop,List.length_take];rfl)) ?_;(with_reducible refine (swageref14_Right.calls k a0_0 _ _ l0_1 256 false _ ?side1 ?side2 A2.out).mono ?_);(case side1=>repeat (first|exact (Kd.C_below HR0_1.out HB.out)|(with_reducible refine Kd.C_alloc ?_ _)|(with_reducible refine Kd.C_drewN ?_ _)|(with_reducible refine Kd.C_drew ?_)));(case side2=>exact HC0_1.out);rintro e w17 ⟨rfl,hb⟩;refine ⟨_,rfl,?_⟩;have n0_:=ak_ (blk_below (g:=gb379) (o:=.cells #[.int .i64 a0_0,.slice A0_1 l0_1.length c0_1] 24 (0,0)) (bk_ BK379) hb);have n1_:=ak_ (below_step (bl_ HB) hb);clear BK379;clear HB;have BK379:=n0_;have HB:=n1_;clear n0_ n1_;(try clear hb);(try clear hb2);(try clear hk);(try clear hi)))
  go_ret
  exact ⟨_,by first|rfl|(simp [errW_none,errW_some]<;>rfl)|(simp [*,errW_none,errW_some]<;>rfl),by first|exact Kd.R_nil _ _ _ _ _|exact Kd.N_nil _ _ _ _ _|exact Kd.V_nil _ _ _ _ _|exact Kd.Q_nil _ _ _ _ _|exact Kd.S_nil _ _ _ _ _,bl_ HB⟩

/-! ### swageref25_has: function 79 -/
def swageref25_has.l0:Nat→List Int→Int→Int→Option (Bool)
 | 0,_,_,_=>none
 | k+1,x0,x1,x5=>if x5<(x0.length:Int) then (if 0≤x5 then (if (rd x0 x5)=x1 then (some true) else (swageref25_has.l0 k x0 x1 (wrap64 (x5+1)))) else (none)) else (some false)
def swageref25_has.f (k:Nat) (l0:List Int) (a1:Int):Option (Bool):=swageref25_has.l0 k l0 a1 0
set_option maxHeartbeats 8000000 in
set_option maxRecDepth 100000 in
theorem swageref25_has.calls (k:Nat) (A0:Option Addr) (c0:Nat) (l0:List Int) (a1:Int) (r:Bool) (w:World) (hr0:Kd.C (Kd.int .i64) w A0 l0.length l0) (hc0:l0.length≤c0) (h:swageref25_has.f k l0 a1=some r) :
  Calls Tryz.prog 79 #[.slice A0 l0.length c0,.int .i64 a1] w fun e w'=>e=.returned (.bool r)∧Drawn0 w w':=by
 have HR0:=ak_ hr0
 have HC0:=ak_ hc0
 clear hr0 hc0
 have H:(swageref25_has.l0 k l0 a1 0)=some r:=h
 clear h
 have H':=ak_ H
 clear H
 go_enter Tryz.func79,Tryz.ntmps79
 go_wp2
 go_loopg [5] k (fun kq v5 w'=>∃ (x5_1:Int),v5=.int .i64 x5_1∧Aside0 (swageref25_has.l0 kq l0 a1 x5_1=some r)∧Aside0 (kq≤k)∧Drawn0 w w')
 case atStart=>exact ⟨(0),(by first|rfl|(simp;done)|(simp [*];done)),H',⟨Nat.le_refl _⟩,by repeat (first|exact Drawn0.refl _|apply Drawn0.step)⟩
 case round =>
  clear H'
  obtain ⟨x5_1,rfl,HA,HK1,⟨m1,rfl⟩⟩:=hrel
  cases gk with
  | zero=>exact absurd HA.out (by simp [swageref25_has.l0])
  | succ k1 =>
   have H:=HA.out
   clear HA
   simp only [swageref25_has.l0] at H
   by_cases c3:x5_1<(l0.length:Int)
   ·rw [if_pos c3] at H
    have c3b0:decide (x5_1<(l0.length:Int))=true:=decide_eq_true c3
    clear c3
    by_cases c4:0≤x5_1
    ·rw [if_pos c4] at H
     have c4b0:decide (0≤x5_1)=true:=decide_eq_true c4
     clear c4
     by_cases c5:(rd l0 x5_1)=a1
     ·rw [if_pos c5] at H
      have c5b0:((rd l0 x5_1) == a1)=true:=beq_iff_eq.mpr c5
      have c5b1:((rd l0 x5_1) != a1)=false:=bne_eq_false_iff_eq.mpr c5
      clear c5
      obtain rfl:=Option.some.inj H
      have p388:0≤(x5_1:Int):=of_decide_eq_true (by first|(with_reducible assumption)|assumption)
      have q388:x5_1<(l0.length:Int):=of_decide_eq_true (by first|(with_reducible assumption)|assumption)
      obtain ⟨ad388,e388,hx388_0⟩:=Kd.at_int HR0.out x5_1 p388 q388
      cases e388
      replace p388:=eq_true p388
      replace q388:=eq_true q388
      go_wp2
      go_ret
      exact ⟨by first|rfl|(simp;done)|(simp [*];done),by repeat (first|exact Drawn0.refl _|apply Drawn0.step)⟩
     ·rw [if_neg c5] at H
      have c5b0:((rd l0 x5_1) == a1)=false:=beq_eq_false_iff_ne.mpr c5
      have c5b1:((rd l0 x5_1) != a1)=true:=bne_iff_ne.mpr c5
      have H':=ak_ H
      clear H
      have p388:0≤(x5_1:Int):=of_decide_eq_true (by first|(with_reducible assumption)|assumption)
      have q388:x5_1<(l0.length:Int):=of_decide_eq_true (by first|(with_reducible assumption)|assumption)
      obtain ⟨ad388,e388,hx388_0⟩:=Kd.at_int HR0.out x5_1 p388 q388
      cases e388
      replace p388:=eq_true p388
      replace q388:=eq_true q388
      go_wp2
      go_roundg k1
      case measure=>have:=HK1.out;omega
      case rel=>exact ⟨(wrap64 (x5_1+1)),(by first|rfl|(simp;done)|(simp [*];done)),H',⟨by have:=HK1.out;omega⟩,by repeat (first|exact Drawn0.refl _|apply Drawn0.step)⟩
    ·rw [if_neg c4] at H
     exact absurd H (by simp)
   ·rw [if_neg c3] at H
    have c3b0:decide (x5_1<(l0.length:Int))=false:=decide_eq_false c3
    clear c3
    obtain rfl:=Option.some.inj H
    go_wp2
    go_ret
    exact ⟨by first|rfl|(simp;done)|(simp [*];done),by repeat (first|exact Drawn0.refl _|apply Drawn0.step)⟩

