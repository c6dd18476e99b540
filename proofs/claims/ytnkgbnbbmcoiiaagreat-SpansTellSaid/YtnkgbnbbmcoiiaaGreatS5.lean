-- a text of the seat,by a program
import Derived.Test.YtnkgbnbbmcoiiaaGreatBk
import Derived.Test.YtnkgbnbbmcoiiaaGreatS0
import Derived.Test.YtnkgbnbbmcoiiaaGreatS4
namespace Go.Proofs.YtnkgbnbbmcoiiaaGreat.S
open Go.RowKit Go.Proofs.YtnkgbnbbmcoiiaaGreatW.PrintWords Go.Proofs.YtnkgbnbbmcoiiaaGreatW.PrintLast Go.Proofs.YtnkgbnbbmcoiiaaGreatW.PrintMore
attribute [local go_sem] max2_int min2_int max_two min_two max_three min_three max_four min_four   -- for this text's walks alone
set_option linter.unusedVariables false
set_option linter.unusedSimpArgs false

/-! ### code_Pure: function 58 -/
/-! ### spans_has: function 63 -/
def spans_has.f (a0_0:Int) (a0_1:Int) (a0_2:Int) (a1:Int):Option (Bool):=if a0_1≤a1 then (some (decide (a1≤a0_2))) else (some false)
set_option maxHeartbeats 8000000 in
set_option maxRecDepth 100000 in
theorem spans_has.calls (a0_0:Int) (a0_1:Int) (a0_2:Int) (a1:Int) (r:Bool) (w:World) (h:spans_has.f a0_0 a0_1 a0_2 a1=some r) :
  Calls Tryz.prog 63 #[.agg #[.int .i64 a0_0,.int .i64 a0_1,.int .i64 a0_2],.int .i64 a1] w fun e w'=>e=.returned (.bool r)∧Below w.heap.size w w':=by
 have hu52:=Tryz.underlying52
 have HB:=ak_ (Below.refl w.heap.size w)
 have H:(if a0_1≤a1 then (some (decide (a1≤a0_2))) else (some false))=some r:=h
 clear h
 by_cases c3:a0_1≤a1
 ·rw [if_pos c3] at H
  have c3b0:decide (a0_1≤a1)=true:=decide_eq_true c3
  clear c3
  obtain rfl:=Option.some.inj H
  go_enter Tryz.func63,Tryz.ntmps63
  go_wp2_with (first|((with_reducible refine gate_dst (N:=2) rfl ?_);refine box_event ?hg (N:=2) ?hd (cs:=#[.int .i64 a0_0,.int .i64 a0_1,.int .i64 a0_2]) (t:=52) ?hr ?_;(case hd=>rfl);(case hg=>rfl);(case hr=>first|(go_simp;done)|(go_simp;rfl));intro gb151 hg w4 hbox hb;have n0_:=ak_ (below_step (bl_ HB) hb);have n1_:=ak_ (hbox);have n2_:=ak_ ((by rw [hg];exact (below_size (bl_ HB)):w.heap.size≤gb151));have n3_:=ak_ ((by rw [hg];exact (below_size (bl_ HB)):w.heap.size≤gb151));clear HB;have HB:=n0_;have BK151:=n1_;have GW151:=n2_;have GE151:=n3_;clear n0_ n1_ n2_ n3_;clear hb hbox hg;have hcz5_0:=ck_ BK151 0;have hcz5_1:=ck_ BK151 1;have hcz5_2:=ck_ BK151 2;have hfz5_0:=fz_ BK151 0;have hfz5_1:=fz_ BK151 1;have hfz5_2:=fz_ BK151 2))
  go_ret
  exact ⟨by first|rfl|(simp [errW_none,errW_some]<;>rfl)|(simp [*,errW_none,errW_some]<;>rfl),bl_ HB⟩
 ·rw [if_neg c3] at H
  have c3b0:decide (a0_1≤a1)=false:=decide_eq_false c3
  clear c3
  obtain rfl:=Option.some.inj H
  go_enter Tryz.func63,Tryz.ntmps63
  go_wp2_with (first|((with_reducible refine gate_dst (N:=2) rfl ?_);refine box_event ?hg (N:=2) ?hd (cs:=#[.int .i64 a0_0,.int .i64 a0_1,.int .i64 a0_2]) (t:=52) ?hr ?_;(case hd=>rfl);(case hg=>rfl);(case hr=>first|(go_simp;done)|(go_simp;rfl));intro gb151 hg w6 hbox hb;have n0_:=ak_ (below_step (bl_ HB) hb);have n1_:=ak_ (hbox);have n2_:=ak_ ((by rw [hg];exact (below_size (bl_ HB)):w.heap.size≤gb151));have n3_:=ak_ ((by rw [hg];exact (below_size (bl_ HB)):w.heap.size≤gb151));clear HB;have HB:=n0_;have BK151:=n1_;have GW151:=n2_;have GE151:=n3_;clear n0_ n1_ n2_ n3_;clear hb hbox hg;have hcz7_0:=ck_ BK151 0;have hcz7_1:=ck_ BK151 1;have hcz7_2:=ck_ BK151 2;have hfz7_0:=fz_ BK151 0;have hfz7_1:=fz_ BK151 1;have hfz7_2:=fz_ BK151 2))
  go_ret
  exact ⟨by first|rfl|(simp [errW_none,errW_some]<;>rfl)|(simp [*,errW_none,errW_some]<;>rfl),bl_ HB⟩

/-! ### spans_Cross: function 34 -/
def spans_Cross.f (a0_0:Int) (a0_1:Int) (a0_2:Int) (a1_0:Int) (a1_1:Int) (a1_2:Int):Option (Bool):=(spans_has.f a0_0 a0_1 a0_2 (mx a0_1 a1_1)).bind fun t154=>(if t154=true then ((spans_has.f a1_0 a1_1 a1_2 (mx a0_1 a1_1)).bind fun t155=>(some t155)) else (some false))
set_option maxHeartbeats 8000000 in
set_option maxRecDepth 100000 in
theorem spans_Cross.calls (a0_0:Int) (a0_1:Int) (a0_2:Int) (a1_0:Int) (a1_1:Int) (a1_2:Int) (r:Bool) (w:World) (h:spans_Cross.f a0_0 a0_1 a0_2 a1_0 a1_1 a1_2=some r) :
  Calls Tryz.prog 34 #[.agg #[.int .i64 a0_0,.int .i64 a0_1,.int .i64 a0_2],.agg #[.int .i64 a1_0,.int .i64 a1_1,.int .i64 a1_2]] w fun e w'=>e=.returned (.bool r)∧Below w.heap.size w w':=by
 have hu52:=Tryz.underlying52
 have HB:=ak_ (Below.refl w.heap.size w)
 have H:((spans_has.f a0_0 a0_1 a0_2 (mx a0_1 a1_1)).bind fun t154=>(if t154=true then ((spans_has.f a1_0 a1_1 a1_2 (mx a0_1 a1_1)).bind fun t155=>(some t155)) else (some false)))=some r:=h
 clear h
 obtain ⟨ji3,hji3⟩:∃ j_:Int,(mx a0_1 a1_1)=j_:=⟨_,rfl⟩
 replace H:((spans_has.f a0_0 a0_1 a0_2 (ji3)).bind fun t154=>(if t154=true then ((spans_has.f a1_0 a1_1 a1_2 (ji3)).bind fun t155=>(some t155)) else (some false)))=some r:=by first|(rw [hji3] at H;exact H)|(simp only [hji3] at H ⊢;exact H)
 have hji3_:(if a0_1<a1_1 then a1_1 else a0_1)=ji3:=hji3
 replace H:=Option.bind_eq_some_iff.mp H
 obtain ⟨t154,A40,H⟩:=H
 replace H:(if t154=true then ((spans_has.f a1_0 a1_1 a1_2 (ji3)).bind fun t155=>(some t155)) else (some false))=some r:=H
 have A4:=ak_ A40
 clear A40
 by_cases c5:t154=true
 ·subst c5
  have H1:((spans_has.f a1_0 a1_1 a1_2 (ji3)).bind fun t155=>(some t155))=some r:=by rw [if_pos rfl] at H;exact H
  clear H
  have H:=H1
  clear H1
  replace H:=Option.bind_eq_some_iff.mp H
  obtain ⟨t155,A60,H⟩:=H
  replace H:(some t155)=some r:=H
  have A6:=ak_ A60
  clear A60
  obtain rfl:=Option.some.inj H
  go_enter Tryz.func34,Tryz.ntmps34
  go_wp2_with (first|((with_reducible refine gate_dst (N:=2) rfl ?_);refine box_event ?hg (N:=2) ?hd (cs:=#[.int .i64 a0_0,.int .i64 a0_1,.int .i64 a0_2]) (t:=52) ?hr ?_;(case hd=>rfl);(case hg=>rfl);(case hr=>first|(go_simp;done)|(go_simp;rfl));intro gb152 hg w7 hbox hb;have n0_:=ak_ (below_step (bl_ HB) hb);have n1_:=ak_ (hbox);have n2_:=ak_ ((by rw [hg];exact (below_size (bl_ HB)):w.heap.size≤gb152));have n3_:=ak_ ((by rw [hg];exact (below_size (bl_ HB)):w.heap.size≤gb152));clear HB;have HB:=n0_;have BK152:=n1_;have GW152:=n2_;have GE152:=n3_;clear n0_ n1_ n2_ n3_;clear hb hbox hg)|((with_reducible refine gate_dst (N:=3) rfl ?_);refine box_event ?hg (N:=3) ?hd (cs:=#[.int .i64 a1_0,.int .i64 a1_1,.int .i64 a1_2]) (t:=52) ?hr ?_;(case hd=>rfl);(case hg=>rfl);(case hr=>first|(go_simp;done)|(go_simp;rfl));intro gb153 hg w8 hbox hb;have n0_:=ak_ (blk_below (g:=gb152) (o:=.cells #[.int .i64 a0_0,.int .i64 a0_1,.int .i64 a0_2] 52 (0,0)) (bk_ BK152) hb);have n1_:=ak_ (below_step (bl_ HB) hb);have n2_:=ak_ (hbox);have n3_:=ak_ ((by rw [hg];exact (below_size (bl_ HB)):w.heap.size≤gb153));have n4_:=ak_ ((by rw [hg];exact (below_size (bl_ HB)):w.heap.size≤gb153));have n5_:=ak_ ((by rw [hg];exact Nat.ne_of_lt (blk_lt (g:=gb152) (o:=.cells #[.int .i64 a0_0,.int .i64 a0_1,.int .i64 a0_2] 52 (0,0)) (bk_ BK152)):gb152≠gb153));have n6_:=ak_ ((by rw [hg];exact Nat.ne_of_gt (blk_lt (g:=gb152) (o:=.cells #[.int .i64 a0_0,.int .i64 a0_1,.int .i64 a0_2] 52 (0,0)) (bk_ BK152)):gb153≠gb152));clear BK152;clear HB;have BK152:=n0_;have HB:=n1_;have BK153:=n2_;have GW153:=n3_;have GE153:=n4_;have NB152_153:=n5_;have NB153_152:=n6_;clear n0_ n1_ n2_ n3_ n4_ n5_ n6_;clear hb hbox hg;have hnb9:=NB152_153.out;have hnc9:=NB153_152.out;have hcz10_0:=ck_ BK152 0;have hcz10_1:=ck_ BK152 1;have hcz10_2:=ck_ BK152 2;have hfz10_0:=fz_ BK152 0;have hfz10_1:=fz_ BK152 1;have hfz10_2:=fz_ BK152 2;have hcz11_0:=ck_ BK153 0;have hcz11_1:=ck_ BK153 1;have hcz11_2:=ck_ BK153 2;have hfz11_0:=fz_ BK153 0;have hfz11_1:=fz_ BK153 1;have hfz11_2:=fz_ BK153 2)|((with_reducible refine gate_callee (f:=63) rfl ?_);refine goesL_ (some 13) rfl rfl Tryz.func63 (by kernel_rfl) rfl #[.agg #[.int .i64 a0_0,.int .i64 a0_1,.int .i64 a0_2],.int .i64 ji3] rfl (by (try simp only [List.map_toArray,List.map_cons,List.map_nil]);first|done|(simp only [hji3];rfl)|rfl|(simp only [List.length_drop,List.length_take];rfl)) ?_;(with_reducible refine (spans_has.calls a0_0 a0_1 a0_2 ji3 true _ A4.out).mono ?_);rintro e w12 ⟨rfl,hb⟩;refine ⟨_,rfl,?_⟩;have n0_:=ak_ (blk_below (g:=gb152) (o:=.cells #[.int .i64 a0_0,.int .i64 a0_1,.int .i64 a0_2] 52 (0,0)) (bk_ BK152) hb);have n1_:=ak_ (blk_below (g:=gb153) (o:=.cells #[.int .i64 a1_0,.int .i64 a1_1,.int .i64 a1_2] 52 (0,0)) (bk_ BK153) hb);have n2_:=ak_ (below_step (bl_ HB) hb);clear BK152;clear BK153;clear HB;have BK152:=n0_;have BK153:=n1_;have HB:=n2_;clear n0_ n1_ n2_;(try clear hb);(try clear hb2);(try clear hk);(try clear hi);have hcz13_0:=ck_ BK153 0;have hcz13_1:=ck_ BK153 1;have hcz13_2:=ck_ BK153 2;have hfz13_0:=fz_ BK153 0;have hfz13_1:=fz_ BK153 1;have hfz13_2:=fz_ BK153 2)|(go_at_call 63;(with_reducible refine (spans_has.calls a1_0 a1_1 a1_2 ji3 t155 _ A6.out).mono ?_);rintro e w14 ⟨rfl,hb⟩;have n0_:=ak_ (blk_below (g:=gb152) (o:=.cells #[.int .i64 a0_0,.int .i64 a0_1,.int .i64 a0_2] 52 (0,0)) (bk_ BK152) hb);have n1_:=ak_ (blk_below (g:=gb153) (o:=.cells #[.int .i64 a1_0,.int .i64 a1_1,.int .i64 a1_2] 52 (0,0)) (bk_ BK153) hb);have n2_:=ak_ (below_step (bl_ HB) hb);clear BK152;clear BK153;clear HB;have BK152:=n0_;have BK153:=n1_;have HB:=n2_;clear n0_ n1_ n2_;(try clear hb);(try clear hb2);(try clear hk);(try clear hi)))
  go_ret
  exact ⟨by first|rfl|(simp [errW_none,errW_some]<;>rfl)|(simp only [← hji3];first|rfl|(simp [errW_none,errW_some]<;>rfl))|(simp [*,errW_none,errW_some]<;>rfl),bl_ HB⟩
 ·replace c5:=Bool.eq_false_iff.mpr c5
  subst c5
  have H1:(some false)=some r:=by rw [if_neg (show ¬ (false=true) by decide)] at H;exact H
  clear H
  have H:=H1
  clear H1
  obtain rfl:=Option.some.inj H
  go_enter Tryz.func34,Tryz.ntmps34
  go_wp2_with (first|((with_reducible refine gate_dst (N:=2) rfl ?_);refine box_event ?hg (N:=2) ?hd (cs:=#[.int .i64 a0_0,.int .i64 a0_1,.int .i64 a0_2]) (t:=52) ?hr ?_;(case hd=>rfl);(case hg=>rfl);(case hr=>first|(go_simp;done)|(go_simp;rfl));intro gb152 hg w15 hbox hb;have n0_:=ak_ (below_step (bl_ HB) hb);have n1_:=ak_ (hbox);have n2_:=ak_ ((by rw [hg];exact (below_size (bl_ HB)):w.heap.size≤gb152));have n3_:=ak_ ((by rw [hg];exact (below_size (bl_ HB)):w.heap.size≤gb152));clear HB;have HB:=n0_;have BK152:=n1_;have GW152:=n2_;have GE152:=n3_;clear n0_ n1_ n2_ n3_;clear hb hbox hg)|((with_reducible refine gate_dst (N:=3) rfl ?_);refine box_event ?hg (N:=3) ?hd (cs:=#[.int .i64 a1_0,.int .i64 a1_1,.int .i64 a1_2]) (t:=52) ?hr ?_;(case hd=>rfl);(case hg=>rfl);(case hr=>first|(go_simp;done)|(go_simp;rfl));intro gb153 hg w16 hbox hb;have n0_:=ak_ (blk_below (g:=gb152) (o:=.cells #[.int .i64 a0_0,.int .i64 a0_1,.int .i64 a0_2] 52 (0,0)) (bk_ BK152) hb);have n1_:=ak_ (below_step (bl_ HB) hb);have n2_:=ak_ (hbox);have n3_:=ak_ ((by rw [hg];exact (below_size (bl_ HB)):w.heap.size≤gb153));have n4_:=ak_ ((by rw [hg];exact (below_size (bl_ HB)):w.heap.size≤gb153));have n5_:=ak_ ((by rw [hg];exact Nat.ne_of_lt (blk_lt (g:=gb152) (o:=.cells #[.int .i64 a0_0,.int .i64 a0_1,.int .i64 a0_2] 52 (0,0)) (bk_ BK152)):gb152≠gb153));have n6_:=ak_ ((by rw [hg];exact Nat.ne_of_gt (blk_lt (g:=gb152) (o:=.cells #[.int .i64 a0_0,.int .i64 a0_1,.int .i64 a0_2] 52 (0,0)) (bk_ BK152)):gb153≠gb152));clear BK152;clear HB;have BK152:=n0_;have HB:=n1_;have BK153:=n2_;have GW153:=n3_;have GE153:=n4_;have NB152_153:=n5_;have NB153_152:=n6_;clear n0_ n1_ n2_ n3_ n4_ n5_ n6_;clear hb hbox hg;have hnb17:=NB152_153.out;have hnc17:=NB153_152.out;have hcz18_0:=ck_ BK152 0;have hcz18_1:=ck_ BK152 1;have hcz18_2:=ck_ BK152 2;have hfz18_0:=fz_ BK152 0;have hfz18_1:=fz_ BK152 1;have hfz18_2:=fz_ BK152 2;have hcz19_0:=ck_ BK153 0;have hcz19_1:=ck_ BK153 1;have hcz19_2:=ck_ BK153 2;have hfz19_0:=fz_ BK153 0;have hfz19_1:=fz_ BK153 1;have hfz19_2:=fz_ BK153 2)|((with_reducible refine gate_callee (f:=63) rfl ?_);refine goesL_ (some 13) rfl rfl Tryz.func63 (by kernel_rfl) rfl #[.agg #[.int .i64 a0_0,.int .i64 a0_1,.int .i64 a0_2],.int .i64 ji3] rfl (by (try simp only [List.map_toArray,List.map_cons,List.map_nil]);first|done|(simp only [hji3];rfl)|rfl|(simp only [List.length_drop,List.length_take];rfl)) ?_;(with_reducible refine (spans_has.calls a0_0 a0_1 a0_2 ji3 false _ A4.out).mono ?_);rintro e w20 ⟨rfl,hb⟩;refine ⟨_,rfl,?_⟩;have n0_:=ak_ (blk_below (g:=gb152) (o:=.cells #[.int .i64 a0_0,.int .i64 a0_1,.int .i64 a0_2] 52 (0,0)) (bk_ BK152) hb);have n1_:=ak_ (blk_below (g:=gb153) (o:=.cells #[.int .i64 a1_0,.int .i64 a1_1,.int .i64 a1_2] 52 (0,0)) (bk_ BK153) hb);have n2_:=ak_ (below_step (bl_ HB) hb);clear BK152;clear BK153;clear HB;have BK152:=n0_;have BK153:=n1_;have HB:=n2_;clear n0_ n1_ n2_;(try clear hb);(try clear hb2);(try clear hk);(try clear hi)))
  go_ret
  exact ⟨by first|rfl|(simp [errW_none,errW_some]<;>rfl)|(simp only [← hji3];first|rfl|(simp [errW_none,errW_some]<;>rfl))|(simp [*,errW_none,errW_some]<;>rfl),bl_ HB⟩

/-! ### swageref02_Ints: function 10 -/
def swageref02_Ints.l0:Nat→List Int→List Int→Int→Option (Bool)
 | 0,_,_,_=>none
 | k+1,x0,x1,x5=>if x5<(x0.length:Int) then (if 0≤x5 then (if x5<(x1.length:Int) then (if (rd x0 x5)=(rd x1 x5) then (swageref02_Ints.l0 k x0 x1 (wrap64 (x5+1))) else (some false)) else (none)) else (none)) else (some true)
def swageref02_Ints.f (k:Nat) (l0:List Int) (l1:List Int):Option (Bool):=if (l0.length:Int)=(l1.length:Int) then (swageref02_Ints.l0 k l0 l1 0) else (some false)
set_option maxHeartbeats 8000000 in
set_option maxRecDepth 100000 in
theorem swageref02_Ints.calls (k:Nat) (A0:Option Addr) (c0:Nat) (l0:List Int) (A1:Option Addr) (c1:Nat) (l1:List Int) (r:Bool) (w:World) (hr0:Kd.C (Kd.int .i64) w A0 l0.length l0) (hc0:l0.length≤c0) (hr1:Kd.C (Kd.int .i64) w A1 l1.length l1) (hc1:l1.length≤c1) (h:swageref02_Ints.f k l0 l1=some r) :
  Calls Tryz.prog 10 #[.slice A0 l0.length c0,.slice A1 l1.length c1] w fun e w'=>e=.returned (.bool r)∧Drawn0 w w':=by
 have HR0:=ak_ hr0
 have HC0:=ak_ hc0
 clear hr0 hc0
 have HR1:=ak_ hr1
 have HC1:=ak_ hc1
 clear hr1 hc1
 have H:(if (l0.length:Int)=(l1.length:Int) then (swageref02_Ints.l0 k l0 l1 0) else (some false))=some r:=h
 clear h
 by_cases c3:(l0.length:Int)=(l1.length:Int)
 ·rw [if_pos c3] at H
  have c3b0:((l0.length:Int) == (l1.length:Int))=true:=beq_iff_eq.mpr c3
  have c3b1:((l0.length:Int) != (l1.length:Int))=false:=bne_eq_false_iff_eq.mpr c3
  have c3b2:(l0.length == l1.length)=true:=by first|simpa using c3|(simp at c3 ⊢;omega)
  clear c3
  have H':=ak_ H
  clear H
  go_enter Tryz.func10,Tryz.ntmps10
  go_wp2
  repeat (go_quiet (fail);try go_wp2)
  go_loopg [5] k (fun kq v5 w'=>∃ (x5_1:Int),v5=.int .i64 x5_1∧Aside0 (swageref02_Ints.l0 kq l0 l1 x5_1=some r)∧Aside0 (kq≤k)∧Drawn0 w w')
  case atStart=>exact ⟨(0),(by first|rfl|(simp;done)|(simp [*];done)),H',⟨Nat.le_refl _⟩,by repeat (first|exact Drawn0.refl _|apply Drawn0.step)⟩
  case round =>
   clear H'
   obtain ⟨x5_1,rfl,HA,HK1,⟨m1,rfl⟩⟩:=hrel
   cases gk with
   | zero=>exact absurd HA.out (by simp [swageref02_Ints.l0])
   | succ k1 =>
    have H:=HA.out
    clear HA
    simp only [swageref02_Ints.l0] at H
    by_cases c4:x5_1<(l0.length:Int)
    ·rw [if_pos c4] at H
     have c4b0:decide (x5_1<(l0.length:Int))=true:=decide_eq_true c4
     clear c4
     by_cases c5:0≤x5_1
     ·rw [if_pos c5] at H
      have c5b0:decide (0≤x5_1)=true:=decide_eq_true c5
      clear c5
      by_cases c6:x5_1<(l1.length:Int)
      ·rw [if_pos c6] at H
       have c6b0:decide (x5_1<(l1.length:Int))=true:=decide_eq_true c6
       clear c6
       by_cases c7:(rd l0 x5_1)=(rd l1 x5_1)
       ·rw [if_pos c7] at H
        have c7b0:((rd l0 x5_1) == (rd l1 x5_1))=true:=beq_iff_eq.mpr c7
        have c7b1:((rd l0 x5_1) != (rd l1 x5_1))=false:=bne_eq_false_iff_eq.mpr c7
        clear c7
        have H':=ak_ H
        clear H
        have p156:0≤(x5_1:Int):=of_decide_eq_true (by first|(with_reducible assumption)|assumption)
        have q156:x5_1<(l0.length:Int):=of_decide_eq_true (by first|(with_reducible assumption)|assumption)
        obtain ⟨ad156,e156,hx156_0⟩:=Kd.at_int HR0.out x5_1 p156 q156
        cases e156
        replace p156:=eq_true p156
        replace q156:=eq_true q156
        have p157:0≤(x5_1:Int):=of_decide_eq_true (by first|(with_reducible assumption)|assumption)
        have q157:x5_1<(l1.length:Int):=of_decide_eq_true (by first|(with_reducible assumption)|assumption)
        obtain ⟨ad157,e157,hx157_0⟩:=Kd.at_int HR1.out x5_1 p157 q157
        cases e157
        replace p157:=eq_true p157
        replace q157:=eq_true q157
        go_wp2
        repeat (go_quiet (fail);try go_wp2)
        go_roundg k1
        case measure=>have:=HK1.out;omega
        case rel=>exact ⟨(wrap64 (x5_1+1)),(by first|rfl|(simp;done)|(simp [*];done)),H',⟨by have:=HK1.out;omega⟩,by repeat (first|exact Drawn0.refl _|apply Drawn0.step)⟩
       ·rw [if_neg c7] at H
        have c7b0:((rd l0 x5_1) == (rd l1 x5_1))=false:=beq_eq_false_iff_ne.mpr c7
        have c7b1:((rd l0 x5_1) != (rd l1 x5_1))=true:=bne_iff_ne.mpr c7
        obtain rfl:=Option.some.inj H
        have p156:0≤(x5_1:Int):=of_decide_eq_true (by first|(with_reducible assumption)|assumption)
        have q156:x5_1<(l0.length:Int):=of_decide_eq_true (by first|(with_reducible assumption)|assumption)
        obtain ⟨ad156,e156,hx156_0⟩:=Kd.at_int HR0.out x5_1 p156 q156
        cases e156
        replace p156:=eq_true p156
        replace q156:=eq_true q156
        have p157:0≤(x5_1:Int):=of_decide_eq_true (by first|(with_reducible assumption)|assumption)
        have q157:x5_1<(l1.length:Int):=of_decide_eq_true (by first|(with_reducible assumption)|assumption)
        obtain ⟨ad157,e157,hx157_0⟩:=Kd.at_int HR1.out x5_1 p157 q157
        cases e157
        replace p157:=eq_true p157
        replace q157:=eq_true q157
        go_wp2
        repeat (go_quiet (fail);try go_wp2)
        go_ret
        exact ⟨by first|rfl|(simp;done)|(simp [*];done),by repeat (first|exact Drawn0.refl _|apply Drawn0.step)⟩
      ·rw [if_neg c6] at H
       exact absurd H (by simp)
     ·rw [if_neg c5] at H
      exact absurd H (by simp)
    ·rw [if_neg c4] at H
     have c4b0:decide (x5_1<(l0.length:Int))=false:=decide_eq_false c4
     clear c4
     obtain rfl:=Option.some.inj H
     go_wp2
     repeat (go_quiet (fail);try go_wp2)
     go_ret
     exact ⟨by first|rfl|(simp;done)|(simp [*];done),by repeat (first|exact Drawn0.refl _|apply Drawn0.step)⟩
 ·rw [if_neg c3] at H
  have c3b0:((l0.length:Int) == (l1.length:Int))=false:=beq_eq_false_iff_ne.mpr c3
  have c3b1:((l0.length:Int) != (l1.length:Int))=true:=bne_iff_ne.mpr c3
  have c3b2:(l0.length == l1.length)=false:=by first|simpa using c3|(simp at c3 ⊢;omega)
  obtain rfl:=Option.some.inj H
  go_enter Tryz.func10,Tryz.ntmps10
  go_wp2
  repeat (go_quiet (fail);try go_wp2)
  go_ret
  exact ⟨by first|rfl|(simp;done)|(simp [*];done),by repeat (first|exact Drawn0.refl _|apply Drawn0.step)⟩

/-! ### swageref14_Uses: function 66 -/
mutual
def swageref14_Uses.j0:Nat→Int→Bool→Int→Int→Int→Int→Int→List Int→Option (List Int)
 | 0,_,_,_,_,_,_,_,_=>none
 | k+1,x4,x5,x159000,x159001,x159002,x159003,x159004,x159005=>if x5=true then (some (([x159002,x159003]:List Int))) else (if x4=3 then (swageref14_Uses.j1 k x4 (x4 == 3) x159000 x159001 x159002 x159003 x159004 x159005) else (if x4=4 then (swageref14_Uses.j1 k x4 (x4 == 4) x159000 x159001 x159002 x159003 x159004 x159005) else (swageref14_Uses.j1 k x4 (x4 == 9) x159000 x159001 x159002 x159003 x159004 x159005)))
def swageref14_Uses.j1:Nat→Int→Bool→Int→Int→Int→Int→Int→List Int→Option (List Int)
 | 0,_,_,_,_,_,_,_,_=>none
 | k+1,x4,x13,x159000,x159001,x159002,x159003,x159004,x159005=>if x13=true then (some (([x159002]:List Int))) else (if x4=7 then ((some (([]:List Int):List Int)).bind fun y165=>(if y165.length+x159005.length<17592186044416 then (some (y165++x159005)) else (none))) else (some ([]:List Int)))
end
def swageref14_Uses.f (k:Nat) (a0_0:Int) (a0_1:Int) (a0_2:Int) (a0_3:Int) (a0_4:Int) (l0_5:List Int):Option (List Int):=if a0_0=2 then (swageref14_Uses.j0 k a0_0 (a0_0 == 2) a0_0 a0_1 a0_2 a0_3 a0_4 l0_5) else (swageref14_Uses.j0 k a0_0 (a0_0 == 5) a0_0 a0_1 a0_2 a0_3 a0_4 l0_5)
set_option maxHeartbeats 8000000 in
set_option maxRecDepth 100000 in
theorem swageref14_Uses.calls (k:Nat) (a0_0:Int) (a0_1:Int) (a0_2:Int) (a0_3:Int) (a0_4:Int) (A0_5:Option Addr) (c0_5:Nat) (l0_5:List Int) (r:List Int) (w:World) (hr0_5:Kd.C (Kd.int .i64) w A0_5 l0_5.length l0_5) (hc0_5:l0_5.length≤c0_5) (h:swageref14_Uses.f k a0_0 a0_1 a0_2 a0_3 a0_4 l0_5=some r) :
  Calls Tryz.prog 66 #[.agg #[.int .i64 a0_0,.int .i64 a0_1,.int .i64 a0_2,.int .i64 a0_3,.int .i64 a0_4,.slice A0_5 l0_5.length c0_5]] w fun e w'=>∃ v0_:Value,e=.returned (v0_)∧Kd.R (Kd.int .i64) 3 w' w.heap.size (fun _=>True) v0_ r∧Below w.heap.size w w':=by
 have hu45:=Tryz.underlying45
 have HR0_5:=ak_ hr0_5
 have HC0_5:=ak_ hc0_5
 clear hr0_5 hc0_5
 have HB:=ak_ (Below.refl w.heap.size w)
 have H:(if a0_0=2 then (swageref14_Uses.j0 k a0_0 (a0_0 == 2) a0_0 a0_1 a0_2 a0_3 a0_4 l0_5) else (swageref14_Uses.j0 k a0_0 (a0_0 == 5) a0_0 a0_1 a0_2 a0_3 a0_4 l0_5))=some r:=h
 clear h
 have HC2:=ak_ H
 clear H
 go_enter Tryz.func66,Tryz.ntmps66
 go_upto_if 5 with (first|((with_reducible refine gate_dst (N:=1) rfl ?_);refine box_event ?hg (N:=1) ?hd (cs:=#[.int .i64 a0_0,.int .i64 a0_1,.int .i64 a0_2,.int .i64 a0_3,.int .i64 a0_4,.slice A0_5 l0_5.length c0_5]) (t:=45) ?hr ?_;(case hd=>rfl);(case hg=>rfl);(case hr=>first|(go_simp;done)|(go_simp;rfl));intro gb158 hg w3 hbox hb;have n0_:=ak_ (below_step (bl_ HB) hb);have n1_:=ak_ (hbox);have n2_:=ak_ ((by rw [hg];exact (below_size (bl_ HB)):w.heap.size≤gb158));have n3_:=ak_ ((by rw [hg];exact (below_size (bl_ HB)):w.heap.size≤gb158));clear HB;have HB:=n0_;have BK158:=n1_;have GW158:=n2_;have GE158:=n3_;clear n0_ n1_ n2_ n3_;clear hb hbox hg;have hcz4_0:=ck_ BK158 0;have hcz4_1:=ck_ BK158 1;have hcz4_2:=ck_ BK158 2;have hcz4_3:=ck_ BK158 3;have hcz4_4:=ck_ BK158 4;have hcz4_5:=ck_ BK158 5;have hfz4_0:=fz_ BK158 0;have hfz4_1:=fz_ BK158 1;have hfz4_2:=fz_ BK158 2;have hfz4_3:=fz_ BK158 3;have hfz4_4:=fz_ BK158 4;have hfz4_5:=fz_ BK158 5))
 (try simp only [Act.put,pa_,pb_,pc_])
 go_cut [5] (fun v5 wc=>∃ (kq:Nat) (x5_1:Bool),v5=.bool x5_1∧Aside0 (swageref14_Uses.j0 kq a0_0 x5_1 a0_0 a0_1 a0_2 a0_3 a0_4 l0_5=some r)∧Aside0 (kq≤k)∧Aside0 (wc.heap[gb158]?=some (.cells #[.int .i64 a0_0,.int .i64 a0_1,.int .i64 a0_2,.int .i64 a0_3,.int .i64 a0_4,(.slice A0_5 l0_5.length c0_5)] 45 (0,0)))∧Aside0 (Below w.heap.size w wc))
 case first =>
  have H:=HC2.out
  clear HC2
  by_cases c5:a0_0=2
  ·rw [if_pos c5] at H
   have c5b0:(a0_0 == 2)=true:=beq_iff_eq.mpr c5
   have c5b1:(a0_0 != 2)=false:=bne_eq_false_iff_eq.mpr c5
   clear c5
   (first|rw [c5b0]|(simp only [i64_w,i32_w];rw [c5b0])|skip)
   have H':=ak_ H
   clear H
   go_wp2
   go_meet
   case rel=>exact ⟨_,((a0_0 == 2)),(by first|rfl|(simp;done)|(simp [*];done)),H',⟨by first|omega|exact Nat.le_refl _⟩,⟨bk_ BK158⟩,⟨bl_ HB⟩⟩
  ·rw [if_neg c5] at H
   have c5b0:(a0_0 == 2)=false:=beq_eq_false_iff_ne.mpr c5
   have c5b1:(a0_0 != 2)=true:=bne_iff_ne.mpr c5
   (first|rw [c5b0]|(simp only [i64_w,i32_w];rw [c5b0])|skip)
   have H':=ak_ H
   clear H
   go_wp2
   go_meet
   case rel=>exact ⟨_,((a0_0 == 5)),(by first|rfl|(simp;done)|(simp [*];done)),H',⟨by first|omega|exact Nat.le_refl _⟩,⟨bk_ BK158⟩,⟨bl_ HB⟩⟩
 case rest =>
  clear HC2
  obtain ⟨kq,x5_1,rfl,HA,HJ1,BK158,HB⟩:=hcut
  cases kq with
  | zero=>exact absurd HA.out (by simp [swageref14_Uses.j0])
  | succ kj1 =>
   have H:=HA.out
   clear HA
   simp only [swageref14_Uses.j0] at H
   by_cases c6:x5_1=true
   ·subst c6
    have H1:(some (([a0_2,a0_3]:List Int)))=some r:=by rw [if_pos rfl] at H;exact H
    clear H
    have H:=H1
    clear H1
    obtain ⟨y159,hy159⟩:∃ y_:List Int,y_=(([a0_2,a0_3]:List Int)):=⟨_,rfl⟩
    replace H:(some y159)=some r:=by first|(rw [hy159];with_reducible exact H)|(have H2_:=(Option.bind_some _ _).symm.trans H;rw [hy159];with_reducible exact H2_)|(have H2_:=(Option.bind_some _ _).symm.trans H;with_reducible exact H2_)|with_reducible exact H|(rw [hy159];exact H)|exact H
    have Ny159:=ak_ hy159
    clear hy159
    obtain rfl:=Option.some.inj H
    have hcz7_0:=ck_ BK158 0
    have hcz7_1:=ck_ BK158 1
    have hcz7_2:=ck_ BK158 2
    have hcz7_3:=ck_ BK158 3
    have hcz7_4:=ck_ BK158 4
    have hcz7_5:=ck_ BK158 5
    have hfz7_0:=fz_ BK158 0
    have hfz7_1:=fz_ BK158 1
    have hfz7_2:=fz_ BK158 2
    have hfz7_3:=fz_ BK158 3
    have hfz7_4:=fz_ BK158 4
    have hfz7_5:=fz_ BK158 5
    go_wp2_with (first|((with_reducible refine gate_dst (N:=12) rfl ?_);refine Kd.R_lit (Kd.int .i64) _ 3 ?hg (N:=12) ?hd (xs:=([a0_2,a0_3]:List Int)) (inner:=[.int .i64 a0_2,.int .i64 a0_3]) (ok:=fun _=>True) (okp:=fun _=>True) ?hr ?hp (fun _ hk=>hk) trivial (Below.refl _ _) (Nat.le_refl _) (by simp) ?_;(case hd=>rfl);(case hg=>rfl);(case hr=>first|(go_simp;done)|(go_simp;rfl));(case hp=>exact (Reps.one (show Kd.M (Kd.int .i64) _ _ _ a0_2 [.int .i64 a0_2] from rfl) (Reps.one (show Kd.M (Kd.int .i64) _ _ _ a0_3 [.int .i64 a0_3] from rfl) (Reps.none _ _))));intro v160 w8 ho9 hb hg_ hnew_;clear hg_ hnew_;(first|rw [← Ny159.out] at ho9|(simp only [Int.reduceToNat] at ho9;rw [← Ny159.out] at ho9));have n0_:=ak_ (Kd.R_lower ho9 (below_size (bl_ HB)));have n1_:=ak_ (blk_below (g:=gb158) (o:=.cells #[.int .i64 a0_0,.int .i64 a0_1,.int .i64 a0_2,.int .i64 a0_3,.int .i64 a0_4,.slice A0_5 l0_5.length c0_5] 45 (0,0)) (bk_ BK158) hb);have n2_:=ak_ (below_step (bl_ HB) hb);clear BK158;clear HB;have HO161:=n0_;have BK158:=n1_;have HB:=n2_;clear n0_ n1_ n2_;clear hb ho9))
    go_ret
    exact ⟨_,by first|rfl|(simp [errW_none,errW_some]<;>rfl)|(simp [*,errW_none,errW_some]<;>rfl),by (with_reducible repeat (first|apply Kd.R_alloc|apply Kd.R_drewN|apply Kd.R_drew));exact HO161.out,bl_ HB⟩
   ·replace c6:=Bool.eq_false_iff.mpr c6
    subst c6
    have H1:(if a0_0=3 then (swageref14_Uses.j1 kj1 a0_0 (a0_0 == 3) a0_0 a0_1 a0_2 a0_3 a0_4 l0_5) else (if a0_0=4 then (swageref14_Uses.j1 kj1 a0_0 (a0_0 == 4) a0_0 a0_1 a0_2 a0_3 a0_4 l0_5) else (swageref14_Uses.j1 kj1 a0_0 (a0_0 == 9) a0_0 a0_1 a0_2 a0_3 a0_4 l0_5)))=some r:=by rw [if_neg (show ¬ (false=true) by decide)] at H;exact H
    clear H
    have H:=H1
    clear H1
    have HC10:=ak_ H
    clear H
    go_upto_if 13 with (fail)
    go_cut [13] (fun v13 wc=>∃ (kq:Nat) (x13_9:Bool),v13=.bool x13_9∧Aside0 (swageref14_Uses.j1 kq a0_0 x13_9 a0_0 a0_1 a0_2 a0_3 a0_4 l0_5=some r)∧Aside0 (kq≤kj1)∧Aside0 (wc.heap[gb158]?=some (.cells #[.int .i64 a0_0,.int .i64 a0_1,.int .i64 a0_2,.int .i64 a0_3,.int .i64 a0_4,(.slice A0_5 l0_5.length c0_5)] 45 (0,0)))∧Aside0 (Below w.heap.size w wc))
    case first =>
     have H:=HC10.out
     clear HC10
     by_cases c11:a0_0=3
     ·rw [if_pos c11] at H
      have c11b0:(a0_0 == 3)=true:=beq_iff_eq.mpr c11
      have c11b1:(a0_0 != 3)=false:=bne_eq_false_iff_eq.mpr c11
      clear c11
      (first|rw [c11b0]|(simp only [i64_w,i32_w];rw [c11b0])|skip)
      have H':=ak_ H
      clear H
      go_wp2
      go_meet
      case rel=>exact ⟨_,((a0_0 == 3)),(by first|rfl|(simp;done)|(simp [*];done)),H',⟨by have:=HJ1.out;first|omega|exact Nat.le_refl _⟩,⟨bk_ BK158⟩,⟨bl_ HB⟩⟩
     ·rw [if_neg c11] at H
      have c11b0:(a0_0 == 3)=false:=beq_eq_false_iff_ne.mpr c11
      have c11b1:(a0_0 != 3)=true:=bne_iff_ne.mpr c11
      (first|rw [c11b0]|(simp only [i64_w,i32_w];rw [c11b0])|skip)
      by_cases c12:a0_0=4
      ·rw [if_pos c12] at H
       have c12b0:(a0_0 == 4)=true:=beq_iff_eq.mpr c12
       have c12b1:(a0_0 != 4)=false:=bne_eq_false_iff_eq.mpr c12
       clear c12
       have H':=ak_ H
       clear H
       go_wp2
       go_meet
       case rel=>exact ⟨_,((a0_0 == 4)),(by first|rfl|(simp;done)|(simp [*];done)),H',⟨by have:=HJ1.out;first|omega|exact Nat.le_refl _⟩,⟨bk_ BK158⟩,⟨bl_ HB⟩⟩
      ·rw [if_neg c12] at H
       have c12b0:(a0_0 == 4)=false:=beq_eq_false_iff_ne.mpr c12
       have c12b1:(a0_0 != 4)=true:=bne_iff_ne.mpr c12
       have H':=ak_ H
       clear H
       go_wp2
       go_meet
       case rel=>exact ⟨_,((a0_0 == 9)),(by first|rfl|(simp;done)|(simp [*];done)),H',⟨by have:=HJ1.out;first|omega|exact Nat.le_refl _⟩,⟨bk_ BK158⟩,⟨bl_ HB⟩⟩
    case rest =>
     clear HC10
     obtain ⟨kq,x13_9,rfl,HA,HJ9,BK158,HB⟩:=hcut
     cases kq with
     | zero=>exact absurd HA.out (by simp [swageref14_Uses.j1])
     | succ kj9 =>
      have H:=HA.out
      clear HA
      simp only [swageref14_Uses.j1] at H
      by_cases c13:x13_9=true
      ·subst c13
       have H1:(some (([a0_2]:List Int)))=some r:=by rw [if_pos rfl] at H;exact H
       clear H
       have H:=H1
       clear H1
       obtain ⟨y162,hy162⟩:∃ y_:List Int,y_=(([a0_2]:List Int)):=⟨_,rfl⟩
       replace H:(some y162)=some r:=by first|(rw [hy162];with_reducible exact H)|(have H2_:=(Option.bind_some _ _).symm.trans H;rw [hy162];with_reducible exact H2_)|(have H2_:=(Option.bind_some _ _).symm.trans H;with_reducible exact H2_)|with_reducible exact H|(rw [hy162];exact H)|exact H
       have Ny162:=ak_ hy162
       clear hy162
       obtain rfl:=Option.some.inj H
       have hcz14_0:=ck_ BK158 0
       have hcz14_1:=ck_ BK158 1
       have hcz14_2:=ck_ BK158 2
       have hcz14_3:=ck_ BK158 3
       have hcz14_4:=ck_ BK158 4
       have hcz14_5:=ck_ BK158 5
       have hfz14_0:=fz_ BK158 0
       have hfz14_1:=fz_ BK158 1
       have hfz14_2:=fz_ BK158 2
       have hfz14_3:=fz_ BK158 3
       have hfz14_4:=fz_ BK158 4
       have hfz14_5:=fz_ BK158 5
       go_wp2_with (first|((with_reducible refine gate_dst (N:=19) rfl ?_);refine Kd.R_lit (Kd.int .i64) _ 3 ?hg (N:=19) ?hd (xs:=([a0_2]:List Int)) (inner:=[.int .i64 a0_2]) (ok:=fun _=>True) (okp:=fun _=>True) ?hr ?hp (fun _ hk=>hk) trivial (Below.refl _ _) (Nat.le_refl _) (by simp) ?_;(case hd=>rfl);(case hg=>rfl);(case hr=>first|(go_simp;done)|(go_simp;rfl));(case hp=>exact (Reps.one (show Kd.M (Kd.int .i64) _ _ _ a0_2 [.int .i64 a0_2] from rfl) (Reps.none _ _)));intro v163 w15 ho16 hb hg_ hnew_;clear hg_ hnew_;(first|rw [← Ny162.out] at ho16|(simp only [Int.reduceToNat] at ho16;rw [← Ny162.out] at ho16));have n0_:=ak_ (Kd.R_lower ho16 (below_size (bl_ HB)));have n1_:=ak_ (blk_below (g:=gb158) (o:=.cells #[.int .i64 a0_0,.int .i64 a0_1,.int .i64 a0_2,.int .i64 a0_3,.int .i64 a0_4,.slice A0_5 l0_5.length c0_5] 45 (0,0)) (bk_ BK158) hb);have n2_:=ak_ (below_step (bl_ HB) hb);clear BK158;clear HB;have HO164:=n0_;have BK158:=n1_;have HB:=n2_;clear n0_ n1_ n2_;clear hb ho16))
       go_ret
       exact ⟨_,by first|rfl|(simp [errW_none,errW_some]<;>rfl)|(simp [*,errW_none,errW_some]<;>rfl),by (with_reducible repeat (first|apply Kd.R_alloc|apply Kd.R_drewN|apply Kd.R_drew));exact HO164.out,bl_ HB⟩
      ·replace c13:=Bool.eq_false_iff.mpr c13
       subst c13
       have H1:(if a0_0=7 then ((some (([]:List Int):List Int)).bind fun y165=>(if y165.length+l0_5.length<17592186044416 then (some (y165++l0_5)) else (none))) else (some ([]:List Int)))=some r:=by rw [if_neg (show ¬ (false=true) by decide)] at H;exact H
       clear H
       have H:=H1
       clear H1
       by_cases c17:a0_0=7
       ·rw [if_pos c17] at H
        have c17b0:(a0_0 == 7)=true:=beq_iff_eq.mpr c17
        have c17b1:(a0_0 != 7)=false:=bne_eq_false_iff_eq.mpr c17
        clear c17
        obtain ⟨y165,hy165⟩:∃ y_:List Int,y_=(([]:List Int)):=⟨_,rfl⟩
        replace H:(if y165.length+l0_5.length<17592186044416 then (some (y165++l0_5)) else (none))=some r:=by first|(rw [hy165];with_reducible exact H)|(have H2_:=(Option.bind_some _ _).symm.trans H;rw [hy165];with_reducible exact H2_)|(have H2_:=(Option.bind_some _ _).symm.trans H;with_reducible exact H2_)|with_reducible exact H|(rw [hy165];exact H)|exact H
        have Ny165:=ak_ hy165
        clear hy165
        by_cases c18:y165.length+l0_5.length<17592186044416
        ·rw [if_pos c18] at H
         have LMc18:=ak_ c18
         clear c18
         obtain ⟨y168,hy168⟩:∃ y_:List Int,y_=(y165++l0_5):=⟨_,rfl⟩
         replace H:(some y168)=some r:=by first|(rw [hy168];with_reducible exact H)|(have H2_:=(Option.bind_some _ _).symm.trans H;rw [hy168];with_reducible exact H2_)|(have H2_:=(Option.bind_some _ _).symm.trans H;with_reducible exact H2_)|with_reducible exact H|(rw [hy168];exact H)|exact H
         have Ny168:=ak_ hy168
         clear hy168
         obtain rfl:=Option.some.inj H
         go_wp2_with (first|((with_reducible refine gate_dst (N:=22) rfl ?_);refine Kd.R_lit (Kd.int .i64) _ 3 ?hg (N:=22) ?hd (xs:=([]:List Int)) (inner:=[]) (ok:=fun _=>True) (okp:=fun _=>True) ?hr ?hp (fun _ hk=>hk) trivial (Below.refl _ _) (Nat.le_refl _) (by simp) ?_;(case hd=>rfl);(case hg=>rfl);(case hr=>first|(go_simp;done)|(go_simp;rfl));(case hp=>exact (Reps.none _ _));intro v166 w19 ho20 hb hg_ hnew_;clear hg_ hnew_;(first|rw [← Ny165.out] at ho20|(simp only [Int.reduceToNat] at ho20;rw [← Ny165.out] at ho20));have n0_:=ak_ (Kd.R_lower ho20 (below_size (bl_ HB)));have n1_:=ak_ (blk_below (g:=gb158) (o:=.cells #[.int .i64 a0_0,.int .i64 a0_1,.int .i64 a0_2,.int .i64 a0_3,.int .i64 a0_4,.slice A0_5 l0_5.length c0_5] 45 (0,0)) (bk_ BK158) hb);have n2_:=ak_ (below_step (bl_ HB) hb);clear BK158;clear HB;have HO167:=n0_;have BK158:=n1_;have HB:=n2_;clear n0_ n1_ n2_;clear hb ho20;have hcz21_0:=ck_ BK158 0;have hcz21_1:=ck_ BK158 1;have hcz21_2:=ck_ BK158 2;have hcz21_3:=ck_ BK158 3;have hcz21_4:=ck_ BK158 4;have hcz21_5:=ck_ BK158 5;have hfz21_0:=fz_ BK158 0;have hfz21_1:=fz_ BK158 1;have hfz21_2:=fz_ BK158 2;have hfz21_3:=fz_ BK158 3;have hfz21_4:=fz_ BK158 4;have hfz21_5:=fz_ BK158 5)|((with_reducible refine gate_builtin (b:=.append) (xs:=#[.tmp 22,.tmp 24]) rfl ?_);at_builtin;refine Kd.R_append_rows (Kd.int .i64) (w0:=w) w.heap.size rfl (.tmp 22) (.tmp 24) 31 3 (.int .i64 0) 8 rfl Tryz.underlying31 info3 rfl (by decide) (by omega) v166 y165 l0_5 _ _ _ (fun _=>True) (fun _=>False) rfl rfl ?aO ?aR (fun _ _ h=>h) (fun _ h=>h.elim) ?aF ?aB ?aS ?aL ?_;(case aR=>repeat (first|exact (Kd.C_below HR0_5.out HB.out)|(with_reducible refine Kd.C_alloc ?_ _)|(with_reducible refine Kd.C_drewN ?_ _)|(with_reducible refine Kd.C_drew ?_)));(case aB=>exact (bl_ HB));(case aF=>exact (fun _ _=>trivial));(case aO=>exact (by (with_reducible repeat (first|apply Kd.R_alloc|apply Kd.R_drewN|apply Kd.R_drew));exact HO167.out));(case aS=>exact (below_size (bl_ HB)));(case aL=>have:=LMc18.out;omega);intro v169 w22 ho hb hg hat;rw [← Ny168.out] at ho;have n0_:=ak_ (blk_grown (g:=gb158) (o:=.cells #[.int .i64 a0_0,.int .i64 a0_1,.int .i64 a0_2,.int .i64 a0_3,.int .i64 a0_4,.slice A0_5 l0_5.length c0_5] 45 (0,0)) (bk_ BK158) hg (Kd.R_ne HO167.out BK158.out (by decide)));have n1_:=ak_ (hb);have n2_:=ak_ (ho);clear BK158;clear HB;clear HO167;have BK158:=n0_;have HB:=n1_;have HO170:=n2_;clear n0_ n1_ n2_;clear ho hb hg hat))
         go_ret
         exact ⟨_,by first|rfl|(simp [errW_none,errW_some]<;>rfl)|(simp [*,errW_none,errW_some]<;>rfl),by (with_reducible repeat (first|apply Kd.R_alloc|apply Kd.R_drewN|apply Kd.R_drew));exact HO170.out,bl_ HB⟩
        ·rw [if_neg c18] at H
         exact absurd H (by simp)
       ·rw [if_neg c17] at H
        have c17b0:(a0_0 == 7)=false:=beq_eq_false_iff_ne.mpr c17
        have c17b1:(a0_0 != 7)=true:=bne_iff_ne.mpr c17
        obtain rfl:=Option.some.inj H
        go_wp2
        go_ret
        exact ⟨_,by first|rfl|(simp [errW_none,errW_some]<;>rfl)|(simp [*,errW_none,errW_some]<;>rfl),by first|exact Kd.R_nil _ _ _ _ _|exact Kd.N_nil _ _ _ _ _|exact Kd.V_nil _ _ _ _ _|exact Kd.Q_nil _ _ _ _ _|exact Kd.S_nil _ _ _ _ _,bl_ HB⟩

/-! ### swageref14_Sets: function 65 -/
def swageref14_Sets.f (a0_0:Int) (a0_1:Int) (a0_2:Int) (a0_3:Int) (a0_4:Int) (l0_5:List Int):Option (Int):=if a0_0<1 then (some 0) else (if a0_0 > 8 then (some 0) else (if a0_0=5 then (some 0) else (some a0_1)))
set_option maxHeartbeats 8000000 in
set_option maxRecDepth 100000 in
theorem swageref14_Sets.calls (a0_0:Int) (a0_1:Int) (a0_2:Int) (a0_3:Int) (a0_4:Int) (A0_5:Option Addr) (c0_5:Nat) (l0_5:List Int) (r:Int) (w:World) (hr0_5:Kd.C (Kd.int .i64) w A0_5 l0_5.length l0_5) (hc0_5:l0_5.length≤c0_5) (h:swageref14_Sets.f a0_0 a0_1 a0_2 a0_3 a0_4 l0_5=some r) :
  Calls Tryz.prog 65 #[.agg #[.int .i64 a0_0,.int .i64 a0_1,.int .i64 a0_2,.int .i64 a0_3,.int .i64 a0_4,.slice A0_5 l0_5.length c0_5]] w fun e w'=>e=.returned (.int .i64 r)∧Below w.heap.size w w':=by
 have hu45:=Tryz.underlying45
 have HR0_5:=ak_ hr0_5
 have HC0_5:=ak_ hc0_5
 clear hr0_5 hc0_5
 have HB:=ak_ (Below.refl w.heap.size w)
 have H:(if a0_0<1 then (some 0) else (if a0_0 > 8 then (some 0) else (if a0_0=5 then (some 0) else (some a0_1))))=some r:=h
 clear h
 by_cases c2:a0_0<1
 ·rw [if_pos c2] at H
  have c2b0:decide (a0_0<1)=true:=decide_eq_true c2
  clear c2
  obtain rfl:=Option.some.inj H
  go_enter Tryz.func65,Tryz.ntmps65
  go_wp2_with (first|((with_reducible refine gate_dst (N:=1) rfl ?_);refine box_event ?hg (N:=1) ?hd (cs:=#[.int .i64 a0_0,.int .i64 a0_1,.int .i64 a0_2,.int .i64 a0_3,.int .i64 a0_4,.slice A0_5 l0_5.length c0_5]) (t:=45) ?hr ?_;(case hd=>rfl);(case hg=>rfl);(case hr=>first|(go_simp;done)|(go_simp;rfl));intro gb171 hg w3 hbox hb;have n0_:=ak_ (below_step (bl_ HB) hb);have n1_:=ak_ (hbox);have n2_:=ak_ ((by rw [hg];exact (below_size (bl_ HB)):w.heap.size≤gb171));have n3_:=ak_ ((by rw [hg];exact (below_size (bl_ HB)):w.heap.size≤gb171));clear HB;have HB:=n0_;have BK171:=n1_;have GW171:=n2_;have GE171:=n3_;clear n0_ n1_ n2_ n3_;clear hb hbox hg;have hcz4_0:=ck_ BK171 0;have hcz4_1:=ck_ BK171 1;have hcz4_2:=ck_ BK171 2;have hcz4_3:=ck_ BK171 3;have hcz4_4:=ck_ BK171 4;have hcz4_5:=ck_ BK171 5;have hfz4_0:=fz_ BK171 0;have hfz4_1:=fz_ BK171 1;have hfz4_2:=fz_ BK171 2;have hfz4_3:=fz_ BK171 3;have hfz4_4:=fz_ BK171 4;have hfz4_5:=fz_ BK171 5))
  go_ret
  exact ⟨by first|rfl|(simp [errW_none,errW_some]<;>rfl)|(simp [*,errW_none,errW_some]<;>rfl),bl_ HB⟩
 ·rw [if_neg c2] at H
  have c2b0:decide (a0_0<1)=false:=decide_eq_false c2
  clear c2
  by_cases c5:a0_0 > 8
  ·rw [if_pos c5] at H
   have c5b0:decide (8<a0_0)=true:=decide_eq_true c5
   clear c5
   obtain rfl:=Option.some.inj H
   go_enter Tryz.func65,Tryz.ntmps65
   go_wp2_with (first|((with_reducible refine gate_dst (N:=1) rfl ?_);refine box_event ?hg (N:=1) ?hd (cs:=#[.int .i64 a0_0,.int .i64 a0_1,.int .i64 a0_2,.int .i64 a0_3,.int .i64 a0_4,.slice A0_5 l0_5.length c0_5]) (t:=45) ?hr ?_;(case hd=>rfl);(case hg=>rfl);(case hr=>first|(go_simp;done)|(go_simp;rfl));intro gb171 hg w6 hbox hb;have n0_:=ak_ (below_step (bl_ HB) hb);have n1_:=ak_ (hbox);have n2_:=ak_ ((by rw [hg];exact (below_size (bl_ HB)):w.heap.size≤gb171));have n3_:=ak_ ((by rw [hg];exact (below_size (bl_ HB)):w.heap.size≤gb171));clear HB;have HB:=n0_;have BK171:=n1_;have GW171:=n2_;have GE171:=n3_;clear n0_ n1_ n2_ n3_;clear hb hbox hg;have hcz7_0:=ck_ BK171 0;have hcz7_1:=ck_ BK171 1;have hcz7_2:=ck_ BK171 2;have hcz7_3:=ck_ BK171 3;have hcz7_4:=ck_ BK171 4;have hcz7_5:=ck_ BK171 5;have hfz7_0:=fz_ BK171 0;have hfz7_1:=fz_ BK171 1;have hfz7_2:=fz_ BK171 2;have hfz7_3:=fz_ BK171 3;have hfz7_4:=fz_ BK171 4;have hfz7_5:=fz_ BK171 5))
   go_ret
   exact ⟨by first|rfl|(simp [errW_none,errW_some]<;>rfl)|(simp [*,errW_none,errW_some]<;>rfl),bl_ HB⟩
  ·rw [if_neg c5] at H
   have c5b0:decide (8<a0_0)=false:=decide_eq_false c5
   clear c5
   by_cases c8:a0_0=5
   ·rw [if_pos c8] at H
    have c8b0:(a0_0 == 5)=true:=beq_iff_eq.mpr c8
    have c8b1:(a0_0 != 5)=false:=bne_eq_false_iff_eq.mpr c8
    clear c8
    obtain rfl:=Option.some.inj H
    go_enter Tryz.func65,Tryz.ntmps65
    go_wp2_with (first|((with_reducible refine gate_dst (N:=1) rfl ?_);refine box_event ?hg (N:=1) ?hd (cs:=#[.int .i64 a0_0,.int .i64 a0_1,.int .i64 a0_2,.int .i64 a0_3,.int .i64 a0_4,.slice A0_5 l0_5.length c0_5]) (t:=45) ?hr ?_;(case hd=>rfl);(case hg=>rfl);(case hr=>first|(go_simp;done)|(go_simp;rfl));intro gb171 hg w9 hbox hb;have n0_:=ak_ (below_step (bl_ HB) hb);have n1_:=ak_ (hbox);have n2_:=ak_ ((by rw [hg];exact (below_size (bl_ HB)):w.heap.size≤gb171));have n3_:=ak_ ((by rw [hg];exact (below_size (bl_ HB)):w.heap.size≤gb171));clear HB;have HB:=n0_;have BK171:=n1_;have GW171:=n2_;have GE171:=n3_;clear n0_ n1_ n2_ n3_;clear hb hbox hg;have hcz10_0:=ck_ BK171 0;have hcz10_1:=ck_ BK171 1;have hcz10_2:=ck_ BK171 2;have hcz10_3:=ck_ BK171 3;have hcz10_4:=ck_ BK171 4;have hcz10_5:=ck_ BK171 5;have hfz10_0:=fz_ BK171 0;have hfz10_1:=fz_ BK171 1;have hfz10_2:=fz_ BK171 2;have hfz10_3:=fz_ BK171 3;have hfz10_4:=fz_ BK171 4;have hfz10_5:=fz_ BK171 5))
    go_ret
    exact ⟨by first|rfl|(simp [errW_none,errW_some]<;>rfl)|(simp [*,errW_none,errW_some]<;>rfl),bl_ HB⟩
   ·rw [if_neg c8] at H
    have c8b0:(a0_0 == 5)=false:=beq_eq_false_iff_ne.mpr c8
    have c8b1:(a0_0 != 5)=true:=bne_iff_ne.mpr c8
    obtain rfl:=Option.some.inj H
    go_enter Tryz.func65,Tryz.ntmps65
    go_wp2_with (first|((with_reducible refine gate_dst (N:=1) rfl ?_);refine box_event ?hg (N:=1) ?hd (cs:=#[.int .i64 a0_0,.int .i64 a0_1,.int .i64 a0_2,.int .i64 a0_3,.int .i64 a0_4,.slice A0_5 l0_5.length c0_5]) (t:=45) ?hr ?_;(case hd=>rfl);(case hg=>rfl);(case hr=>first|(go_simp;done)|(go_simp;rfl));intro gb171 hg w11 hbox hb;have n0_:=ak_ (below_step (bl_ HB) hb);have n1_:=ak_ (hbox);have n2_:=ak_ ((by rw [hg];exact (below_size (bl_ HB)):w.heap.size≤gb171));have n3_:=ak_ ((by rw [hg];exact (below_size (bl_ HB)):w.heap.size≤gb171));clear HB;have HB:=n0_;have BK171:=n1_;have GW171:=n2_;have GE171:=n3_;clear n0_ n1_ n2_ n3_;clear hb hbox hg;have hcz12_0:=ck_ BK171 0;have hcz12_1:=ck_ BK171 1;have hcz12_2:=ck_ BK171 2;have hcz12_3:=ck_ BK171 3;have hcz12_4:=ck_ BK171 4;have hcz12_5:=ck_ BK171 5;have hfz12_0:=fz_ BK171 0;have hfz12_1:=fz_ BK171 1;have hfz12_2:=fz_ BK171 2;have hfz12_3:=fz_ BK171 3;have hfz12_4:=fz_ BK171 4;have hfz12_5:=fz_ BK171 5))
    go_ret
    exact ⟨by first|rfl|(simp [errW_none,errW_some]<;>rfl)|(simp [*,errW_none,errW_some]<;>rfl),bl_ HB⟩

/-! ### swageref14_TermUses: function 67 -/
def swageref14_TermUses.f (a0_0:Int) (a0_1:Int) (a0_2:Int) (a0_3:Int):Option (List Int):=if a0_0=2 then (some (([a0_1]:List Int))) else (if a0_0=3 then (some (([a0_1]:List Int))) else (some ([]:List Int)))
set_option maxHeartbeats 8000000 in
set_option maxRecDepth 100000 in
theorem swageref14_TermUses.calls (a0_0:Int) (a0_1:Int) (a0_2:Int) (a0_3:Int) (r:List Int) (w:World) (h:swageref14_TermUses.f a0_0 a0_1 a0_2 a0_3=some r) :
  Calls Tryz.prog 67 #[.agg #[.int .i64 a0_0,.int .i64 a0_1,.int .i64 a0_2,.int .i64 a0_3]] w fun e w'=>∃ v0_:Value,e=.returned (v0_)∧Kd.R (Kd.int .i64) 3 w' w.heap.size (fun _=>True) v0_ r∧Below w.heap.size w w':=by
 have hu48:=Tryz.underlying48
 have HB:=ak_ (Below.refl w.heap.size w)
 have H:(if a0_0=2 then (some (([a0_1]:List Int))) else (if a0_0=3 then (some (([a0_1]:List Int))) else (some ([]:List Int))))=some r:=h
 clear h
 by_cases c2:a0_0=2
 ·rw [if_pos c2] at H
  have c2b0:(a0_0 == 2)=true:=beq_iff_eq.mpr c2
  have c2b1:(a0_0 != 2)=false:=bne_eq_false_iff_eq.mpr c2
  clear c2
  obtain ⟨y173,hy173⟩:∃ y_:List Int,y_=(([a0_1]:List Int)):=⟨_,rfl⟩
  replace H:(some y173)=some r:=by first|(rw [hy173];with_reducible exact H)|(have H2_:=(Option.bind_some _ _).symm.trans H;rw [hy173];with_reducible exact H2_)|(have H2_:=(Option.bind_some _ _).symm.trans H;with_reducible exact H2_)|with_reducible exact H|(rw [hy173];exact H)|exact H
  have Ny173:=ak_ hy173
  clear hy173
  obtain rfl:=Option.some.inj H
  go_enter Tryz.func67,Tryz.ntmps67
  go_wp2_with (first|((with_reducible refine gate_dst (N:=1) rfl ?_);refine box_event ?hg (N:=1) ?hd (cs:=#[.int .i64 a0_0,.int .i64 a0_1,.int .i64 a0_2,.int .i64 a0_3]) (t:=48) ?hr ?_;(case hd=>rfl);(case hg=>rfl);(case hr=>first|(go_simp;done)|(go_simp;rfl));intro gb172 hg w3 hbox hb;have n0_:=ak_ (below_step (bl_ HB) hb);have n1_:=ak_ (hbox);have n2_:=ak_ ((by rw [hg];exact (below_size (bl_ HB)):w.heap.size≤gb172));have n3_:=ak_ ((by rw [hg];exact (below_size (bl_ HB)):w.heap.size≤gb172));clear HB;have HB:=n0_;have BK172:=n1_;have GW172:=n2_;have GE172:=n3_;clear n0_ n1_ n2_ n3_;clear hb hbox hg;have hcz4_0:=ck_ BK172 0;have hcz4_1:=ck_ BK172 1;have hcz4_2:=ck_ BK172 2;have hcz4_3:=ck_ BK172 3;have hfz4_0:=fz_ BK172 0;have hfz4_1:=fz_ BK172 1;have hfz4_2:=fz_ BK172 2;have hfz4_3:=fz_ BK172 3)|((with_reducible refine gate_dst (N:=13) rfl ?_);refine Kd.R_lit (Kd.int .i64) _ 3 ?hg (N:=13) ?hd (xs:=([a0_1]:List Int)) (inner:=[.int .i64 a0_1]) (ok:=fun _=>True) (okp:=fun _=>True) ?hr ?hp (fun _ hk=>hk) trivial (Below.refl _ _) (Nat.le_refl _) (by simp) ?_;(case hd=>rfl);(case hg=>rfl);(case hr=>first|(go_simp;done)|(go_simp;rfl));(case hp=>exact (Reps.one (show Kd.M (Kd.int .i64) _ _ _ a0_1 [.int .i64 a0_1] from rfl) (Reps.none _ _)));intro v174 w5 ho6 hb hg_ hnew_;clear hg_ hnew_;(first|rw [← Ny173.out] at ho6|(simp only [Int.reduceToNat] at ho6;rw [← Ny173.out] at ho6));have n0_:=ak_ (Kd.R_lower ho6 (below_size (bl_ HB)));have n1_:=ak_ (blk_below (g:=gb172) (o:=.cells #[.int .i64 a0_0,.int .i64 a0_1,.int .i64 a0_2,.int .i64 a0_3] 48 (0,0)) (bk_ BK172) hb);have n2_:=ak_ (below_step (bl_ HB) hb);clear BK172;clear HB;have HO175:=n0_;have BK172:=n1_;have HB:=n2_;clear n0_ n1_ n2_;clear hb ho6))
  go_ret
  exact ⟨_,by first|rfl|(simp [errW_none,errW_some]<;>rfl)|(simp [*,errW_none,errW_some]<;>rfl),by (with_reducible repeat (first|apply Kd.R_alloc|apply Kd.R_drewN|apply Kd.R_drew));exact HO175.out,bl_ HB⟩
 ·rw [if_neg c2] at H
  have c2b0:(a0_0 == 2)=false:=beq_eq_false_iff_ne.mpr c2
  have c2b1:(a0_0 != 2)=true:=bne_iff_ne.mpr c2
  by_cases c7:a0_0=3
  ·rw [if_pos c7] at H
   have c7b0:(a0_0 == 3)=true:=beq_iff_eq.mpr c7
   have c7b1:(a0_0 != 3)=false:=bne_eq_false_iff_eq.mpr c7
   clear c7
   obtain ⟨y176,hy176⟩:∃ y_:List Int,y_=(([a0_1]:List Int)):=⟨_,rfl⟩
   replace H:(some y176)=some r:=by first|(rw [hy176];with_reducible exact H)|(have H2_:=(Option.bind_some _ _).symm.trans H;rw [hy176];with_reducible exact H2_)|(have H2_:=(Option.bind_some _ _).symm.trans H;with_reducible exact H2_)|with_reducible exact H|(rw [hy176];exact H)|exact H
   have Ny176:=ak_ hy176
   clear hy176
   obtain rfl:=Option.some.inj H
   go_enter Tryz.func67,Tryz.ntmps67
   go_wp2_with (first|((with_reducible refine gate_dst (N:=1) rfl ?_);refine box_event ?hg (N:=1) ?hd (cs:=#[.int .i64 a0_0,.int .i64 a0_1,.int .i64 a0_2,.int .i64 a0_3]) (t:=48) ?hr ?_;(case hd=>rfl);(case hg=>rfl);(case hr=>first|(go_simp;done)|(go_simp;rfl));intro gb172 hg w8 hbox hb;have n0_:=ak_ (below_step (bl_ HB) hb);have n1_:=ak_ (hbox);have n2_:=ak_ ((by rw [hg];exact (below_size (bl_ HB)):w.heap.size≤gb172));have n3_:=ak_ ((by rw [hg];exact (below_size (bl_ HB)):w.heap.size≤gb172));clear HB;have HB:=n0_;have BK172:=n1_;have GW172:=n2_;have GE172:=n3_;clear n0_ n1_ n2_ n3_;clear hb hbox hg;have hcz9_0:=ck_ BK172 0;have hcz9_1:=ck_ BK172 1;have hcz9_2:=ck_ BK172 2;have hcz9_3:=ck_ BK172 3;have hfz9_0:=fz_ BK172 0;have hfz9_1:=fz_ BK172 1;have hfz9_2:=fz_ BK172 2;have hfz9_3:=fz_ BK172 3)|((with_reducible refine gate_dst (N:=13) rfl ?_);refine Kd.R_lit (Kd.int .i64) _ 3 ?hg (N:=13) ?hd (xs:=([a0_1]:List Int)) (inner:=[.int .i64 a0_1]) (ok:=fun _=>True) (okp:=fun _=>True) ?hr ?hp (fun _ hk=>hk) trivial (Below.refl _ _) (Nat.le_refl _) (by simp) ?_;(case hd=>rfl);(case hg=>rfl);(case hr=>first|(go_simp;done)|(go_simp;rfl));(case hp=>exact (Reps.one (show Kd.M (Kd.int .i64) _ _ _ a0_1 [.int .i64 a0_1] from rfl) (Reps.none _ _)));intro v177 w10 ho11 hb hg_ hnew_;clear hg_ hnew_;(first|rw [← Ny176.out] at ho11|(simp only [Int.reduceToNat] at ho11;rw [← Ny176.out] at ho11));have n0_:=ak_ (Kd.R_lower ho11 (below_size (bl_ HB)));have n1_:=ak_ (blk_below (g:=gb172) (o:=.cells #[.int .i64 a0_0,.int .i64 a0_1,.int .i64 a0_2,.int .i64 a0_3] 48 (0,0)) (bk_ BK172) hb);have n2_:=ak_ (below_step (bl_ HB) hb);clear BK172;clear HB;have HO178:=n0_;have BK172:=n1_;have HB:=n2_;clear n0_ n1_ n2_;clear hb ho11))
   go_ret
   exact ⟨_,by first|rfl|(simp [errW_none,errW_some]<;>rfl)|(simp [*,errW_none,errW_some]<;>rfl),by (with_reducible repeat (first|apply Kd.R_alloc|apply Kd.R_drewN|apply Kd.R_drew));exact HO178.out,bl_ HB⟩
  ·rw [if_neg c7] at H
   have c7b0:(a0_0 == 3)=false:=beq_eq_false_iff_ne.mpr c7
   have c7b1:(a0_0 != 3)=true:=bne_iff_ne.mpr c7
   obtain rfl:=Option.some.inj H
   go_enter Tryz.func67,Tryz.ntmps67
   go_wp2_with (first|((with_reducible refine gate_dst (N:=1) rfl ?_);refine box_event ?hg (N:=1) ?hd (cs:=#[.int .i64 a0_0,.int .i64 a0_1,.int .i64 a0_2,.int .i64 a0_3]) (t:=48) ?hr ?_;(case hd=>rfl);(case hg=>rfl);(case hr=>first|(go_simp;done)|(go_simp;rfl));intro gb172 hg w12 hbox hb;have n0_:=ak_ (below_step (bl_ HB) hb);have n1_:=ak_ (hbox);have n2_:=ak_ ((by rw [hg];exact (below_size (bl_ HB)):w.heap.size≤gb172));have n3_:=ak_ ((by rw [hg];exact (below_size (bl_ HB)):w.heap.size≤gb172));clear HB;have HB:=n0_;have BK172:=n1_;have GW172:=n2_;have GE172:=n3_;clear n0_ n1_ n2_ n3_;clear hb hbox hg;have hcz13_0:=ck_ BK172 0;have hcz13_1:=ck_ BK172 1;have hcz13_2:=ck_ BK172 2;have hcz13_3:=ck_ BK172 3;have hfz13_0:=fz_ BK172 0;have hfz13_1:=fz_ BK172 1;have hfz13_2:=fz_ BK172 2;have hfz13_3:=fz_ BK172 3))
   go_ret
   exact ⟨_,by first|rfl|(simp [errW_none,errW_some]<;>rfl)|(simp [*,errW_none,errW_some]<;>rfl),by first|exact Kd.R_nil _ _ _ _ _|exact Kd.N_nil _ _ _ _ _|exact Kd.V_nil _ _ _ _ _|exact Kd.Q_nil _ _ _ _ _|exact Kd.S_nil _ _ _ _ _,bl_ HB⟩

