-- a text of the seat,by a program
import Derived.Test.YtnkgbnbbmcoiiaaGreatBk
import Derived.Test.YtnkgbnbbmcoiiaaGreatS0
import Derived.Test.YtnkgbnbbmcoiiaaGreatS5
import Derived.Test.YtnkgbnbbmcoiiaaGreatRfa
import Derived.Test.YtnkgbnbbmcoiiaaGreatOora
namespace Go.Proofs.YtnkgbnbbmcoiiaaGreat.S
open Go.RowKit Go.Proofs.YtnkgbnbbmcoiiaaGreatW.PrintWords Go.Proofs.YtnkgbnbbmcoiiaaGreatW.PrintLast Go.Proofs.YtnkgbnbbmcoiiaaGreatW.PrintMore
attribute [local go_sem] max2_int min2_int max_two min_two max_three min_three max_four min_four   -- for this text's walks alone
set_option linter.unusedVariables false
set_option linter.unusedSimpArgs false

/-! ### swageref14_SameOp: function 48 -/
def swageref14_SameOp.f (k:Nat) (a0_0:Int) (a0_1:Int) (a0_2:Int) (a0_3:Int) (a0_4:Int) (l0_5:List Int) (a1_0:Int) (a1_1:Int) (a1_2:Int) (a1_3:Int) (a1_4:Int) (l1_5:List Int):Option (Bool):=(swageref02_Ints.f k l0_5 l1_5).bind fun t210=>(if t210=true then (if a0_0=a1_0 then (if a0_1=a1_1 then (if a0_2=a1_2 then (if a0_3=a1_3 then (some (a0_4 == a1_4)) else (some false)) else (some false)) else (some false)) else (some false)) else (some false))
set_option maxHeartbeats 8000000 in
set_option maxRecDepth 100000 in
theorem swageref14_SameOp.calls (k:Nat) (a0_0:Int) (a0_1:Int) (a0_2:Int) (a0_3:Int) (a0_4:Int) (A0_5:Option Addr) (c0_5:Nat) (l0_5:List Int) (a1_0:Int) (a1_1:Int) (a1_2:Int) (a1_3:Int) (a1_4:Int) (A1_5:Option Addr) (c1_5:Nat) (l1_5:List Int) (r:Bool) (w:World) (hr0_5:Kd.C (Kd.int .i64) w A0_5 l0_5.length l0_5) (hc0_5:l0_5.length≤c0_5) (hr1_5:Kd.C (Kd.int .i64) w A1_5 l1_5.length l1_5) (hc1_5:l1_5.length≤c1_5) (h:swageref14_SameOp.f k a0_0 a0_1 a0_2 a0_3 a0_4 l0_5 a1_0 a1_1 a1_2 a1_3 a1_4 l1_5=some r) :
  Calls Tryz.prog 48 #[.agg #[.int .i64 a0_0,.int .i64 a0_1,.int .i64 a0_2,.int .i64 a0_3,.int .i64 a0_4,.slice A0_5 l0_5.length c0_5],.agg #[.int .i64 a1_0,.int .i64 a1_1,.int .i64 a1_2,.int .i64 a1_3,.int .i64 a1_4,.slice A1_5 l1_5.length c1_5]] w fun e w'=>e=.returned (.bool r)∧Below w.heap.size w w':=by
 have hu45:=Tryz.underlying45
 have HR0_5:=ak_ hr0_5
 have HC0_5:=ak_ hc0_5
 clear hr0_5 hc0_5
 have HR1_5:=ak_ hr1_5
 have HC1_5:=ak_ hc1_5
 clear hr1_5 hc1_5
 have HB:=ak_ (Below.refl w.heap.size w)
 have H:((swageref02_Ints.f k l0_5 l1_5).bind fun t210=>(if t210=true then (if a0_0=a1_0 then (if a0_1=a1_1 then (if a0_2=a1_2 then (if a0_3=a1_3 then (some (a0_4 == a1_4)) else (some false)) else (some false)) else (some false)) else (some false)) else (some false)))=some r:=h
 clear h
 replace H:=Option.bind_eq_some_iff.mp H
 obtain ⟨t210,A30,H⟩:=H
 replace H:(if t210=true then (if a0_0=a1_0 then (if a0_1=a1_1 then (if a0_2=a1_2 then (if a0_3=a1_3 then (some (a0_4 == a1_4)) else (some false)) else (some false)) else (some false)) else (some false)) else (some false))=some r:=H
 have A3:=ak_ A30
 clear A30
 by_cases c4:t210=true
 ·subst c4
  have H1:(if a0_0=a1_0 then (if a0_1=a1_1 then (if a0_2=a1_2 then (if a0_3=a1_3 then (some (a0_4 == a1_4)) else (some false)) else (some false)) else (some false)) else (some false))=some r:=by rw [if_pos rfl] at H;exact H
  clear H
  have H:=H1
  clear H1
  by_cases c5:a0_0=a1_0
  ·rw [if_pos c5] at H
   have c5b0:(a0_0 == a1_0)=true:=beq_iff_eq.mpr c5
   have c5b1:(a0_0 != a1_0)=false:=bne_eq_false_iff_eq.mpr c5
   clear c5
   by_cases c6:a0_1=a1_1
   ·rw [if_pos c6] at H
    have c6b0:(a0_1 == a1_1)=true:=beq_iff_eq.mpr c6
    have c6b1:(a0_1 != a1_1)=false:=bne_eq_false_iff_eq.mpr c6
    clear c6
    by_cases c7:a0_2=a1_2
    ·rw [if_pos c7] at H
     have c7b0:(a0_2 == a1_2)=true:=beq_iff_eq.mpr c7
     have c7b1:(a0_2 != a1_2)=false:=bne_eq_false_iff_eq.mpr c7
     clear c7
     by_cases c8:a0_3=a1_3
     ·rw [if_pos c8] at H
      have c8b0:(a0_3 == a1_3)=true:=beq_iff_eq.mpr c8
      have c8b1:(a0_3 != a1_3)=false:=bne_eq_false_iff_eq.mpr c8
      clear c8
      obtain rfl:=Option.some.inj H
      go_enter Tryz.func48,Tryz.ntmps48
      go_wp2_with (first|((with_reducible refine gate_dst (N:=2) rfl ?_);refine box_event ?hg (N:=2) ?hd (cs:=#[.int .i64 a0_0,.int .i64 a0_1,.int .i64 a0_2,.int .i64 a0_3,.int .i64 a0_4,.slice A0_5 l0_5.length c0_5]) (t:=45) ?hr ?_;(case hd=>rfl);(case hg=>rfl);(case hr=>first|(go_simp;done)|(go_simp;rfl));intro gb208 hg w9 hbox hb;have n0_:=ak_ (below_step (bl_ HB) hb);have n1_:=ak_ (hbox);have n2_:=ak_ ((by rw [hg];exact (below_size (bl_ HB)):w.heap.size≤gb208));have n3_:=ak_ ((by rw [hg];exact (below_size (bl_ HB)):w.heap.size≤gb208));clear HB;have HB:=n0_;have BK208:=n1_;have GW208:=n2_;have GE208:=n3_;clear n0_ n1_ n2_ n3_;clear hb hbox hg)|((with_reducible refine gate_dst (N:=3) rfl ?_);refine box_event ?hg (N:=3) ?hd (cs:=#[.int .i64 a1_0,.int .i64 a1_1,.int .i64 a1_2,.int .i64 a1_3,.int .i64 a1_4,.slice A1_5 l1_5.length c1_5]) (t:=45) ?hr ?_;(case hd=>rfl);(case hg=>rfl);(case hr=>first|(go_simp;done)|(go_simp;rfl));intro gb209 hg w10 hbox hb;have n0_:=ak_ (blk_below (g:=gb208) (o:=.cells #[.int .i64 a0_0,.int .i64 a0_1,.int .i64 a0_2,.int .i64 a0_3,.int .i64 a0_4,.slice A0_5 l0_5.length c0_5] 45 (0,0)) (bk_ BK208) hb);have n1_:=ak_ (below_step (bl_ HB) hb);have n2_:=ak_ (hbox);have n3_:=ak_ ((by rw [hg];exact (below_size (bl_ HB)):w.heap.size≤gb209));have n4_:=ak_ ((by rw [hg];exact (below_size (bl_ HB)):w.heap.size≤gb209));have n5_:=ak_ ((by rw [hg];exact Nat.ne_of_lt (blk_lt (g:=gb208) (o:=.cells #[.int .i64 a0_0,.int .i64 a0_1,.int .i64 a0_2,.int .i64 a0_3,.int .i64 a0_4,.slice A0_5 l0_5.length c0_5] 45 (0,0)) (bk_ BK208)):gb208≠gb209));have n6_:=ak_ ((by rw [hg];exact Nat.ne_of_gt (blk_lt (g:=gb208) (o:=.cells #[.int .i64 a0_0,.int .i64 a0_1,.int .i64 a0_2,.int .i64 a0_3,.int .i64 a0_4,.slice A0_5 l0_5.length c0_5] 45 (0,0)) (bk_ BK208)):gb209≠gb208));clear BK208;clear HB;have BK208:=n0_;have HB:=n1_;have BK209:=n2_;have GW209:=n3_;have GE209:=n4_;have NB208_209:=n5_;have NB209_208:=n6_;clear n0_ n1_ n2_ n3_ n4_ n5_ n6_;clear hb hbox hg;have hnb11:=NB208_209.out;have hnc11:=NB209_208.out;have hcz12_0:=ck_ BK208 0;have hcz12_1:=ck_ BK208 1;have hcz12_2:=ck_ BK208 2;have hcz12_3:=ck_ BK208 3;have hcz12_4:=ck_ BK208 4;have hcz12_5:=ck_ BK208 5;have hfz12_0:=fz_ BK208 0;have hfz12_1:=fz_ BK208 1;have hfz12_2:=fz_ BK208 2;have hfz12_3:=fz_ BK208 3;have hfz12_4:=fz_ BK208 4;have hfz12_5:=fz_ BK208 5;have hcz13_0:=ck_ BK209 0;have hcz13_1:=ck_ BK209 1;have hcz13_2:=ck_ BK209 2;have hcz13_3:=ck_ BK209 3;have hcz13_4:=ck_ BK209 4;have hcz13_5:=ck_ BK209 5;have hfz13_0:=fz_ BK209 0;have hfz13_1:=fz_ BK209 1;have hfz13_2:=fz_ BK209 2;have hfz13_3:=fz_ BK209 3;have hfz13_4:=fz_ BK209 4;have hfz13_5:=fz_ BK209 5)|((with_reducible refine gate_callee (f:=10) rfl ?_);refine goesL_ (some 10) rfl rfl Tryz.func10 (by kernel_rfl) rfl #[.slice A0_5 l0_5.length c0_5,.slice A1_5 l1_5.length c1_5] rfl (by (try simp only [List.map_toArray,List.map_cons,List.map_nil]);first|done|rfl|(simp only [List.length_drop,List.length_take];rfl)) ?_;(with_reducible refine (swageref02_Ints.calls k _ _ l0_5 _ _ l1_5 true _ ?side1 ?side2 ?side3 ?side4 A3.out).mono ?_);(case side1=>repeat (first|exact (Kd.C_below HR0_5.out HB.out)|(with_reducible refine Kd.C_alloc ?_ _)|(with_reducible refine Kd.C_drewN ?_ _)|(with_reducible refine Kd.C_drew ?_)));(case side2=>exact HC0_5.out);(case side3=>repeat (first|exact (Kd.C_below HR1_5.out HB.out)|(with_reducible refine Kd.C_alloc ?_ _)|(with_reducible refine Kd.C_drewN ?_ _)|(with_reducible refine Kd.C_drew ?_)));(case side4=>exact HC1_5.out);rintro e w' ⟨rfl,⟨nd,rfl⟩⟩;refine ⟨_,rfl,?_⟩))
      go_ret
      exact ⟨by first|rfl|(simp [errW_none,errW_some]<;>rfl)|(simp [*,errW_none,errW_some]<;>rfl),bl_ HB⟩
     ·rw [if_neg c8] at H
      have c8b0:(a0_3 == a1_3)=false:=beq_eq_false_iff_ne.mpr c8
      have c8b1:(a0_3 != a1_3)=true:=bne_iff_ne.mpr c8
      obtain rfl:=Option.some.inj H
      go_enter Tryz.func48,Tryz.ntmps48
      go_wp2_with (first|((with_reducible refine gate_dst (N:=2) rfl ?_);refine box_event ?hg (N:=2) ?hd (cs:=#[.int .i64 a0_0,.int .i64 a0_1,.int .i64 a0_2,.int .i64 a0_3,.int .i64 a0_4,.slice A0_5 l0_5.length c0_5]) (t:=45) ?hr ?_;(case hd=>rfl);(case hg=>rfl);(case hr=>first|(go_simp;done)|(go_simp;rfl));intro gb208 hg w14 hbox hb;have n0_:=ak_ (below_step (bl_ HB) hb);have n1_:=ak_ (hbox);have n2_:=ak_ ((by rw [hg];exact (below_size (bl_ HB)):w.heap.size≤gb208));have n3_:=ak_ ((by rw [hg];exact (below_size (bl_ HB)):w.heap.size≤gb208));clear HB;have HB:=n0_;have BK208:=n1_;have GW208:=n2_;have GE208:=n3_;clear n0_ n1_ n2_ n3_;clear hb hbox hg)|((with_reducible refine gate_dst (N:=3) rfl ?_);refine box_event ?hg (N:=3) ?hd (cs:=#[.int .i64 a1_0,.int .i64 a1_1,.int .i64 a1_2,.int .i64 a1_3,.int .i64 a1_4,.slice A1_5 l1_5.length c1_5]) (t:=45) ?hr ?_;(case hd=>rfl);(case hg=>rfl);(case hr=>first|(go_simp;done)|(go_simp;rfl));intro gb209 hg w15 hbox hb;have n0_:=ak_ (blk_below (g:=gb208) (o:=.cells #[.int .i64 a0_0,.int .i64 a0_1,.int .i64 a0_2,.int .i64 a0_3,.int .i64 a0_4,.slice A0_5 l0_5.length c0_5] 45 (0,0)) (bk_ BK208) hb);have n1_:=ak_ (below_step (bl_ HB) hb);have n2_:=ak_ (hbox);have n3_:=ak_ ((by rw [hg];exact (below_size (bl_ HB)):w.heap.size≤gb209));have n4_:=ak_ ((by rw [hg];exact (below_size (bl_ HB)):w.heap.size≤gb209));have n5_:=ak_ ((by rw [hg];exact Nat.ne_of_lt (blk_lt (g:=gb208) (o:=.cells #[.int .i64 a0_0,.int .i64 a0_1,.int .i64 a0_2,.int .i64 a0_3,.int .i64 a0_4,.slice A0_5 l0_5.length c0_5] 45 (0,0)) (bk_ BK208)):gb208≠gb209));have n6_:=ak_ ((by rw [hg];exact Nat.ne_of_gt (blk_lt (g:=gb208) (o:=.cells #[.int .i64 a0_0,.int .i64 a0_1,.int .i64 a0_2,.int .i64 a0_3,.int .i64 a0_4,.slice A0_5 l0_5.length c0_5] 45 (0,0)) (bk_ BK208)):gb209≠gb208));clear BK208;clear HB;have BK208:=n0_;have HB:=n1_;have BK209:=n2_;have GW209:=n3_;have GE209:=n4_;have NB208_209:=n5_;have NB209_208:=n6_;clear n0_ n1_ n2_ n3_ n4_ n5_ n6_;clear hb hbox hg;have hnb16:=NB208_209.out;have hnc16:=NB209_208.out;have hcz17_0:=ck_ BK208 0;have hcz17_1:=ck_ BK208 1;have hcz17_2:=ck_ BK208 2;have hcz17_3:=ck_ BK208 3;have hcz17_4:=ck_ BK208 4;have hcz17_5:=ck_ BK208 5;have hfz17_0:=fz_ BK208 0;have hfz17_1:=fz_ BK208 1;have hfz17_2:=fz_ BK208 2;have hfz17_3:=fz_ BK208 3;have hfz17_4:=fz_ BK208 4;have hfz17_5:=fz_ BK208 5;have hcz18_0:=ck_ BK209 0;have hcz18_1:=ck_ BK209 1;have hcz18_2:=ck_ BK209 2;have hcz18_3:=ck_ BK209 3;have hcz18_4:=ck_ BK209 4;have hcz18_5:=ck_ BK209 5;have hfz18_0:=fz_ BK209 0;have hfz18_1:=fz_ BK209 1;have hfz18_2:=fz_ BK209 2;have hfz18_3:=fz_ BK209 3;have hfz18_4:=fz_ BK209 4;have hfz18_5:=fz_ BK209 5)|((with_reducible refine gate_callee (f:=10) rfl ?_);refine goesL_ (some 10) rfl rfl Tryz.func10 (by kernel_rfl) rfl #[.slice A0_5 l0_5.length c0_5,.slice A1_5 l1_5.length c1_5] rfl (by (try simp only [List.map_toArray,List.map_cons,List.map_nil]);first|done|rfl|(simp only [List.length_drop,List.length_take];rfl)) ?_;(with_reducible refine (swageref02_Ints.calls k _ _ l0_5 _ _ l1_5 true _ ?side1 ?side2 ?side3 ?side4 A3.out).mono ?_);(case side1=>repeat (first|exact (Kd.C_below HR0_5.out HB.out)|(with_reducible refine Kd.C_alloc ?_ _)|(with_reducible refine Kd.C_drewN ?_ _)|(with_reducible refine Kd.C_drew ?_)));(case side2=>exact HC0_5.out);(case side3=>repeat (first|exact (Kd.C_below HR1_5.out HB.out)|(with_reducible refine Kd.C_alloc ?_ _)|(with_reducible refine Kd.C_drewN ?_ _)|(with_reducible refine Kd.C_drew ?_)));(case side4=>exact HC1_5.out);rintro e w' ⟨rfl,⟨nd,rfl⟩⟩;refine ⟨_,rfl,?_⟩))
      go_ret
      exact ⟨by first|rfl|(simp [errW_none,errW_some]<;>rfl)|(simp [*,errW_none,errW_some]<;>rfl),bl_ HB⟩
    ·rw [if_neg c7] at H
     have c7b0:(a0_2 == a1_2)=false:=beq_eq_false_iff_ne.mpr c7
     have c7b1:(a0_2 != a1_2)=true:=bne_iff_ne.mpr c7
     obtain rfl:=Option.some.inj H
     go_enter Tryz.func48,Tryz.ntmps48
     go_wp2_with (first|((with_reducible refine gate_dst (N:=2) rfl ?_);refine box_event ?hg (N:=2) ?hd (cs:=#[.int .i64 a0_0,.int .i64 a0_1,.int .i64 a0_2,.int .i64 a0_3,.int .i64 a0_4,.slice A0_5 l0_5.length c0_5]) (t:=45) ?hr ?_;(case hd=>rfl);(case hg=>rfl);(case hr=>first|(go_simp;done)|(go_simp;rfl));intro gb208 hg w19 hbox hb;have n0_:=ak_ (below_step (bl_ HB) hb);have n1_:=ak_ (hbox);have n2_:=ak_ ((by rw [hg];exact (below_size (bl_ HB)):w.heap.size≤gb208));have n3_:=ak_ ((by rw [hg];exact (below_size (bl_ HB)):w.heap.size≤gb208));clear HB;have HB:=n0_;have BK208:=n1_;have GW208:=n2_;have GE208:=n3_;clear n0_ n1_ n2_ n3_;clear hb hbox hg)|((with_reducible refine gate_dst (N:=3) rfl ?_);refine box_event ?hg (N:=3) ?hd (cs:=#[.int .i64 a1_0,.int .i64 a1_1,.int .i64 a1_2,.int .i64 a1_3,.int .i64 a1_4,.slice A1_5 l1_5.length c1_5]) (t:=45) ?hr ?_;(case hd=>rfl);(case hg=>rfl);(case hr=>first|(go_simp;done)|(go_simp;rfl));intro gb209 hg w20 hbox hb;have n0_:=ak_ (blk_below (g:=gb208) (o:=.cells #[.int .i64 a0_0,.int .i64 a0_1,.int .i64 a0_2,.int .i64 a0_3,.int .i64 a0_4,.slice A0_5 l0_5.length c0_5] 45 (0,0)) (bk_ BK208) hb);have n1_:=ak_ (below_step (bl_ HB) hb);have n2_:=ak_ (hbox);have n3_:=ak_ ((by rw [hg];exact (below_size (bl_ HB)):w.heap.size≤gb209));have n4_:=ak_ ((by rw [hg];exact (below_size (bl_ HB)):w.heap.size≤gb209));have n5_:=ak_ ((by rw [hg];exact Nat.ne_of_lt (blk_lt (g:=gb208) (o:=.cells #[.int .i64 a0_0,.int .i64 a0_1,.int .i64 a0_2,.int .i64 a0_3,.int .i64 a0_4,.slice A0_5 l0_5.length c0_5] 45 (0,0)) (bk_ BK208)):gb208≠gb209));have n6_:=ak_ ((by rw [hg];exact Nat.ne_of_gt (blk_lt (g:=gb208) (o:=.cells #[.int .i64 a0_0,.int .i64 a0_1,.int .i64 a0_2,.int .i64 a0_3,.int .i64 a0_4,.slice A0_5 l0_5.length c0_5] 45 (0,0)) (bk_ BK208)):gb209≠gb208));clear BK208;clear HB;have BK208:=n0_;have HB:=n1_;have BK209:=n2_;have GW209:=n3_;have GE209:=n4_;have NB208_209:=n5_;have NB209_208:=n6_;clear n0_ n1_ n2_ n3_ n4_ n5_ n6_;clear hb hbox hg;have hnb21:=NB208_209.out;have hnc21:=NB209_208.out;have hcz22_0:=ck_ BK208 0;have hcz22_1:=ck_ BK208 1;have hcz22_2:=ck_ BK208 2;have hcz22_3:=ck_ BK208 3;have hcz22_4:=ck_ BK208 4;have hcz22_5:=ck_ BK208 5;have hfz22_0:=fz_ BK208 0;have hfz22_1:=fz_ BK208 1;have hfz22_2:=fz_ BK208 2;have hfz22_3:=fz_ BK208 3;have hfz22_4:=fz_ BK208 4;have hfz22_5:=fz_ BK208 5;have hcz23_0:=ck_ BK209 0;have hcz23_1:=ck_ BK209 1;have hcz23_2:=ck_ BK209 2;have hcz23_3:=ck_ BK209 3;have hcz23_4:=ck_ BK209 4;have hcz23_5:=ck_ BK209 5;have hfz23_0:=fz_ BK209 0;have hfz23_1:=fz_ BK209 1;have hfz23_2:=fz_ BK209 2;have hfz23_3:=fz_ BK209 3;have hfz23_4:=fz_ BK209 4;have hfz23_5:=fz_ BK209 5)|((with_reducible refine gate_callee (f:=10) rfl ?_);refine goesL_ (some 10) rfl rfl Tryz.func10 (by kernel_rfl) rfl #[.slice A0_5 l0_5.length c0_5,.slice A1_5 l1_5.length c1_5] rfl (by (try simp only [List.map_toArray,List.map_cons,List.map_nil]);first|done|rfl|(simp only [List.length_drop,List.length_take];rfl)) ?_;(with_reducible refine (swageref02_Ints.calls k _ _ l0_5 _ _ l1_5 true _ ?side1 ?side2 ?side3 ?side4 A3.out).mono ?_);(case side1=>repeat (first|exact (Kd.C_below HR0_5.out HB.out)|(with_reducible refine Kd.C_alloc ?_ _)|(with_reducible refine Kd.C_drewN ?_ _)|(with_reducible refine Kd.C_drew ?_)));(case side2=>exact HC0_5.out);(case side3=>repeat (first|exact (Kd.C_below HR1_5.out HB.out)|(with_reducible refine Kd.C_alloc ?_ _)|(with_reducible refine Kd.C_drewN ?_ _)|(with_reducible refine Kd.C_drew ?_)));(case side4=>exact HC1_5.out);rintro e w' ⟨rfl,⟨nd,rfl⟩⟩;refine ⟨_,rfl,?_⟩))
     go_ret
     exact ⟨by first|rfl|(simp [errW_none,errW_some]<;>rfl)|(simp [*,errW_none,errW_some]<;>rfl),bl_ HB⟩
   ·rw [if_neg c6] at H
    have c6b0:(a0_1 == a1_1)=false:=beq_eq_false_iff_ne.mpr c6
    have c6b1:(a0_1 != a1_1)=true:=bne_iff_ne.mpr c6
    obtain rfl:=Option.some.inj H
    go_enter Tryz.func48,Tryz.ntmps48
    go_wp2_with (first|((with_reducible refine gate_dst (N:=2) rfl ?_);refine box_event ?hg (N:=2) ?hd (cs:=#[.int .i64 a0_0,.int .i64 a0_1,.int .i64 a0_2,.int .i64 a0_3,.int .i64 a0_4,.slice A0_5 l0_5.length c0_5]) (t:=45) ?hr ?_;(case hd=>rfl);(case hg=>rfl);(case hr=>first|(go_simp;done)|(go_simp;rfl));intro gb208 hg w24 hbox hb;have n0_:=ak_ (below_step (bl_ HB) hb);have n1_:=ak_ (hbox);have n2_:=ak_ ((by rw [hg];exact (below_size (bl_ HB)):w.heap.size≤gb208));have n3_:=ak_ ((by rw [hg];exact (below_size (bl_ HB)):w.heap.size≤gb208));clear HB;have HB:=n0_;have BK208:=n1_;have GW208:=n2_;have GE208:=n3_;clear n0_ n1_ n2_ n3_;clear hb hbox hg)|((with_reducible refine gate_dst (N:=3) rfl ?_);refine box_event ?hg (N:=3) ?hd (cs:=#[.int .i64 a1_0,.int .i64 a1_1,.int .i64 a1_2,.int .i64 a1_3,.int .i64 a1_4,.slice A1_5 l1_5.length c1_5]) (t:=45) ?hr ?_;(case hd=>rfl);(case hg=>rfl);(case hr=>first|(go_simp;done)|(go_simp;rfl));intro gb209 hg w25 hbox hb;have n0_:=ak_ (blk_below (g:=gb208) (o:=.cells #[.int .i64 a0_0,.int .i64 a0_1,.int .i64 a0_2,.int .i64 a0_3,.int .i64 a0_4,.slice A0_5 l0_5.length c0_5] 45 (0,0)) (bk_ BK208) hb);have n1_:=ak_ (below_step (bl_ HB) hb);have n2_:=ak_ (hbox);have n3_:=ak_ ((by rw [hg];exact (below_size (bl_ HB)):w.heap.size≤gb209));have n4_:=ak_ ((by rw [hg];exact (below_size (bl_ HB)):w.heap.size≤gb209));have n5_:=ak_ ((by rw [hg];exact Nat.ne_of_lt (blk_lt (g:=gb208) (o:=.cells #[.int .i64 a0_0,.int .i64 a0_1,.int .i64 a0_2,.int .i64 a0_3,.int .i64 a0_4,.slice A0_5 l0_5.length c0_5] 45 (0,0)) (bk_ BK208)):gb208≠gb209));have n6_:=ak_ ((by rw [hg];exact Nat.ne_of_gt (blk_lt (g:=gb208) (o:=.cells #[.int .i64 a0_0,.int .i64 a0_1,.int .i64 a0_2,.int .i64 a0_3,.int .i64 a0_4,.slice A0_5 l0_5.length c0_5] 45 (0,0)) (bk_ BK208)):gb209≠gb208));clear BK208;clear HB;have BK208:=n0_;have HB:=n1_;have BK209:=n2_;have GW209:=n3_;have GE209:=n4_;have NB208_209:=n5_;have NB209_208:=n6_;clear n0_ n1_ n2_ n3_ n4_ n5_ n6_;clear hb hbox hg;have hnb26:=NB208_209.out;have hnc26:=NB209_208.out;have hcz27_0:=ck_ BK208 0;have hcz27_1:=ck_ BK208 1;have hcz27_2:=ck_ BK208 2;have hcz27_3:=ck_ BK208 3;have hcz27_4:=ck_ BK208 4;have hcz27_5:=ck_ BK208 5;have hfz27_0:=fz_ BK208 0;have hfz27_1:=fz_ BK208 1;have hfz27_2:=fz_ BK208 2;have hfz27_3:=fz_ BK208 3;have hfz27_4:=fz_ BK208 4;have hfz27_5:=fz_ BK208 5;have hcz28_0:=ck_ BK209 0;have hcz28_1:=ck_ BK209 1;have hcz28_2:=ck_ BK209 2;have hcz28_3:=ck_ BK209 3;have hcz28_4:=ck_ BK209 4;have hcz28_5:=ck_ BK209 5;have hfz28_0:=fz_ BK209 0;have hfz28_1:=fz_ BK209 1;have hfz28_2:=fz_ BK209 2;have hfz28_3:=fz_ BK209 3;have hfz28_4:=fz_ BK209 4;have hfz28_5:=fz_ BK209 5)|((with_reducible refine gate_callee (f:=10) rfl ?_);refine goesL_ (some 10) rfl rfl Tryz.func10 (by kernel_rfl) rfl #[.slice A0_5 l0_5.length c0_5,.slice A1_5 l1_5.length c1_5] rfl (by (try simp only [List.map_toArray,List.map_cons,List.map_nil]);first|done|rfl|(simp only [List.length_drop,List.length_take];rfl)) ?_;(with_reducible refine (swageref02_Ints.calls k _ _ l0_5 _ _ l1_5 true _ ?side1 ?side2 ?side3 ?side4 A3.out).mono ?_);(case side1=>repeat (first|exact (Kd.C_below HR0_5.out HB.out)|(with_reducible refine Kd.C_alloc ?_ _)|(with_reducible refine Kd.C_drewN ?_ _)|(with_reducible refine Kd.C_drew ?_)));(case side2=>exact HC0_5.out);(case side3=>repeat (first|exact (Kd.C_below HR1_5.out HB.out)|(with_reducible refine Kd.C_alloc ?_ _)|(with_reducible refine Kd.C_drewN ?_ _)|(with_reducible refine Kd.C_drew ?_)));(case side4=>exact HC1_5.out);rintro e w' ⟨rfl,⟨nd,rfl⟩⟩;refine ⟨_,rfl,?_⟩))
    go_ret
    exact ⟨by first|rfl|(simp [errW_none,errW_some]<;>rfl)|(simp [*,errW_none,errW_some]<;>rfl),bl_ HB⟩
  ·rw [if_neg c5] at H
   have c5b0:(a0_0 == a1_0)=false:=beq_eq_false_iff_ne.mpr c5
   have c5b1:(a0_0 != a1_0)=true:=bne_iff_ne.mpr c5
   obtain rfl:=Option.some.inj H
   go_enter Tryz.func48,Tryz.ntmps48
   go_wp2_with (first|((with_reducible refine gate_dst (N:=2) rfl ?_);refine box_event ?hg (N:=2) ?hd (cs:=#[.int .i64 a0_0,.int .i64 a0_1,.int .i64 a0_2,.int .i64 a0_3,.int .i64 a0_4,.slice A0_5 l0_5.length c0_5]) (t:=45) ?hr ?_;(case hd=>rfl);(case hg=>rfl);(case hr=>first|(go_simp;done)|(go_simp;rfl));intro gb208 hg w29 hbox hb;have n0_:=ak_ (below_step (bl_ HB) hb);have n1_:=ak_ (hbox);have n2_:=ak_ ((by rw [hg];exact (below_size (bl_ HB)):w.heap.size≤gb208));have n3_:=ak_ ((by rw [hg];exact (below_size (bl_ HB)):w.heap.size≤gb208));clear HB;have HB:=n0_;have BK208:=n1_;have GW208:=n2_;have GE208:=n3_;clear n0_ n1_ n2_ n3_;clear hb hbox hg)|((with_reducible refine gate_dst (N:=3) rfl ?_);refine box_event ?hg (N:=3) ?hd (cs:=#[.int .i64 a1_0,.int .i64 a1_1,.int .i64 a1_2,.int .i64 a1_3,.int .i64 a1_4,.slice A1_5 l1_5.length c1_5]) (t:=45) ?hr ?_;(case hd=>rfl);(case hg=>rfl);(case hr=>first|(go_simp;done)|(go_simp;rfl));intro gb209 hg w30 hbox hb;have n0_:=ak_ (blk_below (g:=gb208) (o:=.cells #[.int .i64 a0_0,.int .i64 a0_1,.int .i64 a0_2,.int .i64 a0_3,.int .i64 a0_4,.slice A0_5 l0_5.length c0_5] 45 (0,0)) (bk_ BK208) hb);have n1_:=ak_ (below_step (bl_ HB) hb);have n2_:=ak_ (hbox);have n3_:=ak_ ((by rw [hg];exact (below_size (bl_ HB)):w.heap.size≤gb209));have n4_:=ak_ ((by rw [hg];exact (below_size (bl_ HB)):w.heap.size≤gb209));have n5_:=ak_ ((by rw [hg];exact Nat.ne_of_lt (blk_lt (g:=gb208) (o:=.cells #[.int .i64 a0_0,.int .i64 a0_1,.int .i64 a0_2,.int .i64 a0_3,.int .i64 a0_4,.slice A0_5 l0_5.length c0_5] 45 (0,0)) (bk_ BK208)):gb208≠gb209));have n6_:=ak_ ((by rw [hg];exact Nat.ne_of_gt (blk_lt (g:=gb208) (o:=.cells #[.int .i64 a0_0,.int .i64 a0_1,.int .i64 a0_2,.int .i64 a0_3,.int .i64 a0_4,.slice A0_5 l0_5.length c0_5] 45 (0,0)) (bk_ BK208)):gb209≠gb208));clear BK208;clear HB;have BK208:=n0_;have HB:=n1_;have BK209:=n2_;have GW209:=n3_;have GE209:=n4_;have NB208_209:=n5_;have NB209_208:=n6_;clear n0_ n1_ n2_ n3_ n4_ n5_ n6_;clear hb hbox hg;have hnb31:=NB208_209.out;have hnc31:=NB209_208.out;have hcz32_0:=ck_ BK208 0;have hcz32_1:=ck_ BK208 1;have hcz32_2:=ck_ BK208 2;have hcz32_3:=ck_ BK208 3;have hcz32_4:=ck_ BK208 4;have hcz32_5:=ck_ BK208 5;have hfz32_0:=fz_ BK208 0;have hfz32_1:=fz_ BK208 1;have hfz32_2:=fz_ BK208 2;have hfz32_3:=fz_ BK208 3;have hfz32_4:=fz_ BK208 4;have hfz32_5:=fz_ BK208 5;have hcz33_0:=ck_ BK209 0;have hcz33_1:=ck_ BK209 1;have hcz33_2:=ck_ BK209 2;have hcz33_3:=ck_ BK209 3;have hcz33_4:=ck_ BK209 4;have hcz33_5:=ck_ BK209 5;have hfz33_0:=fz_ BK209 0;have hfz33_1:=fz_ BK209 1;have hfz33_2:=fz_ BK209 2;have hfz33_3:=fz_ BK209 3;have hfz33_4:=fz_ BK209 4;have hfz33_5:=fz_ BK209 5)|((with_reducible refine gate_callee (f:=10) rfl ?_);refine goesL_ (some 10) rfl rfl Tryz.func10 (by kernel_rfl) rfl #[.slice A0_5 l0_5.length c0_5,.slice A1_5 l1_5.length c1_5] rfl (by (try simp only [List.map_toArray,List.map_cons,List.map_nil]);first|done|rfl|(simp only [List.length_drop,List.length_take];rfl)) ?_;(with_reducible refine (swageref02_Ints.calls k _ _ l0_5 _ _ l1_5 true _ ?side1 ?side2 ?side3 ?side4 A3.out).mono ?_);(case side1=>repeat (first|exact (Kd.C_below HR0_5.out HB.out)|(with_reducible refine Kd.C_alloc ?_ _)|(with_reducible refine Kd.C_drewN ?_ _)|(with_reducible refine Kd.C_drew ?_)));(case side2=>exact HC0_5.out);(case side3=>repeat (first|exact (Kd.C_below HR1_5.out HB.out)|(with_reducible refine Kd.C_alloc ?_ _)|(with_reducible refine Kd.C_drewN ?_ _)|(with_reducible refine Kd.C_drew ?_)));(case side4=>exact HC1_5.out);rintro e w' ⟨rfl,⟨nd,rfl⟩⟩;refine ⟨_,rfl,?_⟩))
   go_ret
   exact ⟨by first|rfl|(simp [errW_none,errW_some]<;>rfl)|(simp [*,errW_none,errW_some]<;>rfl),bl_ HB⟩
 ·replace c4:=Bool.eq_false_iff.mpr c4
  subst c4
  have H1:(some false)=some r:=by rw [if_neg (show ¬ (false=true) by decide)] at H;exact H
  clear H
  have H:=H1
  clear H1
  obtain rfl:=Option.some.inj H
  go_enter Tryz.func48,Tryz.ntmps48
  go_wp2_with (first|((with_reducible refine gate_dst (N:=2) rfl ?_);refine box_event ?hg (N:=2) ?hd (cs:=#[.int .i64 a0_0,.int .i64 a0_1,.int .i64 a0_2,.int .i64 a0_3,.int .i64 a0_4,.slice A0_5 l0_5.length c0_5]) (t:=45) ?hr ?_;(case hd=>rfl);(case hg=>rfl);(case hr=>first|(go_simp;done)|(go_simp;rfl));intro gb208 hg w34 hbox hb;have n0_:=ak_ (below_step (bl_ HB) hb);have n1_:=ak_ (hbox);have n2_:=ak_ ((by rw [hg];exact (below_size (bl_ HB)):w.heap.size≤gb208));have n3_:=ak_ ((by rw [hg];exact (below_size (bl_ HB)):w.heap.size≤gb208));clear HB;have HB:=n0_;have BK208:=n1_;have GW208:=n2_;have GE208:=n3_;clear n0_ n1_ n2_ n3_;clear hb hbox hg)|((with_reducible refine gate_dst (N:=3) rfl ?_);refine box_event ?hg (N:=3) ?hd (cs:=#[.int .i64 a1_0,.int .i64 a1_1,.int .i64 a1_2,.int .i64 a1_3,.int .i64 a1_4,.slice A1_5 l1_5.length c1_5]) (t:=45) ?hr ?_;(case hd=>rfl);(case hg=>rfl);(case hr=>first|(go_simp;done)|(go_simp;rfl));intro gb209 hg w35 hbox hb;have n0_:=ak_ (blk_below (g:=gb208) (o:=.cells #[.int .i64 a0_0,.int .i64 a0_1,.int .i64 a0_2,.int .i64 a0_3,.int .i64 a0_4,.slice A0_5 l0_5.length c0_5] 45 (0,0)) (bk_ BK208) hb);have n1_:=ak_ (below_step (bl_ HB) hb);have n2_:=ak_ (hbox);have n3_:=ak_ ((by rw [hg];exact (below_size (bl_ HB)):w.heap.size≤gb209));have n4_:=ak_ ((by rw [hg];exact (below_size (bl_ HB)):w.heap.size≤gb209));have n5_:=ak_ ((by rw [hg];exact Nat.ne_of_lt (blk_lt (g:=gb208) (o:=.cells #[.int .i64 a0_0,.int .i64 a0_1,.int .i64 a0_2,.int .i64 a0_3,.int .i64 a0_4,.slice A0_5 l0_5.length c0_5] 45 (0,0)) (bk_ BK208)):gb208≠gb209));have n6_:=ak_ ((by rw [hg];exact Nat.ne_of_gt (blk_lt (g:=gb208) (o:=.cells #[.int .i64 a0_0,.int .i64 a0_1,.int .i64 a0_2,.int .i64 a0_3,.int .i64 a0_4,.slice A0_5 l0_5.length c0_5] 45 (0,0)) (bk_ BK208)):gb209≠gb208));clear BK208;clear HB;have BK208:=n0_;have HB:=n1_;have BK209:=n2_;have GW209:=n3_;have GE209:=n4_;have NB208_209:=n5_;have NB209_208:=n6_;clear n0_ n1_ n2_ n3_ n4_ n5_ n6_;clear hb hbox hg;have hnb36:=NB208_209.out;have hnc36:=NB209_208.out;have hcz37_0:=ck_ BK208 0;have hcz37_1:=ck_ BK208 1;have hcz37_2:=ck_ BK208 2;have hcz37_3:=ck_ BK208 3;have hcz37_4:=ck_ BK208 4;have hcz37_5:=ck_ BK208 5;have hfz37_0:=fz_ BK208 0;have hfz37_1:=fz_ BK208 1;have hfz37_2:=fz_ BK208 2;have hfz37_3:=fz_ BK208 3;have hfz37_4:=fz_ BK208 4;have hfz37_5:=fz_ BK208 5;have hcz38_0:=ck_ BK209 0;have hcz38_1:=ck_ BK209 1;have hcz38_2:=ck_ BK209 2;have hcz38_3:=ck_ BK209 3;have hcz38_4:=ck_ BK209 4;have hcz38_5:=ck_ BK209 5;have hfz38_0:=fz_ BK209 0;have hfz38_1:=fz_ BK209 1;have hfz38_2:=fz_ BK209 2;have hfz38_3:=fz_ BK209 3;have hfz38_4:=fz_ BK209 4;have hfz38_5:=fz_ BK209 5)|((with_reducible refine gate_callee (f:=10) rfl ?_);refine goesL_ (some 10) rfl rfl Tryz.func10 (by kernel_rfl) rfl #[.slice A0_5 l0_5.length c0_5,.slice A1_5 l1_5.length c1_5] rfl (by (try simp only [List.map_toArray,List.map_cons,List.map_nil]);first|done|rfl|(simp only [List.length_drop,List.length_take];rfl)) ?_;(with_reducible refine (swageref02_Ints.calls k _ _ l0_5 _ _ l1_5 false _ ?side1 ?side2 ?side3 ?side4 A3.out).mono ?_);(case side1=>repeat (first|exact (Kd.C_below HR0_5.out HB.out)|(with_reducible refine Kd.C_alloc ?_ _)|(with_reducible refine Kd.C_drewN ?_ _)|(with_reducible refine Kd.C_drew ?_)));(case side2=>exact HC0_5.out);(case side3=>repeat (first|exact (Kd.C_below HR1_5.out HB.out)|(with_reducible refine Kd.C_alloc ?_ _)|(with_reducible refine Kd.C_drewN ?_ _)|(with_reducible refine Kd.C_drew ?_)));(case side4=>exact HC1_5.out);rintro e w' ⟨rfl,⟨nd,rfl⟩⟩;refine ⟨_,rfl,?_⟩))
  go_ret
  exact ⟨by first|rfl|(simp [errW_none,errW_some]<;>rfl)|(simp [*,errW_none,errW_some]<;>rfl),bl_ HB⟩

/-! ### swageref06_Rows: function 21 -/
-- code_Right: function 45: a contract by hand,in Oora
/-! ### spans_Number: function 11 -/
def spans_Number.l0:Nat→List Int→List (S50)→Int→Int→Option (List Int)
 | 0,_,_,_,_=>none
 | k+1,x3,x11,x12,x13=>if x13<x12 then (if 0≤x13 then (if x13<(x11.length:Int) then (if x13<(x3.length:Int) then (if x3.length<17592186044416 then (spans_Number.l0 k (x3++[wrap64 ((wrap64 ((rd x3 x13)+(((rd_T50 x11 x13).f0).length:Int)))+1)]) x11 x12 (wrap64 (x13+1))) else (none)) else (none)) else (none)) else (none)) else (some x3)
def spans_Number.f (k:Nat) (a0_0:Int) (l0_1:List (S50)):Option (List Int):=(code_Right.f a0_0 l0_1 256).bind fun t215=>(if t215=true then (spans_Number.l0 k (([0]:List Int)) l0_1 (l0_1.length:Int) 0) else (some ([]:List Int)))
def spans_Number.T7:Bool × List (List Nat × List Nat):=(true,[([],[]),([],[]),([],[]),([1,2],[1,2]),([3],[3]),([],[]),([5],[5]),([6],[6]),([4,7],[4,7]),([8],[8]),([9],[9]),([0,10],[0,10]),([11,11,0,1,2,3,4,5,6,7,8,9,10,11],[0,1,11])])
def spans_Number.B7:List Nat:=[0,0,0,6,14,0,32,96,254,510,1022,2047,4095]
theorem spans_Number.tab7:rtab .any (opsOf Tryz.f11 7)=spans_Number.T7:=by kernel_rfl
theorem spans_Number.bits7:waitsOk spans_Number.T7.2 spans_Number.B7=true:=by kernel_rfl
set_option maxHeartbeats 8000000 in
set_option maxRecDepth 100000 in
theorem spans_Number.calls (k:Nat) (a0_0:Int) (A0_1:Option Addr) (c0_1:Nat) (l0_1:List (S50)) (r:List Int) (w:World) (hr0_1:Kd.C k50 w A0_1 l0_1.length l0_1) (hc0_1:l0_1.length≤c0_1) (h:spans_Number.f k a0_0 l0_1=some r) :
  Calls Tryz.prog 11 #[.agg #[.int .i64 a0_0,.slice A0_1 l0_1.length c0_1]] w fun e w'=>∃ v0_:Value,e=.returned (v0_)∧Kd.R (Kd.int .i64) 3 w' w.heap.size (fun _=>True) v0_ r∧Below w.heap.size w w':=by
 have hu24:=Tryz.underlying24
 have hu50:=Tryz.underlying50
 have HR0_1:=ak_ hr0_1
 have HC0_1:=ak_ hc0_1
 clear hr0_1 hc0_1
 have HB:=ak_ (Below.refl w.heap.size w)
 have H:((code_Right.f a0_0 l0_1 256).bind fun t215=>(if t215=true then (spans_Number.l0 k (([0]:List Int)) l0_1 (l0_1.length:Int) 0) else (some ([]:List Int))))=some r:=h
 clear h
 replace H:=Option.bind_eq_some_iff.mp H
 obtain ⟨t215,A20,H⟩:=H
 replace H:(if t215=true then (spans_Number.l0 k (([0]:List Int)) l0_1 (l0_1.length:Int) 0) else (some ([]:List Int)))=some r:=H
 have A2:=ak_ A20
 clear A20
 by_cases c3:t215=true
 ·subst c3
  have H1:(spans_Number.l0 k (([0]:List Int)) l0_1 (l0_1.length:Int) 0)=some r:=by rw [if_pos rfl] at H;exact H
  clear H
  have H:=H1
  clear H1
  obtain ⟨y216,hy216⟩:∃ y_:List Int,y_=(([0]:List Int)):=⟨_,rfl⟩
  replace H:(spans_Number.l0 k y216 l0_1 (l0_1.length:Int) 0)=some r:=by first|(rw [hy216];with_reducible exact H)|(have H2_:=(Option.bind_some _ _).symm.trans H;rw [hy216];with_reducible exact H2_)|(have H2_:=(Option.bind_some _ _).symm.trans H;with_reducible exact H2_)|with_reducible exact H|(rw [hy216];exact H)|exact H
  have Ny216:=ak_ hy216
  clear hy216
  have H':=ak_ H
  clear H
  go_enter Tryz.func11,Tryz.ntmps11
  go_wp2_with (first|((with_reducible refine gate_dst (N:=1) rfl ?_);refine box_event ?hg (N:=1) ?hd (cs:=#[.int .i64 a0_0,.slice A0_1 l0_1.length c0_1]) (t:=24) ?hr ?_;(case hd=>rfl);(case hg=>rfl);(case hr=>first|(go_simp;done)|(go_simp;rfl));intro gb214 hg w4 hbox hb;have n0_:=ak_ (below_step (bl_ HB) hb);have n1_:=ak_ (hbox);have n2_:=ak_ ((by rw [hg];exact (below_size (bl_ HB)):w.heap.size≤gb214));have n3_:=ak_ ((by rw [hg];exact (below_size (bl_ HB)):w.heap.size≤gb214));clear HB;have HB:=n0_;have BK214:=n1_;have GW214:=n2_;have GE214:=n3_;clear n0_ n1_ n2_ n3_;clear hb hbox hg;have hcz5_0:=ck_ BK214 0;have hcz5_1:=ck_ BK214 1;have hfz5_0:=fz_ BK214 0;have hfz5_1:=fz_ BK214 1)|((with_reducible refine gate_callee (f:=45) rfl ?_);refine goesL_ (some 7) rfl rfl Tryz.func45 (by kernel_rfl) rfl #[.agg #[.int .i64 a0_0,.slice A0_1 l0_1.length c0_1],.int .i64 256] rfl (by (try simp only [List.map_toArray,List.map_cons,List.map_nil]);first|done|rfl|(simp only [List.length_drop,List.length_take];rfl)) ?_;(with_reducible refine (code_Right.calls a0_0 _ _ l0_1 256 true _ ?side1 ?side2 A2.out).mono ?_);(case side1=>repeat (first|exact (Kd.C_below HR0_1.out HB.out)|(with_reducible refine Kd.C_alloc ?_ _)|(with_reducible refine Kd.C_drewN ?_ _)|(with_reducible refine Kd.C_drew ?_)));(case side2=>exact HC0_1.out);rintro e w6 ⟨rfl,hb⟩;refine ⟨_,rfl,?_⟩;have n0_:=ak_ (blk_below (g:=gb214) (o:=.cells #[.int .i64 a0_0,.slice A0_1 l0_1.length c0_1] 24 (0,0)) (bk_ BK214) hb);have n1_:=ak_ (below_step (bl_ HB) hb);clear BK214;clear HB;have BK214:=n0_;have HB:=n1_;clear n0_ n1_;(try clear hb);(try clear hb2);(try clear hk);(try clear hi))|((with_reducible refine gate_dst (N:=9) rfl ?_);refine Kd.R_lit (Kd.int .i64) _ 3 ?hg (N:=9) ?hd (xs:=([0]:List Int)) (inner:=[.int .i64 0]) (ok:=fun _=>True) (okp:=fun _=>True) ?hr ?hp (fun _ hk=>hk) trivial (Below.refl _ _) (Nat.le_refl _) (by simp) ?_;(case hd=>rfl);(case hg=>rfl);(case hr=>first|(go_simp;done)|(go_simp;rfl));(case hp=>exact (Reps.one (show Kd.M (Kd.int .i64) _ _ _ 0 [.int .i64 0] from rfl) (Reps.none _ _)));intro v217 w7 ho8 hb hg_ hnew_;clear hg_ hnew_;(first|rw [← Ny216.out] at ho8|(simp only [Int.reduceToNat] at ho8;rw [← Ny216.out] at ho8));have n0_:=ak_ (Kd.R_lower ho8 (below_size (bl_ HB)));have n1_:=ak_ (blk_below (g:=gb214) (o:=.cells #[.int .i64 a0_0,.slice A0_1 l0_1.length c0_1] 24 (0,0)) (bk_ BK214) hb);have n2_:=ak_ (below_step (bl_ HB) hb);clear BK214;clear HB;have HO218:=n0_;have BK214:=n1_;have HB:=n2_;clear n0_ n1_ n2_;clear hb ho8;have hcz9_0:=ck_ BK214 0;have hcz9_1:=ck_ BK214 1;have hfz9_0:=fz_ BK214 0;have hfz9_1:=fz_ BK214 1))
  go_loopg [3,13] k (fun kq v3 v13 w'=>∃ (x3_1:List Int) (x13_1:Int),v13=.int .i64 x13_1∧Aside0 (spans_Number.l0 kq x3_1 l0_1 (l0_1.length:Int) x13_1=some r)∧Aside0 (kq≤k)∧Aside0 (Kd.R (Kd.int .i64) 3 w' w.heap.size (fun _=>True) v3 x3_1)∧Aside0 (w'.heap[gb214]?=some (.cells #[.int .i64 a0_0,(.slice A0_1 l0_1.length c0_1)] 24 (0,0)))∧Aside0 (Below w.heap.size w w'))
  case atStart=>exact ⟨(y216),(0),(by first|rfl|(simp;done)|(simp [*];done)),H',⟨Nat.le_refl _⟩,⟨by (with_reducible repeat (first|apply Kd.R_alloc|apply Kd.R_drewN|apply Kd.R_drew));exact HO218.out⟩,⟨bk_ BK214⟩,⟨bl_ HB⟩⟩
  case round =>
   clear H'
   obtain ⟨x3_1,x13_1,rfl,HA,HK1,HO_3,BK214,HB⟩:=hrel
   cases gk with
   | zero=>exact absurd HA.out (by simp [spans_Number.l0])
   | succ k1 =>
    have H:=HA.out
    clear HA
    simp only [spans_Number.l0] at H
    by_cases c10:x13_1<(l0_1.length:Int)
    ·rw [if_pos c10] at H
     have c10b0:decide (x13_1<(l0_1.length:Int))=true:=decide_eq_true c10
     clear c10
     by_cases c11:0≤x13_1
     ·rw [if_pos c11] at H
      have c11b0:decide (0≤x13_1)=true:=decide_eq_true c11
      clear c11
      by_cases c12:x13_1<(l0_1.length:Int)
      ·rw [if_pos c12] at H
       have c12b0:decide (x13_1<(l0_1.length:Int))=true:=decide_eq_true c12
       clear c12
       by_cases c13:x13_1<(x3_1.length:Int)
       ·rw [if_pos c13] at H
        have c13b0:decide (x13_1<(x3_1.length:Int))=true:=decide_eq_true c13
        clear c13
        by_cases c14:x3_1.length<17592186044416
        ·rw [if_pos c14] at H
         have LMc14:=ak_ c14
         clear c14
         obtain ⟨y222,hy222⟩:∃ y_:List Int,y_=(x3_1++[wrap64 ((wrap64 ((rd x3_1 x13_1)+(((rd_T50 l0_1 x13_1).f0).length:Int)))+1)]):=⟨_,rfl⟩
         replace H:(spans_Number.l0 k1 y222 l0_1 (l0_1.length:Int) (wrap64 (x13_1+1)))=some r:=by first|(rw [hy222];with_reducible exact H)|(have H2_:=(Option.bind_some _ _).symm.trans H;rw [hy222];with_reducible exact H2_)|(have H2_:=(Option.bind_some _ _).symm.trans H;with_reducible exact H2_)|with_reducible exact H|(rw [hy222];exact H)|exact H
         have Ny222:=ak_ hy222
         clear hy222
         have H':=ak_ H
         clear H
         have p219:0≤(x13_1:Int):=of_decide_eq_true (by first|(with_reducible assumption)|assumption)
         have q219:x13_1<(l0_1.length:Int):=of_decide_eq_true (by first|(with_reducible assumption)|assumption)
         obtain ⟨ad219,A219_0,c219_0,e219,hx219_0,hx219_1,hx219_2,hx219_3,hx219_4,hl219_0,hi219_0⟩:=at_T50 HR0_1.out x13_1 p219 q219
         cases e219
         replace hx219_0:=cl_ HB hx219_0
         replace hx219_1:=cl_ HB hx219_1
         replace hx219_2:=cl_ HB hx219_2
         replace hx219_3:=cl_ HB hx219_3
         replace hx219_4:=cl_ HB hx219_4
         have HR219_0:=ak_ hi219_0
         have HC219_0:=ak_ hl219_0
         clear hi219_0 hl219_0
         replace p219:=eq_true p219
         replace q219:=eq_true q219
         try go_wp2_with (first|((with_reducible refine gate_dst (N:=5) rfl ?_);refine box_event ?hg (N:=5) ?hd (cs:=#[.slice none 0 0,.int .i64 0,.int .i64 0,.int .i64 0,.int .i64 0]) (t:=50) ?hr ?_;(case hd=>rfl);(case hg=>rfl);(case hr=>first|(go_simp;done)|(go_simp;rfl));intro gb220 hg w15 hbox hb;have n0_:=ak_ (Kd.R_below (by (with_reducible repeat (first|apply Kd.R_alloc|apply Kd.R_drewN|apply Kd.R_drew));exact HO_3.out) hb);have n1_:=ak_ (blk_below (g:=gb214) (o:=.cells #[.int .i64 a0_0,.slice (some ad219) l0_1.length c0_1] 24 (0,0)) (bk_ BK214) hb);have n2_:=ak_ (below_step (bl_ HB) hb);have n3_:=ak_ (hbox);have n4_:=ak_ ((by rw [hg];exact (below_size (bl_ HB)):w.heap.size≤gb220));have n5_:=ak_ ((by rw [hg];exact (below_size (bl_ HB)):w.heap.size≤gb220));have n6_:=ak_ ((by rw [hg];exact Nat.ne_of_lt (blk_lt (g:=gb214) (o:=.cells #[.int .i64 a0_0,.slice (some ad219) l0_1.length c0_1] 24 (0,0)) (bk_ BK214)):gb214≠gb220));have n7_:=ak_ ((by rw [hg];exact Nat.ne_of_gt (blk_lt (g:=gb214) (o:=.cells #[.int .i64 a0_0,.slice (some ad219) l0_1.length c0_1] 24 (0,0)) (bk_ BK214)):gb220≠gb214));clear HO_3;clear BK214;clear HB;have HO_3:=n0_;have BK214:=n1_;have HB:=n2_;have BK220:=n3_;have GW220:=n4_;have GE220:=n5_;have NB214_220:=n6_;have NB220_214:=n7_;clear n0_ n1_ n2_ n3_ n4_ n5_ n6_ n7_;clear hb hbox hg;have hnb16:=NB220_214.out;have hnc16:=NB214_220.out;have hcz17_0:=ck_ BK220 0;have hcz17_1:=ck_ BK220 1;have hcz17_2:=ck_ BK220 2;have hcz17_3:=ck_ BK220 3;have hcz17_4:=ck_ BK220 4;have hfz17_0:=fz_ BK220 0;have hfz17_1:=fz_ BK220 1;have hfz17_2:=fz_ BK220 2;have hfz17_3:=fz_ BK220 3;have hfz17_4:=fz_ BK220 4))
         have n0_:Aside0 (Kd.R (Kd.int .i64) 3 (((((w15.setCell ⟨gb220,0,none⟩ (.slice A219_0 ((rd_T50 l0_1 x13_1).f0).length c219_0)).setCell ⟨gb220,1,none⟩ (.int .i64 ((rd_T50 l0_1 x13_1).f1.f0))).setCell ⟨gb220,2,none⟩ (.int .i64 ((rd_T50 l0_1 x13_1).f1.f1))).setCell ⟨gb220,3,none⟩ (.int .i64 ((rd_T50 l0_1 x13_1).f1.f2))).setCell ⟨gb220,4,none⟩ (.int .i64 ((rd_T50 l0_1 x13_1).f1.f3))) w.heap.size (fun _=>True) u3 x3_1):=⟨by (with_reducible repeat (first|apply Kd.R_alloc|apply Kd.R_drewN|apply Kd.R_drew));exact Kd.R_mono (Kd.R_far (p:=⟨gb220,4,none⟩) (Kd.R_far (p:=⟨gb220,3,none⟩) (Kd.R_far (p:=⟨gb220,2,none⟩) (Kd.R_far (p:=⟨gb220,1,none⟩) (Kd.R_far (p:=⟨gb220,0,none⟩) (Kd.R_types HO_3.out BK220.out (by decide)) (fun _ hk=>hk.2) (.slice A219_0 ((rd_T50 l0_1 x13_1).f0).length c219_0)) (fun _ hk=>hk.2) (.int .i64 ((rd_T50 l0_1 x13_1).f1.f0))) (fun _ hk=>hk.2) (.int .i64 ((rd_T50 l0_1 x13_1).f1.f1))) (fun _ hk=>hk.2) (.int .i64 ((rd_T50 l0_1 x13_1).f1.f2))) (fun _ hk=>hk.2) (.int .i64 ((rd_T50 l0_1 x13_1).f1.f3))) (fun _ hk=>trivial)⟩
         have n1_:Aside0 ((((((w15.setCell ⟨gb220,0,none⟩ (.slice A219_0 ((rd_T50 l0_1 x13_1).f0).length c219_0)).setCell ⟨gb220,1,none⟩ (.int .i64 ((rd_T50 l0_1 x13_1).f1.f0))).setCell ⟨gb220,2,none⟩ (.int .i64 ((rd_T50 l0_1 x13_1).f1.f1))).setCell ⟨gb220,3,none⟩ (.int .i64 ((rd_T50 l0_1 x13_1).f1.f2))).setCell ⟨gb220,4,none⟩ (.int .i64 ((rd_T50 l0_1 x13_1).f1.f3))).heap[gb214]?=some (.cells #[.int .i64 a0_0,.slice (some ad219) l0_1.length c0_1] 24 (0,0))):=⟨by (with_reducible repeat (first|refine blk_drewN ?_ _|refine blk_drew ?_|refine blk_alloc ?_ _));refine blk_far ?_ NB214_220.out _;(with_reducible repeat (first|refine blk_drewN ?_ _|refine blk_drew ?_|refine blk_alloc ?_ _));refine blk_far ?_ NB214_220.out _;(with_reducible repeat (first|refine blk_drewN ?_ _|refine blk_drew ?_|refine blk_alloc ?_ _));refine blk_far ?_ NB214_220.out _;(with_reducible repeat (first|refine blk_drewN ?_ _|refine blk_drew ?_|refine blk_alloc ?_ _));refine blk_far ?_ NB214_220.out _;(with_reducible repeat (first|refine blk_drewN ?_ _|refine blk_drew ?_|refine blk_alloc ?_ _));refine blk_far ?_ NB214_220.out _;(with_reducible repeat (first|refine blk_drewN ?_ _|refine blk_drew ?_|refine blk_alloc ?_ _));exact BK214.out⟩
         have n2_:Aside0 ((((((w15.setCell ⟨gb220,0,none⟩ (.slice A219_0 ((rd_T50 l0_1 x13_1).f0).length c219_0)).setCell ⟨gb220,1,none⟩ (.int .i64 ((rd_T50 l0_1 x13_1).f1.f0))).setCell ⟨gb220,2,none⟩ (.int .i64 ((rd_T50 l0_1 x13_1).f1.f1))).setCell ⟨gb220,3,none⟩ (.int .i64 ((rd_T50 l0_1 x13_1).f1.f2))).setCell ⟨gb220,4,none⟩ (.int .i64 ((rd_T50 l0_1 x13_1).f1.f3))).heap[gb220]?=some (.cells #[.slice A219_0 ((rd_T50 l0_1 x13_1).f0).length c219_0,.int .i64 ((rd_T50 l0_1 x13_1).f1.f0),.int .i64 ((rd_T50 l0_1 x13_1).f1.f1),.int .i64 ((rd_T50 l0_1 x13_1).f1.f2),.int .i64 ((rd_T50 l0_1 x13_1).f1.f3)] 50 (0,0))):=⟨by (with_reducible repeat (first|refine blk_drewN ?_ _|refine blk_drew ?_|refine blk_alloc ?_ _));refine blk_put (cs:=#[.slice A219_0 ((rd_T50 l0_1 x13_1).f0).length c219_0,.int .i64 ((rd_T50 l0_1 x13_1).f1.f0),.int .i64 ((rd_T50 l0_1 x13_1).f1.f1),.int .i64 ((rd_T50 l0_1 x13_1).f1.f2),.int .i64 0]) ?_ 4 _ rfl;(with_reducible repeat (first|refine blk_drewN ?_ _|refine blk_drew ?_|refine blk_alloc ?_ _));refine blk_put (cs:=#[.slice A219_0 ((rd_T50 l0_1 x13_1).f0).length c219_0,.int .i64 ((rd_T50 l0_1 x13_1).f1.f0),.int .i64 ((rd_T50 l0_1 x13_1).f1.f1),.int .i64 0,.int .i64 0]) ?_ 3 _ rfl;(with_reducible repeat (first|refine blk_drewN ?_ _|refine blk_drew ?_|refine blk_alloc ?_ _));refine blk_put (cs:=#[.slice A219_0 ((rd_T50 l0_1 x13_1).f0).length c219_0,.int .i64 ((rd_T50 l0_1 x13_1).f1.f0),.int .i64 0,.int .i64 0,.int .i64 0]) ?_ 2 _ rfl;(with_reducible repeat (first|refine blk_drewN ?_ _|refine blk_drew ?_|refine blk_alloc ?_ _));refine blk_put (cs:=#[.slice A219_0 ((rd_T50 l0_1 x13_1).f0).length c219_0,.int .i64 0,.int .i64 0,.int .i64 0,.int .i64 0]) ?_ 1 _ rfl;(with_reducible repeat (first|refine blk_drewN ?_ _|refine blk_drew ?_|refine blk_alloc ?_ _));refine blk_put (cs:=#[.slice none 0 0,.int .i64 0,.int .i64 0,.int .i64 0,.int .i64 0]) ?_ 0 _ rfl;(with_reducible repeat (first|refine blk_drewN ?_ _|refine blk_drew ?_|refine blk_alloc ?_ _));exact BK220.out⟩
         have n3_:Aside0 (Below w.heap.size w (((((w15.setCell ⟨gb220,0,none⟩ (.slice A219_0 ((rd_T50 l0_1 x13_1).f0).length c219_0)).setCell ⟨gb220,1,none⟩ (.int .i64 ((rd_T50 l0_1 x13_1).f1.f0))).setCell ⟨gb220,2,none⟩ (.int .i64 ((rd_T50 l0_1 x13_1).f1.f1))).setCell ⟨gb220,3,none⟩ (.int .i64 ((rd_T50 l0_1 x13_1).f1.f2))).setCell ⟨gb220,4,none⟩ (.int .i64 ((rd_T50 l0_1 x13_1).f1.f3)))):=⟨bl_ HB⟩
         (try clear HO_3)
         (try clear BK214)
         (try clear BK220)
         (try clear HB)
         generalize (((((w15.setCell ⟨gb220,0,none⟩ (.slice A219_0 ((rd_T50 l0_1 x13_1).f0).length c219_0)).setCell ⟨gb220,1,none⟩ (.int .i64 ((rd_T50 l0_1 x13_1).f1.f0))).setCell ⟨gb220,2,none⟩ (.int .i64 ((rd_T50 l0_1 x13_1).f1.f1))).setCell ⟨gb220,3,none⟩ (.int .i64 ((rd_T50 l0_1 x13_1).f1.f2))).setCell ⟨gb220,4,none⟩ (.int .i64 ((rd_T50 l0_1 x13_1).f1.f3)))=w18 at n0_ n1_ n2_ n3_ ⊢
         have HO_3:=n0_
         have BK214:=n1_
         have BK220:=n2_
         have HB:=n3_
         clear n0_ n1_ n2_ n3_
         have n0_:=ak_ (Kd.R_drew HO_3.out)
         have n1_:=ak_ (blk_drew BK214.out)
         have n2_:=ak_ (blk_drew BK220.out)
         have n3_:=ak_ (below_drew1 HB.out)
         clear HO_3
         clear BK214
         clear BK220
         clear HB
         have HO_3:=n0_
         have BK214:=n1_
         have BK220:=n2_
         have HB:=n3_
         clear n0_ n1_ n2_ n3_
         obtain ⟨Ao20,co20,eo20⟩:=Kd.R_slice HO_3.out
         (first|subst eo20|(injection eo20 with f1_ f2_ f3_;have f4_:=f1_.symm;have f5_:=f3_.symm;clear f1_ f2_ f3_;subst f4_;subst f5_))
         have p221:0≤(x13_1:Int):=of_decide_eq_true (by first|(with_reducible assumption)|assumption)
         have q221:x13_1<(x3_1.length:Int):=of_decide_eq_true (by first|(with_reducible assumption)|assumption)
         obtain ⟨ad221,e221,hx221_0⟩:=Kd.at_int (Kd.R_reads' HO_3.out).2.2 x13_1 p221 q221
         cases e221
         replace p221:=eq_true p221
         replace q221:=eq_true q221
         refine start_ (n:=13) (S:=fun w'=>w'.cell? ⟨gb220,0,none⟩=some (.slice A219_0 ((rd_T50 l0_1 x13_1).f0).length c219_0)∧w'.cell? ⟨gb220,1,none⟩=some (.int .i64 ((rd_T50 l0_1 x13_1).f1.f0))∧w'.cell? ⟨gb220,2,none⟩=some (.int .i64 ((rd_T50 l0_1 x13_1).f1.f1))∧w'.cell? ⟨gb220,3,none⟩=some (.int .i64 ((rd_T50 l0_1 x13_1).f1.f2))∧w'.cell? ⟨gb220,4,none⟩=some (.int .i64 ((rd_T50 l0_1 x13_1).f1.f3))∧w'.cell? (ad221.add (x13_1).toNat)=some (.int .i64 (rd x3_1 x13_1))) (ds:=[10,11]) #[false,false,false,false,false,false,false,false,false,false,false,false,false] (by kernel_rfl) rfl rfl ⟨ck_ BK220 0,ck_ BK220 1,ck_ BK220 2,ck_ BK220 3,ck_ BK220 4,hx221_0⟩ (fun hHeld=>?_);refine with_tabW spans_Number.tab7 spans_Number.bits7 (fun HT_ HW_=>?_)
         generalize w18.drew=w19 at HO_3 BK214 BK220 HB hx221_0 hHeld ⊢
         refine pure_ (i:=0) (N:=some 18) (v:=?_) (a':=?_) #[true,false,false,false,false,false,false,false,false,false,false,false,false] rfl rfl (any_of HT_.out (by kernel_rfl)) (fun _ _ _ h=>h) (Or.inl ⟨by rfl,?_⟩) ?_ ?_
         rotate_left
         ·intro w'
          go_simp
          with_reducible rfl
         rotate_left
         ·simp only [Act.put,pa_,pb_,pc_,i64_w,i32_w]
          rfl
         refine pure_ (i:=1) (N:=some 19) (v:=?_) (a':=?_) #[true,true,false,false,false,false,false,false,false,false,false,false,false] rfl rfl (any_of HT_.out (by kernel_rfl)) (fun _ _ _ h=>h) (Or.inl ⟨by rfl,?_⟩) ?_ ?_
         rotate_left
         ·intro w'
          go_simp
          with_reducible rfl
         rotate_left
         ·simp only [Act.put,pa_,pb_,pc_,i64_w,i32_w]
          rfl
         refine pure_ (i:=2) (N:=some 20) (v:=?_) (a':=?_) #[true,true,true,false,false,false,false,false,false,false,false,false,false] rfl rfl (any_of HT_.out (by kernel_rfl)) (fun _ _ _ h=>h) (Or.inl ⟨by rfl,?_⟩) ?_ ?_
         rotate_left
         ·intro w'
          go_simp
          with_reducible rfl
         rotate_left
         ·simp only [Act.put,pa_,pb_,pc_,i64_w,i32_w]
          rfl
         refine pure_ (i:=3) (N:=some 21) (v:=?_) (a':=?_) #[true,true,true,true,false,false,false,false,false,false,false,false,false] rfl rfl (any_of HT_.out (by kernel_rfl)) (fun _ _ _ h=>h) (Or.inl ⟨by rfl,?_⟩) ?_ ?_
         rotate_left
         ·intro w'
          go_simp
          with_reducible rfl
         rotate_left
         ·simp only [Act.put,pa_,pb_,pc_,i64_w,i32_w]
          rfl
         refine pure_ (i:=5) (N:=some 23) (v:=?_) (a':=?_) #[true,true,true,true,false,true,false,false,false,false,false,false,false] rfl rfl (any_of HT_.out (by kernel_rfl)) (fun _ _ _ h=>h) (Or.inl ⟨by rfl,?_⟩) ?_ ?_
         rotate_left
         ·intro w'
          go_simp
          with_reducible rfl
         rotate_left
         ·simp only [Act.put,pa_,pb_,pc_,i64_w,i32_w]
          rfl
         refine take_ (i:=4) (N:=some 22) (v:=?_) (a':=?_) #[true,true,true,true,true,true,false,false,false,false,false,false,false] rfl rfl (take_ofW HT_.out HW_.out (by kernel_rfl)) (fun _ _ _ h=>h) (Or.inl ⟨by rfl,?_⟩) hHeld ?_ ?_
         rotate_left
         ·rintro w' ⟨s0,s1,s2,s3,s4,s5⟩
          go_simp
          with_reducible rfl
         rotate_left
         ·simp only [Act.put,pa_,pb_,pc_,i64_w,i32_w]
          rfl
         refine take_ (i:=6) (N:=some 24) (v:=?_) (a':=?_) #[true,true,true,true,true,true,true,false,false,false,false,false,false] rfl rfl (take_ofW HT_.out HW_.out (by kernel_rfl)) (fun _ _ _ h=>h) (Or.inl ⟨by rfl,?_⟩) hHeld ?_ ?_
         rotate_left
         ·rintro w' ⟨s0,s1,s2,s3,s4,s5⟩
          go_simp
          with_reducible rfl
         rotate_left
         ·simp only [Act.put,pa_,pb_,pc_,i64_w,i32_w]
          rfl
         refine pure_ (i:=7) (N:=some 25) (v:=?_) (a':=?_) #[true,true,true,true,true,true,true,true,false,false,false,false,false] rfl rfl (any_of HT_.out (by kernel_rfl)) (fun _ _ _ h=>h) (Or.inl ⟨by rfl,?_⟩) ?_ ?_
         rotate_left
         ·intro w'
          go_simp
          with_reducible rfl
         rotate_left
         ·simp only [Act.put,pa_,pb_,pc_,i64_w,i32_w]
          rfl
         refine pure_ (i:=8) (N:=some 26) (v:=?_) (a':=?_) #[true,true,true,true,true,true,true,true,true,false,false,false,false] rfl rfl (any_of HT_.out (by kernel_rfl)) (fun _ _ _ h=>h) (Or.inl ⟨by rfl,?_⟩) ?_ ?_
         rotate_left
         ·intro w'
          go_simp
          with_reducible rfl
         rotate_left
         ·simp only [Act.put,pa_,pb_,pc_,i64_w,i32_w]
          rfl
         refine pure_ (i:=9) (N:=some 27) (v:=?_) (a':=?_) #[true,true,true,true,true,true,true,true,true,true,false,false,false] rfl rfl (any_of HT_.out (by kernel_rfl)) (fun _ _ _ h=>h) (Or.inl ⟨by rfl,?_⟩) ?_ ?_
         rotate_left
         ·intro w'
          go_simp
          with_reducible rfl
         rotate_left
         ·simp only [Act.put,pa_,pb_,pc_,i64_w,i32_w]
          rfl
         refine last_ (i:=10) (N:=some 28) #[true,true,true,true,true,true,true,true,true,true,true,false,false] rfl rfl (one_of HT_.out (by kernel_rfl)) (by decide) (fun K hK=>?_)
         refine value_ (w1:=?_) (v:=?_) (by rfl) rfl ?_ ?_
         rotate_left 2
         ·go_simp
          constructor
          ·rfl
          ·rfl
         refine hK.out _ _ ?_
         clear hK K
         refine norm_ (a':=?_) ?_ ?_
         rotate_left
         ·show Act.put _ (some 28) _=_
          simp only [Act.put,pa_,pb_,pc_,i64_w,i32_w]
          rfl
         refine last_ (i:=11) (N:=some 29) #[true,true,true,true,true,true,true,true,true,true,true,true,false] rfl rfl (one_of HT_.out (by kernel_rfl)) (by decide) (fun K hK=>?_)
         refine Kd.R_append_step (Kd.int .i64) (w0:=w) w.heap.size (by rfl) (.tmp 18) (.tmp 28) 31 3 (.int .i64 0) 8 rfl Tryz.underlying31 info3 rfl (by decide) (by omega) (.slice (some ad221) x3_1.length co20) x3_1 (wrap64 ((wrap64 ((rd x3_1 x13_1)+(((rd_T50 l0_1 x13_1).f0).length:Int)))+1)) [.int .i64 (wrap64 ((wrap64 ((rd x3_1 x13_1)+(((rd_T50 l0_1 x13_1).f0).length:Int)))+1))] (fun _=>True) (fun _=>False) rfl rfl ?aP (fun _ hk=>hk.elim) ?aF ?aO ?aB ?aS ?aL ?_
         (case aP=>exact rfl)
         (case aB=>exact (bl_ HB))
         (case aF=>exact (fun _ _=>trivial))
         (case aO=>exact (by (with_reducible repeat (first|apply Kd.R_alloc|apply Kd.R_drewN|apply Kd.R_drew));exact HO_3.out))
         (case aS=>exact (below_size (bl_ HB)))
         (case aL=>have:=LMc14.out;omega)
         intro v223 w21 ho hb hg hat
         rw [← Ny222.out] at ho
         have n0_:=ak_ (blk_grown (g:=gb214) (o:=.cells #[.int .i64 a0_0,.slice (some ad219) l0_1.length c0_1] 24 (0,0)) (bk_ BK214) hg (Kd.R_ne HO_3.out BK214.out (by decide)))
         have n1_:=ak_ (blk_grown (g:=gb220) (o:=.cells #[.slice A219_0 ((rd_T50 l0_1 x13_1).f0).length c219_0,.int .i64 ((rd_T50 l0_1 x13_1).f1.f0),.int .i64 ((rd_T50 l0_1 x13_1).f1.f1),.int .i64 ((rd_T50 l0_1 x13_1).f1.f2),.int .i64 ((rd_T50 l0_1 x13_1).f1.f3)] 50 (0,0)) (bk_ BK220) hg (Kd.R_ne HO_3.out BK220.out (by decide)))
         have n2_:=ak_ (hb)
         have n3_:=ak_ (ho)
         clear BK214
         clear BK220
         clear HB
         clear HO_3
         have BK214:=n0_
         have BK220:=n1_
         have HB:=n2_
         have HO224:=n3_
         clear n0_ n1_ n2_ n3_
         clear ho hb hg hat
         refine hK.out _ _ ?_
         clear hK K
         refine norm_ (a':=?_) ?_ ?_
         rotate_left
         ·show Act.put _ (some 29) _=_
          simp only [Act.put,pa_,pb_,pc_,i64_w,i32_w]
          rfl
         refine pure_ (i:=12) (N:=some 3) (v:=?_) (a':=?_) #[true,true,true,true,true,true,true,true,true,true,true,true,true] rfl rfl (any_of HT_.out (by kernel_rfl)) (fun _ _ _ h=>h) (Or.inl ⟨by rfl,?_⟩) ?_ ?_
         rotate_left
         ·intro w'
          go_simp
          with_reducible rfl
         rotate_left
         ·simp only [Act.put,pa_,pb_,pc_,i64_w,i32_w]
          rfl
         refine done_ (done_of HT_.out (by kernel_rfl)) ?_
         try go_wp2
         go_roundg k1
         case measure=>have:=HK1.out;omega
         case rel=>exact ⟨(y222),(wrap64 (x13_1+1)),(by first|rfl|(simp;done)|(simp [*];done)),H',⟨by have:=HK1.out;omega⟩,⟨by (with_reducible repeat (first|apply Kd.R_alloc|apply Kd.R_drewN|apply Kd.R_drew));exact HO224.out⟩,⟨bk_ BK214⟩,⟨bl_ HB⟩⟩
        ·rw [if_neg c14] at H
         exact absurd H (by simp)
       ·rw [if_neg c13] at H
        exact absurd H (by simp)
      ·rw [if_neg c12] at H
       exact absurd H (by simp)
     ·rw [if_neg c11] at H
      exact absurd H (by simp)
    ·rw [if_neg c10] at H
     have c10b0:decide (x13_1<(l0_1.length:Int))=false:=decide_eq_false c10
     clear c10
     obtain rfl:=Option.some.inj H
     go_wp2
     go_ret
     exact ⟨_,by first|rfl|(simp [errW_none,errW_some]<;>rfl)|(simp [*,errW_none,errW_some]<;>rfl),by (with_reducible repeat (first|apply Kd.R_alloc|apply Kd.R_drewN|apply Kd.R_drew));exact HO_3.out,bl_ HB⟩
 ·replace c3:=Bool.eq_false_iff.mpr c3
  subst c3
  have H1:(some ([]:List Int))=some r:=by rw [if_neg (show ¬ (false=true) by decide)] at H;exact H
  clear H
  have H:=H1
  clear H1
  obtain rfl:=Option.some.inj H
  go_enter Tryz.func11,Tryz.ntmps11
  go_wp2_with (first|((with_reducible refine gate_dst (N:=1) rfl ?_);refine box_event ?hg (N:=1) ?hd (cs:=#[.int .i64 a0_0,.slice A0_1 l0_1.length c0_1]) (t:=24) ?hr ?_;(case hd=>rfl);(case hg=>rfl);(case hr=>first|(go_simp;done)|(go_simp;rfl));intro gb214 hg w22 hbox hb;have n0_:=ak_ (below_step (bl_ HB) hb);have n1_:=ak_ (hbox);have n2_:=ak_ ((by rw [hg];exact (below_size (bl_ HB)):w.heap.size≤gb214));have n3_:=ak_ ((by rw [hg];exact (below_size (bl_ HB)):w.heap.size≤gb214));clear HB;have HB:=n0_;have BK214:=n1_;have GW214:=n2_;have GE214:=n3_;clear n0_ n1_ n2_ n3_;clear hb hbox hg;have hcz23_0:=ck_ BK214 0;have hcz23_1:=ck_ BK214 1;have hfz23_0:=fz_ BK214 0;have hfz23_1:=fz_ BK214 1)|((with_reducible refine gate_callee (f:=45) rfl ?_);refine goesL_ (some 7) rfl rfl Tryz.func45 (by kernel_rfl) rfl #[.agg #[.int .i64 a0_0,.slice A0_1 l0_1.length c0_1],.int .i64 256] rfl (by (try simp only [List.map_toArray,List.map_cons,List.map_nil]);first|done|rfl|(simp only [List.length_drop,List.length_take];rfl)) ?_;(with_reducible refine (code_Right.calls a0_0 _ _ l0_1 256 false _ ?side1 ?side2 A2.out).mono ?_);(case side1=>repeat (first|exact (Kd.C_below HR0_1.out HB.out)|(with_reducible refine Kd.C_alloc ?_ _)|(with_reducible refine Kd.C_drewN ?_ _)|(with_reducible refine Kd.C_drew ?_)));(case side2=>exact HC0_1.out);rintro e w24 ⟨rfl,hb⟩;refine ⟨_,rfl,?_⟩;have n0_:=ak_ (blk_below (g:=gb214) (o:=.cells #[.int .i64 a0_0,.slice A0_1 l0_1.length c0_1] 24 (0,0)) (bk_ BK214) hb);have n1_:=ak_ (below_step (bl_ HB) hb);clear BK214;clear HB;have BK214:=n0_;have HB:=n1_;clear n0_ n1_;(try clear hb);(try clear hb2);(try clear hk);(try clear hi)))
  go_ret
  exact ⟨_,by first|rfl|(simp [errW_none,errW_some]<;>rfl)|(simp [*,errW_none,errW_some]<;>rfl),by first|exact Kd.R_nil _ _ _ _ _|exact Kd.N_nil _ _ _ _ _|exact Kd.V_nil _ _ _ _ _|exact Kd.Q_nil _ _ _ _ _|exact Kd.S_nil _ _ _ _ _,bl_ HB⟩

-- spans_At: function 36: a contract by hand,in Oat
/-! ### spans_Most: function 35 -/
def spans_Most.l0:Nat→List (S52)→Int→List (S52)→Int→Int→Option (Int)
 | 0,_,_,_,_,_=>none
 | k+1,x0,x3,x6,x7,x8=>if x8<x7 then (if 0≤x8 then (if x8<(x6.length:Int) then ((spans_At.f x0 ((rd_T52 x6 x8).f1)).bind fun t227=>(spans_Most.l0 k x0 (mx x3 (t227.length:Int)) x6 x7 (wrap64 (x8+1)))) else (none)) else (none)) else (some x3)
def spans_Most.f (k:Nat) (l0:List (S52)):Option (Int):=spans_Most.l0 k l0 0 l0 (l0.length:Int) 0
set_option maxHeartbeats 8000000 in
set_option maxRecDepth 100000 in
theorem spans_Most.calls (k:Nat) (A0:Option Addr) (c0:Nat) (l0:List (S52)) (r:Int) (w:World) (hr0:Kd.C k52 w A0 l0.length l0) (hc0:l0.length≤c0) (h:spans_Most.f k l0=some r) :
  Calls Tryz.prog 35 #[.slice A0 l0.length c0] w fun e w'=>e=.returned (.int .i64 r)∧Below w.heap.size w w':=by
 have hu52:=Tryz.underlying52
 have HR0:=ak_ hr0
 have HC0:=ak_ hc0
 clear hr0 hc0
 have HB:=ak_ (Below.refl w.heap.size w)
 have H:(spans_Most.l0 k l0 0 l0 (l0.length:Int) 0)=some r:=h
 clear h
 have H':=ak_ H
 clear H
 go_enter Tryz.func35,Tryz.ntmps35
 go_wp2
 go_loopg [3,8] k (fun kq v3 v8 w'=>∃ (x3_1:Int) (x8_1:Int),v3=.int .i64 x3_1∧v8=.int .i64 x8_1∧Aside0 (spans_Most.l0 kq l0 x3_1 l0 (l0.length:Int) x8_1=some r)∧Aside0 (kq≤k)∧Aside0 (Below w.heap.size w w'))
 case atStart=>exact ⟨(0),(0),(by first|rfl|(simp;done)|(simp [*];done)),(by first|rfl|(simp;done)|(simp [*];done)),H',⟨Nat.le_refl _⟩,⟨bl_ HB⟩⟩
 case round =>
  clear H'
  obtain ⟨x3_1,x8_1,rfl,rfl,HA,HK1,HB⟩:=hrel
  cases gk with
  | zero=>exact absurd HA.out (by simp [spans_Most.l0])
  | succ k1 =>
   have H:=HA.out
   clear HA
   simp only [spans_Most.l0] at H
   by_cases c2:x8_1<(l0.length:Int)
   ·rw [if_pos c2] at H
    have c2b0:decide (x8_1<(l0.length:Int))=true:=decide_eq_true c2
    clear c2
    by_cases c3:0≤x8_1
    ·rw [if_pos c3] at H
     have c3b0:decide (0≤x8_1)=true:=decide_eq_true c3
     clear c3
     by_cases c4:x8_1<(l0.length:Int)
     ·rw [if_pos c4] at H
      have c4b0:decide (x8_1<(l0.length:Int))=true:=decide_eq_true c4
      clear c4
      replace H:=Option.bind_eq_some_iff.mp H
      obtain ⟨t227,A50,H⟩:=H
      replace H:(spans_Most.l0 k1 l0 (mx x3_1 (t227.length:Int)) l0 (l0.length:Int) (wrap64 (x8_1+1)))=some r:=H
      have A5:=ak_ A50
      clear A50
      obtain ⟨ji6,hji6⟩:∃ j_:Int,(mx x3_1 (t227.length:Int))=j_:=⟨_,rfl⟩
      replace H:(spans_Most.l0 k1 l0 ji6 l0 (l0.length:Int) (wrap64 (x8_1+1)))=some r:=by first|(rw [hji6] at H;exact H)|(simp only [hji6] at H ⊢;exact H)
      (try rw [hji6] at A5)
      have hji6_:(if x3_1<(t227.length:Int) then (t227.length:Int) else x3_1)=ji6:=hji6
      have H':=ak_ H
      clear H
      have p225:0≤(x8_1:Int):=of_decide_eq_true (by first|(with_reducible assumption)|assumption)
      have q225:x8_1<(l0.length:Int):=of_decide_eq_true (by first|(with_reducible assumption)|assumption)
      obtain ⟨ad225,e225,hx225_0,hx225_1,hx225_2⟩:=at_T52 HR0.out x8_1 p225 q225
      cases e225
      replace hx225_0:=cl_ HB hx225_0
      replace hx225_1:=cl_ HB hx225_1
      replace hx225_2:=cl_ HB hx225_2
      replace p225:=eq_true p225
      replace q225:=eq_true q225
      go_wp2_with (first|((with_reducible refine gate_dst (N:=5) rfl ?_);refine box_event ?hg (N:=5) ?hd (cs:=#[.int .i64 0,.int .i64 0,.int .i64 0]) (t:=52) ?hr ?_;(case hd=>rfl);(case hg=>rfl);(case hr=>first|(go_simp;done)|(go_simp;rfl));intro gb226 hg w7 hbox hb;have n0_:=ak_ (below_step (bl_ HB) hb);have n1_:=ak_ (hbox);have n2_:=ak_ ((by rw [hg];exact (below_size (bl_ HB)):w.heap.size≤gb226));have n3_:=ak_ ((by rw [hg];exact (below_size (bl_ HB)):w.heap.size≤gb226));clear HB;have HB:=n0_;have BK226:=n1_;have GW226:=n2_;have GE226:=n3_;clear n0_ n1_ n2_ n3_;clear hb hbox hg;have hcz8_0:=ck_ BK226 0;have hcz8_1:=ck_ BK226 1;have hcz8_2:=ck_ BK226 2;have hfz8_0:=fz_ BK226 0;have hfz8_1:=fz_ BK226 1;have hfz8_2:=fz_ BK226 2)|((with_reducible refine gate_callee (f:=36) rfl ?_);refine goesL_ (some 16) rfl rfl Tryz.func36 (by kernel_rfl) rfl #[.slice (some ad225) l0.length c0,.int .i64 ((rd_T52 l0 x8_1).f1)] rfl (by (try simp only [List.map_toArray,List.map_cons,List.map_nil]);first|done|rfl|(simp only [List.length_drop,List.length_take];rfl)) ?_;(with_reducible refine (spans_At.calls _ _ l0 ((rd_T52 l0 x8_1).f1) t227 _ ?side1 ?side2 A5.out).mono ?_);(case side1=>exact Kd.C_below HR0.out (bl_ HB));(case side2=>exact HC0.out);rintro e w9 ⟨v228,rfl,ho0,hb⟩;refine ⟨_,rfl,?_⟩;have n0_:=ak_ (Kd.R_lower ho0 (below_size (bl_ HB)));have n1_:=ak_ (blk_below (g:=gb226) (o:=.cells #[.int .i64 ((rd_T52 l0 x8_1).f0),.int .i64 ((rd_T52 l0 x8_1).f1),.int .i64 ((rd_T52 l0 x8_1).f2)] 52 (0,0)) (by (with_reducible repeat (first|refine blk_drewN ?_ _|refine blk_drew ?_|refine blk_alloc ?_ _));refine blk_put (cs:=#[.int .i64 ((rd_T52 l0 x8_1).f0),.int .i64 ((rd_T52 l0 x8_1).f1),.int .i64 0]) ?_ 2 _ rfl;(with_reducible repeat (first|refine blk_drewN ?_ _|refine blk_drew ?_|refine blk_alloc ?_ _));refine blk_put (cs:=#[.int .i64 ((rd_T52 l0 x8_1).f0),.int .i64 0,.int .i64 0]) ?_ 1 _ rfl;(with_reducible repeat (first|refine blk_drewN ?_ _|refine blk_drew ?_|refine blk_alloc ?_ _));refine blk_put (cs:=#[.int .i64 0,.int .i64 0,.int .i64 0]) ?_ 0 _ rfl;(with_reducible repeat (first|refine blk_drewN ?_ _|refine blk_drew ?_|refine blk_alloc ?_ _));exact BK226.out) hb);have n2_:=ak_ (below_step (bl_ HB) hb);clear BK226;clear HB;have HO229:=n0_;have BK226:=n1_;have HB:=n2_;clear n0_ n1_ n2_;(try clear hb);(try clear hb2);(try clear hk);(try clear hi);(try clear ho0);obtain ⟨Ao10,co10,eo10⟩:=Kd.R_slice HO229.out;subst eo10))
      go_roundg k1
      case measure=>have:=HK1.out;omega
      case rel=>exact ⟨(ji6),(wrap64 (x8_1+1)),(by first|rfl|(simp;done)|(simp only [← hji6]<;>(first|rfl|simp))|(simp [*];done)),(by first|rfl|(simp;done)|(simp [*];done)),H',⟨by have:=HK1.out;omega⟩,⟨bl_ HB⟩⟩
     ·rw [if_neg c4] at H
      exact absurd H (by simp)
    ·rw [if_neg c3] at H
     exact absurd H (by simp)
   ·rw [if_neg c2] at H
    have c2b0:decide (x8_1<(l0.length:Int))=false:=decide_eq_false c2
    clear c2
    obtain rfl:=Option.some.inj H
    go_wp2
    go_ret
    exact ⟨by first|rfl|(simp [errW_none,errW_some]<;>rfl)|(simp [*,errW_none,errW_some]<;>rfl),bl_ HB⟩

/-! ### swageref14_reg: function 102 -/
def swageref14_reg.f (a0:Int):Option (Bool):=if a0 ≥ 1 then (some (decide (a0≤4096))) else (some false)
set_option maxHeartbeats 8000000 in
set_option maxRecDepth 100000 in
theorem swageref14_reg.calls (a0:Int) (r:Bool) (w:World) (h:swageref14_reg.f a0=some r) :
  Calls Tryz.prog 102 #[.int .i64 a0] w fun e w'=>e=.returned (.bool r)∧Drawn0 w w':=by
 have H:(if a0 ≥ 1 then (some (decide (a0≤4096))) else (some false))=some r:=h
 clear h
 by_cases c2:a0 ≥ 1
 ·rw [if_pos c2] at H
  have c2b0:decide (1≤a0)=true:=decide_eq_true c2
  clear c2
  obtain rfl:=Option.some.inj H
  go_enter Tryz.func102,Tryz.ntmps102
  go_wp2
  go_ret
  exact ⟨by first|rfl|(simp;done)|(simp [*];done),by repeat (first|exact Drawn0.refl _|apply Drawn0.step)⟩
 ·rw [if_neg c2] at H
  have c2b0:decide (1≤a0)=false:=decide_eq_false c2
  clear c2
  obtain rfl:=Option.some.inj H
  go_enter Tryz.func102,Tryz.ntmps102
  go_wp2
  go_ret
  exact ⟨by first|rfl|(simp;done)|(simp [*];done),by repeat (first|exact Drawn0.refl _|apply Drawn0.step)⟩

