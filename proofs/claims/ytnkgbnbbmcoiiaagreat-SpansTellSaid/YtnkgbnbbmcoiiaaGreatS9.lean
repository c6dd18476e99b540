-- a text of the seat,by a program
import Derived.Test.YtnkgbnbbmcoiiaaGreatBk
import Derived.Test.YtnkgbnbbmcoiiaaGreatS0
import Derived.Test.YtnkgbnbbmcoiiaaGreatS8
namespace Go.Proofs.YtnkgbnbbmcoiiaaGreat.S
open Go.RowKit Go.Proofs.YtnkgbnbbmcoiiaaGreatW.PrintWords Go.Proofs.YtnkgbnbbmcoiiaaGreatW.PrintLast Go.Proofs.YtnkgbnbbmcoiiaaGreatW.PrintMore
attribute [local go_sem] max2_int min2_int max_two min_two max_three min_three max_four min_four   -- for this text's walks alone
set_option linter.unusedVariables false
set_option linter.unusedSimpArgs false

/-! ### swageref14_rightTerm: function 77 -/
mutual
def swageref14_rightTerm.j0:Nat→Int→Bool→Int→Int→Int→Int→Option (Bool)
 | 0,_,_,_,_,_,_=>none
 | k+1,x1,x5,x231000,x231001,x231002,x231003=>if x231003 ≥ 0 then (swageref14_rightTerm.j1 k x5 (decide (x231003<x1)) x231000 x231001 x231002 x231003) else (swageref14_rightTerm.j1 k x5 false x231000 x231001 x231002 x231003)
def swageref14_rightTerm.j1:Nat→Bool→Bool→Int→Int→Int→Int→Option (Bool)
 | 0,_,_,_,_,_,_=>none
 | k+1,x5,x6,x231000,x231001,x231002,x231003=>if x231000=1 then (if x5=true then (if x231001=0 then (some (x231003 == 0)) else (some false)) else (some false)) else (if x231000=2 then (if x5=true then (if x6=true then ((swageref14_reg.f x231001).bind fun t231=>(some t231)) else (some false)) else (some false)) else (if x231000=3 then ((swageref14_reg.f x231001).bind fun t232=>(if t232=true then (if x231002=0 then (some (x231003 == 0)) else (some false)) else (some false))) else (if x231000=4 then (if x231002 ≥ 1 then (if x231002≤15 then (if x231001=0 then (some (x231003 == 0)) else (some false)) else (some false)) else (some false)) else (some false))))
end
def swageref14_rightTerm.f (k:Nat) (a0_0:Int) (a0_1:Int) (a0_2:Int) (a0_3:Int) (a1:Int):Option (Bool):=if a0_2 ≥ 0 then (swageref14_rightTerm.j0 k a1 (decide (a0_2<a1)) a0_0 a0_1 a0_2 a0_3) else (swageref14_rightTerm.j0 k a1 false a0_0 a0_1 a0_2 a0_3)
set_option maxHeartbeats 8000000 in
set_option maxRecDepth 100000 in
theorem swageref14_rightTerm.calls (k:Nat) (a0_0:Int) (a0_1:Int) (a0_2:Int) (a0_3:Int) (a1:Int) (r:Bool) (w:World) (h:swageref14_rightTerm.f k a0_0 a0_1 a0_2 a0_3 a1=some r) :
  Calls Tryz.prog 77 #[.agg #[.int .i64 a0_0,.int .i64 a0_1,.int .i64 a0_2,.int .i64 a0_3],.int .i64 a1] w fun e w'=>e=.returned (.bool r)∧Below w.heap.size w w':=by
 have hu48:=Tryz.underlying48
 have HB:=ak_ (Below.refl w.heap.size w)
 have H:(if a0_2 ≥ 0 then (swageref14_rightTerm.j0 k a1 (decide (a0_2<a1)) a0_0 a0_1 a0_2 a0_3) else (swageref14_rightTerm.j0 k a1 false a0_0 a0_1 a0_2 a0_3))=some r:=h
 clear h
 have HC3:=ak_ H
 clear H
 go_enter Tryz.func77,Tryz.ntmps77
 go_upto_region 1 with (first|((with_reducible refine gate_dst (N:=2) rfl ?_);refine box_event ?hg (N:=2) ?hd (cs:=#[.int .i64 a0_0,.int .i64 a0_1,.int .i64 a0_2,.int .i64 a0_3]) (t:=48) ?hr ?_;(case hd=>rfl);(case hg=>rfl);(case hr=>first|(go_simp;done)|(go_simp;rfl));intro gb230 hg w4 hbox hb;have n0_:=ak_ (below_step (bl_ HB) hb);have n1_:=ak_ (hbox);have n2_:=ak_ ((by rw [hg];exact (below_size (bl_ HB)):w.heap.size≤gb230));have n3_:=ak_ ((by rw [hg];exact (below_size (bl_ HB)):w.heap.size≤gb230));clear HB;have HB:=n0_;have BK230:=n1_;have GW230:=n2_;have GE230:=n3_;clear n0_ n1_ n2_ n3_;clear hb hbox hg))
 (try simp only [Act.put,pa_,pb_,pc_])
 go_cut [5] (fun v5 wc=>∃ (kq:Nat) (x5_2:Bool),v5=.bool x5_2∧Aside0 (swageref14_rightTerm.j0 kq a1 x5_2 a0_0 a0_1 a0_2 a0_3=some r)∧Aside0 (kq≤k)∧Aside0 (wc.heap[gb230]?=some (.cells #[.int .i64 a0_0,.int .i64 a0_1,.int .i64 a0_2,.int .i64 a0_3] 48 (0,0)))∧Aside0 (Below w.heap.size w wc))
 case first =>
  have H:=HC3.out
  clear HC3
  by_cases c5:a0_2 ≥ 0
  ·rw [if_pos c5] at H
   have c5b0:decide (0≤a0_2)=true:=decide_eq_true c5
   clear c5
   (first|rw [c5b0]|(simp only [i64_w,i32_w];rw [c5b0])|skip)
   have H':=ak_ H
   clear H
   have hcz6_0:=ck_ BK230 0
   have hcz6_1:=ck_ BK230 1
   have hcz6_2:=ck_ BK230 2
   have hcz6_3:=ck_ BK230 3
   have hfz6_0:=fz_ BK230 0
   have hfz6_1:=fz_ BK230 1
   have hfz6_2:=fz_ BK230 2
   have hfz6_3:=fz_ BK230 3
   go_wp2
   go_meet
   case rel=>exact ⟨_,(decide (a0_2<a1)),(by first|rfl|(simp;done)|(simp [*];done)),H',⟨by first|omega|exact Nat.le_refl _⟩,⟨bk_ BK230⟩,⟨bl_ HB⟩⟩
  ·rw [if_neg c5] at H
   have c5b0:decide (0≤a0_2)=false:=decide_eq_false c5
   clear c5
   (first|rw [c5b0]|(simp only [i64_w,i32_w];rw [c5b0])|skip)
   have H':=ak_ H
   clear H
   have hcz7_0:=ck_ BK230 0
   have hcz7_1:=ck_ BK230 1
   have hcz7_2:=ck_ BK230 2
   have hcz7_3:=ck_ BK230 3
   have hfz7_0:=fz_ BK230 0
   have hfz7_1:=fz_ BK230 1
   have hfz7_2:=fz_ BK230 2
   have hfz7_3:=fz_ BK230 3
   go_wp2
   go_meet
   case rel=>exact ⟨_,(false),(by first|rfl|(simp;done)|(simp [*];done)),H',⟨by first|omega|exact Nat.le_refl _⟩,⟨bk_ BK230⟩,⟨bl_ HB⟩⟩
 case rest =>
  clear HC3
  obtain ⟨kq,x5_2,rfl,HA,HJ2,BK230,HB⟩:=hcut
  cases kq with
  | zero=>exact absurd HA.out (by simp [swageref14_rightTerm.j0])
  | succ kj2 =>
   have H:=HA.out
   clear HA
   simp only [swageref14_rightTerm.j0] at H
   have HC8:=ak_ H
   clear H
   go_upto_region 2 with (fail)
   go_cut [6] (fun v6 wc=>∃ (kq:Nat) (x6_7:Bool),v6=.bool x6_7∧Aside0 (swageref14_rightTerm.j1 kq x5_2 x6_7 a0_0 a0_1 a0_2 a0_3=some r)∧Aside0 (kq≤kj2)∧Aside0 (wc.heap[gb230]?=some (.cells #[.int .i64 a0_0,.int .i64 a0_1,.int .i64 a0_2,.int .i64 a0_3] 48 (0,0)))∧Aside0 (Below w.heap.size w wc))
   case first =>
    have H:=HC8.out
    clear HC8
    by_cases c9:a0_3 ≥ 0
    ·rw [if_pos c9] at H
     have c9b0:decide (0≤a0_3)=true:=decide_eq_true c9
     clear c9
     (first|rw [c9b0]|(simp only [i64_w,i32_w];rw [c9b0])|skip)
     have H':=ak_ H
     clear H
     have hcz10_0:=ck_ BK230 0
     have hcz10_1:=ck_ BK230 1
     have hcz10_2:=ck_ BK230 2
     have hcz10_3:=ck_ BK230 3
     have hfz10_0:=fz_ BK230 0
     have hfz10_1:=fz_ BK230 1
     have hfz10_2:=fz_ BK230 2
     have hfz10_3:=fz_ BK230 3
     go_wp2
     go_meet
     case rel=>exact ⟨_,(decide (a0_3<a1)),(by first|rfl|(simp;done)|(simp [*];done)),H',⟨by have:=HJ2.out;first|omega|exact Nat.le_refl _⟩,⟨bk_ BK230⟩,⟨bl_ HB⟩⟩
    ·rw [if_neg c9] at H
     have c9b0:decide (0≤a0_3)=false:=decide_eq_false c9
     clear c9
     (first|rw [c9b0]|(simp only [i64_w,i32_w];rw [c9b0])|skip)
     have H':=ak_ H
     clear H
     have hcz11_0:=ck_ BK230 0
     have hcz11_1:=ck_ BK230 1
     have hcz11_2:=ck_ BK230 2
     have hcz11_3:=ck_ BK230 3
     have hfz11_0:=fz_ BK230 0
     have hfz11_1:=fz_ BK230 1
     have hfz11_2:=fz_ BK230 2
     have hfz11_3:=fz_ BK230 3
     go_wp2
     go_meet
     case rel=>exact ⟨_,(false),(by first|rfl|(simp;done)|(simp [*];done)),H',⟨by have:=HJ2.out;first|omega|exact Nat.le_refl _⟩,⟨bk_ BK230⟩,⟨bl_ HB⟩⟩
   case rest =>
    clear HC8
    obtain ⟨kq,x6_7,rfl,HA,HJ7,BK230,HB⟩:=hcut
    cases kq with
    | zero=>exact absurd HA.out (by simp [swageref14_rightTerm.j1])
    | succ kj7 =>
     have H:=HA.out
     clear HA
     simp only [swageref14_rightTerm.j1] at H
     by_cases c12:a0_0=1
     ·rw [if_pos c12] at H
      have c12b0:(a0_0 == 1)=true:=beq_iff_eq.mpr c12
      have c12b1:(a0_0 != 1)=false:=bne_eq_false_iff_eq.mpr c12
      clear c12
      by_cases c13:x5_2=true
      ·subst c13
       have H1:(if a0_1=0 then (some (a0_3 == 0)) else (some false))=some r:=by rw [if_pos rfl] at H;exact H
       clear H
       have H:=H1
       clear H1
       by_cases c14:a0_1=0
       ·rw [if_pos c14] at H
        have c14b0:(a0_1 == 0)=true:=beq_iff_eq.mpr c14
        have c14b1:(a0_1 != 0)=false:=bne_eq_false_iff_eq.mpr c14
        clear c14
        obtain rfl:=Option.some.inj H
        have hcz15_0:=ck_ BK230 0
        have hcz15_1:=ck_ BK230 1
        have hcz15_2:=ck_ BK230 2
        have hcz15_3:=ck_ BK230 3
        have hfz15_0:=fz_ BK230 0
        have hfz15_1:=fz_ BK230 1
        have hfz15_2:=fz_ BK230 2
        have hfz15_3:=fz_ BK230 3
        go_wp2
        go_ret
        exact ⟨by first|rfl|(simp [errW_none,errW_some]<;>rfl)|(simp [*,errW_none,errW_some]<;>rfl),bl_ HB⟩
       ·rw [if_neg c14] at H
        have c14b0:(a0_1 == 0)=false:=beq_eq_false_iff_ne.mpr c14
        have c14b1:(a0_1 != 0)=true:=bne_iff_ne.mpr c14
        obtain rfl:=Option.some.inj H
        have hcz16_0:=ck_ BK230 0
        have hcz16_1:=ck_ BK230 1
        have hcz16_2:=ck_ BK230 2
        have hcz16_3:=ck_ BK230 3
        have hfz16_0:=fz_ BK230 0
        have hfz16_1:=fz_ BK230 1
        have hfz16_2:=fz_ BK230 2
        have hfz16_3:=fz_ BK230 3
        go_wp2
        go_ret
        exact ⟨by first|rfl|(simp [errW_none,errW_some]<;>rfl)|(simp [*,errW_none,errW_some]<;>rfl),bl_ HB⟩
      ·replace c13:=Bool.eq_false_iff.mpr c13
       subst c13
       have H1:(some false)=some r:=by rw [if_neg (show ¬ (false=true) by decide)] at H;exact H
       clear H
       have H:=H1
       clear H1
       obtain rfl:=Option.some.inj H
       have hcz17_0:=ck_ BK230 0
       have hcz17_1:=ck_ BK230 1
       have hcz17_2:=ck_ BK230 2
       have hcz17_3:=ck_ BK230 3
       have hfz17_0:=fz_ BK230 0
       have hfz17_1:=fz_ BK230 1
       have hfz17_2:=fz_ BK230 2
       have hfz17_3:=fz_ BK230 3
       go_wp2
       go_ret
       exact ⟨by first|rfl|(simp [errW_none,errW_some]<;>rfl)|(simp [*,errW_none,errW_some]<;>rfl),bl_ HB⟩
     ·rw [if_neg c12] at H
      have c12b0:(a0_0 == 1)=false:=beq_eq_false_iff_ne.mpr c12
      have c12b1:(a0_0 != 1)=true:=bne_iff_ne.mpr c12
      by_cases c18:a0_0=2
      ·rw [if_pos c18] at H
       have c18b0:(a0_0 == 2)=true:=beq_iff_eq.mpr c18
       have c18b1:(a0_0 != 2)=false:=bne_eq_false_iff_eq.mpr c18
       clear c18
       by_cases c19:x5_2=true
       ·subst c19
        have H1:(if x6_7=true then ((swageref14_reg.f a0_1).bind fun t231=>(some t231)) else (some false))=some r:=by rw [if_pos rfl] at H;exact H
        clear H
        have H:=H1
        clear H1
        by_cases c20:x6_7=true
        ·subst c20
         have H1:((swageref14_reg.f a0_1).bind fun t231=>(some t231))=some r:=by rw [if_pos rfl] at H;exact H
         clear H
         have H:=H1
         clear H1
         replace H:=Option.bind_eq_some_iff.mp H
         obtain ⟨t231,A210,H⟩:=H
         replace H:(some t231)=some r:=H
         have A21:=ak_ A210
         clear A210
         obtain rfl:=Option.some.inj H
         have hcz22_0:=ck_ BK230 0
         have hcz22_1:=ck_ BK230 1
         have hcz22_2:=ck_ BK230 2
         have hcz22_3:=ck_ BK230 3
         have hfz22_0:=fz_ BK230 0
         have hfz22_1:=fz_ BK230 1
         have hfz22_2:=fz_ BK230 2
         have hfz22_3:=fz_ BK230 3
         go_wp2_with (first|(go_at_call 102;(with_reducible refine (swageref14_reg.calls a0_1 t231 _ A21.out).mono ?_);rintro e w' ⟨rfl,⟨nd,rfl⟩⟩))
         go_ret
         exact ⟨by first|rfl|(simp [errW_none,errW_some]<;>rfl)|(simp [*,errW_none,errW_some]<;>rfl),bl_ HB⟩
        ·replace c20:=Bool.eq_false_iff.mpr c20
         subst c20
         have H1:(some false)=some r:=by rw [if_neg (show ¬ (false=true) by decide)] at H;exact H
         clear H
         have H:=H1
         clear H1
         obtain rfl:=Option.some.inj H
         have hcz23_0:=ck_ BK230 0
         have hcz23_1:=ck_ BK230 1
         have hcz23_2:=ck_ BK230 2
         have hcz23_3:=ck_ BK230 3
         have hfz23_0:=fz_ BK230 0
         have hfz23_1:=fz_ BK230 1
         have hfz23_2:=fz_ BK230 2
         have hfz23_3:=fz_ BK230 3
         go_wp2
         go_ret
         exact ⟨by first|rfl|(simp [errW_none,errW_some]<;>rfl)|(simp [*,errW_none,errW_some]<;>rfl),bl_ HB⟩
       ·replace c19:=Bool.eq_false_iff.mpr c19
        subst c19
        have H1:(some false)=some r:=by rw [if_neg (show ¬ (false=true) by decide)] at H;exact H
        clear H
        have H:=H1
        clear H1
        obtain rfl:=Option.some.inj H
        have hcz24_0:=ck_ BK230 0
        have hcz24_1:=ck_ BK230 1
        have hcz24_2:=ck_ BK230 2
        have hcz24_3:=ck_ BK230 3
        have hfz24_0:=fz_ BK230 0
        have hfz24_1:=fz_ BK230 1
        have hfz24_2:=fz_ BK230 2
        have hfz24_3:=fz_ BK230 3
        go_wp2
        go_ret
        exact ⟨by first|rfl|(simp [errW_none,errW_some]<;>rfl)|(simp [*,errW_none,errW_some]<;>rfl),bl_ HB⟩
      ·rw [if_neg c18] at H
       have c18b0:(a0_0 == 2)=false:=beq_eq_false_iff_ne.mpr c18
       have c18b1:(a0_0 != 2)=true:=bne_iff_ne.mpr c18
       by_cases c25:a0_0=3
       ·rw [if_pos c25] at H
        have c25b0:(a0_0 == 3)=true:=beq_iff_eq.mpr c25
        have c25b1:(a0_0 != 3)=false:=bne_eq_false_iff_eq.mpr c25
        clear c25
        replace H:=Option.bind_eq_some_iff.mp H
        obtain ⟨t232,A260,H⟩:=H
        replace H:(if t232=true then (if a0_2=0 then (some (a0_3 == 0)) else (some false)) else (some false))=some r:=H
        have A26:=ak_ A260
        clear A260
        by_cases c27:t232=true
        ·subst c27
         have H1:(if a0_2=0 then (some (a0_3 == 0)) else (some false))=some r:=by rw [if_pos rfl] at H;exact H
         clear H
         have H:=H1
         clear H1
         by_cases c28:a0_2=0
         ·rw [if_pos c28] at H
          have c28b0:(a0_2 == 0)=true:=beq_iff_eq.mpr c28
          have c28b1:(a0_2 != 0)=false:=bne_eq_false_iff_eq.mpr c28
          clear c28
          obtain rfl:=Option.some.inj H
          have hcz29_0:=ck_ BK230 0
          have hcz29_1:=ck_ BK230 1
          have hcz29_2:=ck_ BK230 2
          have hcz29_3:=ck_ BK230 3
          have hfz29_0:=fz_ BK230 0
          have hfz29_1:=fz_ BK230 1
          have hfz29_2:=fz_ BK230 2
          have hfz29_3:=fz_ BK230 3
          go_wp2_with (first|((with_reducible refine gate_callee (f:=102) rfl ?_);refine goesL_ (some 55) rfl rfl Tryz.func102 (by kernel_rfl) rfl #[.int .i64 a0_1] rfl (by (try simp only [List.map_toArray,List.map_cons,List.map_nil]);first|done|rfl|(simp only [List.length_drop,List.length_take];rfl)) ?_;(with_reducible refine (swageref14_reg.calls a0_1 true _ A26.out).mono ?_);rintro e w' ⟨rfl,⟨nd,rfl⟩⟩;refine ⟨_,rfl,?_⟩))
          go_ret
          exact ⟨by first|rfl|(simp [errW_none,errW_some]<;>rfl)|(simp [*,errW_none,errW_some]<;>rfl),bl_ HB⟩
         ·rw [if_neg c28] at H
          have c28b0:(a0_2 == 0)=false:=beq_eq_false_iff_ne.mpr c28
          have c28b1:(a0_2 != 0)=true:=bne_iff_ne.mpr c28
          obtain rfl:=Option.some.inj H
          have hcz30_0:=ck_ BK230 0
          have hcz30_1:=ck_ BK230 1
          have hcz30_2:=ck_ BK230 2
          have hcz30_3:=ck_ BK230 3
          have hfz30_0:=fz_ BK230 0
          have hfz30_1:=fz_ BK230 1
          have hfz30_2:=fz_ BK230 2
          have hfz30_3:=fz_ BK230 3
          go_wp2_with (first|((with_reducible refine gate_callee (f:=102) rfl ?_);refine goesL_ (some 55) rfl rfl Tryz.func102 (by kernel_rfl) rfl #[.int .i64 a0_1] rfl (by (try simp only [List.map_toArray,List.map_cons,List.map_nil]);first|done|rfl|(simp only [List.length_drop,List.length_take];rfl)) ?_;(with_reducible refine (swageref14_reg.calls a0_1 true _ A26.out).mono ?_);rintro e w' ⟨rfl,⟨nd,rfl⟩⟩;refine ⟨_,rfl,?_⟩))
          go_ret
          exact ⟨by first|rfl|(simp [errW_none,errW_some]<;>rfl)|(simp [*,errW_none,errW_some]<;>rfl),bl_ HB⟩
        ·replace c27:=Bool.eq_false_iff.mpr c27
         subst c27
         have H1:(some false)=some r:=by rw [if_neg (show ¬ (false=true) by decide)] at H;exact H
         clear H
         have H:=H1
         clear H1
         obtain rfl:=Option.some.inj H
         have hcz31_0:=ck_ BK230 0
         have hcz31_1:=ck_ BK230 1
         have hcz31_2:=ck_ BK230 2
         have hcz31_3:=ck_ BK230 3
         have hfz31_0:=fz_ BK230 0
         have hfz31_1:=fz_ BK230 1
         have hfz31_2:=fz_ BK230 2
         have hfz31_3:=fz_ BK230 3
         go_wp2_with (first|((with_reducible refine gate_callee (f:=102) rfl ?_);refine goesL_ (some 55) rfl rfl Tryz.func102 (by kernel_rfl) rfl #[.int .i64 a0_1] rfl (by (try simp only [List.map_toArray,List.map_cons,List.map_nil]);first|done|rfl|(simp only [List.length_drop,List.length_take];rfl)) ?_;(with_reducible refine (swageref14_reg.calls a0_1 false _ A26.out).mono ?_);rintro e w' ⟨rfl,⟨nd,rfl⟩⟩;refine ⟨_,rfl,?_⟩))
         go_ret
         exact ⟨by first|rfl|(simp [errW_none,errW_some]<;>rfl)|(simp [*,errW_none,errW_some]<;>rfl),bl_ HB⟩
       ·rw [if_neg c25] at H
        have c25b0:(a0_0 == 3)=false:=beq_eq_false_iff_ne.mpr c25
        have c25b1:(a0_0 != 3)=true:=bne_iff_ne.mpr c25
        by_cases c32:a0_0=4
        ·rw [if_pos c32] at H
         have c32b0:(a0_0 == 4)=true:=beq_iff_eq.mpr c32
         have c32b1:(a0_0 != 4)=false:=bne_eq_false_iff_eq.mpr c32
         clear c32
         by_cases c33:a0_2 ≥ 1
         ·rw [if_pos c33] at H
          have c33b0:decide (1≤a0_2)=true:=decide_eq_true c33
          clear c33
          by_cases c34:a0_2≤15
          ·rw [if_pos c34] at H
           have c34b0:decide (a0_2≤15)=true:=decide_eq_true c34
           clear c34
           by_cases c35:a0_1=0
           ·rw [if_pos c35] at H
            have c35b0:(a0_1 == 0)=true:=beq_iff_eq.mpr c35
            have c35b1:(a0_1 != 0)=false:=bne_eq_false_iff_eq.mpr c35
            clear c35
            obtain rfl:=Option.some.inj H
            have hcz36_0:=ck_ BK230 0
            have hcz36_1:=ck_ BK230 1
            have hcz36_2:=ck_ BK230 2
            have hcz36_3:=ck_ BK230 3
            have hfz36_0:=fz_ BK230 0
            have hfz36_1:=fz_ BK230 1
            have hfz36_2:=fz_ BK230 2
            have hfz36_3:=fz_ BK230 3
            go_wp2
            go_ret
            exact ⟨by first|rfl|(simp [errW_none,errW_some]<;>rfl)|(simp [*,errW_none,errW_some]<;>rfl),bl_ HB⟩
           ·rw [if_neg c35] at H
            have c35b0:(a0_1 == 0)=false:=beq_eq_false_iff_ne.mpr c35
            have c35b1:(a0_1 != 0)=true:=bne_iff_ne.mpr c35
            obtain rfl:=Option.some.inj H
            have hcz37_0:=ck_ BK230 0
            have hcz37_1:=ck_ BK230 1
            have hcz37_2:=ck_ BK230 2
            have hcz37_3:=ck_ BK230 3
            have hfz37_0:=fz_ BK230 0
            have hfz37_1:=fz_ BK230 1
            have hfz37_2:=fz_ BK230 2
            have hfz37_3:=fz_ BK230 3
            go_wp2
            go_ret
            exact ⟨by first|rfl|(simp [errW_none,errW_some]<;>rfl)|(simp [*,errW_none,errW_some]<;>rfl),bl_ HB⟩
          ·rw [if_neg c34] at H
           have c34b0:decide (a0_2≤15)=false:=decide_eq_false c34
           clear c34
           obtain rfl:=Option.some.inj H
           have hcz38_0:=ck_ BK230 0
           have hcz38_1:=ck_ BK230 1
           have hcz38_2:=ck_ BK230 2
           have hcz38_3:=ck_ BK230 3
           have hfz38_0:=fz_ BK230 0
           have hfz38_1:=fz_ BK230 1
           have hfz38_2:=fz_ BK230 2
           have hfz38_3:=fz_ BK230 3
           go_wp2
           go_ret
           exact ⟨by first|rfl|(simp [errW_none,errW_some]<;>rfl)|(simp [*,errW_none,errW_some]<;>rfl),bl_ HB⟩
         ·rw [if_neg c33] at H
          have c33b0:decide (1≤a0_2)=false:=decide_eq_false c33
          clear c33
          obtain rfl:=Option.some.inj H
          have hcz39_0:=ck_ BK230 0
          have hcz39_1:=ck_ BK230 1
          have hcz39_2:=ck_ BK230 2
          have hcz39_3:=ck_ BK230 3
          have hfz39_0:=fz_ BK230 0
          have hfz39_1:=fz_ BK230 1
          have hfz39_2:=fz_ BK230 2
          have hfz39_3:=fz_ BK230 3
          go_wp2
          go_ret
          exact ⟨by first|rfl|(simp [errW_none,errW_some]<;>rfl)|(simp [*,errW_none,errW_some]<;>rfl),bl_ HB⟩
        ·rw [if_neg c32] at H
         have c32b0:(a0_0 == 4)=false:=beq_eq_false_iff_ne.mpr c32
         have c32b1:(a0_0 != 4)=true:=bne_iff_ne.mpr c32
         obtain rfl:=Option.some.inj H
         have hcz40_0:=ck_ BK230 0
         have hcz40_1:=ck_ BK230 1
         have hcz40_2:=ck_ BK230 2
         have hcz40_3:=ck_ BK230 3
         have hfz40_0:=fz_ BK230 0
         have hfz40_1:=fz_ BK230 1
         have hfz40_2:=fz_ BK230 2
         have hfz40_3:=fz_ BK230 3
         go_wp2
         go_ret
         exact ⟨by first|rfl|(simp [errW_none,errW_some]<;>rfl)|(simp [*,errW_none,errW_some]<;>rfl),bl_ HB⟩

/-! ### swageref14_shape: function 103 -/
def swageref14_shape.j0:Nat→Int→Bool→Option (Bool × Bool × Bool × Bool × Bool)
 | 0,_,_=>none
 | k+1,x7,x8=>if x8=true then (some (true,false,false,true,true)) else (if x7=2 then (some (true,true,true,true,true)) else (if x7=3 then (some (true,true,false,false,true)) else (if x7=4 then (some (true,true,false,true,true)) else (if x7=5 then (some (false,true,true,true,true)) else (if x7=7 then (some (true,false,false,true,true)) else (if x7=8 then (some (true,false,false,false,true)) else (if x7=9 then (some (false,true,false,false,true)) else (some (false,false,false,false,false)))))))))
def swageref14_shape.f (k:Nat) (a0:Int):Option (Bool × Bool × Bool × Bool × Bool):=if a0=1 then (swageref14_shape.j0 k a0 (a0 == 1)) else (swageref14_shape.j0 k a0 (a0 == 6))
set_option maxHeartbeats 8000000 in
set_option maxRecDepth 100000 in
theorem swageref14_shape.calls (k:Nat) (a0:Int) (r1:Bool) (r2:Bool) (r3:Bool) (r4:Bool) (r5:Bool) (w:World) (h:swageref14_shape.f k a0=some (r1,r2,r3,r4,r5)) :
  Calls Tryz.prog 103 #[.int .i64 a0] w fun e w'=>e=.returned (.tuple #[.bool r1,.bool r2,.bool r3,.bool r4,.bool r5])∧Drawn0 w w':=by
 have H:(if a0=1 then (swageref14_shape.j0 k a0 (a0 == 1)) else (swageref14_shape.j0 k a0 (a0 == 6)))=some (r1,r2,r3,r4,r5):=h
 clear h
 have HC2:=ak_ H
 clear H
 go_enter Tryz.func103,Tryz.ntmps103
 go_upto_if 8 with (fail)
 go_cut [8] (fun v8 wc=>∃ (kq:Nat) (x8_1:Bool),v8=.bool x8_1∧Aside0 (swageref14_shape.j0 kq a0 x8_1=some (r1,r2,r3,r4,r5))∧Aside0 (kq≤k)∧Drawn0 w wc)
 case first =>
  have H:=HC2.out
  clear HC2
  by_cases c3:a0=1
  ·rw [if_pos c3] at H
   have c3b0:(a0 == 1)=true:=beq_iff_eq.mpr c3
   have c3b1:(a0 != 1)=false:=bne_eq_false_iff_eq.mpr c3
   clear c3
   (first|rw [c3b0]|(simp only [i64_w,i32_w];rw [c3b0])|skip)
   have H':=ak_ H
   clear H
   go_wp2
   go_meet
   case rel=>exact ⟨_,((a0 == 1)),(by first|rfl|(simp;done)|(simp [*];done)),H',⟨by first|omega|exact Nat.le_refl _⟩,by repeat (first|exact Drawn0.refl _|apply Drawn0.step)⟩
  ·rw [if_neg c3] at H
   have c3b0:(a0 == 1)=false:=beq_eq_false_iff_ne.mpr c3
   have c3b1:(a0 != 1)=true:=bne_iff_ne.mpr c3
   (first|rw [c3b0]|(simp only [i64_w,i32_w];rw [c3b0])|skip)
   have H':=ak_ H
   clear H
   go_wp2
   go_meet
   case rel=>exact ⟨_,((a0 == 6)),(by first|rfl|(simp;done)|(simp [*];done)),H',⟨by first|omega|exact Nat.le_refl _⟩,by repeat (first|exact Drawn0.refl _|apply Drawn0.step)⟩
 case rest =>
  clear HC2
  obtain ⟨kq,x8_1,rfl,HA,HJ1,⟨mc1,rfl⟩⟩:=hcut
  cases kq with
  | zero=>exact absurd HA.out (by simp [swageref14_shape.j0])
  | succ kj1 =>
   have H:=HA.out
   clear HA
   simp only [swageref14_shape.j0] at H
   by_cases c4:x8_1=true
   ·subst c4
    have H1:(some (true,false,false,true,true))=some (r1,r2,r3,r4,r5):=by rw [if_pos rfl] at H;exact H
    clear H
    have H:=H1
    clear H1
    simp only [Option.some.injEq,Prod.mk.injEq] at H
    obtain ⟨rfl,rfl,rfl,rfl,rfl⟩:=H
    go_wp2
    refine bodyPost_ret (results_list (rs:=[.tmp 2,.tmp 3,.tmp 4,.tmp 5,.tmp 6]) rfl (by simp) (.tmp (.tmp (.tmp (.tmp (.tmp .nil)))))) rfl ?_
    exact ⟨by first|rfl|(simp;done)|(simp [*];done),by repeat (first|exact Drawn0.refl _|apply Drawn0.step)⟩
   ·replace c4:=Bool.eq_false_iff.mpr c4
    subst c4
    have H1:(if a0=2 then (some (true,true,true,true,true)) else (if a0=3 then (some (true,true,false,false,true)) else (if a0=4 then (some (true,true,false,true,true)) else (if a0=5 then (some (false,true,true,true,true)) else (if a0=7 then (some (true,false,false,true,true)) else (if a0=8 then (some (true,false,false,false,true)) else (if a0=9 then (some (false,true,false,false,true)) else (some (false,false,false,false,false)))))))))=some (r1,r2,r3,r4,r5):=by rw [if_neg (show ¬ (false=true) by decide)] at H;exact H
    clear H
    have H:=H1
    clear H1
    by_cases c5:a0=2
    ·rw [if_pos c5] at H
     have c5b0:(a0 == 2)=true:=beq_iff_eq.mpr c5
     have c5b1:(a0 != 2)=false:=bne_eq_false_iff_eq.mpr c5
     clear c5
     simp only [Option.some.injEq,Prod.mk.injEq] at H
     obtain ⟨rfl,rfl,rfl,rfl,rfl⟩:=H
     go_wp2
     refine bodyPost_ret (results_list (rs:=[.tmp 2,.tmp 3,.tmp 4,.tmp 5,.tmp 6]) rfl (by simp) (.tmp (.tmp (.tmp (.tmp (.tmp .nil)))))) rfl ?_
     exact ⟨by first|rfl|(simp;done)|(simp [*];done),by repeat (first|exact Drawn0.refl _|apply Drawn0.step)⟩
    ·rw [if_neg c5] at H
     have c5b0:(a0 == 2)=false:=beq_eq_false_iff_ne.mpr c5
     have c5b1:(a0 != 2)=true:=bne_iff_ne.mpr c5
     by_cases c6:a0=3
     ·rw [if_pos c6] at H
      have c6b0:(a0 == 3)=true:=beq_iff_eq.mpr c6
      have c6b1:(a0 != 3)=false:=bne_eq_false_iff_eq.mpr c6
      clear c6
      simp only [Option.some.injEq,Prod.mk.injEq] at H
      obtain ⟨rfl,rfl,rfl,rfl,rfl⟩:=H
      go_wp2
      refine bodyPost_ret (results_list (rs:=[.tmp 2,.tmp 3,.tmp 4,.tmp 5,.tmp 6]) rfl (by simp) (.tmp (.tmp (.tmp (.tmp (.tmp .nil)))))) rfl ?_
      exact ⟨by first|rfl|(simp;done)|(simp [*];done),by repeat (first|exact Drawn0.refl _|apply Drawn0.step)⟩
     ·rw [if_neg c6] at H
      have c6b0:(a0 == 3)=false:=beq_eq_false_iff_ne.mpr c6
      have c6b1:(a0 != 3)=true:=bne_iff_ne.mpr c6
      by_cases c7:a0=4
      ·rw [if_pos c7] at H
       have c7b0:(a0 == 4)=true:=beq_iff_eq.mpr c7
       have c7b1:(a0 != 4)=false:=bne_eq_false_iff_eq.mpr c7
       clear c7
       simp only [Option.some.injEq,Prod.mk.injEq] at H
       obtain ⟨rfl,rfl,rfl,rfl,rfl⟩:=H
       go_wp2
       refine bodyPost_ret (results_list (rs:=[.tmp 2,.tmp 3,.tmp 4,.tmp 5,.tmp 6]) rfl (by simp) (.tmp (.tmp (.tmp (.tmp (.tmp .nil)))))) rfl ?_
       exact ⟨by first|rfl|(simp;done)|(simp [*];done),by repeat (first|exact Drawn0.refl _|apply Drawn0.step)⟩
      ·rw [if_neg c7] at H
       have c7b0:(a0 == 4)=false:=beq_eq_false_iff_ne.mpr c7
       have c7b1:(a0 != 4)=true:=bne_iff_ne.mpr c7
       by_cases c8:a0=5
       ·rw [if_pos c8] at H
        have c8b0:(a0 == 5)=true:=beq_iff_eq.mpr c8
        have c8b1:(a0 != 5)=false:=bne_eq_false_iff_eq.mpr c8
        clear c8
        simp only [Option.some.injEq,Prod.mk.injEq] at H
        obtain ⟨rfl,rfl,rfl,rfl,rfl⟩:=H
        go_wp2
        refine bodyPost_ret (results_list (rs:=[.tmp 2,.tmp 3,.tmp 4,.tmp 5,.tmp 6]) rfl (by simp) (.tmp (.tmp (.tmp (.tmp (.tmp .nil)))))) rfl ?_
        exact ⟨by first|rfl|(simp;done)|(simp [*];done),by repeat (first|exact Drawn0.refl _|apply Drawn0.step)⟩
       ·rw [if_neg c8] at H
        have c8b0:(a0 == 5)=false:=beq_eq_false_iff_ne.mpr c8
        have c8b1:(a0 != 5)=true:=bne_iff_ne.mpr c8
        by_cases c9:a0=7
        ·rw [if_pos c9] at H
         have c9b0:(a0 == 7)=true:=beq_iff_eq.mpr c9
         have c9b1:(a0 != 7)=false:=bne_eq_false_iff_eq.mpr c9
         clear c9
         simp only [Option.some.injEq,Prod.mk.injEq] at H
         obtain ⟨rfl,rfl,rfl,rfl,rfl⟩:=H
         go_wp2
         refine bodyPost_ret (results_list (rs:=[.tmp 2,.tmp 3,.tmp 4,.tmp 5,.tmp 6]) rfl (by simp) (.tmp (.tmp (.tmp (.tmp (.tmp .nil)))))) rfl ?_
         exact ⟨by first|rfl|(simp;done)|(simp [*];done),by repeat (first|exact Drawn0.refl _|apply Drawn0.step)⟩
        ·rw [if_neg c9] at H
         have c9b0:(a0 == 7)=false:=beq_eq_false_iff_ne.mpr c9
         have c9b1:(a0 != 7)=true:=bne_iff_ne.mpr c9
         by_cases c10:a0=8
         ·rw [if_pos c10] at H
          have c10b0:(a0 == 8)=true:=beq_iff_eq.mpr c10
          have c10b1:(a0 != 8)=false:=bne_eq_false_iff_eq.mpr c10
          clear c10
          simp only [Option.some.injEq,Prod.mk.injEq] at H
          obtain ⟨rfl,rfl,rfl,rfl,rfl⟩:=H
          go_wp2
          refine bodyPost_ret (results_list (rs:=[.tmp 2,.tmp 3,.tmp 4,.tmp 5,.tmp 6]) rfl (by simp) (.tmp (.tmp (.tmp (.tmp (.tmp .nil)))))) rfl ?_
          exact ⟨by first|rfl|(simp;done)|(simp [*];done),by repeat (first|exact Drawn0.refl _|apply Drawn0.step)⟩
         ·rw [if_neg c10] at H
          have c10b0:(a0 == 8)=false:=beq_eq_false_iff_ne.mpr c10
          have c10b1:(a0 != 8)=true:=bne_iff_ne.mpr c10
          by_cases c11:a0=9
          ·rw [if_pos c11] at H
           have c11b0:(a0 == 9)=true:=beq_iff_eq.mpr c11
           have c11b1:(a0 != 9)=false:=bne_eq_false_iff_eq.mpr c11
           clear c11
           simp only [Option.some.injEq,Prod.mk.injEq] at H
           obtain ⟨rfl,rfl,rfl,rfl,rfl⟩:=H
           go_wp2
           refine bodyPost_ret (results_list (rs:=[.tmp 2,.tmp 3,.tmp 4,.tmp 5,.tmp 6]) rfl (by simp) (.tmp (.tmp (.tmp (.tmp (.tmp .nil)))))) rfl ?_
           exact ⟨by first|rfl|(simp;done)|(simp [*];done),by repeat (first|exact Drawn0.refl _|apply Drawn0.step)⟩
          ·rw [if_neg c11] at H
           have c11b0:(a0 == 9)=false:=beq_eq_false_iff_ne.mpr c11
           have c11b1:(a0 != 9)=true:=bne_iff_ne.mpr c11
           simp only [Option.some.injEq,Prod.mk.injEq] at H
           obtain ⟨rfl,rfl,rfl,rfl,rfl⟩:=H
           go_wp2
           refine bodyPost_ret (results_list (rs:=[.tmp 2,.tmp 3,.tmp 4,.tmp 5,.tmp 6]) rfl (by simp) (.tmp (.tmp (.tmp (.tmp (.tmp .nil)))))) rfl ?_
           exact ⟨by first|rfl|(simp;done)|(simp [*];done),by repeat (first|exact Drawn0.refl _|apply Drawn0.step)⟩

/-! ### swageref14_field: function 104 -/
def swageref14_field.f (a0:Int) (a1:Bool):Option (Bool):=if a1=true then ((swageref14_reg.f a0).bind fun t233=>(if t233=true then (some true) else (some false))) else (some (a0 == 0))
set_option maxHeartbeats 8000000 in
set_option maxRecDepth 100000 in
theorem swageref14_field.calls (a0:Int) (a1:Bool) (r:Bool) (w:World) (h:swageref14_field.f a0 a1=some r) :
  Calls Tryz.prog 104 #[.int .i64 a0,.bool a1] w fun e w'=>e=.returned (.bool r)∧Drawn0 w w':=by
 have H:(if a1=true then ((swageref14_reg.f a0).bind fun t233=>(if t233=true then (some true) else (some false))) else (some (a0 == 0)))=some r:=h
 clear h
 by_cases c3:a1=true
 ·subst c3
  have H1:((swageref14_reg.f a0).bind fun t233=>(if t233=true then (some true) else (some false)))=some r:=by rw [if_pos rfl] at H;exact H
  clear H
  have H:=H1
  clear H1
  replace H:=Option.bind_eq_some_iff.mp H
  obtain ⟨t233,A40,H⟩:=H
  replace H:(if t233=true then (some true) else (some false))=some r:=H
  have A4:=ak_ A40
  clear A40
  by_cases c5:t233=true
  ·subst c5
   have H1:(some true)=some r:=by rw [if_pos rfl] at H;exact H
   clear H
   have H:=H1
   clear H1
   obtain rfl:=Option.some.inj H
   go_enter Tryz.func104,Tryz.ntmps104
   go_wp2_with (first|(go_at_call 102;(with_reducible refine (swageref14_reg.calls a0 true _ A4.out).mono ?_);rintro e w' ⟨rfl,⟨nd,rfl⟩⟩))
   go_ret
   exact ⟨by first|rfl|(simp;done)|(simp [*];done),by repeat (first|exact Drawn0.refl _|apply Drawn0.step)⟩
  ·replace c5:=Bool.eq_false_iff.mpr c5
   subst c5
   have H1:(some false)=some r:=by rw [if_neg (show ¬ (false=true) by decide)] at H;exact H
   clear H
   have H:=H1
   clear H1
   obtain rfl:=Option.some.inj H
   go_enter Tryz.func104,Tryz.ntmps104
   go_wp2_with (first|(go_at_call 102;(with_reducible refine (swageref14_reg.calls a0 false _ A4.out).mono ?_);rintro e w' ⟨rfl,⟨nd,rfl⟩⟩))
   go_ret
   exact ⟨by first|rfl|(simp;done)|(simp [*];done),by repeat (first|exact Drawn0.refl _|apply Drawn0.step)⟩
 ·replace c3:=Bool.eq_false_iff.mpr c3
  subst c3
  have H1:(some (a0 == 0))=some r:=by rw [if_neg (show ¬ (false=true) by decide)] at H;exact H
  clear H
  have H:=H1
  clear H1
  obtain rfl:=Option.some.inj H
  go_enter Tryz.func104,Tryz.ntmps104
  go_wp2
  go_ret
  exact ⟨by first|rfl|(simp;done)|(simp [*];done),by repeat (first|exact Drawn0.refl _|apply Drawn0.step)⟩

/-! ### swageref01_Known: function 105 -/
def swageref01_Known.f (a0:Int):Option (Bool):=if a0 ≥ 1 then (some (decide (a0≤14))) else (some false)
set_option maxHeartbeats 8000000 in
set_option maxRecDepth 100000 in
theorem swageref01_Known.calls (a0:Int) (r:Bool) (w:World) (h:swageref01_Known.f a0=some r) :
  Calls Tryz.prog 105 #[.int .i64 a0] w fun e w'=>e=.returned (.bool r)∧Drawn0 w w':=by
 have H:(if a0 ≥ 1 then (some (decide (a0≤14))) else (some false))=some r:=h
 clear h
 by_cases c2:a0 ≥ 1
 ·rw [if_pos c2] at H
  have c2b0:decide (1≤a0)=true:=decide_eq_true c2
  clear c2
  obtain rfl:=Option.some.inj H
  go_enter Tryz.func105,Tryz.ntmps105
  go_wp2
  go_ret
  exact ⟨by first|rfl|(simp;done)|(simp [*];done),by repeat (first|exact Drawn0.refl _|apply Drawn0.step)⟩
 ·rw [if_neg c2] at H
  have c2b0:decide (1≤a0)=false:=decide_eq_false c2
  clear c2
  obtain rfl:=Option.some.inj H
  go_enter Tryz.func105,Tryz.ntmps105
  go_wp2
  go_ret
  exact ⟨by first|rfl|(simp;done)|(simp [*];done),by repeat (first|exact Drawn0.refl _|apply Drawn0.step)⟩

