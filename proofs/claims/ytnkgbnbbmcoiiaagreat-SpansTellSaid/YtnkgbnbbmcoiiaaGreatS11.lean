-- a text of the seat,by a program
import Derived.Test.YtnkgbnbbmcoiiaaGreatBk
import Derived.Test.YtnkgbnbbmcoiiaaGreatS0
import Derived.Test.YtnkgbnbbmcoiiaaGreatS9
import Derived.Test.YtnkgbnbbmcoiiaaGreatS10
namespace Go.Proofs.YtnkgbnbbmcoiiaaGreat.S
open Go.RowKit Go.Proofs.YtnkgbnbbmcoiiaaGreatW.PrintWords Go.Proofs.YtnkgbnbbmcoiiaaGreatW.PrintLast Go.Proofs.YtnkgbnbbmcoiiaaGreatW.PrintMore
attribute [local go_sem] max2_int min2_int max_two min_two max_three min_three max_four min_four   -- for this text's walks alone
set_option linter.unusedVariables false
set_option linter.unusedSimpArgs false

/-! ### swageref14_Right: function 46 -/
mutual
def swageref14_Right.j0:Nat→Int→Bool→Int→List (S50)→Option (Bool)
 | 0,_,_,_,_=>none
 | k+1,x1,x28,x247000,x247001=>if x28=true then (some false) else (swageref14_Right.l0 k x1 0 0 x247000 x247001)
def swageref14_Right.l0:Nat→Int→Int→Int→Int→List (S50)→Option (Bool)
 | 0,_,_,_,_,_=>none
 | k+1,x1,x5,x6,x247000,x247001=>if x6<(x247001.length:Int) then (if 0≤x6 then (if (wrap64 (x5+(((rd_T50 x247001 x6).f0).length:Int))) > 16384 then (swageref14_Right.j2 k x1 (wrap64 (x5+(((rd_T50 x247001 x6).f0).length:Int))) x6 true x247000 x247001) else ((swageref14_rightTerm.f k ((rd_T50 x247001 x6).f1.f0) ((rd_T50 x247001 x6).f1.f1) ((rd_T50 x247001 x6).f1.f2) ((rd_T50 x247001 x6).f1.f3) (x247001.length:Int)).bind fun t249=>(swageref14_Right.j2 k x1 (wrap64 (x5+(((rd_T50 x247001 x6).f0).length:Int))) x6 (!t249) x247000 x247001))) else (none)) else (some true)
def swageref14_Right.j2:Nat→Int→Int→Int→Bool→Int→List (S50)→Option (Bool)
 | 0,_,_,_,_,_,_=>none
 | k+1,x1,x5,x6,x59,x247000,x247001=>if x59=true then (some false) else (swageref14_Right.l1 k x1 x5 x6 0 x247000 x247001)
def swageref14_Right.l1:Nat→Int→Int→Int→Int→Int→List (S50)→Option (Bool)
 | 0,_,_,_,_,_,_=>none
 | k+1,x1,x5,x6,x7,x247000,x247001=>if 0≤x6 then (if x6<(x247001.length:Int) then (if x7<(((rd_T50 x247001 x6).f0).length:Int) then (if 0≤x7 then ((swageref14_RightOp.f k ((rd_T45 ((rd_T50 x247001 x6).f0) x7).f0) ((rd_T45 ((rd_T50 x247001 x6).f0) x7).f1) ((rd_T45 ((rd_T50 x247001 x6).f0) x7).f2) ((rd_T45 ((rd_T50 x247001 x6).f0) x7).f3) ((rd_T45 ((rd_T50 x247001 x6).f0) x7).f4) ((rd_T45 ((rd_T50 x247001 x6).f0) x7).f5) x1).bind fun t253=>(if t253=true then (swageref14_Right.l1 k x1 x5 x6 (wrap64 (x7+1)) x247000 x247001) else (some false))) else (none)) else (swageref14_Right.l0 k x1 x5 (wrap64 (x6+1)) x247000 x247001)) else (none)) else (none)
end
def swageref14_Right.f (k:Nat) (a0_0:Int) (l0_1:List (S50)) (a1:Int):Option (Bool):=if (l0_1.length:Int)<1 then (swageref14_Right.j0 k a1 true a0_0 l0_1) else (if (l0_1.length:Int) > 4096 then (swageref14_Right.j0 k a1 true a0_0 l0_1) else (if a0_0<0 then (swageref14_Right.j0 k a1 true a0_0 l0_1) else (swageref14_Right.j0 k a1 (decide (a0_0 > 8)) a0_0 l0_1)))
def swageref14_Right.T8:Bool × List (List Nat × List Nat):=(true,[([],[]),([0],[0]),([1],[1]),([2],[2]),([3,2],[2,3]),([2],[2]),([4,5,2],[2,4,5]),([6,2],[2,6]),([7,2],[2,7]),([2],[2]),([9,2],[2,9]),([10,2],[2,10]),([8,11,2,2],[2,8,11]),([12,2],[2,12]),([2,13],[2,13])])
def swageref14_Right.B8:List Nat:=[0,1,3,7,15,7,63,127,255,7,519,1543,4095,8191,16383]
theorem swageref14_Right.tab8:rtab .any (opsOf Tryz.f46 8)=swageref14_Right.T8:=by kernel_rfl
theorem swageref14_Right.bits8:waitsOk swageref14_Right.T8.2 swageref14_Right.B8=true:=by kernel_rfl
set_option maxHeartbeats 8000000 in
set_option maxRecDepth 100000 in
theorem swageref14_Right.calls (k:Nat) (a0_0:Int) (A0_1:Option Addr) (c0_1:Nat) (l0_1:List (S50)) (a1:Int) (r:Bool) (w:World) (hr0_1:Kd.C k50 w A0_1 l0_1.length l0_1) (hc0_1:l0_1.length≤c0_1) (h:swageref14_Right.f k a0_0 l0_1 a1=some r) :
  Calls Tryz.prog 46 #[.agg #[.int .i64 a0_0,.slice A0_1 l0_1.length c0_1],.int .i64 a1] w fun e w'=>e=.returned (.bool r)∧Below w.heap.size w w':=by
 have hu24:=Tryz.underlying24
 have hu48:=Tryz.underlying48
 have hu45:=Tryz.underlying45
 have HR0_1:=ak_ hr0_1
 have HC0_1:=ak_ hc0_1
 clear hr0_1 hc0_1
 have HB:=ak_ (Below.refl w.heap.size w)
 have H:(if (l0_1.length:Int)<1 then (swageref14_Right.j0 k a1 true a0_0 l0_1) else (if (l0_1.length:Int) > 4096 then (swageref14_Right.j0 k a1 true a0_0 l0_1) else (if a0_0<0 then (swageref14_Right.j0 k a1 true a0_0 l0_1) else (swageref14_Right.j0 k a1 (decide (a0_0 > 8)) a0_0 l0_1))))=some r:=h
 clear h
 have HC3:=ak_ H
 clear H
 go_enter Tryz.func46,Tryz.ntmps46
 go_upto_region 1 with (first|((with_reducible refine gate_dst (N:=2) rfl ?_);(try (refine gate_guard (by rfl) ?_;dsimp only));refine box_event ?hg (N:=2) ?hd (cs:=#[.int .i64 a0_0,.slice A0_1 l0_1.length c0_1]) (t:=24) ?hr ?_;(case hd=>rfl);(case hg=>rfl);(case hr=>first|(go_simp;done)|(go_simp;rfl));intro gb246 hg w4 hbox hb;have n0_:=ak_ (below_step (bl_ HB) hb);have n1_:=ak_ (hbox);have n2_:=ak_ ((by rw [hg];exact (below_size (bl_ HB)):w.heap.size≤gb246));have n3_:=ak_ ((by rw [hg];exact (below_size (bl_ HB)):w.heap.size≤gb246));clear HB;have HB:=n0_;have BK246:=n1_;have GW246:=n2_;have GE246:=n3_;clear n0_ n1_ n2_ n3_;clear hb hbox hg))
 (try simp only [Act.put,pa_,pb_,pc_])
 go_cut [28] (fun v28 wc=>∃ (kq:Nat) (x28_2:Bool),v28=.bool x28_2∧Aside0 (swageref14_Right.j0 kq a1 x28_2 a0_0 l0_1=some r)∧Aside0 (kq≤k)∧Aside0 (wc.heap[gb246]?=some (.cells #[.int .i64 a0_0,(.slice A0_1 l0_1.length c0_1)] 24 (0,0)))∧Aside0 (Below w.heap.size w wc))
 case first =>
  have H:=HC3.out
  clear HC3
  by_cases c5:(l0_1.length:Int)<1
  ·rw [if_pos c5] at H
   have c5b0:decide ((l0_1.length:Int)<1)=true:=decide_eq_true c5
   have c5b1:decide (l0_1.length<1)=true:=decide_eq_true (by omega)
   clear c5
   (first|rw [c5b0]|(simp only [i64_w,i32_w];rw [c5b0])|skip)
   have H':=ak_ H
   clear H
   have hcz6_0:=ck_ BK246 0
   have hcz6_1:=ck_ BK246 1
   have hfz6_0:=fz_ BK246 0
   have hfz6_1:=fz_ BK246 1
   go_wp2
   go_meet
   case rel=>exact ⟨_,(true),(by first|rfl|(simp;done)|(simp [*];done)),H',⟨by first|omega|exact Nat.le_refl _⟩,⟨bk_ BK246⟩,⟨bl_ HB⟩⟩
  ·rw [if_neg c5] at H
   have c5b0:decide ((l0_1.length:Int)<1)=false:=decide_eq_false c5
   have c5b1:decide (l0_1.length<1)=false:=decide_eq_false (by omega)
   clear c5
   (first|rw [c5b0]|(simp only [i64_w,i32_w];rw [c5b0])|skip)
   by_cases c7:(l0_1.length:Int) > 4096
   ·rw [if_pos c7] at H
    have c7b0:decide (4096<(l0_1.length:Int))=true:=decide_eq_true c7
    have c7b1:decide (4096<l0_1.length)=true:=decide_eq_true (by omega)
    clear c7
    have H':=ak_ H
    clear H
    have hcz8_0:=ck_ BK246 0
    have hcz8_1:=ck_ BK246 1
    have hfz8_0:=fz_ BK246 0
    have hfz8_1:=fz_ BK246 1
    go_wp2
    go_meet
    case rel=>exact ⟨_,(true),(by first|rfl|(simp;done)|(simp [*];done)),H',⟨by first|omega|exact Nat.le_refl _⟩,⟨bk_ BK246⟩,⟨bl_ HB⟩⟩
   ·rw [if_neg c7] at H
    have c7b0:decide (4096<(l0_1.length:Int))=false:=decide_eq_false c7
    have c7b1:decide (4096<l0_1.length)=false:=decide_eq_false (by omega)
    clear c7
    by_cases c9:a0_0<0
    ·rw [if_pos c9] at H
     have c9b0:decide (a0_0<0)=true:=decide_eq_true c9
     clear c9
     have H':=ak_ H
     clear H
     have hcz10_0:=ck_ BK246 0
     have hcz10_1:=ck_ BK246 1
     have hfz10_0:=fz_ BK246 0
     have hfz10_1:=fz_ BK246 1
     go_wp2
     go_meet
     case rel=>exact ⟨_,(true),(by first|rfl|(simp;done)|(simp [*];done)),H',⟨by first|omega|exact Nat.le_refl _⟩,⟨bk_ BK246⟩,⟨bl_ HB⟩⟩
    ·rw [if_neg c9] at H
     have c9b0:decide (a0_0<0)=false:=decide_eq_false c9
     clear c9
     have H':=ak_ H
     clear H
     have hcz11_0:=ck_ BK246 0
     have hcz11_1:=ck_ BK246 1
     have hfz11_0:=fz_ BK246 0
     have hfz11_1:=fz_ BK246 1
     go_wp2
     go_meet
     case rel=>exact ⟨_,(decide (a0_0 > 8)),(by first|rfl|(simp;done)|(simp [*];done)),H',⟨by first|omega|exact Nat.le_refl _⟩,⟨bk_ BK246⟩,⟨bl_ HB⟩⟩
 case rest =>
  clear HC3
  obtain ⟨kq,x28_2,rfl,HA,HJ2,BK246,HB⟩:=hcut
  cases kq with
  | zero=>exact absurd HA.out (by simp [swageref14_Right.j0])
  | succ kj2 =>
   have H:=HA.out
   clear HA
   simp only [swageref14_Right.j0] at H
   by_cases c12:x28_2=true
   ·subst c12
    have H1:(some false)=some r:=by rw [if_pos rfl] at H;exact H
    clear H
    have H:=H1
    clear H1
    obtain rfl:=Option.some.inj H
    go_wp2
    go_ret
    exact ⟨by first|rfl|(simp [errW_none,errW_some]<;>rfl)|(simp [*,errW_none,errW_some]<;>rfl),bl_ HB⟩
   ·replace c12:=Bool.eq_false_iff.mpr c12
    subst c12
    have H1:(swageref14_Right.l0 kj2 a1 0 0 a0_0 l0_1)=some r:=by rw [if_neg (show ¬ (false=true) by decide)] at H;exact H
    clear H
    have H:=H1
    clear H1
    have H':=ak_ H
    clear H
    go_wp2
    go_loopg [5,6] kj2 (fun kq v5 v6 w'=>∃ (x5_2:Int) (x6_2:Int),v5=.int .i64 x5_2∧v6=.int .i64 x6_2∧Aside0 (swageref14_Right.l0 kq a1 x5_2 x6_2 a0_0 l0_1=some r)∧Aside0 (kq≤kj2)∧Aside0 (w'.heap[gb246]?=some (.cells #[.int .i64 a0_0,(.slice A0_1 l0_1.length c0_1)] 24 (0,0)))∧Aside0 (Below w.heap.size w w'))
    case atStart=>exact ⟨(0),(0),(by first|rfl|(simp;done)|(simp [*];done)),(by first|rfl|(simp;done)|(simp [*];done)),H',⟨Nat.le_refl _⟩,⟨bk_ BK246⟩,⟨bl_ HB⟩⟩
    case round =>
     clear H'
     obtain ⟨x5_2,x6_2,rfl,rfl,HA,HK2,BK246,HB⟩:=hrel
     cases gk with
     | zero=>exact absurd HA.out (by simp [swageref14_Right.l0])
     | succ k2 =>
      have H:=HA.out
      clear HA
      simp only [swageref14_Right.l0] at H
      by_cases c13:x6_2<(l0_1.length:Int)
      ·rw [if_pos c13] at H
       have c13b0:decide (x6_2<(l0_1.length:Int))=true:=decide_eq_true c13
       clear c13
       by_cases c14:0≤x6_2
       ·rw [if_pos c14] at H
        have c14b0:decide (0≤x6_2)=true:=decide_eq_true c14
        clear c14
        have HC15:=ak_ H
        clear H
        have hcz16_0:=ck_ BK246 0
        have hcz16_1:=ck_ BK246 1
        have hfz16_0:=fz_ BK246 0
        have hfz16_1:=fz_ BK246 1
        have p247:0≤(x6_2:Int):=of_decide_eq_true (by first|(with_reducible assumption)|assumption)
        have q247:x6_2<(l0_1.length:Int):=of_decide_eq_true (by first|(with_reducible assumption)|assumption)
        obtain ⟨ad247,A247_0,c247_0,e247,hx247_0,hx247_1,hx247_2,hx247_3,hx247_4,hl247_0,hi247_0⟩:=at_T50 HR0_1.out x6_2 p247 q247
        cases e247
        replace hx247_0:=cl_ HB hx247_0
        replace hx247_1:=cl_ HB hx247_1
        replace hx247_2:=cl_ HB hx247_2
        replace hx247_3:=cl_ HB hx247_3
        replace hx247_4:=cl_ HB hx247_4
        have HR247_0:=ak_ hi247_0
        have HC247_0:=ak_ hl247_0
        clear hi247_0 hl247_0
        replace p247:=eq_true p247
        replace q247:=eq_true q247
        go_upto_region 8 with (fail)
        go_cut [59] (fun v59 wc=>∃ (kq:Nat) (x59_14:Bool),v59=.bool x59_14∧Aside0 (swageref14_Right.j2 kq a1 (wrap64 (x5_2+(((rd_T50 l0_1 x6_2).f0).length:Int))) x6_2 x59_14 a0_0 l0_1=some r)∧Aside0 (kq≤k2)∧Aside0 (wc.heap[gb246]?=some (.cells #[.int .i64 a0_0,(.slice (some ad247) l0_1.length c0_1)] 24 (0,0)))∧Aside0 (Below w.heap.size w wc))
        case first =>
         have H:=HC15.out
         clear HC15
         by_cases c17:(wrap64 (x5_2+(((rd_T50 l0_1 x6_2).f0).length:Int))) > 16384
         ·rw [if_pos c17] at H
          have c17b0:decide (16384<(wrap64 (x5_2+(((rd_T50 l0_1 x6_2).f0).length:Int))))=true:=decide_eq_true c17
          clear c17
          (first|rw [c17b0]|(simp only [i64_w,i32_w];rw [c17b0])|skip)
          have H':=ak_ H
          clear H
          try go_wp2
          have n0_:=ak_ (blk_drew BK246.out)
          have n1_:=ak_ (below_drew1 HB.out)
          clear BK246
          clear HB
          have BK246:=n0_
          have HB:=n1_
          clear n0_ n1_
          refine start_ (n:=15) (S:=fun w'=>True) (ds:=[]) #[false,false,false,false,false,false,false,false,false,false,false,false,false,false,false] (by kernel_rfl) rfl rfl trivial (fun hHeld=>?_);refine with_tabW swageref14_Right.tab8 swageref14_Right.bits8 (fun HT_ HW_=>?_)
          generalize wr.drew=w18 at BK246 HB hHeld ⊢
          refine pure_ (i:=0) (N:=some 45) (v:=?_) (a':=?_) #[true,false,false,false,false,false,false,false,false,false,false,false,false,false,false] rfl rfl (any_of HT_.out (by kernel_rfl)) (fun _ _ _ h=>h) (Or.inl ⟨by rfl,?_⟩) ?_ ?_
          rotate_left
          ·intro w'
           go_simp
           with_reducible rfl
          rotate_left
          ·simp only [Act.put,pa_,pb_,pc_,i64_w,i32_w]
           rfl
          refine pure_ (i:=1) (N:=some 46) (v:=?_) (a':=?_) #[true,true,false,false,false,false,false,false,false,false,false,false,false,false,false] rfl rfl (any_of HT_.out (by kernel_rfl)) (fun _ _ _ h=>h) (Or.inl ⟨by rfl,?_⟩) ?_ ?_
          rotate_left
          ·intro w'
           go_simp
           with_reducible rfl
          rotate_left
          ·simp only [Act.put,pa_,pb_,pc_,i64_w,i32_w]
           rfl
          refine pure_ (i:=2) (N:=some 47) (v:=?_) (a':=?_) #[true,true,true,false,false,false,false,false,false,false,false,false,false,false,false] rfl rfl (any_of HT_.out (by kernel_rfl)) (fun _ _ _ h=>h) (Or.inl ⟨by rfl,?_⟩) ?_ ?_
          rotate_left
          ·intro w'
           go_simp
           with_reducible rfl
          rotate_left
          ·simp only [Act.put,pa_,pb_,pc_,i64_w,i32_w]
           rfl
          refine pure_ (i:=3) (N:=some 48) (v:=undef) (a':=?_) #[true,true,true,true,false,false,false,false,false,false,false,false,false,false,false] rfl rfl (any_of HT_.out (by kernel_rfl)) (fun _ _ _ h=>h) (Or.inr ⟨by rfl,rfl⟩) ?_ ?_
          rotate_left
          ·simp only [Act.put,pa_,pb_,pc_,i64_w,i32_w]
           rfl
          refine pure_ (i:=4) (N:=some 49) (v:=undef) (a':=?_) #[true,true,true,true,true,false,false,false,false,false,false,false,false,false,false] rfl rfl (any_of HT_.out (by kernel_rfl)) (fun _ _ _ h=>h) (Or.inr ⟨by rfl,rfl⟩) ?_ ?_
          rotate_left
          ·simp only [Act.put,pa_,pb_,pc_,i64_w,i32_w]
           rfl
          refine pure_ (i:=5) (N:=some 50) (v:=undef) (a':=?_) #[true,true,true,true,true,true,false,false,false,false,false,false,false,false,false] rfl rfl (any_of HT_.out (by kernel_rfl)) (fun _ _ _ h=>h) (Or.inr ⟨by rfl,rfl⟩) ?_ ?_
          rotate_left
          ·simp only [Act.put,pa_,pb_,pc_,i64_w,i32_w]
           rfl
          refine pure_ (i:=6) (N:=some 51) (v:=undef) (a':=?_) #[true,true,true,true,true,true,true,false,false,false,false,false,false,false,false] rfl rfl (any_of HT_.out (by kernel_rfl)) (fun _ _ _ h=>h) (Or.inr ⟨by rfl,rfl⟩) ?_ ?_
          rotate_left
          ·simp only [Act.put,pa_,pb_,pc_,i64_w,i32_w]
           rfl
          refine pure_ (i:=7) (N:=some 52) (v:=undef) (a':=?_) #[true,true,true,true,true,true,true,true,false,false,false,false,false,false,false] rfl rfl (any_of HT_.out (by kernel_rfl)) (fun _ _ _ h=>h) (Or.inr ⟨by rfl,rfl⟩) ?_ ?_
          rotate_left
          ·simp only [Act.put,pa_,pb_,pc_,i64_w,i32_w]
           rfl
          refine pure_ (i:=8) (N:=some 53) (v:=undef) (a':=?_) #[true,true,true,true,true,true,true,true,true,false,false,false,false,false,false] rfl rfl (any_of HT_.out (by kernel_rfl)) (fun _ _ _ h=>h) (Or.inr ⟨by rfl,rfl⟩) ?_ ?_
          rotate_left
          ·simp only [Act.put,pa_,pb_,pc_,i64_w,i32_w]
           rfl
          refine pure_ (i:=9) (N:=some 54) (v:=undef) (a':=?_) #[true,true,true,true,true,true,true,true,true,true,false,false,false,false,false] rfl rfl (any_of HT_.out (by kernel_rfl)) (fun _ _ _ h=>h) (Or.inr ⟨by rfl,rfl⟩) ?_ ?_
          rotate_left
          ·simp only [Act.put,pa_,pb_,pc_,i64_w,i32_w]
           rfl
          refine pure_ (i:=10) (N:=some 55) (v:=undef) (a':=?_) #[true,true,true,true,true,true,true,true,true,true,true,false,false,false,false] rfl rfl (any_of HT_.out (by kernel_rfl)) (fun _ _ _ h=>h) (Or.inr ⟨by rfl,rfl⟩) ?_ ?_
          rotate_left
          ·simp only [Act.put,pa_,pb_,pc_,i64_w,i32_w]
           rfl
          refine pure_ (i:=11) (N:=some 56) (v:=undef) (a':=?_) #[true,true,true,true,true,true,true,true,true,true,true,true,false,false,false] rfl rfl (any_of HT_.out (by kernel_rfl)) (fun _ _ _ h=>h) (Or.inr ⟨by rfl,rfl⟩) ?_ ?_
          rotate_left
          ·simp only [Act.put,pa_,pb_,pc_,i64_w,i32_w]
           rfl
          refine pure_ (i:=12) (N:=some 57) (v:=undef) (a':=?_) #[true,true,true,true,true,true,true,true,true,true,true,true,true,false,false] rfl rfl (any_of HT_.out (by kernel_rfl)) (fun _ _ _ h=>h) (Or.inr ⟨by rfl,rfl⟩) ?_ ?_
          rotate_left
          ·simp only [Act.put,pa_,pb_,pc_,i64_w,i32_w]
           rfl
          refine pure_ (i:=13) (N:=some 58) (v:=undef) (a':=?_) #[true,true,true,true,true,true,true,true,true,true,true,true,true,true,false] rfl rfl (any_of HT_.out (by kernel_rfl)) (fun _ _ _ h=>h) (Or.inr ⟨by rfl,rfl⟩) ?_ ?_
          rotate_left
          ·simp only [Act.put,pa_,pb_,pc_,i64_w,i32_w]
           rfl
          refine pure_ (i:=14) (N:=some 59) (v:=?_) (a':=?_) #[true,true,true,true,true,true,true,true,true,true,true,true,true,true,true] rfl rfl (any_of HT_.out (by kernel_rfl)) (fun _ _ _ h=>h) (Or.inl ⟨by rfl,?_⟩) ?_ ?_
          rotate_left
          ·intro w'
           go_simp
           with_reducible rfl
          rotate_left
          ·simp only [Act.put,pa_,pb_,pc_,i64_w,i32_w]
           rfl
          refine done_ (done_of HT_.out (by kernel_rfl)) ?_
          try go_wp2
          go_meet
          case rel=>exact ⟨_,(true),(by first|rfl|(simp;done)|(simp [*];done)),H',⟨by have:=HJ2.out;have:=HK2.out;first|omega|exact Nat.le_refl _⟩,⟨bk_ BK246⟩,⟨bl_ HB⟩⟩
         ·rw [if_neg c17] at H
          have c17b0:decide (16384<(wrap64 (x5_2+(((rd_T50 l0_1 x6_2).f0).length:Int))))=false:=decide_eq_false c17
          clear c17
          (first|rw [c17b0]|(simp only [i64_w,i32_w];rw [c17b0])|skip)
          replace H:=Option.bind_eq_some_iff.mp H
          obtain ⟨t249,A190,H⟩:=H
          replace H:(swageref14_Right.j2 k2 a1 (wrap64 (x5_2+(((rd_T50 l0_1 x6_2).f0).length:Int))) x6_2 (!t249) a0_0 l0_1)=some r:=H
          have A19:=ak_ A190
          clear A190
          have H':=ak_ H
          clear H
          try go_wp2
          have n0_:=ak_ (blk_drew BK246.out)
          have n1_:=ak_ (below_drew1 HB.out)
          clear BK246
          clear HB
          have BK246:=n0_
          have HB:=n1_
          clear n0_ n1_
          have p248:0≤(x6_2:Int):=of_decide_eq_true (by first|(with_reducible assumption)|assumption)
          have q248:x6_2<(l0_1.length:Int):=of_decide_eq_true (by first|(with_reducible assumption)|assumption)
          obtain ⟨ad248,A248_0,c248_0,e248,hx248_0,hx248_1,hx248_2,hx248_3,hx248_4,hl248_0,hi248_0⟩:=at_T50 HR0_1.out x6_2 p248 q248
          have hw248_4:=hx248_4
          have hw248_3:=hx248_3
          have hw248_2:=hx248_2
          have hw248_1:=hx248_1
          have hw248_0:=hx248_0
          obtain rfl:ad247=ad248:=(by injection e248)
          replace hx248_0:=cl_ HB hx248_0
          replace hx248_1:=cl_ HB hx248_1
          replace hx248_2:=cl_ HB hx248_2
          replace hx248_3:=cl_ HB hx248_3
          replace hx248_4:=cl_ HB hx248_4
          have HR248_0:=ak_ hi248_0
          have HC248_0:=ak_ hl248_0
          clear hi248_0 hl248_0
          replace p248:=eq_true p248
          replace q248:=eq_true q248
          refine start_ (n:=15) (S:=fun w'=>w'.cell? ⟨gb246,0,none⟩=some (.int .i64 a0_0)∧w'.cell? ⟨gb246,1,none⟩=some (.slice (some ad247) l0_1.length c0_1)∧w'.cell? (ad247.add ((x6_2).toNat*5))=some (.slice A248_0 ((rd_T50 l0_1 x6_2).f0).length c248_0)∧w'.cell? ⟨(ad247.add ((x6_2).toNat*5)).block,(ad247.add ((x6_2).toNat*5)).off+1,none⟩=some (.int .i64 ((rd_T50 l0_1 x6_2).f1.f0))∧w'.cell? ⟨(ad247.add ((x6_2).toNat*5)).block,(ad247.add ((x6_2).toNat*5)).off+2,none⟩=some (.int .i64 ((rd_T50 l0_1 x6_2).f1.f1))∧w'.cell? ⟨(ad247.add ((x6_2).toNat*5)).block,(ad247.add ((x6_2).toNat*5)).off+3,none⟩=some (.int .i64 ((rd_T50 l0_1 x6_2).f1.f2))∧w'.cell? ⟨(ad247.add ((x6_2).toNat*5)).block,(ad247.add ((x6_2).toNat*5)).off+4,none⟩=some (.int .i64 ((rd_T50 l0_1 x6_2).f1.f3))) (ds:=[]) #[false,false,false,false,false,false,false,false,false,false,false,false,false,false,false] (by kernel_rfl) rfl rfl ⟨ck_ BK246 0,ck_ BK246 1,(cl_ HB hw248_0),(cl_ HB hw248_1),(cl_ HB hw248_2),(cl_ HB hw248_3),(cl_ HB hw248_4)⟩ (fun hHeld=>?_);refine with_tabW swageref14_Right.tab8 swageref14_Right.bits8 (fun HT_ HW_=>?_)
          generalize wr.drew=w20 at BK246 HB HR248_0 hx248_0 hx248_1 hx248_2 hx248_3 hx248_4 hHeld ⊢
          refine pure_ (i:=0) (N:=some 45) (v:=?_) (a':=?_) #[true,false,false,false,false,false,false,false,false,false,false,false,false,false,false] rfl rfl (any_of HT_.out (by kernel_rfl)) (fun _ _ _ h=>h) (Or.inl ⟨by rfl,?_⟩) ?_ ?_
          rotate_left
          ·intro w'
           go_simp
           with_reducible rfl
          rotate_left
          ·simp only [Act.put,pa_,pb_,pc_,i64_w,i32_w]
           rfl
          refine pure_ (i:=1) (N:=some 46) (v:=?_) (a':=?_) #[true,true,false,false,false,false,false,false,false,false,false,false,false,false,false] rfl rfl (any_of HT_.out (by kernel_rfl)) (fun _ _ _ h=>h) (Or.inl ⟨by rfl,?_⟩) ?_ ?_
          rotate_left
          ·intro w'
           go_simp
           with_reducible rfl
          rotate_left
          ·simp only [Act.put,pa_,pb_,pc_,i64_w,i32_w]
           rfl
          refine pure_ (i:=2) (N:=some 47) (v:=?_) (a':=?_) #[true,true,true,false,false,false,false,false,false,false,false,false,false,false,false] rfl rfl (any_of HT_.out (by kernel_rfl)) (fun _ _ _ h=>h) (Or.inl ⟨by rfl,?_⟩) ?_ ?_
          rotate_left
          ·intro w'
           go_simp
           with_reducible rfl
          rotate_left
          ·simp only [Act.put,pa_,pb_,pc_,i64_w,i32_w]
           rfl
          refine pure_ (i:=3) (N:=some 48) (v:=?_) (a':=?_) #[true,true,true,true,false,false,false,false,false,false,false,false,false,false,false] rfl rfl (any_of HT_.out (by kernel_rfl)) (fun _ _ _ h=>h) (Or.inl ⟨by rfl,?_⟩) ?_ ?_
          rotate_left
          ·intro w'
           go_simp
           with_reducible rfl
          rotate_left
          ·simp only [Act.put,pa_,pb_,pc_,i64_w,i32_w]
           rfl
          refine pure_ (i:=5) (N:=some 50) (v:=?_) (a':=?_) #[true,true,true,true,false,true,false,false,false,false,false,false,false,false,false] rfl rfl (any_of HT_.out (by kernel_rfl)) (fun _ _ _ h=>h) (Or.inl ⟨by rfl,?_⟩) ?_ ?_
          rotate_left
          ·intro w'
           go_simp
           with_reducible rfl
          rotate_left
          ·simp only [Act.put,pa_,pb_,pc_,i64_w,i32_w]
           rfl
          refine pure_ (i:=9) (N:=some 54) (v:=?_) (a':=?_) #[true,true,true,true,false,true,false,false,false,true,false,false,false,false,false] rfl rfl (any_of HT_.out (by kernel_rfl)) (fun _ _ _ h=>h) (Or.inl ⟨by rfl,?_⟩) ?_ ?_
          rotate_left
          ·intro w'
           go_simp
           with_reducible rfl
          rotate_left
          ·simp only [Act.put,pa_,pb_,pc_,i64_w,i32_w]
           rfl
          refine take_ (i:=4) (N:=some 49) (v:=?_) (a':=?_) #[true,true,true,true,true,true,false,false,false,true,false,false,false,false,false] rfl rfl (take_ofW HT_.out HW_.out (by kernel_rfl)) (fun _ _ _ h=>h) (Or.inl ⟨by rfl,?_⟩) hHeld ?_ ?_
          rotate_left
          ·rintro w' ⟨s0,s1,s2,s3,s4,s5,s6⟩
           go_simp
           with_reducible rfl
          rotate_left
          ·simp only [Act.put,pa_,pb_,pc_,i64_w,i32_w]
           rfl
          refine pure_ (i:=6) (N:=some 51) (v:=?_) (a':=?_) #[true,true,true,true,true,true,true,false,false,true,false,false,false,false,false] rfl rfl (any_of HT_.out (by kernel_rfl)) (fun _ _ _ h=>h) (Or.inl ⟨by rfl,?_⟩) ?_ ?_
          rotate_left
          ·intro w'
           go_simp
           with_reducible rfl
          rotate_left
          ·simp only [Act.put,pa_,pb_,pc_,i64_w,i32_w]
           rfl
          refine pure_ (i:=7) (N:=some 52) (v:=?_) (a':=?_) #[true,true,true,true,true,true,true,true,false,true,false,false,false,false,false] rfl rfl (any_of HT_.out (by kernel_rfl)) (fun _ _ _ h=>h) (Or.inl ⟨by rfl,?_⟩) ?_ ?_
          rotate_left
          ·intro w'
           go_simp
           with_reducible rfl
          rotate_left
          ·simp only [Act.put,pa_,pb_,pc_,i64_w,i32_w]
           rfl
          refine take_ (i:=8) (N:=some 53) (v:=?_) (a':=?_) #[true,true,true,true,true,true,true,true,true,true,false,false,false,false,false] rfl rfl (take_ofW HT_.out HW_.out (by kernel_rfl)) (fun _ _ _ h=>h) (Or.inl ⟨by rfl,?_⟩) hHeld ?_ ?_
          rotate_left
          ·rintro w' ⟨s0,s1,s2,s3,s4,s5,s6⟩
           go_simp
           with_reducible rfl
          rotate_left
          ·simp only [Act.put,pa_,pb_,pc_,i64_w,i32_w]
           rfl
          refine take_ (i:=10) (N:=some 55) (v:=?_) (a':=?_) #[true,true,true,true,true,true,true,true,true,true,true,false,false,false,false] rfl rfl (take_ofW HT_.out HW_.out (by kernel_rfl)) (fun _ _ _ h=>h) (Or.inl ⟨by rfl,?_⟩) hHeld ?_ ?_
          rotate_left
          ·rintro w' ⟨s0,s1,s2,s3,s4,s5,s6⟩
           go_simp
           with_reducible rfl
          rotate_left
          ·simp only [Act.put,pa_,pb_,pc_,i64_w,i32_w]
           rfl
          refine pure_ (i:=11) (N:=some 56) (v:=?_) (a':=?_) #[true,true,true,true,true,true,true,true,true,true,true,true,false,false,false] rfl rfl (any_of HT_.out (by kernel_rfl)) (fun _ _ _ h=>h) (Or.inl ⟨by rfl,?_⟩) ?_ ?_
          rotate_left
          ·intro w'
           go_simp
           with_reducible rfl
          rotate_left
          ·simp only [Act.put,pa_,pb_,pc_,i64_w,i32_w]
           rfl
          refine one_ (i:=12) (N:=some 57) #[true,true,true,true,true,true,true,true,true,true,true,true,true,false,false] rfl rfl (one_of HT_.out (by kernel_rfl)) (by decide) (fun K hK=>?_)
          refine goes_ Tryz.func77 (by kernel_rfl) rfl #[.agg #[.int .i64 ((rd_T50 l0_1 x6_2).f1.f0),.int .i64 ((rd_T50 l0_1 x6_2).f1.f1),.int .i64 ((rd_T50 l0_1 x6_2).f1.f2),.int .i64 ((rd_T50 l0_1 x6_2).f1.f3)],.int .i64 (l0_1.length:Int)] (by rfl) rfl rfl (by (try simp only [List.map_toArray,List.map_cons,List.map_nil]);first|done|rfl|(simp only [List.length_drop,List.length_take];rfl)) ?_
          with_reducible refine (swageref14_rightTerm.calls k2 ((rd_T50 l0_1 x6_2).f1.f0) ((rd_T50 l0_1 x6_2).f1.f1) ((rd_T50 l0_1 x6_2).f1.f2) ((rd_T50 l0_1 x6_2).f1.f3) (l0_1.length:Int) t249 _ A19.out).mono ?_
          rintro e w21 ⟨rfl,hb⟩
          refine ⟨_,rfl,?_⟩
          have n0_:=ak_ (blk_below (g:=gb246) (o:=.cells #[.int .i64 a0_0,.slice (some ad247) l0_1.length c0_1] 24 (0,0)) (bk_ BK246) hb)
          have n1_:=ak_ (below_step (bl_ HB) hb)
          clear BK246
          clear HB
          have BK246:=n0_
          have HB:=n1_
          clear n0_ n1_
          (try clear hb)
          (try clear hb2)
          (try clear hk)
          (try clear hi)
          refine hK.out _ _ ⟨ck_ BK246 0,ck_ BK246 1,(cl_ HB hw248_0),(cl_ HB hw248_1),(cl_ HB hw248_2),(cl_ HB hw248_3),(cl_ HB hw248_4)⟩ (fun hHeld=>?_)
          clear hK K
          refine norm_ (a':=?_) ?_ ?_
          rotate_left
          ·show Act.put _ (some 57) _=_
           simp only [Act.put,pa_,pb_,pc_,i64_w,i32_w]
           rfl
          refine pure_ (i:=13) (N:=some 58) (v:=?_) (a':=?_) #[true,true,true,true,true,true,true,true,true,true,true,true,true,true,false] rfl rfl (any_of HT_.out (by kernel_rfl)) (fun _ _ _ h=>h) (Or.inl ⟨by rfl,?_⟩) ?_ ?_
          rotate_left
          ·intro w'
           go_simp
           with_reducible rfl
          rotate_left
          ·simp only [Act.put,pa_,pb_,pc_,i64_w,i32_w]
           rfl
          refine pure_ (i:=14) (N:=some 59) (v:=?_) (a':=?_) #[true,true,true,true,true,true,true,true,true,true,true,true,true,true,true] rfl rfl (any_of HT_.out (by kernel_rfl)) (fun _ _ _ h=>h) (Or.inl ⟨by rfl,?_⟩) ?_ ?_
          rotate_left
          ·intro w'
           go_simp
           with_reducible rfl
          rotate_left
          ·simp only [Act.put,pa_,pb_,pc_,i64_w,i32_w]
           rfl
          refine done_ (done_of HT_.out (by kernel_rfl)) ?_
          try go_wp2
          go_meet
          case rel=>exact ⟨_,(!t249),(by first|rfl|(simp;done)|(simp [*];done)),H',⟨by have:=HJ2.out;have:=HK2.out;first|omega|exact Nat.le_refl _⟩,⟨bk_ BK246⟩,⟨bl_ HB⟩⟩
        case rest =>
         clear HC15
         obtain ⟨kq,x59_14,rfl,HA,HJ14,BK246,HB⟩:=hcut
         cases kq with
         | zero=>exact absurd HA.out (by simp [swageref14_Right.j2])
         | succ kj14 =>
          have H:=HA.out
          clear HA
          simp only [swageref14_Right.j2] at H
          by_cases c22:x59_14=true
          ·subst c22
           have H1:(some false)=some r:=by rw [if_pos rfl] at H;exact H
           clear H
           have H:=H1
           clear H1
           obtain rfl:=Option.some.inj H
           go_wp2
           go_ret
           exact ⟨by first|rfl|(simp [errW_none,errW_some]<;>rfl)|(simp [*,errW_none,errW_some]<;>rfl),bl_ HB⟩
          ·replace c22:=Bool.eq_false_iff.mpr c22
           subst c22
           have H1:(swageref14_Right.l1 kj14 a1 (wrap64 (x5_2+(((rd_T50 l0_1 x6_2).f0).length:Int))) x6_2 0 a0_0 l0_1)=some r:=by rw [if_neg (show ¬ (false=true) by decide)] at H;exact H
           clear H
           have H:=H1
           clear H1
           have H':=ak_ H
           clear H
           go_wp2
           go_loopg [7] kj14 (fun kq v7 w'=>∃ (x7_4:Int),v7=.int .i64 x7_4∧Aside0 (swageref14_Right.l1 kq a1 (wrap64 (x5_2+(((rd_T50 l0_1 x6_2).f0).length:Int))) x6_2 x7_4 a0_0 l0_1=some r)∧Aside0 (kq≤kj14)∧Aside0 (w'.heap[gb246]?=some (.cells #[.int .i64 a0_0,(.slice (some ad247) l0_1.length c0_1)] 24 (0,0)))∧Aside0 (Below w.heap.size w w'))
           case atStart=>exact ⟨(0),(by first|rfl|(simp;done)|(simp [*];done)),H',⟨Nat.le_refl _⟩,⟨bk_ BK246⟩,⟨bl_ HB⟩⟩
           case round =>
            clear H'
            obtain ⟨x7_4,rfl,HA,HK4,BK246,HB⟩:=hrel
            cases gk with
            | zero=>exact absurd HA.out (by simp [swageref14_Right.l1])
            | succ k4 =>
             have H:=HA.out
             clear HA
             simp only [swageref14_Right.l1] at H
             by_cases c23:0≤x6_2
             ·rw [if_pos c23] at H
              have c23b0:decide (0≤x6_2)=true:=decide_eq_true c23
              clear c23
              by_cases c24:x6_2<(l0_1.length:Int)
              ·rw [if_pos c24] at H
               have c24b0:decide (x6_2<(l0_1.length:Int))=true:=decide_eq_true c24
               clear c24
               by_cases c25:x7_4<(((rd_T50 l0_1 x6_2).f0).length:Int)
               ·rw [if_pos c25] at H
                have c25b0:decide (x7_4<(((rd_T50 l0_1 x6_2).f0).length:Int))=true:=decide_eq_true c25
                clear c25
                by_cases c26:0≤x7_4
                ·rw [if_pos c26] at H
                 have c26b0:decide (0≤x7_4)=true:=decide_eq_true c26
                 clear c26
                 replace H:=Option.bind_eq_some_iff.mp H
                 obtain ⟨t253,A270,H⟩:=H
                 replace H:(if t253=true then (swageref14_Right.l1 k4 a1 (wrap64 (x5_2+(((rd_T50 l0_1 x6_2).f0).length:Int))) x6_2 (wrap64 (x7_4+1)) a0_0 l0_1) else (some false))=some r:=H
                 have A27:=ak_ A270
                 clear A270
                 by_cases c28:t253=true
                 ·subst c28
                  have H1:(swageref14_Right.l1 k4 a1 (wrap64 (x5_2+(((rd_T50 l0_1 x6_2).f0).length:Int))) x6_2 (wrap64 (x7_4+1)) a0_0 l0_1)=some r:=by rw [if_pos rfl] at H;exact H
                  clear H
                  have H:=H1
                  clear H1
                  have H':=ak_ H
                  clear H
                  have hcz29_0:=ck_ BK246 0
                  have hcz29_1:=ck_ BK246 1
                  have hfz29_0:=fz_ BK246 0
                  have hfz29_1:=fz_ BK246 1
                  have p250:0≤(x6_2:Int):=of_decide_eq_true (by first|(with_reducible assumption)|assumption)
                  have q250:x6_2<(l0_1.length:Int):=of_decide_eq_true (by first|(with_reducible assumption)|assumption)
                  obtain ⟨ad250,A250_0,c250_0,e250,hx250_0,hx250_1,hx250_2,hx250_3,hx250_4,hl250_0,hi250_0⟩:=at_T50 HR0_1.out x6_2 p250 q250
                  obtain rfl:ad247=ad250:=(by injection e250)
                  replace hx250_0:=cl_ HB hx250_0
                  replace hx250_1:=cl_ HB hx250_1
                  replace hx250_2:=cl_ HB hx250_2
                  replace hx250_3:=cl_ HB hx250_3
                  replace hx250_4:=cl_ HB hx250_4
                  have HR250_0:=ak_ hi250_0
                  have HC250_0:=ak_ hl250_0
                  clear hi250_0 hl250_0
                  replace p250:=eq_true p250
                  replace q250:=eq_true q250
                  have p251:0≤(x6_2:Int):=of_decide_eq_true (by first|(with_reducible assumption)|assumption)
                  have q251:x6_2<(l0_1.length:Int):=of_decide_eq_true (by first|(with_reducible assumption)|assumption)
                  obtain ⟨ad251,A251_0,c251_0,e251,hx251_0,hx251_1,hx251_2,hx251_3,hx251_4,hl251_0,hi251_0⟩:=at_T50 HR0_1.out x6_2 p251 q251
                  obtain rfl:ad247=ad251:=(by injection e251)
                  replace hx251_0:=cl_ HB hx251_0
                  replace hx251_1:=cl_ HB hx251_1
                  replace hx251_2:=cl_ HB hx251_2
                  replace hx251_3:=cl_ HB hx251_3
                  replace hx251_4:=cl_ HB hx251_4
                  have HR251_0:=ak_ hi251_0
                  have HC251_0:=ak_ hl251_0
                  clear hi251_0 hl251_0
                  replace p251:=eq_true p251
                  replace q251:=eq_true q251
                  have ea_:=Option.some.inj (hx250_0.symm.trans hx251_0)
                  injection ea_ with ea_ en_ ec_
                  subst ea_
                  subst ec_
                  clear en_
                  have p252:0≤(x7_4:Int):=of_decide_eq_true (by first|(with_reducible assumption)|assumption)
                  have q252:x7_4<(((rd_T50 l0_1 x6_2).f0).length:Int):=of_decide_eq_true (by first|(with_reducible assumption)|assumption)
                  obtain ⟨ad252,A252_5,c252_5,e252,hx252_0,hx252_1,hx252_2,hx252_3,hx252_4,hx252_5,hl252_5,hi252_5⟩:=at_T45 HR251_0.out x7_4 p252 q252
                  cases e252
                  replace hx252_0:=cl_ HB hx252_0
                  replace hx252_1:=cl_ HB hx252_1
                  replace hx252_2:=cl_ HB hx252_2
                  replace hx252_3:=cl_ HB hx252_3
                  replace hx252_4:=cl_ HB hx252_4
                  replace hx252_5:=cl_ HB hx252_5
                  have HR252_5:=ak_ hi252_5
                  have HC252_5:=ak_ hl252_5
                  clear hi252_5 hl252_5
                  replace p252:=eq_true p252
                  replace q252:=eq_true q252
                  go_wp2_with (first|((with_reducible refine gate_callee (f:=78) rfl ?_);refine goesL_ (some 81) rfl rfl Tryz.func78 (by kernel_rfl) rfl #[.agg #[.int .i64 ((rd_T45 ((rd_T50 l0_1 x6_2).f0) x7_4).f0),.int .i64 ((rd_T45 ((rd_T50 l0_1 x6_2).f0) x7_4).f1),.int .i64 ((rd_T45 ((rd_T50 l0_1 x6_2).f0) x7_4).f2),.int .i64 ((rd_T45 ((rd_T50 l0_1 x6_2).f0) x7_4).f3),.int .i64 ((rd_T45 ((rd_T50 l0_1 x6_2).f0) x7_4).f4),.slice A252_5 ((rd_T45 ((rd_T50 l0_1 x6_2).f0) x7_4).f5).length c252_5],.int .i64 a1] rfl (by (try simp only [List.map_toArray,List.map_cons,List.map_nil]);first|done|rfl|(simp only [List.length_drop,List.length_take];rfl)) ?_;(with_reducible refine (swageref14_RightOp.calls k4 ((rd_T45 ((rd_T50 l0_1 x6_2).f0) x7_4).f0) ((rd_T45 ((rd_T50 l0_1 x6_2).f0) x7_4).f1) ((rd_T45 ((rd_T50 l0_1 x6_2).f0) x7_4).f2) ((rd_T45 ((rd_T50 l0_1 x6_2).f0) x7_4).f3) ((rd_T45 ((rd_T50 l0_1 x6_2).f0) x7_4).f4) _ _ ((rd_T45 ((rd_T50 l0_1 x6_2).f0) x7_4).f5) a1 true _ ?side1 ?side2 A27.out).mono ?_);(case side1=>repeat (first|exact (Kd.C_below HR252_5.out HB.out)|(with_reducible refine Kd.C_alloc ?_ _)|(with_reducible refine Kd.C_drewN ?_ _)|(with_reducible refine Kd.C_drew ?_)));(case side2=>exact HC252_5.out);rintro e w30 ⟨rfl,hb⟩;refine ⟨_,rfl,?_⟩;have n0_:=ak_ (blk_below (g:=gb246) (o:=.cells #[.int .i64 a0_0,.slice (some ad247) l0_1.length c0_1] 24 (0,0)) (bk_ BK246) hb);have n1_:=ak_ (below_step (bl_ HB) hb);clear BK246;clear HB;have BK246:=n0_;have HB:=n1_;clear n0_ n1_;(try clear hb);(try clear hb2);(try clear hk);(try clear hi)))
                  go_roundg k4
                  case measure=>have:=HJ2.out;have:=HK2.out;have:=HJ14.out;have:=HK4.out;omega
                  case rel=>exact ⟨(wrap64 (x7_4+1)),(by first|rfl|(simp;done)|(simp [*];done)),H',⟨by have:=HJ2.out;have:=HK2.out;have:=HJ14.out;have:=HK4.out;omega⟩,⟨bk_ BK246⟩,⟨bl_ HB⟩⟩
                 ·replace c28:=Bool.eq_false_iff.mpr c28
                  subst c28
                  have H1:(some false)=some r:=by rw [if_neg (show ¬ (false=true) by decide)] at H;exact H
                  clear H
                  have H:=H1
                  clear H1
                  obtain rfl:=Option.some.inj H
                  have hcz31_0:=ck_ BK246 0
                  have hcz31_1:=ck_ BK246 1
                  have hfz31_0:=fz_ BK246 0
                  have hfz31_1:=fz_ BK246 1
                  have p250:0≤(x6_2:Int):=of_decide_eq_true (by first|(with_reducible assumption)|assumption)
                  have q250:x6_2<(l0_1.length:Int):=of_decide_eq_true (by first|(with_reducible assumption)|assumption)
                  obtain ⟨ad250,A250_0,c250_0,e250,hx250_0,hx250_1,hx250_2,hx250_3,hx250_4,hl250_0,hi250_0⟩:=at_T50 HR0_1.out x6_2 p250 q250
                  obtain rfl:ad247=ad250:=(by injection e250)
                  replace hx250_0:=cl_ HB hx250_0
                  replace hx250_1:=cl_ HB hx250_1
                  replace hx250_2:=cl_ HB hx250_2
                  replace hx250_3:=cl_ HB hx250_3
                  replace hx250_4:=cl_ HB hx250_4
                  have HR250_0:=ak_ hi250_0
                  have HC250_0:=ak_ hl250_0
                  clear hi250_0 hl250_0
                  replace p250:=eq_true p250
                  replace q250:=eq_true q250
                  have p251:0≤(x6_2:Int):=of_decide_eq_true (by first|(with_reducible assumption)|assumption)
                  have q251:x6_2<(l0_1.length:Int):=of_decide_eq_true (by first|(with_reducible assumption)|assumption)
                  obtain ⟨ad251,A251_0,c251_0,e251,hx251_0,hx251_1,hx251_2,hx251_3,hx251_4,hl251_0,hi251_0⟩:=at_T50 HR0_1.out x6_2 p251 q251
                  obtain rfl:ad247=ad251:=(by injection e251)
                  replace hx251_0:=cl_ HB hx251_0
                  replace hx251_1:=cl_ HB hx251_1
                  replace hx251_2:=cl_ HB hx251_2
                  replace hx251_3:=cl_ HB hx251_3
                  replace hx251_4:=cl_ HB hx251_4
                  have HR251_0:=ak_ hi251_0
                  have HC251_0:=ak_ hl251_0
                  clear hi251_0 hl251_0
                  replace p251:=eq_true p251
                  replace q251:=eq_true q251
                  have ea_:=Option.some.inj (hx250_0.symm.trans hx251_0)
                  injection ea_ with ea_ en_ ec_
                  subst ea_
                  subst ec_
                  clear en_
                  have p252:0≤(x7_4:Int):=of_decide_eq_true (by first|(with_reducible assumption)|assumption)
                  have q252:x7_4<(((rd_T50 l0_1 x6_2).f0).length:Int):=of_decide_eq_true (by first|(with_reducible assumption)|assumption)
                  obtain ⟨ad252,A252_5,c252_5,e252,hx252_0,hx252_1,hx252_2,hx252_3,hx252_4,hx252_5,hl252_5,hi252_5⟩:=at_T45 HR251_0.out x7_4 p252 q252
                  cases e252
                  replace hx252_0:=cl_ HB hx252_0
                  replace hx252_1:=cl_ HB hx252_1
                  replace hx252_2:=cl_ HB hx252_2
                  replace hx252_3:=cl_ HB hx252_3
                  replace hx252_4:=cl_ HB hx252_4
                  replace hx252_5:=cl_ HB hx252_5
                  have HR252_5:=ak_ hi252_5
                  have HC252_5:=ak_ hl252_5
                  clear hi252_5 hl252_5
                  replace p252:=eq_true p252
                  replace q252:=eq_true q252
                  go_wp2_with (first|((with_reducible refine gate_callee (f:=78) rfl ?_);refine goesL_ (some 81) rfl rfl Tryz.func78 (by kernel_rfl) rfl #[.agg #[.int .i64 ((rd_T45 ((rd_T50 l0_1 x6_2).f0) x7_4).f0),.int .i64 ((rd_T45 ((rd_T50 l0_1 x6_2).f0) x7_4).f1),.int .i64 ((rd_T45 ((rd_T50 l0_1 x6_2).f0) x7_4).f2),.int .i64 ((rd_T45 ((rd_T50 l0_1 x6_2).f0) x7_4).f3),.int .i64 ((rd_T45 ((rd_T50 l0_1 x6_2).f0) x7_4).f4),.slice A252_5 ((rd_T45 ((rd_T50 l0_1 x6_2).f0) x7_4).f5).length c252_5],.int .i64 a1] rfl (by (try simp only [List.map_toArray,List.map_cons,List.map_nil]);first|done|rfl|(simp only [List.length_drop,List.length_take];rfl)) ?_;(with_reducible refine (swageref14_RightOp.calls k4 ((rd_T45 ((rd_T50 l0_1 x6_2).f0) x7_4).f0) ((rd_T45 ((rd_T50 l0_1 x6_2).f0) x7_4).f1) ((rd_T45 ((rd_T50 l0_1 x6_2).f0) x7_4).f2) ((rd_T45 ((rd_T50 l0_1 x6_2).f0) x7_4).f3) ((rd_T45 ((rd_T50 l0_1 x6_2).f0) x7_4).f4) _ _ ((rd_T45 ((rd_T50 l0_1 x6_2).f0) x7_4).f5) a1 false _ ?side1 ?side2 A27.out).mono ?_);(case side1=>repeat (first|exact (Kd.C_below HR252_5.out HB.out)|(with_reducible refine Kd.C_alloc ?_ _)|(with_reducible refine Kd.C_drewN ?_ _)|(with_reducible refine Kd.C_drew ?_)));(case side2=>exact HC252_5.out);rintro e w32 ⟨rfl,hb⟩;refine ⟨_,rfl,?_⟩;have n0_:=ak_ (blk_below (g:=gb246) (o:=.cells #[.int .i64 a0_0,.slice (some ad247) l0_1.length c0_1] 24 (0,0)) (bk_ BK246) hb);have n1_:=ak_ (below_step (bl_ HB) hb);clear BK246;clear HB;have BK246:=n0_;have HB:=n1_;clear n0_ n1_;(try clear hb);(try clear hb2);(try clear hk);(try clear hi)))
                  go_ret
                  exact ⟨by first|rfl|(simp [errW_none,errW_some]<;>rfl)|(simp [*,errW_none,errW_some]<;>rfl),bl_ HB⟩
                ·rw [if_neg c26] at H
                 exact absurd H (by simp)
               ·rw [if_neg c25] at H
                have c25b0:decide (x7_4<(((rd_T50 l0_1 x6_2).f0).length:Int))=false:=decide_eq_false c25
                clear c25
                have H':=ak_ H
                clear H
                have hcz33_0:=ck_ BK246 0
                have hcz33_1:=ck_ BK246 1
                have hfz33_0:=fz_ BK246 0
                have hfz33_1:=fz_ BK246 1
                have p250:0≤(x6_2:Int):=of_decide_eq_true (by first|(with_reducible assumption)|assumption)
                have q250:x6_2<(l0_1.length:Int):=of_decide_eq_true (by first|(with_reducible assumption)|assumption)
                obtain ⟨ad250,A250_0,c250_0,e250,hx250_0,hx250_1,hx250_2,hx250_3,hx250_4,hl250_0,hi250_0⟩:=at_T50 HR0_1.out x6_2 p250 q250
                obtain rfl:ad247=ad250:=(by injection e250)
                replace hx250_0:=cl_ HB hx250_0
                replace hx250_1:=cl_ HB hx250_1
                replace hx250_2:=cl_ HB hx250_2
                replace hx250_3:=cl_ HB hx250_3
                replace hx250_4:=cl_ HB hx250_4
                have HR250_0:=ak_ hi250_0
                have HC250_0:=ak_ hl250_0
                clear hi250_0 hl250_0
                replace p250:=eq_true p250
                replace q250:=eq_true q250
                go_wp2
                go_roundg k4
                case measure=>have:=HJ2.out;have:=HK2.out;have:=HJ14.out;have:=HK4.out;omega
                case rel=>exact ⟨((wrap64 (x5_2+(((rd_T50 l0_1 x6_2).f0).length:Int)))),(wrap64 (x6_2+1)),(by first|rfl|(simp;done)|(simp [*];done)),(by first|rfl|(simp;done)|(simp [*];done)),H',⟨by have:=HJ2.out;have:=HK2.out;have:=HJ14.out;have:=HK4.out;omega⟩,⟨bk_ BK246⟩,⟨bl_ HB⟩⟩
              ·rw [if_neg c24] at H
               exact absurd H (by simp)
             ·rw [if_neg c23] at H
              exact absurd H (by simp)
       ·rw [if_neg c14] at H
        exact absurd H (by simp)
      ·rw [if_neg c13] at H
       have c13b0:decide (x6_2<(l0_1.length:Int))=false:=decide_eq_false c13
       clear c13
       obtain rfl:=Option.some.inj H
       have hcz34_0:=ck_ BK246 0
       have hcz34_1:=ck_ BK246 1
       have hfz34_0:=fz_ BK246 0
       have hfz34_1:=fz_ BK246 1
       go_wp2
       go_ret
       exact ⟨by first|rfl|(simp [errW_none,errW_some]<;>rfl)|(simp [*,errW_none,errW_some]<;>rfl),bl_ HB⟩

