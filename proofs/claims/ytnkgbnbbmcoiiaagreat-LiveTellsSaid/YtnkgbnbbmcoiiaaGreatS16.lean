-- a text of the seat,by a program
import Derived.Test.YtnkgbnbbmcoiiaaGreatBk
import Derived.Test.YtnkgbnbbmcoiiaaGreatS0
import Derived.Test.YtnkgbnbbmcoiiaaGreatS11
import Derived.Test.YtnkgbnbbmcoiiaaGreatOo17
namespace Go.Proofs.YtnkgbnbbmcoiiaaGreat.S
open Go.RowKit Go.Proofs.YtnkgbnbbmcoiiaaGreatW.PrintWords Go.Proofs.YtnkgbnbbmcoiiaaGreatW.PrintLast Go.Proofs.YtnkgbnbbmcoiiaaGreatW.PrintMore
attribute [local go_sem] max2_int min2_int max_two min_two max_three min_three max_four min_four   -- for this text's walks alone
set_option linter.unusedVariables false
set_option linter.unusedSimpArgs false

/-! ### swageref17_Most: function 28 -/
mutual
noncomputable def swageref17_Most.l0:Nat→Bool→Int→Int→Int→List (S50)→Option (Int)
 | 0,_,_,_,_,_=>none
 | k+1,x3,x4,x5,x374000,x374001=>if x5<(x374001.length:Int) then (swageref17_Most.j1 k x3 x4 x5 x3 x374000 x374001) else (swageref17_Most.j1 k x3 x4 x5 false x374000 x374001)
noncomputable def swageref17_Most.j1:Nat→Bool→Int→Int→Bool→Int→List (S50)→Option (Int)
 | 0,_,_,_,_,_,_=>none
 | k+1,x3,x4,x5,x16,x374000,x374001=>if x16=true then (swageref17_Most.l1 k x3 x4 x5 0 x374000 x374001) else (some x4)
noncomputable def swageref17_Most.l1:Nat→Bool→Int→Int→Int→Int→List (S50)→Option (Int)
 | 0,_,_,_,_,_,_=>none
 | k+1,x3,x4,x5,x6,x374000,x374001=>if 0≤x5 then (if x5<(x374001.length:Int) then (if x6≤(((rd_T50 x374001 x5).f0).length:Int) then ((swageref17_at.f x374000 x374001 x5 x6).bind fun t376=>(swageref17_Most.l1 k x3 (mx x4 (t376.length:Int)) x5 (wrap64 (x6+1)) x374000 x374001)) else (swageref17_Most.l0 k x3 x4 (wrap64 (x5+1)) x374000 x374001)) else (none)) else (none)
end
noncomputable def swageref17_Most.f (k:Nat) (a0_0:Int) (l0_1:List (S50)):Option (Int):=(swageref14_Right.f k a0_0 l0_1 256).bind fun t374=>(swageref17_Most.l0 k t374 0 0 a0_0 l0_1)
set_option maxHeartbeats 8000000 in
set_option maxRecDepth 100000 in
theorem swageref17_Most.calls (k:Nat) (a0_0:Int) (A0_1:Option Addr) (c0_1:Nat) (l0_1:List (S50)) (r:Int) (w:World) (hr0_1:Kd.C k50 w A0_1 l0_1.length l0_1) (hc0_1:l0_1.length≤c0_1) (h:swageref17_Most.f k a0_0 l0_1=some r) :
  Calls Tryz.prog 28 #[.agg #[.int .i64 a0_0,.slice A0_1 l0_1.length c0_1]] w fun e w'=>e=.returned (.int .i64 r)∧Below w.heap.size w w':=by
 have hu24:=Tryz.underlying24
 have HR0_1:=Aside0.mk hr0_1
 have HC0_1:=Aside0.mk hc0_1
 clear hr0_1 hc0_1
 have HB:=Aside0.mk (Below.refl w.heap.size w)
 have H:((swageref14_Right.f k a0_0 l0_1 256).bind fun t374=>(swageref17_Most.l0 k t374 0 0 a0_0 l0_1))=some r:=h
 clear h
 replace H:=Option.bind_eq_some_iff.mp H
 obtain ⟨t374,A20,H⟩:=H
 replace H:(swageref17_Most.l0 k t374 0 0 a0_0 l0_1)=some r:=H
 have A2:=Aside0.mk A20
 clear A20
 have H':=Aside0.mk H
 clear H
 go_enter Tryz.func28,Tryz.ntmps28
 go_wp2_with (first|((with_reducible refine gate_dst (N:=1) rfl ?_);refine box_event ?hg (N:=1) ?hd (cs:=#[.int .i64 a0_0,.slice A0_1 l0_1.length c0_1]) (t:=24) ?hr ?_;(case hd=>rfl);(case hg=>rfl);(case hr=>first|(go_simp;done)|(go_simp;rfl));intro gb373 hg w3 hbox hb;have n0_:=Aside0.mk (below_step (bl_ HB) hb);have n1_:=Aside0.mk (hbox);have n2_:=Aside0.mk ((by rw [hg];exact (below_size (bl_ HB)):w.heap.size≤gb373));have n3_:=Aside0.mk ((by rw [hg];exact (below_size (bl_ HB)):w.heap.size≤gb373));clear HB;have HB:=n0_;have BK373:=n1_;have GW373:=n2_;have GE373:=n3_;clear n0_ n1_ n2_ n3_;clear hb hbox hg;have hcz4_0:=ck_ BK373 0;have hcz4_1:=ck_ BK373 1;have hfz4_0:=blk_frozen BK373.out 0;have hfz4_1:=blk_frozen BK373.out 1)|((with_reducible refine gate_callee (f:=46) rfl ?_);refine goesL_ (some 8) rfl rfl Tryz.func46 (by kernel_rfl) rfl #[.agg #[.int .i64 a0_0,.slice A0_1 l0_1.length c0_1],.int .i64 256] rfl (by (try simp only [List.map_toArray,List.map_cons,List.map_nil]);first|done|rfl|(simp only [List.length_drop,List.length_take];rfl)) ?_;(with_reducible refine (swageref14_Right.calls k a0_0 _ _ l0_1 256 t374 _ ?side1 ?side2 A2.out).mono ?_);(case side1=>repeat (first|exact (Kd.C_below HR0_1.out HB.out)|(with_reducible refine Kd.C_alloc ?_ _)|(with_reducible refine Kd.C_drewN ?_ _)|(with_reducible refine Kd.C_drew ?_)));(case side2=>exact HC0_1.out);rintro e w5 ⟨rfl,hb⟩;refine ⟨_,rfl,?_⟩;have n0_:=Aside0.mk (blk_below (g:=gb373) (o:=.cells #[.int .i64 a0_0,.slice A0_1 l0_1.length c0_1] 24 (0,0)) (bk_ BK373) hb);have n1_:=Aside0.mk (below_step (bl_ HB) hb);clear BK373;clear HB;have BK373:=n0_;have HB:=n1_;clear n0_ n1_;(try clear hb);(try clear hb2);(try clear hk);(try clear hi)))
 go_loopg [4,5] k (fun kq v4 v5 w'=>∃ (x4_1:Int) (x5_1:Int),v4=.int .i64 x4_1∧v5=.int .i64 x5_1∧Aside0 (swageref17_Most.l0 kq t374 x4_1 x5_1 a0_0 l0_1=some r)∧Aside0 (kq≤k)∧Aside0 (w'.heap[gb373]?=some (.cells #[.int .i64 a0_0,(.slice A0_1 l0_1.length c0_1)] 24 (0,0)))∧Aside0 (Below w.heap.size w w'))
 case atStart=>exact ⟨(0),(0),(by first|rfl|(simp;done)|(simp [*];done)),(by first|rfl|(simp;done)|(simp [*];done)),H',⟨Nat.le_refl _⟩,⟨bk_ BK373⟩,⟨bl_ HB⟩⟩
 case round =>
  clear H'
  obtain ⟨x4_1,x5_1,rfl,rfl,HA,HK1,BK373,HB⟩:=hrel
  cases gk with
  | zero=>exact absurd HA.out (by simp [swageref17_Most.l0])
  | succ k1 =>
   have H:=HA.out
   clear HA
   simp only [swageref17_Most.l0] at H
   have HC6:=Aside0.mk H
   clear H
   go_upto_region 4 with (fail)
   go_cut [16] (fun v16 wc=>∃ (kq:Nat) (x16_5:Bool),v16=.bool x16_5∧Aside0 (swageref17_Most.j1 kq t374 x4_1 x5_1 x16_5 a0_0 l0_1=some r)∧Aside0 (kq≤k1)∧Aside0 (wc.heap[gb373]?=some (.cells #[.int .i64 a0_0,(.slice A0_1 l0_1.length c0_1)] 24 (0,0)))∧Aside0 (Below w.heap.size w wc))
   case first =>
    have H:=HC6.out
    clear HC6
    by_cases c7:x5_1<(l0_1.length:Int)
    ·rw [if_pos c7] at H
     have c7b0:decide (x5_1<(l0_1.length:Int))=true:=decide_eq_true c7
     clear c7
     (first|rw [c7b0]|(simp only [i64_w,i32_w];rw [c7b0])|skip)
     have H':=Aside0.mk H
     clear H
     have hcz8_0:=ck_ BK373 0
     have hcz8_1:=ck_ BK373 1
     have hfz8_0:=blk_frozen BK373.out 0
     have hfz8_1:=blk_frozen BK373.out 1
     go_wp2
     go_meet
     case rel=>exact ⟨_,(t374),(by first|rfl|(simp;done)|(simp [*];done)),H',⟨by have:=HK1.out;first|omega|exact Nat.le_refl _⟩,⟨bk_ BK373⟩,⟨bl_ HB⟩⟩
    ·rw [if_neg c7] at H
     have c7b0:decide (x5_1<(l0_1.length:Int))=false:=decide_eq_false c7
     clear c7
     (first|rw [c7b0]|(simp only [i64_w,i32_w];rw [c7b0])|skip)
     have H':=Aside0.mk H
     clear H
     have hcz9_0:=ck_ BK373 0
     have hcz9_1:=ck_ BK373 1
     have hfz9_0:=blk_frozen BK373.out 0
     have hfz9_1:=blk_frozen BK373.out 1
     go_wp2
     go_meet
     case rel=>exact ⟨_,(false),(by first|rfl|(simp;done)|(simp [*];done)),H',⟨by have:=HK1.out;first|omega|exact Nat.le_refl _⟩,⟨bk_ BK373⟩,⟨bl_ HB⟩⟩
   case rest =>
    clear HC6
    obtain ⟨kq,x16_5,rfl,HA,HJ5,BK373,HB⟩:=hcut
    cases kq with
    | zero=>exact absurd HA.out (by simp [swageref17_Most.j1])
    | succ kj5 =>
     have H:=HA.out
     clear HA
     simp only [swageref17_Most.j1] at H
     by_cases c10:x16_5=true
     ·subst c10
      have H1:(swageref17_Most.l1 kj5 t374 x4_1 x5_1 0 a0_0 l0_1)=some r:=by rw [if_pos rfl] at H;exact H
      clear H
      have H:=H1
      clear H1
      have H':=Aside0.mk H
      clear H
      go_wp2
      go_loopg [4,6] kj5 (fun kq v4 v6 w'=>∃ (x4_3:Int) (x6_3:Int),v4=.int .i64 x4_3∧v6=.int .i64 x6_3∧Aside0 (swageref17_Most.l1 kq t374 x4_3 x5_1 x6_3 a0_0 l0_1=some r)∧Aside0 (kq≤kj5)∧Aside0 (w'.heap[gb373]?=some (.cells #[.int .i64 a0_0,(.slice A0_1 l0_1.length c0_1)] 24 (0,0)))∧Aside0 (Below w.heap.size w w'))
      case atStart=>exact ⟨(x4_1),(0),(by first|rfl|(simp;done)|(simp [*];done)),(by first|rfl|(simp;done)|(simp [*];done)),H',⟨Nat.le_refl _⟩,⟨bk_ BK373⟩,⟨bl_ HB⟩⟩
      case round =>
       clear H'
       obtain ⟨x4_3,x6_3,rfl,rfl,HA,HK3,BK373,HB⟩:=hrel
       cases gk with
       | zero=>exact absurd HA.out (by simp [swageref17_Most.l1])
       | succ k3 =>
        have H:=HA.out
        clear HA
        simp only [swageref17_Most.l1] at H
        by_cases c11:0≤x5_1
        ·rw [if_pos c11] at H
         have c11b0:decide (0≤x5_1)=true:=decide_eq_true c11
         clear c11
         by_cases c12:x5_1<(l0_1.length:Int)
         ·rw [if_pos c12] at H
          have c12b0:decide (x5_1<(l0_1.length:Int))=true:=decide_eq_true c12
          clear c12
          by_cases c13:x6_3≤(((rd_T50 l0_1 x5_1).f0).length:Int)
          ·rw [if_pos c13] at H
           have c13b0:decide (x6_3≤(((rd_T50 l0_1 x5_1).f0).length:Int))=true:=decide_eq_true c13
           clear c13
           replace H:=Option.bind_eq_some_iff.mp H
           obtain ⟨t376,A140,H⟩:=H
           replace H:(swageref17_Most.l1 k3 t374 (mx x4_3 (t376.length:Int)) x5_1 (wrap64 (x6_3+1)) a0_0 l0_1)=some r:=H
           have A14:=Aside0.mk A140
           clear A140
           obtain ⟨ji15,hji15⟩:∃ j_:Int,(mx x4_3 (t376.length:Int))=j_:=⟨_,rfl⟩
           replace H:(swageref17_Most.l1 k3 t374 ji15 x5_1 (wrap64 (x6_3+1)) a0_0 l0_1)=some r:=by first|(rw [hji15] at H;exact H)|(simp only [hji15] at H ⊢;exact H)
           (try rw [hji15] at A14)
           have hji15_:(if x4_3<(t376.length:Int) then (t376.length:Int) else x4_3)=ji15:=hji15
           have H':=Aside0.mk H
           clear H
           have hcz16_0:=ck_ BK373 0
           have hcz16_1:=ck_ BK373 1
           have hfz16_0:=blk_frozen BK373.out 0
           have hfz16_1:=blk_frozen BK373.out 1
           have p375:0≤(x5_1:Int):=of_decide_eq_true (by first|(with_reducible assumption)|assumption)
           have q375:x5_1<(l0_1.length:Int):=of_decide_eq_true (by first|(with_reducible assumption)|assumption)
           obtain ⟨ad375,A375_0,c375_0,e375,hx375_0,hx375_1,hx375_2,hx375_3,hx375_4,hl375_0,hi375_0⟩:=at_T50 HR0_1.out x5_1 p375 q375
           cases e375
           replace hx375_0:=cl_ HB hx375_0
           replace hx375_1:=cl_ HB hx375_1
           replace hx375_2:=cl_ HB hx375_2
           replace hx375_3:=cl_ HB hx375_3
           replace hx375_4:=cl_ HB hx375_4
           have HR375_0:=Aside0.mk hi375_0
           have HC375_0:=Aside0.mk hl375_0
           clear hi375_0 hl375_0
           replace p375:=eq_true p375
           replace q375:=eq_true q375
           go_wp2_with (first|((with_reducible refine gate_callee (f:=51) rfl ?_);refine goesL_ (some 34) rfl rfl Tryz.func51 (by kernel_rfl) rfl #[.agg #[.int .i64 a0_0,.slice (some ad375) l0_1.length c0_1],.int .i64 x5_1,.int .i64 x6_3] rfl (by (try simp only [List.map_toArray,List.map_cons,List.map_nil]);first|done|rfl|(simp only [List.length_drop,List.length_take];rfl)) ?_;(with_reducible refine (swageref17_at.calls a0_0 _ _ l0_1 x5_1 x6_3 t376 _ ?side1 ?side2 A14.out).mono ?_);(case side1=>repeat (first|exact (Kd.C_below HR0_1.out HB.out)|(with_reducible refine Kd.C_alloc ?_ _)|(with_reducible refine Kd.C_drewN ?_ _)|(with_reducible refine Kd.C_drew ?_)));(case side2=>exact HC0_1.out);rintro e w17 ⟨v377,rfl,ho0,hb⟩;refine ⟨_,rfl,?_⟩;have n0_:=Aside0.mk (Kd.R_lower ho0 (below_size (bl_ HB)));have n1_:=Aside0.mk (blk_below (g:=gb373) (o:=.cells #[.int .i64 a0_0,.slice (some ad375) l0_1.length c0_1] 24 (0,0)) (bk_ BK373) hb);have n2_:=Aside0.mk (below_step (bl_ HB) hb);clear BK373;clear HB;have HO378:=n0_;have BK373:=n1_;have HB:=n2_;clear n0_ n1_ n2_;(try clear hb);(try clear hb2);(try clear hk);(try clear hi);(try clear ho0);obtain ⟨Ao18,co18,eo18⟩:=Kd.R_slice HO378.out;subst eo18))
           go_roundg k3
           case measure=>have:=HK1.out;have:=HJ5.out;have:=HK3.out;omega
           case rel=>exact ⟨(ji15),(wrap64 (x6_3+1)),(by first|rfl|(simp;done)|(simp only [← hji15]<;>(first|rfl|simp))|(simp [*];done)),(by first|rfl|(simp;done)|(simp [*];done)),H',⟨by have:=HK1.out;have:=HJ5.out;have:=HK3.out;omega⟩,⟨bk_ BK373⟩,⟨bl_ HB⟩⟩
          ·rw [if_neg c13] at H
           have c13b0:decide (x6_3≤(((rd_T50 l0_1 x5_1).f0).length:Int))=false:=decide_eq_false c13
           clear c13
           have H':=Aside0.mk H
           clear H
           have hcz19_0:=ck_ BK373 0
           have hcz19_1:=ck_ BK373 1
           have hfz19_0:=blk_frozen BK373.out 0
           have hfz19_1:=blk_frozen BK373.out 1
           have p375:0≤(x5_1:Int):=of_decide_eq_true (by first|(with_reducible assumption)|assumption)
           have q375:x5_1<(l0_1.length:Int):=of_decide_eq_true (by first|(with_reducible assumption)|assumption)
           obtain ⟨ad375,A375_0,c375_0,e375,hx375_0,hx375_1,hx375_2,hx375_3,hx375_4,hl375_0,hi375_0⟩:=at_T50 HR0_1.out x5_1 p375 q375
           cases e375
           replace hx375_0:=cl_ HB hx375_0
           replace hx375_1:=cl_ HB hx375_1
           replace hx375_2:=cl_ HB hx375_2
           replace hx375_3:=cl_ HB hx375_3
           replace hx375_4:=cl_ HB hx375_4
           have HR375_0:=Aside0.mk hi375_0
           have HC375_0:=Aside0.mk hl375_0
           clear hi375_0 hl375_0
           replace p375:=eq_true p375
           replace q375:=eq_true q375
           go_wp2
           go_roundg k3
           case measure=>have:=HK1.out;have:=HJ5.out;have:=HK3.out;omega
           case rel=>exact ⟨(x4_3),(wrap64 (x5_1+1)),(by first|rfl|(simp;done)|(simp [*];done)),(by first|rfl|(simp;done)|(simp [*];done)),H',⟨by have:=HK1.out;have:=HJ5.out;have:=HK3.out;omega⟩,⟨bk_ BK373⟩,⟨bl_ HB⟩⟩
         ·rw [if_neg c12] at H
          exact absurd H (by simp)
        ·rw [if_neg c11] at H
         exact absurd H (by simp)
     ·replace c10:=Bool.eq_false_iff.mpr c10
      subst c10
      have H1:(some x4_1)=some r:=by rw [if_neg (show ¬ (false=true) by decide)] at H;exact H
      clear H
      have H:=H1
      clear H1
      obtain rfl:=Option.some.inj H
      go_wp2
      go_ret
      exact ⟨by first|rfl|(simp [errW_none,errW_some]<;>rfl)|(simp [*,errW_none,errW_some]<;>rfl),bl_ HB⟩

end Go.Proofs.YtnkgbnbbmcoiiaaGreat.S
