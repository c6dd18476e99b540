-- a text of the seat,by a program
import Derived.Test.YtnkgbnbbmcoiiaaGreatBk
import Derived.Test.YtnkgbnbbmcoiiaaGreatS0
import Derived.Test.YtnkgbnbbmcoiiaaGreatS16
namespace Go.Proofs.YtnkgbnbbmcoiiaaGreat.S
open Go.RowKit Go.Proofs.YtnkgbnbbmcoiiaaGreatW.PrintWords Go.Proofs.YtnkgbnbbmcoiiaaGreatW.PrintLast Go.Proofs.YtnkgbnbbmcoiiaaGreatW.PrintMore
attribute [local go_sem] max2_int min2_int max_two min_two max_three min_three max_four min_four   -- for this text's walks alone
set_option linter.unusedVariables false
set_option linter.unusedSimpArgs false

/-! ### swageref25_Calls: function 16 -/
mutual
def swageref25_Calls.l0:Nat→List Int→List Int→Int→Int→List (S50)→Option (List Int)
 | 0,_,_,_,_,_=>none
 | k+1,x3,x4,x5,x460000,x460001=>if (wrap64 (x5+1))<(x3.length:Int) then (swageref25_Calls.l1 k x3 x4 x5 0 x460000 x460001) else (some x4)
def swageref25_Calls.l1:Nat→List Int→List Int→Int→Int→Int→List (S50)→Option (List Int)
 | 0,_,_,_,_,_,_=>none
 | k+1,x3,x4,x5,x6,x460000,x460001=>if 0≤x5 then (if x5<(x460001.length:Int) then (if x6<(((rd_T50 x460001 x5).f0).length:Int) then (if 0≤x6 then (if ((rd_T45 ((rd_T50 x460001 x5).f0) x6).f0)=7 then (if x5<(x3.length:Int) then (if x4.length<17592186044416 then (swageref25_Calls.l1 k x3 (x4++[wrap64 ((rd x3 x5)+x6)]) x5 (wrap64 (x6+1)) x460000 x460001) else (none)) else (none)) else (swageref25_Calls.l1 k x3 x4 x5 (wrap64 (x6+1)) x460000 x460001)) else (none)) else (swageref25_Calls.l0 k x3 x4 (wrap64 (x5+1)) x460000 x460001)) else (none)) else (none)
end
def swageref25_Calls.f (k:Nat) (a0_0:Int) (l0_1:List (S50)):Option (List Int):=(swageref25_Number.f k a0_0 l0_1).bind fun t460=>(swageref25_Calls.l0 k t460 ([]:List Int) 0 a0_0 l0_1)
set_option maxHeartbeats 8000000 in
set_option maxRecDepth 100000 in
theorem swageref25_Calls.calls (k:Nat) (a0_0:Int) (A0_1:Option Addr) (c0_1:Nat) (l0_1:List (S50)) (r:List Int) (w:World) (hr0_1:Kd.C k50 w A0_1 l0_1.length l0_1) (hc0_1:l0_1.length≤c0_1) (h:swageref25_Calls.f k a0_0 l0_1=some r) :
  Calls Tryz.prog 16 #[.agg #[.int .i64 a0_0,.slice A0_1 l0_1.length c0_1]] w fun e w'=>∃ v0_:Value,e=.returned (v0_)∧Kd.R (Kd.int .i64) 3 w' w.heap.size (fun _=>True) v0_ r∧Below w.heap.size w w':=by
 have hu24:=Tryz.underlying24
 have HR0_1:=ak_ hr0_1
 have HC0_1:=ak_ hc0_1
 clear hr0_1 hc0_1
 have HB:=ak_ (Below.refl w.heap.size w)
 have H:((swageref25_Number.f k a0_0 l0_1).bind fun t460=>(swageref25_Calls.l0 k t460 ([]:List Int) 0 a0_0 l0_1))=some r:=h
 clear h
 replace H:=Option.bind_eq_some_iff.mp H
 obtain ⟨t460,A20,H⟩:=H
 replace H:(swageref25_Calls.l0 k t460 ([]:List Int) 0 a0_0 l0_1)=some r:=H
 have A2:=ak_ A20
 clear A20
 have H':=ak_ H
 clear H
 go_enter Tryz.func16,Tryz.ntmps16
 go_wp2_with (first|((with_reducible refine gate_dst (N:=1) rfl ?_);refine box_event ?hg (N:=1) ?hd (cs:=#[.int .i64 a0_0,.slice A0_1 l0_1.length c0_1]) (t:=24) ?hr ?_;(case hd=>rfl);(case hg=>rfl);(case hr=>first|(go_simp;done)|(go_simp;rfl));intro gb459 hg w3 hbox hb;have n0_:=ak_ (below_step (bl_ HB) hb);have n1_:=ak_ (hbox);have n2_:=ak_ ((by rw [hg];exact (below_size (bl_ HB)):w.heap.size≤gb459));have n3_:=ak_ ((by rw [hg];exact (below_size (bl_ HB)):w.heap.size≤gb459));clear HB;have HB:=n0_;have BK459:=n1_;have GW459:=n2_;have GE459:=n3_;clear n0_ n1_ n2_ n3_;clear hb hbox hg;have hcz4_0:=ck_ BK459 0;have hcz4_1:=ck_ BK459 1;have hfz4_0:=fz_ BK459 0;have hfz4_1:=fz_ BK459 1)|((with_reducible refine gate_callee (f:=12) rfl ?_);refine goesL_ (some 8) rfl rfl Tryz.func12 (by kernel_rfl) rfl #[.agg #[.int .i64 a0_0,.slice A0_1 l0_1.length c0_1]] rfl (by (try simp only [List.map_toArray,List.map_cons,List.map_nil]);first|done|rfl|(simp only [List.length_drop,List.length_take];rfl)) ?_;(with_reducible refine (swageref25_Number.calls k a0_0 _ _ l0_1 t460 _ ?side1 ?side2 A2.out).mono ?_);(case side1=>repeat (first|exact (Kd.C_below HR0_1.out HB.out)|(with_reducible refine Kd.C_alloc ?_ _)|(with_reducible refine Kd.C_drewN ?_ _)|(with_reducible refine Kd.C_drew ?_)));(case side2=>exact HC0_1.out);rintro e w5 ⟨v461,rfl,ho0,hb⟩;refine ⟨_,rfl,?_⟩;have n0_:=ak_ (Kd.R_lower ho0 (below_size (bl_ HB)));have n1_:=ak_ (blk_below (g:=gb459) (o:=.cells #[.int .i64 a0_0,.slice A0_1 l0_1.length c0_1] 24 (0,0)) (bk_ BK459) hb);have n2_:=ak_ (below_step (bl_ HB) hb);clear BK459;clear HB;have HO462:=n0_;have BK459:=n1_;have HB:=n2_;clear n0_ n1_ n2_;(try clear hb);(try clear hb2);(try clear hk);(try clear hi);(try clear ho0)))
 go_loopg [4,5] k (fun kq v4 v5 w'=>∃ (x4_1:List Int) (x5_1:Int),v5=.int .i64 x5_1∧Aside0 (swageref25_Calls.l0 kq t460 x4_1 x5_1 a0_0 l0_1=some r)∧Aside0 (kq≤k)∧Aside0 (Kd.R (Kd.int .i64) 3 w' w.heap.size (fun k_=>some k_≠(v4:Value).ownBlock) v461 t460)∧Aside0 (Kd.R (Kd.int .i64) 3 w' w.heap.size (fun k_=>some k_≠(v461:Value).ownBlock) v4 x4_1)∧Aside0 (w'.heap[gb459]?=some (.cells #[.int .i64 a0_0,(.slice A0_1 l0_1.length c0_1)] 24 (0,0)))∧Aside0 (Below w.heap.size w w'))
 case atStart=>exact ⟨(([]:List Int)),(0),(by first|rfl|(simp;done)|(simp [*];done)),H',⟨Nat.le_refl _⟩,⟨by (with_reducible repeat (first|apply Kd.R_alloc|apply Kd.R_drewN|apply Kd.R_drew));exact Kd.R_mono HO462.out (fun _ hk=>(by simp [Value.ownBlock]))⟩,⟨by first|exact Kd.R_nil _ _ _ _ _|exact Kd.N_nil _ _ _ _ _|exact Kd.V_nil _ _ _ _ _|exact Kd.Q_nil _ _ _ _ _|exact Kd.S_nil _ _ _ _ _⟩,⟨bk_ BK459⟩,⟨bl_ HB⟩⟩
 case round =>
  clear H'
  obtain ⟨x4_1,x5_1,rfl,HA,HK1,HO_3,HO_4,BK459,HB⟩:=hrel
  cases gk with
  | zero=>exact absurd HA.out (by simp [swageref25_Calls.l0])
  | succ k1 =>
   have H:=HA.out
   clear HA
   simp only [swageref25_Calls.l0] at H
   by_cases c6:(wrap64 (x5_1+1))<(t460.length:Int)
   ·rw [if_pos c6] at H
    have c6b0:decide ((wrap64 (x5_1+1))<(t460.length:Int))=true:=decide_eq_true c6
    clear c6
    have H':=ak_ H
    clear H
    obtain ⟨Ao7,co7,eo7⟩:=Kd.R_slice HO_3.out
    subst eo7
    go_wp2
    go_loopg [4,6] k1 (fun kq v4 v6 w'=>∃ (x4_2:List Int) (x6_2:Int),v6=.int .i64 x6_2∧Aside0 (swageref25_Calls.l1 kq t460 x4_2 x5_1 x6_2 a0_0 l0_1=some r)∧Aside0 (kq≤k1)∧Aside0 (Kd.R (Kd.int .i64) 3 w' w.heap.size (fun k_=>some k_≠(v4:Value).ownBlock) (.slice Ao7 t460.length co7) t460)∧Aside0 (Kd.R (Kd.int .i64) 3 w' w.heap.size (fun k_=>some k_≠((.slice Ao7 t460.length co7):Value).ownBlock) v4 x4_2)∧Aside0 (w'.heap[gb459]?=some (.cells #[.int .i64 a0_0,(.slice A0_1 l0_1.length c0_1)] 24 (0,0)))∧Aside0 (Below w.heap.size w w'))
    case atStart=>exact ⟨(x4_1),(0),(by first|rfl|(simp;done)|(simp [*];done)),H',⟨Nat.le_refl _⟩,⟨by (with_reducible repeat (first|apply Kd.R_alloc|apply Kd.R_drewN|apply Kd.R_drew));exact HO_3.out⟩,⟨by (with_reducible repeat (first|apply Kd.R_alloc|apply Kd.R_drewN|apply Kd.R_drew));exact HO_4.out⟩,⟨bk_ BK459⟩,⟨bl_ HB⟩⟩
    case round =>
     clear H'
     obtain ⟨x4_2,x6_2,rfl,HA,HK2,HO_3,HO_4,BK459,HB⟩:=hrel
     cases gk with
     | zero=>exact absurd HA.out (by simp [swageref25_Calls.l1])
     | succ k2 =>
      have H:=HA.out
      clear HA
      simp only [swageref25_Calls.l1] at H
      by_cases c8:0≤x5_1
      ·rw [if_pos c8] at H
       have c8b0:decide (0≤x5_1)=true:=decide_eq_true c8
       clear c8
       by_cases c9:x5_1<(l0_1.length:Int)
       ·rw [if_pos c9] at H
        have c9b0:decide (x5_1<(l0_1.length:Int))=true:=decide_eq_true c9
        clear c9
        by_cases c10:x6_2<(((rd_T50 l0_1 x5_1).f0).length:Int)
        ·rw [if_pos c10] at H
         have c10b0:decide (x6_2<(((rd_T50 l0_1 x5_1).f0).length:Int))=true:=decide_eq_true c10
         clear c10
         by_cases c11:0≤x6_2
         ·rw [if_pos c11] at H
          have c11b0:decide (0≤x6_2)=true:=decide_eq_true c11
          clear c11
          by_cases c12:((rd_T45 ((rd_T50 l0_1 x5_1).f0) x6_2).f0)=7
          ·rw [if_pos c12] at H
           have c12b0:(((rd_T45 ((rd_T50 l0_1 x5_1).f0) x6_2).f0) == 7)=true:=beq_iff_eq.mpr c12
           have c12b1:(((rd_T45 ((rd_T50 l0_1 x5_1).f0) x6_2).f0) != 7)=false:=bne_eq_false_iff_eq.mpr c12
           clear c12
           by_cases c13:x5_1<(t460.length:Int)
           ·rw [if_pos c13] at H
            have c13b0:decide (x5_1<(t460.length:Int))=true:=decide_eq_true c13
            clear c13
            by_cases c14:x4_2.length<17592186044416
            ·rw [if_pos c14] at H
             have LMc14:=ak_ c14
             clear c14
             obtain ⟨y467,hy467⟩:∃ y_:List Int,y_=(x4_2++[wrap64 ((rd t460 x5_1)+x6_2)]):=⟨_,rfl⟩
             replace H:(swageref25_Calls.l1 k2 t460 y467 x5_1 (wrap64 (x6_2+1)) a0_0 l0_1)=some r:=by first|(rw [hy467];with_reducible exact H)|(have H2_:=(Option.bind_some _ _).symm.trans H;rw [hy467];with_reducible exact H2_)|(have H2_:=(Option.bind_some _ _).symm.trans H;with_reducible exact H2_)|with_reducible exact H|(rw [hy467];exact H)|exact H
             have Ny467:=ak_ hy467
             clear hy467
             have H':=ak_ H
             clear H
             have hcz15_0:=ck_ BK459 0
             have hcz15_1:=ck_ BK459 1
             have hfz15_0:=fz_ BK459 0
             have hfz15_1:=fz_ BK459 1
             have p463:0≤(x5_1:Int):=of_decide_eq_true (by first|(with_reducible assumption)|assumption)
             have q463:x5_1<(l0_1.length:Int):=of_decide_eq_true (by first|(with_reducible assumption)|assumption)
             obtain ⟨ad463,A463_0,c463_0,e463,hx463_0,hx463_1,hx463_2,hx463_3,hx463_4,hl463_0,hi463_0⟩:=at_T50 HR0_1.out x5_1 p463 q463
             cases e463
             replace hx463_0:=cl_ HB hx463_0
             replace hx463_1:=cl_ HB hx463_1
             replace hx463_2:=cl_ HB hx463_2
             replace hx463_3:=cl_ HB hx463_3
             replace hx463_4:=cl_ HB hx463_4
             have HR463_0:=ak_ hi463_0
             have HC463_0:=ak_ hl463_0
             clear hi463_0 hl463_0
             replace p463:=eq_true p463
             replace q463:=eq_true q463
             have p464:0≤(x5_1:Int):=of_decide_eq_true (by first|(with_reducible assumption)|assumption)
             have q464:x5_1<(l0_1.length:Int):=of_decide_eq_true (by first|(with_reducible assumption)|assumption)
             obtain ⟨ad464,A464_0,c464_0,e464,hx464_0,hx464_1,hx464_2,hx464_3,hx464_4,hl464_0,hi464_0⟩:=at_T50 HR0_1.out x5_1 p464 q464
             obtain rfl:ad463=ad464:=(by injection e464)
             replace hx464_0:=cl_ HB hx464_0
             replace hx464_1:=cl_ HB hx464_1
             replace hx464_2:=cl_ HB hx464_2
             replace hx464_3:=cl_ HB hx464_3
             replace hx464_4:=cl_ HB hx464_4
             have HR464_0:=ak_ hi464_0
             have HC464_0:=ak_ hl464_0
             clear hi464_0 hl464_0
             replace p464:=eq_true p464
             replace q464:=eq_true q464
             have ea_:=Option.some.inj (hx463_0.symm.trans hx464_0)
             injection ea_ with ea_ en_ ec_
             subst ea_
             subst ec_
             clear en_
             have p465:0≤(x6_2:Int):=of_decide_eq_true (by first|(with_reducible assumption)|assumption)
             have q465:x6_2<(((rd_T50 l0_1 x5_1).f0).length:Int):=of_decide_eq_true (by first|(with_reducible assumption)|assumption)
             obtain ⟨ad465,A465_5,c465_5,e465,hx465_0,hx465_1,hx465_2,hx465_3,hx465_4,hx465_5,hl465_5,hi465_5⟩:=at_T45 HR464_0.out x6_2 p465 q465
             cases e465
             replace hx465_0:=cl_ HB hx465_0
             replace hx465_1:=cl_ HB hx465_1
             replace hx465_2:=cl_ HB hx465_2
             replace hx465_3:=cl_ HB hx465_3
             replace hx465_4:=cl_ HB hx465_4
             replace hx465_5:=cl_ HB hx465_5
             have HR465_5:=ak_ hi465_5
             have HC465_5:=ak_ hl465_5
             clear hi465_5 hl465_5
             replace p465:=eq_true p465
             replace q465:=eq_true q465
             have p466:0≤(x5_1:Int):=of_decide_eq_true (by first|(with_reducible assumption)|assumption)
             have q466:x5_1<(t460.length:Int):=of_decide_eq_true (by first|(with_reducible assumption)|assumption)
             obtain ⟨ad466,e466,hx466_0⟩:=Kd.at_int (Kd.R_reads' HO_3.out).2.2 x5_1 p466 q466
             cases e466
             replace p466:=eq_true p466
             replace q466:=eq_true q466
             go_wp2_with (first|((with_reducible refine gate_builtin (b:=.append) (xs:=#[.tmp 38,.tmp 45]) rfl ?_);at_builtin;refine Kd.R_append (Kd.int .i64) (w0:=w) w.heap.size rfl (.tmp 38) (.tmp 45) 31 3 (.int .i64 0) 8 rfl Tryz.underlying31 info3 rfl (by decide) (by omega) u4 x4_2 (wrap64 ((rd t460 x5_1)+x6_2)) [.int .i64 (wrap64 ((rd t460 x5_1)+x6_2))] (fun k_=>some k_≠(.slice (some ad466) t460.length co7:Value).ownBlock) (fun _=>False) rfl rfl ?aP (fun _ hk=>hk.elim) ?aF ?aO ?aB ?aS ?aL ?_;(case aP=>exact rfl);(case aB=>exact (bl_ HB));(case aF=>exact (fun k_ hk=>Kd.fresh' (Kd.R_lt (by (with_reducible repeat (first|apply Kd.R_alloc|apply Kd.R_drewN|apply Kd.R_drew));exact HO_3.out)) k_ hk));(case aO=>exact (by (with_reducible repeat (first|apply Kd.R_alloc|apply Kd.R_drewN|apply Kd.R_drew));exact HO_4.out));(case aS=>exact (below_size (bl_ HB)));(case aL=>have:=LMc14.out;omega);intro v468 w16 ho hb hg hat;rw [← Ny467.out] at ho;have n0_:=ak_ (Kd.R_after (ok:=(fun _=>True)) (by (with_reducible repeat (first|apply Kd.R_alloc|apply Kd.R_drewN|apply Kd.R_drew));exact Kd.R_mono HO_3.out (fun _ hk=>⟨trivial,hk⟩)) hg hat);have n1_:=ak_ (blk_grown (g:=gb459) (o:=.cells #[.int .i64 a0_0,.slice (some ad463) l0_1.length c0_1] 24 (0,0)) (bk_ BK459) hg (Kd.R_ne HO_4.out BK459.out (by decide)));have n2_:=ak_ (hb);have n3_:=ak_ (ho);clear HO_3;clear BK459;clear HB;clear HO_4;have HO_3:=n0_;have BK459:=n1_;have HB:=n2_;have HO469:=n3_;clear n0_ n1_ n2_ n3_;clear ho hb hg hat))
             go_roundg k2
             case measure=>have:=HK1.out;have:=HK2.out;omega
             case rel=>exact ⟨(y467),(wrap64 (x6_2+1)),(by first|rfl|(simp;done)|(simp [*];done)),H',⟨by have:=HK1.out;have:=HK2.out;omega⟩,⟨by (with_reducible repeat (first|apply Kd.R_alloc|apply Kd.R_drewN|apply Kd.R_drew));exact Kd.R_mono HO_3.out (fun _ hk=>hk.2)⟩,⟨by (with_reducible repeat (first|apply Kd.R_alloc|apply Kd.R_drewN|apply Kd.R_drew));exact HO469.out⟩,⟨bk_ BK459⟩,⟨bl_ HB⟩⟩
            ·rw [if_neg c14] at H
             exact absurd H (by simp)
           ·rw [if_neg c13] at H
            exact absurd H (by simp)
          ·rw [if_neg c12] at H
           have c12b0:(((rd_T45 ((rd_T50 l0_1 x5_1).f0) x6_2).f0) == 7)=false:=beq_eq_false_iff_ne.mpr c12
           have c12b1:(((rd_T45 ((rd_T50 l0_1 x5_1).f0) x6_2).f0) != 7)=true:=bne_iff_ne.mpr c12
           have H':=ak_ H
           clear H
           have hcz17_0:=ck_ BK459 0
           have hcz17_1:=ck_ BK459 1
           have hfz17_0:=fz_ BK459 0
           have hfz17_1:=fz_ BK459 1
           have p463:0≤(x5_1:Int):=of_decide_eq_true (by first|(with_reducible assumption)|assumption)
           have q463:x5_1<(l0_1.length:Int):=of_decide_eq_true (by first|(with_reducible assumption)|assumption)
           obtain ⟨ad463,A463_0,c463_0,e463,hx463_0,hx463_1,hx463_2,hx463_3,hx463_4,hl463_0,hi463_0⟩:=at_T50 HR0_1.out x5_1 p463 q463
           cases e463
           replace hx463_0:=cl_ HB hx463_0
           replace hx463_1:=cl_ HB hx463_1
           replace hx463_2:=cl_ HB hx463_2
           replace hx463_3:=cl_ HB hx463_3
           replace hx463_4:=cl_ HB hx463_4
           have HR463_0:=ak_ hi463_0
           have HC463_0:=ak_ hl463_0
           clear hi463_0 hl463_0
           replace p463:=eq_true p463
           replace q463:=eq_true q463
           have p464:0≤(x5_1:Int):=of_decide_eq_true (by first|(with_reducible assumption)|assumption)
           have q464:x5_1<(l0_1.length:Int):=of_decide_eq_true (by first|(with_reducible assumption)|assumption)
           obtain ⟨ad464,A464_0,c464_0,e464,hx464_0,hx464_1,hx464_2,hx464_3,hx464_4,hl464_0,hi464_0⟩:=at_T50 HR0_1.out x5_1 p464 q464
           obtain rfl:ad463=ad464:=(by injection e464)
           replace hx464_0:=cl_ HB hx464_0
           replace hx464_1:=cl_ HB hx464_1
           replace hx464_2:=cl_ HB hx464_2
           replace hx464_3:=cl_ HB hx464_3
           replace hx464_4:=cl_ HB hx464_4
           have HR464_0:=ak_ hi464_0
           have HC464_0:=ak_ hl464_0
           clear hi464_0 hl464_0
           replace p464:=eq_true p464
           replace q464:=eq_true q464
           have ea_:=Option.some.inj (hx463_0.symm.trans hx464_0)
           injection ea_ with ea_ en_ ec_
           subst ea_
           subst ec_
           clear en_
           have p465:0≤(x6_2:Int):=of_decide_eq_true (by first|(with_reducible assumption)|assumption)
           have q465:x6_2<(((rd_T50 l0_1 x5_1).f0).length:Int):=of_decide_eq_true (by first|(with_reducible assumption)|assumption)
           obtain ⟨ad465,A465_5,c465_5,e465,hx465_0,hx465_1,hx465_2,hx465_3,hx465_4,hx465_5,hl465_5,hi465_5⟩:=at_T45 HR464_0.out x6_2 p465 q465
           cases e465
           replace hx465_0:=cl_ HB hx465_0
           replace hx465_1:=cl_ HB hx465_1
           replace hx465_2:=cl_ HB hx465_2
           replace hx465_3:=cl_ HB hx465_3
           replace hx465_4:=cl_ HB hx465_4
           replace hx465_5:=cl_ HB hx465_5
           have HR465_5:=ak_ hi465_5
           have HC465_5:=ak_ hl465_5
           clear hi465_5 hl465_5
           replace p465:=eq_true p465
           replace q465:=eq_true q465
           go_wp2
           go_roundg k2
           case measure=>have:=HK1.out;have:=HK2.out;omega
           case rel=>exact ⟨(x4_2),(wrap64 (x6_2+1)),(by first|rfl|(simp;done)|(simp [*];done)),H',⟨by have:=HK1.out;have:=HK2.out;omega⟩,⟨by (with_reducible repeat (first|apply Kd.R_alloc|apply Kd.R_drewN|apply Kd.R_drew));exact HO_3.out⟩,⟨by (with_reducible repeat (first|apply Kd.R_alloc|apply Kd.R_drewN|apply Kd.R_drew));exact HO_4.out⟩,⟨bk_ BK459⟩,⟨bl_ HB⟩⟩
         ·rw [if_neg c11] at H
          exact absurd H (by simp)
        ·rw [if_neg c10] at H
         have c10b0:decide (x6_2<(((rd_T50 l0_1 x5_1).f0).length:Int))=false:=decide_eq_false c10
         clear c10
         have H':=ak_ H
         clear H
         have hcz18_0:=ck_ BK459 0
         have hcz18_1:=ck_ BK459 1
         have hfz18_0:=fz_ BK459 0
         have hfz18_1:=fz_ BK459 1
         have p463:0≤(x5_1:Int):=of_decide_eq_true (by first|(with_reducible assumption)|assumption)
         have q463:x5_1<(l0_1.length:Int):=of_decide_eq_true (by first|(with_reducible assumption)|assumption)
         obtain ⟨ad463,A463_0,c463_0,e463,hx463_0,hx463_1,hx463_2,hx463_3,hx463_4,hl463_0,hi463_0⟩:=at_T50 HR0_1.out x5_1 p463 q463
         cases e463
         replace hx463_0:=cl_ HB hx463_0
         replace hx463_1:=cl_ HB hx463_1
         replace hx463_2:=cl_ HB hx463_2
         replace hx463_3:=cl_ HB hx463_3
         replace hx463_4:=cl_ HB hx463_4
         have HR463_0:=ak_ hi463_0
         have HC463_0:=ak_ hl463_0
         clear hi463_0 hl463_0
         replace p463:=eq_true p463
         replace q463:=eq_true q463
         go_wp2
         go_roundg k2
         case measure=>have:=HK1.out;have:=HK2.out;omega
         case rel=>exact ⟨(x4_2),(wrap64 (x5_1+1)),(by first|rfl|(simp;done)|(simp [*];done)),H',⟨by have:=HK1.out;have:=HK2.out;omega⟩,⟨by (with_reducible repeat (first|apply Kd.R_alloc|apply Kd.R_drewN|apply Kd.R_drew));exact HO_3.out⟩,⟨by (with_reducible repeat (first|apply Kd.R_alloc|apply Kd.R_drewN|apply Kd.R_drew));exact HO_4.out⟩,⟨bk_ BK459⟩,⟨bl_ HB⟩⟩
       ·rw [if_neg c9] at H
        exact absurd H (by simp)
      ·rw [if_neg c8] at H
       exact absurd H (by simp)
   ·rw [if_neg c6] at H
    have c6b0:decide ((wrap64 (x5_1+1))<(t460.length:Int))=false:=decide_eq_false c6
    clear c6
    obtain rfl:=Option.some.inj H
    obtain ⟨Ao19,co19,eo19⟩:=Kd.R_slice HO_3.out
    subst eo19
    go_wp2
    go_ret
    exact ⟨_,by first|rfl|(simp [errW_none,errW_some]<;>rfl)|(simp [*,errW_none,errW_some]<;>rfl),by (with_reducible repeat (first|apply Kd.R_alloc|apply Kd.R_drewN|apply Kd.R_drew));exact Kd.R_mono HO_4.out (fun _ hk=>trivial),bl_ HB⟩

