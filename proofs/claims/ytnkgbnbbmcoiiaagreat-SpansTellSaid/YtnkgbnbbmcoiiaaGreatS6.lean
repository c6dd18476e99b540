-- a text of the seat,by a program
import Derived.Test.YtnkgbnbbmcoiiaaGreatBk
import Derived.Test.YtnkgbnbbmcoiiaaGreatS0
import Derived.Test.YtnkgbnbbmcoiiaaGreatS5
namespace Go.Proofs.YtnkgbnbbmcoiiaaGreat.S
open Go.RowKit Go.Proofs.YtnkgbnbbmcoiiaaGreatW.PrintWords Go.Proofs.YtnkgbnbbmcoiiaaGreatW.PrintLast Go.Proofs.YtnkgbnbbmcoiiaaGreatW.PrintMore
attribute [local go_sem] max2_int min2_int max_two min_two max_three min_three max_four min_four   -- for this text's walks alone
set_option linter.unusedVariables false
set_option linter.unusedSimpArgs false

/-! ### swageref14_Regs: function 38 -/
mutual
def swageref14_Regs.l0:Nat→Int→Int→Int→List (S50)→Option (Int)
 | 0,_,_,_,_=>none
 | k+1,x3,x4,x180000,x180001=>if x4<(x180001.length:Int) then (swageref14_Regs.l1 k x3 x4 0 x180000 x180001) else (some x3)
def swageref14_Regs.l1:Nat→Int→Int→Int→Int→List (S50)→Option (Int)
 | 0,_,_,_,_,_=>none
 | k+1,x3,x4,x5,x180000,x180001=>if 0≤x4 then (if x4<(x180001.length:Int) then (if x5<(((rd_T50 x180001 x4).f0).length:Int) then (if 0≤x5 then ((swageref14_Sets.f ((rd_T45 ((rd_T50 x180001 x4).f0) x5).f0) ((rd_T45 ((rd_T50 x180001 x4).f0) x5).f1) ((rd_T45 ((rd_T50 x180001 x4).f0) x5).f2) ((rd_T45 ((rd_T50 x180001 x4).f0) x5).f3) ((rd_T45 ((rd_T50 x180001 x4).f0) x5).f4) ((rd_T45 ((rd_T50 x180001 x4).f0) x5).f5)).bind fun t183=>((swageref14_Uses.f k ((rd_T45 ((rd_T50 x180001 x4).f0) x5).f0) ((rd_T45 ((rd_T50 x180001 x4).f0) x5).f1) ((rd_T45 ((rd_T50 x180001 x4).f0) x5).f2) ((rd_T45 ((rd_T50 x180001 x4).f0) x5).f3) ((rd_T45 ((rd_T50 x180001 x4).f0) x5).f4) ((rd_T45 ((rd_T50 x180001 x4).f0) x5).f5)).bind fun t186=>(swageref14_Regs.l2 k (mx x3 t183) x4 x5 t186 0 x180000 x180001))) else (none)) else ((swageref14_TermUses.f ((rd_T50 x180001 x4).f1.f0) ((rd_T50 x180001 x4).f1.f1) ((rd_T50 x180001 x4).f1.f2) ((rd_T50 x180001 x4).f1.f3)).bind fun t191=>(swageref14_Regs.l3 k x3 x4 t191 0 x180000 x180001))) else (none)) else (none)
def swageref14_Regs.l2:Nat→Int→Int→Int→List Int→Int→Int→List (S50)→Option (Int)
 | 0,_,_,_,_,_,_,_=>none
 | k+1,x3,x4,x5,x6,x7,x180000,x180001=>if x7<(x6.length:Int) then (if 0≤x7 then (swageref14_Regs.l2 k (mx x3 (rd x6 x7)) x4 x5 x6 (wrap64 (x7+1)) x180000 x180001) else (none)) else (swageref14_Regs.l1 k x3 x4 (wrap64 (x5+1)) x180000 x180001)
def swageref14_Regs.l3:Nat→Int→Int→List Int→Int→Int→List (S50)→Option (Int)
 | 0,_,_,_,_,_,_=>none
 | k+1,x3,x4,x8,x9,x180000,x180001=>if x9<(x8.length:Int) then (if 0≤x9 then (swageref14_Regs.l3 k (mx x3 (rd x8 x9)) x4 x8 (wrap64 (x9+1)) x180000 x180001) else (none)) else (swageref14_Regs.l0 k x3 (wrap64 (x4+1)) x180000 x180001)
end
def swageref14_Regs.f (k:Nat) (a0_0:Int) (l0_1:List (S50)):Option (Int):=swageref14_Regs.l0 k (mx a0_0 0) 0 a0_0 l0_1
set_option maxHeartbeats 8000000 in
set_option maxRecDepth 100000 in
theorem swageref14_Regs.calls (k:Nat) (a0_0:Int) (A0_1:Option Addr) (c0_1:Nat) (l0_1:List (S50)) (r:Int) (w:World) (hr0_1:Kd.C k50 w A0_1 l0_1.length l0_1) (hc0_1:l0_1.length≤c0_1) (h:swageref14_Regs.f k a0_0 l0_1=some r) :
  Calls Tryz.prog 38 #[.agg #[.int .i64 a0_0,.slice A0_1 l0_1.length c0_1]] w fun e w'=>e=.returned (.int .i64 r)∧Below w.heap.size w w':=by
 have hu24:=Tryz.underlying24
 have hu45:=Tryz.underlying45
 have hu48:=Tryz.underlying48
 have HR0_1:=ak_ hr0_1
 have HC0_1:=ak_ hc0_1
 clear hr0_1 hc0_1
 have HB:=ak_ (Below.refl w.heap.size w)
 have H:(swageref14_Regs.l0 k (mx a0_0 0) 0 a0_0 l0_1)=some r:=h
 clear h
 obtain ⟨ji2,hji2⟩:∃ j_:Int,(mx a0_0 0)=j_:=⟨_,rfl⟩
 replace H:(swageref14_Regs.l0 k ji2 0 a0_0 l0_1)=some r:=by first|(rw [hji2] at H;exact H)|(simp only [hji2] at H ⊢;exact H)
 (try (have hji2l:0≤ji2:=by (rw [← hji2];unfold mx;(repeat' split)<;>omega)))
 (try (have hji2m:0≤ji2:=by omega))
 have hji2_:(if a0_0<0 then 0 else a0_0)=ji2:=hji2
 have H':=ak_ H
 clear H
 go_enter Tryz.func38,Tryz.ntmps38
 go_wp2_with (first|((with_reducible refine gate_dst (N:=1) rfl ?_);refine box_event ?hg (N:=1) ?hd (cs:=#[.int .i64 a0_0,.slice A0_1 l0_1.length c0_1]) (t:=24) ?hr ?_;(case hd=>rfl);(case hg=>rfl);(case hr=>first|(go_simp;done)|(go_simp;rfl));intro gb179 hg w3 hbox hb;have n0_:=ak_ (below_step (bl_ HB) hb);have n1_:=ak_ (hbox);have n2_:=ak_ ((by rw [hg];exact (below_size (bl_ HB)):w.heap.size≤gb179));have n3_:=ak_ ((by rw [hg];exact (below_size (bl_ HB)):w.heap.size≤gb179));clear HB;have HB:=n0_;have BK179:=n1_;have GW179:=n2_;have GE179:=n3_;clear n0_ n1_ n2_ n3_;clear hb hbox hg;have hcz4_0:=ck_ BK179 0;have hcz4_1:=ck_ BK179 1;have hfz4_0:=fz_ BK179 0;have hfz4_1:=fz_ BK179 1))
 go_loopg [3,4] k (fun kq v3 v4 w'=>∃ (x3_1:Int) (x4_1:Int),v3=.int .i64 x3_1∧v4=.int .i64 x4_1∧Aside0 (swageref14_Regs.l0 kq x3_1 x4_1 a0_0 l0_1=some r)∧Aside0 (kq≤k)∧Aside0 (w'.heap[gb179]?=some (.cells #[.int .i64 a0_0,(.slice A0_1 l0_1.length c0_1)] 24 (0,0)))∧Aside0 (Below w.heap.size w w'))
 case atStart=>exact ⟨(ji2),(0),(by first|rfl|(simp;done)|(simp only [← hji2]<;>(first|rfl|simp))|(simp [*];done)),(by first|rfl|(simp;done)|(simp [*];done)),H',⟨Nat.le_refl _⟩,⟨bk_ BK179⟩,⟨bl_ HB⟩⟩
 case round =>
  clear H'
  obtain ⟨x3_1,x4_1,rfl,rfl,HA,HK1,BK179,HB⟩:=hrel
  cases gk with
  | zero=>exact absurd HA.out (by simp [swageref14_Regs.l0])
  | succ k1 =>
   have H:=HA.out
   clear HA
   simp only [swageref14_Regs.l0] at H
   by_cases c5:x4_1<(l0_1.length:Int)
   ·rw [if_pos c5] at H
    have c5b0:decide (x4_1<(l0_1.length:Int))=true:=decide_eq_true c5
    clear c5
    have H':=ak_ H
    clear H
    have hcz6_0:=ck_ BK179 0
    have hcz6_1:=ck_ BK179 1
    have hfz6_0:=fz_ BK179 0
    have hfz6_1:=fz_ BK179 1
    go_wp2
    go_loopg [3,5] k1 (fun kq v3 v5 w'=>∃ (x3_2:Int) (x5_2:Int),v3=.int .i64 x3_2∧v5=.int .i64 x5_2∧Aside0 (swageref14_Regs.l1 kq x3_2 x4_1 x5_2 a0_0 l0_1=some r)∧Aside0 (kq≤k1)∧Aside0 (w'.heap[gb179]?=some (.cells #[.int .i64 a0_0,(.slice A0_1 l0_1.length c0_1)] 24 (0,0)))∧Aside0 (Below w.heap.size w w'))
    case atStart=>exact ⟨(x3_1),(0),(by first|rfl|(simp;done)|(simp [*];done)),(by first|rfl|(simp;done)|(simp [*];done)),H',⟨Nat.le_refl _⟩,⟨bk_ BK179⟩,⟨bl_ HB⟩⟩
    case round =>
     clear H'
     obtain ⟨x3_2,x5_2,rfl,rfl,HA,HK2,BK179,HB⟩:=hrel
     cases gk with
     | zero=>exact absurd HA.out (by simp [swageref14_Regs.l1])
     | succ k2 =>
      have H:=HA.out
      clear HA
      simp only [swageref14_Regs.l1] at H
      by_cases c7:0≤x4_1
      ·rw [if_pos c7] at H
       have c7b0:decide (0≤x4_1)=true:=decide_eq_true c7
       clear c7
       by_cases c8:x4_1<(l0_1.length:Int)
       ·rw [if_pos c8] at H
        have c8b0:decide (x4_1<(l0_1.length:Int))=true:=decide_eq_true c8
        clear c8
        by_cases c9:x5_2<(((rd_T50 l0_1 x4_1).f0).length:Int)
        ·rw [if_pos c9] at H
         have c9b0:decide (x5_2<(((rd_T50 l0_1 x4_1).f0).length:Int))=true:=decide_eq_true c9
         clear c9
         by_cases c10:0≤x5_2
         ·rw [if_pos c10] at H
          have c10b0:decide (0≤x5_2)=true:=decide_eq_true c10
          clear c10
          replace H:=Option.bind_eq_some_iff.mp H
          obtain ⟨t183,A110,H⟩:=H
          replace H:((swageref14_Uses.f k2 ((rd_T45 ((rd_T50 l0_1 x4_1).f0) x5_2).f0) ((rd_T45 ((rd_T50 l0_1 x4_1).f0) x5_2).f1) ((rd_T45 ((rd_T50 l0_1 x4_1).f0) x5_2).f2) ((rd_T45 ((rd_T50 l0_1 x4_1).f0) x5_2).f3) ((rd_T45 ((rd_T50 l0_1 x4_1).f0) x5_2).f4) ((rd_T45 ((rd_T50 l0_1 x4_1).f0) x5_2).f5)).bind fun t186=>(swageref14_Regs.l2 k2 (mx x3_2 t183) x4_1 x5_2 t186 0 a0_0 l0_1))=some r:=H
          have A11:=ak_ A110
          clear A110
          obtain ⟨ji12,hji12⟩:∃ j_:Int,(mx x3_2 t183)=j_:=⟨_,rfl⟩
          replace H:((swageref14_Uses.f k2 ((rd_T45 ((rd_T50 l0_1 x4_1).f0) x5_2).f0) ((rd_T45 ((rd_T50 l0_1 x4_1).f0) x5_2).f1) ((rd_T45 ((rd_T50 l0_1 x4_1).f0) x5_2).f2) ((rd_T45 ((rd_T50 l0_1 x4_1).f0) x5_2).f3) ((rd_T45 ((rd_T50 l0_1 x4_1).f0) x5_2).f4) ((rd_T45 ((rd_T50 l0_1 x4_1).f0) x5_2).f5)).bind fun t186=>(swageref14_Regs.l2 k2 ji12 x4_1 x5_2 t186 0 a0_0 l0_1))=some r:=by first|(rw [hji12] at H;exact H)|(simp only [hji12] at H ⊢;exact H)
          (try rw [hji12] at A11)
          have hji12_:(if x3_2<t183 then t183 else x3_2)=ji12:=hji12
          replace H:=Option.bind_eq_some_iff.mp H
          obtain ⟨t186,A130,H⟩:=H
          replace H:(swageref14_Regs.l2 k2 ji12 x4_1 x5_2 t186 0 a0_0 l0_1)=some r:=H
          have A13:=ak_ A130
          clear A130
          have H':=ak_ H
          clear H
          have hcz14_0:=ck_ BK179 0
          have hcz14_1:=ck_ BK179 1
          have hfz14_0:=fz_ BK179 0
          have hfz14_1:=fz_ BK179 1
          have p180:0≤(x4_1:Int):=of_decide_eq_true (by first|(with_reducible assumption)|assumption)
          have q180:x4_1<(l0_1.length:Int):=of_decide_eq_true (by first|(with_reducible assumption)|assumption)
          obtain ⟨ad180,A180_0,c180_0,e180,hx180_0,hx180_1,hx180_2,hx180_3,hx180_4,hl180_0,hi180_0⟩:=at_T50 HR0_1.out x4_1 p180 q180
          cases e180
          replace hx180_0:=cl_ HB hx180_0
          replace hx180_1:=cl_ HB hx180_1
          replace hx180_2:=cl_ HB hx180_2
          replace hx180_3:=cl_ HB hx180_3
          replace hx180_4:=cl_ HB hx180_4
          have HR180_0:=ak_ hi180_0
          have HC180_0:=ak_ hl180_0
          clear hi180_0 hl180_0
          replace p180:=eq_true p180
          replace q180:=eq_true q180
          have p181:0≤(x4_1:Int):=of_decide_eq_true (by first|(with_reducible assumption)|assumption)
          have q181:x4_1<(l0_1.length:Int):=of_decide_eq_true (by first|(with_reducible assumption)|assumption)
          obtain ⟨ad181,A181_0,c181_0,e181,hx181_0,hx181_1,hx181_2,hx181_3,hx181_4,hl181_0,hi181_0⟩:=at_T50 HR0_1.out x4_1 p181 q181
          obtain rfl:ad180=ad181:=(by injection e181)
          replace hx181_0:=cl_ HB hx181_0
          replace hx181_1:=cl_ HB hx181_1
          replace hx181_2:=cl_ HB hx181_2
          replace hx181_3:=cl_ HB hx181_3
          replace hx181_4:=cl_ HB hx181_4
          have HR181_0:=ak_ hi181_0
          have HC181_0:=ak_ hl181_0
          clear hi181_0 hl181_0
          replace p181:=eq_true p181
          replace q181:=eq_true q181
          have ea_:=Option.some.inj (hx180_0.symm.trans hx181_0)
          injection ea_ with ea_ en_ ec_
          subst ea_
          subst ec_
          clear en_
          have p182:0≤(x5_2:Int):=of_decide_eq_true (by first|(with_reducible assumption)|assumption)
          have q182:x5_2<(((rd_T50 l0_1 x4_1).f0).length:Int):=of_decide_eq_true (by first|(with_reducible assumption)|assumption)
          obtain ⟨ad182,A182_5,c182_5,e182,hx182_0,hx182_1,hx182_2,hx182_3,hx182_4,hx182_5,hl182_5,hi182_5⟩:=at_T45 HR181_0.out x5_2 p182 q182
          cases e182
          replace hx182_0:=cl_ HB hx182_0
          replace hx182_1:=cl_ HB hx182_1
          replace hx182_2:=cl_ HB hx182_2
          replace hx182_3:=cl_ HB hx182_3
          replace hx182_4:=cl_ HB hx182_4
          replace hx182_5:=cl_ HB hx182_5
          have HR182_5:=ak_ hi182_5
          have HC182_5:=ak_ hl182_5
          clear hi182_5 hl182_5
          replace p182:=eq_true p182
          replace q182:=eq_true q182
          go_wp2_with (first|((with_reducible refine gate_callee (f:=65) rfl ?_);refine goesL_ (some 41) rfl rfl Tryz.func65 (by kernel_rfl) rfl #[.agg #[.int .i64 ((rd_T45 ((rd_T50 l0_1 x4_1).f0) x5_2).f0),.int .i64 ((rd_T45 ((rd_T50 l0_1 x4_1).f0) x5_2).f1),.int .i64 ((rd_T45 ((rd_T50 l0_1 x4_1).f0) x5_2).f2),.int .i64 ((rd_T45 ((rd_T50 l0_1 x4_1).f0) x5_2).f3),.int .i64 ((rd_T45 ((rd_T50 l0_1 x4_1).f0) x5_2).f4),.slice A182_5 ((rd_T45 ((rd_T50 l0_1 x4_1).f0) x5_2).f5).length c182_5]] rfl (by (try simp only [List.map_toArray,List.map_cons,List.map_nil]);first|done|rfl|(simp only [List.length_drop,List.length_take];rfl)) ?_;(with_reducible refine (swageref14_Sets.calls ((rd_T45 ((rd_T50 l0_1 x4_1).f0) x5_2).f0) ((rd_T45 ((rd_T50 l0_1 x4_1).f0) x5_2).f1) ((rd_T45 ((rd_T50 l0_1 x4_1).f0) x5_2).f2) ((rd_T45 ((rd_T50 l0_1 x4_1).f0) x5_2).f3) ((rd_T45 ((rd_T50 l0_1 x4_1).f0) x5_2).f4) _ _ ((rd_T45 ((rd_T50 l0_1 x4_1).f0) x5_2).f5) t183 _ ?side1 ?side2 A11.out).mono ?_);(case side1=>repeat (first|exact (Kd.C_below HR182_5.out HB.out)|(with_reducible refine Kd.C_alloc ?_ _)|(with_reducible refine Kd.C_drewN ?_ _)|(with_reducible refine Kd.C_drew ?_)));(case side2=>exact HC182_5.out);rintro e w15 ⟨rfl,hb⟩;refine ⟨_,rfl,?_⟩;have n0_:=ak_ (blk_below (g:=gb179) (o:=.cells #[.int .i64 a0_0,.slice (some ad180) l0_1.length c0_1] 24 (0,0)) (bk_ BK179) hb);have n1_:=ak_ (below_step (bl_ HB) hb);clear BK179;clear HB;have BK179:=n0_;have HB:=n1_;clear n0_ n1_;(try clear hb);(try clear hb2);(try clear hk);(try clear hi);have hcz16_0:=ck_ BK179 0;have hcz16_1:=ck_ BK179 1;have hfz16_0:=fz_ BK179 0;have hfz16_1:=fz_ BK179 1;have p184:0≤(x4_1:Int):=of_decide_eq_true (by first|(with_reducible assumption)|assumption);have q184:x4_1<(l0_1.length:Int):=of_decide_eq_true (by first|(with_reducible assumption)|assumption);obtain ⟨ad184,A184_0,c184_0,e184,hx184_0,hx184_1,hx184_2,hx184_3,hx184_4,hl184_0,hi184_0⟩:=at_T50 HR0_1.out x4_1 p184 q184;obtain rfl:ad180=ad184:=(by injection e184);replace hx184_0:=cl_ HB hx184_0;replace hx184_1:=cl_ HB hx184_1;replace hx184_2:=cl_ HB hx184_2;replace hx184_3:=cl_ HB hx184_3;replace hx184_4:=cl_ HB hx184_4;have HR184_0:=ak_ hi184_0;have HC184_0:=ak_ hl184_0;clear hi184_0 hl184_0;replace p184:=eq_true p184;replace q184:=eq_true q184;have p185:0≤(x5_2:Int):=of_decide_eq_true (by first|(with_reducible assumption)|assumption);have q185:x5_2<(((rd_T50 l0_1 x4_1).f0).length:Int):=of_decide_eq_true (by first|(with_reducible assumption)|assumption);obtain ⟨ad185,A185_5,c185_5,e185,hx185_0,hx185_1,hx185_2,hx185_3,hx185_4,hx185_5,hl185_5,hi185_5⟩:=at_T45 HR184_0.out x5_2 p185 q185;cases e185;replace hx185_0:=cl_ HB hx185_0;replace hx185_1:=cl_ HB hx185_1;replace hx185_2:=cl_ HB hx185_2;replace hx185_3:=cl_ HB hx185_3;replace hx185_4:=cl_ HB hx185_4;replace hx185_5:=cl_ HB hx185_5;have HR185_5:=ak_ hi185_5;have HC185_5:=ak_ hl185_5;clear hi185_5 hl185_5;replace p185:=eq_true p185;replace q185:=eq_true q185)|((with_reducible refine gate_callee (f:=66) rfl ?_);refine goesL_ (some 52) rfl rfl Tryz.func66 (by kernel_rfl) rfl #[.agg #[.int .i64 ((rd_T45 ((rd_T50 l0_1 x4_1).f0) x5_2).f0),.int .i64 ((rd_T45 ((rd_T50 l0_1 x4_1).f0) x5_2).f1),.int .i64 ((rd_T45 ((rd_T50 l0_1 x4_1).f0) x5_2).f2),.int .i64 ((rd_T45 ((rd_T50 l0_1 x4_1).f0) x5_2).f3),.int .i64 ((rd_T45 ((rd_T50 l0_1 x4_1).f0) x5_2).f4),.slice A185_5 ((rd_T45 ((rd_T50 l0_1 x4_1).f0) x5_2).f5).length c185_5]] rfl (by (try simp only [List.map_toArray,List.map_cons,List.map_nil]);first|done|rfl|(simp only [List.length_drop,List.length_take];rfl)) ?_;(with_reducible refine (swageref14_Uses.calls k2 ((rd_T45 ((rd_T50 l0_1 x4_1).f0) x5_2).f0) ((rd_T45 ((rd_T50 l0_1 x4_1).f0) x5_2).f1) ((rd_T45 ((rd_T50 l0_1 x4_1).f0) x5_2).f2) ((rd_T45 ((rd_T50 l0_1 x4_1).f0) x5_2).f3) ((rd_T45 ((rd_T50 l0_1 x4_1).f0) x5_2).f4) _ _ ((rd_T45 ((rd_T50 l0_1 x4_1).f0) x5_2).f5) t186 _ ?side1 ?side2 A13.out).mono ?_);(case side1=>repeat (first|exact (Kd.C_below HR185_5.out HB.out)|(with_reducible refine Kd.C_alloc ?_ _)|(with_reducible refine Kd.C_drewN ?_ _)|(with_reducible refine Kd.C_drew ?_)));(case side2=>exact HC185_5.out);rintro e w17 ⟨v187,rfl,ho0,hb⟩;refine ⟨_,rfl,?_⟩;have n0_:=ak_ (Kd.R_lower ho0 (below_size (bl_ HB)));have n1_:=ak_ (blk_below (g:=gb179) (o:=.cells #[.int .i64 a0_0,.slice (some ad180) l0_1.length c0_1] 24 (0,0)) (bk_ BK179) hb);have n2_:=ak_ (below_step (bl_ HB) hb);clear BK179;clear HB;have HO188:=n0_;have BK179:=n1_;have HB:=n2_;clear n0_ n1_ n2_;(try clear hb);(try clear hb2);(try clear hk);(try clear hi);(try clear ho0)))
          go_loopg [3,7] k2 (fun kq v3 v7 w'=>∃ (x3_3:Int) (x7_3:Int),v3=.int .i64 x3_3∧v7=.int .i64 x7_3∧Aside0 (swageref14_Regs.l2 kq x3_3 x4_1 x5_2 t186 x7_3 a0_0 l0_1=some r)∧Aside0 (kq≤k2)∧Aside0 (Kd.R (Kd.int .i64) 3 w' w.heap.size (fun _=>True) v187 t186)∧Aside0 (w'.heap[gb179]?=some (.cells #[.int .i64 a0_0,(.slice (some ad180) l0_1.length c0_1)] 24 (0,0)))∧Aside0 (Below w.heap.size w w'))
          case atStart=>exact ⟨(ji12),(0),(by first|rfl|(simp;done)|(simp only [← hji12]<;>(first|rfl|simp))|(simp [*];done)),(by first|rfl|(simp;done)|(simp [*];done)),H',⟨Nat.le_refl _⟩,⟨by (with_reducible repeat (first|apply Kd.R_alloc|apply Kd.R_drewN|apply Kd.R_drew));exact HO188.out⟩,⟨bk_ BK179⟩,⟨bl_ HB⟩⟩
          case round =>
           clear H'
           obtain ⟨x3_3,x7_3,rfl,rfl,HA,HK3,HO_6,BK179,HB⟩:=hrel
           cases gk with
           | zero=>exact absurd HA.out (by simp [swageref14_Regs.l2])
           | succ k3 =>
            have H:=HA.out
            clear HA
            simp only [swageref14_Regs.l2] at H
            by_cases c18:x7_3<(t186.length:Int)
            ·rw [if_pos c18] at H
             have c18b0:decide (x7_3<(t186.length:Int))=true:=decide_eq_true c18
             clear c18
             by_cases c19:0≤x7_3
             ·rw [if_pos c19] at H
              have c19b0:decide (0≤x7_3)=true:=decide_eq_true c19
              clear c19
              obtain ⟨ji20,hji20⟩:∃ j_:Int,(mx x3_3 (rd t186 x7_3))=j_:=⟨_,rfl⟩
              replace H:(swageref14_Regs.l2 k3 ji20 x4_1 x5_2 t186 (wrap64 (x7_3+1)) a0_0 l0_1)=some r:=by first|(rw [hji20] at H;exact H)|(simp only [hji20] at H ⊢;exact H)
              have hji20_:(if x3_3<(rd t186 x7_3) then (rd t186 x7_3) else x3_3)=ji20:=hji20
              have H':=ak_ H
              clear H
              obtain ⟨Ao21,co21,eo21⟩:=Kd.R_slice HO_6.out
              subst eo21
              have p189:0≤(x7_3:Int):=of_decide_eq_true (by first|(with_reducible assumption)|assumption)
              have q189:x7_3<(t186.length:Int):=of_decide_eq_true (by first|(with_reducible assumption)|assumption)
              obtain ⟨ad189,e189,hx189_0⟩:=Kd.at_int (Kd.R_reads' HO_6.out).2.2 x7_3 p189 q189
              cases e189
              replace p189:=eq_true p189
              replace q189:=eq_true q189
              go_wp2
              go_roundg k3
              case measure=>have:=HK1.out;have:=HK2.out;have:=HK3.out;omega
              case rel=>exact ⟨(ji20),(wrap64 (x7_3+1)),(by first|rfl|(simp;done)|(simp only [← hji20]<;>(first|rfl|simp))|(simp [*];done)),(by first|rfl|(simp;done)|(simp [*];done)),H',⟨by have:=HK1.out;have:=HK2.out;have:=HK3.out;omega⟩,⟨by (with_reducible repeat (first|apply Kd.R_alloc|apply Kd.R_drewN|apply Kd.R_drew));exact HO_6.out⟩,⟨bk_ BK179⟩,⟨bl_ HB⟩⟩
             ·rw [if_neg c19] at H
              exact absurd H (by simp)
            ·rw [if_neg c18] at H
             have c18b0:decide (x7_3<(t186.length:Int))=false:=decide_eq_false c18
             clear c18
             have H':=ak_ H
             clear H
             obtain ⟨Ao22,co22,eo22⟩:=Kd.R_slice HO_6.out
             subst eo22
             go_wp2
             go_roundg k3
             case measure=>have:=HK1.out;have:=HK2.out;have:=HK3.out;omega
             case rel=>exact ⟨(x3_3),(wrap64 (x5_2+1)),(by first|rfl|(simp;done)|(simp [*];done)),(by first|rfl|(simp;done)|(simp [*];done)),H',⟨by have:=HK1.out;have:=HK2.out;have:=HK3.out;omega⟩,⟨bk_ BK179⟩,⟨bl_ HB⟩⟩
         ·rw [if_neg c10] at H
          exact absurd H (by simp)
        ·rw [if_neg c9] at H
         have c9b0:decide (x5_2<(((rd_T50 l0_1 x4_1).f0).length:Int))=false:=decide_eq_false c9
         clear c9
         replace H:=Option.bind_eq_some_iff.mp H
         obtain ⟨t191,A230,H⟩:=H
         replace H:(swageref14_Regs.l3 k2 x3_2 x4_1 t191 0 a0_0 l0_1)=some r:=H
         have A23:=ak_ A230
         clear A230
         have H':=ak_ H
         clear H
         have hcz24_0:=ck_ BK179 0
         have hcz24_1:=ck_ BK179 1
         have hfz24_0:=fz_ BK179 0
         have hfz24_1:=fz_ BK179 1
         have p180:0≤(x4_1:Int):=of_decide_eq_true (by first|(with_reducible assumption)|assumption)
         have q180:x4_1<(l0_1.length:Int):=of_decide_eq_true (by first|(with_reducible assumption)|assumption)
         obtain ⟨ad180,A180_0,c180_0,e180,hx180_0,hx180_1,hx180_2,hx180_3,hx180_4,hl180_0,hi180_0⟩:=at_T50 HR0_1.out x4_1 p180 q180
         cases e180
         replace hx180_0:=cl_ HB hx180_0
         replace hx180_1:=cl_ HB hx180_1
         replace hx180_2:=cl_ HB hx180_2
         replace hx180_3:=cl_ HB hx180_3
         replace hx180_4:=cl_ HB hx180_4
         have HR180_0:=ak_ hi180_0
         have HC180_0:=ak_ hl180_0
         clear hi180_0 hl180_0
         replace p180:=eq_true p180
         replace q180:=eq_true q180
         have p190:0≤(x4_1:Int):=of_decide_eq_true (by first|(with_reducible assumption)|assumption)
         have q190:x4_1<(l0_1.length:Int):=of_decide_eq_true (by first|(with_reducible assumption)|assumption)
         obtain ⟨ad190,A190_0,c190_0,e190,hx190_0,hx190_1,hx190_2,hx190_3,hx190_4,hl190_0,hi190_0⟩:=at_T50 HR0_1.out x4_1 p190 q190
         obtain rfl:ad180=ad190:=(by injection e190)
         replace hx190_0:=cl_ HB hx190_0
         replace hx190_1:=cl_ HB hx190_1
         replace hx190_2:=cl_ HB hx190_2
         replace hx190_3:=cl_ HB hx190_3
         replace hx190_4:=cl_ HB hx190_4
         have HR190_0:=ak_ hi190_0
         have HC190_0:=ak_ hl190_0
         clear hi190_0 hl190_0
         replace p190:=eq_true p190
         replace q190:=eq_true q190
         have ea_:=Option.some.inj (hx180_0.symm.trans hx190_0)
         injection ea_ with ea_ en_ ec_
         subst ea_
         subst ec_
         clear en_
         go_wp2_with (first|((with_reducible refine gate_callee (f:=67) rfl ?_);refine goesL_ (some 71) rfl rfl Tryz.func67 (by kernel_rfl) rfl #[.agg #[.int .i64 ((rd_T50 l0_1 x4_1).f1.f0),.int .i64 ((rd_T50 l0_1 x4_1).f1.f1),.int .i64 ((rd_T50 l0_1 x4_1).f1.f2),.int .i64 ((rd_T50 l0_1 x4_1).f1.f3)]] rfl (by (try simp only [List.map_toArray,List.map_cons,List.map_nil]);first|done|rfl|(simp only [List.length_drop,List.length_take];rfl)) ?_;(with_reducible refine (swageref14_TermUses.calls ((rd_T50 l0_1 x4_1).f1.f0) ((rd_T50 l0_1 x4_1).f1.f1) ((rd_T50 l0_1 x4_1).f1.f2) ((rd_T50 l0_1 x4_1).f1.f3) t191 _ A23.out).mono ?_);rintro e w25 ⟨v192,rfl,ho0,hb⟩;refine ⟨_,rfl,?_⟩;have n0_:=ak_ (Kd.R_lower ho0 (below_size (bl_ HB)));have n1_:=ak_ (blk_below (g:=gb179) (o:=.cells #[.int .i64 a0_0,.slice (some ad180) l0_1.length c0_1] 24 (0,0)) (bk_ BK179) hb);have n2_:=ak_ (below_step (bl_ HB) hb);clear BK179;clear HB;have HO193:=n0_;have BK179:=n1_;have HB:=n2_;clear n0_ n1_ n2_;(try clear hb);(try clear hb2);(try clear hk);(try clear hi);(try clear ho0)))
         go_loopg [3,9] k2 (fun kq v3 v9 w'=>∃ (x3_3:Int) (x9_3:Int),v3=.int .i64 x3_3∧v9=.int .i64 x9_3∧Aside0 (swageref14_Regs.l3 kq x3_3 x4_1 t191 x9_3 a0_0 l0_1=some r)∧Aside0 (kq≤k2)∧Aside0 (Kd.R (Kd.int .i64) 3 w' w.heap.size (fun _=>True) v192 t191)∧Aside0 (w'.heap[gb179]?=some (.cells #[.int .i64 a0_0,(.slice (some ad180) l0_1.length c0_1)] 24 (0,0)))∧Aside0 (Below w.heap.size w w'))
         case atStart=>exact ⟨(x3_2),(0),(by first|rfl|(simp;done)|(simp [*];done)),(by first|rfl|(simp;done)|(simp [*];done)),H',⟨Nat.le_refl _⟩,⟨by (with_reducible repeat (first|apply Kd.R_alloc|apply Kd.R_drewN|apply Kd.R_drew));exact HO193.out⟩,⟨bk_ BK179⟩,⟨bl_ HB⟩⟩
         case round =>
          clear H'
          obtain ⟨x3_3,x9_3,rfl,rfl,HA,HK3,HO_8,BK179,HB⟩:=hrel
          cases gk with
          | zero=>exact absurd HA.out (by simp [swageref14_Regs.l3])
          | succ k3 =>
           have H:=HA.out
           clear HA
           simp only [swageref14_Regs.l3] at H
           by_cases c26:x9_3<(t191.length:Int)
           ·rw [if_pos c26] at H
            have c26b0:decide (x9_3<(t191.length:Int))=true:=decide_eq_true c26
            clear c26
            by_cases c27:0≤x9_3
            ·rw [if_pos c27] at H
             have c27b0:decide (0≤x9_3)=true:=decide_eq_true c27
             clear c27
             obtain ⟨ji28,hji28⟩:∃ j_:Int,(mx x3_3 (rd t191 x9_3))=j_:=⟨_,rfl⟩
             replace H:(swageref14_Regs.l3 k3 ji28 x4_1 t191 (wrap64 (x9_3+1)) a0_0 l0_1)=some r:=by first|(rw [hji28] at H;exact H)|(simp only [hji28] at H ⊢;exact H)
             have hji28_:(if x3_3<(rd t191 x9_3) then (rd t191 x9_3) else x3_3)=ji28:=hji28
             have H':=ak_ H
             clear H
             obtain ⟨Ao29,co29,eo29⟩:=Kd.R_slice HO_8.out
             subst eo29
             have p194:0≤(x9_3:Int):=of_decide_eq_true (by first|(with_reducible assumption)|assumption)
             have q194:x9_3<(t191.length:Int):=of_decide_eq_true (by first|(with_reducible assumption)|assumption)
             obtain ⟨ad194,e194,hx194_0⟩:=Kd.at_int (Kd.R_reads' HO_8.out).2.2 x9_3 p194 q194
             cases e194
             replace p194:=eq_true p194
             replace q194:=eq_true q194
             go_wp2
             go_roundg k3
             case measure=>have:=HK1.out;have:=HK2.out;have:=HK3.out;omega
             case rel=>exact ⟨(ji28),(wrap64 (x9_3+1)),(by first|rfl|(simp;done)|(simp only [← hji28]<;>(first|rfl|simp))|(simp [*];done)),(by first|rfl|(simp;done)|(simp [*];done)),H',⟨by have:=HK1.out;have:=HK2.out;have:=HK3.out;omega⟩,⟨by (with_reducible repeat (first|apply Kd.R_alloc|apply Kd.R_drewN|apply Kd.R_drew));exact HO_8.out⟩,⟨bk_ BK179⟩,⟨bl_ HB⟩⟩
            ·rw [if_neg c27] at H
             exact absurd H (by simp)
           ·rw [if_neg c26] at H
            have c26b0:decide (x9_3<(t191.length:Int))=false:=decide_eq_false c26
            clear c26
            have H':=ak_ H
            clear H
            obtain ⟨Ao30,co30,eo30⟩:=Kd.R_slice HO_8.out
            subst eo30
            go_wp2
            go_roundg k3
            case measure=>have:=HK1.out;have:=HK2.out;have:=HK3.out;omega
            case rel=>exact ⟨(x3_3),(wrap64 (x4_1+1)),(by first|rfl|(simp;done)|(simp [*];done)),(by first|rfl|(simp;done)|(simp [*];done)),H',⟨by have:=HK1.out;have:=HK2.out;have:=HK3.out;omega⟩,⟨bk_ BK179⟩,⟨bl_ HB⟩⟩
       ·rw [if_neg c8] at H
        exact absurd H (by simp)
      ·rw [if_neg c7] at H
       exact absurd H (by simp)
   ·rw [if_neg c5] at H
    have c5b0:decide (x4_1<(l0_1.length:Int))=false:=decide_eq_false c5
    clear c5
    obtain rfl:=Option.some.inj H
    have hcz31_0:=ck_ BK179 0
    have hcz31_1:=ck_ BK179 1
    have hfz31_0:=fz_ BK179 0
    have hfz31_1:=fz_ BK179 1
    go_wp2
    go_ret
    exact ⟨by first|rfl|(simp [errW_none,errW_some]<;>rfl)|(simp only [← hji2];first|rfl|(simp [errW_none,errW_some]<;>rfl))|(simp [*,errW_none,errW_some]<;>rfl),bl_ HB⟩

