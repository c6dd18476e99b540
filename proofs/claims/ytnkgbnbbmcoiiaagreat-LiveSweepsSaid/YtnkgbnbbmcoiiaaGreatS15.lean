-- a text of the seat,by a program
import Derived.Test.YtnkgbnbbmcoiiaaGreatBk
import Derived.Test.YtnkgbnbbmcoiiaaGreatS0
import Derived.Test.YtnkgbnbbmcoiiaaGreatS6
import Derived.Test.YtnkgbnbbmcoiiaaGreatS11
import Derived.Test.YtnkgbnbbmcoiiaaGreatS12
import Derived.Test.YtnkgbnbbmcoiiaaGreatS14
import Derived.Test.YtnkgbnbbmcoiiaaGreatS14b
import Derived.Test.YtnkgbnbbmcoiiaaGreatOo17
namespace Go.Proofs.YtnkgbnbbmcoiiaaGreat.S
open Go.RowKit Go.Proofs.YtnkgbnbbmcoiiaaGreatW.PrintWords Go.Proofs.YtnkgbnbbmcoiiaaGreatW.PrintLast Go.Proofs.YtnkgbnbbmcoiiaaGreatW.PrintMore
attribute [local go_sem] max2_int min2_int max_two min_two max_three min_three max_four min_four   -- for this text's walks alone
set_option linter.unusedVariables false
set_option linter.unusedSimpArgs false

/-! ### swageref17_After: function 26 -/
mutual
noncomputable def swageref17_After.j0:Nat→Int→List (List Int)→Bool→Int→List (S50)→Option ((List (List Int)))
 | 0,_,_,_,_,_=>none
 | k+1,x1,x6,x22,x365000,x365001=>if x22=true then (some ([]:List (List Int))) else (swageref17_After.l0 k x1 x6 0 x365000 x365001)
noncomputable def swageref17_After.l0:Nat→Int→List (List Int)→Int→Int→List (S50)→Option ((List (List Int)))
 | 0,_,_,_,_,_=>none
 | k+1,x1,x6,x7,x365000,x365001=>if 0≤x1 then (if x1<(x365001.length:Int) then (if x7<(((rd_T50 x365001 x1).f0).length:Int) then ((swageref17_at.f x365000 x365001 x1 (wrap64 (x7+1))).bind fun t367=>(if x6.length<5864062014805 then (swageref17_After.l0 k x1 (x6++[t367]) (wrap64 (x7+1)) x365000 x365001) else (none))) else (some x6)) else (none)) else (none)
end
noncomputable def swageref17_After.f (k:Nat) (a0_0:Int) (l0_1:List (S50)) (a1:Int):Option ((List (List Int))):=(swageref14_Right.f k a0_0 l0_1 256).bind fun t365=>(if t365=true then (if a1<0 then (swageref17_After.j0 k a1 ([]:List (List Int)) true a0_0 l0_1) else (swageref17_After.j0 k a1 ([]:List (List Int)) (decide (a1 ≥ (l0_1.length:Int))) a0_0 l0_1)) else (swageref17_After.j0 k a1 ([]:List (List Int)) true a0_0 l0_1))
set_option maxHeartbeats 8000000 in
set_option maxRecDepth 100000 in
theorem swageref17_After.calls (k:Nat) (a0_0:Int) (A0_1:Option Addr) (c0_1:Nat) (l0_1:List (S50)) (a1:Int) (r:List (List Int)) (w:World) (hr0_1:Kd.C k50 w A0_1 l0_1.length l0_1) (hc0_1:l0_1.length≤c0_1) (h:swageref17_After.f k a0_0 l0_1 a1=some r) :
  Calls Tryz.prog 26 #[.agg #[.int .i64 a0_0,.slice A0_1 l0_1.length c0_1],.int .i64 a1] w fun e w'=>∃ v0_:Value,e=.returned (v0_)∧Kd.S (Kd.slice 3 (Kd.int .i64)) 31 w' w.heap.size (fun _=>True) v0_ r∧Below w.heap.size w w':=by
 have hu24:=Tryz.underlying24
 have HR0_1:=ak_ hr0_1
 have HC0_1:=ak_ hc0_1
 clear hr0_1 hc0_1
 have HB:=ak_ (Below.refl w.heap.size w)
 have H:((swageref14_Right.f k a0_0 l0_1 256).bind fun t365=>(if t365=true then (if a1<0 then (swageref17_After.j0 k a1 ([]:List (List Int)) true a0_0 l0_1) else (swageref17_After.j0 k a1 ([]:List (List Int)) (decide (a1 ≥ (l0_1.length:Int))) a0_0 l0_1)) else (swageref17_After.j0 k a1 ([]:List (List Int)) true a0_0 l0_1)))=some r:=h
 clear h
 replace H:=Option.bind_eq_some_iff.mp H
 obtain ⟨t365,A30,H⟩:=H
 replace H:(if t365=true then (if a1<0 then (swageref17_After.j0 k a1 ([]:List (List Int)) true a0_0 l0_1) else (swageref17_After.j0 k a1 ([]:List (List Int)) (decide (a1 ≥ (l0_1.length:Int))) a0_0 l0_1)) else (swageref17_After.j0 k a1 ([]:List (List Int)) true a0_0 l0_1))=some r:=H
 have A3:=ak_ A30
 clear A30
 have HC4:=ak_ H
 clear H
 go_enter Tryz.func26,Tryz.ntmps26
 go_upto_region 3 with (first|((with_reducible refine gate_dst (N:=2) rfl ?_);(try (refine gate_guard (by rfl) ?_;dsimp only));refine box_event ?hg (N:=2) ?hd (cs:=#[.int .i64 a0_0,.slice A0_1 l0_1.length c0_1]) (t:=24) ?hr ?_;(case hd=>rfl);(case hg=>rfl);(case hr=>first|(go_simp;done)|(go_simp;rfl));intro gb364 hg w5 hbox hb;have n0_:=ak_ (below_step (bl_ HB) hb);have n1_:=ak_ (hbox);have n2_:=ak_ ((by rw [hg];exact (below_size (bl_ HB)):w.heap.size≤gb364));have n3_:=ak_ ((by rw [hg];exact (below_size (bl_ HB)):w.heap.size≤gb364));clear HB;have HB:=n0_;have BK364:=n1_;have GW364:=n2_;have GE364:=n3_;clear n0_ n1_ n2_ n3_;clear hb hbox hg;have hcz6_0:=ck_ BK364 0;have hcz6_1:=ck_ BK364 1;have hfz6_0:=fz_ BK364 0;have hfz6_1:=fz_ BK364 1)|((with_reducible refine gate_callee (f:=46) rfl ?_);refine goesL_ (some 9) rfl rfl Tryz.func46 (by kernel_rfl) rfl #[.agg #[.int .i64 a0_0,.slice A0_1 l0_1.length c0_1],.int .i64 256] rfl (by (try simp only [List.map_toArray,List.map_cons,List.map_nil]);first|done|rfl|(simp only [List.length_drop,List.length_take];rfl)) ?_;(with_reducible refine (swageref14_Right.calls k a0_0 _ _ l0_1 256 t365 _ ?side1 ?side2 A3.out).mono ?_);(case side1=>repeat (first|exact (Kd.C_below HR0_1.out HB.out)|(with_reducible refine Kd.C_alloc ?_ _)|(with_reducible refine Kd.C_drewN ?_ _)|(with_reducible refine Kd.C_drew ?_)));(case side2=>exact HC0_1.out);rintro e w7 ⟨rfl,hb⟩;refine ⟨_,rfl,?_⟩;have n0_:=ak_ (blk_below (g:=gb364) (o:=.cells #[.int .i64 a0_0,.slice A0_1 l0_1.length c0_1] 24 (0,0)) (bk_ BK364) hb);have n1_:=ak_ (below_step (bl_ HB) hb);clear BK364;clear HB;have BK364:=n0_;have HB:=n1_;clear n0_ n1_;(try clear hb);(try clear hb2);(try clear hk);(try clear hi)))
 (try simp only [Act.put,pa_,pb_,pc_])
 go_cut [22] (fun v22 wc=>∃ (kq:Nat) (x22_3:Bool),v22=.bool x22_3∧Aside0 (swageref17_After.j0 kq a1 ([]:List (List Int)) x22_3 a0_0 l0_1=some r)∧Aside0 (kq≤k)∧Aside0 (Kd.S (Kd.slice 3 (Kd.int .i64)) 31 wc w.heap.size (fun _=>True) (.slice none 0 0) ([]:List (List Int)))∧Aside0 (wc.heap[gb364]?=some (.cells #[.int .i64 a0_0,(.slice A0_1 l0_1.length c0_1)] 24 (0,0)))∧Aside0 (Below w.heap.size w wc))
 case first =>
  have H:=HC4.out
  clear HC4
  by_cases c8:t365=true
  ·subst c8
   have H1:(if a1<0 then (swageref17_After.j0 k a1 ([]:List (List Int)) true a0_0 l0_1) else (swageref17_After.j0 k a1 ([]:List (List Int)) (decide (a1 ≥ (l0_1.length:Int))) a0_0 l0_1))=some r:=by rw [if_pos rfl] at H;exact H
   clear H
   have H:=H1
   clear H1
   by_cases c9:a1<0
   ·rw [if_pos c9] at H
    have c9b0:decide (a1<0)=true:=decide_eq_true c9
    clear c9
    (first|rw [c9b0]|(simp only [i64_w,i32_w];rw [c9b0])|skip)
    have H':=ak_ H
    clear H
    go_wp2
    go_meet
    case rel=>exact ⟨_,(true),(by first|rfl|(simp;done)|(simp [*];done)),H',⟨by first|omega|exact Nat.le_refl _⟩,⟨by first|exact Kd.S_nil _ _ _ _ _|exact Kd.N_nil _ _ _ _ _|exact Kd.V_nil _ _ _ _ _|exact Kd.Q_nil _ _ _ _ _|exact Kd.R_nil _ _ _ _ _⟩,⟨bk_ BK364⟩,⟨bl_ HB⟩⟩
   ·rw [if_neg c9] at H
    have c9b0:decide (a1<0)=false:=decide_eq_false c9
    clear c9
    (first|rw [c9b0]|(simp only [i64_w,i32_w];rw [c9b0])|skip)
    have H':=ak_ H
    clear H
    have hcz10_0:=ck_ BK364 0
    have hcz10_1:=ck_ BK364 1
    have hfz10_0:=fz_ BK364 0
    have hfz10_1:=fz_ BK364 1
    go_wp2
    go_meet
    case rel=>exact ⟨_,(decide (a1 ≥ (l0_1.length:Int))),(by first|rfl|(simp;done)|(simp [*];done)),H',⟨by first|omega|exact Nat.le_refl _⟩,⟨by first|exact Kd.S_nil _ _ _ _ _|exact Kd.N_nil _ _ _ _ _|exact Kd.V_nil _ _ _ _ _|exact Kd.Q_nil _ _ _ _ _|exact Kd.R_nil _ _ _ _ _⟩,⟨bk_ BK364⟩,⟨bl_ HB⟩⟩
  ·replace c8:=Bool.eq_false_iff.mpr c8
   subst c8
   have H1:(swageref17_After.j0 k a1 ([]:List (List Int)) true a0_0 l0_1)=some r:=by rw [if_neg (show ¬ (false=true) by decide)] at H;exact H
   clear H
   have H:=H1
   clear H1
   have H':=ak_ H
   clear H
   go_wp2
   go_meet
   case rel=>exact ⟨_,(true),(by first|rfl|(simp;done)|(simp [*];done)),H',⟨by first|omega|exact Nat.le_refl _⟩,⟨by first|exact Kd.S_nil _ _ _ _ _|exact Kd.N_nil _ _ _ _ _|exact Kd.V_nil _ _ _ _ _|exact Kd.Q_nil _ _ _ _ _|exact Kd.R_nil _ _ _ _ _⟩,⟨bk_ BK364⟩,⟨bl_ HB⟩⟩
 case rest =>
  clear HC4
  obtain ⟨kq,x22_3,rfl,HA,HJ3,HO_6,BK364,HB⟩:=hcut
  cases kq with
  | zero=>exact absurd HA.out (by simp [swageref17_After.j0])
  | succ kj3 =>
   have H:=HA.out
   clear HA
   simp only [swageref17_After.j0] at H
   by_cases c11:x22_3=true
   ·subst c11
    have H1:(some ([]:List (List Int)))=some r:=by rw [if_pos rfl] at H;exact H
    clear H
    have H:=H1
    clear H1
    obtain rfl:=Option.some.inj H
    go_wp2
    go_ret
    exact ⟨_,by first|rfl|(simp [errW_none,errW_some]<;>rfl)|(simp [*,errW_none,errW_some]<;>rfl),by first|exact Kd.S_nil _ _ _ _ _|exact Kd.N_nil _ _ _ _ _|exact Kd.V_nil _ _ _ _ _|exact Kd.Q_nil _ _ _ _ _|exact Kd.R_nil _ _ _ _ _,bl_ HB⟩
   ·replace c11:=Bool.eq_false_iff.mpr c11
    subst c11
    have H1:(swageref17_After.l0 kj3 a1 ([]:List (List Int)) 0 a0_0 l0_1)=some r:=by rw [if_neg (show ¬ (false=true) by decide)] at H;exact H
    clear H
    have H:=H1
    clear H1
    have H':=ak_ H
    clear H
    go_wp2
    go_loopg [6,7] kj3 (fun kq v6 v7 w'=>∃ (x6_2:List (List Int)) (x7_2:Int),v7=.int .i64 x7_2∧Aside0 (swageref17_After.l0 kq a1 x6_2 x7_2 a0_0 l0_1=some r)∧Aside0 (kq≤kj3)∧Aside0 (Kd.S (Kd.slice 3 (Kd.int .i64)) 31 w' w.heap.size (fun _=>True) v6 x6_2)∧Aside0 (w'.heap[gb364]?=some (.cells #[.int .i64 a0_0,(.slice A0_1 l0_1.length c0_1)] 24 (0,0)))∧Aside0 (Below w.heap.size w w'))
    case atStart=>exact ⟨(([]:List (List Int))),(0),(by first|rfl|(simp;done)|(simp [*];done)),H',⟨Nat.le_refl _⟩,⟨by (with_reducible repeat (first|apply Kd.S_alloc|apply Kd.S_drewN|apply Kd.S_drew));exact HO_6.out⟩,⟨bk_ BK364⟩,⟨bl_ HB⟩⟩
    case round =>
     clear H'
     obtain ⟨x6_2,x7_2,rfl,HA,HK2,HO_6,BK364,HB⟩:=hrel
     cases gk with
     | zero=>exact absurd HA.out (by simp [swageref17_After.l0])
     | succ k2 =>
      have H:=HA.out
      clear HA
      simp only [swageref17_After.l0] at H
      by_cases c12:0≤a1
      ·rw [if_pos c12] at H
       have c12b0:decide (0≤a1)=true:=decide_eq_true c12
       clear c12
       by_cases c13:a1<(l0_1.length:Int)
       ·rw [if_pos c13] at H
        have c13b0:decide (a1<(l0_1.length:Int))=true:=decide_eq_true c13
        clear c13
        by_cases c14:x7_2<(((rd_T50 l0_1 a1).f0).length:Int)
        ·rw [if_pos c14] at H
         have c14b0:decide (x7_2<(((rd_T50 l0_1 a1).f0).length:Int))=true:=decide_eq_true c14
         clear c14
         replace H:=Option.bind_eq_some_iff.mp H
         obtain ⟨t367,A150,H⟩:=H
         replace H:(if x6_2.length<5864062014805 then (swageref17_After.l0 k2 a1 (x6_2++[t367]) (wrap64 (x7_2+1)) a0_0 l0_1) else (none))=some r:=H
         have A15:=ak_ A150
         clear A150
         by_cases c16:x6_2.length<5864062014805
         ·rw [if_pos c16] at H
          have LMc16:=ak_ c16
          clear c16
          obtain ⟨y370,hy370⟩:∃ y_:List (List Int),y_=(x6_2++[t367]):=⟨_,rfl⟩
          replace H:(swageref17_After.l0 k2 a1 y370 (wrap64 (x7_2+1)) a0_0 l0_1)=some r:=by first|(rw [hy370];with_reducible exact H)|(have H2_:=(Option.bind_some _ _).symm.trans H;rw [hy370];with_reducible exact H2_)|(have H2_:=(Option.bind_some _ _).symm.trans H;with_reducible exact H2_)|with_reducible exact H|(rw [hy370];exact H)|exact H
          have Ny370:=ak_ hy370
          clear hy370
          have H':=ak_ H
          clear H
          have hcz17_0:=ck_ BK364 0
          have hcz17_1:=ck_ BK364 1
          have hfz17_0:=fz_ BK364 0
          have hfz17_1:=fz_ BK364 1
          have p366:0≤(a1:Int):=of_decide_eq_true (by first|(with_reducible assumption)|assumption)
          have q366:a1<(l0_1.length:Int):=of_decide_eq_true (by first|(with_reducible assumption)|assumption)
          obtain ⟨ad366,A366_0,c366_0,e366,hx366_0,hx366_1,hx366_2,hx366_3,hx366_4,hl366_0,hi366_0⟩:=at_T50 HR0_1.out a1 p366 q366
          cases e366
          replace hx366_0:=cl_ HB hx366_0
          replace hx366_1:=cl_ HB hx366_1
          replace hx366_2:=cl_ HB hx366_2
          replace hx366_3:=cl_ HB hx366_3
          replace hx366_4:=cl_ HB hx366_4
          have HR366_0:=ak_ hi366_0
          have HC366_0:=ak_ hl366_0
          clear hi366_0 hl366_0
          replace p366:=eq_true p366
          replace q366:=eq_true q366
          go_wp2_with (first|((with_reducible refine gate_callee (f:=51) rfl ?_);refine goesL_ (some 39) rfl rfl Tryz.func51 (by kernel_rfl) rfl #[.agg #[.int .i64 a0_0,.slice (some ad366) l0_1.length c0_1],.int .i64 a1,.int .i64 (wrap64 (x7_2+1))] rfl (by (try simp only [List.map_toArray,List.map_cons,List.map_nil]);first|done|rfl|(simp only [List.length_drop,List.length_take];rfl)) ?_;(with_reducible refine (swageref17_at.calls a0_0 _ _ l0_1 a1 (wrap64 (x7_2+1)) t367 _ ?side1 ?side2 A15.out).mono ?_);(case side1=>repeat (first|exact (Kd.C_below HR0_1.out HB.out)|(with_reducible refine Kd.C_alloc ?_ _)|(with_reducible refine Kd.C_drewN ?_ _)|(with_reducible refine Kd.C_drew ?_)));(case side2=>exact HC0_1.out);rintro e w18 ⟨v368,rfl,ho0,hb⟩;refine ⟨_,rfl,?_⟩;have n0_:=ak_ (Kd.S_elder' (by (with_reducible repeat (first|apply Kd.S_alloc|apply Kd.S_drewN|apply Kd.S_drew));exact HO_6.out) (Kd.R_base ho0) hb);have n1_:=ak_ (Kd.R_lower ho0 (below_size (bl_ HB)));have n2_:=ak_ (blk_below (g:=gb364) (o:=.cells #[.int .i64 a0_0,.slice (some ad366) l0_1.length c0_1] 24 (0,0)) (bk_ BK364) hb);have n3_:=ak_ (below_step (bl_ HB) hb);clear HO_6;clear BK364;clear HB;have HO_6:=n0_;have HO369:=n1_;have BK364:=n2_;have HB:=n3_;clear n0_ n1_ n2_ n3_;(try clear hb);(try clear hb2);(try clear hk);(try clear hi);(try clear ho0);obtain ⟨Ao20,co20,eo20⟩:=Kd.R_slice HO369.out;subst eo20)|((with_reducible refine gate_builtin (b:=.append) (xs:=#[.tmp 34,.tmp 40]) rfl ?_);(try (refine gate_guard (by rfl) ?_;dsimp only));at_builtin;refine Kd.S_append (Kd.slice 3 (Kd.int .i64)) (w0:=w) w.heap.size rfl (.tmp 34) (.tmp 40) 35 31 (.slice none 0 0) 24 rfl Tryz.underlying35 info31 rfl (by decide) (by omega) u6 x6_2 t367 [.slice Ao20 t367.length co20] (fun _=>True) (fun k_=>some k_=(.slice Ao20 t367.length co20:Value).ownBlock) rfl rfl ?aP (fun k_ hk_=>((Kd.R_mono (ok':=fun k_=>((fun _=>True)) k_∧some k_≠(u6:Value).ownBlock) (Kd.R_apart' (HO369.out) (Kd.S_typed HO_6.out) (by decide)) (fun k_ hk=>⟨trivial,hk.2⟩))).1 k_ hk_.symm) ?aF ?aO ?aB ?aS ?aL ?_;(case aP=>exact Kd.M_row (Kd.R_mono (Kd.R_tight rfl (Kd.R_mono (ok':=fun k_=>((fun _=>True)) k_∧some k_≠(u6:Value).ownBlock) (Kd.R_apart' (HO369.out) (Kd.S_typed HO_6.out) (by decide)) (fun k_ hk=>⟨trivial,hk.2⟩))) (fun _ h_=>h_)));(case aB=>exact (bl_ HB));(case aF=>exact (fun _ _=>trivial));(case aO=>exact (by (with_reducible repeat (first|apply Kd.S_alloc|apply Kd.S_drewN|apply Kd.S_drew));exact Kd.S_mono HO_6.out (fun k_ hk=>⟨trivial,fun e_=>hk.2 e_⟩)));(case aS=>exact (below_size (bl_ HB)));(case aL=>have:=LMc16.out;omega);intro v371 w19 ho hb hg hat;rw [← Ny370.out] at ho;have n0_:=ak_ (blk_grown (g:=gb364) (o:=.cells #[.int .i64 a0_0,.slice (some ad366) l0_1.length c0_1] 24 (0,0)) (bk_ BK364) hg (Kd.S_ne HO_6.out BK364.out (by decide)));have n1_:=ak_ (hb);have n2_:=ak_ (ho);clear BK364;clear HB;clear HO_6;clear HO369;have BK364:=n0_;have HB:=n1_;have HO372:=n2_;clear n0_ n1_ n2_;clear ho hb hg hat))
          go_roundg k2
          case measure=>have:=HJ3.out;have:=HK2.out;omega
          case rel=>exact ⟨(y370),(wrap64 (x7_2+1)),(by first|rfl|(simp;done)|(simp [*];done)),H',⟨by have:=HJ3.out;have:=HK2.out;omega⟩,⟨by (with_reducible repeat (first|apply Kd.S_alloc|apply Kd.S_drewN|apply Kd.S_drew));exact HO372.out⟩,⟨bk_ BK364⟩,⟨bl_ HB⟩⟩
         ·rw [if_neg c16] at H
          exact absurd H (by simp)
        ·rw [if_neg c14] at H
         have c14b0:decide (x7_2<(((rd_T50 l0_1 a1).f0).length:Int))=false:=decide_eq_false c14
         clear c14
         obtain rfl:=Option.some.inj H
         have hcz21_0:=ck_ BK364 0
         have hcz21_1:=ck_ BK364 1
         have hfz21_0:=fz_ BK364 0
         have hfz21_1:=fz_ BK364 1
         have p366:0≤(a1:Int):=of_decide_eq_true (by first|(with_reducible assumption)|assumption)
         have q366:a1<(l0_1.length:Int):=of_decide_eq_true (by first|(with_reducible assumption)|assumption)
         obtain ⟨ad366,A366_0,c366_0,e366,hx366_0,hx366_1,hx366_2,hx366_3,hx366_4,hl366_0,hi366_0⟩:=at_T50 HR0_1.out a1 p366 q366
         cases e366
         replace hx366_0:=cl_ HB hx366_0
         replace hx366_1:=cl_ HB hx366_1
         replace hx366_2:=cl_ HB hx366_2
         replace hx366_3:=cl_ HB hx366_3
         replace hx366_4:=cl_ HB hx366_4
         have HR366_0:=ak_ hi366_0
         have HC366_0:=ak_ hl366_0
         clear hi366_0 hl366_0
         replace p366:=eq_true p366
         replace q366:=eq_true q366
         go_wp2
         go_ret
         exact ⟨_,by first|rfl|(simp [errW_none,errW_some]<;>rfl)|(simp [*,errW_none,errW_some]<;>rfl),by (with_reducible repeat (first|apply Kd.S_alloc|apply Kd.S_drewN|apply Kd.S_drew));exact HO_6.out,bl_ HB⟩
       ·rw [if_neg c13] at H
        exact absurd H (by simp)
      ·rw [if_neg c12] at H
       exact absurd H (by simp)

-- NOT PRINTED: function 31 (swageref17_Dead)

