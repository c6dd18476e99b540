-- a text of the seat,by a program
import Derived.Test.YtnkgbnbbmcoiiaaGreatBk
import Derived.Test.YtnkgbnbbmcoiiaaGreatS14
import Derived.Test.YtnkgbnbbmcoiiaaGreatS0
import Derived.Test.YtnkgbnbbmcoiiaaGreatS11
import Derived.Test.YtnkgbnbbmcoiiaaGreatOo17
namespace Go.Proofs.YtnkgbnbbmcoiiaaGreat.S
open Go.RowKit Go.Proofs.YtnkgbnbbmcoiiaaGreatW.PrintWords Go.Proofs.YtnkgbnbbmcoiiaaGreatW.PrintLast Go.Proofs.YtnkgbnbbmcoiiaaGreatW.PrintMore
attribute [local go_sem] max2_int min2_int max_two min_two max_three min_three max_four min_four   -- for this text's walks alone
set_option linter.unusedVariables false
set_option linter.unusedSimpArgs false

/-! ### swageref17_In: function 22 -/
noncomputable def swageref17_In.l0:Nat→Bool→List (List Int)→Int→Int→List (S50)→Option ((List (List Int)))
 | 0,_,_,_,_,_=>none
 | k+1,x3,x4,x5,x339000,x339001=>if x5<(x339001.length:Int) then (if x3=true then ((swageref17_at.f x339000 x339001 x5 0).bind fun t340=>(if x4.length<5864062014805 then (swageref17_In.l0 k x3 (x4++[t340]) (wrap64 (x5+1)) x339000 x339001) else (none))) else (some x4)) else (some x4)
noncomputable def swageref17_In.f (k:Nat) (a0_0:Int) (l0_1:List (S50)):Option ((List (List Int))):=(swageref14_Right.f k a0_0 l0_1 256).bind fun t339=>(swageref17_In.l0 k t339 ([]:List (List Int)) 0 a0_0 l0_1)
set_option maxHeartbeats 8000000 in
set_option maxRecDepth 100000 in
theorem swageref17_In.calls (k:Nat) (a0_0:Int) (A0_1:Option Addr) (c0_1:Nat) (l0_1:List (S50)) (r:List (List Int)) (w:World) (hr0_1:Kd.C k50 w A0_1 l0_1.length l0_1) (hc0_1:l0_1.length≤c0_1) (h:swageref17_In.f k a0_0 l0_1=some r) :
  Calls Tryz.prog 22 #[.agg #[.int .i64 a0_0,.slice A0_1 l0_1.length c0_1]] w fun e w'=>∃ v0_:Value,e=.returned (v0_)∧Kd.S (Kd.slice 3 (Kd.int .i64)) 31 w' w.heap.size (fun _=>True) v0_ r∧Below w.heap.size w w':=by
 have hu24:=Tryz.underlying24
 have HR0_1:=ak_ hr0_1
 have HC0_1:=ak_ hc0_1
 clear hr0_1 hc0_1
 have HB:=ak_ (Below.refl w.heap.size w)
 have H:((swageref14_Right.f k a0_0 l0_1 256).bind fun t339=>(swageref17_In.l0 k t339 ([]:List (List Int)) 0 a0_0 l0_1))=some r:=h
 clear h
 replace H:=Option.bind_eq_some_iff.mp H
 obtain ⟨t339,A20,H⟩:=H
 replace H:(swageref17_In.l0 k t339 ([]:List (List Int)) 0 a0_0 l0_1)=some r:=H
 have A2:=ak_ A20
 clear A20
 have H':=ak_ H
 clear H
 go_enter Tryz.func22,Tryz.ntmps22
 go_wp2_with (first|((with_reducible refine gate_dst (N:=1) rfl ?_);refine box_event ?hg (N:=1) ?hd (cs:=#[.int .i64 a0_0,.slice A0_1 l0_1.length c0_1]) (t:=24) ?hr ?_;(case hd=>rfl);(case hg=>rfl);(case hr=>first|(go_simp;done)|(go_simp;rfl));intro gb338 hg w3 hbox hb;have n0_:=ak_ (below_step (bl_ HB) hb);have n1_:=ak_ (hbox);have n2_:=ak_ ((by rw [hg];exact (below_size (bl_ HB)):w.heap.size≤gb338));have n3_:=ak_ ((by rw [hg];exact (below_size (bl_ HB)):w.heap.size≤gb338));clear HB;have HB:=n0_;have BK338:=n1_;have GW338:=n2_;have GE338:=n3_;clear n0_ n1_ n2_ n3_;clear hb hbox hg;have hcz4_0:=ck_ BK338 0;have hcz4_1:=ck_ BK338 1;have hfz4_0:=fz_ BK338 0;have hfz4_1:=fz_ BK338 1)|((with_reducible refine gate_callee (f:=46) rfl ?_);refine goesL_ (some 7) rfl rfl Tryz.func46 (by kernel_rfl) rfl #[.agg #[.int .i64 a0_0,.slice A0_1 l0_1.length c0_1],.int .i64 256] rfl (by (try simp only [List.map_toArray,List.map_cons,List.map_nil]);first|done|rfl|(simp only [List.length_drop,List.length_take];rfl)) ?_;(with_reducible refine (swageref14_Right.calls k a0_0 _ _ l0_1 256 t339 _ ?side1 ?side2 A2.out).mono ?_);(case side1=>repeat (first|exact (Kd.C_below HR0_1.out HB.out)|(with_reducible refine Kd.C_alloc ?_ _)|(with_reducible refine Kd.C_drewN ?_ _)|(with_reducible refine Kd.C_drew ?_)));(case side2=>exact HC0_1.out);rintro e w5 ⟨rfl,hb⟩;refine ⟨_,rfl,?_⟩;have n0_:=ak_ (blk_below (g:=gb338) (o:=.cells #[.int .i64 a0_0,.slice A0_1 l0_1.length c0_1] 24 (0,0)) (bk_ BK338) hb);have n1_:=ak_ (below_step (bl_ HB) hb);clear BK338;clear HB;have BK338:=n0_;have HB:=n1_;clear n0_ n1_;(try clear hb);(try clear hb2);(try clear hk);(try clear hi)))
 go_loopg [4,5] k (fun kq v4 v5 w'=>∃ (x4_1:List (List Int)) (x5_1:Int),v5=.int .i64 x5_1∧Aside0 (swageref17_In.l0 kq t339 x4_1 x5_1 a0_0 l0_1=some r)∧Aside0 (kq≤k)∧Aside0 (Kd.S (Kd.slice 3 (Kd.int .i64)) 31 w' w.heap.size (fun _=>True) v4 x4_1)∧Aside0 (w'.heap[gb338]?=some (.cells #[.int .i64 a0_0,(.slice A0_1 l0_1.length c0_1)] 24 (0,0)))∧Aside0 (Below w.heap.size w w'))
 case atStart=>exact ⟨(([]:List (List Int))),(0),(by first|rfl|(simp;done)|(simp [*];done)),H',⟨Nat.le_refl _⟩,⟨by first|exact Kd.S_nil _ _ _ _ _|exact Kd.N_nil _ _ _ _ _|exact Kd.V_nil _ _ _ _ _|exact Kd.Q_nil _ _ _ _ _|exact Kd.R_nil _ _ _ _ _⟩,⟨bk_ BK338⟩,⟨bl_ HB⟩⟩
 case round =>
  clear H'
  obtain ⟨x4_1,x5_1,rfl,HA,HK1,HO_4,BK338,HB⟩:=hrel
  cases gk with
  | zero=>exact absurd HA.out (by simp [swageref17_In.l0])
  | succ k1 =>
   have H:=HA.out
   clear HA
   simp only [swageref17_In.l0] at H
   by_cases c6:x5_1<(l0_1.length:Int)
   ·rw [if_pos c6] at H
    have c6b0:decide (x5_1<(l0_1.length:Int))=true:=decide_eq_true c6
    clear c6
    by_cases c7:t339=true
    ·subst c7
     have H1:((swageref17_at.f a0_0 l0_1 x5_1 0).bind fun t340=>(if x4_1.length<5864062014805 then (swageref17_In.l0 k1 true (x4_1++[t340]) (wrap64 (x5_1+1)) a0_0 l0_1) else (none)))=some r:=by rw [if_pos rfl] at H;exact H
     clear H
     have H:=H1
     clear H1
     replace H:=Option.bind_eq_some_iff.mp H
     obtain ⟨t340,A80,H⟩:=H
     replace H:(if x4_1.length<5864062014805 then (swageref17_In.l0 k1 true (x4_1++[t340]) (wrap64 (x5_1+1)) a0_0 l0_1) else (none))=some r:=H
     have A8:=ak_ A80
     clear A80
     by_cases c9:x4_1.length<5864062014805
     ·rw [if_pos c9] at H
      have LMc9:=ak_ c9
      clear c9
      obtain ⟨y343,hy343⟩:∃ y_:List (List Int),y_=(x4_1++[t340]):=⟨_,rfl⟩
      replace H:(swageref17_In.l0 k1 true y343 (wrap64 (x5_1+1)) a0_0 l0_1)=some r:=by first|(rw [hy343];with_reducible exact H)|(have H2_:=(Option.bind_some _ _).symm.trans H;rw [hy343];with_reducible exact H2_)|(have H2_:=(Option.bind_some _ _).symm.trans H;with_reducible exact H2_)|with_reducible exact H|(rw [hy343];exact H)|exact H
      have Ny343:=ak_ hy343
      clear hy343
      have H':=ak_ H
      clear H
      have hcz10_0:=ck_ BK338 0
      have hcz10_1:=ck_ BK338 1
      have hfz10_0:=fz_ BK338 0
      have hfz10_1:=fz_ BK338 1
      go_wp2_with (first|((with_reducible refine gate_callee (f:=51) rfl ?_);refine goesL_ (some 21) rfl rfl Tryz.func51 (by kernel_rfl) rfl #[.agg #[.int .i64 a0_0,.slice A0_1 l0_1.length c0_1],.int .i64 x5_1,.int .i64 0] rfl (by (try simp only [List.map_toArray,List.map_cons,List.map_nil]);first|done|rfl|(simp only [List.length_drop,List.length_take];rfl)) ?_;(with_reducible refine (swageref17_at.calls a0_0 _ _ l0_1 x5_1 0 t340 _ ?side1 ?side2 A8.out).mono ?_);(case side1=>repeat (first|exact (Kd.C_below HR0_1.out HB.out)|(with_reducible refine Kd.C_alloc ?_ _)|(with_reducible refine Kd.C_drewN ?_ _)|(with_reducible refine Kd.C_drew ?_)));(case side2=>exact HC0_1.out);rintro e w11 ⟨v341,rfl,ho0,hb⟩;refine ⟨_,rfl,?_⟩;have n0_:=ak_ (Kd.S_elder' (by (with_reducible repeat (first|apply Kd.S_alloc|apply Kd.S_drewN|apply Kd.S_drew));exact HO_4.out) (Kd.R_base ho0) hb);have n1_:=ak_ (Kd.R_lower ho0 (below_size (bl_ HB)));have n2_:=ak_ (blk_below (g:=gb338) (o:=.cells #[.int .i64 a0_0,.slice A0_1 l0_1.length c0_1] 24 (0,0)) (bk_ BK338) hb);have n3_:=ak_ (below_step (bl_ HB) hb);clear HO_4;clear BK338;clear HB;have HO_4:=n0_;have HO342:=n1_;have BK338:=n2_;have HB:=n3_;clear n0_ n1_ n2_ n3_;(try clear hb);(try clear hb2);(try clear hk);(try clear hi);(try clear ho0);obtain ⟨Ao13,co13,eo13⟩:=Kd.R_slice HO342.out;subst eo13)|((with_reducible refine gate_builtin (b:=.append) (xs:=#[.tmp 18,.tmp 22]) rfl ?_);at_builtin;refine Kd.S_append (Kd.slice 3 (Kd.int .i64)) (w0:=w) w.heap.size rfl (.tmp 18) (.tmp 22) 35 31 (.slice none 0 0) 24 rfl Tryz.underlying35 info31 rfl (by decide) (by omega) u4 x4_1 t340 [.slice Ao13 t340.length co13] (fun _=>True) (fun k_=>some k_=(.slice Ao13 t340.length co13:Value).ownBlock) rfl rfl ?aP (fun k_ hk_=>((Kd.R_mono (ok':=fun k_=>((fun _=>True)) k_∧some k_≠(u4:Value).ownBlock) (Kd.R_apart' (HO342.out) (Kd.S_typed HO_4.out) (by decide)) (fun k_ hk=>⟨trivial,hk.2⟩))).1 k_ hk_.symm) ?aF ?aO ?aB ?aS ?aL ?_;(case aP=>exact Kd.M_row (Kd.R_mono (Kd.R_tight rfl (Kd.R_mono (ok':=fun k_=>((fun _=>True)) k_∧some k_≠(u4:Value).ownBlock) (Kd.R_apart' (HO342.out) (Kd.S_typed HO_4.out) (by decide)) (fun k_ hk=>⟨trivial,hk.2⟩))) (fun _ h_=>h_)));(case aB=>exact (bl_ HB));(case aF=>exact (fun _ _=>trivial));(case aO=>exact (by (with_reducible repeat (first|apply Kd.S_alloc|apply Kd.S_drewN|apply Kd.S_drew));exact Kd.S_mono HO_4.out (fun k_ hk=>⟨trivial,fun e_=>hk.2 e_⟩)));(case aS=>exact (below_size (bl_ HB)));(case aL=>have:=LMc9.out;omega);intro v344 w12 ho hb hg hat;rw [← Ny343.out] at ho;have n0_:=ak_ (blk_grown (g:=gb338) (o:=.cells #[.int .i64 a0_0,.slice A0_1 l0_1.length c0_1] 24 (0,0)) (bk_ BK338) hg (Kd.S_ne HO_4.out BK338.out (by decide)));have n1_:=ak_ (hb);have n2_:=ak_ (ho);clear BK338;clear HB;clear HO_4;clear HO342;have BK338:=n0_;have HB:=n1_;have HO345:=n2_;clear n0_ n1_ n2_;clear ho hb hg hat))
      go_roundg k1
      case measure=>have:=HK1.out;omega
      case rel=>exact ⟨(y343),(wrap64 (x5_1+1)),(by first|rfl|(simp;done)|(simp [*];done)),H',⟨by have:=HK1.out;omega⟩,⟨by (with_reducible repeat (first|apply Kd.S_alloc|apply Kd.S_drewN|apply Kd.S_drew));exact HO345.out⟩,⟨bk_ BK338⟩,⟨bl_ HB⟩⟩
     ·rw [if_neg c9] at H
      exact absurd H (by simp)
    ·replace c7:=Bool.eq_false_iff.mpr c7
     subst c7
     have H1:(some x4_1)=some r:=by rw [if_neg (show ¬ (false=true) by decide)] at H;exact H
     clear H
     have H:=H1
     clear H1
     obtain rfl:=Option.some.inj H
     have hcz14_0:=ck_ BK338 0
     have hcz14_1:=ck_ BK338 1
     have hfz14_0:=fz_ BK338 0
     have hfz14_1:=fz_ BK338 1
     go_wp2
     go_ret
     exact ⟨_,by first|rfl|(simp [errW_none,errW_some]<;>rfl)|(simp [*,errW_none,errW_some]<;>rfl),by (with_reducible repeat (first|apply Kd.S_alloc|apply Kd.S_drewN|apply Kd.S_drew));exact HO_4.out,bl_ HB⟩
   ·rw [if_neg c6] at H
    have c6b0:decide (x5_1<(l0_1.length:Int))=false:=decide_eq_false c6
    clear c6
    obtain rfl:=Option.some.inj H
    have hcz15_0:=ck_ BK338 0
    have hcz15_1:=ck_ BK338 1
    have hfz15_0:=fz_ BK338 0
    have hfz15_1:=fz_ BK338 1
    go_wp2
    go_ret
    exact ⟨_,by first|rfl|(simp [errW_none,errW_some]<;>rfl)|(simp [*,errW_none,errW_some]<;>rfl),by (with_reducible repeat (first|apply Kd.S_alloc|apply Kd.S_drewN|apply Kd.S_drew));exact HO_4.out,bl_ HB⟩

