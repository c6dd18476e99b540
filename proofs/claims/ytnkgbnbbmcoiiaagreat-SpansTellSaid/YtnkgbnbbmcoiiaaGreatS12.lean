-- a text of the seat,by a program
import Derived.Test.YtnkgbnbbmcoiiaaGreatBk
import Derived.Test.YtnkgbnbbmcoiiaaGreatS0
namespace Go.Proofs.YtnkgbnbbmcoiiaaGreat.S
open Go.RowKit Go.Proofs.YtnkgbnbbmcoiiaaGreatW.PrintWords Go.Proofs.YtnkgbnbbmcoiiaaGreatW.PrintLast Go.Proofs.YtnkgbnbbmcoiiaaGreatW.PrintMore
attribute [local go_sem] max2_int min2_int max_two min_two max_three min_three max_four min_four   -- for this text's walks alone
set_option linter.unusedVariables false
set_option linter.unusedSimpArgs false

/-! ### swageref14_Succ: function 54 -/
def swageref14_Succ.l0:Nat→List (List Int)→Int→Int→List (S50)→Option ((List (List Int)))
 | 0,_,_,_,_=>none
 | k+1,x3,x4,x255000,x255001=>if x4<(x255001.length:Int) then (if 0≤x4 then (if ((rd_T50 x255001 x4).f1.f0)=1 then (if ((rd_T50 x255001 x4).f1.f0)=2 then (if x3.length<5864062014805 then (swageref14_Succ.l0 k (x3++[(([(rd_T50 x255001 x4).f1.f2,(rd_T50 x255001 x4).f1.f3]:List Int))]) (wrap64 (x4+1)) x255000 x255001) else (none)) else (if x3.length<5864062014805 then (swageref14_Succ.l0 k (x3++[(([(rd_T50 x255001 x4).f1.f2]:List Int))]) (wrap64 (x4+1)) x255000 x255001) else (none))) else (if ((rd_T50 x255001 x4).f1.f0)=2 then (if x3.length<5864062014805 then (swageref14_Succ.l0 k (x3++[(([(rd_T50 x255001 x4).f1.f2,(rd_T50 x255001 x4).f1.f3]:List Int))]) (wrap64 (x4+1)) x255000 x255001) else (none)) else (if x3.length<5864062014805 then (swageref14_Succ.l0 k (x3++[([]:List Int)]) (wrap64 (x4+1)) x255000 x255001) else (none)))) else (none)) else (some x3)
def swageref14_Succ.f (k:Nat) (a0_0:Int) (l0_1:List (S50)):Option ((List (List Int))):=swageref14_Succ.l0 k ([]:List (List Int)) 0 a0_0 l0_1
set_option maxHeartbeats 8000000 in
set_option maxRecDepth 100000 in
theorem swageref14_Succ.calls (k:Nat) (a0_0:Int) (A0_1:Option Addr) (c0_1:Nat) (l0_1:List (S50)) (r:List (List Int)) (w:World) (hr0_1:Kd.C k50 w A0_1 l0_1.length l0_1) (hc0_1:l0_1.length≤c0_1) (h:swageref14_Succ.f k a0_0 l0_1=some r) :
  Calls Tryz.prog 54 #[.agg #[.int .i64 a0_0,.slice A0_1 l0_1.length c0_1]] w fun e w'=>∃ v0_:Value,e=.returned (v0_)∧Kd.S (Kd.slice 3 (Kd.int .i64)) 31 w' w.heap.size (fun _=>True) v0_ r∧Below w.heap.size w w':=by
 have hu24:=Tryz.underlying24
 have hu48:=Tryz.underlying48
 have HR0_1:=ak_ hr0_1
 have HC0_1:=ak_ hc0_1
 clear hr0_1 hc0_1
 have HB:=ak_ (Below.refl w.heap.size w)
 have H:(swageref14_Succ.l0 k ([]:List (List Int)) 0 a0_0 l0_1)=some r:=h
 clear h
 have H':=ak_ H
 clear H
 go_enter Tryz.func54,Tryz.ntmps54
 go_wp2_with (first|((with_reducible refine gate_dst (N:=1) rfl ?_);refine box_event ?hg (N:=1) ?hd (cs:=#[.int .i64 a0_0,.slice A0_1 l0_1.length c0_1]) (t:=24) ?hr ?_;(case hd=>rfl);(case hg=>rfl);(case hr=>first|(go_simp;done)|(go_simp;rfl));intro gb254 hg w2 hbox hb;have n0_:=ak_ (below_step (bl_ HB) hb);have n1_:=ak_ (hbox);have n2_:=ak_ ((by rw [hg];exact (below_size (bl_ HB)):w.heap.size≤gb254));have n3_:=ak_ ((by rw [hg];exact (below_size (bl_ HB)):w.heap.size≤gb254));clear HB;have HB:=n0_;have BK254:=n1_;have GW254:=n2_;have GE254:=n3_;clear n0_ n1_ n2_ n3_;clear hb hbox hg))
 go_loopg [3,4] k (fun kq v3 v4 w'=>∃ (x3_1:List (List Int)) (x4_1:Int),v4=.int .i64 x4_1∧Aside0 (swageref14_Succ.l0 kq x3_1 x4_1 a0_0 l0_1=some r)∧Aside0 (kq≤k)∧Aside0 (Kd.S (Kd.slice 3 (Kd.int .i64)) 31 w' w.heap.size (fun _=>True) v3 x3_1)∧Aside0 (w'.heap[gb254]?=some (.cells #[.int .i64 a0_0,(.slice A0_1 l0_1.length c0_1)] 24 (0,0)))∧Aside0 (Below w.heap.size w w'))
 case atStart=>exact ⟨(([]:List (List Int))),(0),(by first|rfl|(simp;done)|(simp [*];done)),H',⟨Nat.le_refl _⟩,⟨by first|exact Kd.S_nil _ _ _ _ _|exact Kd.N_nil _ _ _ _ _|exact Kd.V_nil _ _ _ _ _|exact Kd.Q_nil _ _ _ _ _|exact Kd.R_nil _ _ _ _ _⟩,⟨bk_ BK254⟩,⟨bl_ HB⟩⟩
 case round =>
  clear H'
  obtain ⟨x3_1,x4_1,rfl,HA,HK1,HO_3,BK254,HB⟩:=hrel
  cases gk with
  | zero=>exact absurd HA.out (by simp [swageref14_Succ.l0])
  | succ k1 =>
   have H:=HA.out
   clear HA
   simp only [swageref14_Succ.l0] at H
   by_cases c3:x4_1<(l0_1.length:Int)
   ·rw [if_pos c3] at H
    have c3b0:decide (x4_1<(l0_1.length:Int))=true:=decide_eq_true c3
    clear c3
    by_cases c4:0≤x4_1
    ·rw [if_pos c4] at H
     have c4b0:decide (0≤x4_1)=true:=decide_eq_true c4
     clear c4
     by_cases c5:((rd_T50 l0_1 x4_1).f1.f0)=1
     ·rw [if_pos c5] at H
      have c5b0:(((rd_T50 l0_1 x4_1).f1.f0) == 1)=true:=beq_iff_eq.mpr c5
      have c5b1:(((rd_T50 l0_1 x4_1).f1.f0) != 1)=false:=bne_eq_false_iff_eq.mpr c5
      clear c5
      obtain ⟨y257,hy257⟩:∃ y_:List Int,y_=(([(rd_T50 l0_1 x4_1).f1.f2]:List Int)):=⟨_,rfl⟩
      replace H:(if ((rd_T50 l0_1 x4_1).f1.f0)=2 then (if x3_1.length<5864062014805 then (swageref14_Succ.l0 k1 (x3_1++[(([(rd_T50 l0_1 x4_1).f1.f2,(rd_T50 l0_1 x4_1).f1.f3]:List Int))]) (wrap64 (x4_1+1)) a0_0 l0_1) else (none)) else (if x3_1.length<5864062014805 then (swageref14_Succ.l0 k1 (x3_1++[y257]) (wrap64 (x4_1+1)) a0_0 l0_1) else (none)))=some r:=by first|(rw [hy257];with_reducible exact H)|(have H2_:=(Option.bind_some _ _).symm.trans H;rw [hy257];with_reducible exact H2_)|(have H2_:=(Option.bind_some _ _).symm.trans H;with_reducible exact H2_)|with_reducible exact H|(rw [hy257];exact H)|exact H
      have Ny257:=ak_ hy257
      clear hy257
      by_cases c6:((rd_T50 l0_1 x4_1).f1.f0)=2
      ·rw [if_pos c6] at H
       have c6b0:(((rd_T50 l0_1 x4_1).f1.f0) == 2)=true:=beq_iff_eq.mpr c6
       have c6b1:(((rd_T50 l0_1 x4_1).f1.f0) != 2)=false:=bne_eq_false_iff_eq.mpr c6
       clear c6
       obtain ⟨y260,hy260⟩:∃ y_:List Int,y_=(([(rd_T50 l0_1 x4_1).f1.f2,(rd_T50 l0_1 x4_1).f1.f3]:List Int)):=⟨_,rfl⟩
       replace H:(if x3_1.length<5864062014805 then (swageref14_Succ.l0 k1 (x3_1++[y260]) (wrap64 (x4_1+1)) a0_0 l0_1) else (none))=some r:=by first|(rw [hy260];with_reducible exact H)|(have H2_:=(Option.bind_some _ _).symm.trans H;rw [hy260];with_reducible exact H2_)|(have H2_:=(Option.bind_some _ _).symm.trans H;with_reducible exact H2_)|with_reducible exact H|(rw [hy260];exact H)|exact H
       have Ny260:=ak_ hy260
       clear hy260
       by_cases c7:x3_1.length<5864062014805
       ·rw [if_pos c7] at H
        have LMc7:=ak_ c7
        clear c7
        obtain ⟨y263,hy263⟩:∃ y_:List (List Int),y_=(x3_1++[y260]):=⟨_,rfl⟩
        replace H:(swageref14_Succ.l0 k1 y263 (wrap64 (x4_1+1)) a0_0 l0_1)=some r:=by first|(rw [hy263];with_reducible exact H)|(have H2_:=(Option.bind_some _ _).symm.trans H;rw [hy263];with_reducible exact H2_)|(have H2_:=(Option.bind_some _ _).symm.trans H;with_reducible exact H2_)|with_reducible exact H|(rw [hy263];exact H)|exact H
        have Ny263:=ak_ hy263
        clear hy263
        have H':=ak_ H
        clear H
        have hcz8_0:=ck_ BK254 0
        have hcz8_1:=ck_ BK254 1
        have hfz8_0:=fz_ BK254 0
        have hfz8_1:=fz_ BK254 1
        have p255:0≤(x4_1:Int):=of_decide_eq_true (by first|(with_reducible assumption)|assumption)
        have q255:x4_1<(l0_1.length:Int):=of_decide_eq_true (by first|(with_reducible assumption)|assumption)
        obtain ⟨ad255,A255_0,c255_0,e255,hx255_0,hx255_1,hx255_2,hx255_3,hx255_4,hl255_0,hi255_0⟩:=at_T50 HR0_1.out x4_1 p255 q255
        cases e255
        replace hx255_0:=cl_ HB hx255_0
        replace hx255_1:=cl_ HB hx255_1
        replace hx255_2:=cl_ HB hx255_2
        replace hx255_3:=cl_ HB hx255_3
        replace hx255_4:=cl_ HB hx255_4
        have HR255_0:=ak_ hi255_0
        have HC255_0:=ak_ hl255_0
        clear hi255_0 hl255_0
        replace p255:=eq_true p255
        replace q255:=eq_true q255
        go_wp2_with (first|((with_reducible refine gate_dst (N:=5) rfl ?_);refine box_event ?hg (N:=5) ?hd (cs:=#[.int .i64 0,.int .i64 0,.int .i64 0,.int .i64 0]) (t:=48) ?hr ?_;(case hd=>rfl);(case hg=>rfl);(case hr=>first|(go_simp;done)|(go_simp;rfl));intro gb256 hg w9 hbox hb;have n0_:=ak_ (Kd.S_below (by (with_reducible repeat (first|apply Kd.S_alloc|apply Kd.S_drewN|apply Kd.S_drew));exact HO_3.out) hb);have n1_:=ak_ (blk_below (g:=gb254) (o:=.cells #[.int .i64 a0_0,.slice (some ad255) l0_1.length c0_1] 24 (0,0)) (bk_ BK254) hb);have n2_:=ak_ (below_step (bl_ HB) hb);have n3_:=ak_ (hbox);have n4_:=ak_ ((by rw [hg];exact (below_size (bl_ HB)):w.heap.size≤gb256));have n5_:=ak_ ((by rw [hg];exact (below_size (bl_ HB)):w.heap.size≤gb256));have n6_:=ak_ ((by rw [hg];exact Nat.ne_of_lt (blk_lt (g:=gb254) (o:=.cells #[.int .i64 a0_0,.slice (some ad255) l0_1.length c0_1] 24 (0,0)) (bk_ BK254)):gb254≠gb256));have n7_:=ak_ ((by rw [hg];exact Nat.ne_of_gt (blk_lt (g:=gb254) (o:=.cells #[.int .i64 a0_0,.slice (some ad255) l0_1.length c0_1] 24 (0,0)) (bk_ BK254)):gb256≠gb254));clear HO_3;clear BK254;clear HB;have HO_3:=n0_;have BK254:=n1_;have HB:=n2_;have BK256:=n3_;have GW256:=n4_;have GE256:=n5_;have NB254_256:=n6_;have NB256_254:=n7_;clear n0_ n1_ n2_ n3_ n4_ n5_ n6_ n7_;clear hb hbox hg;have hnb10:=NB256_254.out;have hnc10:=NB254_256.out;have hcz11_0:=ck_ BK256 0;have hcz11_1:=ck_ BK256 1;have hcz11_2:=ck_ BK256 2;have hcz11_3:=ck_ BK256 3;have hfz11_0:=fz_ BK256 0;have hfz11_1:=fz_ BK256 1;have hfz11_2:=fz_ BK256 2;have hfz11_3:=fz_ BK256 3)|((with_reducible refine gate_dst (N:=25) rfl ?_);refine Kd.R_lit (Kd.int .i64) _ 3 ?hg (N:=25) ?hd (xs:=([(rd_T50 l0_1 x4_1).f1.f2]:List Int)) (inner:=[.int .i64 ((rd_T50 l0_1 x4_1).f1.f2)]) (ok:=fun _=>True) (okp:=fun _=>True) ?hr ?hp (fun _ hk=>hk) trivial (Below.refl _ _) (Nat.le_refl _) (by simp) ?_;(case hd=>rfl);(case hg=>rfl);(case hr=>first|(go_simp;done)|(go_simp;rfl));(case hp=>exact (Reps.one (show Kd.M (Kd.int .i64) _ _ _ ((rd_T50 l0_1 x4_1).f1.f2) [.int .i64 ((rd_T50 l0_1 x4_1).f1.f2)] from rfl) (Reps.none _ _)));intro v258 w12 ho13 hb hg_ hnew_;clear hg_ hnew_;(first|rw [← Ny257.out] at ho13|(simp only [Int.reduceToNat] at ho13;rw [← Ny257.out] at ho13));have n0_:=ak_ (Kd.S_elder' (by (with_reducible repeat (first|apply Kd.S_alloc|apply Kd.S_drewN|apply Kd.S_drew));exact (Kd.S_mono (Kd.S_far (p:=⟨gb256,3,none⟩) (Kd.S_far (p:=⟨gb256,2,none⟩) (Kd.S_far (p:=⟨gb256,1,none⟩) (Kd.S_far (p:=⟨gb256,0,none⟩) (Kd.S_types HO_3.out BK256.out (by decide)) (fun _ hk=>hk.2) (.int .i64 ((rd_T50 l0_1 x4_1).f1.f0))) (fun _ hk=>hk.2) (.int .i64 ((rd_T50 l0_1 x4_1).f1.f1))) (fun _ hk=>hk.2) (.int .i64 ((rd_T50 l0_1 x4_1).f1.f2))) (fun _ hk=>hk.2) (.int .i64 ((rd_T50 l0_1 x4_1).f1.f3))) (fun _ h_=>h_.1))) (Kd.R_base ho13) hb);have n1_:=ak_ (Kd.R_lower ho13 (below_size (bl_ HB)));have n2_:=ak_ (blk_below (g:=gb254) (o:=.cells #[.int .i64 a0_0,.slice (some ad255) l0_1.length c0_1] 24 (0,0)) (by (with_reducible repeat (first|refine blk_drewN ?_ _|refine blk_drew ?_|refine blk_alloc ?_ _));refine blk_far ?_ NB254_256.out _;(with_reducible repeat (first|refine blk_drewN ?_ _|refine blk_drew ?_|refine blk_alloc ?_ _));refine blk_far ?_ NB254_256.out _;(with_reducible repeat (first|refine blk_drewN ?_ _|refine blk_drew ?_|refine blk_alloc ?_ _));refine blk_far ?_ NB254_256.out _;(with_reducible repeat (first|refine blk_drewN ?_ _|refine blk_drew ?_|refine blk_alloc ?_ _));refine blk_far ?_ NB254_256.out _;(with_reducible repeat (first|refine blk_drewN ?_ _|refine blk_drew ?_|refine blk_alloc ?_ _));exact BK254.out) hb);have n3_:=ak_ (blk_below (g:=gb256) (o:=.cells #[.int .i64 ((rd_T50 l0_1 x4_1).f1.f0),.int .i64 ((rd_T50 l0_1 x4_1).f1.f1),.int .i64 ((rd_T50 l0_1 x4_1).f1.f2),.int .i64 ((rd_T50 l0_1 x4_1).f1.f3)] 48 (0,0)) (by (with_reducible repeat (first|refine blk_drewN ?_ _|refine blk_drew ?_|refine blk_alloc ?_ _));refine blk_put (cs:=#[.int .i64 ((rd_T50 l0_1 x4_1).f1.f0),.int .i64 ((rd_T50 l0_1 x4_1).f1.f1),.int .i64 ((rd_T50 l0_1 x4_1).f1.f2),.int .i64 0]) ?_ 3 _ rfl;(with_reducible repeat (first|refine blk_drewN ?_ _|refine blk_drew ?_|refine blk_alloc ?_ _));refine blk_put (cs:=#[.int .i64 ((rd_T50 l0_1 x4_1).f1.f0),.int .i64 ((rd_T50 l0_1 x4_1).f1.f1),.int .i64 0,.int .i64 0]) ?_ 2 _ rfl;(with_reducible repeat (first|refine blk_drewN ?_ _|refine blk_drew ?_|refine blk_alloc ?_ _));refine blk_put (cs:=#[.int .i64 ((rd_T50 l0_1 x4_1).f1.f0),.int .i64 0,.int .i64 0,.int .i64 0]) ?_ 1 _ rfl;(with_reducible repeat (first|refine blk_drewN ?_ _|refine blk_drew ?_|refine blk_alloc ?_ _));refine blk_put (cs:=#[.int .i64 0,.int .i64 0,.int .i64 0,.int .i64 0]) ?_ 0 _ rfl;(with_reducible repeat (first|refine blk_drewN ?_ _|refine blk_drew ?_|refine blk_alloc ?_ _));exact BK256.out) hb);have n4_:=ak_ (below_step (bl_ HB) hb);clear HO_3;clear BK254;clear BK256;clear HB;have HO_3:=n0_;have HO259:=n1_;have BK254:=n2_;have BK256:=n3_;have HB:=n4_;clear n0_ n1_ n2_ n3_ n4_;clear hb ho13;have hcz14_0:=ck_ BK256 0;have hcz14_1:=ck_ BK256 1;have hcz14_2:=ck_ BK256 2;have hcz14_3:=ck_ BK256 3;have hfz14_0:=fz_ BK256 0;have hfz14_1:=fz_ BK256 1;have hfz14_2:=fz_ BK256 2;have hfz14_3:=fz_ BK256 3)|((with_reducible refine gate_dst (N:=33) rfl ?_);refine Kd.R_lit (Kd.int .i64) _ 3 ?hg (N:=33) ?hd (xs:=([(rd_T50 l0_1 x4_1).f1.f2,(rd_T50 l0_1 x4_1).f1.f3]:List Int)) (inner:=[.int .i64 ((rd_T50 l0_1 x4_1).f1.f2),.int .i64 ((rd_T50 l0_1 x4_1).f1.f3)]) (ok:=fun _=>True) (okp:=fun _=>True) ?hr ?hp (fun _ hk=>hk) trivial (Below.refl _ _) (Nat.le_refl _) (by simp) ?_;(case hd=>rfl);(case hg=>rfl);(case hr=>first|(go_simp;done)|(go_simp;rfl));(case hp=>exact (Reps.one (show Kd.M (Kd.int .i64) _ _ _ ((rd_T50 l0_1 x4_1).f1.f2) [.int .i64 ((rd_T50 l0_1 x4_1).f1.f2)] from rfl) (Reps.one (show Kd.M (Kd.int .i64) _ _ _ ((rd_T50 l0_1 x4_1).f1.f3) [.int .i64 ((rd_T50 l0_1 x4_1).f1.f3)] from rfl) (Reps.none _ _))));intro v261 w15 ho16 hb hg_ hnew_;clear hg_ hnew_;(first|rw [← Ny260.out] at ho16|(simp only [Int.reduceToNat] at ho16;rw [← Ny260.out] at ho16));have n0_:=ak_ (Kd.S_elder' (by (with_reducible repeat (first|apply Kd.S_alloc|apply Kd.S_drewN|apply Kd.S_drew));exact HO_3.out) (Kd.R_base ho16) hb);have n1_:=ak_ (Kd.R_elder' (by (with_reducible repeat (first|apply Kd.R_alloc|apply Kd.R_drewN|apply Kd.R_drew));exact HO259.out) (Kd.R_base ho16) hb);have n2_:=ak_ (Kd.R_lower (Kd.R_new' ho16 (Kd.R_lt (by (with_reducible repeat (first|apply Kd.R_alloc|apply Kd.R_drewN|apply Kd.R_drew));exact HO259.out))) (below_size (bl_ HB)));have n3_:=ak_ (blk_below (g:=gb254) (o:=.cells #[.int .i64 a0_0,.slice (some ad255) l0_1.length c0_1] 24 (0,0)) (bk_ BK254) hb);have n4_:=ak_ (blk_below (g:=gb256) (o:=.cells #[.int .i64 ((rd_T50 l0_1 x4_1).f1.f0),.int .i64 ((rd_T50 l0_1 x4_1).f1.f1),.int .i64 ((rd_T50 l0_1 x4_1).f1.f2),.int .i64 ((rd_T50 l0_1 x4_1).f1.f3)] 48 (0,0)) (bk_ BK256) hb);have n5_:=ak_ (below_step (bl_ HB) hb);clear HO_3;clear HO259;clear BK254;clear BK256;clear HB;have HO_3:=n0_;have HO259:=n1_;have HO262:=n2_;have BK254:=n3_;have BK256:=n4_;have HB:=n5_;clear n0_ n1_ n2_ n3_ n4_ n5_;clear hb ho16;obtain ⟨Ao18,co18,eo18⟩:=Kd.R_slice HO262.out;subst eo18)|((with_reducible refine gate_builtin (b:=.append) (xs:=#[.tmp 34,.tmp 36]) rfl ?_);at_builtin;refine Kd.S_append (Kd.slice 3 (Kd.int .i64)) (w0:=w) w.heap.size rfl (.tmp 34) (.tmp 36) 35 31 (.slice none 0 0) 24 rfl Tryz.underlying35 info31 rfl (by decide) (by omega) u3 x3_1 y260 [.slice Ao18 y260.length co18] (fun k_=>some k_≠(v258:Value).ownBlock) (fun k_=>some k_=(.slice Ao18 y260.length co18:Value).ownBlock) rfl rfl ?aP (fun k_ hk_=>((Kd.R_mono (ok':=fun k_=>((fun k_=>some k_≠(v258:Value).ownBlock)) k_∧some k_≠(u3:Value).ownBlock) (Kd.R_apart' (HO262.out) (Kd.S_typed HO_3.out) (by decide)) (fun k_ hk=>⟨hk.1.2,hk.2⟩))).1 k_ hk_.symm) ?aF ?aO ?aB ?aS ?aL ?_;(case aP=>exact Kd.M_row (Kd.R_mono (Kd.R_tight rfl (Kd.R_mono (ok':=fun k_=>((fun k_=>some k_≠(v258:Value).ownBlock)) k_∧some k_≠(u3:Value).ownBlock) (Kd.R_apart' (HO262.out) (Kd.S_typed HO_3.out) (by decide)) (fun k_ hk=>⟨hk.1.2,hk.2⟩))) (fun _ h_=>h_)));(case aB=>exact (bl_ HB));(case aF=>exact (fun k_ hk=>Kd.fresh' (Kd.R_lt (by (with_reducible repeat (first|apply Kd.R_alloc|apply Kd.R_drewN|apply Kd.R_drew));exact HO259.out)) k_ hk));(case aO=>exact (by (with_reducible repeat (first|apply Kd.S_alloc|apply Kd.S_drewN|apply Kd.S_drew));exact Kd.S_mono HO_3.out (fun k_ hk=>⟨hk.1.2,fun e_=>hk.2 e_⟩)));(case aS=>exact (below_size (bl_ HB)));(case aL=>have:=LMc7.out;omega);intro v264 w17 ho hb hg hat;rw [← Ny263.out] at ho;have n0_:=ak_ (blk_grown (g:=gb254) (o:=.cells #[.int .i64 a0_0,.slice (some ad255) l0_1.length c0_1] 24 (0,0)) (bk_ BK254) hg (Kd.S_ne HO_3.out BK254.out (by decide)));have n1_:=ak_ (blk_grown (g:=gb256) (o:=.cells #[.int .i64 ((rd_T50 l0_1 x4_1).f1.f0),.int .i64 ((rd_T50 l0_1 x4_1).f1.f1),.int .i64 ((rd_T50 l0_1 x4_1).f1.f2),.int .i64 ((rd_T50 l0_1 x4_1).f1.f3)] 48 (0,0)) (bk_ BK256) hg (Kd.S_ne HO_3.out BK256.out (by decide)));have n2_:=ak_ (Kd.R_over' (by (with_reducible repeat (first|apply Kd.R_alloc|apply Kd.R_drewN|apply Kd.R_drew));exact HO259.out) (Kd.S_typed (by (with_reducible repeat (first|apply Kd.S_alloc|apply Kd.S_drewN|apply Kd.S_drew));exact HO_3.out)) (by decide) hg);have n3_:=ak_ (hb);have n4_:=ak_ (ho);clear BK254;clear BK256;clear HO259;clear HB;clear HO_3;clear HO262;have BK254:=n0_;have BK256:=n1_;have HO259:=n2_;have HB:=n3_;have HO265:=n4_;clear n0_ n1_ n2_ n3_ n4_;clear ho hb hg hat))
        go_roundg k1
        case measure=>have:=HK1.out;omega
        case rel=>exact ⟨(y263),(wrap64 (x4_1+1)),(by first|rfl|(simp;done)|(simp [*];done)),H',⟨by have:=HK1.out;omega⟩,⟨by (with_reducible repeat (first|apply Kd.S_alloc|apply Kd.S_drewN|apply Kd.S_drew));exact Kd.S_mono HO265.out (fun _ hk=>trivial)⟩,⟨bk_ BK254⟩,⟨bl_ HB⟩⟩
       ·rw [if_neg c7] at H
        exact absurd H (by simp)
      ·rw [if_neg c6] at H
       have c6b0:(((rd_T50 l0_1 x4_1).f1.f0) == 2)=false:=beq_eq_false_iff_ne.mpr c6
       have c6b1:(((rd_T50 l0_1 x4_1).f1.f0) != 2)=true:=bne_iff_ne.mpr c6
       by_cases c19:x3_1.length<5864062014805
       ·rw [if_pos c19] at H
        have LMc19:=ak_ c19
        clear c19
        obtain ⟨y266,hy266⟩:∃ y_:List (List Int),y_=(x3_1++[y257]):=⟨_,rfl⟩
        replace H:(swageref14_Succ.l0 k1 y266 (wrap64 (x4_1+1)) a0_0 l0_1)=some r:=by first|(rw [hy266];with_reducible exact H)|(have H2_:=(Option.bind_some _ _).symm.trans H;rw [hy266];with_reducible exact H2_)|(have H2_:=(Option.bind_some _ _).symm.trans H;with_reducible exact H2_)|with_reducible exact H|(rw [hy266];exact H)|exact H
        have Ny266:=ak_ hy266
        clear hy266
        have H':=ak_ H
        clear H
        have hcz20_0:=ck_ BK254 0
        have hcz20_1:=ck_ BK254 1
        have hfz20_0:=fz_ BK254 0
        have hfz20_1:=fz_ BK254 1
        have p255:0≤(x4_1:Int):=of_decide_eq_true (by first|(with_reducible assumption)|assumption)
        have q255:x4_1<(l0_1.length:Int):=of_decide_eq_true (by first|(with_reducible assumption)|assumption)
        obtain ⟨ad255,A255_0,c255_0,e255,hx255_0,hx255_1,hx255_2,hx255_3,hx255_4,hl255_0,hi255_0⟩:=at_T50 HR0_1.out x4_1 p255 q255
        cases e255
        replace hx255_0:=cl_ HB hx255_0
        replace hx255_1:=cl_ HB hx255_1
        replace hx255_2:=cl_ HB hx255_2
        replace hx255_3:=cl_ HB hx255_3
        replace hx255_4:=cl_ HB hx255_4
        have HR255_0:=ak_ hi255_0
        have HC255_0:=ak_ hl255_0
        clear hi255_0 hl255_0
        replace p255:=eq_true p255
        replace q255:=eq_true q255
        go_wp2_with (first|((with_reducible refine gate_dst (N:=5) rfl ?_);refine box_event ?hg (N:=5) ?hd (cs:=#[.int .i64 0,.int .i64 0,.int .i64 0,.int .i64 0]) (t:=48) ?hr ?_;(case hd=>rfl);(case hg=>rfl);(case hr=>first|(go_simp;done)|(go_simp;rfl));intro gb256 hg w21 hbox hb;have n0_:=ak_ (Kd.S_below (by (with_reducible repeat (first|apply Kd.S_alloc|apply Kd.S_drewN|apply Kd.S_drew));exact HO_3.out) hb);have n1_:=ak_ (blk_below (g:=gb254) (o:=.cells #[.int .i64 a0_0,.slice (some ad255) l0_1.length c0_1] 24 (0,0)) (bk_ BK254) hb);have n2_:=ak_ (below_step (bl_ HB) hb);have n3_:=ak_ (hbox);have n4_:=ak_ ((by rw [hg];exact (below_size (bl_ HB)):w.heap.size≤gb256));have n5_:=ak_ ((by rw [hg];exact (below_size (bl_ HB)):w.heap.size≤gb256));have n6_:=ak_ ((by rw [hg];exact Nat.ne_of_lt (blk_lt (g:=gb254) (o:=.cells #[.int .i64 a0_0,.slice (some ad255) l0_1.length c0_1] 24 (0,0)) (bk_ BK254)):gb254≠gb256));have n7_:=ak_ ((by rw [hg];exact Nat.ne_of_gt (blk_lt (g:=gb254) (o:=.cells #[.int .i64 a0_0,.slice (some ad255) l0_1.length c0_1] 24 (0,0)) (bk_ BK254)):gb256≠gb254));clear HO_3;clear BK254;clear HB;have HO_3:=n0_;have BK254:=n1_;have HB:=n2_;have BK256:=n3_;have GW256:=n4_;have GE256:=n5_;have NB254_256:=n6_;have NB256_254:=n7_;clear n0_ n1_ n2_ n3_ n4_ n5_ n6_ n7_;clear hb hbox hg;have hnb22:=NB256_254.out;have hnc22:=NB254_256.out;have hcz23_0:=ck_ BK256 0;have hcz23_1:=ck_ BK256 1;have hcz23_2:=ck_ BK256 2;have hcz23_3:=ck_ BK256 3;have hfz23_0:=fz_ BK256 0;have hfz23_1:=fz_ BK256 1;have hfz23_2:=fz_ BK256 2;have hfz23_3:=fz_ BK256 3)|((with_reducible refine gate_dst (N:=25) rfl ?_);refine Kd.R_lit (Kd.int .i64) _ 3 ?hg (N:=25) ?hd (xs:=([(rd_T50 l0_1 x4_1).f1.f2]:List Int)) (inner:=[.int .i64 ((rd_T50 l0_1 x4_1).f1.f2)]) (ok:=fun _=>True) (okp:=fun _=>True) ?hr ?hp (fun _ hk=>hk) trivial (Below.refl _ _) (Nat.le_refl _) (by simp) ?_;(case hd=>rfl);(case hg=>rfl);(case hr=>first|(go_simp;done)|(go_simp;rfl));(case hp=>exact (Reps.one (show Kd.M (Kd.int .i64) _ _ _ ((rd_T50 l0_1 x4_1).f1.f2) [.int .i64 ((rd_T50 l0_1 x4_1).f1.f2)] from rfl) (Reps.none _ _)));intro v258 w24 ho25 hb hg_ hnew_;clear hg_ hnew_;(first|rw [← Ny257.out] at ho25|(simp only [Int.reduceToNat] at ho25;rw [← Ny257.out] at ho25));have n0_:=ak_ (Kd.S_elder' (by (with_reducible repeat (first|apply Kd.S_alloc|apply Kd.S_drewN|apply Kd.S_drew));exact (Kd.S_mono (Kd.S_far (p:=⟨gb256,3,none⟩) (Kd.S_far (p:=⟨gb256,2,none⟩) (Kd.S_far (p:=⟨gb256,1,none⟩) (Kd.S_far (p:=⟨gb256,0,none⟩) (Kd.S_types HO_3.out BK256.out (by decide)) (fun _ hk=>hk.2) (.int .i64 ((rd_T50 l0_1 x4_1).f1.f0))) (fun _ hk=>hk.2) (.int .i64 ((rd_T50 l0_1 x4_1).f1.f1))) (fun _ hk=>hk.2) (.int .i64 ((rd_T50 l0_1 x4_1).f1.f2))) (fun _ hk=>hk.2) (.int .i64 ((rd_T50 l0_1 x4_1).f1.f3))) (fun _ h_=>h_.1))) (Kd.R_base ho25) hb);have n1_:=ak_ (Kd.R_lower ho25 (below_size (bl_ HB)));have n2_:=ak_ (blk_below (g:=gb254) (o:=.cells #[.int .i64 a0_0,.slice (some ad255) l0_1.length c0_1] 24 (0,0)) (by (with_reducible repeat (first|refine blk_drewN ?_ _|refine blk_drew ?_|refine blk_alloc ?_ _));refine blk_far ?_ NB254_256.out _;(with_reducible repeat (first|refine blk_drewN ?_ _|refine blk_drew ?_|refine blk_alloc ?_ _));refine blk_far ?_ NB254_256.out _;(with_reducible repeat (first|refine blk_drewN ?_ _|refine blk_drew ?_|refine blk_alloc ?_ _));refine blk_far ?_ NB254_256.out _;(with_reducible repeat (first|refine blk_drewN ?_ _|refine blk_drew ?_|refine blk_alloc ?_ _));refine blk_far ?_ NB254_256.out _;(with_reducible repeat (first|refine blk_drewN ?_ _|refine blk_drew ?_|refine blk_alloc ?_ _));exact BK254.out) hb);have n3_:=ak_ (blk_below (g:=gb256) (o:=.cells #[.int .i64 ((rd_T50 l0_1 x4_1).f1.f0),.int .i64 ((rd_T50 l0_1 x4_1).f1.f1),.int .i64 ((rd_T50 l0_1 x4_1).f1.f2),.int .i64 ((rd_T50 l0_1 x4_1).f1.f3)] 48 (0,0)) (by (with_reducible repeat (first|refine blk_drewN ?_ _|refine blk_drew ?_|refine blk_alloc ?_ _));refine blk_put (cs:=#[.int .i64 ((rd_T50 l0_1 x4_1).f1.f0),.int .i64 ((rd_T50 l0_1 x4_1).f1.f1),.int .i64 ((rd_T50 l0_1 x4_1).f1.f2),.int .i64 0]) ?_ 3 _ rfl;(with_reducible repeat (first|refine blk_drewN ?_ _|refine blk_drew ?_|refine blk_alloc ?_ _));refine blk_put (cs:=#[.int .i64 ((rd_T50 l0_1 x4_1).f1.f0),.int .i64 ((rd_T50 l0_1 x4_1).f1.f1),.int .i64 0,.int .i64 0]) ?_ 2 _ rfl;(with_reducible repeat (first|refine blk_drewN ?_ _|refine blk_drew ?_|refine blk_alloc ?_ _));refine blk_put (cs:=#[.int .i64 ((rd_T50 l0_1 x4_1).f1.f0),.int .i64 0,.int .i64 0,.int .i64 0]) ?_ 1 _ rfl;(with_reducible repeat (first|refine blk_drewN ?_ _|refine blk_drew ?_|refine blk_alloc ?_ _));refine blk_put (cs:=#[.int .i64 0,.int .i64 0,.int .i64 0,.int .i64 0]) ?_ 0 _ rfl;(with_reducible repeat (first|refine blk_drewN ?_ _|refine blk_drew ?_|refine blk_alloc ?_ _));exact BK256.out) hb);have n4_:=ak_ (below_step (bl_ HB) hb);clear HO_3;clear BK254;clear BK256;clear HB;have HO_3:=n0_;have HO259:=n1_;have BK254:=n2_;have BK256:=n3_;have HB:=n4_;clear n0_ n1_ n2_ n3_ n4_;clear hb ho25;have hcz26_0:=ck_ BK256 0;have hcz26_1:=ck_ BK256 1;have hcz26_2:=ck_ BK256 2;have hcz26_3:=ck_ BK256 3;have hfz26_0:=fz_ BK256 0;have hfz26_1:=fz_ BK256 1;have hfz26_2:=fz_ BK256 2;have hfz26_3:=fz_ BK256 3;obtain ⟨Ao28,co28,eo28⟩:=Kd.R_slice HO259.out;subst eo28)|((with_reducible refine gate_builtin (b:=.append) (xs:=#[.tmp 34,.tmp 36]) rfl ?_);at_builtin;refine Kd.S_append (Kd.slice 3 (Kd.int .i64)) (w0:=w) w.heap.size rfl (.tmp 34) (.tmp 36) 35 31 (.slice none 0 0) 24 rfl Tryz.underlying35 info31 rfl (by decide) (by omega) u3 x3_1 y257 [.slice Ao28 y257.length co28] (fun _=>True) (fun k_=>some k_=(.slice Ao28 y257.length co28:Value).ownBlock) rfl rfl ?aP (fun k_ hk_=>((Kd.R_mono (ok':=fun k_=>((fun _=>True)) k_∧some k_≠(u3:Value).ownBlock) (Kd.R_apart' (HO259.out) (Kd.S_typed HO_3.out) (by decide)) (fun k_ hk=>⟨trivial,hk.2⟩))).1 k_ hk_.symm) ?aF ?aO ?aB ?aS ?aL ?_;(case aP=>exact Kd.M_row (Kd.R_mono (Kd.R_tight rfl (Kd.R_mono (ok':=fun k_=>((fun _=>True)) k_∧some k_≠(u3:Value).ownBlock) (Kd.R_apart' (HO259.out) (Kd.S_typed HO_3.out) (by decide)) (fun k_ hk=>⟨trivial,hk.2⟩))) (fun _ h_=>h_)));(case aB=>exact (bl_ HB));(case aF=>exact (fun _ _=>trivial));(case aO=>exact (by (with_reducible repeat (first|apply Kd.S_alloc|apply Kd.S_drewN|apply Kd.S_drew));exact Kd.S_mono HO_3.out (fun k_ hk=>⟨trivial,fun e_=>hk.2 e_⟩)));(case aS=>exact (below_size (bl_ HB)));(case aL=>have:=LMc19.out;omega);intro v267 w27 ho hb hg hat;rw [← Ny266.out] at ho;have n0_:=ak_ (blk_grown (g:=gb254) (o:=.cells #[.int .i64 a0_0,.slice (some ad255) l0_1.length c0_1] 24 (0,0)) (bk_ BK254) hg (Kd.S_ne HO_3.out BK254.out (by decide)));have n1_:=ak_ (blk_grown (g:=gb256) (o:=.cells #[.int .i64 ((rd_T50 l0_1 x4_1).f1.f0),.int .i64 ((rd_T50 l0_1 x4_1).f1.f1),.int .i64 ((rd_T50 l0_1 x4_1).f1.f2),.int .i64 ((rd_T50 l0_1 x4_1).f1.f3)] 48 (0,0)) (bk_ BK256) hg (Kd.S_ne HO_3.out BK256.out (by decide)));have n2_:=ak_ (hb);have n3_:=ak_ (ho);clear BK254;clear BK256;clear HB;clear HO_3;clear HO259;have BK254:=n0_;have BK256:=n1_;have HB:=n2_;have HO268:=n3_;clear n0_ n1_ n2_ n3_;clear ho hb hg hat))
        go_roundg k1
        case measure=>have:=HK1.out;omega
        case rel=>exact ⟨(y266),(wrap64 (x4_1+1)),(by first|rfl|(simp;done)|(simp [*];done)),H',⟨by have:=HK1.out;omega⟩,⟨by (with_reducible repeat (first|apply Kd.S_alloc|apply Kd.S_drewN|apply Kd.S_drew));exact HO268.out⟩,⟨bk_ BK254⟩,⟨bl_ HB⟩⟩
       ·rw [if_neg c19] at H
        exact absurd H (by simp)
     ·rw [if_neg c5] at H
      have c5b0:(((rd_T50 l0_1 x4_1).f1.f0) == 1)=false:=beq_eq_false_iff_ne.mpr c5
      have c5b1:(((rd_T50 l0_1 x4_1).f1.f0) != 1)=true:=bne_iff_ne.mpr c5
      by_cases c29:((rd_T50 l0_1 x4_1).f1.f0)=2
      ·rw [if_pos c29] at H
       have c29b0:(((rd_T50 l0_1 x4_1).f1.f0) == 2)=true:=beq_iff_eq.mpr c29
       have c29b1:(((rd_T50 l0_1 x4_1).f1.f0) != 2)=false:=bne_eq_false_iff_eq.mpr c29
       clear c29
       obtain ⟨y269,hy269⟩:∃ y_:List Int,y_=(([(rd_T50 l0_1 x4_1).f1.f2,(rd_T50 l0_1 x4_1).f1.f3]:List Int)):=⟨_,rfl⟩
       replace H:(if x3_1.length<5864062014805 then (swageref14_Succ.l0 k1 (x3_1++[y269]) (wrap64 (x4_1+1)) a0_0 l0_1) else (none))=some r:=by first|(rw [hy269];with_reducible exact H)|(have H2_:=(Option.bind_some _ _).symm.trans H;rw [hy269];with_reducible exact H2_)|(have H2_:=(Option.bind_some _ _).symm.trans H;with_reducible exact H2_)|with_reducible exact H|(rw [hy269];exact H)|exact H
       have Ny269:=ak_ hy269
       clear hy269
       by_cases c30:x3_1.length<5864062014805
       ·rw [if_pos c30] at H
        have LMc30:=ak_ c30
        clear c30
        obtain ⟨y272,hy272⟩:∃ y_:List (List Int),y_=(x3_1++[y269]):=⟨_,rfl⟩
        replace H:(swageref14_Succ.l0 k1 y272 (wrap64 (x4_1+1)) a0_0 l0_1)=some r:=by first|(rw [hy272];with_reducible exact H)|(have H2_:=(Option.bind_some _ _).symm.trans H;rw [hy272];with_reducible exact H2_)|(have H2_:=(Option.bind_some _ _).symm.trans H;with_reducible exact H2_)|with_reducible exact H|(rw [hy272];exact H)|exact H
        have Ny272:=ak_ hy272
        clear hy272
        have H':=ak_ H
        clear H
        have hcz31_0:=ck_ BK254 0
        have hcz31_1:=ck_ BK254 1
        have hfz31_0:=fz_ BK254 0
        have hfz31_1:=fz_ BK254 1
        have p255:0≤(x4_1:Int):=of_decide_eq_true (by first|(with_reducible assumption)|assumption)
        have q255:x4_1<(l0_1.length:Int):=of_decide_eq_true (by first|(with_reducible assumption)|assumption)
        obtain ⟨ad255,A255_0,c255_0,e255,hx255_0,hx255_1,hx255_2,hx255_3,hx255_4,hl255_0,hi255_0⟩:=at_T50 HR0_1.out x4_1 p255 q255
        cases e255
        replace hx255_0:=cl_ HB hx255_0
        replace hx255_1:=cl_ HB hx255_1
        replace hx255_2:=cl_ HB hx255_2
        replace hx255_3:=cl_ HB hx255_3
        replace hx255_4:=cl_ HB hx255_4
        have HR255_0:=ak_ hi255_0
        have HC255_0:=ak_ hl255_0
        clear hi255_0 hl255_0
        replace p255:=eq_true p255
        replace q255:=eq_true q255
        go_wp2_with (first|((with_reducible refine gate_dst (N:=5) rfl ?_);refine box_event ?hg (N:=5) ?hd (cs:=#[.int .i64 0,.int .i64 0,.int .i64 0,.int .i64 0]) (t:=48) ?hr ?_;(case hd=>rfl);(case hg=>rfl);(case hr=>first|(go_simp;done)|(go_simp;rfl));intro gb256 hg w32 hbox hb;have n0_:=ak_ (Kd.S_below (by (with_reducible repeat (first|apply Kd.S_alloc|apply Kd.S_drewN|apply Kd.S_drew));exact HO_3.out) hb);have n1_:=ak_ (blk_below (g:=gb254) (o:=.cells #[.int .i64 a0_0,.slice (some ad255) l0_1.length c0_1] 24 (0,0)) (bk_ BK254) hb);have n2_:=ak_ (below_step (bl_ HB) hb);have n3_:=ak_ (hbox);have n4_:=ak_ ((by rw [hg];exact (below_size (bl_ HB)):w.heap.size≤gb256));have n5_:=ak_ ((by rw [hg];exact (below_size (bl_ HB)):w.heap.size≤gb256));have n6_:=ak_ ((by rw [hg];exact Nat.ne_of_lt (blk_lt (g:=gb254) (o:=.cells #[.int .i64 a0_0,.slice (some ad255) l0_1.length c0_1] 24 (0,0)) (bk_ BK254)):gb254≠gb256));have n7_:=ak_ ((by rw [hg];exact Nat.ne_of_gt (blk_lt (g:=gb254) (o:=.cells #[.int .i64 a0_0,.slice (some ad255) l0_1.length c0_1] 24 (0,0)) (bk_ BK254)):gb256≠gb254));clear HO_3;clear BK254;clear HB;have HO_3:=n0_;have BK254:=n1_;have HB:=n2_;have BK256:=n3_;have GW256:=n4_;have GE256:=n5_;have NB254_256:=n6_;have NB256_254:=n7_;clear n0_ n1_ n2_ n3_ n4_ n5_ n6_ n7_;clear hb hbox hg;have hnb33:=NB256_254.out;have hnc33:=NB254_256.out;have hcz34_0:=ck_ BK256 0;have hcz34_1:=ck_ BK256 1;have hcz34_2:=ck_ BK256 2;have hcz34_3:=ck_ BK256 3;have hfz34_0:=fz_ BK256 0;have hfz34_1:=fz_ BK256 1;have hfz34_2:=fz_ BK256 2;have hfz34_3:=fz_ BK256 3)|((with_reducible refine gate_dst (N:=33) rfl ?_);refine Kd.R_lit (Kd.int .i64) _ 3 ?hg (N:=33) ?hd (xs:=([(rd_T50 l0_1 x4_1).f1.f2,(rd_T50 l0_1 x4_1).f1.f3]:List Int)) (inner:=[.int .i64 ((rd_T50 l0_1 x4_1).f1.f2),.int .i64 ((rd_T50 l0_1 x4_1).f1.f3)]) (ok:=fun _=>True) (okp:=fun _=>True) ?hr ?hp (fun _ hk=>hk) trivial (Below.refl _ _) (Nat.le_refl _) (by simp) ?_;(case hd=>rfl);(case hg=>rfl);(case hr=>first|(go_simp;done)|(go_simp;rfl));(case hp=>exact (Reps.one (show Kd.M (Kd.int .i64) _ _ _ ((rd_T50 l0_1 x4_1).f1.f2) [.int .i64 ((rd_T50 l0_1 x4_1).f1.f2)] from rfl) (Reps.one (show Kd.M (Kd.int .i64) _ _ _ ((rd_T50 l0_1 x4_1).f1.f3) [.int .i64 ((rd_T50 l0_1 x4_1).f1.f3)] from rfl) (Reps.none _ _))));intro v270 w35 ho36 hb hg_ hnew_;clear hg_ hnew_;(first|rw [← Ny269.out] at ho36|(simp only [Int.reduceToNat] at ho36;rw [← Ny269.out] at ho36));have n0_:=ak_ (Kd.S_elder' (by (with_reducible repeat (first|apply Kd.S_alloc|apply Kd.S_drewN|apply Kd.S_drew));exact (Kd.S_mono (Kd.S_far (p:=⟨gb256,3,none⟩) (Kd.S_far (p:=⟨gb256,2,none⟩) (Kd.S_far (p:=⟨gb256,1,none⟩) (Kd.S_far (p:=⟨gb256,0,none⟩) (Kd.S_types HO_3.out BK256.out (by decide)) (fun _ hk=>hk.2) (.int .i64 ((rd_T50 l0_1 x4_1).f1.f0))) (fun _ hk=>hk.2) (.int .i64 ((rd_T50 l0_1 x4_1).f1.f1))) (fun _ hk=>hk.2) (.int .i64 ((rd_T50 l0_1 x4_1).f1.f2))) (fun _ hk=>hk.2) (.int .i64 ((rd_T50 l0_1 x4_1).f1.f3))) (fun _ h_=>h_.1))) (Kd.R_base ho36) hb);have n1_:=ak_ (Kd.R_lower ho36 (below_size (bl_ HB)));have n2_:=ak_ (blk_below (g:=gb254) (o:=.cells #[.int .i64 a0_0,.slice (some ad255) l0_1.length c0_1] 24 (0,0)) (by (with_reducible repeat (first|refine blk_drewN ?_ _|refine blk_drew ?_|refine blk_alloc ?_ _));refine blk_far ?_ NB254_256.out _;(with_reducible repeat (first|refine blk_drewN ?_ _|refine blk_drew ?_|refine blk_alloc ?_ _));refine blk_far ?_ NB254_256.out _;(with_reducible repeat (first|refine blk_drewN ?_ _|refine blk_drew ?_|refine blk_alloc ?_ _));refine blk_far ?_ NB254_256.out _;(with_reducible repeat (first|refine blk_drewN ?_ _|refine blk_drew ?_|refine blk_alloc ?_ _));refine blk_far ?_ NB254_256.out _;(with_reducible repeat (first|refine blk_drewN ?_ _|refine blk_drew ?_|refine blk_alloc ?_ _));exact BK254.out) hb);have n3_:=ak_ (blk_below (g:=gb256) (o:=.cells #[.int .i64 ((rd_T50 l0_1 x4_1).f1.f0),.int .i64 ((rd_T50 l0_1 x4_1).f1.f1),.int .i64 ((rd_T50 l0_1 x4_1).f1.f2),.int .i64 ((rd_T50 l0_1 x4_1).f1.f3)] 48 (0,0)) (by (with_reducible repeat (first|refine blk_drewN ?_ _|refine blk_drew ?_|refine blk_alloc ?_ _));refine blk_put (cs:=#[.int .i64 ((rd_T50 l0_1 x4_1).f1.f0),.int .i64 ((rd_T50 l0_1 x4_1).f1.f1),.int .i64 ((rd_T50 l0_1 x4_1).f1.f2),.int .i64 0]) ?_ 3 _ rfl;(with_reducible repeat (first|refine blk_drewN ?_ _|refine blk_drew ?_|refine blk_alloc ?_ _));refine blk_put (cs:=#[.int .i64 ((rd_T50 l0_1 x4_1).f1.f0),.int .i64 ((rd_T50 l0_1 x4_1).f1.f1),.int .i64 0,.int .i64 0]) ?_ 2 _ rfl;(with_reducible repeat (first|refine blk_drewN ?_ _|refine blk_drew ?_|refine blk_alloc ?_ _));refine blk_put (cs:=#[.int .i64 ((rd_T50 l0_1 x4_1).f1.f0),.int .i64 0,.int .i64 0,.int .i64 0]) ?_ 1 _ rfl;(with_reducible repeat (first|refine blk_drewN ?_ _|refine blk_drew ?_|refine blk_alloc ?_ _));refine blk_put (cs:=#[.int .i64 0,.int .i64 0,.int .i64 0,.int .i64 0]) ?_ 0 _ rfl;(with_reducible repeat (first|refine blk_drewN ?_ _|refine blk_drew ?_|refine blk_alloc ?_ _));exact BK256.out) hb);have n4_:=ak_ (below_step (bl_ HB) hb);clear HO_3;clear BK254;clear BK256;clear HB;have HO_3:=n0_;have HO271:=n1_;have BK254:=n2_;have BK256:=n3_;have HB:=n4_;clear n0_ n1_ n2_ n3_ n4_;clear hb ho36;obtain ⟨Ao38,co38,eo38⟩:=Kd.R_slice HO271.out;subst eo38)|((with_reducible refine gate_builtin (b:=.append) (xs:=#[.tmp 34,.tmp 36]) rfl ?_);at_builtin;refine Kd.S_append (Kd.slice 3 (Kd.int .i64)) (w0:=w) w.heap.size rfl (.tmp 34) (.tmp 36) 35 31 (.slice none 0 0) 24 rfl Tryz.underlying35 info31 rfl (by decide) (by omega) u3 x3_1 y269 [.slice Ao38 y269.length co38] (fun _=>True) (fun k_=>some k_=(.slice Ao38 y269.length co38:Value).ownBlock) rfl rfl ?aP (fun k_ hk_=>((Kd.R_mono (ok':=fun k_=>((fun _=>True)) k_∧some k_≠(u3:Value).ownBlock) (Kd.R_apart' (HO271.out) (Kd.S_typed HO_3.out) (by decide)) (fun k_ hk=>⟨trivial,hk.2⟩))).1 k_ hk_.symm) ?aF ?aO ?aB ?aS ?aL ?_;(case aP=>exact Kd.M_row (Kd.R_mono (Kd.R_tight rfl (Kd.R_mono (ok':=fun k_=>((fun _=>True)) k_∧some k_≠(u3:Value).ownBlock) (Kd.R_apart' (HO271.out) (Kd.S_typed HO_3.out) (by decide)) (fun k_ hk=>⟨trivial,hk.2⟩))) (fun _ h_=>h_)));(case aB=>exact (bl_ HB));(case aF=>exact (fun _ _=>trivial));(case aO=>exact (by (with_reducible repeat (first|apply Kd.S_alloc|apply Kd.S_drewN|apply Kd.S_drew));exact Kd.S_mono HO_3.out (fun k_ hk=>⟨trivial,fun e_=>hk.2 e_⟩)));(case aS=>exact (below_size (bl_ HB)));(case aL=>have:=LMc30.out;omega);intro v273 w37 ho hb hg hat;rw [← Ny272.out] at ho;have n0_:=ak_ (blk_grown (g:=gb254) (o:=.cells #[.int .i64 a0_0,.slice (some ad255) l0_1.length c0_1] 24 (0,0)) (bk_ BK254) hg (Kd.S_ne HO_3.out BK254.out (by decide)));have n1_:=ak_ (blk_grown (g:=gb256) (o:=.cells #[.int .i64 ((rd_T50 l0_1 x4_1).f1.f0),.int .i64 ((rd_T50 l0_1 x4_1).f1.f1),.int .i64 ((rd_T50 l0_1 x4_1).f1.f2),.int .i64 ((rd_T50 l0_1 x4_1).f1.f3)] 48 (0,0)) (bk_ BK256) hg (Kd.S_ne HO_3.out BK256.out (by decide)));have n2_:=ak_ (hb);have n3_:=ak_ (ho);clear BK254;clear BK256;clear HB;clear HO_3;clear HO271;have BK254:=n0_;have BK256:=n1_;have HB:=n2_;have HO274:=n3_;clear n0_ n1_ n2_ n3_;clear ho hb hg hat))
        go_roundg k1
        case measure=>have:=HK1.out;omega
        case rel=>exact ⟨(y272),(wrap64 (x4_1+1)),(by first|rfl|(simp;done)|(simp [*];done)),H',⟨by have:=HK1.out;omega⟩,⟨by (with_reducible repeat (first|apply Kd.S_alloc|apply Kd.S_drewN|apply Kd.S_drew));exact HO274.out⟩,⟨bk_ BK254⟩,⟨bl_ HB⟩⟩
       ·rw [if_neg c30] at H
        exact absurd H (by simp)
      ·rw [if_neg c29] at H
       have c29b0:(((rd_T50 l0_1 x4_1).f1.f0) == 2)=false:=beq_eq_false_iff_ne.mpr c29
       have c29b1:(((rd_T50 l0_1 x4_1).f1.f0) != 2)=true:=bne_iff_ne.mpr c29
       by_cases c39:x3_1.length<5864062014805
       ·rw [if_pos c39] at H
        have LMc39:=ak_ c39
        clear c39
        obtain ⟨y275,hy275⟩:∃ y_:List (List Int),y_=(x3_1++[([]:List Int)]):=⟨_,rfl⟩
        replace H:(swageref14_Succ.l0 k1 y275 (wrap64 (x4_1+1)) a0_0 l0_1)=some r:=by first|(rw [hy275];with_reducible exact H)|(have H2_:=(Option.bind_some _ _).symm.trans H;rw [hy275];with_reducible exact H2_)|(have H2_:=(Option.bind_some _ _).symm.trans H;with_reducible exact H2_)|with_reducible exact H|(rw [hy275];exact H)|exact H
        have Ny275:=ak_ hy275
        clear hy275
        have H':=ak_ H
        clear H
        have hcz40_0:=ck_ BK254 0
        have hcz40_1:=ck_ BK254 1
        have hfz40_0:=fz_ BK254 0
        have hfz40_1:=fz_ BK254 1
        have p255:0≤(x4_1:Int):=of_decide_eq_true (by first|(with_reducible assumption)|assumption)
        have q255:x4_1<(l0_1.length:Int):=of_decide_eq_true (by first|(with_reducible assumption)|assumption)
        obtain ⟨ad255,A255_0,c255_0,e255,hx255_0,hx255_1,hx255_2,hx255_3,hx255_4,hl255_0,hi255_0⟩:=at_T50 HR0_1.out x4_1 p255 q255
        cases e255
        replace hx255_0:=cl_ HB hx255_0
        replace hx255_1:=cl_ HB hx255_1
        replace hx255_2:=cl_ HB hx255_2
        replace hx255_3:=cl_ HB hx255_3
        replace hx255_4:=cl_ HB hx255_4
        have HR255_0:=ak_ hi255_0
        have HC255_0:=ak_ hl255_0
        clear hi255_0 hl255_0
        replace p255:=eq_true p255
        replace q255:=eq_true q255
        go_wp2_with (first|((with_reducible refine gate_dst (N:=5) rfl ?_);refine box_event ?hg (N:=5) ?hd (cs:=#[.int .i64 0,.int .i64 0,.int .i64 0,.int .i64 0]) (t:=48) ?hr ?_;(case hd=>rfl);(case hg=>rfl);(case hr=>first|(go_simp;done)|(go_simp;rfl));intro gb256 hg w41 hbox hb;have n0_:=ak_ (Kd.S_below (by (with_reducible repeat (first|apply Kd.S_alloc|apply Kd.S_drewN|apply Kd.S_drew));exact HO_3.out) hb);have n1_:=ak_ (blk_below (g:=gb254) (o:=.cells #[.int .i64 a0_0,.slice (some ad255) l0_1.length c0_1] 24 (0,0)) (bk_ BK254) hb);have n2_:=ak_ (below_step (bl_ HB) hb);have n3_:=ak_ (hbox);have n4_:=ak_ ((by rw [hg];exact (below_size (bl_ HB)):w.heap.size≤gb256));have n5_:=ak_ ((by rw [hg];exact (below_size (bl_ HB)):w.heap.size≤gb256));have n6_:=ak_ ((by rw [hg];exact Nat.ne_of_lt (blk_lt (g:=gb254) (o:=.cells #[.int .i64 a0_0,.slice (some ad255) l0_1.length c0_1] 24 (0,0)) (bk_ BK254)):gb254≠gb256));have n7_:=ak_ ((by rw [hg];exact Nat.ne_of_gt (blk_lt (g:=gb254) (o:=.cells #[.int .i64 a0_0,.slice (some ad255) l0_1.length c0_1] 24 (0,0)) (bk_ BK254)):gb256≠gb254));clear HO_3;clear BK254;clear HB;have HO_3:=n0_;have BK254:=n1_;have HB:=n2_;have BK256:=n3_;have GW256:=n4_;have GE256:=n5_;have NB254_256:=n6_;have NB256_254:=n7_;clear n0_ n1_ n2_ n3_ n4_ n5_ n6_ n7_;clear hb hbox hg;have hnb42:=NB256_254.out;have hnc42:=NB254_256.out;have hcz43_0:=ck_ BK256 0;have hcz43_1:=ck_ BK256 1;have hcz43_2:=ck_ BK256 2;have hcz43_3:=ck_ BK256 3;have hfz43_0:=fz_ BK256 0;have hfz43_1:=fz_ BK256 1;have hfz43_2:=fz_ BK256 2;have hfz43_3:=fz_ BK256 3)|((with_reducible refine gate_builtin (b:=.append) (xs:=#[.tmp 34,.tmp 36]) rfl ?_);at_builtin;refine Kd.S_append (Kd.slice 3 (Kd.int .i64)) (w0:=w) w.heap.size rfl (.tmp 34) (.tmp 36) 35 31 (.slice none 0 0) 24 rfl Tryz.underlying35 info31 rfl (by decide) (by omega) u3 x3_1 ([]:List Int) [.slice none 0 0] (fun _=>True) (fun _=>False) rfl (by first|(go_simp;done)|(go_simp;rfl)) ?aP (fun k_ hk_=>hk_.elim) ?aF ?aO ?aB ?aS ?aL ?_;(case aP=>exact Kd.M_row (Kd.R_nil _ _ _ _ _));(case aB=>exact (bl_ HB));(case aF=>exact (fun _ _=>trivial));(case aO=>exact (by (with_reducible repeat (first|apply Kd.S_alloc|apply Kd.S_drewN|apply Kd.S_drew));exact Kd.S_mono (Kd.S_far (p:=⟨gb256,3,none⟩) (Kd.S_far (p:=⟨gb256,2,none⟩) (Kd.S_far (p:=⟨gb256,1,none⟩) (Kd.S_far (p:=⟨gb256,0,none⟩) (Kd.S_types HO_3.out BK256.out (by decide)) (fun _ hk=>hk.2) (.int .i64 ((rd_T50 l0_1 x4_1).f1.f0))) (fun _ hk=>hk.2) (.int .i64 ((rd_T50 l0_1 x4_1).f1.f1))) (fun _ hk=>hk.2) (.int .i64 ((rd_T50 l0_1 x4_1).f1.f2))) (fun _ hk=>hk.2) (.int .i64 ((rd_T50 l0_1 x4_1).f1.f3))) (fun k_ hk=>⟨trivial,fun e_=>e_⟩)));(case aS=>exact (below_size (bl_ HB)));(case aL=>have:=LMc39.out;omega);intro v276 w44 ho hb hg hat;rw [← Ny275.out] at ho;have n0_:=ak_ (blk_grown (g:=gb254) (o:=.cells #[.int .i64 a0_0,.slice (some ad255) l0_1.length c0_1] 24 (0,0)) (by (with_reducible repeat (first|refine blk_drewN ?_ _|refine blk_drew ?_|refine blk_alloc ?_ _));refine blk_far ?_ NB254_256.out _;(with_reducible repeat (first|refine blk_drewN ?_ _|refine blk_drew ?_|refine blk_alloc ?_ _));refine blk_far ?_ NB254_256.out _;(with_reducible repeat (first|refine blk_drewN ?_ _|refine blk_drew ?_|refine blk_alloc ?_ _));refine blk_far ?_ NB254_256.out _;(with_reducible repeat (first|refine blk_drewN ?_ _|refine blk_drew ?_|refine blk_alloc ?_ _));refine blk_far ?_ NB254_256.out _;(with_reducible repeat (first|refine blk_drewN ?_ _|refine blk_drew ?_|refine blk_alloc ?_ _));exact BK254.out) hg (Kd.S_ne HO_3.out BK254.out (by decide)));have n1_:=ak_ (blk_grown (g:=gb256) (o:=.cells #[.int .i64 ((rd_T50 l0_1 x4_1).f1.f0),.int .i64 ((rd_T50 l0_1 x4_1).f1.f1),.int .i64 ((rd_T50 l0_1 x4_1).f1.f2),.int .i64 ((rd_T50 l0_1 x4_1).f1.f3)] 48 (0,0)) (by (with_reducible repeat (first|refine blk_drewN ?_ _|refine blk_drew ?_|refine blk_alloc ?_ _));refine blk_put (cs:=#[.int .i64 ((rd_T50 l0_1 x4_1).f1.f0),.int .i64 ((rd_T50 l0_1 x4_1).f1.f1),.int .i64 ((rd_T50 l0_1 x4_1).f1.f2),.int .i64 0]) ?_ 3 _ rfl;(with_reducible repeat (first|refine blk_drewN ?_ _|refine blk_drew ?_|refine blk_alloc ?_ _));refine blk_put (cs:=#[.int .i64 ((rd_T50 l0_1 x4_1).f1.f0),.int .i64 ((rd_T50 l0_1 x4_1).f1.f1),.int .i64 0,.int .i64 0]) ?_ 2 _ rfl;(with_reducible repeat (first|refine blk_drewN ?_ _|refine blk_drew ?_|refine blk_alloc ?_ _));refine blk_put (cs:=#[.int .i64 ((rd_T50 l0_1 x4_1).f1.f0),.int .i64 0,.int .i64 0,.int .i64 0]) ?_ 1 _ rfl;(with_reducible repeat (first|refine blk_drewN ?_ _|refine blk_drew ?_|refine blk_alloc ?_ _));refine blk_put (cs:=#[.int .i64 0,.int .i64 0,.int .i64 0,.int .i64 0]) ?_ 0 _ rfl;(with_reducible repeat (first|refine blk_drewN ?_ _|refine blk_drew ?_|refine blk_alloc ?_ _));exact BK256.out) hg (Kd.S_ne HO_3.out BK256.out (by decide)));have n2_:=ak_ (hb);have n3_:=ak_ (ho);clear BK254;clear BK256;clear HB;clear HO_3;have BK254:=n0_;have BK256:=n1_;have HB:=n2_;have HO277:=n3_;clear n0_ n1_ n2_ n3_;clear ho hb hg hat))
        go_roundg k1
        case measure=>have:=HK1.out;omega
        case rel=>exact ⟨(y275),(wrap64 (x4_1+1)),(by first|rfl|(simp;done)|(simp [*];done)),H',⟨by have:=HK1.out;omega⟩,⟨by (with_reducible repeat (first|apply Kd.S_alloc|apply Kd.S_drewN|apply Kd.S_drew));exact HO277.out⟩,⟨bk_ BK254⟩,⟨bl_ HB⟩⟩
       ·rw [if_neg c39] at H
        exact absurd H (by simp)
    ·rw [if_neg c4] at H
     exact absurd H (by simp)
   ·rw [if_neg c3] at H
    have c3b0:decide (x4_1<(l0_1.length:Int))=false:=decide_eq_false c3
    clear c3
    obtain rfl:=Option.some.inj H
    have hcz45_0:=ck_ BK254 0
    have hcz45_1:=ck_ BK254 1
    have hfz45_0:=fz_ BK254 0
    have hfz45_1:=fz_ BK254 1
    go_wp2
    go_ret
    exact ⟨_,by first|rfl|(simp [errW_none,errW_some]<;>rfl)|(simp [*,errW_none,errW_some]<;>rfl),by (with_reducible repeat (first|apply Kd.S_alloc|apply Kd.S_drewN|apply Kd.S_drew));exact HO_3.out,bl_ HB⟩

