-- a text of the seat,by a program
import Derived.Test.YtnkgbnbbmcoiiaaGreatBk
import Derived.Test.YtnkgbnbbmcoiiaaGreatS0
import Derived.Test.YtnkgbnbbmcoiiaaGreatS11
namespace Go.Proofs.YtnkgbnbbmcoiiaaGreat.S
open Go.RowKit Go.Proofs.YtnkgbnbbmcoiiaaGreatW.PrintWords Go.Proofs.YtnkgbnbbmcoiiaaGreatW.PrintLast Go.Proofs.YtnkgbnbbmcoiiaaGreatW.PrintMore
attribute [local go_sem] max2_int min2_int max_two min_two max_three min_three max_four min_four   -- for this text's walks alone
set_option linter.unusedVariables false
set_option linter.unusedSimpArgs false

/-! ### swageref14_Copy: function 8 -/
mutual
def swageref14_Copy.l0:Nat→Int→Int→List (S50)→Int→List (S50)→Option (Int × (List (S50)))
 | 0,_,_,_,_,_=>none
 | k+1,x4,x291000,x291001,x293000,x293001=>if x4<(x291001.length:Int) then (if 0≤x4 then (swageref14_Copy.l1 k x4 0 x291000 x291001 x293000 x293001 ([]:List (S45)) ((rd_T50 x291001 x4).f1.f0) ((rd_T50 x291001 x4).f1.f1) ((rd_T50 x291001 x4).f1.f2) ((rd_T50 x291001 x4).f1.f3)) else (none)) else (some (x293000,x293001))
def swageref14_Copy.l1:Nat→Int→Int→Int→List (S50)→Int→List (S50)→List (S45)→Int→Int→Int→Int→Option (Int × (List (S50)))
 | 0,_,_,_,_,_,_,_,_,_,_,_=>none
 | k+1,x4,x6,x291000,x291001,x293000,x293001,x295000,x295001,x295002,x295003,x295004=>if 0≤x4 then (if x4<(x291001.length:Int) then (if x6<(((rd_T50 x291001 x4).f0).length:Int) then (if 0≤x6 then ((some (([]:List Int):List Int)).bind fun y299=>(if y299.length+((rd_T45 ((rd_T50 x291001 x4).f0) x6).f5).length<17592186044416 then (if x295000.length<2199023255552 then (swageref14_Copy.l1 k x4 (wrap64 (x6+1)) x291000 x291001 x293000 x293001 (x295000++[(⟨(rd_T45 ((rd_T50 x291001 x4).f0) x6).f0,(rd_T45 ((rd_T50 x291001 x4).f0) x6).f1,(rd_T45 ((rd_T50 x291001 x4).f0) x6).f2,(rd_T45 ((rd_T50 x291001 x4).f0) x6).f3,(rd_T45 ((rd_T50 x291001 x4).f0) x6).f4,(y299++((rd_T45 ((rd_T50 x291001 x4).f0) x6).f5))⟩:S45)]) x295001 x295002 x295003 x295004) else (none)) else (none))) else (none)) else (if x293001.length<2513169434916 then (swageref14_Copy.l0 k (wrap64 (x4+1)) x291000 x291001 x293000 (x293001++[(⟨x295000,(⟨x295001,x295002,x295003,x295004⟩:S48)⟩:S50)])) else (none))) else (none)) else (none)
end
def swageref14_Copy.f (k:Nat) (a0_0:Int) (l0_1:List (S50)):Option (Int × (List (S50))):=swageref14_Copy.l0 k 0 a0_0 l0_1 a0_0 ([]:List (S50))
set_option maxHeartbeats 8000000 in
set_option maxRecDepth 100000 in
theorem swageref14_Copy.calls (k:Nat) (a0_0:Int) (A0_1:Option Addr) (c0_1:Nat) (l0_1:List (S50)) (r1:Int) (r2:List (S50)) (w:World) (hr0_1:Kd.C k50 w A0_1 l0_1.length l0_1) (hc0_1:l0_1.length≤c0_1) (h:swageref14_Copy.f k a0_0 l0_1=some (r1,r2)) :
  Calls Tryz.prog 8 #[.agg #[.int .i64 a0_0,.slice A0_1 l0_1.length c0_1]] w fun e w'=>∃ v1_:Value,e=.returned (.agg #[.int .i64 r1,v1_])∧Kd.R k50 50 w' w.heap.size (fun _=>True) v1_ r2∧Below w.heap.size w w':=by
 have hu24:=Tryz.underlying24
 have hu48:=Tryz.underlying48
 have hu50:=Tryz.underlying50
 have hu45:=Tryz.underlying45
 have HR0_1:=ak_ hr0_1
 have HC0_1:=ak_ hc0_1
 clear hr0_1 hc0_1
 have HB:=ak_ (Below.refl w.heap.size w)
 have H:(swageref14_Copy.l0 k 0 a0_0 l0_1 a0_0 ([]:List (S50)))=some (r1,r2):=h
 clear h
 have H':=ak_ H
 clear H
 go_enter Tryz.func8,Tryz.ntmps8
 go_wp2_with (first|((with_reducible refine gate_dst (N:=1) rfl ?_);refine box_event ?hg (N:=1) ?hd (cs:=#[.int .i64 a0_0,.slice A0_1 l0_1.length c0_1]) (t:=24) ?hr ?_;(case hd=>rfl);(case hg=>rfl);(case hr=>first|(go_simp;done)|(go_simp;rfl));intro gb290 hg w2 hbox hb;have n0_:=ak_ (below_step (bl_ HB) hb);have n1_:=ak_ (hbox);have n2_:=ak_ ((by rw [hg];exact (below_size (bl_ HB)):w.heap.size≤gb290));have n3_:=ak_ ((by rw [hg];exact (below_size (bl_ HB)):w.heap.size≤gb290));clear HB;have HB:=n0_;have BK290:=n1_;have GW290:=n2_;have GE290:=n3_;clear n0_ n1_ n2_ n3_;clear hb hbox hg)|((with_reducible refine gate_dst (N:=2) rfl ?_);refine box_event ?hg (N:=2) ?hd (cs:=#[.int .i64 0,.slice none 0 0]) (t:=24) ?hr ?_;(case hd=>rfl);(case hg=>rfl);(case hr=>first|(go_simp;done)|(go_simp;rfl));intro gb291 hg w3 hbox hb;have n0_:=ak_ (blk_below (g:=gb290) (o:=.cells #[.int .i64 a0_0,.slice A0_1 l0_1.length c0_1] 24 (0,0)) (bk_ BK290) hb);have n1_:=ak_ (below_step (bl_ HB) hb);have n2_:=ak_ (hbox);have n3_:=ak_ ((by rw [hg];exact (below_size (bl_ HB)):w.heap.size≤gb291));have n4_:=ak_ ((by rw [hg];exact (below_size (bl_ HB)):w.heap.size≤gb291));have n5_:=ak_ ((by rw [hg];exact Nat.ne_of_lt (blk_lt (g:=gb290) (o:=.cells #[.int .i64 a0_0,.slice A0_1 l0_1.length c0_1] 24 (0,0)) (bk_ BK290)):gb290≠gb291));have n6_:=ak_ ((by rw [hg];exact Nat.ne_of_gt (blk_lt (g:=gb290) (o:=.cells #[.int .i64 a0_0,.slice A0_1 l0_1.length c0_1] 24 (0,0)) (bk_ BK290)):gb291≠gb290));clear BK290;clear HB;have BK290:=n0_;have HB:=n1_;have BK291:=n2_;have GW291:=n3_;have GE291:=n4_;have NB290_291:=n5_;have NB291_290:=n6_;clear n0_ n1_ n2_ n3_ n4_ n5_ n6_;clear hb hbox hg;have hnb4:=NB290_291.out;have hnc4:=NB291_290.out;have hcz5_0:=ck_ BK290 0;have hcz5_1:=ck_ BK290 1;have hfz5_0:=fz_ BK290 0;have hfz5_1:=fz_ BK290 1)|((with_reducible refine gate_dst (N:=3) rfl ?_);refine box_event ?hg (N:=3) ?hd (cs:=#[.int .i64 0,.slice none 0 0]) (t:=24) ?hr ?_;(case hd=>rfl);(case hg=>rfl);(case hr=>first|(go_simp;done)|(go_simp;rfl));intro gb292 hg w6 hbox hb;have n0_:=ak_ (blk_below (g:=gb290) (o:=.cells #[.int .i64 a0_0,.slice A0_1 l0_1.length c0_1] 24 (0,0)) (bk_ BK290) hb);have n1_:=ak_ (blk_below (g:=gb291) (o:=.cells #[.int .i64 0,.slice none 0 0] 24 (0,0)) (bk_ BK291) hb);have n2_:=ak_ (below_step (bl_ HB) hb);have n3_:=ak_ (hbox);have n4_:=ak_ ((by rw [hg];exact (below_size (bl_ HB)):w.heap.size≤gb292));have n5_:=ak_ ((by rw [hg];exact (below_size (bl_ HB)):w.heap.size≤gb292));have n6_:=ak_ ((by rw [hg];exact Nat.ne_of_lt (blk_lt (g:=gb290) (o:=.cells #[.int .i64 a0_0,.slice A0_1 l0_1.length c0_1] 24 (0,0)) (bk_ BK290)):gb290≠gb292));have n7_:=ak_ ((by rw [hg];exact Nat.ne_of_gt (blk_lt (g:=gb290) (o:=.cells #[.int .i64 a0_0,.slice A0_1 l0_1.length c0_1] 24 (0,0)) (bk_ BK290)):gb292≠gb290));have n8_:=ak_ ((by rw [hg];exact Nat.ne_of_lt (blk_lt (g:=gb291) (o:=.cells #[.int .i64 0,.slice none 0 0] 24 (0,0)) (bk_ BK291)):gb291≠gb292));have n9_:=ak_ ((by rw [hg];exact Nat.ne_of_gt (blk_lt (g:=gb291) (o:=.cells #[.int .i64 0,.slice none 0 0] 24 (0,0)) (bk_ BK291)):gb292≠gb291));clear BK290;clear BK291;clear HB;have BK290:=n0_;have BK291:=n1_;have HB:=n2_;have BK292:=n3_;have GW292:=n4_;have GE292:=n5_;have NB290_292:=n6_;have NB292_290:=n7_;have NB291_292:=n8_;have NB292_291:=n9_;clear n0_ n1_ n2_ n3_ n4_ n5_ n6_ n7_ n8_ n9_;clear hb hbox hg;have hnb7:=NB292_290.out;have hnc7:=NB290_292.out;have hnb8:=NB292_291.out;have hnc8:=NB291_292.out;have hcz9_0:=ck_ BK292 0;have hcz9_1:=ck_ BK292 1;have hfz9_0:=fz_ BK292 0;have hfz9_1:=fz_ BK292 1))
 go_loopg [4] k (fun kq v4 w'=>∃ (x4_1:Int) (x293001_1:List (S50)) (u293001:Value),v4=.int .i64 x4_1∧Aside0 (swageref14_Copy.l0 kq x4_1 a0_0 l0_1 a0_0 x293001_1=some (r1,r2))∧Aside0 (kq≤k)∧Aside0 (Kd.R k50 50 w' w.heap.size (fun _=>True) u293001 x293001_1)∧Aside0 (w'.heap[gb290]?=some (.cells #[.int .i64 a0_0,(.slice A0_1 l0_1.length c0_1)] 24 (0,0)))∧Aside0 (w'.heap[gb291]?=some (.cells #[.int .i64 0,(.slice none 0 0)] 24 (0,0)))∧Aside0 (w'.heap[gb292]?=some (.cells #[.int .i64 a0_0,u293001] 24 (0,0)))∧Aside0 (Below w.heap.size w w'))
 case atStart=>exact ⟨(0),(([]:List (S50))),(.slice none 0 0),(by first|rfl|(simp;done)|(simp [*];done)),H',⟨Nat.le_refl _⟩,⟨by first|exact Kd.R_nil _ _ _ _ _|exact Kd.N_nil _ _ _ _ _|exact Kd.V_nil _ _ _ _ _|exact Kd.Q_nil _ _ _ _ _|exact Kd.S_nil _ _ _ _ _⟩,⟨by (with_reducible repeat (first|refine blk_drewN ?_ _|refine blk_drew ?_|refine blk_alloc ?_ _));refine blk_far ?_ NB290_292.out _;(with_reducible repeat (first|refine blk_drewN ?_ _|refine blk_drew ?_|refine blk_alloc ?_ _));refine blk_far ?_ NB290_292.out _;(with_reducible repeat (first|refine blk_drewN ?_ _|refine blk_drew ?_|refine blk_alloc ?_ _));exact BK290.out⟩,⟨by (with_reducible repeat (first|refine blk_drewN ?_ _|refine blk_drew ?_|refine blk_alloc ?_ _));refine blk_far ?_ NB291_292.out _;(with_reducible repeat (first|refine blk_drewN ?_ _|refine blk_drew ?_|refine blk_alloc ?_ _));refine blk_far ?_ NB291_292.out _;(with_reducible repeat (first|refine blk_drewN ?_ _|refine blk_drew ?_|refine blk_alloc ?_ _));exact BK291.out⟩,⟨by (with_reducible repeat (first|refine blk_drewN ?_ _|refine blk_drew ?_|refine blk_alloc ?_ _));refine blk_put (cs:=#[.int .i64 a0_0,.slice none 0 0]) ?_ 1 _ rfl;(with_reducible repeat (first|refine blk_drewN ?_ _|refine blk_drew ?_|refine blk_alloc ?_ _));refine blk_put (cs:=#[.int .i64 0,.slice none 0 0]) ?_ 0 _ rfl;(with_reducible repeat (first|refine blk_drewN ?_ _|refine blk_drew ?_|refine blk_alloc ?_ _));exact BK292.out⟩,⟨bl_ HB⟩⟩
 case round =>
  clear H'
  obtain ⟨x4_1,x293001_1,u293001,rfl,HA,HK1,HO_293001,BK290,BK291,BK292,HB⟩:=hrel
  cases gk with
  | zero=>exact absurd HA.out (by simp [swageref14_Copy.l0])
  | succ k1 =>
   have H:=HA.out
   clear HA
   simp only [swageref14_Copy.l0] at H
   by_cases c10:x4_1<(l0_1.length:Int)
   ·rw [if_pos c10] at H
    have c10b0:decide (x4_1<(l0_1.length:Int))=true:=decide_eq_true c10
    clear c10
    by_cases c11:0≤x4_1
    ·rw [if_pos c11] at H
     have c11b0:decide (0≤x4_1)=true:=decide_eq_true c11
     clear c11
     have H':=ak_ H
     clear H
     have hnb12:=NB290_291.out
     have hnc12:=NB291_290.out
     have hnb13:=NB290_292.out
     have hnc13:=NB292_290.out
     have hcz14_0:=ck_ BK290 0
     have hcz14_1:=ck_ BK290 1
     have hfz14_0:=fz_ BK290 0
     have hfz14_1:=fz_ BK290 1
     have p293:0≤(x4_1:Int):=of_decide_eq_true (by first|(with_reducible assumption)|assumption)
     have q293:x4_1<(l0_1.length:Int):=of_decide_eq_true (by first|(with_reducible assumption)|assumption)
     obtain ⟨ad293,A293_0,c293_0,e293,hx293_0,hx293_1,hx293_2,hx293_3,hx293_4,hl293_0,hi293_0⟩:=at_T50 HR0_1.out x4_1 p293 q293
     cases e293
     replace hx293_0:=cl_ HB hx293_0
     replace hx293_1:=cl_ HB hx293_1
     replace hx293_2:=cl_ HB hx293_2
     replace hx293_3:=cl_ HB hx293_3
     replace hx293_4:=cl_ HB hx293_4
     have HR293_0:=ak_ hi293_0
     have HC293_0:=ak_ hl293_0
     clear hi293_0 hl293_0
     replace p293:=eq_true p293
     replace q293:=eq_true q293
     go_wp2_with (first|((with_reducible refine gate_dst (N:=5) rfl ?_);refine box_event ?hg (N:=5) ?hd (cs:=#[.slice none 0 0,.int .i64 0,.int .i64 0,.int .i64 0,.int .i64 0]) (t:=50) ?hr ?_;(case hd=>rfl);(case hg=>rfl);(case hr=>first|(go_simp;done)|(go_simp;rfl));intro gb294 hg w15 hbox hb;have n0_:=ak_ (Kd.R_below (Kd.R_elderB (by (with_reducible repeat (first|apply Kd.R_alloc|apply Kd.R_drewN|apply Kd.R_drew));exact HO_293001.out) gb294 (Nat.le_of_eq hg.symm)) hb);have n1_:=ak_ (blk_below (g:=gb290) (o:=.cells #[.int .i64 a0_0,.slice (some ad293) l0_1.length c0_1] 24 (0,0)) (bk_ BK290) hb);have n2_:=ak_ (blk_below (g:=gb291) (o:=.cells #[.int .i64 0,.slice none 0 0] 24 (0,0)) (bk_ BK291) hb);have n3_:=ak_ (blk_below (g:=gb292) (o:=.cells #[.int .i64 a0_0,u293001] 24 (0,0)) (bk_ BK292) hb);have n4_:=ak_ (below_step (bl_ HB) hb);have n5_:=ak_ (hbox);have n6_:=ak_ ((by rw [hg];exact (below_size (bl_ HB)):w.heap.size≤gb294));have n7_:=ak_ ((by rw [hg];exact (below_size (bl_ HB)):w.heap.size≤gb294));have n8_:=ak_ ((by rw [hg];exact Nat.ne_of_lt (blk_lt (g:=gb290) (o:=.cells #[.int .i64 a0_0,.slice (some ad293) l0_1.length c0_1] 24 (0,0)) (bk_ BK290)):gb290≠gb294));have n9_:=ak_ ((by rw [hg];exact Nat.ne_of_gt (blk_lt (g:=gb290) (o:=.cells #[.int .i64 a0_0,.slice (some ad293) l0_1.length c0_1] 24 (0,0)) (bk_ BK290)):gb294≠gb290));have n10_:=ak_ ((by rw [hg];exact Nat.ne_of_lt (blk_lt (g:=gb291) (o:=.cells #[.int .i64 0,.slice none 0 0] 24 (0,0)) (bk_ BK291)):gb291≠gb294));have n11_:=ak_ ((by rw [hg];exact Nat.ne_of_gt (blk_lt (g:=gb291) (o:=.cells #[.int .i64 0,.slice none 0 0] 24 (0,0)) (bk_ BK291)):gb294≠gb291));have n12_:=ak_ ((by rw [hg];exact Nat.ne_of_lt (blk_lt (g:=gb292) (o:=.cells #[.int .i64 a0_0,u293001] 24 (0,0)) (bk_ BK292)):gb292≠gb294));have n13_:=ak_ ((by rw [hg];exact Nat.ne_of_gt (blk_lt (g:=gb292) (o:=.cells #[.int .i64 a0_0,u293001] 24 (0,0)) (bk_ BK292)):gb294≠gb292));clear HO_293001;clear BK290;clear BK291;clear BK292;clear HB;have HO_293001:=n0_;have BK290:=n1_;have BK291:=n2_;have BK292:=n3_;have HB:=n4_;have BK294:=n5_;have GW294:=n6_;have GE294:=n7_;have NB290_294:=n8_;have NB294_290:=n9_;have NB291_294:=n10_;have NB294_291:=n11_;have NB292_294:=n12_;have NB294_292:=n13_;clear n0_ n1_ n2_ n3_ n4_ n5_ n6_ n7_ n8_ n9_ n10_ n11_ n12_ n13_;clear hb hbox hg;have hnb16:=NB294_290.out;have hnc16:=NB290_294.out;have hnb17:=NB294_291.out;have hnc17:=NB291_294.out;have hnb18:=NB294_292.out;have hnc18:=NB292_294.out;have hcz19_0:=ck_ BK294 0;have hcz19_1:=ck_ BK294 1;have hcz19_2:=ck_ BK294 2;have hcz19_3:=ck_ BK294 3;have hcz19_4:=ck_ BK294 4;have hfz19_0:=fz_ BK294 0;have hfz19_1:=fz_ BK294 1;have hfz19_2:=fz_ BK294 2;have hfz19_3:=fz_ BK294 3;have hfz19_4:=fz_ BK294 4))
     go_loopg [6] k1 (fun kq v6 w'=>∃ (x6_2:Int) (x295000_2:List (S45)) (u295000:Value),v6=.int .i64 x6_2∧Aside0 (swageref14_Copy.l1 kq x4_1 x6_2 a0_0 l0_1 a0_0 x293001_1 x295000_2 ((rd_T50 l0_1 x4_1).f1.f0) ((rd_T50 l0_1 x4_1).f1.f1) ((rd_T50 l0_1 x4_1).f1.f2) ((rd_T50 l0_1 x4_1).f1.f3)=some (r1,r2))∧Aside0 (kq≤k1)∧Aside0 (Kd.R k50 50 w' w.heap.size (fun k_=>some k_≠(u295000:Value).ownBlock∧k_≠gb294) u293001 x293001_1)∧Aside0 (Kd.S k45 45 w' w.heap.size (fun _=>True) u295000 x295000_2)∧Aside0 (w'.heap[gb290]?=some (.cells #[.int .i64 a0_0,(.slice (some ad293) l0_1.length c0_1)] 24 (0,0)))∧Aside0 (w'.heap[gb291]?=some (.cells #[.int .i64 0,(.slice none 0 0)] 24 (0,0)))∧Aside0 (w'.heap[gb292]?=some (.cells #[.int .i64 a0_0,u293001] 24 (0,0)))∧Aside0 (w'.heap[gb294]?=some (.cells #[u295000,.int .i64 ((rd_T50 l0_1 x4_1).f1.f0),.int .i64 ((rd_T50 l0_1 x4_1).f1.f1),.int .i64 ((rd_T50 l0_1 x4_1).f1.f2),.int .i64 ((rd_T50 l0_1 x4_1).f1.f3)] 50 (0,0)))∧Aside0 (Below w.heap.size w w'))
     case atStart=>exact ⟨(0),(([]:List (S45))),(.slice none 0 0),(by first|rfl|(simp;done)|(simp [*];done)),H',⟨Nat.le_refl _⟩,⟨by (with_reducible repeat (first|apply Kd.R_alloc|apply Kd.R_drewN|apply Kd.R_drew));exact Kd.R_mono (Kd.R_far (p:=⟨gb294,4,none⟩) (Kd.R_far (p:=⟨gb294,3,none⟩) (Kd.R_far (p:=⟨gb294,2,none⟩) (Kd.R_far (p:=⟨gb294,1,none⟩) (Kd.R_far (p:=⟨gb294,0,none⟩) (Kd.R_mono HO_293001.out (fun k_ hk=>(⟨hk,hk.2⟩:_∧k_≠gb294))) (fun _ hk=>hk.2) (.slice none 0 0)) (fun _ hk=>hk.2) (.int .i64 ((rd_T50 l0_1 x4_1).f1.f0))) (fun _ hk=>hk.2) (.int .i64 ((rd_T50 l0_1 x4_1).f1.f1))) (fun _ hk=>hk.2) (.int .i64 ((rd_T50 l0_1 x4_1).f1.f2))) (fun _ hk=>hk.2) (.int .i64 ((rd_T50 l0_1 x4_1).f1.f3))) (fun _ hk=>⟨(by simp [Value.ownBlock]),hk.1.2⟩)⟩,⟨by first|exact Kd.S_nil _ _ _ _ _|exact Kd.N_nil _ _ _ _ _|exact Kd.V_nil _ _ _ _ _|exact Kd.Q_nil _ _ _ _ _|exact Kd.R_nil _ _ _ _ _⟩,⟨by (with_reducible repeat (first|refine blk_drewN ?_ _|refine blk_drew ?_|refine blk_alloc ?_ _));refine blk_far ?_ NB290_294.out _;(with_reducible repeat (first|refine blk_drewN ?_ _|refine blk_drew ?_|refine blk_alloc ?_ _));refine blk_far ?_ NB290_294.out _;(with_reducible repeat (first|refine blk_drewN ?_ _|refine blk_drew ?_|refine blk_alloc ?_ _));refine blk_far ?_ NB290_294.out _;(with_reducible repeat (first|refine blk_drewN ?_ _|refine blk_drew ?_|refine blk_alloc ?_ _));refine blk_far ?_ NB290_294.out _;(with_reducible repeat (first|refine blk_drewN ?_ _|refine blk_drew ?_|refine blk_alloc ?_ _));refine blk_far ?_ NB290_294.out _;(with_reducible repeat (first|refine blk_drewN ?_ _|refine blk_drew ?_|refine blk_alloc ?_ _));exact BK290.out⟩,⟨by (with_reducible repeat (first|refine blk_drewN ?_ _|refine blk_drew ?_|refine blk_alloc ?_ _));refine blk_far ?_ NB291_294.out _;(with_reducible repeat (first|refine blk_drewN ?_ _|refine blk_drew ?_|refine blk_alloc ?_ _));refine blk_far ?_ NB291_294.out _;(with_reducible repeat (first|refine blk_drewN ?_ _|refine blk_drew ?_|refine blk_alloc ?_ _));refine blk_far ?_ NB291_294.out _;(with_reducible repeat (first|refine blk_drewN ?_ _|refine blk_drew ?_|refine blk_alloc ?_ _));refine blk_far ?_ NB291_294.out _;(with_reducible repeat (first|refine blk_drewN ?_ _|refine blk_drew ?_|refine blk_alloc ?_ _));refine blk_far ?_ NB291_294.out _;(with_reducible repeat (first|refine blk_drewN ?_ _|refine blk_drew ?_|refine blk_alloc ?_ _));exact BK291.out⟩,⟨by (with_reducible repeat (first|refine blk_drewN ?_ _|refine blk_drew ?_|refine blk_alloc ?_ _));refine blk_far ?_ NB292_294.out _;(with_reducible repeat (first|refine blk_drewN ?_ _|refine blk_drew ?_|refine blk_alloc ?_ _));refine blk_far ?_ NB292_294.out _;(with_reducible repeat (first|refine blk_drewN ?_ _|refine blk_drew ?_|refine blk_alloc ?_ _));refine blk_far ?_ NB292_294.out _;(with_reducible repeat (first|refine blk_drewN ?_ _|refine blk_drew ?_|refine blk_alloc ?_ _));refine blk_far ?_ NB292_294.out _;(with_reducible repeat (first|refine blk_drewN ?_ _|refine blk_drew ?_|refine blk_alloc ?_ _));refine blk_far ?_ NB292_294.out _;(with_reducible repeat (first|refine blk_drewN ?_ _|refine blk_drew ?_|refine blk_alloc ?_ _));exact BK292.out⟩,⟨by (with_reducible repeat (first|refine blk_drewN ?_ _|refine blk_drew ?_|refine blk_alloc ?_ _));refine blk_put (cs:=#[.slice none 0 0,.int .i64 ((rd_T50 l0_1 x4_1).f1.f0),.int .i64 ((rd_T50 l0_1 x4_1).f1.f1),.int .i64 ((rd_T50 l0_1 x4_1).f1.f2),.int .i64 0]) ?_ 4 _ rfl;(with_reducible repeat (first|refine blk_drewN ?_ _|refine blk_drew ?_|refine blk_alloc ?_ _));refine blk_put (cs:=#[.slice none 0 0,.int .i64 ((rd_T50 l0_1 x4_1).f1.f0),.int .i64 ((rd_T50 l0_1 x4_1).f1.f1),.int .i64 0,.int .i64 0]) ?_ 3 _ rfl;(with_reducible repeat (first|refine blk_drewN ?_ _|refine blk_drew ?_|refine blk_alloc ?_ _));refine blk_put (cs:=#[.slice none 0 0,.int .i64 ((rd_T50 l0_1 x4_1).f1.f0),.int .i64 0,.int .i64 0,.int .i64 0]) ?_ 2 _ rfl;(with_reducible repeat (first|refine blk_drewN ?_ _|refine blk_drew ?_|refine blk_alloc ?_ _));refine blk_put (cs:=#[.slice none 0 0,.int .i64 0,.int .i64 0,.int .i64 0,.int .i64 0]) ?_ 1 _ rfl;(with_reducible repeat (first|refine blk_drewN ?_ _|refine blk_drew ?_|refine blk_alloc ?_ _));refine blk_put (cs:=#[.slice none 0 0,.int .i64 0,.int .i64 0,.int .i64 0,.int .i64 0]) ?_ 0 _ rfl;(with_reducible repeat (first|refine blk_drewN ?_ _|refine blk_drew ?_|refine blk_alloc ?_ _));exact BK294.out⟩,⟨bl_ HB⟩⟩
     case round =>
      clear H'
      obtain ⟨x6_2,x295000_2,u295000,rfl,HA,HK2,HO_293001,HO_295000,BK290,BK291,BK292,BK294,HB⟩:=hrel
      cases gk with
      | zero=>exact absurd HA.out (by simp [swageref14_Copy.l1])
      | succ k2 =>
       have H:=HA.out
       clear HA
       simp only [swageref14_Copy.l1] at H
       by_cases c20:0≤x4_1
       ·rw [if_pos c20] at H
        have c20b0:decide (0≤x4_1)=true:=decide_eq_true c20
        clear c20
        by_cases c21:x4_1<(l0_1.length:Int)
        ·rw [if_pos c21] at H
         have c21b0:decide (x4_1<(l0_1.length:Int))=true:=decide_eq_true c21
         clear c21
         by_cases c22:x6_2<(((rd_T50 l0_1 x4_1).f0).length:Int)
         ·rw [if_pos c22] at H
          have c22b0:decide (x6_2<(((rd_T50 l0_1 x4_1).f0).length:Int))=true:=decide_eq_true c22
          clear c22
          by_cases c23:0≤x6_2
          ·rw [if_pos c23] at H
           have c23b0:decide (0≤x6_2)=true:=decide_eq_true c23
           clear c23
           obtain ⟨y299,hy299⟩:∃ y_:List Int,y_=(([]:List Int)):=⟨_,rfl⟩
           replace H:(if y299.length+((rd_T45 ((rd_T50 l0_1 x4_1).f0) x6_2).f5).length<17592186044416 then (if x295000_2.length<2199023255552 then (swageref14_Copy.l1 k2 x4_1 (wrap64 (x6_2+1)) a0_0 l0_1 a0_0 x293001_1 (x295000_2++[(⟨(rd_T45 ((rd_T50 l0_1 x4_1).f0) x6_2).f0,(rd_T45 ((rd_T50 l0_1 x4_1).f0) x6_2).f1,(rd_T45 ((rd_T50 l0_1 x4_1).f0) x6_2).f2,(rd_T45 ((rd_T50 l0_1 x4_1).f0) x6_2).f3,(rd_T45 ((rd_T50 l0_1 x4_1).f0) x6_2).f4,(y299++((rd_T45 ((rd_T50 l0_1 x4_1).f0) x6_2).f5))⟩:S45)]) ((rd_T50 l0_1 x4_1).f1.f0) ((rd_T50 l0_1 x4_1).f1.f1) ((rd_T50 l0_1 x4_1).f1.f2) ((rd_T50 l0_1 x4_1).f1.f3)) else (none)) else (none))=some (r1,r2):=by first|(rw [hy299];with_reducible exact H)|(have H2_:=(Option.bind_some _ _).symm.trans H;rw [hy299];with_reducible exact H2_)|(have H2_:=(Option.bind_some _ _).symm.trans H;with_reducible exact H2_)|with_reducible exact H|(rw [hy299];exact H)|exact H
           have Ny299:=ak_ hy299
           clear hy299
           by_cases c24:y299.length+((rd_T45 ((rd_T50 l0_1 x4_1).f0) x6_2).f5).length<17592186044416
           ·rw [if_pos c24] at H
            have LMc24:=ak_ c24
            clear c24
            obtain ⟨y302,hy302⟩:∃ y_:List Int,y_=(y299++((rd_T45 ((rd_T50 l0_1 x4_1).f0) x6_2).f5)):=⟨_,rfl⟩
            replace H:(if x295000_2.length<2199023255552 then (swageref14_Copy.l1 k2 x4_1 (wrap64 (x6_2+1)) a0_0 l0_1 a0_0 x293001_1 (x295000_2++[(⟨(rd_T45 ((rd_T50 l0_1 x4_1).f0) x6_2).f0,(rd_T45 ((rd_T50 l0_1 x4_1).f0) x6_2).f1,(rd_T45 ((rd_T50 l0_1 x4_1).f0) x6_2).f2,(rd_T45 ((rd_T50 l0_1 x4_1).f0) x6_2).f3,(rd_T45 ((rd_T50 l0_1 x4_1).f0) x6_2).f4,y302⟩:S45)]) ((rd_T50 l0_1 x4_1).f1.f0) ((rd_T50 l0_1 x4_1).f1.f1) ((rd_T50 l0_1 x4_1).f1.f2) ((rd_T50 l0_1 x4_1).f1.f3)) else (none))=some (r1,r2):=by first|(rw [hy302];with_reducible exact H)|(have H2_:=(Option.bind_some _ _).symm.trans H;rw [hy302];with_reducible exact H2_)|(have H2_:=(Option.bind_some _ _).symm.trans H;with_reducible exact H2_)|with_reducible exact H|(rw [hy302];exact H)|exact H
            have Ny302:=ak_ hy302
            clear hy302
            by_cases c25:x295000_2.length<2199023255552
            ·rw [if_pos c25] at H
             have LMc25:=ak_ c25
             clear c25
             obtain ⟨y305,hy305⟩:∃ y_:List (S45),y_=(x295000_2++[(⟨(rd_T45 ((rd_T50 l0_1 x4_1).f0) x6_2).f0,(rd_T45 ((rd_T50 l0_1 x4_1).f0) x6_2).f1,(rd_T45 ((rd_T50 l0_1 x4_1).f0) x6_2).f2,(rd_T45 ((rd_T50 l0_1 x4_1).f0) x6_2).f3,(rd_T45 ((rd_T50 l0_1 x4_1).f0) x6_2).f4,y302⟩:S45)]):=⟨_,rfl⟩
             replace H:(swageref14_Copy.l1 k2 x4_1 (wrap64 (x6_2+1)) a0_0 l0_1 a0_0 x293001_1 y305 ((rd_T50 l0_1 x4_1).f1.f0) ((rd_T50 l0_1 x4_1).f1.f1) ((rd_T50 l0_1 x4_1).f1.f2) ((rd_T50 l0_1 x4_1).f1.f3))=some (r1,r2):=by first|(rw [hy305];with_reducible exact H)|(have H2_:=(Option.bind_some _ _).symm.trans H;rw [hy305];with_reducible exact H2_)|(have H2_:=(Option.bind_some _ _).symm.trans H;with_reducible exact H2_)|with_reducible exact H|(rw [hy305];exact H)|exact H
             have Ny305:=ak_ hy305
             clear hy305
             have H':=ak_ H
             clear H
             have hnb26:=NB290_291.out
             have hnc26:=NB291_290.out
             have hnb27:=NB290_292.out
             have hnc27:=NB292_290.out
             have hnb28:=NB290_294.out
             have hnc28:=NB294_290.out
             have hcz29_0:=ck_ BK290 0
             have hcz29_1:=ck_ BK290 1
             have hfz29_0:=fz_ BK290 0
             have hfz29_1:=fz_ BK290 1
             have p295:0≤(x4_1:Int):=of_decide_eq_true (by first|(with_reducible assumption)|assumption)
             have q295:x4_1<(l0_1.length:Int):=of_decide_eq_true (by first|(with_reducible assumption)|assumption)
             obtain ⟨ad295,A295_0,c295_0,e295,hx295_0,hx295_1,hx295_2,hx295_3,hx295_4,hl295_0,hi295_0⟩:=at_T50 HR0_1.out x4_1 p295 q295
             obtain rfl:ad293=ad295:=(by injection e295)
             replace hx295_0:=cl_ HB hx295_0
             replace hx295_1:=cl_ HB hx295_1
             replace hx295_2:=cl_ HB hx295_2
             replace hx295_3:=cl_ HB hx295_3
             replace hx295_4:=cl_ HB hx295_4
             have HR295_0:=ak_ hi295_0
             have HC295_0:=ak_ hl295_0
             clear hi295_0 hl295_0
             replace p295:=eq_true p295
             replace q295:=eq_true q295
             have p296:0≤(x4_1:Int):=of_decide_eq_true (by first|(with_reducible assumption)|assumption)
             have q296:x4_1<(l0_1.length:Int):=of_decide_eq_true (by first|(with_reducible assumption)|assumption)
             obtain ⟨ad296,A296_0,c296_0,e296,hx296_0,hx296_1,hx296_2,hx296_3,hx296_4,hl296_0,hi296_0⟩:=at_T50 HR0_1.out x4_1 p296 q296
             obtain rfl:ad293=ad296:=(by injection e296)
             replace hx296_0:=cl_ HB hx296_0
             replace hx296_1:=cl_ HB hx296_1
             replace hx296_2:=cl_ HB hx296_2
             replace hx296_3:=cl_ HB hx296_3
             replace hx296_4:=cl_ HB hx296_4
             have HR296_0:=ak_ hi296_0
             have HC296_0:=ak_ hl296_0
             clear hi296_0 hl296_0
             replace p296:=eq_true p296
             replace q296:=eq_true q296
             have ea_:=Option.some.inj (hx295_0.symm.trans hx296_0)
             injection ea_ with ea_ en_ ec_
             subst ea_
             subst ec_
             clear en_
             have p297:0≤(x6_2:Int):=of_decide_eq_true (by first|(with_reducible assumption)|assumption)
             have q297:x6_2<(((rd_T50 l0_1 x4_1).f0).length:Int):=of_decide_eq_true (by first|(with_reducible assumption)|assumption)
             obtain ⟨ad297,A297_5,c297_5,e297,hx297_0,hx297_1,hx297_2,hx297_3,hx297_4,hx297_5,hl297_5,hi297_5⟩:=at_T45 HR296_0.out x6_2 p297 q297
             cases e297
             replace hx297_0:=cl_ HB hx297_0
             replace hx297_1:=cl_ HB hx297_1
             replace hx297_2:=cl_ HB hx297_2
             replace hx297_3:=cl_ HB hx297_3
             replace hx297_4:=cl_ HB hx297_4
             replace hx297_5:=cl_ HB hx297_5
             have HR297_5:=ak_ hi297_5
             have HC297_5:=ak_ hl297_5
             clear hi297_5 hl297_5
             replace p297:=eq_true p297
             replace q297:=eq_true q297
             go_wp2_with (first|((with_reducible refine gate_dst (N:=7) rfl ?_);refine box_event ?hg (N:=7) ?hd (cs:=#[.int .i64 0,.int .i64 0,.int .i64 0,.int .i64 0,.int .i64 0,.slice none 0 0]) (t:=45) ?hr ?_;(case hd=>rfl);(case hg=>rfl);(case hr=>first|(go_simp;done)|(go_simp;rfl));intro gb298 hg w30 hbox hb;have n0_:=ak_ (Kd.R_below (Kd.R_elderB (by (with_reducible repeat (first|apply Kd.R_alloc|apply Kd.R_drewN|apply Kd.R_drew));exact HO_293001.out) gb298 (Nat.le_of_eq hg.symm)) hb);have n1_:=ak_ (Kd.S_below (Kd.S_elderB (by (with_reducible repeat (first|apply Kd.S_alloc|apply Kd.S_drewN|apply Kd.S_drew));exact HO_295000.out) gb298 (Nat.le_of_eq hg.symm)) hb);have n2_:=ak_ (blk_below (g:=gb290) (o:=.cells #[.int .i64 a0_0,.slice (some ad293) l0_1.length c0_1] 24 (0,0)) (bk_ BK290) hb);have n3_:=ak_ (blk_below (g:=gb291) (o:=.cells #[.int .i64 0,.slice none 0 0] 24 (0,0)) (bk_ BK291) hb);have n4_:=ak_ (blk_below (g:=gb292) (o:=.cells #[.int .i64 a0_0,u293001] 24 (0,0)) (bk_ BK292) hb);have n5_:=ak_ (blk_below (g:=gb294) (o:=.cells #[u295000,.int .i64 ((rd_T50 l0_1 x4_1).f1.f0),.int .i64 ((rd_T50 l0_1 x4_1).f1.f1),.int .i64 ((rd_T50 l0_1 x4_1).f1.f2),.int .i64 ((rd_T50 l0_1 x4_1).f1.f3)] 50 (0,0)) (bk_ BK294) hb);have n6_:=ak_ (below_step (bl_ HB) hb);have n7_:=ak_ (hbox);have n8_:=ak_ ((by rw [hg];exact (below_size (bl_ HB)):w.heap.size≤gb298));have n9_:=ak_ ((by rw [hg];exact (below_size (bl_ HB)):w.heap.size≤gb298));have n10_:=ak_ ((by rw [hg];exact Nat.ne_of_lt (blk_lt (g:=gb290) (o:=.cells #[.int .i64 a0_0,.slice (some ad293) l0_1.length c0_1] 24 (0,0)) (bk_ BK290)):gb290≠gb298));have n11_:=ak_ ((by rw [hg];exact Nat.ne_of_gt (blk_lt (g:=gb290) (o:=.cells #[.int .i64 a0_0,.slice (some ad293) l0_1.length c0_1] 24 (0,0)) (bk_ BK290)):gb298≠gb290));have n12_:=ak_ ((by rw [hg];exact Nat.ne_of_lt (blk_lt (g:=gb291) (o:=.cells #[.int .i64 0,.slice none 0 0] 24 (0,0)) (bk_ BK291)):gb291≠gb298));have n13_:=ak_ ((by rw [hg];exact Nat.ne_of_gt (blk_lt (g:=gb291) (o:=.cells #[.int .i64 0,.slice none 0 0] 24 (0,0)) (bk_ BK291)):gb298≠gb291));have n14_:=ak_ ((by rw [hg];exact Nat.ne_of_lt (blk_lt (g:=gb292) (o:=.cells #[.int .i64 a0_0,u293001] 24 (0,0)) (bk_ BK292)):gb292≠gb298));have n15_:=ak_ ((by rw [hg];exact Nat.ne_of_gt (blk_lt (g:=gb292) (o:=.cells #[.int .i64 a0_0,u293001] 24 (0,0)) (bk_ BK292)):gb298≠gb292));have n16_:=ak_ ((by rw [hg];exact Nat.ne_of_lt (blk_lt (g:=gb294) (o:=.cells #[u295000,.int .i64 ((rd_T50 l0_1 x4_1).f1.f0),.int .i64 ((rd_T50 l0_1 x4_1).f1.f1),.int .i64 ((rd_T50 l0_1 x4_1).f1.f2),.int .i64 ((rd_T50 l0_1 x4_1).f1.f3)] 50 (0,0)) (bk_ BK294)):gb294≠gb298));have n17_:=ak_ ((by rw [hg];exact Nat.ne_of_gt (blk_lt (g:=gb294) (o:=.cells #[u295000,.int .i64 ((rd_T50 l0_1 x4_1).f1.f0),.int .i64 ((rd_T50 l0_1 x4_1).f1.f1),.int .i64 ((rd_T50 l0_1 x4_1).f1.f2),.int .i64 ((rd_T50 l0_1 x4_1).f1.f3)] 50 (0,0)) (bk_ BK294)):gb298≠gb294));clear HO_293001;clear HO_295000;clear BK290;clear BK291;clear BK292;clear BK294;clear HB;have HO_293001:=n0_;have HO_295000:=n1_;have BK290:=n2_;have BK291:=n3_;have BK292:=n4_;have BK294:=n5_;have HB:=n6_;have BK298:=n7_;have GW298:=n8_;have GE298:=n9_;have NB290_298:=n10_;have NB298_290:=n11_;have NB291_298:=n12_;have NB298_291:=n13_;have NB292_298:=n14_;have NB298_292:=n15_;have NB294_298:=n16_;have NB298_294:=n17_;clear n0_ n1_ n2_ n3_ n4_ n5_ n6_ n7_ n8_ n9_ n10_ n11_ n12_ n13_ n14_ n15_ n16_ n17_;clear hb hbox hg;have hnb31:=NB298_290.out;have hnc31:=NB290_298.out;have hnb32:=NB298_291.out;have hnc32:=NB291_298.out;have hnb33:=NB298_292.out;have hnc33:=NB292_298.out;have hnb34:=NB298_294.out;have hnc34:=NB294_298.out;have hcz35_0:=ck_ BK298 0;have hcz35_1:=ck_ BK298 1;have hcz35_2:=ck_ BK298 2;have hcz35_3:=ck_ BK298 3;have hcz35_4:=ck_ BK298 4;have hcz35_5:=ck_ BK298 5;have hfz35_0:=fz_ BK298 0;have hfz35_1:=fz_ BK298 1;have hfz35_2:=fz_ BK298 2;have hfz35_3:=fz_ BK298 3;have hfz35_4:=fz_ BK298 4;have hfz35_5:=fz_ BK298 5)|((with_reducible refine gate_dst (N:=45) rfl ?_);refine Kd.R_lit (Kd.int .i64) _ 3 ?hg (N:=45) ?hd (xs:=([]:List Int)) (inner:=[]) (ok:=fun _=>True) (okp:=fun _=>True) ?hr ?hp (fun _ hk=>hk) trivial (Below.refl _ _) (Nat.le_refl _) (by simp) ?_;(case hd=>rfl);(case hg=>rfl);(case hr=>first|(go_simp;done)|(go_simp;rfl));(case hp=>exact (Reps.none _ _));intro v300 w36 ho37 hb hg_ hnew_;clear hg_ hnew_;(first|rw [← Ny299.out] at ho37|(simp only [Int.reduceToNat] at ho37;rw [← Ny299.out] at ho37));have n0_:=ak_ (Kd.R_elder' (by (with_reducible repeat (first|apply Kd.R_alloc|apply Kd.R_drewN|apply Kd.R_drew));exact (Kd.R_mono (Kd.R_far (p:=⟨gb298,5,none⟩) (Kd.R_far (p:=⟨gb298,4,none⟩) (Kd.R_far (p:=⟨gb298,3,none⟩) (Kd.R_far (p:=⟨gb298,2,none⟩) (Kd.R_far (p:=⟨gb298,1,none⟩) (Kd.R_far (p:=⟨gb298,0,none⟩) (Kd.R_mono HO_293001.out (fun k_ hk=>(⟨hk,hk.2⟩:_∧k_≠gb298))) (fun _ hk=>hk.2) (.int .i64 ((rd_T45 ((rd_T50 l0_1 x4_1).f0) x6_2).f0))) (fun _ hk=>hk.2) (.int .i64 ((rd_T45 ((rd_T50 l0_1 x4_1).f0) x6_2).f1))) (fun _ hk=>hk.2) (.int .i64 ((rd_T45 ((rd_T50 l0_1 x4_1).f0) x6_2).f2))) (fun _ hk=>hk.2) (.int .i64 ((rd_T45 ((rd_T50 l0_1 x4_1).f0) x6_2).f3))) (fun _ hk=>hk.2) (.int .i64 ((rd_T45 ((rd_T50 l0_1 x4_1).f0) x6_2).f4))) (fun _ hk=>hk.2) (.slice A297_5 ((rd_T45 ((rd_T50 l0_1 x4_1).f0) x6_2).f5).length c297_5)) (fun _ h_=>h_.1))) (Kd.R_base ho37) hb);have n1_:=ak_ (Kd.S_elder' (by (with_reducible repeat (first|apply Kd.S_alloc|apply Kd.S_drewN|apply Kd.S_drew));exact (Kd.S_mono (Kd.S_far (p:=⟨gb298,5,none⟩) (Kd.S_far (p:=⟨gb298,4,none⟩) (Kd.S_far (p:=⟨gb298,3,none⟩) (Kd.S_far (p:=⟨gb298,2,none⟩) (Kd.S_far (p:=⟨gb298,1,none⟩) (Kd.S_far (p:=⟨gb298,0,none⟩) (Kd.S_mono HO_295000.out (fun k_ hk=>(⟨hk,hk.2⟩:_∧k_≠gb298))) (fun _ hk=>hk.2) (.int .i64 ((rd_T45 ((rd_T50 l0_1 x4_1).f0) x6_2).f0))) (fun _ hk=>hk.2) (.int .i64 ((rd_T45 ((rd_T50 l0_1 x4_1).f0) x6_2).f1))) (fun _ hk=>hk.2) (.int .i64 ((rd_T45 ((rd_T50 l0_1 x4_1).f0) x6_2).f2))) (fun _ hk=>hk.2) (.int .i64 ((rd_T45 ((rd_T50 l0_1 x4_1).f0) x6_2).f3))) (fun _ hk=>hk.2) (.int .i64 ((rd_T45 ((rd_T50 l0_1 x4_1).f0) x6_2).f4))) (fun _ hk=>hk.2) (.slice A297_5 ((rd_T45 ((rd_T50 l0_1 x4_1).f0) x6_2).f5).length c297_5)) (fun _ h_=>h_.1))) (Kd.R_base ho37) hb);have n2_:=ak_ (Kd.R_lower ho37 (below_size (bl_ HB)));have n3_:=ak_ (blk_below (g:=gb290) (o:=.cells #[.int .i64 a0_0,.slice (some ad293) l0_1.length c0_1] 24 (0,0)) (by (with_reducible repeat (first|refine blk_drewN ?_ _|refine blk_drew ?_|refine blk_alloc ?_ _));refine blk_far ?_ NB290_298.out _;(with_reducible repeat (first|refine blk_drewN ?_ _|refine blk_drew ?_|refine blk_alloc ?_ _));refine blk_far ?_ NB290_298.out _;(with_reducible repeat (first|refine blk_drewN ?_ _|refine blk_drew ?_|refine blk_alloc ?_ _));refine blk_far ?_ NB290_298.out _;(with_reducible repeat (first|refine blk_drewN ?_ _|refine blk_drew ?_|refine blk_alloc ?_ _));refine blk_far ?_ NB290_298.out _;(with_reducible repeat (first|refine blk_drewN ?_ _|refine blk_drew ?_|refine blk_alloc ?_ _));refine blk_far ?_ NB290_298.out _;(with_reducible repeat (first|refine blk_drewN ?_ _|refine blk_drew ?_|refine blk_alloc ?_ _));refine blk_far ?_ NB290_298.out _;(with_reducible repeat (first|refine blk_drewN ?_ _|refine blk_drew ?_|refine blk_alloc ?_ _));exact BK290.out) hb);have n4_:=ak_ (blk_below (g:=gb291) (o:=.cells #[.int .i64 0,.slice none 0 0] 24 (0,0)) (by (with_reducible repeat (first|refine blk_drewN ?_ _|refine blk_drew ?_|refine blk_alloc ?_ _));refine blk_far ?_ NB291_298.out _;(with_reducible repeat (first|refine blk_drewN ?_ _|refine blk_drew ?_|refine blk_alloc ?_ _));refine blk_far ?_ NB291_298.out _;(with_reducible repeat (first|refine blk_drewN ?_ _|refine blk_drew ?_|refine blk_alloc ?_ _));refine blk_far ?_ NB291_298.out _;(with_reducible repeat (first|refine blk_drewN ?_ _|refine blk_drew ?_|refine blk_alloc ?_ _));refine blk_far ?_ NB291_298.out _;(with_reducible repeat (first|refine blk_drewN ?_ _|refine blk_drew ?_|refine blk_alloc ?_ _));refine blk_far ?_ NB291_298.out _;(with_reducible repeat (first|refine blk_drewN ?_ _|refine blk_drew ?_|refine blk_alloc ?_ _));refine blk_far ?_ NB291_298.out _;(with_reducible repeat (first|refine blk_drewN ?_ _|refine blk_drew ?_|refine blk_alloc ?_ _));exact BK291.out) hb);have n5_:=ak_ (blk_below (g:=gb292) (o:=.cells #[.int .i64 a0_0,u293001] 24 (0,0)) (by (with_reducible repeat (first|refine blk_drewN ?_ _|refine blk_drew ?_|refine blk_alloc ?_ _));refine blk_far ?_ NB292_298.out _;(with_reducible repeat (first|refine blk_drewN ?_ _|refine blk_drew ?_|refine blk_alloc ?_ _));refine blk_far ?_ NB292_298.out _;(with_reducible repeat (first|refine blk_drewN ?_ _|refine blk_drew ?_|refine blk_alloc ?_ _));refine blk_far ?_ NB292_298.out _;(with_reducible repeat (first|refine blk_drewN ?_ _|refine blk_drew ?_|refine blk_alloc ?_ _));refine blk_far ?_ NB292_298.out _;(with_reducible repeat (first|refine blk_drewN ?_ _|refine blk_drew ?_|refine blk_alloc ?_ _));refine blk_far ?_ NB292_298.out _;(with_reducible repeat (first|refine blk_drewN ?_ _|refine blk_drew ?_|refine blk_alloc ?_ _));refine blk_far ?_ NB292_298.out _;(with_reducible repeat (first|refine blk_drewN ?_ _|refine blk_drew ?_|refine blk_alloc ?_ _));exact BK292.out) hb);have n6_:=ak_ (blk_below (g:=gb294) (o:=.cells #[u295000,.int .i64 ((rd_T50 l0_1 x4_1).f1.f0),.int .i64 ((rd_T50 l0_1 x4_1).f1.f1),.int .i64 ((rd_T50 l0_1 x4_1).f1.f2),.int .i64 ((rd_T50 l0_1 x4_1).f1.f3)] 50 (0,0)) (by (with_reducible repeat (first|refine blk_drewN ?_ _|refine blk_drew ?_|refine blk_alloc ?_ _));refine blk_far ?_ NB294_298.out _;(with_reducible repeat (first|refine blk_drewN ?_ _|refine blk_drew ?_|refine blk_alloc ?_ _));refine blk_far ?_ NB294_298.out _;(with_reducible repeat (first|refine blk_drewN ?_ _|refine blk_drew ?_|refine blk_alloc ?_ _));refine blk_far ?_ NB294_298.out _;(with_reducible repeat (first|refine blk_drewN ?_ _|refine blk_drew ?_|refine blk_alloc ?_ _));refine blk_far ?_ NB294_298.out _;(with_reducible repeat (first|refine blk_drewN ?_ _|refine blk_drew ?_|refine blk_alloc ?_ _));refine blk_far ?_ NB294_298.out _;(with_reducible repeat (first|refine blk_drewN ?_ _|refine blk_drew ?_|refine blk_alloc ?_ _));refine blk_far ?_ NB294_298.out _;(with_reducible repeat (first|refine blk_drewN ?_ _|refine blk_drew ?_|refine blk_alloc ?_ _));exact BK294.out) hb);have n7_:=ak_ (blk_below (g:=gb298) (o:=.cells #[.int .i64 ((rd_T45 ((rd_T50 l0_1 x4_1).f0) x6_2).f0),.int .i64 ((rd_T45 ((rd_T50 l0_1 x4_1).f0) x6_2).f1),.int .i64 ((rd_T45 ((rd_T50 l0_1 x4_1).f0) x6_2).f2),.int .i64 ((rd_T45 ((rd_T50 l0_1 x4_1).f0) x6_2).f3),.int .i64 ((rd_T45 ((rd_T50 l0_1 x4_1).f0) x6_2).f4),.slice A297_5 ((rd_T45 ((rd_T50 l0_1 x4_1).f0) x6_2).f5).length c297_5] 45 (0,0)) (by (with_reducible repeat (first|refine blk_drewN ?_ _|refine blk_drew ?_|refine blk_alloc ?_ _));refine blk_put (cs:=#[.int .i64 ((rd_T45 ((rd_T50 l0_1 x4_1).f0) x6_2).f0),.int .i64 ((rd_T45 ((rd_T50 l0_1 x4_1).f0) x6_2).f1),.int .i64 ((rd_T45 ((rd_T50 l0_1 x4_1).f0) x6_2).f2),.int .i64 ((rd_T45 ((rd_T50 l0_1 x4_1).f0) x6_2).f3),.int .i64 ((rd_T45 ((rd_T50 l0_1 x4_1).f0) x6_2).f4),.slice none 0 0]) ?_ 5 _ rfl;(with_reducible repeat (first|refine blk_drewN ?_ _|refine blk_drew ?_|refine blk_alloc ?_ _));refine blk_put (cs:=#[.int .i64 ((rd_T45 ((rd_T50 l0_1 x4_1).f0) x6_2).f0),.int .i64 ((rd_T45 ((rd_T50 l0_1 x4_1).f0) x6_2).f1),.int .i64 ((rd_T45 ((rd_T50 l0_1 x4_1).f0) x6_2).f2),.int .i64 ((rd_T45 ((rd_T50 l0_1 x4_1).f0) x6_2).f3),.int .i64 0,.slice none 0 0]) ?_ 4 _ rfl;(with_reducible repeat (first|refine blk_drewN ?_ _|refine blk_drew ?_|refine blk_alloc ?_ _));refine blk_put (cs:=#[.int .i64 ((rd_T45 ((rd_T50 l0_1 x4_1).f0) x6_2).f0),.int .i64 ((rd_T45 ((rd_T50 l0_1 x4_1).f0) x6_2).f1),.int .i64 ((rd_T45 ((rd_T50 l0_1 x4_1).f0) x6_2).f2),.int .i64 0,.int .i64 0,.slice none 0 0]) ?_ 3 _ rfl;(with_reducible repeat (first|refine blk_drewN ?_ _|refine blk_drew ?_|refine blk_alloc ?_ _));refine blk_put (cs:=#[.int .i64 ((rd_T45 ((rd_T50 l0_1 x4_1).f0) x6_2).f0),.int .i64 ((rd_T45 ((rd_T50 l0_1 x4_1).f0) x6_2).f1),.int .i64 0,.int .i64 0,.int .i64 0,.slice none 0 0]) ?_ 2 _ rfl;(with_reducible repeat (first|refine blk_drewN ?_ _|refine blk_drew ?_|refine blk_alloc ?_ _));refine blk_put (cs:=#[.int .i64 ((rd_T45 ((rd_T50 l0_1 x4_1).f0) x6_2).f0),.int .i64 0,.int .i64 0,.int .i64 0,.int .i64 0,.slice none 0 0]) ?_ 1 _ rfl;(with_reducible repeat (first|refine blk_drewN ?_ _|refine blk_drew ?_|refine blk_alloc ?_ _));refine blk_put (cs:=#[.int .i64 0,.int .i64 0,.int .i64 0,.int .i64 0,.int .i64 0,.slice none 0 0]) ?_ 0 _ rfl;(with_reducible repeat (first|refine blk_drewN ?_ _|refine blk_drew ?_|refine blk_alloc ?_ _));exact BK298.out) hb);have n8_:=ak_ (below_step (bl_ HB) hb);clear HO_293001;clear HO_295000;clear BK290;clear BK291;clear BK292;clear BK294;clear BK298;clear HB;have HO_293001:=n0_;have HO_295000:=n1_;have HO301:=n2_;have BK290:=n3_;have BK291:=n4_;have BK292:=n5_;have BK294:=n6_;have BK298:=n7_;have HB:=n8_;clear n0_ n1_ n2_ n3_ n4_ n5_ n6_ n7_ n8_;clear hb ho37;have hcz38_0:=ck_ BK298 0;have hcz38_1:=ck_ BK298 1;have hcz38_2:=ck_ BK298 2;have hcz38_3:=ck_ BK298 3;have hcz38_4:=ck_ BK298 4;have hcz38_5:=ck_ BK298 5;have hfz38_0:=fz_ BK298 0;have hfz38_1:=fz_ BK298 1;have hfz38_2:=fz_ BK298 2;have hfz38_3:=fz_ BK298 3;have hfz38_4:=fz_ BK298 4;have hfz38_5:=fz_ BK298 5)|((with_reducible refine gate_builtin (b:=.append) (xs:=#[.tmp 45,.tmp 47]) rfl ?_);at_builtin;refine Kd.R_append_rows (Kd.int .i64) (w0:=w) w.heap.size rfl (.tmp 45) (.tmp 47) 31 3 (.int .i64 0) 8 rfl Tryz.underlying31 info3 rfl (by decide) (by omega) v300 y299 ((rd_T45 ((rd_T50 l0_1 x4_1).f0) x6_2).f5) _ _ _ (fun _=>True) (fun _=>False) rfl rfl ?aO ?aR (fun _ _ h=>h) (fun _ h=>h.elim) ?aF ?aB ?aS ?aL ?_;(case aR=>repeat (first|exact (Kd.C_below HR297_5.out HB.out)|(with_reducible refine Kd.C_alloc ?_ _)|(with_reducible refine Kd.C_drewN ?_ _)|(with_reducible refine Kd.C_drew ?_)));(case aB=>exact (bl_ HB));(case aF=>exact (fun _ _=>trivial));(case aO=>exact (by (with_reducible repeat (first|apply Kd.R_alloc|apply Kd.R_drewN|apply Kd.R_drew));exact HO301.out));(case aS=>exact (below_size (bl_ HB)));(case aL=>have:=LMc24.out;omega);intro v303 w39 ho hb hg hat;rw [← Ny302.out] at ho;have n0_:=ak_ (Kd.R_after (ok:=(fun k_=>some k_≠(u295000:Value).ownBlock∧k_≠gb294∧k_≠gb298)) (by (with_reducible repeat (first|apply Kd.R_alloc|apply Kd.R_drewN|apply Kd.R_drew));exact Kd.R_mono HO_293001.out (fun _ hk=>⟨⟨hk.1.1.1,⟨hk.1.1.2,hk.1.2⟩⟩,hk.2⟩)) hg hat);have n1_:=ak_ (Kd.S_after (ok:=(fun k_=>k_≠gb298)) (by (with_reducible repeat (first|apply Kd.S_alloc|apply Kd.S_drewN|apply Kd.S_drew));exact Kd.S_mono HO_295000.out (fun _ hk=>⟨hk.1.2,hk.2⟩)) hg hat);have n2_:=ak_ (blk_grown (g:=gb290) (o:=.cells #[.int .i64 a0_0,.slice (some ad293) l0_1.length c0_1] 24 (0,0)) (bk_ BK290) hg (Kd.R_ne HO301.out BK290.out (by decide)));have n3_:=ak_ (blk_grown (g:=gb291) (o:=.cells #[.int .i64 0,.slice none 0 0] 24 (0,0)) (bk_ BK291) hg (Kd.R_ne HO301.out BK291.out (by decide)));have n4_:=ak_ (blk_grown (g:=gb292) (o:=.cells #[.int .i64 a0_0,u293001] 24 (0,0)) (bk_ BK292) hg (Kd.R_ne HO301.out BK292.out (by decide)));have n5_:=ak_ (blk_grown (g:=gb294) (o:=.cells #[u295000,.int .i64 ((rd_T50 l0_1 x4_1).f1.f0),.int .i64 ((rd_T50 l0_1 x4_1).f1.f1),.int .i64 ((rd_T50 l0_1 x4_1).f1.f2),.int .i64 ((rd_T50 l0_1 x4_1).f1.f3)] 50 (0,0)) (bk_ BK294) hg (Kd.R_ne HO301.out BK294.out (by decide)));have n6_:=ak_ (blk_grown (g:=gb298) (o:=.cells #[.int .i64 ((rd_T45 ((rd_T50 l0_1 x4_1).f0) x6_2).f0),.int .i64 ((rd_T45 ((rd_T50 l0_1 x4_1).f0) x6_2).f1),.int .i64 ((rd_T45 ((rd_T50 l0_1 x4_1).f0) x6_2).f2),.int .i64 ((rd_T45 ((rd_T50 l0_1 x4_1).f0) x6_2).f3),.int .i64 ((rd_T45 ((rd_T50 l0_1 x4_1).f0) x6_2).f4),.slice A297_5 ((rd_T45 ((rd_T50 l0_1 x4_1).f0) x6_2).f5).length c297_5] 45 (0,0)) (bk_ BK298) hg (Kd.R_ne HO301.out BK298.out (by decide)));have n7_:=ak_ (hb);have n8_:=ak_ (ho);clear HO_293001;clear HO_295000;clear BK290;clear BK291;clear BK292;clear BK294;clear BK298;clear HB;clear HO301;have HO_293001:=n0_;have HO_295000:=n1_;have BK290:=n2_;have BK291:=n3_;have BK292:=n4_;have BK294:=n5_;have BK298:=n6_;have HB:=n7_;have HO304:=n8_;clear n0_ n1_ n2_ n3_ n4_ n5_ n6_ n7_ n8_;clear ho hb hg hat;obtain ⟨Ao40,co40,eo40⟩:=Kd.R_slice HO304.out;subst eo40;have hcz41_0:=ck_ BK298 0;have hcz41_1:=ck_ BK298 1;have hcz41_2:=ck_ BK298 2;have hcz41_3:=ck_ BK298 3;have hcz41_4:=ck_ BK298 4;have hcz41_5:=ck_ BK298 5;have hfz41_0:=fz_ BK298 0;have hfz41_1:=fz_ BK298 1;have hfz41_2:=fz_ BK298 2;have hfz41_3:=fz_ BK298 3;have hfz41_4:=fz_ BK298 4;have hfz41_5:=fz_ BK298 5)|((with_reducible refine gate_store (t:=31) (p:=49) rfl ?_);refine store_event (t:=31) (p:=49) (v:=?vo_w42) (w1:=(w39.setCell ⟨gb298,5,none⟩ (.slice Ao40 y302.length co40))) ?hg ?ho ?hn ?hr ?_;(case ho=>rfl);(case hg=>rfl);(case hn=>rfl);(case hr=>first|(go_simp;done)|(go_simp;rfl));intro w42 hw;have n0_:Aside0 (Kd.R k50 50 w42 w.heap.size (fun k_=>some k_≠(u295000:Value).ownBlock∧some k_≠(.slice Ao40 y302.length co40:Value).ownBlock∧k_≠gb294∧k_≠gb298) u293001 x293001_1):=⟨(by rw [hw];exact (by (with_reducible repeat (first|apply Kd.R_alloc|apply Kd.R_drewN|apply Kd.R_drew));exact Kd.R_mono (Kd.R_far (p:=⟨gb298,5,none⟩) (Kd.R_mono HO_293001.out (fun k_ hk=>(⟨hk,hk.1.2.2⟩:_∧k_≠gb298))) (fun _ hk=>hk.2) (.slice Ao40 y302.length co40)) (fun _ hk=>⟨hk.1.1.1,⟨hk.1.2,⟨hk.1.1.2.1,hk.1.1.2.2⟩⟩⟩)))⟩;have n1_:Aside0 (Kd.S k45 45 w42 w.heap.size (fun k_=>some k_≠(.slice Ao40 y302.length co40:Value).ownBlock∧k_≠gb298) u295000 x295000_2):=⟨(by rw [hw];exact (by (with_reducible repeat (first|apply Kd.S_alloc|apply Kd.S_drewN|apply Kd.S_drew));exact Kd.S_mono (Kd.S_far (p:=⟨gb298,5,none⟩) (Kd.S_mono HO_295000.out (fun k_ hk=>(⟨hk,hk.1⟩:_∧k_≠gb298))) (fun _ hk=>hk.2) (.slice Ao40 y302.length co40)) (fun _ hk=>⟨hk.1.2,hk.1.1⟩)))⟩;have n2_:Aside0 (Kd.R (Kd.int .i64) 3 w42 w.heap.size (fun _=>True) (.slice Ao40 y302.length co40) y302):=⟨(by rw [hw];exact (by (with_reducible repeat (first|apply Kd.R_alloc|apply Kd.R_drewN|apply Kd.R_drew));exact Kd.R_mono (Kd.R_far (p:=⟨gb298,5,none⟩) (Kd.R_types HO304.out BK298.out (by decide)) (fun _ hk=>hk.2) (.slice Ao40 y302.length co40)) (fun _ hk=>trivial)))⟩;have n3_:Aside0 (w42.heap[gb290]?=some (.cells #[.int .i64 a0_0,.slice (some ad293) l0_1.length c0_1] 24 (0,0))):=⟨(by rw [hw];exact (by (with_reducible repeat (first|refine blk_drewN ?_ _|refine blk_drew ?_|refine blk_alloc ?_ _));refine blk_far ?_ NB290_298.out _;(with_reducible repeat (first|refine blk_drewN ?_ _|refine blk_drew ?_|refine blk_alloc ?_ _));exact BK290.out))⟩;have n4_:Aside0 (w42.heap[gb291]?=some (.cells #[.int .i64 0,.slice none 0 0] 24 (0,0))):=⟨(by rw [hw];exact (by (with_reducible repeat (first|refine blk_drewN ?_ _|refine blk_drew ?_|refine blk_alloc ?_ _));refine blk_far ?_ NB291_298.out _;(with_reducible repeat (first|refine blk_drewN ?_ _|refine blk_drew ?_|refine blk_alloc ?_ _));exact BK291.out))⟩;have n5_:Aside0 (w42.heap[gb292]?=some (.cells #[.int .i64 a0_0,u293001] 24 (0,0))):=⟨(by rw [hw];exact (by (with_reducible repeat (first|refine blk_drewN ?_ _|refine blk_drew ?_|refine blk_alloc ?_ _));refine blk_far ?_ NB292_298.out _;(with_reducible repeat (first|refine blk_drewN ?_ _|refine blk_drew ?_|refine blk_alloc ?_ _));exact BK292.out))⟩;have n6_:Aside0 (w42.heap[gb294]?=some (.cells #[u295000,.int .i64 ((rd_T50 l0_1 x4_1).f1.f0),.int .i64 ((rd_T50 l0_1 x4_1).f1.f1),.int .i64 ((rd_T50 l0_1 x4_1).f1.f2),.int .i64 ((rd_T50 l0_1 x4_1).f1.f3)] 50 (0,0))):=⟨(by rw [hw];exact (by (with_reducible repeat (first|refine blk_drewN ?_ _|refine blk_drew ?_|refine blk_alloc ?_ _));refine blk_far ?_ NB294_298.out _;(with_reducible repeat (first|refine blk_drewN ?_ _|refine blk_drew ?_|refine blk_alloc ?_ _));exact BK294.out))⟩;have n7_:Aside0 (w42.heap[gb298]?=some (.cells #[.int .i64 ((rd_T45 ((rd_T50 l0_1 x4_1).f0) x6_2).f0),.int .i64 ((rd_T45 ((rd_T50 l0_1 x4_1).f0) x6_2).f1),.int .i64 ((rd_T45 ((rd_T50 l0_1 x4_1).f0) x6_2).f2),.int .i64 ((rd_T45 ((rd_T50 l0_1 x4_1).f0) x6_2).f3),.int .i64 ((rd_T45 ((rd_T50 l0_1 x4_1).f0) x6_2).f4),.slice Ao40 y302.length co40] 45 (0,0))):=⟨(by rw [hw];exact (by (with_reducible repeat (first|refine blk_drewN ?_ _|refine blk_drew ?_|refine blk_alloc ?_ _));refine blk_put (cs:=#[.int .i64 ((rd_T45 ((rd_T50 l0_1 x4_1).f0) x6_2).f0),.int .i64 ((rd_T45 ((rd_T50 l0_1 x4_1).f0) x6_2).f1),.int .i64 ((rd_T45 ((rd_T50 l0_1 x4_1).f0) x6_2).f2),.int .i64 ((rd_T45 ((rd_T50 l0_1 x4_1).f0) x6_2).f3),.int .i64 ((rd_T45 ((rd_T50 l0_1 x4_1).f0) x6_2).f4),.slice A297_5 ((rd_T45 ((rd_T50 l0_1 x4_1).f0) x6_2).f5).length c297_5]) ?_ 5 _ rfl;(with_reducible repeat (first|refine blk_drewN ?_ _|refine blk_drew ?_|refine blk_alloc ?_ _));exact BK298.out))⟩;have n8_:Aside0 (Below w.heap.size w w42):=⟨(by rw [hw];exact (bl_ HB))⟩;clear hw;clear HO_293001;clear HO_295000;clear HO304;clear BK290;clear BK291;clear BK292;clear BK294;clear BK298;clear HB;have HO_293001:=n0_;have HO_295000:=n1_;have HO304:=n2_;have BK290:=n3_;have BK291:=n4_;have BK292:=n5_;have BK294:=n6_;have BK298:=n7_;have HB:=n8_;clear n0_ n1_ n2_ n3_ n4_ n5_ n6_ n7_ n8_;have hnb43:=NB294_291.out;have hnc43:=NB291_294.out;have hnb44:=NB294_292.out;have hnc44:=NB292_294.out;have hcz45_0:=ck_ BK294 0;have hcz45_1:=ck_ BK294 1;have hcz45_2:=ck_ BK294 2;have hcz45_3:=ck_ BK294 3;have hcz45_4:=ck_ BK294 4;have hfz45_0:=fz_ BK294 0;have hfz45_1:=fz_ BK294 1;have hfz45_2:=fz_ BK294 2;have hfz45_3:=fz_ BK294 3;have hfz45_4:=fz_ BK294 4;have hcz46_0:=ck_ BK298 0;have hcz46_1:=ck_ BK298 1;have hcz46_2:=ck_ BK298 2;have hcz46_3:=ck_ BK298 3;have hcz46_4:=ck_ BK298 4;have hcz46_5:=ck_ BK298 5;have hfz46_0:=fz_ BK298 0;have hfz46_1:=fz_ BK298 1;have hfz46_2:=fz_ BK298 2;have hfz46_3:=fz_ BK298 3;have hfz46_4:=fz_ BK298 4;have hfz46_5:=fz_ BK298 5)|((with_reducible refine gate_builtin (b:=.append) (xs:=#[.tmp 51,.tmp 53]) rfl ?_);at_builtin;refine Kd.S_append k45 (w0:=w) w.heap.size rfl (.tmp 51) (.tmp 53) 46 45 (.agg #[(.int .i64 0),(.int .i64 0),(.int .i64 0),(.int .i64 0),(.int .i64 0),(.slice none 0 0)]) 64 rfl Tryz.underlying46 info45 rfl (by decide) (by omega) u295000 x295000_2 (⟨(rd_T45 ((rd_T50 l0_1 x4_1).f0) x6_2).f0,(rd_T45 ((rd_T50 l0_1 x4_1).f0) x6_2).f1,(rd_T45 ((rd_T50 l0_1 x4_1).f0) x6_2).f2,(rd_T45 ((rd_T50 l0_1 x4_1).f0) x6_2).f3,(rd_T45 ((rd_T50 l0_1 x4_1).f0) x6_2).f4,y302⟩:S45) [.int .i64 ((rd_T45 ((rd_T50 l0_1 x4_1).f0) x6_2).f0),.int .i64 ((rd_T45 ((rd_T50 l0_1 x4_1).f0) x6_2).f1),.int .i64 ((rd_T45 ((rd_T50 l0_1 x4_1).f0) x6_2).f2),.int .i64 ((rd_T45 ((rd_T50 l0_1 x4_1).f0) x6_2).f3),.int .i64 ((rd_T45 ((rd_T50 l0_1 x4_1).f0) x6_2).f4),.slice Ao40 y302.length co40] (fun k_=>k_≠gb298) (fun k_=>some k_=(.slice Ao40 y302.length co40:Value).ownBlock) rfl rfl ?aP (fun k_ hk_=>((Kd.R_mono (ok':=fun k_=>((fun k_=>k_≠gb298)) k_∧some k_≠(u295000:Value).ownBlock) (Kd.R_types (Kd.R_apart' (HO304.out) (Kd.S_typed HO_295000.out) (by decide)) BK298.out (by decide)) (fun k_ hk=>⟨hk.2,hk.1.2⟩))).1 k_ hk_.symm) ?aF ?aO ?aB ?aS ?aL ?_;(case aP=>exact k45_mkM _ _ _ (⟨(rd_T45 ((rd_T50 l0_1 x4_1).f0) x6_2).f0,(rd_T45 ((rd_T50 l0_1 x4_1).f0) x6_2).f1,(rd_T45 ((rd_T50 l0_1 x4_1).f0) x6_2).f2,(rd_T45 ((rd_T50 l0_1 x4_1).f0) x6_2).f3,(rd_T45 ((rd_T50 l0_1 x4_1).f0) x6_2).f4,y302⟩:S45) (Kd.R_mono (Kd.R_tight rfl (Kd.R_mono (ok':=fun k_=>((fun k_=>k_≠gb298)) k_∧some k_≠(u295000:Value).ownBlock) (Kd.R_types (Kd.R_apart' (HO304.out) (Kd.S_typed HO_295000.out) (by decide)) BK298.out (by decide)) (fun k_ hk=>⟨hk.2,hk.1.2⟩))) (fun _ h_=>h_)));(case aB=>exact (bl_ HB));(case aF=>exact (fun k_ hk=>Kd.freshB (g:=gb298) (o:=.cells #[.int .i64 ((rd_T45 ((rd_T50 l0_1 x4_1).f0) x6_2).f0),.int .i64 ((rd_T45 ((rd_T50 l0_1 x4_1).f0) x6_2).f1),.int .i64 ((rd_T45 ((rd_T50 l0_1 x4_1).f0) x6_2).f2),.int .i64 ((rd_T45 ((rd_T50 l0_1 x4_1).f0) x6_2).f3),.int .i64 ((rd_T45 ((rd_T50 l0_1 x4_1).f0) x6_2).f4),.slice Ao40 y302.length co40] 45 (0,0)) (bk_ BK298) k_ hk));(case aO=>exact (by (with_reducible repeat (first|apply Kd.S_alloc|apply Kd.S_drewN|apply Kd.S_drew));exact Kd.S_mono HO_295000.out (fun k_ hk=>⟨hk.2,fun e_=>hk.1 e_⟩)));(case aS=>exact (below_size (bl_ HB)));(case aL=>have:=LMc25.out;omega);intro v306 w47 ho hb hg hat;rw [← Ny305.out] at ho;have n0_:=ak_ (Kd.R_after (ok:=(fun k_=>some k_≠(.slice Ao40 y302.length co40:Value).ownBlock∧k_≠gb294∧k_≠gb298)) (by (with_reducible repeat (first|apply Kd.R_alloc|apply Kd.R_drewN|apply Kd.R_drew));exact Kd.R_mono HO_293001.out (fun _ hk=>⟨⟨hk.2.1,⟨hk.2.2.1,hk.2.2.2⟩⟩,hk.1⟩)) hg hat);have n1_:=ak_ (blk_grown (g:=gb290) (o:=.cells #[.int .i64 a0_0,.slice (some ad293) l0_1.length c0_1] 24 (0,0)) (bk_ BK290) hg (Kd.S_ne HO_295000.out BK290.out (by decide)));have n2_:=ak_ (blk_grown (g:=gb291) (o:=.cells #[.int .i64 0,.slice none 0 0] 24 (0,0)) (bk_ BK291) hg (Kd.S_ne HO_295000.out BK291.out (by decide)));have n3_:=ak_ (blk_grown (g:=gb292) (o:=.cells #[.int .i64 a0_0,u293001] 24 (0,0)) (bk_ BK292) hg (Kd.S_ne HO_295000.out BK292.out (by decide)));have n4_:=ak_ (blk_grown (g:=gb294) (o:=.cells #[u295000,.int .i64 ((rd_T50 l0_1 x4_1).f1.f0),.int .i64 ((rd_T50 l0_1 x4_1).f1.f1),.int .i64 ((rd_T50 l0_1 x4_1).f1.f2),.int .i64 ((rd_T50 l0_1 x4_1).f1.f3)] 50 (0,0)) (bk_ BK294) hg (Kd.S_ne HO_295000.out BK294.out (by decide)));have n5_:=ak_ (blk_grown (g:=gb298) (o:=.cells #[.int .i64 ((rd_T45 ((rd_T50 l0_1 x4_1).f0) x6_2).f0),.int .i64 ((rd_T45 ((rd_T50 l0_1 x4_1).f0) x6_2).f1),.int .i64 ((rd_T45 ((rd_T50 l0_1 x4_1).f0) x6_2).f2),.int .i64 ((rd_T45 ((rd_T50 l0_1 x4_1).f0) x6_2).f3),.int .i64 ((rd_T45 ((rd_T50 l0_1 x4_1).f0) x6_2).f4),.slice Ao40 y302.length co40] 45 (0,0)) (bk_ BK298) hg (Kd.S_away HO_295000.out (fun _ hk=>hk.2)));have n6_:=ak_ (hb);have n7_:=ak_ (ho);clear HO_293001;clear BK290;clear BK291;clear BK292;clear BK294;clear BK298;clear HB;clear HO_295000;clear HO304;have HO_293001:=n0_;have BK290:=n1_;have BK291:=n2_;have BK292:=n3_;have BK294:=n4_;have BK298:=n5_;have HB:=n6_;have HO307:=n7_;clear n0_ n1_ n2_ n3_ n4_ n5_ n6_ n7_;clear ho hb hg hat;obtain ⟨Ao48,co48,eo48⟩:=Kd.S_slice HO307.out;subst eo48;have hcz49_0:=ck_ BK294 0;have hcz49_1:=ck_ BK294 1;have hcz49_2:=ck_ BK294 2;have hcz49_3:=ck_ BK294 3;have hcz49_4:=ck_ BK294 4;have hfz49_0:=fz_ BK294 0;have hfz49_1:=fz_ BK294 1;have hfz49_2:=fz_ BK294 2;have hfz49_3:=fz_ BK294 3;have hfz49_4:=fz_ BK294 4))
             go_roundg k2
             case measure=>have:=HK1.out;have:=HK2.out;omega
             case rel=>exact ⟨(wrap64 (x6_2+1)),(y305),(.slice Ao48 y305.length co48),(by first|rfl|(simp;done)|(simp [*];done)),H',⟨by have:=HK1.out;have:=HK2.out;omega⟩,⟨by (with_reducible repeat (first|apply Kd.R_alloc|apply Kd.R_drewN|apply Kd.R_drew));exact Kd.R_mono (Kd.R_far (p:=⟨gb294,0,none⟩) (Kd.R_mono HO_293001.out (fun k_ hk=>(⟨hk,hk.1.2.1⟩:_∧k_≠gb294))) (fun _ hk=>hk.2) (.slice Ao48 y305.length co48)) (fun _ hk=>⟨hk.1.2,hk.1.1.2.1⟩)⟩,⟨by (with_reducible repeat (first|apply Kd.S_alloc|apply Kd.S_drewN|apply Kd.S_drew));exact Kd.S_mono (Kd.S_far (p:=⟨gb294,0,none⟩) (Kd.S_types HO307.out BK294.out (by decide)) (fun _ hk=>hk.2) (.slice Ao48 y305.length co48)) (fun _ hk=>trivial)⟩,⟨by (with_reducible repeat (first|refine blk_drewN ?_ _|refine blk_drew ?_|refine blk_alloc ?_ _));refine blk_far ?_ NB290_294.out _;(with_reducible repeat (first|refine blk_drewN ?_ _|refine blk_drew ?_|refine blk_alloc ?_ _));exact BK290.out⟩,⟨by (with_reducible repeat (first|refine blk_drewN ?_ _|refine blk_drew ?_|refine blk_alloc ?_ _));refine blk_far ?_ NB291_294.out _;(with_reducible repeat (first|refine blk_drewN ?_ _|refine blk_drew ?_|refine blk_alloc ?_ _));exact BK291.out⟩,⟨by (with_reducible repeat (first|refine blk_drewN ?_ _|refine blk_drew ?_|refine blk_alloc ?_ _));refine blk_far ?_ NB292_294.out _;(with_reducible repeat (first|refine blk_drewN ?_ _|refine blk_drew ?_|refine blk_alloc ?_ _));exact BK292.out⟩,⟨by (with_reducible repeat (first|refine blk_drewN ?_ _|refine blk_drew ?_|refine blk_alloc ?_ _));refine blk_put (cs:=#[u295000,.int .i64 ((rd_T50 l0_1 x4_1).f1.f0),.int .i64 ((rd_T50 l0_1 x4_1).f1.f1),.int .i64 ((rd_T50 l0_1 x4_1).f1.f2),.int .i64 ((rd_T50 l0_1 x4_1).f1.f3)]) ?_ 0 _ rfl;(with_reducible repeat (first|refine blk_drewN ?_ _|refine blk_drew ?_|refine blk_alloc ?_ _));exact BK294.out⟩,⟨bl_ HB⟩⟩
            ·rw [if_neg c25] at H
             exact absurd H (by simp)
           ·rw [if_neg c24] at H
            exact absurd H (by simp)
          ·rw [if_neg c23] at H
           exact absurd H (by simp)
         ·rw [if_neg c22] at H
          have c22b0:decide (x6_2<(((rd_T50 l0_1 x4_1).f0).length:Int))=false:=decide_eq_false c22
          clear c22
          by_cases c50:x293001_1.length<2513169434916
          ·rw [if_pos c50] at H
           have LMc50:=ak_ c50
           clear c50
           obtain ⟨y308,hy308⟩:∃ y_:List (S50),y_=(x293001_1++[(⟨x295000_2,(⟨((rd_T50 l0_1 x4_1).f1.f0),((rd_T50 l0_1 x4_1).f1.f1),((rd_T50 l0_1 x4_1).f1.f2),((rd_T50 l0_1 x4_1).f1.f3)⟩:S48)⟩:S50)]):=⟨_,rfl⟩
           replace H:(swageref14_Copy.l0 k2 (wrap64 (x4_1+1)) a0_0 l0_1 a0_0 y308)=some (r1,r2):=by first|(rw [hy308];with_reducible exact H)|(have H2_:=(Option.bind_some _ _).symm.trans H;rw [hy308];with_reducible exact H2_)|(have H2_:=(Option.bind_some _ _).symm.trans H;with_reducible exact H2_)|with_reducible exact H|(rw [hy308];exact H)|exact H
           have Ny308:=ak_ hy308
           clear hy308
           have H':=ak_ H
           clear H
           have hnb51:=NB290_291.out
           have hnc51:=NB291_290.out
           have hnb52:=NB290_292.out
           have hnc52:=NB292_290.out
           have hnb53:=NB290_294.out
           have hnc53:=NB294_290.out
           have hcz54_0:=ck_ BK290 0
           have hcz54_1:=ck_ BK290 1
           have hfz54_0:=fz_ BK290 0
           have hfz54_1:=fz_ BK290 1
           have p295:0≤(x4_1:Int):=of_decide_eq_true (by first|(with_reducible assumption)|assumption)
           have q295:x4_1<(l0_1.length:Int):=of_decide_eq_true (by first|(with_reducible assumption)|assumption)
           obtain ⟨ad295,A295_0,c295_0,e295,hx295_0,hx295_1,hx295_2,hx295_3,hx295_4,hl295_0,hi295_0⟩:=at_T50 HR0_1.out x4_1 p295 q295
           obtain rfl:ad293=ad295:=(by injection e295)
           replace hx295_0:=cl_ HB hx295_0
           replace hx295_1:=cl_ HB hx295_1
           replace hx295_2:=cl_ HB hx295_2
           replace hx295_3:=cl_ HB hx295_3
           replace hx295_4:=cl_ HB hx295_4
           have HR295_0:=ak_ hi295_0
           have HC295_0:=ak_ hl295_0
           clear hi295_0 hl295_0
           replace p295:=eq_true p295
           replace q295:=eq_true q295
           have hnb55:=NB292_291.out
           have hnc55:=NB291_292.out
           have hnb56:=NB292_294.out
           have hnc56:=NB294_292.out
           have hcz57_0:=ck_ BK292 0
           have hcz57_1:=ck_ BK292 1
           have hfz57_0:=fz_ BK292 0
           have hfz57_1:=fz_ BK292 1
           have hnb58:=NB294_291.out
           have hnc58:=NB291_294.out
           have hcz59_0:=ck_ BK294 0
           have hcz59_1:=ck_ BK294 1
           have hcz59_2:=ck_ BK294 2
           have hcz59_3:=ck_ BK294 3
           have hcz59_4:=ck_ BK294 4
           have hfz59_0:=fz_ BK294 0
           have hfz59_1:=fz_ BK294 1
           have hfz59_2:=fz_ BK294 2
           have hfz59_3:=fz_ BK294 3
           have hfz59_4:=fz_ BK294 4
           obtain ⟨Ao61,co61,eo61⟩:=Kd.S_slice HO_295000.out
           subst eo61
           go_wp2_with (first|((with_reducible refine gate_builtin (b:=.append) (xs:=#[.tmp 57,.tmp 59]) rfl ?_);at_builtin;refine Kd.R_append k50 (w0:=w) w.heap.size rfl (.tmp 57) (.tmp 59) 22 50 (.agg #[(.slice none 0 0),(.int .i64 0),(.int .i64 0),(.int .i64 0),(.int .i64 0)]) 56 rfl Tryz.underlying22 info50 rfl (by decide) (by omega) u293001 x293001_1 (⟨x295000_2,(⟨((rd_T50 l0_1 x4_1).f1.f0),((rd_T50 l0_1 x4_1).f1.f1),((rd_T50 l0_1 x4_1).f1.f2),((rd_T50 l0_1 x4_1).f1.f3)⟩:S48)⟩:S50) [.slice Ao61 x295000_2.length co61,.int .i64 ((rd_T50 l0_1 x4_1).f1.f0),.int .i64 ((rd_T50 l0_1 x4_1).f1.f1),.int .i64 ((rd_T50 l0_1 x4_1).f1.f2),.int .i64 ((rd_T50 l0_1 x4_1).f1.f3)] (fun k_=>k_≠gb294) (fun k_=>((fun k_=>k_≠gb294)) k_∧some k_≠(u293001:Value).ownBlock) rfl rfl ?aP (fun _ hk=>hk) ?aF ?aO ?aB ?aS ?aL ?_;(case aP=>exact k50_mkM _ _ _ (⟨x295000_2,(⟨((rd_T50 l0_1 x4_1).f1.f0),((rd_T50 l0_1 x4_1).f1.f1),((rd_T50 l0_1 x4_1).f1.f2),((rd_T50 l0_1 x4_1).f1.f3)⟩:S48)⟩:S50) (Kd.R_mono (Kd.R_types (Kd.R_apart' ((Kd.S_R HO_295000.out)) (Kd.R_typed HO_293001.out) (by decide)) BK294.out (by decide)) (fun k_ hk=>⟨hk.2,hk.1.2⟩)));(case aB=>exact (bl_ HB));(case aF=>exact (fun k_ hk=>Kd.freshB (g:=gb294) (o:=.cells #[.slice Ao61 x295000_2.length co61,.int .i64 ((rd_T50 l0_1 x4_1).f1.f0),.int .i64 ((rd_T50 l0_1 x4_1).f1.f1),.int .i64 ((rd_T50 l0_1 x4_1).f1.f2),.int .i64 ((rd_T50 l0_1 x4_1).f1.f3)] 50 (0,0)) (bk_ BK294) k_ hk));(case aO=>exact (by (with_reducible repeat (first|apply Kd.R_alloc|apply Kd.R_drewN|apply Kd.R_drew));exact Kd.R_mono HO_293001.out (fun _ hk=>hk.2)));(case aS=>exact (below_size (bl_ HB)));(case aL=>have:=LMc50.out;omega);intro v309 w60 ho hb hg hat;rw [← Ny308.out] at ho;have n0_:=ak_ (blk_grown (g:=gb290) (o:=.cells #[.int .i64 a0_0,.slice (some ad293) l0_1.length c0_1] 24 (0,0)) (bk_ BK290) hg (Kd.R_ne HO_293001.out BK290.out (by decide)));have n1_:=ak_ (blk_grown (g:=gb291) (o:=.cells #[.int .i64 0,.slice none 0 0] 24 (0,0)) (bk_ BK291) hg (Kd.R_ne HO_293001.out BK291.out (by decide)));have n2_:=ak_ (blk_grown (g:=gb292) (o:=.cells #[.int .i64 a0_0,u293001] 24 (0,0)) (bk_ BK292) hg (Kd.R_ne HO_293001.out BK292.out (by decide)));have n3_:=ak_ (blk_grown (g:=gb294) (o:=.cells #[.slice Ao61 x295000_2.length co61,.int .i64 ((rd_T50 l0_1 x4_1).f1.f0),.int .i64 ((rd_T50 l0_1 x4_1).f1.f1),.int .i64 ((rd_T50 l0_1 x4_1).f1.f2),.int .i64 ((rd_T50 l0_1 x4_1).f1.f3)] 50 (0,0)) (bk_ BK294) hg (Kd.R_away HO_293001.out (fun _ hk=>hk.2)));have n4_:=ak_ (hb);have n5_:=ak_ (ho);clear BK290;clear BK291;clear BK292;clear BK294;clear HB;clear HO_293001;clear HO_295000;have BK290:=n0_;have BK291:=n1_;have BK292:=n2_;have BK294:=n3_;have HB:=n4_;have HO310:=n5_;clear n0_ n1_ n2_ n3_ n4_ n5_;clear ho hb hg hat;obtain ⟨Ao62,co62,eo62⟩:=Kd.R_slice HO310.out;subst eo62;have hcz63_0:=ck_ BK292 0;have hcz63_1:=ck_ BK292 1;have hfz63_0:=fz_ BK292 0;have hfz63_1:=fz_ BK292 1))
           go_roundg k2
           case measure=>have:=HK1.out;have:=HK2.out;omega
           case rel=>exact ⟨(wrap64 (x4_1+1)),(y308),(.slice Ao62 y308.length co62),(by first|rfl|(simp;done)|(simp [*];done)),H',⟨by have:=HK1.out;have:=HK2.out;omega⟩,⟨by (with_reducible repeat (first|apply Kd.R_alloc|apply Kd.R_drewN|apply Kd.R_drew));exact Kd.R_mono (Kd.R_far (p:=⟨gb292,1,none⟩) (Kd.R_types HO310.out BK292.out (by decide)) (fun _ hk=>hk.2) (.slice Ao62 y308.length co62)) (fun _ hk=>trivial)⟩,⟨by (with_reducible repeat (first|refine blk_drewN ?_ _|refine blk_drew ?_|refine blk_alloc ?_ _));refine blk_far ?_ NB290_292.out _;(with_reducible repeat (first|refine blk_drewN ?_ _|refine blk_drew ?_|refine blk_alloc ?_ _));exact BK290.out⟩,⟨by (with_reducible repeat (first|refine blk_drewN ?_ _|refine blk_drew ?_|refine blk_alloc ?_ _));refine blk_far ?_ NB291_292.out _;(with_reducible repeat (first|refine blk_drewN ?_ _|refine blk_drew ?_|refine blk_alloc ?_ _));exact BK291.out⟩,⟨by (with_reducible repeat (first|refine blk_drewN ?_ _|refine blk_drew ?_|refine blk_alloc ?_ _));refine blk_put (cs:=#[.int .i64 a0_0,u293001]) ?_ 1 _ rfl;(with_reducible repeat (first|refine blk_drewN ?_ _|refine blk_drew ?_|refine blk_alloc ?_ _));exact BK292.out⟩,⟨bl_ HB⟩⟩
          ·rw [if_neg c50] at H
           exact absurd H (by simp)
        ·rw [if_neg c21] at H
         exact absurd H (by simp)
       ·rw [if_neg c20] at H
        exact absurd H (by simp)
    ·rw [if_neg c11] at H
     exact absurd H (by simp)
   ·rw [if_neg c10] at H
    have c10b0:decide (x4_1<(l0_1.length:Int))=false:=decide_eq_false c10
    clear c10
    simp only [Option.some.injEq,Prod.mk.injEq] at H
    obtain ⟨rfl,rfl⟩:=H
    have hnb64:=NB290_291.out
    have hnc64:=NB291_290.out
    have hnb65:=NB290_292.out
    have hnc65:=NB292_290.out
    have hcz66_0:=ck_ BK290 0
    have hcz66_1:=ck_ BK290 1
    have hfz66_0:=fz_ BK290 0
    have hfz66_1:=fz_ BK290 1
    have hnb67:=NB292_291.out
    have hnc67:=NB291_292.out
    have hcz68_0:=ck_ BK292 0
    have hcz68_1:=ck_ BK292 1
    have hfz68_0:=fz_ BK292 0
    have hfz68_1:=fz_ BK292 1
    have hcz69_0:=ck_ BK291 0
    have hcz69_1:=ck_ BK291 1
    have hfz69_0:=fz_ BK291 0
    have hfz69_1:=fz_ BK291 1
    obtain ⟨Ao70,co70,eo70⟩:=Kd.R_slice HO_293001.out
    subst eo70
    go_wp2
    refine bodyPost_ret (results_cell_row rfl _ _ gb291 24 #[.int .i64 a0_0,.slice Ao70 x293001_1.length co70] (0,0) _ rfl (by (with_reducible repeat (first|refine blk_drewN ?_ _|refine blk_drew ?_|refine blk_alloc ?_ _));refine blk_put (cs:=#[.int .i64 a0_0,.slice none 0 0]) ?_ 1 _ rfl;(with_reducible repeat (first|refine blk_drewN ?_ _|refine blk_drew ?_|refine blk_alloc ?_ _));refine blk_put (cs:=#[.int .i64 0,.slice none 0 0]) ?_ 0 _ rfl;(with_reducible repeat (first|refine blk_drewN ?_ _|refine blk_drew ?_|refine blk_alloc ?_ _));exact BK291.out) Tryz.underlying24 rfl (by kernel_rfl)) rfl ?_
    exact ⟨_,by first|rfl|(simp [errW_none,errW_some]<;>rfl)|(simp [*,errW_none,errW_some]<;>rfl),by (with_reducible repeat (first|apply Kd.R_alloc|apply Kd.R_drewN|apply Kd.R_drew));exact Kd.R_mono (Kd.R_far (p:=⟨gb291,1,none⟩) (Kd.R_far (p:=⟨gb291,0,none⟩) (Kd.R_types HO_293001.out BK291.out (by decide)) (fun _ hk=>hk.2) (.int .i64 a0_0)) (fun _ hk=>hk.2) (.slice Ao70 x293001_1.length co70)) (fun _ hk=>trivial),bl_ HB⟩

/-! ### swageref14_Pure: function 60 -/
/-! ### swageref17_has: function 55 -/
def swageref17_has.l0:Nat→List Int→Int→Int→Option (Bool)
 | 0,_,_,_=>none
 | k+1,x0,x1,x5=>if x5<(x0.length:Int) then (if 0≤x5 then (if (rd x0 x5)=x1 then (some true) else (swageref17_has.l0 k x0 x1 (wrap64 (x5+1)))) else (none)) else (some false)
def swageref17_has.f (k:Nat) (l0:List Int) (a1:Int):Option (Bool):=swageref17_has.l0 k l0 a1 0
set_option maxHeartbeats 8000000 in
set_option maxRecDepth 100000 in
theorem swageref17_has.calls (k:Nat) (A0:Option Addr) (c0:Nat) (l0:List Int) (a1:Int) (r:Bool) (w:World) (hr0:Kd.C (Kd.int .i64) w A0 l0.length l0) (hc0:l0.length≤c0) (h:swageref17_has.f k l0 a1=some r) :
  Calls Tryz.prog 55 #[.slice A0 l0.length c0,.int .i64 a1] w fun e w'=>e=.returned (.bool r)∧Drawn0 w w':=by
 have HR0:=ak_ hr0
 have HC0:=ak_ hc0
 clear hr0 hc0
 have H:(swageref17_has.l0 k l0 a1 0)=some r:=h
 clear h
 have H':=ak_ H
 clear H
 go_enter Tryz.func55,Tryz.ntmps55
 go_wp2
 go_loopg [5] k (fun kq v5 w'=>∃ (x5_1:Int),v5=.int .i64 x5_1∧Aside0 (swageref17_has.l0 kq l0 a1 x5_1=some r)∧Aside0 (kq≤k)∧Drawn0 w w')
 case atStart=>exact ⟨(0),(by first|rfl|(simp;done)|(simp [*];done)),H',⟨Nat.le_refl _⟩,by repeat (first|exact Drawn0.refl _|apply Drawn0.step)⟩
 case round =>
  clear H'
  obtain ⟨x5_1,rfl,HA,HK1,⟨m1,rfl⟩⟩:=hrel
  cases gk with
  | zero=>exact absurd HA.out (by simp [swageref17_has.l0])
  | succ k1 =>
   have H:=HA.out
   clear HA
   simp only [swageref17_has.l0] at H
   by_cases c3:x5_1<(l0.length:Int)
   ·rw [if_pos c3] at H
    have c3b0:decide (x5_1<(l0.length:Int))=true:=decide_eq_true c3
    clear c3
    by_cases c4:0≤x5_1
    ·rw [if_pos c4] at H
     have c4b0:decide (0≤x5_1)=true:=decide_eq_true c4
     clear c4
     by_cases c5:(rd l0 x5_1)=a1
     ·rw [if_pos c5] at H
      have c5b0:((rd l0 x5_1) == a1)=true:=beq_iff_eq.mpr c5
      have c5b1:((rd l0 x5_1) != a1)=false:=bne_eq_false_iff_eq.mpr c5
      clear c5
      obtain rfl:=Option.some.inj H
      have p312:0≤(x5_1:Int):=of_decide_eq_true (by first|(with_reducible assumption)|assumption)
      have q312:x5_1<(l0.length:Int):=of_decide_eq_true (by first|(with_reducible assumption)|assumption)
      obtain ⟨ad312,e312,hx312_0⟩:=Kd.at_int HR0.out x5_1 p312 q312
      cases e312
      replace p312:=eq_true p312
      replace q312:=eq_true q312
      go_wp2
      go_ret
      exact ⟨by first|rfl|(simp;done)|(simp [*];done),by repeat (first|exact Drawn0.refl _|apply Drawn0.step)⟩
     ·rw [if_neg c5] at H
      have c5b0:((rd l0 x5_1) == a1)=false:=beq_eq_false_iff_ne.mpr c5
      have c5b1:((rd l0 x5_1) != a1)=true:=bne_iff_ne.mpr c5
      have H':=ak_ H
      clear H
      have p312:0≤(x5_1:Int):=of_decide_eq_true (by first|(with_reducible assumption)|assumption)
      have q312:x5_1<(l0.length:Int):=of_decide_eq_true (by first|(with_reducible assumption)|assumption)
      obtain ⟨ad312,e312,hx312_0⟩:=Kd.at_int HR0.out x5_1 p312 q312
      cases e312
      replace p312:=eq_true p312
      replace q312:=eq_true q312
      go_wp2
      go_roundg k1
      case measure=>have:=HK1.out;omega
      case rel=>exact ⟨(wrap64 (x5_1+1)),(by first|rfl|(simp;done)|(simp [*];done)),H',⟨by have:=HK1.out;omega⟩,by repeat (first|exact Drawn0.refl _|apply Drawn0.step)⟩
    ·rw [if_neg c4] at H
     exact absurd H (by simp)
   ·rw [if_neg c3] at H
    have c3b0:decide (x5_1<(l0.length:Int))=false:=decide_eq_false c3
    clear c3
    obtain rfl:=Option.some.inj H
    go_wp2
    go_ret
    exact ⟨by first|rfl|(simp;done)|(simp [*];done),by repeat (first|exact Drawn0.refl _|apply Drawn0.step)⟩

-- NOT PRINTED: function 84 (swageref17_reads)

-- swageref17_at: function 51: a contract by hand,in Oo17
