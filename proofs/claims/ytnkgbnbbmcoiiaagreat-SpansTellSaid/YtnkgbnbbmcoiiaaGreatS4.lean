-- a text of the seat,by a program
import Derived.Test.YtnkgbnbbmcoiiaaGreatBk
import Derived.Test.YtnkgbnbbmcoiiaaGreatS0
import Derived.Test.YtnkgbnbbmcoiiaaGreatS3
namespace Go.Proofs.YtnkgbnbbmcoiiaaGreat.S
open Go.RowKit Go.Proofs.YtnkgbnbbmcoiiaaGreatW.PrintWords Go.Proofs.YtnkgbnbbmcoiiaaGreatW.PrintLast Go.Proofs.YtnkgbnbbmcoiiaaGreatW.PrintMore
attribute [local go_sem] max2_int min2_int max_two min_two max_three min_three max_four min_four   -- for this text's walks alone
set_option linter.unusedVariables false
set_option linter.unusedSimpArgs false

/-! ### code_Uses: function 41 -/
mutual
def code_Uses.j0:Nat→Bool→List Int→Bool→Int→Int→Int→Int→Int→List Int→Bool→Bool→Bool→Bool→Option (List Int)
 | 0,_,_,_,_,_,_,_,_,_,_,_,_,_=>none
 | k+1,x4,x5,x16,x112000,x112001,x112002,x112003,x112004,x112005,x118000,x118001,x118002,x118003=>if x16=true then (if x5.length<17592186044416 then (code_Uses.j1 k x4 (x5++[x112002]) x112000 x112001 x112002 x112003 x112004 x112005 x118000 x118001 x118002 x118003) else (none)) else (code_Uses.j1 k x4 x5 x112000 x112001 x112002 x112003 x112004 x112005 x118000 x118001 x118002 x118003)
def code_Uses.j1:Nat→Bool→List Int→Int→Int→Int→Int→Int→List Int→Bool→Bool→Bool→Bool→Option (List Int)
 | 0,_,_,_,_,_,_,_,_,_,_,_,_=>none
 | k+1,x4,x5,x112000,x112001,x112002,x112003,x112004,x112005,x118000,x118001,x118002,x118003=>if x4=true then (code_Uses.j2 k x5 x118002 x112000 x112001 x112002 x112003 x112004 x112005) else (code_Uses.j2 k x5 false x112000 x112001 x112002 x112003 x112004 x112005)
def code_Uses.j2:Nat→List Int→Bool→Int→Int→Int→Int→Int→List Int→Option (List Int)
 | 0,_,_,_,_,_,_,_,_=>none
 | k+1,x5,x26,x112000,x112001,x112002,x112003,x112004,x112005=>if x26=true then (if x5.length<17592186044416 then ((some (x5++[x112003]:List Int)).bind fun y121=>(if x112000=7 then (if y121.length+x112005.length<17592186044416 then (some (y121++x112005)) else (none)) else (some y121))) else (none)) else (if x112000=7 then (if x5.length+x112005.length<17592186044416 then (some (x5++x112005)) else (none)) else (some x5))
end
def code_Uses.f (k:Nat) (a0_0:Int) (a0_1:Int) (a0_2:Int) (a0_3:Int) (a0_4:Int) (l0_5:List Int):Option (List Int):=(code_shapeOf.f k a0_0).bind fun bt112=>(if bt112.2.2.2.2=true then (code_Uses.j0 k bt112.2.2.2.2 ([]:List Int) bt112.2.1 a0_0 a0_1 a0_2 a0_3 a0_4 l0_5 bt112.1 bt112.2.1 bt112.2.2.1 bt112.2.2.2.1) else (code_Uses.j0 k bt112.2.2.2.2 ([]:List Int) false a0_0 a0_1 a0_2 a0_3 a0_4 l0_5 bt112.1 bt112.2.1 bt112.2.2.1 bt112.2.2.2.1))
set_option maxHeartbeats 8000000 in
set_option maxRecDepth 100000 in
theorem code_Uses.calls (k:Nat) (a0_0:Int) (a0_1:Int) (a0_2:Int) (a0_3:Int) (a0_4:Int) (A0_5:Option Addr) (c0_5:Nat) (l0_5:List Int) (r:List Int) (w:World) (hr0_5:Kd.C (Kd.int .i64) w A0_5 l0_5.length l0_5) (hc0_5:l0_5.length≤c0_5) (h:code_Uses.f k a0_0 a0_1 a0_2 a0_3 a0_4 l0_5=some r) :
  Calls Tryz.prog 41 #[.agg #[.int .i64 a0_0,.int .i64 a0_1,.int .i64 a0_2,.int .i64 a0_3,.int .i64 a0_4,.slice A0_5 l0_5.length c0_5]] w fun e w'=>∃ v0_:Value,e=.returned (v0_)∧Kd.R (Kd.int .i64) 3 w' w.heap.size (fun _=>True) v0_ r∧Below w.heap.size w w':=by
 have hu45:=Tryz.underlying45
 have hu86:=Tryz.underlying86
 have HR0_5:=ak_ hr0_5
 have HC0_5:=ak_ hc0_5
 clear hr0_5 hc0_5
 have HB:=ak_ (Below.refl w.heap.size w)
 have H:((code_shapeOf.f k a0_0).bind fun bt112=>(if bt112.2.2.2.2=true then (code_Uses.j0 k bt112.2.2.2.2 ([]:List Int) bt112.2.1 a0_0 a0_1 a0_2 a0_3 a0_4 l0_5 bt112.1 bt112.2.1 bt112.2.2.1 bt112.2.2.2.1) else (code_Uses.j0 k bt112.2.2.2.2 ([]:List Int) false a0_0 a0_1 a0_2 a0_3 a0_4 l0_5 bt112.1 bt112.2.1 bt112.2.2.1 bt112.2.2.2.1)))=some r:=h
 clear h
 replace H:=Option.bind_eq_some_iff.mp H
 obtain ⟨⟨t112,t113,t114,t115,t116⟩,A20,H⟩:=H
 replace H:(if t116=true then (code_Uses.j0 k t116 ([]:List Int) t113 a0_0 a0_1 a0_2 a0_3 a0_4 l0_5 t112 t113 t114 t115) else (code_Uses.j0 k t116 ([]:List Int) false a0_0 a0_1 a0_2 a0_3 a0_4 l0_5 t112 t113 t114 t115))=some r:=H
 have A2:=ak_ A20
 clear A20
 have HC3:=ak_ H
 clear H
 go_enter Tryz.func41,Tryz.ntmps41
 go_upto_region 3 with (first|((with_reducible refine gate_dst (N:=1) rfl ?_);refine box_event ?hg (N:=1) ?hd (cs:=#[.int .i64 a0_0,.int .i64 a0_1,.int .i64 a0_2,.int .i64 a0_3,.int .i64 a0_4,.slice A0_5 l0_5.length c0_5]) (t:=45) ?hr ?_;(case hd=>rfl);(case hg=>rfl);(case hr=>first|(go_simp;done)|(go_simp;rfl));intro gb111 hg w4 hbox hb;have n0_:=ak_ (below_step (bl_ HB) hb);have n1_:=ak_ (hbox);have n2_:=ak_ ((by rw [hg];exact (below_size (bl_ HB)):w.heap.size≤gb111));have n3_:=ak_ ((by rw [hg];exact (below_size (bl_ HB)):w.heap.size≤gb111));clear HB;have HB:=n0_;have BK111:=n1_;have GW111:=n2_;have GE111:=n3_;clear n0_ n1_ n2_ n3_;clear hb hbox hg;have hcz5_0:=ck_ BK111 0;have hcz5_1:=ck_ BK111 1;have hcz5_2:=ck_ BK111 2;have hcz5_3:=ck_ BK111 3;have hcz5_4:=ck_ BK111 4;have hcz5_5:=ck_ BK111 5;have hfz5_0:=fz_ BK111 0;have hfz5_1:=fz_ BK111 1;have hfz5_2:=fz_ BK111 2;have hfz5_3:=fz_ BK111 3;have hfz5_4:=fz_ BK111 4;have hfz5_5:=fz_ BK111 5)|((with_reducible refine gate_callee (f:=68) rfl ?_);refine goesL_ (some 9) rfl rfl Tryz.func68 (by kernel_rfl) rfl #[.int .i64 a0_0] rfl (by (try simp only [List.map_toArray,List.map_cons,List.map_nil]);first|done|rfl|(simp only [List.length_drop,List.length_take];rfl)) ?_;(with_reducible refine (code_shapeOf.calls k a0_0 t112 t113 t114 t115 t116 _ A2.out).mono ?_);rintro e w6 ⟨rfl,hb⟩;refine ⟨_,rfl,?_⟩;have n0_:=ak_ (blk_below (g:=gb111) (o:=.cells #[.int .i64 a0_0,.int .i64 a0_1,.int .i64 a0_2,.int .i64 a0_3,.int .i64 a0_4,.slice A0_5 l0_5.length c0_5] 45 (0,0)) (bk_ BK111) hb);have n1_:=ak_ (below_step (bl_ HB) hb);clear BK111;clear HB;have BK111:=n0_;have HB:=n1_;clear n0_ n1_;(try clear hb);(try clear hb2);(try clear hk);(try clear hi))|((with_reducible refine gate_dst (N:=3) rfl ?_);refine box_event ?hg (N:=3) ?hd (cs:=#[.bool false,.bool false,.bool false,.bool false]) (t:=86) ?hr ?_;(case hd=>rfl);(case hg=>rfl);(case hr=>first|(go_simp;done)|(go_simp;rfl));intro gb117 hg w7 hbox hb;have n0_:=ak_ (blk_below (g:=gb111) (o:=.cells #[.int .i64 a0_0,.int .i64 a0_1,.int .i64 a0_2,.int .i64 a0_3,.int .i64 a0_4,.slice A0_5 l0_5.length c0_5] 45 (0,0)) (bk_ BK111) hb);have n1_:=ak_ (below_step (bl_ HB) hb);have n2_:=ak_ (hbox);have n3_:=ak_ ((by rw [hg];exact (below_size (bl_ HB)):w.heap.size≤gb117));have n4_:=ak_ ((by rw [hg];exact (below_size (bl_ HB)):w.heap.size≤gb117));have n5_:=ak_ ((by rw [hg];exact Nat.ne_of_lt (blk_lt (g:=gb111) (o:=.cells #[.int .i64 a0_0,.int .i64 a0_1,.int .i64 a0_2,.int .i64 a0_3,.int .i64 a0_4,.slice A0_5 l0_5.length c0_5] 45 (0,0)) (bk_ BK111)):gb111≠gb117));have n6_:=ak_ ((by rw [hg];exact Nat.ne_of_gt (blk_lt (g:=gb111) (o:=.cells #[.int .i64 a0_0,.int .i64 a0_1,.int .i64 a0_2,.int .i64 a0_3,.int .i64 a0_4,.slice A0_5 l0_5.length c0_5] 45 (0,0)) (bk_ BK111)):gb117≠gb111));clear BK111;clear HB;have BK111:=n0_;have HB:=n1_;have BK117:=n2_;have GW117:=n3_;have GE117:=n4_;have NB111_117:=n5_;have NB117_111:=n6_;clear n0_ n1_ n2_ n3_ n4_ n5_ n6_;clear hb hbox hg;have hnb8:=NB117_111.out;have hnc8:=NB111_117.out;have hcz9_0:=ck_ BK117 0;have hcz9_1:=ck_ BK117 1;have hcz9_2:=ck_ BK117 2;have hcz9_3:=ck_ BK117 3;have hfz9_0:=fz_ BK117 0;have hfz9_1:=fz_ BK117 1;have hfz9_2:=fz_ BK117 2;have hfz9_3:=fz_ BK117 3))
 (try simp only [Act.put,pa_,pb_,pc_])
 go_cut [16] (fun v16 wc=>∃ (kq:Nat) (x16_2:Bool),v16=.bool x16_2∧Aside0 (code_Uses.j0 kq t116 ([]:List Int) x16_2 a0_0 a0_1 a0_2 a0_3 a0_4 l0_5 t112 t113 t114 t115=some r)∧Aside0 (kq≤k)∧Aside0 (Kd.R (Kd.int .i64) 3 wc w.heap.size (fun _=>True) (.slice none 0 0) ([]:List Int))∧Aside0 (wc.heap[gb111]?=some (.cells #[.int .i64 a0_0,.int .i64 a0_1,.int .i64 a0_2,.int .i64 a0_3,.int .i64 a0_4,(.slice A0_5 l0_5.length c0_5)] 45 (0,0)))∧Aside0 (wc.heap[gb117]?=some (.cells #[.bool t112,.bool t113,.bool t114,.bool t115] 86 (0,0)))∧Aside0 (Below w.heap.size w wc))
 case first =>
  have H:=HC3.out
  clear HC3
  by_cases c10:t116=true
  ·subst c10
   have H1:(code_Uses.j0 k true ([]:List Int) t113 a0_0 a0_1 a0_2 a0_3 a0_4 l0_5 t112 t113 t114 t115)=some r:=by rw [if_pos rfl] at H;exact H
   clear H
   have H:=H1
   clear H1
   have H':=ak_ H
   clear H
   have hnb11:=NB117_111.out
   have hnc11:=NB111_117.out
   have hcz12_0:=ck_ BK117 0
   have hcz12_1:=ck_ BK117 1
   have hcz12_2:=ck_ BK117 2
   have hcz12_3:=ck_ BK117 3
   have hfz12_0:=fz_ BK117 0
   have hfz12_1:=fz_ BK117 1
   have hfz12_2:=fz_ BK117 2
   have hfz12_3:=fz_ BK117 3
   go_wp2
   go_meet
   case rel=>exact ⟨_,(t113),(by first|rfl|(simp;done)|(simp [*];done)),H',⟨by first|omega|exact Nat.le_refl _⟩,⟨by first|exact Kd.R_nil _ _ _ _ _|exact Kd.N_nil _ _ _ _ _|exact Kd.V_nil _ _ _ _ _|exact Kd.Q_nil _ _ _ _ _|exact Kd.S_nil _ _ _ _ _⟩,⟨by (with_reducible repeat (first|refine blk_drewN ?_ _|refine blk_drew ?_|refine blk_alloc ?_ _));refine blk_far ?_ NB111_117.out _;(with_reducible repeat (first|refine blk_drewN ?_ _|refine blk_drew ?_|refine blk_alloc ?_ _));refine blk_far ?_ NB111_117.out _;(with_reducible repeat (first|refine blk_drewN ?_ _|refine blk_drew ?_|refine blk_alloc ?_ _));refine blk_far ?_ NB111_117.out _;(with_reducible repeat (first|refine blk_drewN ?_ _|refine blk_drew ?_|refine blk_alloc ?_ _));refine blk_far ?_ NB111_117.out _;(with_reducible repeat (first|refine blk_drewN ?_ _|refine blk_drew ?_|refine blk_alloc ?_ _));exact BK111.out⟩,⟨by (with_reducible repeat (first|refine blk_drewN ?_ _|refine blk_drew ?_|refine blk_alloc ?_ _));refine blk_put (cs:=#[.bool t112,.bool t113,.bool t114,.bool false]) ?_ 3 _ rfl;(with_reducible repeat (first|refine blk_drewN ?_ _|refine blk_drew ?_|refine blk_alloc ?_ _));refine blk_put (cs:=#[.bool t112,.bool t113,.bool false,.bool false]) ?_ 2 _ rfl;(with_reducible repeat (first|refine blk_drewN ?_ _|refine blk_drew ?_|refine blk_alloc ?_ _));refine blk_put (cs:=#[.bool t112,.bool false,.bool false,.bool false]) ?_ 1 _ rfl;(with_reducible repeat (first|refine blk_drewN ?_ _|refine blk_drew ?_|refine blk_alloc ?_ _));refine blk_put (cs:=#[.bool false,.bool false,.bool false,.bool false]) ?_ 0 _ rfl;(with_reducible repeat (first|refine blk_drewN ?_ _|refine blk_drew ?_|refine blk_alloc ?_ _));exact BK117.out⟩,⟨bl_ HB⟩⟩
  ·replace c10:=Bool.eq_false_iff.mpr c10
   subst c10
   have H1:(code_Uses.j0 k false ([]:List Int) false a0_0 a0_1 a0_2 a0_3 a0_4 l0_5 t112 t113 t114 t115)=some r:=by rw [if_neg (show ¬ (false=true) by decide)] at H;exact H
   clear H
   have H:=H1
   clear H1
   have H':=ak_ H
   clear H
   go_wp2
   go_meet
   case rel=>exact ⟨_,(false),(by first|rfl|(simp;done)|(simp [*];done)),H',⟨by first|omega|exact Nat.le_refl _⟩,⟨by first|exact Kd.R_nil _ _ _ _ _|exact Kd.N_nil _ _ _ _ _|exact Kd.V_nil _ _ _ _ _|exact Kd.Q_nil _ _ _ _ _|exact Kd.S_nil _ _ _ _ _⟩,⟨by (with_reducible repeat (first|refine blk_drewN ?_ _|refine blk_drew ?_|refine blk_alloc ?_ _));refine blk_far ?_ NB111_117.out _;(with_reducible repeat (first|refine blk_drewN ?_ _|refine blk_drew ?_|refine blk_alloc ?_ _));refine blk_far ?_ NB111_117.out _;(with_reducible repeat (first|refine blk_drewN ?_ _|refine blk_drew ?_|refine blk_alloc ?_ _));refine blk_far ?_ NB111_117.out _;(with_reducible repeat (first|refine blk_drewN ?_ _|refine blk_drew ?_|refine blk_alloc ?_ _));refine blk_far ?_ NB111_117.out _;(with_reducible repeat (first|refine blk_drewN ?_ _|refine blk_drew ?_|refine blk_alloc ?_ _));exact BK111.out⟩,⟨by (with_reducible repeat (first|refine blk_drewN ?_ _|refine blk_drew ?_|refine blk_alloc ?_ _));refine blk_put (cs:=#[.bool t112,.bool t113,.bool t114,.bool false]) ?_ 3 _ rfl;(with_reducible repeat (first|refine blk_drewN ?_ _|refine blk_drew ?_|refine blk_alloc ?_ _));refine blk_put (cs:=#[.bool t112,.bool t113,.bool false,.bool false]) ?_ 2 _ rfl;(with_reducible repeat (first|refine blk_drewN ?_ _|refine blk_drew ?_|refine blk_alloc ?_ _));refine blk_put (cs:=#[.bool t112,.bool false,.bool false,.bool false]) ?_ 1 _ rfl;(with_reducible repeat (first|refine blk_drewN ?_ _|refine blk_drew ?_|refine blk_alloc ?_ _));refine blk_put (cs:=#[.bool false,.bool false,.bool false,.bool false]) ?_ 0 _ rfl;(with_reducible repeat (first|refine blk_drewN ?_ _|refine blk_drew ?_|refine blk_alloc ?_ _));exact BK117.out⟩,⟨bl_ HB⟩⟩
 case rest =>
  clear HC3
  obtain ⟨kq,x16_2,rfl,HA,HJ2,HO_5,BK111,BK117,HB⟩:=hcut
  cases kq with
  | zero=>exact absurd HA.out (by simp [code_Uses.j0])
  | succ kj2 =>
   have H:=HA.out
   clear HA
   simp only [code_Uses.j0] at H
   have HC13:=ak_ H
   clear H
   go_upto_if 16 with (fail)
   go_cut [5] (fun v5 wc=>∃ (kq:Nat) (x5_12:List Int),Aside0 (code_Uses.j1 kq t116 x5_12 a0_0 a0_1 a0_2 a0_3 a0_4 l0_5 t112 t113 t114 t115=some r)∧Aside0 (kq≤kj2)∧Aside0 (Kd.R (Kd.int .i64) 3 wc w.heap.size (fun _=>True) v5 x5_12)∧Aside0 (wc.heap[gb111]?=some (.cells #[.int .i64 a0_0,.int .i64 a0_1,.int .i64 a0_2,.int .i64 a0_3,.int .i64 a0_4,(.slice A0_5 l0_5.length c0_5)] 45 (0,0)))∧Aside0 (wc.heap[gb117]?=some (.cells #[.bool t112,.bool t113,.bool t114,.bool t115] 86 (0,0)))∧Aside0 (Below w.heap.size w wc))
   case first =>
    have H:=HC13.out
    clear HC13
    by_cases c14:x16_2=true
    ·subst c14
     have H1:(if ([]:List Int).length<17592186044416 then (code_Uses.j1 kj2 t116 (([]:List Int)++[a0_2]) a0_0 a0_1 a0_2 a0_3 a0_4 l0_5 t112 t113 t114 t115) else (none))=some r:=by rw [if_pos rfl] at H;exact H
     clear H
     have H:=H1
     clear H1
     by_cases c15:([]:List Int).length<17592186044416
     ·rw [if_pos c15] at H
      have LMc15:=ak_ c15
      clear c15
      obtain ⟨y118,hy118⟩:∃ y_:List Int,y_=(([]:List Int)++[a0_2]):=⟨_,rfl⟩
      replace H:(code_Uses.j1 kj2 t116 y118 a0_0 a0_1 a0_2 a0_3 a0_4 l0_5 t112 t113 t114 t115)=some r:=by first|(rw [hy118];with_reducible exact H)|(have H2_:=(Option.bind_some _ _).symm.trans H;rw [hy118];with_reducible exact H2_)|(have H2_:=(Option.bind_some _ _).symm.trans H;with_reducible exact H2_)|with_reducible exact H|(rw [hy118];exact H)|exact H
      have Ny118:=ak_ hy118
      clear hy118
      have H':=ak_ H
      clear H
      have hnb16:=NB111_117.out
      have hnc16:=NB117_111.out
      have hcz17_0:=ck_ BK111 0
      have hcz17_1:=ck_ BK111 1
      have hcz17_2:=ck_ BK111 2
      have hcz17_3:=ck_ BK111 3
      have hcz17_4:=ck_ BK111 4
      have hcz17_5:=ck_ BK111 5
      have hfz17_0:=fz_ BK111 0
      have hfz17_1:=fz_ BK111 1
      have hfz17_2:=fz_ BK111 2
      have hfz17_3:=fz_ BK111 3
      have hfz17_4:=fz_ BK111 4
      have hfz17_5:=fz_ BK111 5
      go_wp2_with (first|((with_reducible refine gate_builtin (b:=.append) (xs:=#[.tmp 17,.tmp 20]) rfl ?_);at_builtin;refine Kd.R_append (Kd.int .i64) (w0:=w) w.heap.size rfl (.tmp 17) (.tmp 20) 31 3 (.int .i64 0) 8 rfl Tryz.underlying31 info3 rfl (by decide) (by omega) (.slice none 0 0) ([]:List Int) a0_2 [.int .i64 a0_2] (fun _=>True) (fun _=>False) rfl rfl ?aP (fun _ hk=>hk.elim) ?aF ?aO ?aB ?aS ?aL ?_;(case aP=>exact rfl);(case aB=>exact (bl_ HB));(case aF=>exact (fun _ _=>trivial));(case aO=>exact (by (with_reducible repeat (first|apply Kd.R_alloc|apply Kd.R_drewN|apply Kd.R_drew));exact HO_5.out));(case aS=>exact (below_size (bl_ HB)));(case aL=>have:=LMc15.out;omega);intro v119 w18 ho hb hg hat;rw [← Ny118.out] at ho;have n0_:=ak_ (blk_grown (g:=gb111) (o:=.cells #[.int .i64 a0_0,.int .i64 a0_1,.int .i64 a0_2,.int .i64 a0_3,.int .i64 a0_4,.slice A0_5 l0_5.length c0_5] 45 (0,0)) (bk_ BK111) hg (Kd.R_ne HO_5.out BK111.out (by decide)));have n1_:=ak_ (blk_grown (g:=gb117) (o:=.cells #[.bool t112,.bool t113,.bool t114,.bool t115] 86 (0,0)) (bk_ BK117) hg (Kd.R_ne HO_5.out BK117.out (by decide)));have n2_:=ak_ (hb);have n3_:=ak_ (ho);clear BK111;clear BK117;clear HB;clear HO_5;have BK111:=n0_;have BK117:=n1_;have HB:=n2_;have HO120:=n3_;clear n0_ n1_ n2_ n3_;clear ho hb hg hat))
      go_meet
      case rel=>exact ⟨_,(y118),H',⟨by have:=HJ2.out;first|omega|exact Nat.le_refl _⟩,⟨by (with_reducible repeat (first|apply Kd.R_alloc|apply Kd.R_drewN|apply Kd.R_drew));exact HO120.out⟩,⟨bk_ BK111⟩,⟨bk_ BK117⟩,⟨bl_ HB⟩⟩
     ·rw [if_neg c15] at H
      exact absurd H (by simp)
    ·replace c14:=Bool.eq_false_iff.mpr c14
     subst c14
     have H1:(code_Uses.j1 kj2 t116 ([]:List Int) a0_0 a0_1 a0_2 a0_3 a0_4 l0_5 t112 t113 t114 t115)=some r:=by rw [if_neg (show ¬ (false=true) by decide)] at H;exact H
     clear H
     have H:=H1
     clear H1
     have H':=ak_ H
     clear H
     go_wp2
     go_meet
     case rel=>exact ⟨_,(([]:List Int)),H',⟨by have:=HJ2.out;first|omega|exact Nat.le_refl _⟩,⟨by (with_reducible repeat (first|apply Kd.R_alloc|apply Kd.R_drewN|apply Kd.R_drew));exact HO_5.out⟩,⟨bk_ BK111⟩,⟨bk_ BK117⟩,⟨bl_ HB⟩⟩
   case rest =>
    clear HC13
    obtain ⟨kq,x5_12,HA,HJ12,HO_5,BK111,BK117,HB⟩:=hcut
    cases kq with
    | zero=>exact absurd HA.out (by simp [code_Uses.j1])
    | succ kj12 =>
     have H:=HA.out
     clear HA
     simp only [code_Uses.j1] at H
     have HC19:=ak_ H
     clear H
     go_upto_region 5 with (fail)
     go_cut [26] (fun v26 wc=>∃ (kq:Nat) (x26_18:Bool),v26=.bool x26_18∧Aside0 (code_Uses.j2 kq x5_12 x26_18 a0_0 a0_1 a0_2 a0_3 a0_4 l0_5=some r)∧Aside0 (kq≤kj12)∧Aside0 (Kd.R (Kd.int .i64) 3 wc w.heap.size (fun _=>True) u5 x5_12)∧Aside0 (wc.heap[gb111]?=some (.cells #[.int .i64 a0_0,.int .i64 a0_1,.int .i64 a0_2,.int .i64 a0_3,.int .i64 a0_4,(.slice A0_5 l0_5.length c0_5)] 45 (0,0)))∧Aside0 (wc.heap[gb117]?=some (.cells #[.bool t112,.bool t113,.bool t114,.bool t115] 86 (0,0)))∧Aside0 (Below w.heap.size w wc))
     case first =>
      have H:=HC19.out
      clear HC19
      by_cases c20:t116=true
      ·subst c20
       have H1:(code_Uses.j2 kj12 x5_12 t114 a0_0 a0_1 a0_2 a0_3 a0_4 l0_5)=some r:=by rw [if_pos rfl] at H;exact H
       clear H
       have H:=H1
       clear H1
       have H':=ak_ H
       clear H
       have hnb21:=NB117_111.out
       have hnc21:=NB111_117.out
       have hcz22_0:=ck_ BK117 0
       have hcz22_1:=ck_ BK117 1
       have hcz22_2:=ck_ BK117 2
       have hcz22_3:=ck_ BK117 3
       have hfz22_0:=fz_ BK117 0
       have hfz22_1:=fz_ BK117 1
       have hfz22_2:=fz_ BK117 2
       have hfz22_3:=fz_ BK117 3
       go_wp2
       go_meet
       case rel=>exact ⟨_,(t114),(by first|rfl|(simp;done)|(simp [*];done)),H',⟨by have:=HJ2.out;have:=HJ12.out;first|omega|exact Nat.le_refl _⟩,⟨by (with_reducible repeat (first|apply Kd.R_alloc|apply Kd.R_drewN|apply Kd.R_drew));exact HO_5.out⟩,⟨bk_ BK111⟩,⟨bk_ BK117⟩,⟨bl_ HB⟩⟩
      ·replace c20:=Bool.eq_false_iff.mpr c20
       subst c20
       have H1:(code_Uses.j2 kj12 x5_12 false a0_0 a0_1 a0_2 a0_3 a0_4 l0_5)=some r:=by rw [if_neg (show ¬ (false=true) by decide)] at H;exact H
       clear H
       have H:=H1
       clear H1
       have H':=ak_ H
       clear H
       go_wp2
       go_meet
       case rel=>exact ⟨_,(false),(by first|rfl|(simp;done)|(simp [*];done)),H',⟨by have:=HJ2.out;have:=HJ12.out;first|omega|exact Nat.le_refl _⟩,⟨by (with_reducible repeat (first|apply Kd.R_alloc|apply Kd.R_drewN|apply Kd.R_drew));exact HO_5.out⟩,⟨bk_ BK111⟩,⟨bk_ BK117⟩,⟨bl_ HB⟩⟩
     case rest =>
      clear HC19
      obtain ⟨kq,x26_18,rfl,HA,HJ18,HO_5,BK111,BK117,HB⟩:=hcut
      cases kq with
      | zero=>exact absurd HA.out (by simp [code_Uses.j2])
      | succ kj18 =>
       have H:=HA.out
       clear HA
       simp only [code_Uses.j2] at H
       by_cases c23:x26_18=true
       ·subst c23
        have H1:(if x5_12.length<17592186044416 then ((some (x5_12++[a0_3]:List Int)).bind fun y121=>(if a0_0=7 then (if y121.length+l0_5.length<17592186044416 then (some (y121++l0_5)) else (none)) else (some y121))) else (none))=some r:=by rw [if_pos rfl] at H;exact H
        clear H
        have H:=H1
        clear H1
        by_cases c24:x5_12.length<17592186044416
        ·rw [if_pos c24] at H
         have LMc24:=ak_ c24
         clear c24
         obtain ⟨y121,hy121⟩:∃ y_:List Int,y_=(x5_12++[a0_3]):=⟨_,rfl⟩
         replace H:(if a0_0=7 then (if y121.length+l0_5.length<17592186044416 then (some (y121++l0_5)) else (none)) else (some y121))=some r:=by first|(rw [hy121];with_reducible exact H)|(have H2_:=(Option.bind_some _ _).symm.trans H;rw [hy121];with_reducible exact H2_)|(have H2_:=(Option.bind_some _ _).symm.trans H;with_reducible exact H2_)|with_reducible exact H|(rw [hy121];exact H)|exact H
         have Ny121:=ak_ hy121
         clear hy121
         by_cases c25:a0_0=7
         ·rw [if_pos c25] at H
          have c25b0:(a0_0 == 7)=true:=beq_iff_eq.mpr c25
          have c25b1:(a0_0 != 7)=false:=bne_eq_false_iff_eq.mpr c25
          clear c25
          by_cases c26:y121.length+l0_5.length<17592186044416
          ·rw [if_pos c26] at H
           have LMc26:=ak_ c26
           clear c26
           obtain ⟨y124,hy124⟩:∃ y_:List Int,y_=(y121++l0_5):=⟨_,rfl⟩
           replace H:(some y124)=some r:=by first|(rw [hy124];with_reducible exact H)|(have H2_:=(Option.bind_some _ _).symm.trans H;rw [hy124];with_reducible exact H2_)|(have H2_:=(Option.bind_some _ _).symm.trans H;with_reducible exact H2_)|with_reducible exact H|(rw [hy124];exact H)|exact H
           have Ny124:=ak_ hy124
           clear hy124
           obtain rfl:=Option.some.inj H
           have hnb27:=NB111_117.out
           have hnc27:=NB117_111.out
           have hcz28_0:=ck_ BK111 0
           have hcz28_1:=ck_ BK111 1
           have hcz28_2:=ck_ BK111 2
           have hcz28_3:=ck_ BK111 3
           have hcz28_4:=ck_ BK111 4
           have hcz28_5:=ck_ BK111 5
           have hfz28_0:=fz_ BK111 0
           have hfz28_1:=fz_ BK111 1
           have hfz28_2:=fz_ BK111 2
           have hfz28_3:=fz_ BK111 3
           have hfz28_4:=fz_ BK111 4
           have hfz28_5:=fz_ BK111 5
           go_wp2_with (first|((with_reducible refine gate_builtin (b:=.append) (xs:=#[.tmp 27,.tmp 30]) rfl ?_);at_builtin;refine Kd.R_append (Kd.int .i64) (w0:=w) w.heap.size rfl (.tmp 27) (.tmp 30) 31 3 (.int .i64 0) 8 rfl Tryz.underlying31 info3 rfl (by decide) (by omega) u5 x5_12 a0_3 [.int .i64 a0_3] (fun _=>True) (fun _=>False) rfl rfl ?aP (fun _ hk=>hk.elim) ?aF ?aO ?aB ?aS ?aL ?_;(case aP=>exact rfl);(case aB=>exact (bl_ HB));(case aF=>exact (fun _ _=>trivial));(case aO=>exact (by (with_reducible repeat (first|apply Kd.R_alloc|apply Kd.R_drewN|apply Kd.R_drew));exact HO_5.out));(case aS=>exact (below_size (bl_ HB)));(case aL=>have:=LMc24.out;omega);intro v122 w29 ho hb hg hat;rw [← Ny121.out] at ho;have n0_:=ak_ (blk_grown (g:=gb111) (o:=.cells #[.int .i64 a0_0,.int .i64 a0_1,.int .i64 a0_2,.int .i64 a0_3,.int .i64 a0_4,.slice A0_5 l0_5.length c0_5] 45 (0,0)) (bk_ BK111) hg (Kd.R_ne HO_5.out BK111.out (by decide)));have n1_:=ak_ (blk_grown (g:=gb117) (o:=.cells #[.bool t112,.bool t113,.bool t114,.bool t115] 86 (0,0)) (bk_ BK117) hg (Kd.R_ne HO_5.out BK117.out (by decide)));have n2_:=ak_ (hb);have n3_:=ak_ (ho);clear BK111;clear BK117;clear HB;clear HO_5;have BK111:=n0_;have BK117:=n1_;have HB:=n2_;have HO123:=n3_;clear n0_ n1_ n2_ n3_;clear ho hb hg hat;have hcz30_0:=ck_ BK111 0;have hcz30_1:=ck_ BK111 1;have hcz30_2:=ck_ BK111 2;have hcz30_3:=ck_ BK111 3;have hcz30_4:=ck_ BK111 4;have hcz30_5:=ck_ BK111 5;have hfz30_0:=fz_ BK111 0;have hfz30_1:=fz_ BK111 1;have hfz30_2:=fz_ BK111 2;have hfz30_3:=fz_ BK111 3;have hfz30_4:=fz_ BK111 4;have hfz30_5:=fz_ BK111 5)|((with_reducible refine gate_builtin (b:=.append) (xs:=#[.tmp 35,.tmp 37]) rfl ?_);at_builtin;refine Kd.R_append_rows (Kd.int .i64) (w0:=w) w.heap.size rfl (.tmp 35) (.tmp 37) 31 3 (.int .i64 0) 8 rfl Tryz.underlying31 info3 rfl (by decide) (by omega) v122 y121 l0_5 _ _ _ (fun _=>True) (fun _=>False) rfl rfl ?aO ?aR (fun _ _ h=>h) (fun _ h=>h.elim) ?aF ?aB ?aS ?aL ?_;(case aR=>repeat (first|exact (Kd.C_below HR0_5.out HB.out)|(with_reducible refine Kd.C_alloc ?_ _)|(with_reducible refine Kd.C_drewN ?_ _)|(with_reducible refine Kd.C_drew ?_)));(case aB=>exact (bl_ HB));(case aF=>exact (fun _ _=>trivial));(case aO=>exact (by (with_reducible repeat (first|apply Kd.R_alloc|apply Kd.R_drewN|apply Kd.R_drew));exact HO123.out));(case aS=>exact (below_size (bl_ HB)));(case aL=>have:=LMc26.out;omega);intro v125 w31 ho hb hg hat;rw [← Ny124.out] at ho;have n0_:=ak_ (blk_grown (g:=gb111) (o:=.cells #[.int .i64 a0_0,.int .i64 a0_1,.int .i64 a0_2,.int .i64 a0_3,.int .i64 a0_4,.slice A0_5 l0_5.length c0_5] 45 (0,0)) (bk_ BK111) hg (Kd.R_ne HO123.out BK111.out (by decide)));have n1_:=ak_ (blk_grown (g:=gb117) (o:=.cells #[.bool t112,.bool t113,.bool t114,.bool t115] 86 (0,0)) (bk_ BK117) hg (Kd.R_ne HO123.out BK117.out (by decide)));have n2_:=ak_ (hb);have n3_:=ak_ (ho);clear BK111;clear BK117;clear HB;clear HO123;have BK111:=n0_;have BK117:=n1_;have HB:=n2_;have HO126:=n3_;clear n0_ n1_ n2_ n3_;clear ho hb hg hat))
           go_ret
           exact ⟨_,by first|rfl|(simp [errW_none,errW_some]<;>rfl)|(simp [*,errW_none,errW_some]<;>rfl),by (with_reducible repeat (first|apply Kd.R_alloc|apply Kd.R_drewN|apply Kd.R_drew));exact HO126.out,bl_ HB⟩
          ·rw [if_neg c26] at H
           exact absurd H (by simp)
         ·rw [if_neg c25] at H
          have c25b0:(a0_0 == 7)=false:=beq_eq_false_iff_ne.mpr c25
          have c25b1:(a0_0 != 7)=true:=bne_iff_ne.mpr c25
          obtain rfl:=Option.some.inj H
          have hnb32:=NB111_117.out
          have hnc32:=NB117_111.out
          have hcz33_0:=ck_ BK111 0
          have hcz33_1:=ck_ BK111 1
          have hcz33_2:=ck_ BK111 2
          have hcz33_3:=ck_ BK111 3
          have hcz33_4:=ck_ BK111 4
          have hcz33_5:=ck_ BK111 5
          have hfz33_0:=fz_ BK111 0
          have hfz33_1:=fz_ BK111 1
          have hfz33_2:=fz_ BK111 2
          have hfz33_3:=fz_ BK111 3
          have hfz33_4:=fz_ BK111 4
          have hfz33_5:=fz_ BK111 5
          go_wp2_with (first|((with_reducible refine gate_builtin (b:=.append) (xs:=#[.tmp 27,.tmp 30]) rfl ?_);at_builtin;refine Kd.R_append (Kd.int .i64) (w0:=w) w.heap.size rfl (.tmp 27) (.tmp 30) 31 3 (.int .i64 0) 8 rfl Tryz.underlying31 info3 rfl (by decide) (by omega) u5 x5_12 a0_3 [.int .i64 a0_3] (fun _=>True) (fun _=>False) rfl rfl ?aP (fun _ hk=>hk.elim) ?aF ?aO ?aB ?aS ?aL ?_;(case aP=>exact rfl);(case aB=>exact (bl_ HB));(case aF=>exact (fun _ _=>trivial));(case aO=>exact (by (with_reducible repeat (first|apply Kd.R_alloc|apply Kd.R_drewN|apply Kd.R_drew));exact HO_5.out));(case aS=>exact (below_size (bl_ HB)));(case aL=>have:=LMc24.out;omega);intro v122 w34 ho hb hg hat;rw [← Ny121.out] at ho;have n0_:=ak_ (blk_grown (g:=gb111) (o:=.cells #[.int .i64 a0_0,.int .i64 a0_1,.int .i64 a0_2,.int .i64 a0_3,.int .i64 a0_4,.slice A0_5 l0_5.length c0_5] 45 (0,0)) (bk_ BK111) hg (Kd.R_ne HO_5.out BK111.out (by decide)));have n1_:=ak_ (blk_grown (g:=gb117) (o:=.cells #[.bool t112,.bool t113,.bool t114,.bool t115] 86 (0,0)) (bk_ BK117) hg (Kd.R_ne HO_5.out BK117.out (by decide)));have n2_:=ak_ (hb);have n3_:=ak_ (ho);clear BK111;clear BK117;clear HB;clear HO_5;have BK111:=n0_;have BK117:=n1_;have HB:=n2_;have HO123:=n3_;clear n0_ n1_ n2_ n3_;clear ho hb hg hat;have hcz35_0:=ck_ BK111 0;have hcz35_1:=ck_ BK111 1;have hcz35_2:=ck_ BK111 2;have hcz35_3:=ck_ BK111 3;have hcz35_4:=ck_ BK111 4;have hcz35_5:=ck_ BK111 5;have hfz35_0:=fz_ BK111 0;have hfz35_1:=fz_ BK111 1;have hfz35_2:=fz_ BK111 2;have hfz35_3:=fz_ BK111 3;have hfz35_4:=fz_ BK111 4;have hfz35_5:=fz_ BK111 5))
          go_ret
          exact ⟨_,by first|rfl|(simp [errW_none,errW_some]<;>rfl)|(simp [*,errW_none,errW_some]<;>rfl),by (with_reducible repeat (first|apply Kd.R_alloc|apply Kd.R_drewN|apply Kd.R_drew));exact HO123.out,bl_ HB⟩
        ·rw [if_neg c24] at H
         exact absurd H (by simp)
       ·replace c23:=Bool.eq_false_iff.mpr c23
        subst c23
        have H1:(if a0_0=7 then (if x5_12.length+l0_5.length<17592186044416 then (some (x5_12++l0_5)) else (none)) else (some x5_12))=some r:=by rw [if_neg (show ¬ (false=true) by decide)] at H;exact H
        clear H
        have H:=H1
        clear H1
        by_cases c36:a0_0=7
        ·rw [if_pos c36] at H
         have c36b0:(a0_0 == 7)=true:=beq_iff_eq.mpr c36
         have c36b1:(a0_0 != 7)=false:=bne_eq_false_iff_eq.mpr c36
         clear c36
         by_cases c37:x5_12.length+l0_5.length<17592186044416
         ·rw [if_pos c37] at H
          have LMc37:=ak_ c37
          clear c37
          obtain ⟨y127,hy127⟩:∃ y_:List Int,y_=(x5_12++l0_5):=⟨_,rfl⟩
          replace H:(some y127)=some r:=by first|(rw [hy127];with_reducible exact H)|(have H2_:=(Option.bind_some _ _).symm.trans H;rw [hy127];with_reducible exact H2_)|(have H2_:=(Option.bind_some _ _).symm.trans H;with_reducible exact H2_)|with_reducible exact H|(rw [hy127];exact H)|exact H
          have Ny127:=ak_ hy127
          clear hy127
          obtain rfl:=Option.some.inj H
          have hnb38:=NB111_117.out
          have hnc38:=NB117_111.out
          have hcz39_0:=ck_ BK111 0
          have hcz39_1:=ck_ BK111 1
          have hcz39_2:=ck_ BK111 2
          have hcz39_3:=ck_ BK111 3
          have hcz39_4:=ck_ BK111 4
          have hcz39_5:=ck_ BK111 5
          have hfz39_0:=fz_ BK111 0
          have hfz39_1:=fz_ BK111 1
          have hfz39_2:=fz_ BK111 2
          have hfz39_3:=fz_ BK111 3
          have hfz39_4:=fz_ BK111 4
          have hfz39_5:=fz_ BK111 5
          go_wp2_with (first|((with_reducible refine gate_builtin (b:=.append) (xs:=#[.tmp 35,.tmp 37]) rfl ?_);at_builtin;refine Kd.R_append_rows (Kd.int .i64) (w0:=w) w.heap.size rfl (.tmp 35) (.tmp 37) 31 3 (.int .i64 0) 8 rfl Tryz.underlying31 info3 rfl (by decide) (by omega) u5 x5_12 l0_5 _ _ _ (fun _=>True) (fun _=>False) rfl rfl ?aO ?aR (fun _ _ h=>h) (fun _ h=>h.elim) ?aF ?aB ?aS ?aL ?_;(case aR=>repeat (first|exact (Kd.C_below HR0_5.out HB.out)|(with_reducible refine Kd.C_alloc ?_ _)|(with_reducible refine Kd.C_drewN ?_ _)|(with_reducible refine Kd.C_drew ?_)));(case aB=>exact (bl_ HB));(case aF=>exact (fun _ _=>trivial));(case aO=>exact (by (with_reducible repeat (first|apply Kd.R_alloc|apply Kd.R_drewN|apply Kd.R_drew));exact HO_5.out));(case aS=>exact (below_size (bl_ HB)));(case aL=>have:=LMc37.out;omega);intro v128 w40 ho hb hg hat;rw [← Ny127.out] at ho;have n0_:=ak_ (blk_grown (g:=gb111) (o:=.cells #[.int .i64 a0_0,.int .i64 a0_1,.int .i64 a0_2,.int .i64 a0_3,.int .i64 a0_4,.slice A0_5 l0_5.length c0_5] 45 (0,0)) (bk_ BK111) hg (Kd.R_ne HO_5.out BK111.out (by decide)));have n1_:=ak_ (blk_grown (g:=gb117) (o:=.cells #[.bool t112,.bool t113,.bool t114,.bool t115] 86 (0,0)) (bk_ BK117) hg (Kd.R_ne HO_5.out BK117.out (by decide)));have n2_:=ak_ (hb);have n3_:=ak_ (ho);clear BK111;clear BK117;clear HB;clear HO_5;have BK111:=n0_;have BK117:=n1_;have HB:=n2_;have HO129:=n3_;clear n0_ n1_ n2_ n3_;clear ho hb hg hat))
          go_ret
          exact ⟨_,by first|rfl|(simp [errW_none,errW_some]<;>rfl)|(simp [*,errW_none,errW_some]<;>rfl),by (with_reducible repeat (first|apply Kd.R_alloc|apply Kd.R_drewN|apply Kd.R_drew));exact HO129.out,bl_ HB⟩
         ·rw [if_neg c37] at H
          exact absurd H (by simp)
        ·rw [if_neg c36] at H
         have c36b0:(a0_0 == 7)=false:=beq_eq_false_iff_ne.mpr c36
         have c36b1:(a0_0 != 7)=true:=bne_iff_ne.mpr c36
         obtain rfl:=Option.some.inj H
         have hnb41:=NB111_117.out
         have hnc41:=NB117_111.out
         have hcz42_0:=ck_ BK111 0
         have hcz42_1:=ck_ BK111 1
         have hcz42_2:=ck_ BK111 2
         have hcz42_3:=ck_ BK111 3
         have hcz42_4:=ck_ BK111 4
         have hcz42_5:=ck_ BK111 5
         have hfz42_0:=fz_ BK111 0
         have hfz42_1:=fz_ BK111 1
         have hfz42_2:=fz_ BK111 2
         have hfz42_3:=fz_ BK111 3
         have hfz42_4:=fz_ BK111 4
         have hfz42_5:=fz_ BK111 5
         go_wp2
         go_ret
         exact ⟨_,by first|rfl|(simp [errW_none,errW_some]<;>rfl)|(simp [*,errW_none,errW_some]<;>rfl),by (with_reducible repeat (first|apply Kd.R_alloc|apply Kd.R_drewN|apply Kd.R_drew));exact HO_5.out,bl_ HB⟩

/-! ### code_Sets: function 42 -/
def code_Sets.f (k:Nat) (a0_0:Int) (a0_1:Int) (a0_2:Int) (a0_3:Int) (a0_4:Int) (l0_5:List Int):Option (Int):=(code_shapeOf.f k a0_0).bind fun bt131=>(if bt131.1=true then (some a0_1) else (some 0))
set_option maxHeartbeats 8000000 in
set_option maxRecDepth 100000 in
theorem code_Sets.calls (k:Nat) (a0_0:Int) (a0_1:Int) (a0_2:Int) (a0_3:Int) (a0_4:Int) (A0_5:Option Addr) (c0_5:Nat) (l0_5:List Int) (r:Int) (w:World) (hr0_5:Kd.C (Kd.int .i64) w A0_5 l0_5.length l0_5) (hc0_5:l0_5.length≤c0_5) (h:code_Sets.f k a0_0 a0_1 a0_2 a0_3 a0_4 l0_5=some r) :
  Calls Tryz.prog 42 #[.agg #[.int .i64 a0_0,.int .i64 a0_1,.int .i64 a0_2,.int .i64 a0_3,.int .i64 a0_4,.slice A0_5 l0_5.length c0_5]] w fun e w'=>e=.returned (.int .i64 r)∧Below w.heap.size w w':=by
 have hu45:=Tryz.underlying45
 have hu86:=Tryz.underlying86
 have HR0_5:=ak_ hr0_5
 have HC0_5:=ak_ hc0_5
 clear hr0_5 hc0_5
 have HB:=ak_ (Below.refl w.heap.size w)
 have H:((code_shapeOf.f k a0_0).bind fun bt131=>(if bt131.1=true then (some a0_1) else (some 0)))=some r:=h
 clear h
 replace H:=Option.bind_eq_some_iff.mp H
 obtain ⟨⟨t131,t132,t133,t134,t135⟩,A20,H⟩:=H
 replace H:(if t131=true then (some a0_1) else (some 0))=some r:=H
 have A2:=ak_ A20
 clear A20
 by_cases c3:t131=true
 ·subst c3
  have H1:(some a0_1)=some r:=by rw [if_pos rfl] at H;exact H
  clear H
  have H:=H1
  clear H1
  obtain rfl:=Option.some.inj H
  go_enter Tryz.func42,Tryz.ntmps42
  go_wp2_with (first|((with_reducible refine gate_dst (N:=1) rfl ?_);refine box_event ?hg (N:=1) ?hd (cs:=#[.int .i64 a0_0,.int .i64 a0_1,.int .i64 a0_2,.int .i64 a0_3,.int .i64 a0_4,.slice A0_5 l0_5.length c0_5]) (t:=45) ?hr ?_;(case hd=>rfl);(case hg=>rfl);(case hr=>first|(go_simp;done)|(go_simp;rfl));intro gb130 hg w4 hbox hb;have n0_:=ak_ (below_step (bl_ HB) hb);have n1_:=ak_ (hbox);have n2_:=ak_ ((by rw [hg];exact (below_size (bl_ HB)):w.heap.size≤gb130));have n3_:=ak_ ((by rw [hg];exact (below_size (bl_ HB)):w.heap.size≤gb130));clear HB;have HB:=n0_;have BK130:=n1_;have GW130:=n2_;have GE130:=n3_;clear n0_ n1_ n2_ n3_;clear hb hbox hg;have hcz5_0:=ck_ BK130 0;have hcz5_1:=ck_ BK130 1;have hcz5_2:=ck_ BK130 2;have hcz5_3:=ck_ BK130 3;have hcz5_4:=ck_ BK130 4;have hcz5_5:=ck_ BK130 5;have hfz5_0:=fz_ BK130 0;have hfz5_1:=fz_ BK130 1;have hfz5_2:=fz_ BK130 2;have hfz5_3:=fz_ BK130 3;have hfz5_4:=fz_ BK130 4;have hfz5_5:=fz_ BK130 5)|((with_reducible refine gate_callee (f:=68) rfl ?_);refine goesL_ (some 8) rfl rfl Tryz.func68 (by kernel_rfl) rfl #[.int .i64 a0_0] rfl (by (try simp only [List.map_toArray,List.map_cons,List.map_nil]);first|done|rfl|(simp only [List.length_drop,List.length_take];rfl)) ?_;(with_reducible refine (code_shapeOf.calls k a0_0 true t132 t133 t134 t135 _ A2.out).mono ?_);rintro e w6 ⟨rfl,hb⟩;refine ⟨_,rfl,?_⟩;have n0_:=ak_ (blk_below (g:=gb130) (o:=.cells #[.int .i64 a0_0,.int .i64 a0_1,.int .i64 a0_2,.int .i64 a0_3,.int .i64 a0_4,.slice A0_5 l0_5.length c0_5] 45 (0,0)) (bk_ BK130) hb);have n1_:=ak_ (below_step (bl_ HB) hb);clear BK130;clear HB;have BK130:=n0_;have HB:=n1_;clear n0_ n1_;(try clear hb);(try clear hb2);(try clear hk);(try clear hi))|((with_reducible refine gate_dst (N:=3) rfl ?_);refine box_event ?hg (N:=3) ?hd (cs:=#[.bool false,.bool false,.bool false,.bool false]) (t:=86) ?hr ?_;(case hd=>rfl);(case hg=>rfl);(case hr=>first|(go_simp;done)|(go_simp;rfl));intro gb136 hg w7 hbox hb;have n0_:=ak_ (blk_below (g:=gb130) (o:=.cells #[.int .i64 a0_0,.int .i64 a0_1,.int .i64 a0_2,.int .i64 a0_3,.int .i64 a0_4,.slice A0_5 l0_5.length c0_5] 45 (0,0)) (bk_ BK130) hb);have n1_:=ak_ (below_step (bl_ HB) hb);have n2_:=ak_ (hbox);have n3_:=ak_ ((by rw [hg];exact (below_size (bl_ HB)):w.heap.size≤gb136));have n4_:=ak_ ((by rw [hg];exact (below_size (bl_ HB)):w.heap.size≤gb136));have n5_:=ak_ ((by rw [hg];exact Nat.ne_of_lt (blk_lt (g:=gb130) (o:=.cells #[.int .i64 a0_0,.int .i64 a0_1,.int .i64 a0_2,.int .i64 a0_3,.int .i64 a0_4,.slice A0_5 l0_5.length c0_5] 45 (0,0)) (bk_ BK130)):gb130≠gb136));have n6_:=ak_ ((by rw [hg];exact Nat.ne_of_gt (blk_lt (g:=gb130) (o:=.cells #[.int .i64 a0_0,.int .i64 a0_1,.int .i64 a0_2,.int .i64 a0_3,.int .i64 a0_4,.slice A0_5 l0_5.length c0_5] 45 (0,0)) (bk_ BK130)):gb136≠gb130));clear BK130;clear HB;have BK130:=n0_;have HB:=n1_;have BK136:=n2_;have GW136:=n3_;have GE136:=n4_;have NB130_136:=n5_;have NB136_130:=n6_;clear n0_ n1_ n2_ n3_ n4_ n5_ n6_;clear hb hbox hg;have hnb8:=NB136_130.out;have hnc8:=NB130_136.out;have hcz9_0:=ck_ BK136 0;have hcz9_1:=ck_ BK136 1;have hcz9_2:=ck_ BK136 2;have hcz9_3:=ck_ BK136 3;have hfz9_0:=fz_ BK136 0;have hfz9_1:=fz_ BK136 1;have hfz9_2:=fz_ BK136 2;have hfz9_3:=fz_ BK136 3;have hcz10_0:=ck_ BK130 0;have hcz10_1:=ck_ BK130 1;have hcz10_2:=ck_ BK130 2;have hcz10_3:=ck_ BK130 3;have hcz10_4:=ck_ BK130 4;have hcz10_5:=ck_ BK130 5;have hfz10_0:=fz_ BK130 0;have hfz10_1:=fz_ BK130 1;have hfz10_2:=fz_ BK130 2;have hfz10_3:=fz_ BK130 3;have hfz10_4:=fz_ BK130 4;have hfz10_5:=fz_ BK130 5))
  go_ret
  exact ⟨by first|rfl|(simp [errW_none,errW_some]<;>rfl)|(simp [*,errW_none,errW_some]<;>rfl),bl_ HB⟩
 ·replace c3:=Bool.eq_false_iff.mpr c3
  subst c3
  have H1:(some 0)=some r:=by rw [if_neg (show ¬ (false=true) by decide)] at H;exact H
  clear H
  have H:=H1
  clear H1
  obtain rfl:=Option.some.inj H
  go_enter Tryz.func42,Tryz.ntmps42
  go_wp2_with (first|((with_reducible refine gate_dst (N:=1) rfl ?_);refine box_event ?hg (N:=1) ?hd (cs:=#[.int .i64 a0_0,.int .i64 a0_1,.int .i64 a0_2,.int .i64 a0_3,.int .i64 a0_4,.slice A0_5 l0_5.length c0_5]) (t:=45) ?hr ?_;(case hd=>rfl);(case hg=>rfl);(case hr=>first|(go_simp;done)|(go_simp;rfl));intro gb130 hg w11 hbox hb;have n0_:=ak_ (below_step (bl_ HB) hb);have n1_:=ak_ (hbox);have n2_:=ak_ ((by rw [hg];exact (below_size (bl_ HB)):w.heap.size≤gb130));have n3_:=ak_ ((by rw [hg];exact (below_size (bl_ HB)):w.heap.size≤gb130));clear HB;have HB:=n0_;have BK130:=n1_;have GW130:=n2_;have GE130:=n3_;clear n0_ n1_ n2_ n3_;clear hb hbox hg;have hcz12_0:=ck_ BK130 0;have hcz12_1:=ck_ BK130 1;have hcz12_2:=ck_ BK130 2;have hcz12_3:=ck_ BK130 3;have hcz12_4:=ck_ BK130 4;have hcz12_5:=ck_ BK130 5;have hfz12_0:=fz_ BK130 0;have hfz12_1:=fz_ BK130 1;have hfz12_2:=fz_ BK130 2;have hfz12_3:=fz_ BK130 3;have hfz12_4:=fz_ BK130 4;have hfz12_5:=fz_ BK130 5)|((with_reducible refine gate_callee (f:=68) rfl ?_);refine goesL_ (some 8) rfl rfl Tryz.func68 (by kernel_rfl) rfl #[.int .i64 a0_0] rfl (by (try simp only [List.map_toArray,List.map_cons,List.map_nil]);first|done|rfl|(simp only [List.length_drop,List.length_take];rfl)) ?_;(with_reducible refine (code_shapeOf.calls k a0_0 false t132 t133 t134 t135 _ A2.out).mono ?_);rintro e w13 ⟨rfl,hb⟩;refine ⟨_,rfl,?_⟩;have n0_:=ak_ (blk_below (g:=gb130) (o:=.cells #[.int .i64 a0_0,.int .i64 a0_1,.int .i64 a0_2,.int .i64 a0_3,.int .i64 a0_4,.slice A0_5 l0_5.length c0_5] 45 (0,0)) (bk_ BK130) hb);have n1_:=ak_ (below_step (bl_ HB) hb);clear BK130;clear HB;have BK130:=n0_;have HB:=n1_;clear n0_ n1_;(try clear hb);(try clear hb2);(try clear hk);(try clear hi))|((with_reducible refine gate_dst (N:=3) rfl ?_);refine box_event ?hg (N:=3) ?hd (cs:=#[.bool false,.bool false,.bool false,.bool false]) (t:=86) ?hr ?_;(case hd=>rfl);(case hg=>rfl);(case hr=>first|(go_simp;done)|(go_simp;rfl));intro gb136 hg w14 hbox hb;have n0_:=ak_ (blk_below (g:=gb130) (o:=.cells #[.int .i64 a0_0,.int .i64 a0_1,.int .i64 a0_2,.int .i64 a0_3,.int .i64 a0_4,.slice A0_5 l0_5.length c0_5] 45 (0,0)) (bk_ BK130) hb);have n1_:=ak_ (below_step (bl_ HB) hb);have n2_:=ak_ (hbox);have n3_:=ak_ ((by rw [hg];exact (below_size (bl_ HB)):w.heap.size≤gb136));have n4_:=ak_ ((by rw [hg];exact (below_size (bl_ HB)):w.heap.size≤gb136));have n5_:=ak_ ((by rw [hg];exact Nat.ne_of_lt (blk_lt (g:=gb130) (o:=.cells #[.int .i64 a0_0,.int .i64 a0_1,.int .i64 a0_2,.int .i64 a0_3,.int .i64 a0_4,.slice A0_5 l0_5.length c0_5] 45 (0,0)) (bk_ BK130)):gb130≠gb136));have n6_:=ak_ ((by rw [hg];exact Nat.ne_of_gt (blk_lt (g:=gb130) (o:=.cells #[.int .i64 a0_0,.int .i64 a0_1,.int .i64 a0_2,.int .i64 a0_3,.int .i64 a0_4,.slice A0_5 l0_5.length c0_5] 45 (0,0)) (bk_ BK130)):gb136≠gb130));clear BK130;clear HB;have BK130:=n0_;have HB:=n1_;have BK136:=n2_;have GW136:=n3_;have GE136:=n4_;have NB130_136:=n5_;have NB136_130:=n6_;clear n0_ n1_ n2_ n3_ n4_ n5_ n6_;clear hb hbox hg;have hnb15:=NB136_130.out;have hnc15:=NB130_136.out;have hcz16_0:=ck_ BK136 0;have hcz16_1:=ck_ BK136 1;have hcz16_2:=ck_ BK136 2;have hcz16_3:=ck_ BK136 3;have hfz16_0:=fz_ BK136 0;have hfz16_1:=fz_ BK136 1;have hfz16_2:=fz_ BK136 2;have hfz16_3:=fz_ BK136 3))
  go_ret
  exact ⟨by first|rfl|(simp [errW_none,errW_some]<;>rfl)|(simp [*,errW_none,errW_some]<;>rfl),bl_ HB⟩

/-! ### code_TermUses: function 40 -/
def code_TermUses.f (a0_0:Int) (a0_1:Int) (a0_2:Int) (a0_3:Int):Option (List Int):=if a0_0=2 then (some (([a0_1]:List Int))) else (if a0_0=3 then (some (([a0_1]:List Int))) else (some ([]:List Int)))
set_option maxHeartbeats 8000000 in
set_option maxRecDepth 100000 in
theorem code_TermUses.calls (a0_0:Int) (a0_1:Int) (a0_2:Int) (a0_3:Int) (r:List Int) (w:World) (h:code_TermUses.f a0_0 a0_1 a0_2 a0_3=some r) :
  Calls Tryz.prog 40 #[.agg #[.int .i64 a0_0,.int .i64 a0_1,.int .i64 a0_2,.int .i64 a0_3]] w fun e w'=>∃ v0_:Value,e=.returned (v0_)∧Kd.R (Kd.int .i64) 3 w' w.heap.size (fun _=>True) v0_ r∧Below w.heap.size w w':=by
 have hu48:=Tryz.underlying48
 have HB:=ak_ (Below.refl w.heap.size w)
 have H:(if a0_0=2 then (some (([a0_1]:List Int))) else (if a0_0=3 then (some (([a0_1]:List Int))) else (some ([]:List Int))))=some r:=h
 clear h
 by_cases c2:a0_0=2
 ·rw [if_pos c2] at H
  have c2b0:(a0_0 == 2)=true:=beq_iff_eq.mpr c2
  have c2b1:(a0_0 != 2)=false:=bne_eq_false_iff_eq.mpr c2
  clear c2
  obtain ⟨y138,hy138⟩:∃ y_:List Int,y_=(([a0_1]:List Int)):=⟨_,rfl⟩
  replace H:(some y138)=some r:=by first|(rw [hy138];with_reducible exact H)|(have H2_:=(Option.bind_some _ _).symm.trans H;rw [hy138];with_reducible exact H2_)|(have H2_:=(Option.bind_some _ _).symm.trans H;with_reducible exact H2_)|with_reducible exact H|(rw [hy138];exact H)|exact H
  have Ny138:=ak_ hy138
  clear hy138
  obtain rfl:=Option.some.inj H
  go_enter Tryz.func40,Tryz.ntmps40
  go_wp2_with (first|((with_reducible refine gate_dst (N:=1) rfl ?_);refine box_event ?hg (N:=1) ?hd (cs:=#[.int .i64 a0_0,.int .i64 a0_1,.int .i64 a0_2,.int .i64 a0_3]) (t:=48) ?hr ?_;(case hd=>rfl);(case hg=>rfl);(case hr=>first|(go_simp;done)|(go_simp;rfl));intro gb137 hg w3 hbox hb;have n0_:=ak_ (below_step (bl_ HB) hb);have n1_:=ak_ (hbox);have n2_:=ak_ ((by rw [hg];exact (below_size (bl_ HB)):w.heap.size≤gb137));have n3_:=ak_ ((by rw [hg];exact (below_size (bl_ HB)):w.heap.size≤gb137));clear HB;have HB:=n0_;have BK137:=n1_;have GW137:=n2_;have GE137:=n3_;clear n0_ n1_ n2_ n3_;clear hb hbox hg;have hcz4_0:=ck_ BK137 0;have hcz4_1:=ck_ BK137 1;have hcz4_2:=ck_ BK137 2;have hcz4_3:=ck_ BK137 3;have hfz4_0:=fz_ BK137 0;have hfz4_1:=fz_ BK137 1;have hfz4_2:=fz_ BK137 2;have hfz4_3:=fz_ BK137 3)|((with_reducible refine gate_dst (N:=13) rfl ?_);refine Kd.R_lit (Kd.int .i64) _ 3 ?hg (N:=13) ?hd (xs:=([a0_1]:List Int)) (inner:=[.int .i64 a0_1]) (ok:=fun _=>True) (okp:=fun _=>True) ?hr ?hp (fun _ hk=>hk) trivial (Below.refl _ _) (Nat.le_refl _) (by simp) ?_;(case hd=>rfl);(case hg=>rfl);(case hr=>first|(go_simp;done)|(go_simp;rfl));(case hp=>exact (Reps.one (show Kd.M (Kd.int .i64) _ _ _ a0_1 [.int .i64 a0_1] from rfl) (Reps.none _ _)));intro v139 w5 ho6 hb hg_ hnew_;clear hg_ hnew_;(first|rw [← Ny138.out] at ho6|(simp only [Int.reduceToNat] at ho6;rw [← Ny138.out] at ho6));have n0_:=ak_ (Kd.R_lower ho6 (below_size (bl_ HB)));have n1_:=ak_ (blk_below (g:=gb137) (o:=.cells #[.int .i64 a0_0,.int .i64 a0_1,.int .i64 a0_2,.int .i64 a0_3] 48 (0,0)) (bk_ BK137) hb);have n2_:=ak_ (below_step (bl_ HB) hb);clear BK137;clear HB;have HO140:=n0_;have BK137:=n1_;have HB:=n2_;clear n0_ n1_ n2_;clear hb ho6))
  go_ret
  exact ⟨_,by first|rfl|(simp [errW_none,errW_some]<;>rfl)|(simp [*,errW_none,errW_some]<;>rfl),by (with_reducible repeat (first|apply Kd.R_alloc|apply Kd.R_drewN|apply Kd.R_drew));exact HO140.out,bl_ HB⟩
 ·rw [if_neg c2] at H
  have c2b0:(a0_0 == 2)=false:=beq_eq_false_iff_ne.mpr c2
  have c2b1:(a0_0 != 2)=true:=bne_iff_ne.mpr c2
  by_cases c7:a0_0=3
  ·rw [if_pos c7] at H
   have c7b0:(a0_0 == 3)=true:=beq_iff_eq.mpr c7
   have c7b1:(a0_0 != 3)=false:=bne_eq_false_iff_eq.mpr c7
   clear c7
   obtain ⟨y141,hy141⟩:∃ y_:List Int,y_=(([a0_1]:List Int)):=⟨_,rfl⟩
   replace H:(some y141)=some r:=by first|(rw [hy141];with_reducible exact H)|(have H2_:=(Option.bind_some _ _).symm.trans H;rw [hy141];with_reducible exact H2_)|(have H2_:=(Option.bind_some _ _).symm.trans H;with_reducible exact H2_)|with_reducible exact H|(rw [hy141];exact H)|exact H
   have Ny141:=ak_ hy141
   clear hy141
   obtain rfl:=Option.some.inj H
   go_enter Tryz.func40,Tryz.ntmps40
   go_wp2_with (first|((with_reducible refine gate_dst (N:=1) rfl ?_);refine box_event ?hg (N:=1) ?hd (cs:=#[.int .i64 a0_0,.int .i64 a0_1,.int .i64 a0_2,.int .i64 a0_3]) (t:=48) ?hr ?_;(case hd=>rfl);(case hg=>rfl);(case hr=>first|(go_simp;done)|(go_simp;rfl));intro gb137 hg w8 hbox hb;have n0_:=ak_ (below_step (bl_ HB) hb);have n1_:=ak_ (hbox);have n2_:=ak_ ((by rw [hg];exact (below_size (bl_ HB)):w.heap.size≤gb137));have n3_:=ak_ ((by rw [hg];exact (below_size (bl_ HB)):w.heap.size≤gb137));clear HB;have HB:=n0_;have BK137:=n1_;have GW137:=n2_;have GE137:=n3_;clear n0_ n1_ n2_ n3_;clear hb hbox hg;have hcz9_0:=ck_ BK137 0;have hcz9_1:=ck_ BK137 1;have hcz9_2:=ck_ BK137 2;have hcz9_3:=ck_ BK137 3;have hfz9_0:=fz_ BK137 0;have hfz9_1:=fz_ BK137 1;have hfz9_2:=fz_ BK137 2;have hfz9_3:=fz_ BK137 3)|((with_reducible refine gate_dst (N:=13) rfl ?_);refine Kd.R_lit (Kd.int .i64) _ 3 ?hg (N:=13) ?hd (xs:=([a0_1]:List Int)) (inner:=[.int .i64 a0_1]) (ok:=fun _=>True) (okp:=fun _=>True) ?hr ?hp (fun _ hk=>hk) trivial (Below.refl _ _) (Nat.le_refl _) (by simp) ?_;(case hd=>rfl);(case hg=>rfl);(case hr=>first|(go_simp;done)|(go_simp;rfl));(case hp=>exact (Reps.one (show Kd.M (Kd.int .i64) _ _ _ a0_1 [.int .i64 a0_1] from rfl) (Reps.none _ _)));intro v142 w10 ho11 hb hg_ hnew_;clear hg_ hnew_;(first|rw [← Ny141.out] at ho11|(simp only [Int.reduceToNat] at ho11;rw [← Ny141.out] at ho11));have n0_:=ak_ (Kd.R_lower ho11 (below_size (bl_ HB)));have n1_:=ak_ (blk_below (g:=gb137) (o:=.cells #[.int .i64 a0_0,.int .i64 a0_1,.int .i64 a0_2,.int .i64 a0_3] 48 (0,0)) (bk_ BK137) hb);have n2_:=ak_ (below_step (bl_ HB) hb);clear BK137;clear HB;have HO143:=n0_;have BK137:=n1_;have HB:=n2_;clear n0_ n1_ n2_;clear hb ho11))
   go_ret
   exact ⟨_,by first|rfl|(simp [errW_none,errW_some]<;>rfl)|(simp [*,errW_none,errW_some]<;>rfl),by (with_reducible repeat (first|apply Kd.R_alloc|apply Kd.R_drewN|apply Kd.R_drew));exact HO143.out,bl_ HB⟩
  ·rw [if_neg c7] at H
   have c7b0:(a0_0 == 3)=false:=beq_eq_false_iff_ne.mpr c7
   have c7b1:(a0_0 != 3)=true:=bne_iff_ne.mpr c7
   obtain rfl:=Option.some.inj H
   go_enter Tryz.func40,Tryz.ntmps40
   go_wp2_with (first|((with_reducible refine gate_dst (N:=1) rfl ?_);refine box_event ?hg (N:=1) ?hd (cs:=#[.int .i64 a0_0,.int .i64 a0_1,.int .i64 a0_2,.int .i64 a0_3]) (t:=48) ?hr ?_;(case hd=>rfl);(case hg=>rfl);(case hr=>first|(go_simp;done)|(go_simp;rfl));intro gb137 hg w12 hbox hb;have n0_:=ak_ (below_step (bl_ HB) hb);have n1_:=ak_ (hbox);have n2_:=ak_ ((by rw [hg];exact (below_size (bl_ HB)):w.heap.size≤gb137));have n3_:=ak_ ((by rw [hg];exact (below_size (bl_ HB)):w.heap.size≤gb137));clear HB;have HB:=n0_;have BK137:=n1_;have GW137:=n2_;have GE137:=n3_;clear n0_ n1_ n2_ n3_;clear hb hbox hg;have hcz13_0:=ck_ BK137 0;have hcz13_1:=ck_ BK137 1;have hcz13_2:=ck_ BK137 2;have hcz13_3:=ck_ BK137 3;have hfz13_0:=fz_ BK137 0;have hfz13_1:=fz_ BK137 1;have hfz13_2:=fz_ BK137 2;have hfz13_3:=fz_ BK137 3))
   go_ret
   exact ⟨_,by first|rfl|(simp [errW_none,errW_some]<;>rfl)|(simp [*,errW_none,errW_some]<;>rfl),by first|exact Kd.R_nil _ _ _ _ _|exact Kd.N_nil _ _ _ _ _|exact Kd.V_nil _ _ _ _ _|exact Kd.Q_nil _ _ _ _ _|exact Kd.S_nil _ _ _ _ _,bl_ HB⟩

/-! ### slices_Index_int_int: function 87 -/
/-! ### slices_Contains_int_int: function 59 -/
