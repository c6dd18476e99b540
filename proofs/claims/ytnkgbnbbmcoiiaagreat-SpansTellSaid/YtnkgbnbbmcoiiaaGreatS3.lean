-- a text of the seat,by a program
import Derived.Test.YtnkgbnbbmcoiiaaGreatBk
import Derived.Test.YtnkgbnbbmcoiiaaGreatS0
namespace Go.Proofs.YtnkgbnbbmcoiiaaGreat.S
open Go.RowKit Go.Proofs.YtnkgbnbbmcoiiaaGreatW.PrintWords Go.Proofs.YtnkgbnbbmcoiiaaGreatW.PrintLast Go.Proofs.YtnkgbnbbmcoiiaaGreatW.PrintMore
attribute [local go_sem] max2_int min2_int max_two min_two max_three min_three max_four min_four   -- for this text's walks alone
set_option linter.unusedVariables false
set_option linter.unusedSimpArgs false

/-! ### code_within: function 71 -/
def code_within.f (a0:Int) (a1:Int) (a2:Int):Option (Bool):=if a0 ≥ a1 then (some (decide (a0≤a2))) else (some false)
set_option maxHeartbeats 8000000 in
set_option maxRecDepth 100000 in
theorem code_within.calls (a0:Int) (a1:Int) (a2:Int) (r:Bool) (w:World) (h:code_within.f a0 a1 a2=some r) :
  Calls Tryz.prog 71 #[.int .i64 a0,.int .i64 a1,.int .i64 a2] w fun e w'=>e=.returned (.bool r)∧Drawn0 w w':=by
 have H:(if a0 ≥ a1 then (some (decide (a0≤a2))) else (some false))=some r:=h
 clear h
 by_cases c4:a0 ≥ a1
 ·rw [if_pos c4] at H
  have c4b0:decide (a1≤a0)=true:=decide_eq_true c4
  clear c4
  obtain rfl:=Option.some.inj H
  go_enter Tryz.func71,Tryz.ntmps71
  go_wp2
  go_ret
  exact ⟨by first|rfl|(simp;done)|(simp [*];done),by repeat (first|exact Drawn0.refl _|apply Drawn0.step)⟩
 ·rw [if_neg c4] at H
  have c4b0:decide (a1≤a0)=false:=decide_eq_false c4
  clear c4
  obtain rfl:=Option.some.inj H
  go_enter Tryz.func71,Tryz.ntmps71
  go_wp2
  go_ret
  exact ⟨by first|rfl|(simp;done)|(simp [*];done),by repeat (first|exact Drawn0.refl _|apply Drawn0.step)⟩

/-! ### code_shapeOf: function 68 -/
def code_shapeOf.j0:Nat→Int→Bool→Option (Bool × Bool × Bool × Bool × Bool)
 | 0,_,_=>none
 | k+1,x4,x5=>if x5=true then (some (true,false,false,true,true)) else (if x4=2 then (some (true,true,true,true,true)) else (if x4=3 then (some (true,true,false,false,true)) else (if x4=4 then (some (true,true,false,true,true)) else (if x4=5 then (some (false,true,true,true,true)) else (if x4=8 then (some (true,false,false,false,true)) else (if x4=9 then (some (false,true,false,false,true)) else (some (false,false,false,false,false))))))))
def code_shapeOf.f (k:Nat) (a0:Int):Option (Bool × Bool × Bool × Bool × Bool):=if a0=1 then (code_shapeOf.j0 k a0 (a0 == 1)) else (if a0=6 then (code_shapeOf.j0 k a0 (a0 == 6)) else (code_shapeOf.j0 k a0 (a0 == 7)))
set_option maxHeartbeats 8000000 in
set_option maxRecDepth 100000 in
theorem code_shapeOf.calls (k:Nat) (a0:Int) (r1:Bool) (r2:Bool) (r3:Bool) (r4:Bool) (r5:Bool) (w:World) (h:code_shapeOf.f k a0=some (r1,r2,r3,r4,r5)) :
  Calls Tryz.prog 68 #[.int .i64 a0] w fun e w'=>e=.returned (.tuple #[.agg #[.bool r1,.bool r2,.bool r3,.bool r4],.bool r5])∧Below w.heap.size w w':=by
 have hu86:=Tryz.underlying86
 have HB:=ak_ (Below.refl w.heap.size w)
 have H:(if a0=1 then (code_shapeOf.j0 k a0 (a0 == 1)) else (if a0=6 then (code_shapeOf.j0 k a0 (a0 == 6)) else (code_shapeOf.j0 k a0 (a0 == 7))))=some (r1,r2,r3,r4,r5):=h
 clear h
 have HC2:=ak_ H
 clear H
 go_enter Tryz.func68,Tryz.ntmps68
 go_upto_if 5 with (first|((with_reducible refine gate_dst (N:=2) rfl ?_);refine box_event ?hg (N:=2) ?hd (cs:=#[.bool false,.bool false,.bool false,.bool false]) (t:=86) ?hr ?_;(case hd=>rfl);(case hg=>rfl);(case hr=>first|(go_simp;done)|(go_simp;rfl));intro gb101 hg w3 hbox hb;have n0_:=ak_ (below_step (bl_ HB) hb);have n1_:=ak_ (hbox);have n2_:=ak_ ((by rw [hg];exact (below_size (bl_ HB)):w.heap.size≤gb101));have n3_:=ak_ ((by rw [hg];exact (below_size (bl_ HB)):w.heap.size≤gb101));clear HB;have HB:=n0_;have BK101:=n1_;have GW101:=n2_;have GE101:=n3_;clear n0_ n1_ n2_ n3_;clear hb hbox hg))
 (try simp only [Act.put,pa_,pb_,pc_])
 go_cut [5] (fun v5 wc=>∃ (kq:Nat) (x5_1:Bool),v5=.bool x5_1∧Aside0 (code_shapeOf.j0 kq a0 x5_1=some (r1,r2,r3,r4,r5))∧Aside0 (kq≤k)∧Aside0 (wc.heap[gb101]?=some (.cells #[.bool false,.bool false,.bool false,.bool false] 86 (0,0)))∧Aside0 (Below w.heap.size w wc))
 case first =>
  have H:=HC2.out
  clear HC2
  by_cases c4:a0=1
  ·rw [if_pos c4] at H
   have c4b0:(a0 == 1)=true:=beq_iff_eq.mpr c4
   have c4b1:(a0 != 1)=false:=bne_eq_false_iff_eq.mpr c4
   clear c4
   (first|rw [c4b0]|(simp only [i64_w,i32_w];rw [c4b0])|skip)
   have H':=ak_ H
   clear H
   go_wp2
   go_meet
   case rel=>exact ⟨_,((a0 == 1)),(by first|rfl|(simp;done)|(simp [*];done)),H',⟨by first|omega|exact Nat.le_refl _⟩,⟨bk_ BK101⟩,⟨bl_ HB⟩⟩
  ·rw [if_neg c4] at H
   have c4b0:(a0 == 1)=false:=beq_eq_false_iff_ne.mpr c4
   have c4b1:(a0 != 1)=true:=bne_iff_ne.mpr c4
   (first|rw [c4b0]|(simp only [i64_w,i32_w];rw [c4b0])|skip)
   by_cases c5:a0=6
   ·rw [if_pos c5] at H
    have c5b0:(a0 == 6)=true:=beq_iff_eq.mpr c5
    have c5b1:(a0 != 6)=false:=bne_eq_false_iff_eq.mpr c5
    clear c5
    have H':=ak_ H
    clear H
    go_wp2
    go_meet
    case rel=>exact ⟨_,((a0 == 6)),(by first|rfl|(simp;done)|(simp [*];done)),H',⟨by first|omega|exact Nat.le_refl _⟩,⟨bk_ BK101⟩,⟨bl_ HB⟩⟩
   ·rw [if_neg c5] at H
    have c5b0:(a0 == 6)=false:=beq_eq_false_iff_ne.mpr c5
    have c5b1:(a0 != 6)=true:=bne_iff_ne.mpr c5
    have H':=ak_ H
    clear H
    go_wp2
    go_meet
    case rel=>exact ⟨_,((a0 == 7)),(by first|rfl|(simp;done)|(simp [*];done)),H',⟨by first|omega|exact Nat.le_refl _⟩,⟨bk_ BK101⟩,⟨bl_ HB⟩⟩
 case rest =>
  clear HC2
  obtain ⟨kq,x5_1,rfl,HA,HJ1,BK101,HB⟩:=hcut
  cases kq with
  | zero=>exact absurd HA.out (by simp [code_shapeOf.j0])
  | succ kj1 =>
   have H:=HA.out
   clear HA
   simp only [code_shapeOf.j0] at H
   by_cases c6:x5_1=true
   ·subst c6
    have H1:(some (true,false,false,true,true))=some (r1,r2,r3,r4,r5):=by rw [if_pos rfl] at H;exact H
    clear H
    have H:=H1
    clear H1
    simp only [Option.some.injEq,Prod.mk.injEq] at H
    obtain ⟨rfl,rfl,rfl,rfl,rfl⟩:=H
    have hcz7_0:=ck_ BK101 0
    have hcz7_1:=ck_ BK101 1
    have hcz7_2:=ck_ BK101 2
    have hcz7_3:=ck_ BK101 3
    have hfz7_0:=fz_ BK101 0
    have hfz7_1:=fz_ BK101 1
    have hfz7_2:=fz_ BK101 2
    have hfz7_3:=fz_ BK101 3
    go_wp2
    refine bodyPost_ret (results_ct rfl _ _ gb101 86 #[.bool true,.bool false,.bool false,.bool true] (0,0) _ rfl (by (with_reducible repeat (first|refine blk_drewN ?_ _|refine blk_drew ?_|refine blk_alloc ?_ _));refine blk_put (cs:=#[.bool true,.bool false,.bool false,.bool false]) ?_ 3 _ rfl;(with_reducible repeat (first|refine blk_drewN ?_ _|refine blk_drew ?_|refine blk_alloc ?_ _));refine blk_put (cs:=#[.bool true,.bool false,.bool false,.bool false]) ?_ 2 _ rfl;(with_reducible repeat (first|refine blk_drewN ?_ _|refine blk_drew ?_|refine blk_alloc ?_ _));refine blk_put (cs:=#[.bool true,.bool false,.bool false,.bool false]) ?_ 1 _ rfl;(with_reducible repeat (first|refine blk_drewN ?_ _|refine blk_drew ?_|refine blk_alloc ?_ _));refine blk_put (cs:=#[.bool false,.bool false,.bool false,.bool false]) ?_ 0 _ rfl;(with_reducible repeat (first|refine blk_drewN ?_ _|refine blk_drew ?_|refine blk_alloc ?_ _));exact BK101.out) Tryz.underlying86 rfl (by kernel_rfl)) rfl ?_
    exact ⟨by first|rfl|(simp [errW_none,errW_some]<;>rfl)|(simp [*,errW_none,errW_some]<;>rfl),bl_ HB⟩
   ·replace c6:=Bool.eq_false_iff.mpr c6
    subst c6
    have H1:(if a0=2 then (some (true,true,true,true,true)) else (if a0=3 then (some (true,true,false,false,true)) else (if a0=4 then (some (true,true,false,true,true)) else (if a0=5 then (some (false,true,true,true,true)) else (if a0=8 then (some (true,false,false,false,true)) else (if a0=9 then (some (false,true,false,false,true)) else (some (false,false,false,false,false))))))))=some (r1,r2,r3,r4,r5):=by rw [if_neg (show ¬ (false=true) by decide)] at H;exact H
    clear H
    have H:=H1
    clear H1
    by_cases c8:a0=2
    ·rw [if_pos c8] at H
     have c8b0:(a0 == 2)=true:=beq_iff_eq.mpr c8
     have c8b1:(a0 != 2)=false:=bne_eq_false_iff_eq.mpr c8
     clear c8
     simp only [Option.some.injEq,Prod.mk.injEq] at H
     obtain ⟨rfl,rfl,rfl,rfl,rfl⟩:=H
     have hcz9_0:=ck_ BK101 0
     have hcz9_1:=ck_ BK101 1
     have hcz9_2:=ck_ BK101 2
     have hcz9_3:=ck_ BK101 3
     have hfz9_0:=fz_ BK101 0
     have hfz9_1:=fz_ BK101 1
     have hfz9_2:=fz_ BK101 2
     have hfz9_3:=fz_ BK101 3
     go_wp2
     refine bodyPost_ret (results_ct rfl _ _ gb101 86 #[.bool true,.bool true,.bool true,.bool true] (0,0) _ rfl (by (with_reducible repeat (first|refine blk_drewN ?_ _|refine blk_drew ?_|refine blk_alloc ?_ _));refine blk_put (cs:=#[.bool true,.bool true,.bool true,.bool false]) ?_ 3 _ rfl;(with_reducible repeat (first|refine blk_drewN ?_ _|refine blk_drew ?_|refine blk_alloc ?_ _));refine blk_put (cs:=#[.bool true,.bool true,.bool false,.bool false]) ?_ 2 _ rfl;(with_reducible repeat (first|refine blk_drewN ?_ _|refine blk_drew ?_|refine blk_alloc ?_ _));refine blk_put (cs:=#[.bool true,.bool false,.bool false,.bool false]) ?_ 1 _ rfl;(with_reducible repeat (first|refine blk_drewN ?_ _|refine blk_drew ?_|refine blk_alloc ?_ _));refine blk_put (cs:=#[.bool false,.bool false,.bool false,.bool false]) ?_ 0 _ rfl;(with_reducible repeat (first|refine blk_drewN ?_ _|refine blk_drew ?_|refine blk_alloc ?_ _));exact BK101.out) Tryz.underlying86 rfl (by kernel_rfl)) rfl ?_
     exact ⟨by first|rfl|(simp [errW_none,errW_some]<;>rfl)|(simp [*,errW_none,errW_some]<;>rfl),bl_ HB⟩
    ·rw [if_neg c8] at H
     have c8b0:(a0 == 2)=false:=beq_eq_false_iff_ne.mpr c8
     have c8b1:(a0 != 2)=true:=bne_iff_ne.mpr c8
     by_cases c10:a0=3
     ·rw [if_pos c10] at H
      have c10b0:(a0 == 3)=true:=beq_iff_eq.mpr c10
      have c10b1:(a0 != 3)=false:=bne_eq_false_iff_eq.mpr c10
      clear c10
      simp only [Option.some.injEq,Prod.mk.injEq] at H
      obtain ⟨rfl,rfl,rfl,rfl,rfl⟩:=H
      have hcz11_0:=ck_ BK101 0
      have hcz11_1:=ck_ BK101 1
      have hcz11_2:=ck_ BK101 2
      have hcz11_3:=ck_ BK101 3
      have hfz11_0:=fz_ BK101 0
      have hfz11_1:=fz_ BK101 1
      have hfz11_2:=fz_ BK101 2
      have hfz11_3:=fz_ BK101 3
      go_wp2
      refine bodyPost_ret (results_ct rfl _ _ gb101 86 #[.bool true,.bool true,.bool false,.bool false] (0,0) _ rfl (by (with_reducible repeat (first|refine blk_drewN ?_ _|refine blk_drew ?_|refine blk_alloc ?_ _));refine blk_put (cs:=#[.bool true,.bool true,.bool false,.bool false]) ?_ 3 _ rfl;(with_reducible repeat (first|refine blk_drewN ?_ _|refine blk_drew ?_|refine blk_alloc ?_ _));refine blk_put (cs:=#[.bool true,.bool true,.bool false,.bool false]) ?_ 2 _ rfl;(with_reducible repeat (first|refine blk_drewN ?_ _|refine blk_drew ?_|refine blk_alloc ?_ _));refine blk_put (cs:=#[.bool true,.bool false,.bool false,.bool false]) ?_ 1 _ rfl;(with_reducible repeat (first|refine blk_drewN ?_ _|refine blk_drew ?_|refine blk_alloc ?_ _));refine blk_put (cs:=#[.bool false,.bool false,.bool false,.bool false]) ?_ 0 _ rfl;(with_reducible repeat (first|refine blk_drewN ?_ _|refine blk_drew ?_|refine blk_alloc ?_ _));exact BK101.out) Tryz.underlying86 rfl (by kernel_rfl)) rfl ?_
      exact ⟨by first|rfl|(simp [errW_none,errW_some]<;>rfl)|(simp [*,errW_none,errW_some]<;>rfl),bl_ HB⟩
     ·rw [if_neg c10] at H
      have c10b0:(a0 == 3)=false:=beq_eq_false_iff_ne.mpr c10
      have c10b1:(a0 != 3)=true:=bne_iff_ne.mpr c10
      by_cases c12:a0=4
      ·rw [if_pos c12] at H
       have c12b0:(a0 == 4)=true:=beq_iff_eq.mpr c12
       have c12b1:(a0 != 4)=false:=bne_eq_false_iff_eq.mpr c12
       clear c12
       simp only [Option.some.injEq,Prod.mk.injEq] at H
       obtain ⟨rfl,rfl,rfl,rfl,rfl⟩:=H
       have hcz13_0:=ck_ BK101 0
       have hcz13_1:=ck_ BK101 1
       have hcz13_2:=ck_ BK101 2
       have hcz13_3:=ck_ BK101 3
       have hfz13_0:=fz_ BK101 0
       have hfz13_1:=fz_ BK101 1
       have hfz13_2:=fz_ BK101 2
       have hfz13_3:=fz_ BK101 3
       go_wp2
       refine bodyPost_ret (results_ct rfl _ _ gb101 86 #[.bool true,.bool true,.bool false,.bool true] (0,0) _ rfl (by (with_reducible repeat (first|refine blk_drewN ?_ _|refine blk_drew ?_|refine blk_alloc ?_ _));refine blk_put (cs:=#[.bool true,.bool true,.bool false,.bool false]) ?_ 3 _ rfl;(with_reducible repeat (first|refine blk_drewN ?_ _|refine blk_drew ?_|refine blk_alloc ?_ _));refine blk_put (cs:=#[.bool true,.bool true,.bool false,.bool false]) ?_ 2 _ rfl;(with_reducible repeat (first|refine blk_drewN ?_ _|refine blk_drew ?_|refine blk_alloc ?_ _));refine blk_put (cs:=#[.bool true,.bool false,.bool false,.bool false]) ?_ 1 _ rfl;(with_reducible repeat (first|refine blk_drewN ?_ _|refine blk_drew ?_|refine blk_alloc ?_ _));refine blk_put (cs:=#[.bool false,.bool false,.bool false,.bool false]) ?_ 0 _ rfl;(with_reducible repeat (first|refine blk_drewN ?_ _|refine blk_drew ?_|refine blk_alloc ?_ _));exact BK101.out) Tryz.underlying86 rfl (by kernel_rfl)) rfl ?_
       exact ⟨by first|rfl|(simp [errW_none,errW_some]<;>rfl)|(simp [*,errW_none,errW_some]<;>rfl),bl_ HB⟩
      ·rw [if_neg c12] at H
       have c12b0:(a0 == 4)=false:=beq_eq_false_iff_ne.mpr c12
       have c12b1:(a0 != 4)=true:=bne_iff_ne.mpr c12
       by_cases c14:a0=5
       ·rw [if_pos c14] at H
        have c14b0:(a0 == 5)=true:=beq_iff_eq.mpr c14
        have c14b1:(a0 != 5)=false:=bne_eq_false_iff_eq.mpr c14
        clear c14
        simp only [Option.some.injEq,Prod.mk.injEq] at H
        obtain ⟨rfl,rfl,rfl,rfl,rfl⟩:=H
        have hcz15_0:=ck_ BK101 0
        have hcz15_1:=ck_ BK101 1
        have hcz15_2:=ck_ BK101 2
        have hcz15_3:=ck_ BK101 3
        have hfz15_0:=fz_ BK101 0
        have hfz15_1:=fz_ BK101 1
        have hfz15_2:=fz_ BK101 2
        have hfz15_3:=fz_ BK101 3
        go_wp2
        refine bodyPost_ret (results_ct rfl _ _ gb101 86 #[.bool false,.bool true,.bool true,.bool true] (0,0) _ rfl (by (with_reducible repeat (first|refine blk_drewN ?_ _|refine blk_drew ?_|refine blk_alloc ?_ _));refine blk_put (cs:=#[.bool false,.bool true,.bool true,.bool false]) ?_ 3 _ rfl;(with_reducible repeat (first|refine blk_drewN ?_ _|refine blk_drew ?_|refine blk_alloc ?_ _));refine blk_put (cs:=#[.bool false,.bool true,.bool false,.bool false]) ?_ 2 _ rfl;(with_reducible repeat (first|refine blk_drewN ?_ _|refine blk_drew ?_|refine blk_alloc ?_ _));refine blk_put (cs:=#[.bool false,.bool false,.bool false,.bool false]) ?_ 1 _ rfl;(with_reducible repeat (first|refine blk_drewN ?_ _|refine blk_drew ?_|refine blk_alloc ?_ _));refine blk_put (cs:=#[.bool false,.bool false,.bool false,.bool false]) ?_ 0 _ rfl;(with_reducible repeat (first|refine blk_drewN ?_ _|refine blk_drew ?_|refine blk_alloc ?_ _));exact BK101.out) Tryz.underlying86 rfl (by kernel_rfl)) rfl ?_
        exact ⟨by first|rfl|(simp [errW_none,errW_some]<;>rfl)|(simp [*,errW_none,errW_some]<;>rfl),bl_ HB⟩
       ·rw [if_neg c14] at H
        have c14b0:(a0 == 5)=false:=beq_eq_false_iff_ne.mpr c14
        have c14b1:(a0 != 5)=true:=bne_iff_ne.mpr c14
        by_cases c16:a0=8
        ·rw [if_pos c16] at H
         have c16b0:(a0 == 8)=true:=beq_iff_eq.mpr c16
         have c16b1:(a0 != 8)=false:=bne_eq_false_iff_eq.mpr c16
         clear c16
         simp only [Option.some.injEq,Prod.mk.injEq] at H
         obtain ⟨rfl,rfl,rfl,rfl,rfl⟩:=H
         have hcz17_0:=ck_ BK101 0
         have hcz17_1:=ck_ BK101 1
         have hcz17_2:=ck_ BK101 2
         have hcz17_3:=ck_ BK101 3
         have hfz17_0:=fz_ BK101 0
         have hfz17_1:=fz_ BK101 1
         have hfz17_2:=fz_ BK101 2
         have hfz17_3:=fz_ BK101 3
         go_wp2
         refine bodyPost_ret (results_ct rfl _ _ gb101 86 #[.bool true,.bool false,.bool false,.bool false] (0,0) _ rfl (by (with_reducible repeat (first|refine blk_drewN ?_ _|refine blk_drew ?_|refine blk_alloc ?_ _));refine blk_put (cs:=#[.bool true,.bool false,.bool false,.bool false]) ?_ 3 _ rfl;(with_reducible repeat (first|refine blk_drewN ?_ _|refine blk_drew ?_|refine blk_alloc ?_ _));refine blk_put (cs:=#[.bool true,.bool false,.bool false,.bool false]) ?_ 2 _ rfl;(with_reducible repeat (first|refine blk_drewN ?_ _|refine blk_drew ?_|refine blk_alloc ?_ _));refine blk_put (cs:=#[.bool true,.bool false,.bool false,.bool false]) ?_ 1 _ rfl;(with_reducible repeat (first|refine blk_drewN ?_ _|refine blk_drew ?_|refine blk_alloc ?_ _));refine blk_put (cs:=#[.bool false,.bool false,.bool false,.bool false]) ?_ 0 _ rfl;(with_reducible repeat (first|refine blk_drewN ?_ _|refine blk_drew ?_|refine blk_alloc ?_ _));exact BK101.out) Tryz.underlying86 rfl (by kernel_rfl)) rfl ?_
         exact ⟨by first|rfl|(simp [errW_none,errW_some]<;>rfl)|(simp [*,errW_none,errW_some]<;>rfl),bl_ HB⟩
        ·rw [if_neg c16] at H
         have c16b0:(a0 == 8)=false:=beq_eq_false_iff_ne.mpr c16
         have c16b1:(a0 != 8)=true:=bne_iff_ne.mpr c16
         by_cases c18:a0=9
         ·rw [if_pos c18] at H
          have c18b0:(a0 == 9)=true:=beq_iff_eq.mpr c18
          have c18b1:(a0 != 9)=false:=bne_eq_false_iff_eq.mpr c18
          clear c18
          simp only [Option.some.injEq,Prod.mk.injEq] at H
          obtain ⟨rfl,rfl,rfl,rfl,rfl⟩:=H
          have hcz19_0:=ck_ BK101 0
          have hcz19_1:=ck_ BK101 1
          have hcz19_2:=ck_ BK101 2
          have hcz19_3:=ck_ BK101 3
          have hfz19_0:=fz_ BK101 0
          have hfz19_1:=fz_ BK101 1
          have hfz19_2:=fz_ BK101 2
          have hfz19_3:=fz_ BK101 3
          go_wp2
          refine bodyPost_ret (results_ct rfl _ _ gb101 86 #[.bool false,.bool true,.bool false,.bool false] (0,0) _ rfl (by (with_reducible repeat (first|refine blk_drewN ?_ _|refine blk_drew ?_|refine blk_alloc ?_ _));refine blk_put (cs:=#[.bool false,.bool true,.bool false,.bool false]) ?_ 3 _ rfl;(with_reducible repeat (first|refine blk_drewN ?_ _|refine blk_drew ?_|refine blk_alloc ?_ _));refine blk_put (cs:=#[.bool false,.bool true,.bool false,.bool false]) ?_ 2 _ rfl;(with_reducible repeat (first|refine blk_drewN ?_ _|refine blk_drew ?_|refine blk_alloc ?_ _));refine blk_put (cs:=#[.bool false,.bool false,.bool false,.bool false]) ?_ 1 _ rfl;(with_reducible repeat (first|refine blk_drewN ?_ _|refine blk_drew ?_|refine blk_alloc ?_ _));refine blk_put (cs:=#[.bool false,.bool false,.bool false,.bool false]) ?_ 0 _ rfl;(with_reducible repeat (first|refine blk_drewN ?_ _|refine blk_drew ?_|refine blk_alloc ?_ _));exact BK101.out) Tryz.underlying86 rfl (by kernel_rfl)) rfl ?_
          exact ⟨by first|rfl|(simp [errW_none,errW_some]<;>rfl)|(simp [*,errW_none,errW_some]<;>rfl),bl_ HB⟩
         ·rw [if_neg c18] at H
          have c18b0:(a0 == 9)=false:=beq_eq_false_iff_ne.mpr c18
          have c18b1:(a0 != 9)=true:=bne_iff_ne.mpr c18
          simp only [Option.some.injEq,Prod.mk.injEq] at H
          obtain ⟨rfl,rfl,rfl,rfl,rfl⟩:=H
          have hcz20_0:=ck_ BK101 0
          have hcz20_1:=ck_ BK101 1
          have hcz20_2:=ck_ BK101 2
          have hcz20_3:=ck_ BK101 3
          have hfz20_0:=fz_ BK101 0
          have hfz20_1:=fz_ BK101 1
          have hfz20_2:=fz_ BK101 2
          have hfz20_3:=fz_ BK101 3
          go_wp2
          refine bodyPost_ret (results_ct rfl _ _ gb101 86 #[.bool false,.bool false,.bool false,.bool false] (0,0) _ rfl (by (with_reducible repeat (first|refine blk_drewN ?_ _|refine blk_drew ?_|refine blk_alloc ?_ _));refine blk_put (cs:=#[.bool false,.bool false,.bool false,.bool false]) ?_ 3 _ rfl;(with_reducible repeat (first|refine blk_drewN ?_ _|refine blk_drew ?_|refine blk_alloc ?_ _));refine blk_put (cs:=#[.bool false,.bool false,.bool false,.bool false]) ?_ 2 _ rfl;(with_reducible repeat (first|refine blk_drewN ?_ _|refine blk_drew ?_|refine blk_alloc ?_ _));refine blk_put (cs:=#[.bool false,.bool false,.bool false,.bool false]) ?_ 1 _ rfl;(with_reducible repeat (first|refine blk_drewN ?_ _|refine blk_drew ?_|refine blk_alloc ?_ _));refine blk_put (cs:=#[.bool false,.bool false,.bool false,.bool false]) ?_ 0 _ rfl;(with_reducible repeat (first|refine blk_drewN ?_ _|refine blk_drew ?_|refine blk_alloc ?_ _));exact BK101.out) Tryz.underlying86 rfl (by kernel_rfl)) rfl ?_
          exact ⟨by first|rfl|(simp [errW_none,errW_some]<;>rfl)|(simp [*,errW_none,errW_some]<;>rfl),bl_ HB⟩

/-! ### code_reg: function 96 -/
def code_reg.f (a0:Int):Option (Bool):=(code_within.f a0 1 4096).bind fun t102=>(some t102)
set_option maxHeartbeats 8000000 in
set_option maxRecDepth 100000 in
theorem code_reg.calls (a0:Int) (r:Bool) (w:World) (h:code_reg.f a0=some r) :
  Calls Tryz.prog 96 #[.int .i64 a0] w fun e w'=>e=.returned (.bool r)∧Drawn0 w w':=by
 have H:((code_within.f a0 1 4096).bind fun t102=>(some t102))=some r:=h
 clear h
 replace H:=Option.bind_eq_some_iff.mp H
 obtain ⟨t102,A20,H⟩:=H
 replace H:(some t102)=some r:=H
 have A2:=ak_ A20
 clear A20
 obtain rfl:=Option.some.inj H
 go_enter Tryz.func96,Tryz.ntmps96
 go_wp2_with (first|((with_reducible refine gate_callee (f:=71) rfl ?_);refine goesL_ (some 4) rfl rfl Tryz.func71 (by kernel_rfl) rfl #[.int .i64 a0,.int .i64 1,.int .i64 4096] rfl (by (try simp only [List.map_toArray,List.map_cons,List.map_nil]);first|done|rfl|(simp only [List.length_drop,List.length_take];rfl)) ?_;(with_reducible refine (code_within.calls a0 1 4096 t102 _ A2.out).mono ?_);rintro e w' ⟨rfl,⟨nd,rfl⟩⟩;refine ⟨_,rfl,?_⟩))
 go_ret
 exact ⟨by first|rfl|(simp;done)|(simp [*];done),by repeat (first|exact Drawn0.refl _|apply Drawn0.step)⟩

/-! ### code_field: function 98 -/
def code_field.f (a0:Int) (a1:Bool):Option (Bool):=if a0=0 then (if a1=true then ((code_reg.f a0).bind fun t103=>(some t103)) else (some true)) else (if a1=true then ((code_reg.f a0).bind fun t104=>(some t104)) else (some false))
set_option maxHeartbeats 8000000 in
set_option maxRecDepth 100000 in
theorem code_field.calls (a0:Int) (a1:Bool) (r:Bool) (w:World) (h:code_field.f a0 a1=some r) :
  Calls Tryz.prog 98 #[.int .i64 a0,.bool a1] w fun e w'=>e=.returned (.bool r)∧Drawn0 w w':=by
 have H:(if a0=0 then (if a1=true then ((code_reg.f a0).bind fun t103=>(some t103)) else (some true)) else (if a1=true then ((code_reg.f a0).bind fun t104=>(some t104)) else (some false)))=some r:=h
 clear h
 by_cases c3:a0=0
 ·rw [if_pos c3] at H
  have c3b0:(a0 == 0)=true:=beq_iff_eq.mpr c3
  have c3b1:(a0 != 0)=false:=bne_eq_false_iff_eq.mpr c3
  clear c3
  by_cases c4:a1=true
  ·subst c4
   have H1:((code_reg.f a0).bind fun t103=>(some t103))=some r:=by rw [if_pos rfl] at H;exact H
   clear H
   have H:=H1
   clear H1
   replace H:=Option.bind_eq_some_iff.mp H
   obtain ⟨t103,A50,H⟩:=H
   replace H:(some t103)=some r:=H
   have A5:=ak_ A50
   clear A50
   obtain rfl:=Option.some.inj H
   go_enter Tryz.func98,Tryz.ntmps98
   go_wp2_with (first|(go_at_call 96;(with_reducible refine (code_reg.calls a0 t103 _ A5.out).mono ?_);rintro e w' ⟨rfl,⟨nd,rfl⟩⟩))
   go_ret
   exact ⟨by first|rfl|(simp;done)|(simp [*];done),by repeat (first|exact Drawn0.refl _|apply Drawn0.step)⟩
  ·replace c4:=Bool.eq_false_iff.mpr c4
   subst c4
   have H1:(some true)=some r:=by rw [if_neg (show ¬ (false=true) by decide)] at H;exact H
   clear H
   have H:=H1
   clear H1
   obtain rfl:=Option.some.inj H
   go_enter Tryz.func98,Tryz.ntmps98
   go_wp2
   go_ret
   exact ⟨by first|rfl|(simp;done)|(simp [*];done),by repeat (first|exact Drawn0.refl _|apply Drawn0.step)⟩
 ·rw [if_neg c3] at H
  have c3b0:(a0 == 0)=false:=beq_eq_false_iff_ne.mpr c3
  have c3b1:(a0 != 0)=true:=bne_iff_ne.mpr c3
  by_cases c6:a1=true
  ·subst c6
   have H1:((code_reg.f a0).bind fun t104=>(some t104))=some r:=by rw [if_pos rfl] at H;exact H
   clear H
   have H:=H1
   clear H1
   replace H:=Option.bind_eq_some_iff.mp H
   obtain ⟨t104,A70,H⟩:=H
   replace H:(some t104)=some r:=H
   have A7:=ak_ A70
   clear A70
   obtain rfl:=Option.some.inj H
   go_enter Tryz.func98,Tryz.ntmps98
   go_wp2_with (first|(go_at_call 96;(with_reducible refine (code_reg.calls a0 t104 _ A7.out).mono ?_);rintro e w' ⟨rfl,⟨nd,rfl⟩⟩))
   go_ret
   exact ⟨by first|rfl|(simp;done)|(simp [*];done),by repeat (first|exact Drawn0.refl _|apply Drawn0.step)⟩
  ·replace c6:=Bool.eq_false_iff.mpr c6
   subst c6
   have H1:(some false)=some r:=by rw [if_neg (show ¬ (false=true) by decide)] at H;exact H
   clear H
   have H:=H1
   clear H1
   obtain rfl:=Option.some.inj H
   go_enter Tryz.func98,Tryz.ntmps98
   go_wp2
   go_ret
   exact ⟨by first|rfl|(simp;done)|(simp [*];done),by repeat (first|exact Drawn0.refl _|apply Drawn0.step)⟩

/-! ### word_Known: function 120 -/
def word_Known.f (a0:Int):Option (Bool):=if a0 ≥ 1 then (some (decide (a0≤14))) else (some false)
set_option maxHeartbeats 8000000 in
set_option maxRecDepth 100000 in
theorem word_Known.calls (a0:Int) (r:Bool) (w:World) (h:word_Known.f a0=some r) :
  Calls Tryz.prog 120 #[.int .i64 a0] w fun e w'=>e=.returned (.bool r)∧Drawn0 w w':=by
 have H:(if a0 ≥ 1 then (some (decide (a0≤14))) else (some false))=some r:=h
 clear h
 by_cases c2:a0 ≥ 1
 ·rw [if_pos c2] at H
  have c2b0:decide (1≤a0)=true:=decide_eq_true c2
  clear c2
  obtain rfl:=Option.some.inj H
  go_enter Tryz.func120,Tryz.ntmps120
  go_wp2
  go_ret
  exact ⟨by first|rfl|(simp;done)|(simp [*];done),by repeat (first|exact Drawn0.refl _|apply Drawn0.step)⟩
 ·rw [if_neg c2] at H
  have c2b0:decide (1≤a0)=false:=decide_eq_false c2
  clear c2
  obtain rfl:=Option.some.inj H
  go_enter Tryz.func120,Tryz.ntmps120
  go_wp2
  go_ret
  exact ⟨by first|rfl|(simp;done)|(simp [*];done),by repeat (first|exact Drawn0.refl _|apply Drawn0.step)⟩

/-! ### code_immediate: function 99 -/
def code_immediate.j0:Nat→Int→Int→Bool→Int→Int→Int→Int→Int→List Int→Bool→Bool→Bool→Bool→Option (Bool)
 | 0,_,_,_,_,_,_,_,_,_,_,_,_,_=>none
 | k+1,x2,x8,x14,x106000,x106001,x106002,x106003,x106004,x106005,x107000,x107001,x107002,x107003=>if x14=true then ((code_within.f x106004 (-2147483648) 2147483647).bind fun t108=>(some t108)) else (if x8=6 then ((code_within.f x106004 0 1048576).bind fun t109=>(some t109)) else (if x8=7 then ((code_within.f x106004 0 (wrap64 (x2 - 1))).bind fun t110=>(some t110)) else (if x107003=true then (some true) else (some (x106004 == 0)))))
def code_immediate.f (k:Nat) (a0_0:Int) (a0_1:Int) (a0_2:Int) (a0_3:Int) (a0_4:Int) (l0_5:List Int) (a1_0:Bool) (a1_1:Bool) (a1_2:Bool) (a1_3:Bool) (a2:Int):Option (Bool):=if a0_0=2 then ((word_Known.f a0_4).bind fun t107=>(some t107)) else (if a0_0=4 then (code_immediate.j0 k a2 a0_0 (a0_0 == 4) a0_0 a0_1 a0_2 a0_3 a0_4 l0_5 a1_0 a1_1 a1_2 a1_3) else (code_immediate.j0 k a2 a0_0 (a0_0 == 5) a0_0 a0_1 a0_2 a0_3 a0_4 l0_5 a1_0 a1_1 a1_2 a1_3))
set_option maxHeartbeats 8000000 in
set_option maxRecDepth 100000 in
theorem code_immediate.calls (k:Nat) (a0_0:Int) (a0_1:Int) (a0_2:Int) (a0_3:Int) (a0_4:Int) (A0_5:Option Addr) (c0_5:Nat) (l0_5:List Int) (a1_0:Bool) (a1_1:Bool) (a1_2:Bool) (a1_3:Bool) (a2:Int) (r:Bool) (w:World) (hr0_5:Kd.C (Kd.int .i64) w A0_5 l0_5.length l0_5) (hc0_5:l0_5.length≤c0_5) (h:code_immediate.f k a0_0 a0_1 a0_2 a0_3 a0_4 l0_5 a1_0 a1_1 a1_2 a1_3 a2=some r) :
  Calls Tryz.prog 99 #[.agg #[.int .i64 a0_0,.int .i64 a0_1,.int .i64 a0_2,.int .i64 a0_3,.int .i64 a0_4,.slice A0_5 l0_5.length c0_5],.agg #[.bool a1_0,.bool a1_1,.bool a1_2,.bool a1_3],.int .i64 a2] w fun e w'=>e=.returned (.bool r)∧Below w.heap.size w w':=by
 have hu45:=Tryz.underlying45
 have hu86:=Tryz.underlying86
 have HR0_5:=ak_ hr0_5
 have HC0_5:=ak_ hc0_5
 clear hr0_5 hc0_5
 have HB:=ak_ (Below.refl w.heap.size w)
 have H:(if a0_0=2 then ((word_Known.f a0_4).bind fun t107=>(some t107)) else (if a0_0=4 then (code_immediate.j0 k a2 a0_0 (a0_0 == 4) a0_0 a0_1 a0_2 a0_3 a0_4 l0_5 a1_0 a1_1 a1_2 a1_3) else (code_immediate.j0 k a2 a0_0 (a0_0 == 5) a0_0 a0_1 a0_2 a0_3 a0_4 l0_5 a1_0 a1_1 a1_2 a1_3)))=some r:=h
 clear h
 by_cases c4:a0_0=2
 ·rw [if_pos c4] at H
  have c4b0:(a0_0 == 2)=true:=beq_iff_eq.mpr c4
  have c4b1:(a0_0 != 2)=false:=bne_eq_false_iff_eq.mpr c4
  clear c4
  replace H:=Option.bind_eq_some_iff.mp H
  obtain ⟨t107,A50,H⟩:=H
  replace H:(some t107)=some r:=H
  have A5:=ak_ A50
  clear A50
  obtain rfl:=Option.some.inj H
  go_enter Tryz.func99,Tryz.ntmps99
  go_wp2_with (first|((with_reducible refine gate_dst (N:=3) rfl ?_);refine box_event ?hg (N:=3) ?hd (cs:=#[.int .i64 a0_0,.int .i64 a0_1,.int .i64 a0_2,.int .i64 a0_3,.int .i64 a0_4,.slice A0_5 l0_5.length c0_5]) (t:=45) ?hr ?_;(case hd=>rfl);(case hg=>rfl);(case hr=>first|(go_simp;done)|(go_simp;rfl));intro gb105 hg w6 hbox hb;have n0_:=ak_ (below_step (bl_ HB) hb);have n1_:=ak_ (hbox);have n2_:=ak_ ((by rw [hg];exact (below_size (bl_ HB)):w.heap.size≤gb105));have n3_:=ak_ ((by rw [hg];exact (below_size (bl_ HB)):w.heap.size≤gb105));clear HB;have HB:=n0_;have BK105:=n1_;have GW105:=n2_;have GE105:=n3_;clear n0_ n1_ n2_ n3_;clear hb hbox hg)|((with_reducible refine gate_dst (N:=4) rfl ?_);refine box_event ?hg (N:=4) ?hd (cs:=#[.bool a1_0,.bool a1_1,.bool a1_2,.bool a1_3]) (t:=86) ?hr ?_;(case hd=>rfl);(case hg=>rfl);(case hr=>first|(go_simp;done)|(go_simp;rfl));intro gb106 hg w7 hbox hb;have n0_:=ak_ (blk_below (g:=gb105) (o:=.cells #[.int .i64 a0_0,.int .i64 a0_1,.int .i64 a0_2,.int .i64 a0_3,.int .i64 a0_4,.slice A0_5 l0_5.length c0_5] 45 (0,0)) (bk_ BK105) hb);have n1_:=ak_ (below_step (bl_ HB) hb);have n2_:=ak_ (hbox);have n3_:=ak_ ((by rw [hg];exact (below_size (bl_ HB)):w.heap.size≤gb106));have n4_:=ak_ ((by rw [hg];exact (below_size (bl_ HB)):w.heap.size≤gb106));have n5_:=ak_ ((by rw [hg];exact Nat.ne_of_lt (blk_lt (g:=gb105) (o:=.cells #[.int .i64 a0_0,.int .i64 a0_1,.int .i64 a0_2,.int .i64 a0_3,.int .i64 a0_4,.slice A0_5 l0_5.length c0_5] 45 (0,0)) (bk_ BK105)):gb105≠gb106));have n6_:=ak_ ((by rw [hg];exact Nat.ne_of_gt (blk_lt (g:=gb105) (o:=.cells #[.int .i64 a0_0,.int .i64 a0_1,.int .i64 a0_2,.int .i64 a0_3,.int .i64 a0_4,.slice A0_5 l0_5.length c0_5] 45 (0,0)) (bk_ BK105)):gb106≠gb105));clear BK105;clear HB;have BK105:=n0_;have HB:=n1_;have BK106:=n2_;have GW106:=n3_;have GE106:=n4_;have NB105_106:=n5_;have NB106_105:=n6_;clear n0_ n1_ n2_ n3_ n4_ n5_ n6_;clear hb hbox hg;have hnb8:=NB105_106.out;have hnc8:=NB106_105.out;have hcz9_0:=ck_ BK105 0;have hcz9_1:=ck_ BK105 1;have hcz9_2:=ck_ BK105 2;have hcz9_3:=ck_ BK105 3;have hcz9_4:=ck_ BK105 4;have hcz9_5:=ck_ BK105 5;have hfz9_0:=fz_ BK105 0;have hfz9_1:=fz_ BK105 1;have hfz9_2:=fz_ BK105 2;have hfz9_3:=fz_ BK105 3;have hfz9_4:=fz_ BK105 4;have hfz9_5:=fz_ BK105 5)|((with_reducible refine gate_callee (f:=120) rfl ?_);refine goesL_ (some 13) rfl rfl Tryz.func120 (by kernel_rfl) rfl #[.int .i64 a0_4] rfl (by (try simp only [List.map_toArray,List.map_cons,List.map_nil]);first|done|rfl|(simp only [List.length_drop,List.length_take];rfl)) ?_;(with_reducible refine (word_Known.calls a0_4 t107 _ A5.out).mono ?_);rintro e w' ⟨rfl,⟨nd,rfl⟩⟩;refine ⟨_,rfl,?_⟩))
  go_ret
  exact ⟨by first|rfl|(simp [errW_none,errW_some]<;>rfl)|(simp [*,errW_none,errW_some]<;>rfl),bl_ HB⟩
 ·rw [if_neg c4] at H
  have c4b0:(a0_0 == 2)=false:=beq_eq_false_iff_ne.mpr c4
  have c4b1:(a0_0 != 2)=true:=bne_iff_ne.mpr c4
  have HC10:=ak_ H
  clear H
  go_enter Tryz.func99,Tryz.ntmps99
  go_upto_if 14 with (first|((with_reducible refine gate_dst (N:=3) rfl ?_);refine box_event ?hg (N:=3) ?hd (cs:=#[.int .i64 a0_0,.int .i64 a0_1,.int .i64 a0_2,.int .i64 a0_3,.int .i64 a0_4,.slice A0_5 l0_5.length c0_5]) (t:=45) ?hr ?_;(case hd=>rfl);(case hg=>rfl);(case hr=>first|(go_simp;done)|(go_simp;rfl));intro gb105 hg w11 hbox hb;have n0_:=ak_ (below_step (bl_ HB) hb);have n1_:=ak_ (hbox);have n2_:=ak_ ((by rw [hg];exact (below_size (bl_ HB)):w.heap.size≤gb105));have n3_:=ak_ ((by rw [hg];exact (below_size (bl_ HB)):w.heap.size≤gb105));clear HB;have HB:=n0_;have BK105:=n1_;have GW105:=n2_;have GE105:=n3_;clear n0_ n1_ n2_ n3_;clear hb hbox hg)|((with_reducible refine gate_dst (N:=4) rfl ?_);refine box_event ?hg (N:=4) ?hd (cs:=#[.bool a1_0,.bool a1_1,.bool a1_2,.bool a1_3]) (t:=86) ?hr ?_;(case hd=>rfl);(case hg=>rfl);(case hr=>first|(go_simp;done)|(go_simp;rfl));intro gb106 hg w12 hbox hb;have n0_:=ak_ (blk_below (g:=gb105) (o:=.cells #[.int .i64 a0_0,.int .i64 a0_1,.int .i64 a0_2,.int .i64 a0_3,.int .i64 a0_4,.slice A0_5 l0_5.length c0_5] 45 (0,0)) (bk_ BK105) hb);have n1_:=ak_ (below_step (bl_ HB) hb);have n2_:=ak_ (hbox);have n3_:=ak_ ((by rw [hg];exact (below_size (bl_ HB)):w.heap.size≤gb106));have n4_:=ak_ ((by rw [hg];exact (below_size (bl_ HB)):w.heap.size≤gb106));have n5_:=ak_ ((by rw [hg];exact Nat.ne_of_lt (blk_lt (g:=gb105) (o:=.cells #[.int .i64 a0_0,.int .i64 a0_1,.int .i64 a0_2,.int .i64 a0_3,.int .i64 a0_4,.slice A0_5 l0_5.length c0_5] 45 (0,0)) (bk_ BK105)):gb105≠gb106));have n6_:=ak_ ((by rw [hg];exact Nat.ne_of_gt (blk_lt (g:=gb105) (o:=.cells #[.int .i64 a0_0,.int .i64 a0_1,.int .i64 a0_2,.int .i64 a0_3,.int .i64 a0_4,.slice A0_5 l0_5.length c0_5] 45 (0,0)) (bk_ BK105)):gb106≠gb105));clear BK105;clear HB;have BK105:=n0_;have HB:=n1_;have BK106:=n2_;have GW106:=n3_;have GE106:=n4_;have NB105_106:=n5_;have NB106_105:=n6_;clear n0_ n1_ n2_ n3_ n4_ n5_ n6_;clear hb hbox hg;have hnb13:=NB105_106.out;have hnc13:=NB106_105.out;have hcz14_0:=ck_ BK105 0;have hcz14_1:=ck_ BK105 1;have hcz14_2:=ck_ BK105 2;have hcz14_3:=ck_ BK105 3;have hcz14_4:=ck_ BK105 4;have hcz14_5:=ck_ BK105 5;have hfz14_0:=fz_ BK105 0;have hfz14_1:=fz_ BK105 1;have hfz14_2:=fz_ BK105 2;have hfz14_3:=fz_ BK105 3;have hfz14_4:=fz_ BK105 4;have hfz14_5:=fz_ BK105 5))
  (try simp only [Act.put,pa_,pb_,pc_])
  go_cut [14] (fun v14 wc=>∃ (kq:Nat) (x14_9:Bool),v14=.bool x14_9∧Aside0 (code_immediate.j0 kq a2 a0_0 x14_9 a0_0 a0_1 a0_2 a0_3 a0_4 l0_5 a1_0 a1_1 a1_2 a1_3=some r)∧Aside0 (kq≤k)∧Aside0 (wc.heap[gb105]?=some (.cells #[.int .i64 a0_0,.int .i64 a0_1,.int .i64 a0_2,.int .i64 a0_3,.int .i64 a0_4,(.slice A0_5 l0_5.length c0_5)] 45 (0,0)))∧Aside0 (wc.heap[gb106]?=some (.cells #[.bool a1_0,.bool a1_1,.bool a1_2,.bool a1_3] 86 (0,0)))∧Aside0 (Below w.heap.size w wc))
  case first =>
   have H:=HC10.out
   clear HC10
   by_cases c15:a0_0=4
   ·rw [if_pos c15] at H
    have c15b0:(a0_0 == 4)=true:=beq_iff_eq.mpr c15
    have c15b1:(a0_0 != 4)=false:=bne_eq_false_iff_eq.mpr c15
    clear c15
    (first|rw [c15b0]|(simp only [i64_w,i32_w];rw [c15b0])|skip)
    have H':=ak_ H
    clear H
    go_wp2
    go_meet
    case rel=>exact ⟨_,((a0_0 == 4)),(by first|rfl|(simp;done)|(simp [*];done)),H',⟨by first|omega|exact Nat.le_refl _⟩,⟨bk_ BK105⟩,⟨bk_ BK106⟩,⟨bl_ HB⟩⟩
   ·rw [if_neg c15] at H
    have c15b0:(a0_0 == 4)=false:=beq_eq_false_iff_ne.mpr c15
    have c15b1:(a0_0 != 4)=true:=bne_iff_ne.mpr c15
    (first|rw [c15b0]|(simp only [i64_w,i32_w];rw [c15b0])|skip)
    have H':=ak_ H
    clear H
    go_wp2
    go_meet
    case rel=>exact ⟨_,((a0_0 == 5)),(by first|rfl|(simp;done)|(simp [*];done)),H',⟨by first|omega|exact Nat.le_refl _⟩,⟨bk_ BK105⟩,⟨bk_ BK106⟩,⟨bl_ HB⟩⟩
  case rest =>
   clear HC10
   obtain ⟨kq,x14_9,rfl,HA,HJ9,BK105,BK106,HB⟩:=hcut
   cases kq with
   | zero=>exact absurd HA.out (by simp [code_immediate.j0])
   | succ kj9 =>
    have H:=HA.out
    clear HA
    simp only [code_immediate.j0] at H
    by_cases c16:x14_9=true
    ·subst c16
     have H1:((code_within.f a0_4 (-2147483648) 2147483647).bind fun t108=>(some t108))=some r:=by rw [if_pos rfl] at H;exact H
     clear H
     have H:=H1
     clear H1
     replace H:=Option.bind_eq_some_iff.mp H
     obtain ⟨t108,A170,H⟩:=H
     replace H:(some t108)=some r:=H
     have A17:=ak_ A170
     clear A170
     obtain rfl:=Option.some.inj H
     have hnb18:=NB105_106.out
     have hnc18:=NB106_105.out
     have hcz19_0:=ck_ BK105 0
     have hcz19_1:=ck_ BK105 1
     have hcz19_2:=ck_ BK105 2
     have hcz19_3:=ck_ BK105 3
     have hcz19_4:=ck_ BK105 4
     have hcz19_5:=ck_ BK105 5
     have hfz19_0:=fz_ BK105 0
     have hfz19_1:=fz_ BK105 1
     have hfz19_2:=fz_ BK105 2
     have hfz19_3:=fz_ BK105 3
     have hfz19_4:=fz_ BK105 4
     have hfz19_5:=fz_ BK105 5
     go_wp2_with (first|((with_reducible refine gate_callee (f:=71) rfl ?_);refine goesL_ (some 19) rfl rfl Tryz.func71 (by kernel_rfl) rfl #[.int .i64 a0_4,.int .i64 (-2147483648),.int .i64 2147483647] rfl (by (try simp only [List.map_toArray,List.map_cons,List.map_nil]);first|done|rfl|(simp only [List.length_drop,List.length_take];rfl)) ?_;(with_reducible refine (code_within.calls a0_4 (-2147483648) 2147483647 t108 _ A17.out).mono ?_);rintro e w' ⟨rfl,⟨nd,rfl⟩⟩;refine ⟨_,rfl,?_⟩))
     go_ret
     exact ⟨by first|rfl|(simp [errW_none,errW_some]<;>rfl)|(simp [*,errW_none,errW_some]<;>rfl),bl_ HB⟩
    ·replace c16:=Bool.eq_false_iff.mpr c16
     subst c16
     have H1:(if a0_0=6 then ((code_within.f a0_4 0 1048576).bind fun t109=>(some t109)) else (if a0_0=7 then ((code_within.f a0_4 0 (wrap64 (a2 - 1))).bind fun t110=>(some t110)) else (if a1_3=true then (some true) else (some (a0_4 == 0)))))=some r:=by rw [if_neg (show ¬ (false=true) by decide)] at H;exact H
     clear H
     have H:=H1
     clear H1
     by_cases c20:a0_0=6
     ·rw [if_pos c20] at H
      have c20b0:(a0_0 == 6)=true:=beq_iff_eq.mpr c20
      have c20b1:(a0_0 != 6)=false:=bne_eq_false_iff_eq.mpr c20
      clear c20
      replace H:=Option.bind_eq_some_iff.mp H
      obtain ⟨t109,A210,H⟩:=H
      replace H:(some t109)=some r:=H
      have A21:=ak_ A210
      clear A210
      obtain rfl:=Option.some.inj H
      have hnb22:=NB105_106.out
      have hnc22:=NB106_105.out
      have hcz23_0:=ck_ BK105 0
      have hcz23_1:=ck_ BK105 1
      have hcz23_2:=ck_ BK105 2
      have hcz23_3:=ck_ BK105 3
      have hcz23_4:=ck_ BK105 4
      have hcz23_5:=ck_ BK105 5
      have hfz23_0:=fz_ BK105 0
      have hfz23_1:=fz_ BK105 1
      have hfz23_2:=fz_ BK105 2
      have hfz23_3:=fz_ BK105 3
      have hfz23_4:=fz_ BK105 4
      have hfz23_5:=fz_ BK105 5
      go_wp2_with (first|((with_reducible refine gate_callee (f:=71) rfl ?_);refine goesL_ (some 24) rfl rfl Tryz.func71 (by kernel_rfl) rfl #[.int .i64 a0_4,.int .i64 0,.int .i64 1048576] rfl (by (try simp only [List.map_toArray,List.map_cons,List.map_nil]);first|done|rfl|(simp only [List.length_drop,List.length_take];rfl)) ?_;(with_reducible refine (code_within.calls a0_4 0 1048576 t109 _ A21.out).mono ?_);rintro e w' ⟨rfl,⟨nd,rfl⟩⟩;refine ⟨_,rfl,?_⟩))
      go_ret
      exact ⟨by first|rfl|(simp [errW_none,errW_some]<;>rfl)|(simp [*,errW_none,errW_some]<;>rfl),bl_ HB⟩
     ·rw [if_neg c20] at H
      have c20b0:(a0_0 == 6)=false:=beq_eq_false_iff_ne.mpr c20
      have c20b1:(a0_0 != 6)=true:=bne_iff_ne.mpr c20
      by_cases c24:a0_0=7
      ·rw [if_pos c24] at H
       have c24b0:(a0_0 == 7)=true:=beq_iff_eq.mpr c24
       have c24b1:(a0_0 != 7)=false:=bne_eq_false_iff_eq.mpr c24
       clear c24
       replace H:=Option.bind_eq_some_iff.mp H
       obtain ⟨t110,A250,H⟩:=H
       replace H:(some t110)=some r:=H
       have A25:=ak_ A250
       clear A250
       obtain rfl:=Option.some.inj H
       have hnb26:=NB105_106.out
       have hnc26:=NB106_105.out
       have hcz27_0:=ck_ BK105 0
       have hcz27_1:=ck_ BK105 1
       have hcz27_2:=ck_ BK105 2
       have hcz27_3:=ck_ BK105 3
       have hcz27_4:=ck_ BK105 4
       have hcz27_5:=ck_ BK105 5
       have hfz27_0:=fz_ BK105 0
       have hfz27_1:=fz_ BK105 1
       have hfz27_2:=fz_ BK105 2
       have hfz27_3:=fz_ BK105 3
       have hfz27_4:=fz_ BK105 4
       have hfz27_5:=fz_ BK105 5
       go_wp2_with (first|((with_reducible refine gate_callee (f:=71) rfl ?_);refine goesL_ (some 31) rfl rfl Tryz.func71 (by kernel_rfl) rfl #[.int .i64 a0_4,.int .i64 0,.int .i64 (wrap64 (a2 - 1))] rfl (by (try simp only [List.map_toArray,List.map_cons,List.map_nil]);first|done|rfl|(simp only [List.length_drop,List.length_take];rfl)) ?_;(with_reducible refine (code_within.calls a0_4 0 (wrap64 (a2 - 1)) t110 _ A25.out).mono ?_);rintro e w' ⟨rfl,⟨nd,rfl⟩⟩;refine ⟨_,rfl,?_⟩))
       go_ret
       exact ⟨by first|rfl|(simp [errW_none,errW_some]<;>rfl)|(simp [*,errW_none,errW_some]<;>rfl),bl_ HB⟩
      ·rw [if_neg c24] at H
       have c24b0:(a0_0 == 7)=false:=beq_eq_false_iff_ne.mpr c24
       have c24b1:(a0_0 != 7)=true:=bne_iff_ne.mpr c24
       by_cases c28:a1_3=true
       ·subst c28
        have H1:(some true)=some r:=by rw [if_pos rfl] at H;exact H
        clear H
        have H:=H1
        clear H1
        obtain rfl:=Option.some.inj H
        have hnb29:=NB106_105.out
        have hnc29:=NB105_106.out
        have hcz30_0:=ck_ BK106 0
        have hcz30_1:=ck_ BK106 1
        have hcz30_2:=ck_ BK106 2
        have hcz30_3:=ck_ BK106 3
        have hfz30_0:=fz_ BK106 0
        have hfz30_1:=fz_ BK106 1
        have hfz30_2:=fz_ BK106 2
        have hfz30_3:=fz_ BK106 3
        go_wp2
        go_ret
        exact ⟨by first|rfl|(simp [errW_none,errW_some]<;>rfl)|(simp [*,errW_none,errW_some]<;>rfl),bl_ HB⟩
       ·replace c28:=Bool.eq_false_iff.mpr c28
        subst c28
        have H1:(some (a0_4 == 0))=some r:=by rw [if_neg (show ¬ (false=true) by decide)] at H;exact H
        clear H
        have H:=H1
        clear H1
        obtain rfl:=Option.some.inj H
        have hnb31:=NB106_105.out
        have hnc31:=NB105_106.out
        have hcz32_0:=ck_ BK106 0
        have hcz32_1:=ck_ BK106 1
        have hcz32_2:=ck_ BK106 2
        have hcz32_3:=ck_ BK106 3
        have hfz32_0:=fz_ BK106 0
        have hfz32_1:=fz_ BK106 1
        have hfz32_2:=fz_ BK106 2
        have hfz32_3:=fz_ BK106 3
        have hcz33_0:=ck_ BK105 0
        have hcz33_1:=ck_ BK105 1
        have hcz33_2:=ck_ BK105 2
        have hcz33_3:=ck_ BK105 3
        have hcz33_4:=ck_ BK105 4
        have hcz33_5:=ck_ BK105 5
        have hfz33_0:=fz_ BK105 0
        have hfz33_1:=fz_ BK105 1
        have hfz33_2:=fz_ BK105 2
        have hfz33_3:=fz_ BK105 3
        have hfz33_4:=fz_ BK105 4
        have hfz33_5:=fz_ BK105 5
        go_wp2
        go_ret
        exact ⟨by first|rfl|(simp [errW_none,errW_some]<;>rfl)|(simp [*,errW_none,errW_some]<;>rfl),bl_ HB⟩

