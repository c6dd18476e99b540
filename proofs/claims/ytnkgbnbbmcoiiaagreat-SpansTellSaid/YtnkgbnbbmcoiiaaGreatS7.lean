-- a text of the seat,by a program
import Derived.Test.YtnkgbnbbmcoiiaaGreatBk
import Derived.Test.YtnkgbnbbmcoiiaaGreatS0
import Derived.Test.YtnkgbnbbmcoiiaaGreatS2
import Derived.Test.YtnkgbnbbmcoiiaaGreatS6
namespace Go.Proofs.YtnkgbnbbmcoiiaaGreat.S
open Go.RowKit Go.Proofs.YtnkgbnbbmcoiiaaGreatW.PrintWords Go.Proofs.YtnkgbnbbmcoiiaaGreatW.PrintLast Go.Proofs.YtnkgbnbbmcoiiaaGreatW.PrintMore
attribute [local go_sem] max2_int min2_int max_two min_two max_three min_three max_four min_four   -- for this text's walks alone
set_option linter.unusedVariables false
set_option linter.unusedSimpArgs false

attribute [local go_sem high] eqA52
/-! ### swagelaw14_Few: function 37 -/
mutual
def swagelaw14_Few.l0:Nat→Int→Int→Int→List (S50)→Option (Bool)
 | 0,_,_,_,_=>none
 | k+1,x3,x4,x196000,x196001=>if x4<(x196001.length:Int) then (swagelaw14_Few.j1 k x3 x4 (decide (x4<100)) x196000 x196001) else (swagelaw14_Few.j1 k x3 x4 false x196000 x196001)
def swagelaw14_Few.j1:Nat→Int→Int→Bool→Int→List (S50)→Option (Bool)
 | 0,_,_,_,_,_=>none
 | k+1,x3,x4,x14,x196000,x196001=>if x14=true then (if 0≤x4 then (if x4<(x196001.length:Int) then (swagelaw14_Few.l1 k (wrap64 (x3+(((rd_T50 x196001 x4).f0).length:Int))) x4 0 x196000 x196001) else (none)) else (none)) else (if (x196001.length:Int)≤40 then (some (decide (x3≤250))) else (some false))
def swagelaw14_Few.l1:Nat→Int→Int→Int→Int→List (S50)→Option (Bool)
 | 0,_,_,_,_,_=>none
 | k+1,x3,x4,x5,x196000,x196001=>if 0≤x4 then (if x4<(x196001.length:Int) then (if x5<(((rd_T50 x196001 x4).f0).length:Int) then (swagelaw14_Few.j3 k x3 x4 x5 (decide (x5<300)) x196000 x196001) else (swagelaw14_Few.j3 k x3 x4 x5 false x196000 x196001)) else (none)) else (none)
def swagelaw14_Few.j3:Nat→Int→Int→Int→Bool→Int→List (S50)→Option (Bool)
 | 0,_,_,_,_,_,_=>none
 | k+1,x3,x4,x5,x38,x196000,x196001=>if x38=true then (if 0≤x4 then (if x4<(x196001.length:Int) then (if 0≤x5 then (if x5<(((rd_T50 x196001 x4).f0).length:Int) then (if (((rd_T45 ((rd_T50 x196001 x4).f0) x5).f5).length:Int) > 20 then (some false) else (swagelaw14_Few.l1 k x3 x4 (wrap64 (x5+1)) x196000 x196001)) else (none)) else (none)) else (none)) else (none)) else (swagelaw14_Few.l0 k x3 (wrap64 (x4+1)) x196000 x196001)
end
def swagelaw14_Few.f (k:Nat) (a0_0:Int) (l0_1:List (S50)):Option (Bool):=swagelaw14_Few.l0 k 0 0 a0_0 l0_1
set_option maxHeartbeats 8000000 in
set_option maxRecDepth 100000 in
theorem swagelaw14_Few.calls (k:Nat) (a0_0:Int) (A0_1:Option Addr) (c0_1:Nat) (l0_1:List (S50)) (r:Bool) (w:World) (hr0_1:Kd.C k50 w A0_1 l0_1.length l0_1) (hc0_1:l0_1.length≤c0_1) (h:swagelaw14_Few.f k a0_0 l0_1=some r) :
  Calls Tryz.prog 37 #[.agg #[.int .i64 a0_0,.slice A0_1 l0_1.length c0_1]] w fun e w'=>e=.returned (.bool r)∧Below w.heap.size w w':=by
 have hu24:=Tryz.underlying24
 have HR0_1:=ak_ hr0_1
 have HC0_1:=ak_ hc0_1
 clear hr0_1 hc0_1
 have HB:=ak_ (Below.refl w.heap.size w)
 have H:(swagelaw14_Few.l0 k 0 0 a0_0 l0_1)=some r:=h
 clear h
 have H':=ak_ H
 clear H
 go_enter Tryz.func37,Tryz.ntmps37
 go_wp2_with (first|((with_reducible refine gate_dst (N:=1) rfl ?_);refine box_event ?hg (N:=1) ?hd (cs:=#[.int .i64 a0_0,.slice A0_1 l0_1.length c0_1]) (t:=24) ?hr ?_;(case hd=>rfl);(case hg=>rfl);(case hr=>first|(go_simp;done)|(go_simp;rfl));intro gb195 hg w2 hbox hb;have n0_:=ak_ (below_step (bl_ HB) hb);have n1_:=ak_ (hbox);have n2_:=ak_ ((by rw [hg];exact (below_size (bl_ HB)):w.heap.size≤gb195));have n3_:=ak_ ((by rw [hg];exact (below_size (bl_ HB)):w.heap.size≤gb195));clear HB;have HB:=n0_;have BK195:=n1_;have GW195:=n2_;have GE195:=n3_;clear n0_ n1_ n2_ n3_;clear hb hbox hg))
 go_loopg [3,4] k (fun kq v3 v4 w'=>∃ (x3_1:Int) (x4_1:Int),v3=.int .i64 x3_1∧v4=.int .i64 x4_1∧Aside0 (swagelaw14_Few.l0 kq x3_1 x4_1 a0_0 l0_1=some r)∧Aside0 (kq≤k)∧Aside0 (w'.heap[gb195]?=some (.cells #[.int .i64 a0_0,(.slice A0_1 l0_1.length c0_1)] 24 (0,0)))∧Aside0 (Below w.heap.size w w'))
 case atStart=>exact ⟨(0),(0),(by first|rfl|(simp;done)|(simp [*];done)),(by first|rfl|(simp;done)|(simp [*];done)),H',⟨Nat.le_refl _⟩,⟨bk_ BK195⟩,⟨bl_ HB⟩⟩
 case round =>
  clear H'
  obtain ⟨x3_1,x4_1,rfl,rfl,HA,HK1,BK195,HB⟩:=hrel
  cases gk with
  | zero=>exact absurd HA.out (by simp [swagelaw14_Few.l0])
  | succ k1 =>
   have H:=HA.out
   clear HA
   simp only [swagelaw14_Few.l0] at H
   have HC3:=ak_ H
   clear H
   go_upto_region 3 with (fail)
   go_cut [14] (fun v14 wc=>∃ (kq:Nat) (x14_2:Bool),v14=.bool x14_2∧Aside0 (swagelaw14_Few.j1 kq x3_1 x4_1 x14_2 a0_0 l0_1=some r)∧Aside0 (kq≤k1)∧Aside0 (wc.heap[gb195]?=some (.cells #[.int .i64 a0_0,(.slice A0_1 l0_1.length c0_1)] 24 (0,0)))∧Aside0 (Below w.heap.size w wc))
   case first =>
    have H:=HC3.out
    clear HC3
    by_cases c4:x4_1<(l0_1.length:Int)
    ·rw [if_pos c4] at H
     have c4b0:decide (x4_1<(l0_1.length:Int))=true:=decide_eq_true c4
     clear c4
     (first|rw [c4b0]|(simp only [i64_w,i32_w];rw [c4b0])|skip)
     have H':=ak_ H
     clear H
     have hcz5_0:=ck_ BK195 0
     have hcz5_1:=ck_ BK195 1
     have hfz5_0:=fz_ BK195 0
     have hfz5_1:=fz_ BK195 1
     go_wp2
     go_meet
     case rel=>exact ⟨_,(decide (x4_1<100)),(by first|rfl|(simp;done)|(simp [*];done)),H',⟨by have:=HK1.out;first|omega|exact Nat.le_refl _⟩,⟨bk_ BK195⟩,⟨bl_ HB⟩⟩
    ·rw [if_neg c4] at H
     have c4b0:decide (x4_1<(l0_1.length:Int))=false:=decide_eq_false c4
     clear c4
     (first|rw [c4b0]|(simp only [i64_w,i32_w];rw [c4b0])|skip)
     have H':=ak_ H
     clear H
     have hcz6_0:=ck_ BK195 0
     have hcz6_1:=ck_ BK195 1
     have hfz6_0:=fz_ BK195 0
     have hfz6_1:=fz_ BK195 1
     go_wp2
     go_meet
     case rel=>exact ⟨_,(false),(by first|rfl|(simp;done)|(simp [*];done)),H',⟨by have:=HK1.out;first|omega|exact Nat.le_refl _⟩,⟨bk_ BK195⟩,⟨bl_ HB⟩⟩
   case rest =>
    clear HC3
    obtain ⟨kq,x14_2,rfl,HA,HJ2,BK195,HB⟩:=hcut
    cases kq with
    | zero=>exact absurd HA.out (by simp [swagelaw14_Few.j1])
    | succ kj2 =>
     have H:=HA.out
     clear HA
     simp only [swagelaw14_Few.j1] at H
     by_cases c7:x14_2=true
     ·subst c7
      have H1:(if 0≤x4_1 then (if x4_1<(l0_1.length:Int) then (swagelaw14_Few.l1 kj2 (wrap64 (x3_1+(((rd_T50 l0_1 x4_1).f0).length:Int))) x4_1 0 a0_0 l0_1) else (none)) else (none))=some r:=by rw [if_pos rfl] at H;exact H
      clear H
      have H:=H1
      clear H1
      by_cases c8:0≤x4_1
      ·rw [if_pos c8] at H
       have c8b0:decide (0≤x4_1)=true:=decide_eq_true c8
       clear c8
       by_cases c9:x4_1<(l0_1.length:Int)
       ·rw [if_pos c9] at H
        have c9b0:decide (x4_1<(l0_1.length:Int))=true:=decide_eq_true c9
        clear c9
        have H':=ak_ H
        clear H
        have hcz10_0:=ck_ BK195 0
        have hcz10_1:=ck_ BK195 1
        have hfz10_0:=fz_ BK195 0
        have hfz10_1:=fz_ BK195 1
        have p196:0≤(x4_1:Int):=of_decide_eq_true (by first|(with_reducible assumption)|assumption)
        have q196:x4_1<(l0_1.length:Int):=of_decide_eq_true (by first|(with_reducible assumption)|assumption)
        obtain ⟨ad196,A196_0,c196_0,e196,hx196_0,hx196_1,hx196_2,hx196_3,hx196_4,hl196_0,hi196_0⟩:=at_T50 HR0_1.out x4_1 p196 q196
        cases e196
        replace hx196_0:=cl_ HB hx196_0
        replace hx196_1:=cl_ HB hx196_1
        replace hx196_2:=cl_ HB hx196_2
        replace hx196_3:=cl_ HB hx196_3
        replace hx196_4:=cl_ HB hx196_4
        have HR196_0:=ak_ hi196_0
        have HC196_0:=ak_ hl196_0
        clear hi196_0 hl196_0
        replace p196:=eq_true p196
        replace q196:=eq_true q196
        go_wp2
        go_loopg [5] kj2 (fun kq v5 w'=>∃ (x5_3:Int),v5=.int .i64 x5_3∧Aside0 (swagelaw14_Few.l1 kq (wrap64 (x3_1+(((rd_T50 l0_1 x4_1).f0).length:Int))) x4_1 x5_3 a0_0 l0_1=some r)∧Aside0 (kq≤kj2)∧Aside0 (w'.heap[gb195]?=some (.cells #[.int .i64 a0_0,(.slice (some ad196) l0_1.length c0_1)] 24 (0,0)))∧Aside0 (Below w.heap.size w w'))
        case atStart=>exact ⟨(0),(by first|rfl|(simp;done)|(simp [*];done)),H',⟨Nat.le_refl _⟩,⟨bk_ BK195⟩,⟨bl_ HB⟩⟩
        case round =>
         clear H'
         obtain ⟨x5_3,rfl,HA,HK3,BK195,HB⟩:=hrel
         cases gk with
         | zero=>exact absurd HA.out (by simp [swagelaw14_Few.l1])
         | succ k3 =>
          have H:=HA.out
          clear HA
          simp only [swagelaw14_Few.l1] at H
          have HC11:=ak_ H
          clear H
          go_upto_region 7 with (fail)
          go_cut [38] (fun v38 wc=>∃ (kq:Nat) (x38_10:Bool),v38=.bool x38_10∧Aside0 (swagelaw14_Few.j3 kq (wrap64 (x3_1+(((rd_T50 l0_1 x4_1).f0).length:Int))) x4_1 x5_3 x38_10 a0_0 l0_1=some r)∧Aside0 (kq≤k3)∧Aside0 (wc.heap[gb195]?=some (.cells #[.int .i64 a0_0,(.slice (some ad196) l0_1.length c0_1)] 24 (0,0)))∧Aside0 (Below w.heap.size w wc))
          case first =>
           have H:=HC11.out
           clear HC11
           by_cases c12:0≤x4_1
           ·rw [if_pos c12] at H
            have c12b0:decide (0≤x4_1)=true:=decide_eq_true c12
            clear c12
            (first|rw [c12b0]|(simp only [i64_w,i32_w];rw [c12b0])|skip)
            by_cases c13:x4_1<(l0_1.length:Int)
            ·rw [if_pos c13] at H
             have c13b0:decide (x4_1<(l0_1.length:Int))=true:=decide_eq_true c13
             clear c13
             by_cases c14:x5_3<(((rd_T50 l0_1 x4_1).f0).length:Int)
             ·rw [if_pos c14] at H
              have c14b0:decide (x5_3<(((rd_T50 l0_1 x4_1).f0).length:Int))=true:=decide_eq_true c14
              clear c14
              have H':=ak_ H
              clear H
              have hcz15_0:=ck_ BK195 0
              have hcz15_1:=ck_ BK195 1
              have hfz15_0:=fz_ BK195 0
              have hfz15_1:=fz_ BK195 1
              have p197:0≤(x4_1:Int):=of_decide_eq_true (by first|(with_reducible assumption)|assumption)
              have q197:x4_1<(l0_1.length:Int):=of_decide_eq_true (by first|(with_reducible assumption)|assumption)
              obtain ⟨ad197,A197_0,c197_0,e197,hx197_0,hx197_1,hx197_2,hx197_3,hx197_4,hl197_0,hi197_0⟩:=at_T50 HR0_1.out x4_1 p197 q197
              obtain rfl:ad196=ad197:=(by injection e197)
              replace hx197_0:=cl_ HB hx197_0
              replace hx197_1:=cl_ HB hx197_1
              replace hx197_2:=cl_ HB hx197_2
              replace hx197_3:=cl_ HB hx197_3
              replace hx197_4:=cl_ HB hx197_4
              have HR197_0:=ak_ hi197_0
              have HC197_0:=ak_ hl197_0
              clear hi197_0 hl197_0
              replace p197:=eq_true p197
              replace q197:=eq_true q197
              go_wp2
              go_meet
              case rel=>exact ⟨_,(decide (x5_3<300)),(by first|rfl|(simp;done)|(simp [*];done)),H',⟨by have:=HK1.out;have:=HJ2.out;have:=HK3.out;first|omega|exact Nat.le_refl _⟩,⟨bk_ BK195⟩,⟨bl_ HB⟩⟩
             ·rw [if_neg c14] at H
              have c14b0:decide (x5_3<(((rd_T50 l0_1 x4_1).f0).length:Int))=false:=decide_eq_false c14
              clear c14
              have H':=ak_ H
              clear H
              have hcz16_0:=ck_ BK195 0
              have hcz16_1:=ck_ BK195 1
              have hfz16_0:=fz_ BK195 0
              have hfz16_1:=fz_ BK195 1
              have p197:0≤(x4_1:Int):=of_decide_eq_true (by first|(with_reducible assumption)|assumption)
              have q197:x4_1<(l0_1.length:Int):=of_decide_eq_true (by first|(with_reducible assumption)|assumption)
              obtain ⟨ad197,A197_0,c197_0,e197,hx197_0,hx197_1,hx197_2,hx197_3,hx197_4,hl197_0,hi197_0⟩:=at_T50 HR0_1.out x4_1 p197 q197
              obtain rfl:ad196=ad197:=(by injection e197)
              replace hx197_0:=cl_ HB hx197_0
              replace hx197_1:=cl_ HB hx197_1
              replace hx197_2:=cl_ HB hx197_2
              replace hx197_3:=cl_ HB hx197_3
              replace hx197_4:=cl_ HB hx197_4
              have HR197_0:=ak_ hi197_0
              have HC197_0:=ak_ hl197_0
              clear hi197_0 hl197_0
              replace p197:=eq_true p197
              replace q197:=eq_true q197
              go_wp2
              go_meet
              case rel=>exact ⟨_,(false),(by first|rfl|(simp;done)|(simp [*];done)),H',⟨by have:=HK1.out;have:=HJ2.out;have:=HK3.out;first|omega|exact Nat.le_refl _⟩,⟨bk_ BK195⟩,⟨bl_ HB⟩⟩
            ·rw [if_neg c13] at H
             exact absurd H (by simp)
           ·rw [if_neg c12] at H
            exact absurd H (by simp)
          case rest =>
           clear HC11
           obtain ⟨kq,x38_10,rfl,HA,HJ10,BK195,HB⟩:=hcut
           cases kq with
           | zero=>exact absurd HA.out (by simp [swagelaw14_Few.j3])
           | succ kj10 =>
            have H:=HA.out
            clear HA
            simp only [swagelaw14_Few.j3] at H
            by_cases c17:x38_10=true
            ·subst c17
             have H1:(if 0≤x4_1 then (if x4_1<(l0_1.length:Int) then (if 0≤x5_3 then (if x5_3<(((rd_T50 l0_1 x4_1).f0).length:Int) then (if (((rd_T45 ((rd_T50 l0_1 x4_1).f0) x5_3).f5).length:Int) > 20 then (some false) else (swagelaw14_Few.l1 kj10 (wrap64 (x3_1+(((rd_T50 l0_1 x4_1).f0).length:Int))) x4_1 (wrap64 (x5_3+1)) a0_0 l0_1)) else (none)) else (none)) else (none)) else (none))=some r:=by rw [if_pos rfl] at H;exact H
             clear H
             have H:=H1
             clear H1
             by_cases c18:0≤x4_1
             ·rw [if_pos c18] at H
              have c18b0:decide (0≤x4_1)=true:=decide_eq_true c18
              clear c18
              by_cases c19:x4_1<(l0_1.length:Int)
              ·rw [if_pos c19] at H
               have c19b0:decide (x4_1<(l0_1.length:Int))=true:=decide_eq_true c19
               clear c19
               by_cases c20:0≤x5_3
               ·rw [if_pos c20] at H
                have c20b0:decide (0≤x5_3)=true:=decide_eq_true c20
                clear c20
                by_cases c21:x5_3<(((rd_T50 l0_1 x4_1).f0).length:Int)
                ·rw [if_pos c21] at H
                 have c21b0:decide (x5_3<(((rd_T50 l0_1 x4_1).f0).length:Int))=true:=decide_eq_true c21
                 clear c21
                 by_cases c22:(((rd_T45 ((rd_T50 l0_1 x4_1).f0) x5_3).f5).length:Int) > 20
                 ·rw [if_pos c22] at H
                  have c22b0:decide (20<(((rd_T45 ((rd_T50 l0_1 x4_1).f0) x5_3).f5).length:Int))=true:=decide_eq_true c22
                  have c22b1:decide (20<((rd_T45 ((rd_T50 l0_1 x4_1).f0) x5_3).f5).length)=true:=decide_eq_true (by omega)
                  clear c22
                  obtain rfl:=Option.some.inj H
                  have hcz23_0:=ck_ BK195 0
                  have hcz23_1:=ck_ BK195 1
                  have hfz23_0:=fz_ BK195 0
                  have hfz23_1:=fz_ BK195 1
                  have p198:0≤(x4_1:Int):=of_decide_eq_true (by first|(with_reducible assumption)|assumption)
                  have q198:x4_1<(l0_1.length:Int):=of_decide_eq_true (by first|(with_reducible assumption)|assumption)
                  obtain ⟨ad198,A198_0,c198_0,e198,hx198_0,hx198_1,hx198_2,hx198_3,hx198_4,hl198_0,hi198_0⟩:=at_T50 HR0_1.out x4_1 p198 q198
                  obtain rfl:ad196=ad198:=(by injection e198)
                  replace hx198_0:=cl_ HB hx198_0
                  replace hx198_1:=cl_ HB hx198_1
                  replace hx198_2:=cl_ HB hx198_2
                  replace hx198_3:=cl_ HB hx198_3
                  replace hx198_4:=cl_ HB hx198_4
                  have HR198_0:=ak_ hi198_0
                  have HC198_0:=ak_ hl198_0
                  clear hi198_0 hl198_0
                  replace p198:=eq_true p198
                  replace q198:=eq_true q198
                  have p199:0≤(x5_3:Int):=of_decide_eq_true (by first|(with_reducible assumption)|assumption)
                  have q199:x5_3<(((rd_T50 l0_1 x4_1).f0).length:Int):=of_decide_eq_true (by first|(with_reducible assumption)|assumption)
                  obtain ⟨ad199,A199_5,c199_5,e199,hx199_0,hx199_1,hx199_2,hx199_3,hx199_4,hx199_5,hl199_5,hi199_5⟩:=at_T45 HR198_0.out x5_3 p199 q199
                  cases e199
                  replace hx199_0:=cl_ HB hx199_0
                  replace hx199_1:=cl_ HB hx199_1
                  replace hx199_2:=cl_ HB hx199_2
                  replace hx199_3:=cl_ HB hx199_3
                  replace hx199_4:=cl_ HB hx199_4
                  replace hx199_5:=cl_ HB hx199_5
                  have HR199_5:=ak_ hi199_5
                  have HC199_5:=ak_ hl199_5
                  clear hi199_5 hl199_5
                  replace p199:=eq_true p199
                  replace q199:=eq_true q199
                  go_wp2
                  go_ret
                  exact ⟨by first|rfl|(simp [errW_none,errW_some]<;>rfl)|(simp [*,errW_none,errW_some]<;>rfl),bl_ HB⟩
                 ·rw [if_neg c22] at H
                  have c22b0:decide (20<(((rd_T45 ((rd_T50 l0_1 x4_1).f0) x5_3).f5).length:Int))=false:=decide_eq_false c22
                  have c22b1:decide (20<((rd_T45 ((rd_T50 l0_1 x4_1).f0) x5_3).f5).length)=false:=decide_eq_false (by omega)
                  clear c22
                  have H':=ak_ H
                  clear H
                  have hcz24_0:=ck_ BK195 0
                  have hcz24_1:=ck_ BK195 1
                  have hfz24_0:=fz_ BK195 0
                  have hfz24_1:=fz_ BK195 1
                  have p198:0≤(x4_1:Int):=of_decide_eq_true (by first|(with_reducible assumption)|assumption)
                  have q198:x4_1<(l0_1.length:Int):=of_decide_eq_true (by first|(with_reducible assumption)|assumption)
                  obtain ⟨ad198,A198_0,c198_0,e198,hx198_0,hx198_1,hx198_2,hx198_3,hx198_4,hl198_0,hi198_0⟩:=at_T50 HR0_1.out x4_1 p198 q198
                  obtain rfl:ad196=ad198:=(by injection e198)
                  replace hx198_0:=cl_ HB hx198_0
                  replace hx198_1:=cl_ HB hx198_1
                  replace hx198_2:=cl_ HB hx198_2
                  replace hx198_3:=cl_ HB hx198_3
                  replace hx198_4:=cl_ HB hx198_4
                  have HR198_0:=ak_ hi198_0
                  have HC198_0:=ak_ hl198_0
                  clear hi198_0 hl198_0
                  replace p198:=eq_true p198
                  replace q198:=eq_true q198
                  have p199:0≤(x5_3:Int):=of_decide_eq_true (by first|(with_reducible assumption)|assumption)
                  have q199:x5_3<(((rd_T50 l0_1 x4_1).f0).length:Int):=of_decide_eq_true (by first|(with_reducible assumption)|assumption)
                  obtain ⟨ad199,A199_5,c199_5,e199,hx199_0,hx199_1,hx199_2,hx199_3,hx199_4,hx199_5,hl199_5,hi199_5⟩:=at_T45 HR198_0.out x5_3 p199 q199
                  cases e199
                  replace hx199_0:=cl_ HB hx199_0
                  replace hx199_1:=cl_ HB hx199_1
                  replace hx199_2:=cl_ HB hx199_2
                  replace hx199_3:=cl_ HB hx199_3
                  replace hx199_4:=cl_ HB hx199_4
                  replace hx199_5:=cl_ HB hx199_5
                  have HR199_5:=ak_ hi199_5
                  have HC199_5:=ak_ hl199_5
                  clear hi199_5 hl199_5
                  replace p199:=eq_true p199
                  replace q199:=eq_true q199
                  go_wp2
                  go_roundg kj10
                  case measure=>have:=HK1.out;have:=HJ2.out;have:=HK3.out;have:=HJ10.out;omega
                  case rel=>exact ⟨(wrap64 (x5_3+1)),(by first|rfl|(simp;done)|(simp [*];done)),H',⟨by have:=HK1.out;have:=HJ2.out;have:=HK3.out;have:=HJ10.out;omega⟩,⟨bk_ BK195⟩,⟨bl_ HB⟩⟩
                ·rw [if_neg c21] at H
                 exact absurd H (by simp)
               ·rw [if_neg c20] at H
                exact absurd H (by simp)
              ·rw [if_neg c19] at H
               exact absurd H (by simp)
             ·rw [if_neg c18] at H
              exact absurd H (by simp)
            ·replace c17:=Bool.eq_false_iff.mpr c17
             subst c17
             have H1:(swagelaw14_Few.l0 kj10 (wrap64 (x3_1+(((rd_T50 l0_1 x4_1).f0).length:Int))) (wrap64 (x4_1+1)) a0_0 l0_1)=some r:=by rw [if_neg (show ¬ (false=true) by decide)] at H;exact H
             clear H
             have H:=H1
             clear H1
             have H':=ak_ H
             clear H
             go_wp2
             go_roundg kj10
             case measure=>have:=HK1.out;have:=HJ2.out;have:=HK3.out;have:=HJ10.out;omega
             case rel=>exact ⟨((wrap64 (x3_1+(((rd_T50 l0_1 x4_1).f0).length:Int)))),(wrap64 (x4_1+1)),(by first|rfl|(simp;done)|(simp [*];done)),(by first|rfl|(simp;done)|(simp [*];done)),H',⟨by have:=HK1.out;have:=HJ2.out;have:=HK3.out;have:=HJ10.out;omega⟩,⟨bk_ BK195⟩,⟨bl_ HB⟩⟩
       ·rw [if_neg c9] at H
        exact absurd H (by simp)
      ·rw [if_neg c8] at H
       exact absurd H (by simp)
     ·replace c7:=Bool.eq_false_iff.mpr c7
      subst c7
      have H1:(if (l0_1.length:Int)≤40 then (some (decide (x3_1≤250))) else (some false))=some r:=by rw [if_neg (show ¬ (false=true) by decide)] at H;exact H
      clear H
      have H:=H1
      clear H1
      by_cases c25:(l0_1.length:Int)≤40
      ·rw [if_pos c25] at H
       have c25b0:decide ((l0_1.length:Int)≤40)=true:=decide_eq_true c25
       have c25b1:decide (l0_1.length≤40)=true:=decide_eq_true (by omega)
       clear c25
       obtain rfl:=Option.some.inj H
       have hcz26_0:=ck_ BK195 0
       have hcz26_1:=ck_ BK195 1
       have hfz26_0:=fz_ BK195 0
       have hfz26_1:=fz_ BK195 1
       go_wp2
       go_ret
       exact ⟨by first|rfl|(simp [errW_none,errW_some]<;>rfl)|(simp [*,errW_none,errW_some]<;>rfl),bl_ HB⟩
      ·rw [if_neg c25] at H
       have c25b0:decide ((l0_1.length:Int)≤40)=false:=decide_eq_false c25
       have c25b1:decide (l0_1.length≤40)=false:=decide_eq_false (by omega)
       clear c25
       obtain rfl:=Option.some.inj H
       have hcz27_0:=ck_ BK195 0
       have hcz27_1:=ck_ BK195 1
       have hfz27_0:=fz_ BK195 0
       have hfz27_1:=fz_ BK195 1
       go_wp2
       go_ret
       exact ⟨by first|rfl|(simp [errW_none,errW_some]<;>rfl)|(simp [*,errW_none,errW_some]<;>rfl),bl_ HB⟩

/-! ### swagelaw25_few: function 7 -/
def swagelaw25_few.f (k:Nat) (a0_0:Int) (l0_1:List (S50)):Option (Bool):=(swagelaw14_Few.f k a0_0 l0_1).bind fun t201=>(if t201=true then (if (l0_1.length:Int)≤12 then ((swageref14_Regs.f k a0_0 l0_1).bind fun t202=>(some (decide (t202≤40)))) else (some false)) else (some false))
set_option maxHeartbeats 8000000 in
set_option maxRecDepth 100000 in
theorem swagelaw25_few.calls (k:Nat) (a0_0:Int) (A0_1:Option Addr) (c0_1:Nat) (l0_1:List (S50)) (r:Bool) (w:World) (hr0_1:Kd.C k50 w A0_1 l0_1.length l0_1) (hc0_1:l0_1.length≤c0_1) (h:swagelaw25_few.f k a0_0 l0_1=some r) :
  Calls Tryz.prog 7 #[.agg #[.int .i64 a0_0,.slice A0_1 l0_1.length c0_1]] w fun e w'=>e=.returned (.bool r)∧Below w.heap.size w w':=by
 have hu24:=Tryz.underlying24
 have HR0_1:=ak_ hr0_1
 have HC0_1:=ak_ hc0_1
 clear hr0_1 hc0_1
 have HB:=ak_ (Below.refl w.heap.size w)
 have H:((swagelaw14_Few.f k a0_0 l0_1).bind fun t201=>(if t201=true then (if (l0_1.length:Int)≤12 then ((swageref14_Regs.f k a0_0 l0_1).bind fun t202=>(some (decide (t202≤40)))) else (some false)) else (some false)))=some r:=h
 clear h
 replace H:=Option.bind_eq_some_iff.mp H
 obtain ⟨t201,A20,H⟩:=H
 replace H:(if t201=true then (if (l0_1.length:Int)≤12 then ((swageref14_Regs.f k a0_0 l0_1).bind fun t202=>(some (decide (t202≤40)))) else (some false)) else (some false))=some r:=H
 have A2:=ak_ A20
 clear A20
 by_cases c3:t201=true
 ·subst c3
  have H1:(if (l0_1.length:Int)≤12 then ((swageref14_Regs.f k a0_0 l0_1).bind fun t202=>(some (decide (t202≤40)))) else (some false))=some r:=by rw [if_pos rfl] at H;exact H
  clear H
  have H:=H1
  clear H1
  by_cases c4:(l0_1.length:Int)≤12
  ·rw [if_pos c4] at H
   have c4b0:decide ((l0_1.length:Int)≤12)=true:=decide_eq_true c4
   have c4b1:decide (l0_1.length≤12)=true:=decide_eq_true (by omega)
   clear c4
   replace H:=Option.bind_eq_some_iff.mp H
   obtain ⟨t202,A50,H⟩:=H
   replace H:(some (decide (t202≤40)))=some r:=H
   have A5:=ak_ A50
   clear A50
   obtain rfl:=Option.some.inj H
   go_enter Tryz.func7,Tryz.ntmps7
   go_wp2_with (first|((with_reducible refine gate_dst (N:=1) rfl ?_);(try (refine gate_guard (by rfl) ?_;dsimp only));refine box_event ?hg (N:=1) ?hd (cs:=#[.int .i64 a0_0,.slice A0_1 l0_1.length c0_1]) (t:=24) ?hr ?_;(case hd=>rfl);(case hg=>rfl);(case hr=>first|(go_simp;done)|(go_simp;rfl));intro gb200 hg w6 hbox hb;have n0_:=ak_ (below_step (bl_ HB) hb);have n1_:=ak_ (hbox);have n2_:=ak_ ((by rw [hg];exact (below_size (bl_ HB)):w.heap.size≤gb200));have n3_:=ak_ ((by rw [hg];exact (below_size (bl_ HB)):w.heap.size≤gb200));clear HB;have HB:=n0_;have BK200:=n1_;have GW200:=n2_;have GE200:=n3_;clear n0_ n1_ n2_ n3_;clear hb hbox hg;have hcz7_0:=ck_ BK200 0;have hcz7_1:=ck_ BK200 1;have hfz7_0:=fz_ BK200 0;have hfz7_1:=fz_ BK200 1)|((with_reducible refine gate_callee (f:=37) rfl ?_);refine goesL_ (some 5) rfl rfl Tryz.func37 (by kernel_rfl) rfl #[.agg #[.int .i64 a0_0,.slice A0_1 l0_1.length c0_1]] rfl (by (try simp only [List.map_toArray,List.map_cons,List.map_nil]);first|done|rfl|(simp only [List.length_drop,List.length_take];rfl)) ?_;(with_reducible refine (swagelaw14_Few.calls k a0_0 _ _ l0_1 true _ ?side1 ?side2 A2.out).mono ?_);(case side1=>repeat (first|exact (Kd.C_below HR0_1.out HB.out)|(with_reducible refine Kd.C_alloc ?_ _)|(with_reducible refine Kd.C_drewN ?_ _)|(with_reducible refine Kd.C_drew ?_)));(case side2=>exact HC0_1.out);rintro e w8 ⟨rfl,hb⟩;refine ⟨_,rfl,?_⟩;have n0_:=ak_ (blk_below (g:=gb200) (o:=.cells #[.int .i64 a0_0,.slice A0_1 l0_1.length c0_1] 24 (0,0)) (bk_ BK200) hb);have n1_:=ak_ (below_step (bl_ HB) hb);clear BK200;clear HB;have BK200:=n0_;have HB:=n1_;clear n0_ n1_;(try clear hb);(try clear hb2);(try clear hk);(try clear hi);have hcz9_0:=ck_ BK200 0;have hcz9_1:=ck_ BK200 1;have hfz9_0:=fz_ BK200 0;have hfz9_1:=fz_ BK200 1)|(go_at_call 38;(with_reducible refine (swageref14_Regs.calls k a0_0 _ _ l0_1 t202 _ ?side1 ?side2 A5.out).mono ?_);(case side1=>repeat (first|exact (Kd.C_below HR0_1.out HB.out)|(with_reducible refine Kd.C_alloc ?_ _)|(with_reducible refine Kd.C_drewN ?_ _)|(with_reducible refine Kd.C_drew ?_)));(case side2=>exact HC0_1.out);rintro e w10 ⟨rfl,hb⟩;have n0_:=ak_ (blk_below (g:=gb200) (o:=.cells #[.int .i64 a0_0,.slice A0_1 l0_1.length c0_1] 24 (0,0)) (bk_ BK200) hb);have n1_:=ak_ (below_step (bl_ HB) hb);clear BK200;clear HB;have BK200:=n0_;have HB:=n1_;clear n0_ n1_;(try clear hb);(try clear hb2);(try clear hk);(try clear hi)))
   go_ret
   exact ⟨by first|rfl|(simp [errW_none,errW_some]<;>rfl)|(simp [*,errW_none,errW_some]<;>rfl),bl_ HB⟩
  ·rw [if_neg c4] at H
   have c4b0:decide ((l0_1.length:Int)≤12)=false:=decide_eq_false c4
   have c4b1:decide (l0_1.length≤12)=false:=decide_eq_false (by omega)
   clear c4
   obtain rfl:=Option.some.inj H
   go_enter Tryz.func7,Tryz.ntmps7
   go_wp2_with (first|((with_reducible refine gate_dst (N:=1) rfl ?_);(try (refine gate_guard (by rfl) ?_;dsimp only));refine box_event ?hg (N:=1) ?hd (cs:=#[.int .i64 a0_0,.slice A0_1 l0_1.length c0_1]) (t:=24) ?hr ?_;(case hd=>rfl);(case hg=>rfl);(case hr=>first|(go_simp;done)|(go_simp;rfl));intro gb200 hg w11 hbox hb;have n0_:=ak_ (below_step (bl_ HB) hb);have n1_:=ak_ (hbox);have n2_:=ak_ ((by rw [hg];exact (below_size (bl_ HB)):w.heap.size≤gb200));have n3_:=ak_ ((by rw [hg];exact (below_size (bl_ HB)):w.heap.size≤gb200));clear HB;have HB:=n0_;have BK200:=n1_;have GW200:=n2_;have GE200:=n3_;clear n0_ n1_ n2_ n3_;clear hb hbox hg;have hcz12_0:=ck_ BK200 0;have hcz12_1:=ck_ BK200 1;have hfz12_0:=fz_ BK200 0;have hfz12_1:=fz_ BK200 1)|((with_reducible refine gate_callee (f:=37) rfl ?_);refine goesL_ (some 5) rfl rfl Tryz.func37 (by kernel_rfl) rfl #[.agg #[.int .i64 a0_0,.slice A0_1 l0_1.length c0_1]] rfl (by (try simp only [List.map_toArray,List.map_cons,List.map_nil]);first|done|rfl|(simp only [List.length_drop,List.length_take];rfl)) ?_;(with_reducible refine (swagelaw14_Few.calls k a0_0 _ _ l0_1 true _ ?side1 ?side2 A2.out).mono ?_);(case side1=>repeat (first|exact (Kd.C_below HR0_1.out HB.out)|(with_reducible refine Kd.C_alloc ?_ _)|(with_reducible refine Kd.C_drewN ?_ _)|(with_reducible refine Kd.C_drew ?_)));(case side2=>exact HC0_1.out);rintro e w13 ⟨rfl,hb⟩;refine ⟨_,rfl,?_⟩;have n0_:=ak_ (blk_below (g:=gb200) (o:=.cells #[.int .i64 a0_0,.slice A0_1 l0_1.length c0_1] 24 (0,0)) (bk_ BK200) hb);have n1_:=ak_ (below_step (bl_ HB) hb);clear BK200;clear HB;have BK200:=n0_;have HB:=n1_;clear n0_ n1_;(try clear hb);(try clear hb2);(try clear hk);(try clear hi);have hcz14_0:=ck_ BK200 0;have hcz14_1:=ck_ BK200 1;have hfz14_0:=fz_ BK200 0;have hfz14_1:=fz_ BK200 1))
   go_ret
   exact ⟨by first|rfl|(simp [errW_none,errW_some]<;>rfl)|(simp [*,errW_none,errW_some]<;>rfl),bl_ HB⟩
 ·replace c3:=Bool.eq_false_iff.mpr c3
  subst c3
  have H1:(some false)=some r:=by rw [if_neg (show ¬ (false=true) by decide)] at H;exact H
  clear H
  have H:=H1
  clear H1
  obtain rfl:=Option.some.inj H
  go_enter Tryz.func7,Tryz.ntmps7
  go_wp2_with (first|((with_reducible refine gate_dst (N:=1) rfl ?_);(try (refine gate_guard (by rfl) ?_;dsimp only));refine box_event ?hg (N:=1) ?hd (cs:=#[.int .i64 a0_0,.slice A0_1 l0_1.length c0_1]) (t:=24) ?hr ?_;(case hd=>rfl);(case hg=>rfl);(case hr=>first|(go_simp;done)|(go_simp;rfl));intro gb200 hg w15 hbox hb;have n0_:=ak_ (below_step (bl_ HB) hb);have n1_:=ak_ (hbox);have n2_:=ak_ ((by rw [hg];exact (below_size (bl_ HB)):w.heap.size≤gb200));have n3_:=ak_ ((by rw [hg];exact (below_size (bl_ HB)):w.heap.size≤gb200));clear HB;have HB:=n0_;have BK200:=n1_;have GW200:=n2_;have GE200:=n3_;clear n0_ n1_ n2_ n3_;clear hb hbox hg;have hcz16_0:=ck_ BK200 0;have hcz16_1:=ck_ BK200 1;have hfz16_0:=fz_ BK200 0;have hfz16_1:=fz_ BK200 1)|((with_reducible refine gate_callee (f:=37) rfl ?_);refine goesL_ (some 5) rfl rfl Tryz.func37 (by kernel_rfl) rfl #[.agg #[.int .i64 a0_0,.slice A0_1 l0_1.length c0_1]] rfl (by (try simp only [List.map_toArray,List.map_cons,List.map_nil]);first|done|rfl|(simp only [List.length_drop,List.length_take];rfl)) ?_;(with_reducible refine (swagelaw14_Few.calls k a0_0 _ _ l0_1 false _ ?side1 ?side2 A2.out).mono ?_);(case side1=>repeat (first|exact (Kd.C_below HR0_1.out HB.out)|(with_reducible refine Kd.C_alloc ?_ _)|(with_reducible refine Kd.C_drewN ?_ _)|(with_reducible refine Kd.C_drew ?_)));(case side2=>exact HC0_1.out);rintro e w17 ⟨rfl,hb⟩;refine ⟨_,rfl,?_⟩;have n0_:=ak_ (blk_below (g:=gb200) (o:=.cells #[.int .i64 a0_0,.slice A0_1 l0_1.length c0_1] 24 (0,0)) (bk_ BK200) hb);have n1_:=ak_ (below_step (bl_ HB) hb);clear BK200;clear HB;have BK200:=n0_;have HB:=n1_;clear n0_ n1_;(try clear hb);(try clear hb2);(try clear hk);(try clear hi)))
  go_ret
  exact ⟨by first|rfl|(simp [errW_none,errW_some]<;>rfl)|(simp [*,errW_none,errW_some]<;>rfl),bl_ HB⟩

/-! ### swagelaw17_few: function 19 -/
def swagelaw17_few.f (k:Nat) (a0_0:Int) (l0_1:List (S50)):Option (Bool):=(swagelaw14_Few.f k a0_0 l0_1).bind fun t204=>(if t204=true then (if (l0_1.length:Int)≤12 then ((swageref14_Regs.f k a0_0 l0_1).bind fun t205=>(some (decide (t205≤40)))) else (some false)) else (some false))
/-! ### swageref25_Same: function 13 -/
def swageref25_Same.l0:Nat→List (S52)→List (S52)→Int→Option (Bool)
 | 0,_,_,_=>none
 | k+1,x0,x1,x5=>if x5<(x0.length:Int) then (if 0≤x5 then (if x5<(x1.length:Int) then (if (!(((rd_T52 x0 x5).f0) == ((rd_T52 x1 x5).f0)) || (!(((rd_T52 x0 x5).f1) == ((rd_T52 x1 x5).f1)) || (!(((rd_T52 x0 x5).f2) == ((rd_T52 x1 x5).f2)))))=true then (some false) else (swageref25_Same.l0 k x0 x1 (wrap64 (x5+1)))) else (none)) else (none)) else (some true)
def swageref25_Same.f (k:Nat) (l0:List (S52)) (l1:List (S52)):Option (Bool):=if (l0.length:Int)=(l1.length:Int) then (swageref25_Same.l0 k l0 l1 0) else (some false)
set_option maxHeartbeats 8000000 in
set_option maxRecDepth 100000 in
theorem swageref25_Same.calls (k:Nat) (A0:Option Addr) (c0:Nat) (l0:List (S52)) (A1:Option Addr) (c1:Nat) (l1:List (S52)) (r:Bool) (w:World) (hr0:Kd.C k52 w A0 l0.length l0) (hc0:l0.length≤c0) (hr1:Kd.C k52 w A1 l1.length l1) (hc1:l1.length≤c1) (h:swageref25_Same.f k l0 l1=some r) :
  Calls Tryz.prog 13 #[.slice A0 l0.length c0,.slice A1 l1.length c1] w fun e w'=>e=.returned (.bool r)∧Drawn0 w w':=by
 have hu52:=Tryz.underlying52
 have HR0:=ak_ hr0
 have HC0:=ak_ hc0
 clear hr0 hc0
 have HR1:=ak_ hr1
 have HC1:=ak_ hc1
 clear hr1 hc1
 have H:(if (l0.length:Int)=(l1.length:Int) then (swageref25_Same.l0 k l0 l1 0) else (some false))=some r:=h
 clear h
 by_cases c3:(l0.length:Int)=(l1.length:Int)
 ·rw [if_pos c3] at H
  have c3b0:((l0.length:Int) == (l1.length:Int))=true:=beq_iff_eq.mpr c3
  have c3b1:((l0.length:Int) != (l1.length:Int))=false:=bne_eq_false_iff_eq.mpr c3
  have c3b2:(l0.length == l1.length)=true:=by first|simpa using c3|(simp at c3 ⊢;omega)
  clear c3
  have H':=ak_ H
  clear H
  go_enter Tryz.func13,Tryz.ntmps13
  go_wp2
  repeat (go_quiet (fail);try go_wp2)
  go_loopg [5] k (fun kq v5 w'=>∃ (x5_1:Int),v5=.int .i64 x5_1∧Aside0 (swageref25_Same.l0 kq l0 l1 x5_1=some r)∧Aside0 (kq≤k)∧Drawn0 w w')
  case atStart=>exact ⟨(0),(by first|rfl|(simp;done)|(simp [*];done)),H',⟨Nat.le_refl _⟩,by repeat (first|exact Drawn0.refl _|apply Drawn0.step)⟩
  case round =>
   clear H'
   obtain ⟨x5_1,rfl,HA,HK1,⟨m1,rfl⟩⟩:=hrel
   cases gk with
   | zero=>exact absurd HA.out (by simp [swageref25_Same.l0])
   | succ k1 =>
    have H:=HA.out
    clear HA
    simp only [swageref25_Same.l0] at H
    by_cases c4:x5_1<(l0.length:Int)
    ·rw [if_pos c4] at H
     have c4b0:decide (x5_1<(l0.length:Int))=true:=decide_eq_true c4
     clear c4
     by_cases c5:0≤x5_1
     ·rw [if_pos c5] at H
      have c5b0:decide (0≤x5_1)=true:=decide_eq_true c5
      clear c5
      by_cases c6:x5_1<(l1.length:Int)
      ·rw [if_pos c6] at H
       have c6b0:decide (x5_1<(l1.length:Int))=true:=decide_eq_true c6
       clear c6
       by_cases c7:(!(((rd_T52 l0 x5_1).f0) == ((rd_T52 l1 x5_1).f0)) || (!(((rd_T52 l0 x5_1).f1) == ((rd_T52 l1 x5_1).f1)) || (!(((rd_T52 l0 x5_1).f2) == ((rd_T52 l1 x5_1).f2)))))=true
       ·rw [if_pos c7] at H
        have c7b0:(!(((rd_T52 l0 x5_1).f0) == ((rd_T52 l1 x5_1).f0)) || (!(((rd_T52 l0 x5_1).f1) == ((rd_T52 l1 x5_1).f1)) || (!(((rd_T52 l0 x5_1).f2) == ((rd_T52 l1 x5_1).f2)))))=true:=c7
        clear c7
        obtain rfl:=Option.some.inj H
        have p206:0≤(x5_1:Int):=of_decide_eq_true (by first|(with_reducible assumption)|assumption)
        have q206:x5_1<(l0.length:Int):=of_decide_eq_true (by first|(with_reducible assumption)|assumption)
        obtain ⟨ad206,e206,hx206_0,hx206_1,hx206_2⟩:=at_T52 HR0.out x5_1 p206 q206
        cases e206
        replace p206:=eq_true p206
        replace q206:=eq_true q206
        have p207:0≤(x5_1:Int):=of_decide_eq_true (by first|(with_reducible assumption)|assumption)
        have q207:x5_1<(l1.length:Int):=of_decide_eq_true (by first|(with_reducible assumption)|assumption)
        obtain ⟨ad207,e207,hx207_0,hx207_1,hx207_2⟩:=at_T52 HR1.out x5_1 p207 q207
        cases e207
        replace p207:=eq_true p207
        replace q207:=eq_true q207
        go_wp2
        repeat (go_quiet (fail);try go_wp2)
        go_ret
        exact ⟨by first|rfl|(simp;done)|(simp [*];done),by repeat (first|exact Drawn0.refl _|apply Drawn0.step)⟩
       ·rw [if_neg c7] at H
        have c7b0:(!(((rd_T52 l0 x5_1).f0) == ((rd_T52 l1 x5_1).f0)) || (!(((rd_T52 l0 x5_1).f1) == ((rd_T52 l1 x5_1).f1)) || (!(((rd_T52 l0 x5_1).f2) == ((rd_T52 l1 x5_1).f2)))))=false:=by simpa using c7
        clear c7
        have H':=ak_ H
        clear H
        have p206:0≤(x5_1:Int):=of_decide_eq_true (by first|(with_reducible assumption)|assumption)
        have q206:x5_1<(l0.length:Int):=of_decide_eq_true (by first|(with_reducible assumption)|assumption)
        obtain ⟨ad206,e206,hx206_0,hx206_1,hx206_2⟩:=at_T52 HR0.out x5_1 p206 q206
        cases e206
        replace p206:=eq_true p206
        replace q206:=eq_true q206
        have p207:0≤(x5_1:Int):=of_decide_eq_true (by first|(with_reducible assumption)|assumption)
        have q207:x5_1<(l1.length:Int):=of_decide_eq_true (by first|(with_reducible assumption)|assumption)
        obtain ⟨ad207,e207,hx207_0,hx207_1,hx207_2⟩:=at_T52 HR1.out x5_1 p207 q207
        cases e207
        replace p207:=eq_true p207
        replace q207:=eq_true q207
        go_wp2
        repeat (go_quiet (fail);try go_wp2)
        go_roundg k1
        case measure=>have:=HK1.out;omega
        case rel=>exact ⟨(wrap64 (x5_1+1)),(by first|rfl|(simp;done)|(simp [*];done)),H',⟨by have:=HK1.out;omega⟩,by repeat (first|exact Drawn0.refl _|apply Drawn0.step)⟩
      ·rw [if_neg c6] at H
       exact absurd H (by simp)
     ·rw [if_neg c5] at H
      exact absurd H (by simp)
    ·rw [if_neg c4] at H
     have c4b0:decide (x5_1<(l0.length:Int))=false:=decide_eq_false c4
     clear c4
     obtain rfl:=Option.some.inj H
     go_wp2
     repeat (go_quiet (fail);try go_wp2)
     go_ret
     exact ⟨by first|rfl|(simp;done)|(simp [*];done),by repeat (first|exact Drawn0.refl _|apply Drawn0.step)⟩
 ·rw [if_neg c3] at H
  have c3b0:((l0.length:Int) == (l1.length:Int))=false:=beq_eq_false_iff_ne.mpr c3
  have c3b1:((l0.length:Int) != (l1.length:Int))=true:=bne_iff_ne.mpr c3
  have c3b2:(l0.length == l1.length)=false:=by first|simpa using c3|(simp at c3 ⊢;omega)
  obtain rfl:=Option.some.inj H
  go_enter Tryz.func13,Tryz.ntmps13
  go_wp2
  repeat (go_quiet (fail);try go_wp2)
  go_ret
  exact ⟨by first|rfl|(simp;done)|(simp [*];done),by repeat (first|exact Drawn0.refl _|apply Drawn0.step)⟩

