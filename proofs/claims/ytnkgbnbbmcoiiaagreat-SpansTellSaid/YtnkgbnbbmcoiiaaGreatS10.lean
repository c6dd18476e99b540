-- a text of the seat,by a program
import Derived.Test.YtnkgbnbbmcoiiaaGreatBk
import Derived.Test.YtnkgbnbbmcoiiaaGreatS0
import Derived.Test.YtnkgbnbbmcoiiaaGreatS8
import Derived.Test.YtnkgbnbbmcoiiaaGreatS9
namespace Go.Proofs.YtnkgbnbbmcoiiaaGreat.S
open Go.RowKit Go.Proofs.YtnkgbnbbmcoiiaaGreatW.PrintWords Go.Proofs.YtnkgbnbbmcoiiaaGreatW.PrintLast Go.Proofs.YtnkgbnbbmcoiiaaGreatW.PrintMore
attribute [local go_sem] max2_int min2_int max_two min_two max_three min_three max_four min_four   -- for this text's walks alone
set_option linter.unusedVariables false
set_option linter.unusedSimpArgs false

/-! ### swageref14_RightOp: function 78 -/
mutual
def swageref14_RightOp.j0:Nat→Int→Bool→Int→Int→Int→Int→Int→List Int→Option (Bool)
 | 0,_,_,_,_,_,_,_,_=>none
 | k+1,x1,x68,x235000,x235001,x235002,x235003,x235004,x235005=>if x68=true then (some false) else (swageref14_RightOp.l0 k x1 0 x235000 x235001 x235002 x235003 x235004 x235005)
def swageref14_RightOp.l0:Nat→Int→Int→Int→Int→Int→Int→Int→List Int→Option (Bool)
 | 0,_,_,_,_,_,_,_,_=>none
 | k+1,x1,x10,x235000,x235001,x235002,x235003,x235004,x235005=>if x10<(x235005.length:Int) then (if 0≤x10 then ((swageref14_reg.f (rd x235005 x10)).bind fun t244=>(if t244=true then (swageref14_RightOp.l0 k x1 (wrap64 (x10+1)) x235000 x235001 x235002 x235003 x235004 x235005) else (some false))) else (none)) else (if x235000=2 then ((swageref01_Known.f x235004).bind fun t245=>(some t245)) else (if x235000=4 then (swageref14_RightOp.j2 k x1 x235000 (x235000 == 4) x235000 x235001 x235002 x235003 x235004 x235005) else (swageref14_RightOp.j2 k x1 x235000 (x235000 == 5) x235000 x235001 x235002 x235003 x235004 x235005)))
def swageref14_RightOp.j2:Nat→Int→Int→Bool→Int→Int→Int→Int→Int→List Int→Option (Bool)
 | 0,_,_,_,_,_,_,_,_,_=>none
 | k+1,x1,x84,x90,x235000,x235001,x235002,x235003,x235004,x235005=>if x90=true then (if x235004 ≥ (-2147483648) then (some (decide (x235004≤2147483647))) else (some false)) else (if x84=6 then (if x235004 ≥ 0 then (some (decide (x235004≤1048576))) else (some false)) else (if x84=7 then (if x235004 ≥ 0 then (some (decide (x235004<x1))) else (some false)) else (some true)))
end
def swageref14_RightOp.f (k:Nat) (a0_0:Int) (a0_1:Int) (a0_2:Int) (a0_3:Int) (a0_4:Int) (l0_5:List Int) (a1:Int):Option (Bool):=(swageref14_shape.f k a0_0).bind fun bt235=>(if bt235.2.2.2.2=true then ((swageref14_field.f a0_1 bt235.1).bind fun t240=>(if t240=true then ((swageref14_field.f a0_2 bt235.2.1).bind fun t241=>(if t241=true then ((swageref14_field.f a0_3 bt235.2.2.1).bind fun t242=>(if t242=true then (if bt235.2.2.2.1=true then (if a0_0=7 then (swageref14_RightOp.j0 k a1 (decide ((l0_5.length:Int) > 8)) a0_0 a0_1 a0_2 a0_3 a0_4 l0_5) else (if (l0_5.length:Int) > 0 then (swageref14_RightOp.j0 k a1 true a0_0 a0_1 a0_2 a0_3 a0_4 l0_5) else (swageref14_RightOp.j0 k a1 (decide ((l0_5.length:Int) > 8)) a0_0 a0_1 a0_2 a0_3 a0_4 l0_5))) else (if a0_4=0 then (if a0_0=7 then (swageref14_RightOp.j0 k a1 (decide ((l0_5.length:Int) > 8)) a0_0 a0_1 a0_2 a0_3 a0_4 l0_5) else (if (l0_5.length:Int) > 0 then (swageref14_RightOp.j0 k a1 true a0_0 a0_1 a0_2 a0_3 a0_4 l0_5) else (swageref14_RightOp.j0 k a1 (decide ((l0_5.length:Int) > 8)) a0_0 a0_1 a0_2 a0_3 a0_4 l0_5))) else (swageref14_RightOp.j0 k a1 true a0_0 a0_1 a0_2 a0_3 a0_4 l0_5))) else (swageref14_RightOp.j0 k a1 true a0_0 a0_1 a0_2 a0_3 a0_4 l0_5))) else (swageref14_RightOp.j0 k a1 true a0_0 a0_1 a0_2 a0_3 a0_4 l0_5))) else (swageref14_RightOp.j0 k a1 true a0_0 a0_1 a0_2 a0_3 a0_4 l0_5))) else (swageref14_RightOp.j0 k a1 true a0_0 a0_1 a0_2 a0_3 a0_4 l0_5))
set_option maxHeartbeats 8000000 in
set_option maxRecDepth 100000 in
theorem swageref14_RightOp.calls (k:Nat) (a0_0:Int) (a0_1:Int) (a0_2:Int) (a0_3:Int) (a0_4:Int) (A0_5:Option Addr) (c0_5:Nat) (l0_5:List Int) (a1:Int) (r:Bool) (w:World) (hr0_5:Kd.C (Kd.int .i64) w A0_5 l0_5.length l0_5) (hc0_5:l0_5.length≤c0_5) (h:swageref14_RightOp.f k a0_0 a0_1 a0_2 a0_3 a0_4 l0_5 a1=some r) :
  Calls Tryz.prog 78 #[.agg #[.int .i64 a0_0,.int .i64 a0_1,.int .i64 a0_2,.int .i64 a0_3,.int .i64 a0_4,.slice A0_5 l0_5.length c0_5],.int .i64 a1] w fun e w'=>e=.returned (.bool r)∧Below w.heap.size w w':=by
 have hu45:=Tryz.underlying45
 have HR0_5:=ak_ hr0_5
 have HC0_5:=ak_ hc0_5
 clear hr0_5 hc0_5
 have HB:=ak_ (Below.refl w.heap.size w)
 have H:((swageref14_shape.f k a0_0).bind fun bt235=>(if bt235.2.2.2.2=true then ((swageref14_field.f a0_1 bt235.1).bind fun t240=>(if t240=true then ((swageref14_field.f a0_2 bt235.2.1).bind fun t241=>(if t241=true then ((swageref14_field.f a0_3 bt235.2.2.1).bind fun t242=>(if t242=true then (if bt235.2.2.2.1=true then (if a0_0=7 then (swageref14_RightOp.j0 k a1 (decide ((l0_5.length:Int) > 8)) a0_0 a0_1 a0_2 a0_3 a0_4 l0_5) else (if (l0_5.length:Int) > 0 then (swageref14_RightOp.j0 k a1 true a0_0 a0_1 a0_2 a0_3 a0_4 l0_5) else (swageref14_RightOp.j0 k a1 (decide ((l0_5.length:Int) > 8)) a0_0 a0_1 a0_2 a0_3 a0_4 l0_5))) else (if a0_4=0 then (if a0_0=7 then (swageref14_RightOp.j0 k a1 (decide ((l0_5.length:Int) > 8)) a0_0 a0_1 a0_2 a0_3 a0_4 l0_5) else (if (l0_5.length:Int) > 0 then (swageref14_RightOp.j0 k a1 true a0_0 a0_1 a0_2 a0_3 a0_4 l0_5) else (swageref14_RightOp.j0 k a1 (decide ((l0_5.length:Int) > 8)) a0_0 a0_1 a0_2 a0_3 a0_4 l0_5))) else (swageref14_RightOp.j0 k a1 true a0_0 a0_1 a0_2 a0_3 a0_4 l0_5))) else (swageref14_RightOp.j0 k a1 true a0_0 a0_1 a0_2 a0_3 a0_4 l0_5))) else (swageref14_RightOp.j0 k a1 true a0_0 a0_1 a0_2 a0_3 a0_4 l0_5))) else (swageref14_RightOp.j0 k a1 true a0_0 a0_1 a0_2 a0_3 a0_4 l0_5))) else (swageref14_RightOp.j0 k a1 true a0_0 a0_1 a0_2 a0_3 a0_4 l0_5)))=some r:=h
 clear h
 replace H:=Option.bind_eq_some_iff.mp H
 obtain ⟨⟨t235,t236,t237,t238,t239⟩,A30,H⟩:=H
 replace H:(if t239=true then ((swageref14_field.f a0_1 t235).bind fun t240=>(if t240=true then ((swageref14_field.f a0_2 t236).bind fun t241=>(if t241=true then ((swageref14_field.f a0_3 t237).bind fun t242=>(if t242=true then (if t238=true then (if a0_0=7 then (swageref14_RightOp.j0 k a1 (decide ((l0_5.length:Int) > 8)) a0_0 a0_1 a0_2 a0_3 a0_4 l0_5) else (if (l0_5.length:Int) > 0 then (swageref14_RightOp.j0 k a1 true a0_0 a0_1 a0_2 a0_3 a0_4 l0_5) else (swageref14_RightOp.j0 k a1 (decide ((l0_5.length:Int) > 8)) a0_0 a0_1 a0_2 a0_3 a0_4 l0_5))) else (if a0_4=0 then (if a0_0=7 then (swageref14_RightOp.j0 k a1 (decide ((l0_5.length:Int) > 8)) a0_0 a0_1 a0_2 a0_3 a0_4 l0_5) else (if (l0_5.length:Int) > 0 then (swageref14_RightOp.j0 k a1 true a0_0 a0_1 a0_2 a0_3 a0_4 l0_5) else (swageref14_RightOp.j0 k a1 (decide ((l0_5.length:Int) > 8)) a0_0 a0_1 a0_2 a0_3 a0_4 l0_5))) else (swageref14_RightOp.j0 k a1 true a0_0 a0_1 a0_2 a0_3 a0_4 l0_5))) else (swageref14_RightOp.j0 k a1 true a0_0 a0_1 a0_2 a0_3 a0_4 l0_5))) else (swageref14_RightOp.j0 k a1 true a0_0 a0_1 a0_2 a0_3 a0_4 l0_5))) else (swageref14_RightOp.j0 k a1 true a0_0 a0_1 a0_2 a0_3 a0_4 l0_5))) else (swageref14_RightOp.j0 k a1 true a0_0 a0_1 a0_2 a0_3 a0_4 l0_5))=some r:=H
 have A3:=ak_ A30
 clear A30
 have HC4:=ak_ H
 clear H
 go_enter Tryz.func78,Tryz.ntmps78
 go_upto_region 2 with (first|((with_reducible refine gate_dst (N:=2) rfl ?_);(try (refine gate_guard (by rfl) ?_;dsimp only));refine box_event ?hg (N:=2) ?hd (cs:=#[.int .i64 a0_0,.int .i64 a0_1,.int .i64 a0_2,.int .i64 a0_3,.int .i64 a0_4,.slice A0_5 l0_5.length c0_5]) (t:=45) ?hr ?_;(case hd=>rfl);(case hg=>rfl);(case hr=>first|(go_simp;done)|(go_simp;rfl));intro gb234 hg w5 hbox hb;have n0_:=ak_ (below_step (bl_ HB) hb);have n1_:=ak_ (hbox);have n2_:=ak_ ((by rw [hg];exact (below_size (bl_ HB)):w.heap.size≤gb234));have n3_:=ak_ ((by rw [hg];exact (below_size (bl_ HB)):w.heap.size≤gb234));clear HB;have HB:=n0_;have BK234:=n1_;have GW234:=n2_;have GE234:=n3_;clear n0_ n1_ n2_ n3_;clear hb hbox hg;have hcz6_0:=ck_ BK234 0;have hcz6_1:=ck_ BK234 1;have hcz6_2:=ck_ BK234 2;have hcz6_3:=ck_ BK234 3;have hcz6_4:=ck_ BK234 4;have hcz6_5:=ck_ BK234 5;have hfz6_0:=fz_ BK234 0;have hfz6_1:=fz_ BK234 1;have hfz6_2:=fz_ BK234 2;have hfz6_3:=fz_ BK234 3;have hfz6_4:=fz_ BK234 4;have hfz6_5:=fz_ BK234 5)|((with_reducible refine gate_callee (f:=103) rfl ?_);refine goesL_ (some 14) rfl rfl Tryz.func103 (by kernel_rfl) rfl #[.int .i64 a0_0] rfl (by (try simp only [List.map_toArray,List.map_cons,List.map_nil]);first|done|rfl|(simp only [List.length_drop,List.length_take];rfl)) ?_;(with_reducible refine (swageref14_shape.calls k a0_0 t235 t236 t237 t238 t239 _ A3.out).mono ?_);rintro e w' ⟨rfl,⟨nd,rfl⟩⟩;refine ⟨_,rfl,?_⟩))
 (try simp only [Act.put,pa_,pb_,pc_])
 go_cut [68] (fun v68 wc=>∃ (kq:Nat) (x68_3:Bool),v68=.bool x68_3∧Aside0 (swageref14_RightOp.j0 kq a1 x68_3 a0_0 a0_1 a0_2 a0_3 a0_4 l0_5=some r)∧Aside0 (kq≤k)∧Aside0 (wc.heap[gb234]?=some (.cells #[.int .i64 a0_0,.int .i64 a0_1,.int .i64 a0_2,.int .i64 a0_3,.int .i64 a0_4,(.slice A0_5 l0_5.length c0_5)] 45 (0,0)))∧Aside0 (Below w.heap.size w wc))
 case first =>
  have H:=HC4.out
  clear HC4
  by_cases c7:t239=true
  ·subst c7
   have H1:((swageref14_field.f a0_1 t235).bind fun t240=>(if t240=true then ((swageref14_field.f a0_2 t236).bind fun t241=>(if t241=true then ((swageref14_field.f a0_3 t237).bind fun t242=>(if t242=true then (if t238=true then (if a0_0=7 then (swageref14_RightOp.j0 k a1 (decide ((l0_5.length:Int) > 8)) a0_0 a0_1 a0_2 a0_3 a0_4 l0_5) else (if (l0_5.length:Int) > 0 then (swageref14_RightOp.j0 k a1 true a0_0 a0_1 a0_2 a0_3 a0_4 l0_5) else (swageref14_RightOp.j0 k a1 (decide ((l0_5.length:Int) > 8)) a0_0 a0_1 a0_2 a0_3 a0_4 l0_5))) else (if a0_4=0 then (if a0_0=7 then (swageref14_RightOp.j0 k a1 (decide ((l0_5.length:Int) > 8)) a0_0 a0_1 a0_2 a0_3 a0_4 l0_5) else (if (l0_5.length:Int) > 0 then (swageref14_RightOp.j0 k a1 true a0_0 a0_1 a0_2 a0_3 a0_4 l0_5) else (swageref14_RightOp.j0 k a1 (decide ((l0_5.length:Int) > 8)) a0_0 a0_1 a0_2 a0_3 a0_4 l0_5))) else (swageref14_RightOp.j0 k a1 true a0_0 a0_1 a0_2 a0_3 a0_4 l0_5))) else (swageref14_RightOp.j0 k a1 true a0_0 a0_1 a0_2 a0_3 a0_4 l0_5))) else (swageref14_RightOp.j0 k a1 true a0_0 a0_1 a0_2 a0_3 a0_4 l0_5))) else (swageref14_RightOp.j0 k a1 true a0_0 a0_1 a0_2 a0_3 a0_4 l0_5)))=some r:=by rw [if_pos rfl] at H;exact H
   clear H
   have H:=H1
   clear H1
   replace H:=Option.bind_eq_some_iff.mp H
   obtain ⟨t240,A80,H⟩:=H
   replace H:(if t240=true then ((swageref14_field.f a0_2 t236).bind fun t241=>(if t241=true then ((swageref14_field.f a0_3 t237).bind fun t242=>(if t242=true then (if t238=true then (if a0_0=7 then (swageref14_RightOp.j0 k a1 (decide ((l0_5.length:Int) > 8)) a0_0 a0_1 a0_2 a0_3 a0_4 l0_5) else (if (l0_5.length:Int) > 0 then (swageref14_RightOp.j0 k a1 true a0_0 a0_1 a0_2 a0_3 a0_4 l0_5) else (swageref14_RightOp.j0 k a1 (decide ((l0_5.length:Int) > 8)) a0_0 a0_1 a0_2 a0_3 a0_4 l0_5))) else (if a0_4=0 then (if a0_0=7 then (swageref14_RightOp.j0 k a1 (decide ((l0_5.length:Int) > 8)) a0_0 a0_1 a0_2 a0_3 a0_4 l0_5) else (if (l0_5.length:Int) > 0 then (swageref14_RightOp.j0 k a1 true a0_0 a0_1 a0_2 a0_3 a0_4 l0_5) else (swageref14_RightOp.j0 k a1 (decide ((l0_5.length:Int) > 8)) a0_0 a0_1 a0_2 a0_3 a0_4 l0_5))) else (swageref14_RightOp.j0 k a1 true a0_0 a0_1 a0_2 a0_3 a0_4 l0_5))) else (swageref14_RightOp.j0 k a1 true a0_0 a0_1 a0_2 a0_3 a0_4 l0_5))) else (swageref14_RightOp.j0 k a1 true a0_0 a0_1 a0_2 a0_3 a0_4 l0_5))) else (swageref14_RightOp.j0 k a1 true a0_0 a0_1 a0_2 a0_3 a0_4 l0_5))=some r:=H
   have A8:=ak_ A80
   clear A80
   by_cases c9:t240=true
   ·subst c9
    have H1:((swageref14_field.f a0_2 t236).bind fun t241=>(if t241=true then ((swageref14_field.f a0_3 t237).bind fun t242=>(if t242=true then (if t238=true then (if a0_0=7 then (swageref14_RightOp.j0 k a1 (decide ((l0_5.length:Int) > 8)) a0_0 a0_1 a0_2 a0_3 a0_4 l0_5) else (if (l0_5.length:Int) > 0 then (swageref14_RightOp.j0 k a1 true a0_0 a0_1 a0_2 a0_3 a0_4 l0_5) else (swageref14_RightOp.j0 k a1 (decide ((l0_5.length:Int) > 8)) a0_0 a0_1 a0_2 a0_3 a0_4 l0_5))) else (if a0_4=0 then (if a0_0=7 then (swageref14_RightOp.j0 k a1 (decide ((l0_5.length:Int) > 8)) a0_0 a0_1 a0_2 a0_3 a0_4 l0_5) else (if (l0_5.length:Int) > 0 then (swageref14_RightOp.j0 k a1 true a0_0 a0_1 a0_2 a0_3 a0_4 l0_5) else (swageref14_RightOp.j0 k a1 (decide ((l0_5.length:Int) > 8)) a0_0 a0_1 a0_2 a0_3 a0_4 l0_5))) else (swageref14_RightOp.j0 k a1 true a0_0 a0_1 a0_2 a0_3 a0_4 l0_5))) else (swageref14_RightOp.j0 k a1 true a0_0 a0_1 a0_2 a0_3 a0_4 l0_5))) else (swageref14_RightOp.j0 k a1 true a0_0 a0_1 a0_2 a0_3 a0_4 l0_5)))=some r:=by rw [if_pos rfl] at H;exact H
    clear H
    have H:=H1
    clear H1
    replace H:=Option.bind_eq_some_iff.mp H
    obtain ⟨t241,A100,H⟩:=H
    replace H:(if t241=true then ((swageref14_field.f a0_3 t237).bind fun t242=>(if t242=true then (if t238=true then (if a0_0=7 then (swageref14_RightOp.j0 k a1 (decide ((l0_5.length:Int) > 8)) a0_0 a0_1 a0_2 a0_3 a0_4 l0_5) else (if (l0_5.length:Int) > 0 then (swageref14_RightOp.j0 k a1 true a0_0 a0_1 a0_2 a0_3 a0_4 l0_5) else (swageref14_RightOp.j0 k a1 (decide ((l0_5.length:Int) > 8)) a0_0 a0_1 a0_2 a0_3 a0_4 l0_5))) else (if a0_4=0 then (if a0_0=7 then (swageref14_RightOp.j0 k a1 (decide ((l0_5.length:Int) > 8)) a0_0 a0_1 a0_2 a0_3 a0_4 l0_5) else (if (l0_5.length:Int) > 0 then (swageref14_RightOp.j0 k a1 true a0_0 a0_1 a0_2 a0_3 a0_4 l0_5) else (swageref14_RightOp.j0 k a1 (decide ((l0_5.length:Int) > 8)) a0_0 a0_1 a0_2 a0_3 a0_4 l0_5))) else (swageref14_RightOp.j0 k a1 true a0_0 a0_1 a0_2 a0_3 a0_4 l0_5))) else (swageref14_RightOp.j0 k a1 true a0_0 a0_1 a0_2 a0_3 a0_4 l0_5))) else (swageref14_RightOp.j0 k a1 true a0_0 a0_1 a0_2 a0_3 a0_4 l0_5))=some r:=H
    have A10:=ak_ A100
    clear A100
    by_cases c11:t241=true
    ·subst c11
     have H1:((swageref14_field.f a0_3 t237).bind fun t242=>(if t242=true then (if t238=true then (if a0_0=7 then (swageref14_RightOp.j0 k a1 (decide ((l0_5.length:Int) > 8)) a0_0 a0_1 a0_2 a0_3 a0_4 l0_5) else (if (l0_5.length:Int) > 0 then (swageref14_RightOp.j0 k a1 true a0_0 a0_1 a0_2 a0_3 a0_4 l0_5) else (swageref14_RightOp.j0 k a1 (decide ((l0_5.length:Int) > 8)) a0_0 a0_1 a0_2 a0_3 a0_4 l0_5))) else (if a0_4=0 then (if a0_0=7 then (swageref14_RightOp.j0 k a1 (decide ((l0_5.length:Int) > 8)) a0_0 a0_1 a0_2 a0_3 a0_4 l0_5) else (if (l0_5.length:Int) > 0 then (swageref14_RightOp.j0 k a1 true a0_0 a0_1 a0_2 a0_3 a0_4 l0_5) else (swageref14_RightOp.j0 k a1 (decide ((l0_5.length:Int) > 8)) a0_0 a0_1 a0_2 a0_3 a0_4 l0_5))) else (swageref14_RightOp.j0 k a1 true a0_0 a0_1 a0_2 a0_3 a0_4 l0_5))) else (swageref14_RightOp.j0 k a1 true a0_0 a0_1 a0_2 a0_3 a0_4 l0_5)))=some r:=by rw [if_pos rfl] at H;exact H
     clear H
     have H:=H1
     clear H1
     replace H:=Option.bind_eq_some_iff.mp H
     obtain ⟨t242,A120,H⟩:=H
     replace H:(if t242=true then (if t238=true then (if a0_0=7 then (swageref14_RightOp.j0 k a1 (decide ((l0_5.length:Int) > 8)) a0_0 a0_1 a0_2 a0_3 a0_4 l0_5) else (if (l0_5.length:Int) > 0 then (swageref14_RightOp.j0 k a1 true a0_0 a0_1 a0_2 a0_3 a0_4 l0_5) else (swageref14_RightOp.j0 k a1 (decide ((l0_5.length:Int) > 8)) a0_0 a0_1 a0_2 a0_3 a0_4 l0_5))) else (if a0_4=0 then (if a0_0=7 then (swageref14_RightOp.j0 k a1 (decide ((l0_5.length:Int) > 8)) a0_0 a0_1 a0_2 a0_3 a0_4 l0_5) else (if (l0_5.length:Int) > 0 then (swageref14_RightOp.j0 k a1 true a0_0 a0_1 a0_2 a0_3 a0_4 l0_5) else (swageref14_RightOp.j0 k a1 (decide ((l0_5.length:Int) > 8)) a0_0 a0_1 a0_2 a0_3 a0_4 l0_5))) else (swageref14_RightOp.j0 k a1 true a0_0 a0_1 a0_2 a0_3 a0_4 l0_5))) else (swageref14_RightOp.j0 k a1 true a0_0 a0_1 a0_2 a0_3 a0_4 l0_5))=some r:=H
     have A12:=ak_ A120
     clear A120
     by_cases c13:t242=true
     ·subst c13
      have H1:(if t238=true then (if a0_0=7 then (swageref14_RightOp.j0 k a1 (decide ((l0_5.length:Int) > 8)) a0_0 a0_1 a0_2 a0_3 a0_4 l0_5) else (if (l0_5.length:Int) > 0 then (swageref14_RightOp.j0 k a1 true a0_0 a0_1 a0_2 a0_3 a0_4 l0_5) else (swageref14_RightOp.j0 k a1 (decide ((l0_5.length:Int) > 8)) a0_0 a0_1 a0_2 a0_3 a0_4 l0_5))) else (if a0_4=0 then (if a0_0=7 then (swageref14_RightOp.j0 k a1 (decide ((l0_5.length:Int) > 8)) a0_0 a0_1 a0_2 a0_3 a0_4 l0_5) else (if (l0_5.length:Int) > 0 then (swageref14_RightOp.j0 k a1 true a0_0 a0_1 a0_2 a0_3 a0_4 l0_5) else (swageref14_RightOp.j0 k a1 (decide ((l0_5.length:Int) > 8)) a0_0 a0_1 a0_2 a0_3 a0_4 l0_5))) else (swageref14_RightOp.j0 k a1 true a0_0 a0_1 a0_2 a0_3 a0_4 l0_5)))=some r:=by rw [if_pos rfl] at H;exact H
      clear H
      have H:=H1
      clear H1
      by_cases c14:t238=true
      ·subst c14
       have H1:(if a0_0=7 then (swageref14_RightOp.j0 k a1 (decide ((l0_5.length:Int) > 8)) a0_0 a0_1 a0_2 a0_3 a0_4 l0_5) else (if (l0_5.length:Int) > 0 then (swageref14_RightOp.j0 k a1 true a0_0 a0_1 a0_2 a0_3 a0_4 l0_5) else (swageref14_RightOp.j0 k a1 (decide ((l0_5.length:Int) > 8)) a0_0 a0_1 a0_2 a0_3 a0_4 l0_5)))=some r:=by rw [if_pos rfl] at H;exact H
       clear H
       have H:=H1
       clear H1
       by_cases c15:a0_0=7
       ·rw [if_pos c15] at H
        have c15b0:(a0_0 == 7)=true:=beq_iff_eq.mpr c15
        have c15b1:(a0_0 != 7)=false:=bne_eq_false_iff_eq.mpr c15
        clear c15
        (first|rw [c15b0]|(simp only [i64_w,i32_w];rw [c15b0])|skip)
        have H':=ak_ H
        clear H
        have hcz16_0:=ck_ BK234 0
        have hcz16_1:=ck_ BK234 1
        have hcz16_2:=ck_ BK234 2
        have hcz16_3:=ck_ BK234 3
        have hcz16_4:=ck_ BK234 4
        have hcz16_5:=ck_ BK234 5
        have hfz16_0:=fz_ BK234 0
        have hfz16_1:=fz_ BK234 1
        have hfz16_2:=fz_ BK234 2
        have hfz16_3:=fz_ BK234 3
        have hfz16_4:=fz_ BK234 4
        have hfz16_5:=fz_ BK234 5
        go_wp2_with (first|(go_at_call 104;(with_reducible refine (swageref14_field.calls a0_1 t235 true _ A8.out).mono ?_);rintro e w' ⟨rfl,⟨nd,rfl⟩⟩)|(go_at_call 104;(with_reducible refine (swageref14_field.calls a0_2 t236 true _ A10.out).mono ?_);rintro e w' ⟨rfl,⟨nd,rfl⟩⟩)|(go_at_call 104;(with_reducible refine (swageref14_field.calls a0_3 t237 true _ A12.out).mono ?_);rintro e w' ⟨rfl,⟨nd,rfl⟩⟩))
        go_meet
        case rel=>exact ⟨_,(decide ((l0_5.length:Int) > 8)),(by first|rfl|(simp;done)|(simp [*];done)),H',⟨by first|omega|exact Nat.le_refl _⟩,⟨bk_ BK234⟩,⟨bl_ HB⟩⟩
       ·rw [if_neg c15] at H
        have c15b0:(a0_0 == 7)=false:=beq_eq_false_iff_ne.mpr c15
        have c15b1:(a0_0 != 7)=true:=bne_iff_ne.mpr c15
        (first|rw [c15b0]|(simp only [i64_w,i32_w];rw [c15b0])|skip)
        by_cases c17:(l0_5.length:Int) > 0
        ·rw [if_pos c17] at H
         have c17b0:decide (0<(l0_5.length:Int))=true:=decide_eq_true c17
         have c17b1:decide (0<l0_5.length)=true:=decide_eq_true (by omega)
         clear c17
         have H':=ak_ H
         clear H
         have hcz18_0:=ck_ BK234 0
         have hcz18_1:=ck_ BK234 1
         have hcz18_2:=ck_ BK234 2
         have hcz18_3:=ck_ BK234 3
         have hcz18_4:=ck_ BK234 4
         have hcz18_5:=ck_ BK234 5
         have hfz18_0:=fz_ BK234 0
         have hfz18_1:=fz_ BK234 1
         have hfz18_2:=fz_ BK234 2
         have hfz18_3:=fz_ BK234 3
         have hfz18_4:=fz_ BK234 4
         have hfz18_5:=fz_ BK234 5
         go_wp2_with (first|(go_at_call 104;(with_reducible refine (swageref14_field.calls a0_1 t235 true _ A8.out).mono ?_);rintro e w' ⟨rfl,⟨nd,rfl⟩⟩)|(go_at_call 104;(with_reducible refine (swageref14_field.calls a0_2 t236 true _ A10.out).mono ?_);rintro e w' ⟨rfl,⟨nd,rfl⟩⟩)|(go_at_call 104;(with_reducible refine (swageref14_field.calls a0_3 t237 true _ A12.out).mono ?_);rintro e w' ⟨rfl,⟨nd,rfl⟩⟩))
         go_meet
         case rel=>exact ⟨_,(true),(by first|rfl|(simp;done)|(simp [*];done)),H',⟨by first|omega|exact Nat.le_refl _⟩,⟨bk_ BK234⟩,⟨bl_ HB⟩⟩
        ·rw [if_neg c17] at H
         have c17b0:decide (0<(l0_5.length:Int))=false:=decide_eq_false c17
         have c17b1:decide (0<l0_5.length)=false:=decide_eq_false (by omega)
         clear c17
         have H':=ak_ H
         clear H
         have hcz19_0:=ck_ BK234 0
         have hcz19_1:=ck_ BK234 1
         have hcz19_2:=ck_ BK234 2
         have hcz19_3:=ck_ BK234 3
         have hcz19_4:=ck_ BK234 4
         have hcz19_5:=ck_ BK234 5
         have hfz19_0:=fz_ BK234 0
         have hfz19_1:=fz_ BK234 1
         have hfz19_2:=fz_ BK234 2
         have hfz19_3:=fz_ BK234 3
         have hfz19_4:=fz_ BK234 4
         have hfz19_5:=fz_ BK234 5
         go_wp2_with (first|(go_at_call 104;(with_reducible refine (swageref14_field.calls a0_1 t235 true _ A8.out).mono ?_);rintro e w' ⟨rfl,⟨nd,rfl⟩⟩)|(go_at_call 104;(with_reducible refine (swageref14_field.calls a0_2 t236 true _ A10.out).mono ?_);rintro e w' ⟨rfl,⟨nd,rfl⟩⟩)|(go_at_call 104;(with_reducible refine (swageref14_field.calls a0_3 t237 true _ A12.out).mono ?_);rintro e w' ⟨rfl,⟨nd,rfl⟩⟩))
         go_meet
         case rel=>exact ⟨_,(decide ((l0_5.length:Int) > 8)),(by first|rfl|(simp;done)|(simp [*];done)),H',⟨by first|omega|exact Nat.le_refl _⟩,⟨bk_ BK234⟩,⟨bl_ HB⟩⟩
      ·replace c14:=Bool.eq_false_iff.mpr c14
       subst c14
       have H1:(if a0_4=0 then (if a0_0=7 then (swageref14_RightOp.j0 k a1 (decide ((l0_5.length:Int) > 8)) a0_0 a0_1 a0_2 a0_3 a0_4 l0_5) else (if (l0_5.length:Int) > 0 then (swageref14_RightOp.j0 k a1 true a0_0 a0_1 a0_2 a0_3 a0_4 l0_5) else (swageref14_RightOp.j0 k a1 (decide ((l0_5.length:Int) > 8)) a0_0 a0_1 a0_2 a0_3 a0_4 l0_5))) else (swageref14_RightOp.j0 k a1 true a0_0 a0_1 a0_2 a0_3 a0_4 l0_5))=some r:=by rw [if_neg (show ¬ (false=true) by decide)] at H;exact H
       clear H
       have H:=H1
       clear H1
       by_cases c20:a0_4=0
       ·rw [if_pos c20] at H
        have c20b0:(a0_4 == 0)=true:=beq_iff_eq.mpr c20
        have c20b1:(a0_4 != 0)=false:=bne_eq_false_iff_eq.mpr c20
        clear c20
        by_cases c21:a0_0=7
        ·rw [if_pos c21] at H
         have c21b0:(a0_0 == 7)=true:=beq_iff_eq.mpr c21
         have c21b1:(a0_0 != 7)=false:=bne_eq_false_iff_eq.mpr c21
         clear c21
         have H':=ak_ H
         clear H
         have hcz22_0:=ck_ BK234 0
         have hcz22_1:=ck_ BK234 1
         have hcz22_2:=ck_ BK234 2
         have hcz22_3:=ck_ BK234 3
         have hcz22_4:=ck_ BK234 4
         have hcz22_5:=ck_ BK234 5
         have hfz22_0:=fz_ BK234 0
         have hfz22_1:=fz_ BK234 1
         have hfz22_2:=fz_ BK234 2
         have hfz22_3:=fz_ BK234 3
         have hfz22_4:=fz_ BK234 4
         have hfz22_5:=fz_ BK234 5
         go_wp2_with (first|(go_at_call 104;(with_reducible refine (swageref14_field.calls a0_1 t235 true _ A8.out).mono ?_);rintro e w' ⟨rfl,⟨nd,rfl⟩⟩)|(go_at_call 104;(with_reducible refine (swageref14_field.calls a0_2 t236 true _ A10.out).mono ?_);rintro e w' ⟨rfl,⟨nd,rfl⟩⟩)|(go_at_call 104;(with_reducible refine (swageref14_field.calls a0_3 t237 true _ A12.out).mono ?_);rintro e w' ⟨rfl,⟨nd,rfl⟩⟩))
         go_meet
         case rel=>exact ⟨_,(decide ((l0_5.length:Int) > 8)),(by first|rfl|(simp;done)|(simp [*];done)),H',⟨by first|omega|exact Nat.le_refl _⟩,⟨bk_ BK234⟩,⟨bl_ HB⟩⟩
        ·rw [if_neg c21] at H
         have c21b0:(a0_0 == 7)=false:=beq_eq_false_iff_ne.mpr c21
         have c21b1:(a0_0 != 7)=true:=bne_iff_ne.mpr c21
         by_cases c23:(l0_5.length:Int) > 0
         ·rw [if_pos c23] at H
          have c23b0:decide (0<(l0_5.length:Int))=true:=decide_eq_true c23
          have c23b1:decide (0<l0_5.length)=true:=decide_eq_true (by omega)
          clear c23
          have H':=ak_ H
          clear H
          have hcz24_0:=ck_ BK234 0
          have hcz24_1:=ck_ BK234 1
          have hcz24_2:=ck_ BK234 2
          have hcz24_3:=ck_ BK234 3
          have hcz24_4:=ck_ BK234 4
          have hcz24_5:=ck_ BK234 5
          have hfz24_0:=fz_ BK234 0
          have hfz24_1:=fz_ BK234 1
          have hfz24_2:=fz_ BK234 2
          have hfz24_3:=fz_ BK234 3
          have hfz24_4:=fz_ BK234 4
          have hfz24_5:=fz_ BK234 5
          go_wp2_with (first|(go_at_call 104;(with_reducible refine (swageref14_field.calls a0_1 t235 true _ A8.out).mono ?_);rintro e w' ⟨rfl,⟨nd,rfl⟩⟩)|(go_at_call 104;(with_reducible refine (swageref14_field.calls a0_2 t236 true _ A10.out).mono ?_);rintro e w' ⟨rfl,⟨nd,rfl⟩⟩)|(go_at_call 104;(with_reducible refine (swageref14_field.calls a0_3 t237 true _ A12.out).mono ?_);rintro e w' ⟨rfl,⟨nd,rfl⟩⟩))
          go_meet
          case rel=>exact ⟨_,(true),(by first|rfl|(simp;done)|(simp [*];done)),H',⟨by first|omega|exact Nat.le_refl _⟩,⟨bk_ BK234⟩,⟨bl_ HB⟩⟩
         ·rw [if_neg c23] at H
          have c23b0:decide (0<(l0_5.length:Int))=false:=decide_eq_false c23
          have c23b1:decide (0<l0_5.length)=false:=decide_eq_false (by omega)
          clear c23
          have H':=ak_ H
          clear H
          have hcz25_0:=ck_ BK234 0
          have hcz25_1:=ck_ BK234 1
          have hcz25_2:=ck_ BK234 2
          have hcz25_3:=ck_ BK234 3
          have hcz25_4:=ck_ BK234 4
          have hcz25_5:=ck_ BK234 5
          have hfz25_0:=fz_ BK234 0
          have hfz25_1:=fz_ BK234 1
          have hfz25_2:=fz_ BK234 2
          have hfz25_3:=fz_ BK234 3
          have hfz25_4:=fz_ BK234 4
          have hfz25_5:=fz_ BK234 5
          go_wp2_with (first|(go_at_call 104;(with_reducible refine (swageref14_field.calls a0_1 t235 true _ A8.out).mono ?_);rintro e w' ⟨rfl,⟨nd,rfl⟩⟩)|(go_at_call 104;(with_reducible refine (swageref14_field.calls a0_2 t236 true _ A10.out).mono ?_);rintro e w' ⟨rfl,⟨nd,rfl⟩⟩)|(go_at_call 104;(with_reducible refine (swageref14_field.calls a0_3 t237 true _ A12.out).mono ?_);rintro e w' ⟨rfl,⟨nd,rfl⟩⟩))
          go_meet
          case rel=>exact ⟨_,(decide ((l0_5.length:Int) > 8)),(by first|rfl|(simp;done)|(simp [*];done)),H',⟨by first|omega|exact Nat.le_refl _⟩,⟨bk_ BK234⟩,⟨bl_ HB⟩⟩
       ·rw [if_neg c20] at H
        have c20b0:(a0_4 == 0)=false:=beq_eq_false_iff_ne.mpr c20
        have c20b1:(a0_4 != 0)=true:=bne_iff_ne.mpr c20
        have H':=ak_ H
        clear H
        have hcz26_0:=ck_ BK234 0
        have hcz26_1:=ck_ BK234 1
        have hcz26_2:=ck_ BK234 2
        have hcz26_3:=ck_ BK234 3
        have hcz26_4:=ck_ BK234 4
        have hcz26_5:=ck_ BK234 5
        have hfz26_0:=fz_ BK234 0
        have hfz26_1:=fz_ BK234 1
        have hfz26_2:=fz_ BK234 2
        have hfz26_3:=fz_ BK234 3
        have hfz26_4:=fz_ BK234 4
        have hfz26_5:=fz_ BK234 5
        go_wp2_with (first|(go_at_call 104;(with_reducible refine (swageref14_field.calls a0_1 t235 true _ A8.out).mono ?_);rintro e w' ⟨rfl,⟨nd,rfl⟩⟩)|(go_at_call 104;(with_reducible refine (swageref14_field.calls a0_2 t236 true _ A10.out).mono ?_);rintro e w' ⟨rfl,⟨nd,rfl⟩⟩)|(go_at_call 104;(with_reducible refine (swageref14_field.calls a0_3 t237 true _ A12.out).mono ?_);rintro e w' ⟨rfl,⟨nd,rfl⟩⟩))
        go_meet
        case rel=>exact ⟨_,(true),(by first|rfl|(simp;done)|(simp [*];done)),H',⟨by first|omega|exact Nat.le_refl _⟩,⟨bk_ BK234⟩,⟨bl_ HB⟩⟩
     ·replace c13:=Bool.eq_false_iff.mpr c13
      subst c13
      have H1:(swageref14_RightOp.j0 k a1 true a0_0 a0_1 a0_2 a0_3 a0_4 l0_5)=some r:=by rw [if_neg (show ¬ (false=true) by decide)] at H;exact H
      clear H
      have H:=H1
      clear H1
      have H':=ak_ H
      clear H
      have hcz27_0:=ck_ BK234 0
      have hcz27_1:=ck_ BK234 1
      have hcz27_2:=ck_ BK234 2
      have hcz27_3:=ck_ BK234 3
      have hcz27_4:=ck_ BK234 4
      have hcz27_5:=ck_ BK234 5
      have hfz27_0:=fz_ BK234 0
      have hfz27_1:=fz_ BK234 1
      have hfz27_2:=fz_ BK234 2
      have hfz27_3:=fz_ BK234 3
      have hfz27_4:=fz_ BK234 4
      have hfz27_5:=fz_ BK234 5
      go_wp2_with (first|(go_at_call 104;(with_reducible refine (swageref14_field.calls a0_1 t235 true _ A8.out).mono ?_);rintro e w' ⟨rfl,⟨nd,rfl⟩⟩)|(go_at_call 104;(with_reducible refine (swageref14_field.calls a0_2 t236 true _ A10.out).mono ?_);rintro e w' ⟨rfl,⟨nd,rfl⟩⟩)|(go_at_call 104;(with_reducible refine (swageref14_field.calls a0_3 t237 false _ A12.out).mono ?_);rintro e w' ⟨rfl,⟨nd,rfl⟩⟩))
      go_meet
      case rel=>exact ⟨_,(true),(by first|rfl|(simp;done)|(simp [*];done)),H',⟨by first|omega|exact Nat.le_refl _⟩,⟨bk_ BK234⟩,⟨bl_ HB⟩⟩
    ·replace c11:=Bool.eq_false_iff.mpr c11
     subst c11
     have H1:(swageref14_RightOp.j0 k a1 true a0_0 a0_1 a0_2 a0_3 a0_4 l0_5)=some r:=by rw [if_neg (show ¬ (false=true) by decide)] at H;exact H
     clear H
     have H:=H1
     clear H1
     have H':=ak_ H
     clear H
     have hcz28_0:=ck_ BK234 0
     have hcz28_1:=ck_ BK234 1
     have hcz28_2:=ck_ BK234 2
     have hcz28_3:=ck_ BK234 3
     have hcz28_4:=ck_ BK234 4
     have hcz28_5:=ck_ BK234 5
     have hfz28_0:=fz_ BK234 0
     have hfz28_1:=fz_ BK234 1
     have hfz28_2:=fz_ BK234 2
     have hfz28_3:=fz_ BK234 3
     have hfz28_4:=fz_ BK234 4
     have hfz28_5:=fz_ BK234 5
     go_wp2_with (first|(go_at_call 104;(with_reducible refine (swageref14_field.calls a0_1 t235 true _ A8.out).mono ?_);rintro e w' ⟨rfl,⟨nd,rfl⟩⟩)|(go_at_call 104;(with_reducible refine (swageref14_field.calls a0_2 t236 false _ A10.out).mono ?_);rintro e w' ⟨rfl,⟨nd,rfl⟩⟩))
     go_meet
     case rel=>exact ⟨_,(true),(by first|rfl|(simp;done)|(simp [*];done)),H',⟨by first|omega|exact Nat.le_refl _⟩,⟨bk_ BK234⟩,⟨bl_ HB⟩⟩
   ·replace c9:=Bool.eq_false_iff.mpr c9
    subst c9
    have H1:(swageref14_RightOp.j0 k a1 true a0_0 a0_1 a0_2 a0_3 a0_4 l0_5)=some r:=by rw [if_neg (show ¬ (false=true) by decide)] at H;exact H
    clear H
    have H:=H1
    clear H1
    have H':=ak_ H
    clear H
    have hcz29_0:=ck_ BK234 0
    have hcz29_1:=ck_ BK234 1
    have hcz29_2:=ck_ BK234 2
    have hcz29_3:=ck_ BK234 3
    have hcz29_4:=ck_ BK234 4
    have hcz29_5:=ck_ BK234 5
    have hfz29_0:=fz_ BK234 0
    have hfz29_1:=fz_ BK234 1
    have hfz29_2:=fz_ BK234 2
    have hfz29_3:=fz_ BK234 3
    have hfz29_4:=fz_ BK234 4
    have hfz29_5:=fz_ BK234 5
    go_wp2_with (first|(go_at_call 104;(with_reducible refine (swageref14_field.calls a0_1 t235 false _ A8.out).mono ?_);rintro e w' ⟨rfl,⟨nd,rfl⟩⟩))
    go_meet
    case rel=>exact ⟨_,(true),(by first|rfl|(simp;done)|(simp [*];done)),H',⟨by first|omega|exact Nat.le_refl _⟩,⟨bk_ BK234⟩,⟨bl_ HB⟩⟩
  ·replace c7:=Bool.eq_false_iff.mpr c7
   subst c7
   have H1:(swageref14_RightOp.j0 k a1 true a0_0 a0_1 a0_2 a0_3 a0_4 l0_5)=some r:=by rw [if_neg (show ¬ (false=true) by decide)] at H;exact H
   clear H
   have H:=H1
   clear H1
   have H':=ak_ H
   clear H
   go_wp2
   go_meet
   case rel=>exact ⟨_,(true),(by first|rfl|(simp;done)|(simp [*];done)),H',⟨by first|omega|exact Nat.le_refl _⟩,⟨bk_ BK234⟩,⟨bl_ HB⟩⟩
 case rest =>
  clear HC4
  obtain ⟨kq,x68_3,rfl,HA,HJ3,BK234,HB⟩:=hcut
  cases kq with
  | zero=>exact absurd HA.out (by simp [swageref14_RightOp.j0])
  | succ kj3 =>
   have H:=HA.out
   clear HA
   simp only [swageref14_RightOp.j0] at H
   by_cases c30:x68_3=true
   ·subst c30
    have H1:(some false)=some r:=by rw [if_pos rfl] at H;exact H
    clear H
    have H:=H1
    clear H1
    obtain rfl:=Option.some.inj H
    go_wp2
    go_ret
    exact ⟨by first|rfl|(simp [errW_none,errW_some]<;>rfl)|(simp [*,errW_none,errW_some]<;>rfl),bl_ HB⟩
   ·replace c30:=Bool.eq_false_iff.mpr c30
    subst c30
    have H1:(swageref14_RightOp.l0 kj3 a1 0 a0_0 a0_1 a0_2 a0_3 a0_4 l0_5)=some r:=by rw [if_neg (show ¬ (false=true) by decide)] at H;exact H
    clear H
    have H:=H1
    clear H1
    have H':=ak_ H
    clear H
    go_wp2
    go_loopg [10] kj3 (fun kq v10 w'=>∃ (x10_2:Int),v10=.int .i64 x10_2∧Aside0 (swageref14_RightOp.l0 kq a1 x10_2 a0_0 a0_1 a0_2 a0_3 a0_4 l0_5=some r)∧Aside0 (kq≤kj3)∧Aside0 (w'.heap[gb234]?=some (.cells #[.int .i64 a0_0,.int .i64 a0_1,.int .i64 a0_2,.int .i64 a0_3,.int .i64 a0_4,(.slice A0_5 l0_5.length c0_5)] 45 (0,0)))∧Aside0 (Below w.heap.size w w'))
    case atStart=>exact ⟨(0),(by first|rfl|(simp;done)|(simp [*];done)),H',⟨Nat.le_refl _⟩,⟨bk_ BK234⟩,⟨bl_ HB⟩⟩
    case round =>
     clear H'
     obtain ⟨x10_2,rfl,HA,HK2,BK234,HB⟩:=hrel
     cases gk with
     | zero=>exact absurd HA.out (by simp [swageref14_RightOp.l0])
     | succ k2 =>
      have H:=HA.out
      clear HA
      simp only [swageref14_RightOp.l0] at H
      by_cases c31:x10_2<(l0_5.length:Int)
      ·rw [if_pos c31] at H
       have c31b0:decide (x10_2<(l0_5.length:Int))=true:=decide_eq_true c31
       clear c31
       by_cases c32:0≤x10_2
       ·rw [if_pos c32] at H
        have c32b0:decide (0≤x10_2)=true:=decide_eq_true c32
        clear c32
        replace H:=Option.bind_eq_some_iff.mp H
        obtain ⟨t244,A330,H⟩:=H
        replace H:(if t244=true then (swageref14_RightOp.l0 k2 a1 (wrap64 (x10_2+1)) a0_0 a0_1 a0_2 a0_3 a0_4 l0_5) else (some false))=some r:=H
        have A33:=ak_ A330
        clear A330
        by_cases c34:t244=true
        ·subst c34
         have H1:(swageref14_RightOp.l0 k2 a1 (wrap64 (x10_2+1)) a0_0 a0_1 a0_2 a0_3 a0_4 l0_5)=some r:=by rw [if_pos rfl] at H;exact H
         clear H
         have H:=H1
         clear H1
         have H':=ak_ H
         clear H
         have hcz35_0:=ck_ BK234 0
         have hcz35_1:=ck_ BK234 1
         have hcz35_2:=ck_ BK234 2
         have hcz35_3:=ck_ BK234 3
         have hcz35_4:=ck_ BK234 4
         have hcz35_5:=ck_ BK234 5
         have hfz35_0:=fz_ BK234 0
         have hfz35_1:=fz_ BK234 1
         have hfz35_2:=fz_ BK234 2
         have hfz35_3:=fz_ BK234 3
         have hfz35_4:=fz_ BK234 4
         have hfz35_5:=fz_ BK234 5
         have p243:0≤(x10_2:Int):=of_decide_eq_true (by first|(with_reducible assumption)|assumption)
         have q243:x10_2<(l0_5.length:Int):=of_decide_eq_true (by first|(with_reducible assumption)|assumption)
         obtain ⟨ad243,e243,hx243_0⟩:=Kd.at_int HR0_5.out x10_2 p243 q243
         cases e243
         replace hx243_0:=cl_ HB hx243_0
         replace p243:=eq_true p243
         replace q243:=eq_true q243
         go_wp2_with (first|((with_reducible refine gate_callee (f:=102) rfl ?_);refine goesL_ (some 81) rfl rfl Tryz.func102 (by kernel_rfl) rfl #[.int .i64 (rd l0_5 x10_2)] rfl (by (try simp only [List.map_toArray,List.map_cons,List.map_nil]);first|done|rfl|(simp only [List.length_drop,List.length_take];rfl)) ?_;(with_reducible refine (swageref14_reg.calls (rd l0_5 x10_2) true _ A33.out).mono ?_);rintro e w' ⟨rfl,⟨nd,rfl⟩⟩;refine ⟨_,rfl,?_⟩))
         go_roundg k2
         case measure=>have:=HJ3.out;have:=HK2.out;omega
         case rel=>exact ⟨(wrap64 (x10_2+1)),(by first|rfl|(simp;done)|(simp [*];done)),H',⟨by have:=HJ3.out;have:=HK2.out;omega⟩,⟨bk_ BK234⟩,⟨bl_ HB⟩⟩
        ·replace c34:=Bool.eq_false_iff.mpr c34
         subst c34
         have H1:(some false)=some r:=by rw [if_neg (show ¬ (false=true) by decide)] at H;exact H
         clear H
         have H:=H1
         clear H1
         obtain rfl:=Option.some.inj H
         have hcz36_0:=ck_ BK234 0
         have hcz36_1:=ck_ BK234 1
         have hcz36_2:=ck_ BK234 2
         have hcz36_3:=ck_ BK234 3
         have hcz36_4:=ck_ BK234 4
         have hcz36_5:=ck_ BK234 5
         have hfz36_0:=fz_ BK234 0
         have hfz36_1:=fz_ BK234 1
         have hfz36_2:=fz_ BK234 2
         have hfz36_3:=fz_ BK234 3
         have hfz36_4:=fz_ BK234 4
         have hfz36_5:=fz_ BK234 5
         have p243:0≤(x10_2:Int):=of_decide_eq_true (by first|(with_reducible assumption)|assumption)
         have q243:x10_2<(l0_5.length:Int):=of_decide_eq_true (by first|(with_reducible assumption)|assumption)
         obtain ⟨ad243,e243,hx243_0⟩:=Kd.at_int HR0_5.out x10_2 p243 q243
         cases e243
         replace hx243_0:=cl_ HB hx243_0
         replace p243:=eq_true p243
         replace q243:=eq_true q243
         go_wp2_with (first|((with_reducible refine gate_callee (f:=102) rfl ?_);refine goesL_ (some 81) rfl rfl Tryz.func102 (by kernel_rfl) rfl #[.int .i64 (rd l0_5 x10_2)] rfl (by (try simp only [List.map_toArray,List.map_cons,List.map_nil]);first|done|rfl|(simp only [List.length_drop,List.length_take];rfl)) ?_;(with_reducible refine (swageref14_reg.calls (rd l0_5 x10_2) false _ A33.out).mono ?_);rintro e w' ⟨rfl,⟨nd,rfl⟩⟩;refine ⟨_,rfl,?_⟩))
         go_ret
         exact ⟨by first|rfl|(simp [errW_none,errW_some]<;>rfl)|(simp [*,errW_none,errW_some]<;>rfl),bl_ HB⟩
       ·rw [if_neg c32] at H
        exact absurd H (by simp)
      ·rw [if_neg c31] at H
       have c31b0:decide (x10_2<(l0_5.length:Int))=false:=decide_eq_false c31
       clear c31
       by_cases c37:a0_0=2
       ·rw [if_pos c37] at H
        have c37b0:(a0_0 == 2)=true:=beq_iff_eq.mpr c37
        have c37b1:(a0_0 != 2)=false:=bne_eq_false_iff_eq.mpr c37
        clear c37
        replace H:=Option.bind_eq_some_iff.mp H
        obtain ⟨t245,A380,H⟩:=H
        replace H:(some t245)=some r:=H
        have A38:=ak_ A380
        clear A380
        obtain rfl:=Option.some.inj H
        have hcz39_0:=ck_ BK234 0
        have hcz39_1:=ck_ BK234 1
        have hcz39_2:=ck_ BK234 2
        have hcz39_3:=ck_ BK234 3
        have hcz39_4:=ck_ BK234 4
        have hcz39_5:=ck_ BK234 5
        have hfz39_0:=fz_ BK234 0
        have hfz39_1:=fz_ BK234 1
        have hfz39_2:=fz_ BK234 2
        have hfz39_3:=fz_ BK234 3
        have hfz39_4:=fz_ BK234 4
        have hfz39_5:=fz_ BK234 5
        go_wp2_with (first|((with_reducible refine gate_callee (f:=105) rfl ?_);refine goesL_ (some 89) rfl rfl Tryz.func105 (by kernel_rfl) rfl #[.int .i64 a0_4] rfl (by (try simp only [List.map_toArray,List.map_cons,List.map_nil]);first|done|rfl|(simp only [List.length_drop,List.length_take];rfl)) ?_;(with_reducible refine (swageref01_Known.calls a0_4 t245 _ A38.out).mono ?_);rintro e w' ⟨rfl,⟨nd,rfl⟩⟩;refine ⟨_,rfl,?_⟩))
        go_ret
        exact ⟨by first|rfl|(simp [errW_none,errW_some]<;>rfl)|(simp [*,errW_none,errW_some]<;>rfl),bl_ HB⟩
       ·rw [if_neg c37] at H
        have c37b0:(a0_0 == 2)=false:=beq_eq_false_iff_ne.mpr c37
        have c37b1:(a0_0 != 2)=true:=bne_iff_ne.mpr c37
        have HC40:=ak_ H
        clear H
        have hcz41_0:=ck_ BK234 0
        have hcz41_1:=ck_ BK234 1
        have hcz41_2:=ck_ BK234 2
        have hcz41_3:=ck_ BK234 3
        have hcz41_4:=ck_ BK234 4
        have hcz41_5:=ck_ BK234 5
        have hfz41_0:=fz_ BK234 0
        have hfz41_1:=fz_ BK234 1
        have hfz41_2:=fz_ BK234 2
        have hfz41_3:=fz_ BK234 3
        have hfz41_4:=fz_ BK234 4
        have hfz41_5:=fz_ BK234 5
        go_upto_if 90 with (fail)
        go_cut [90] (fun v90 wc=>∃ (kq:Nat) (x90_39:Bool),v90=.bool x90_39∧Aside0 (swageref14_RightOp.j2 kq a1 a0_0 x90_39 a0_0 a0_1 a0_2 a0_3 a0_4 l0_5=some r)∧Aside0 (kq≤k2)∧Aside0 (wc.heap[gb234]?=some (.cells #[.int .i64 a0_0,.int .i64 a0_1,.int .i64 a0_2,.int .i64 a0_3,.int .i64 a0_4,(.slice A0_5 l0_5.length c0_5)] 45 (0,0)))∧Aside0 (Below w.heap.size w wc))
        case first =>
         have H:=HC40.out
         clear HC40
         by_cases c42:a0_0=4
         ·rw [if_pos c42] at H
          have c42b0:(a0_0 == 4)=true:=beq_iff_eq.mpr c42
          have c42b1:(a0_0 != 4)=false:=bne_eq_false_iff_eq.mpr c42
          clear c42
          (first|rw [c42b0]|(simp only [i64_w,i32_w];rw [c42b0])|skip)
          have H':=ak_ H
          clear H
          go_wp2
          go_meet
          case rel=>exact ⟨_,((a0_0 == 4)),(by first|rfl|(simp;done)|(simp [*];done)),H',⟨by have:=HJ3.out;have:=HK2.out;first|omega|exact Nat.le_refl _⟩,⟨bk_ BK234⟩,⟨bl_ HB⟩⟩
         ·rw [if_neg c42] at H
          have c42b0:(a0_0 == 4)=false:=beq_eq_false_iff_ne.mpr c42
          have c42b1:(a0_0 != 4)=true:=bne_iff_ne.mpr c42
          (first|rw [c42b0]|(simp only [i64_w,i32_w];rw [c42b0])|skip)
          have H':=ak_ H
          clear H
          go_wp2
          go_meet
          case rel=>exact ⟨_,((a0_0 == 5)),(by first|rfl|(simp;done)|(simp [*];done)),H',⟨by have:=HJ3.out;have:=HK2.out;first|omega|exact Nat.le_refl _⟩,⟨bk_ BK234⟩,⟨bl_ HB⟩⟩
        case rest =>
         clear HC40
         obtain ⟨kq,x90_39,rfl,HA,HJ39,BK234,HB⟩:=hcut
         cases kq with
         | zero=>exact absurd HA.out (by simp [swageref14_RightOp.j2])
         | succ kj39 =>
          have H:=HA.out
          clear HA
          simp only [swageref14_RightOp.j2] at H
          by_cases c43:x90_39=true
          ·subst c43
           have H1:(if a0_4 ≥ (-2147483648) then (some (decide (a0_4≤2147483647))) else (some false))=some r:=by rw [if_pos rfl] at H;exact H
           clear H
           have H:=H1
           clear H1
           by_cases c44:a0_4 ≥ (-2147483648)
           ·rw [if_pos c44] at H
            have c44b0:decide ((-2147483648)≤a0_4)=true:=decide_eq_true c44
            clear c44
            obtain rfl:=Option.some.inj H
            have hcz45_0:=ck_ BK234 0
            have hcz45_1:=ck_ BK234 1
            have hcz45_2:=ck_ BK234 2
            have hcz45_3:=ck_ BK234 3
            have hcz45_4:=ck_ BK234 4
            have hcz45_5:=ck_ BK234 5
            have hfz45_0:=fz_ BK234 0
            have hfz45_1:=fz_ BK234 1
            have hfz45_2:=fz_ BK234 2
            have hfz45_3:=fz_ BK234 3
            have hfz45_4:=fz_ BK234 4
            have hfz45_5:=fz_ BK234 5
            go_wp2
            go_ret
            exact ⟨by first|rfl|(simp [errW_none,errW_some]<;>rfl)|(simp [*,errW_none,errW_some]<;>rfl),bl_ HB⟩
           ·rw [if_neg c44] at H
            have c44b0:decide ((-2147483648)≤a0_4)=false:=decide_eq_false c44
            clear c44
            obtain rfl:=Option.some.inj H
            have hcz46_0:=ck_ BK234 0
            have hcz46_1:=ck_ BK234 1
            have hcz46_2:=ck_ BK234 2
            have hcz46_3:=ck_ BK234 3
            have hcz46_4:=ck_ BK234 4
            have hcz46_5:=ck_ BK234 5
            have hfz46_0:=fz_ BK234 0
            have hfz46_1:=fz_ BK234 1
            have hfz46_2:=fz_ BK234 2
            have hfz46_3:=fz_ BK234 3
            have hfz46_4:=fz_ BK234 4
            have hfz46_5:=fz_ BK234 5
            go_wp2
            go_ret
            exact ⟨by first|rfl|(simp [errW_none,errW_some]<;>rfl)|(simp [*,errW_none,errW_some]<;>rfl),bl_ HB⟩
          ·replace c43:=Bool.eq_false_iff.mpr c43
           subst c43
           have H1:(if a0_0=6 then (if a0_4 ≥ 0 then (some (decide (a0_4≤1048576))) else (some false)) else (if a0_0=7 then (if a0_4 ≥ 0 then (some (decide (a0_4<a1))) else (some false)) else (some true)))=some r:=by rw [if_neg (show ¬ (false=true) by decide)] at H;exact H
           clear H
           have H:=H1
           clear H1
           by_cases c47:a0_0=6
           ·rw [if_pos c47] at H
            have c47b0:(a0_0 == 6)=true:=beq_iff_eq.mpr c47
            have c47b1:(a0_0 != 6)=false:=bne_eq_false_iff_eq.mpr c47
            clear c47
            by_cases c48:a0_4 ≥ 0
            ·rw [if_pos c48] at H
             have c48b0:decide (0≤a0_4)=true:=decide_eq_true c48
             clear c48
             obtain rfl:=Option.some.inj H
             have hcz49_0:=ck_ BK234 0
             have hcz49_1:=ck_ BK234 1
             have hcz49_2:=ck_ BK234 2
             have hcz49_3:=ck_ BK234 3
             have hcz49_4:=ck_ BK234 4
             have hcz49_5:=ck_ BK234 5
             have hfz49_0:=fz_ BK234 0
             have hfz49_1:=fz_ BK234 1
             have hfz49_2:=fz_ BK234 2
             have hfz49_3:=fz_ BK234 3
             have hfz49_4:=fz_ BK234 4
             have hfz49_5:=fz_ BK234 5
             go_wp2
             go_ret
             exact ⟨by first|rfl|(simp [errW_none,errW_some]<;>rfl)|(simp [*,errW_none,errW_some]<;>rfl),bl_ HB⟩
            ·rw [if_neg c48] at H
             have c48b0:decide (0≤a0_4)=false:=decide_eq_false c48
             clear c48
             obtain rfl:=Option.some.inj H
             have hcz50_0:=ck_ BK234 0
             have hcz50_1:=ck_ BK234 1
             have hcz50_2:=ck_ BK234 2
             have hcz50_3:=ck_ BK234 3
             have hcz50_4:=ck_ BK234 4
             have hcz50_5:=ck_ BK234 5
             have hfz50_0:=fz_ BK234 0
             have hfz50_1:=fz_ BK234 1
             have hfz50_2:=fz_ BK234 2
             have hfz50_3:=fz_ BK234 3
             have hfz50_4:=fz_ BK234 4
             have hfz50_5:=fz_ BK234 5
             go_wp2
             go_ret
             exact ⟨by first|rfl|(simp [errW_none,errW_some]<;>rfl)|(simp [*,errW_none,errW_some]<;>rfl),bl_ HB⟩
           ·rw [if_neg c47] at H
            have c47b0:(a0_0 == 6)=false:=beq_eq_false_iff_ne.mpr c47
            have c47b1:(a0_0 != 6)=true:=bne_iff_ne.mpr c47
            by_cases c51:a0_0=7
            ·rw [if_pos c51] at H
             have c51b0:(a0_0 == 7)=true:=beq_iff_eq.mpr c51
             have c51b1:(a0_0 != 7)=false:=bne_eq_false_iff_eq.mpr c51
             clear c51
             by_cases c52:a0_4 ≥ 0
             ·rw [if_pos c52] at H
              have c52b0:decide (0≤a0_4)=true:=decide_eq_true c52
              clear c52
              obtain rfl:=Option.some.inj H
              have hcz53_0:=ck_ BK234 0
              have hcz53_1:=ck_ BK234 1
              have hcz53_2:=ck_ BK234 2
              have hcz53_3:=ck_ BK234 3
              have hcz53_4:=ck_ BK234 4
              have hcz53_5:=ck_ BK234 5
              have hfz53_0:=fz_ BK234 0
              have hfz53_1:=fz_ BK234 1
              have hfz53_2:=fz_ BK234 2
              have hfz53_3:=fz_ BK234 3
              have hfz53_4:=fz_ BK234 4
              have hfz53_5:=fz_ BK234 5
              go_wp2
              go_ret
              exact ⟨by first|rfl|(simp [errW_none,errW_some]<;>rfl)|(simp [*,errW_none,errW_some]<;>rfl),bl_ HB⟩
             ·rw [if_neg c52] at H
              have c52b0:decide (0≤a0_4)=false:=decide_eq_false c52
              clear c52
              obtain rfl:=Option.some.inj H
              have hcz54_0:=ck_ BK234 0
              have hcz54_1:=ck_ BK234 1
              have hcz54_2:=ck_ BK234 2
              have hcz54_3:=ck_ BK234 3
              have hcz54_4:=ck_ BK234 4
              have hcz54_5:=ck_ BK234 5
              have hfz54_0:=fz_ BK234 0
              have hfz54_1:=fz_ BK234 1
              have hfz54_2:=fz_ BK234 2
              have hfz54_3:=fz_ BK234 3
              have hfz54_4:=fz_ BK234 4
              have hfz54_5:=fz_ BK234 5
              go_wp2
              go_ret
              exact ⟨by first|rfl|(simp [errW_none,errW_some]<;>rfl)|(simp [*,errW_none,errW_some]<;>rfl),bl_ HB⟩
            ·rw [if_neg c51] at H
             have c51b0:(a0_0 == 7)=false:=beq_eq_false_iff_ne.mpr c51
             have c51b1:(a0_0 != 7)=true:=bne_iff_ne.mpr c51
             obtain rfl:=Option.some.inj H
             go_wp2
             go_ret
             exact ⟨by first|rfl|(simp [errW_none,errW_some]<;>rfl)|(simp [*,errW_none,errW_some]<;>rfl),bl_ HB⟩

