import Derived.Test.YtnkgbnbbmcoiiaaGreatOo17
import Derived.Test.YtnkgbnbbmcoiiaaGreatRfz
import Derived.Test.YtnkgbnbbmcoiiaaGreatLsm
import Derived.Test.YtnkgbnbbmcoiiaaGreatS14b
import Derived.Test.YtnkgbnbbmcoiiaaGreatS13
import Derived.Test.YtnkgbnbbmcoiiaaGreatS14
import Derived.Test.YtnkgbnbbmcoiiaaGreatS15
import Derived.Test.YtnkgbnbbmcoiiaaGreatS16
import Derived.Test.YtnkgbnbbmcoiiaaGreatS8
import Derived.Test.YtnkgbnbbmcoiiaaGreatOsmall
import Derived.Test.YtnkgbnbbmcoiiaaGreatS19
import Derived.Test.YtnkgbnbbmcoiiaaGreatBk
import Derived.Test.YtnkgbnbbmcoiiaaGreatReli
namespace Go.Proofs.YtnkgbnbbmcoiiaaGreat.S
open Go.RowKit Go.IM Go.Proofs.YtnkgbnbbmcoiiaaGreatW.PrintWords Go.Proofs.YtnkgbnbbmcoiiaaGreatW.PrintLast Go.Proofs.YtnkgbnbbmcoiiaaGreatW.PrintMore
set_option linter.unusedVariables false
set_option linter.unusedSimpArgs false
/-! ### The document's In,and what its Out goes over -/
structure Fits (bs:List S50):Prop where mk ::
 len:bs.length≤4096
 ops:∀ i:Nat,(rd_T50 bs (i:Int)).f0.length≤1000000000000
 args:∀ q,(opOf bs q).f5.length≤1000000000
theorem Fits.right {p:Int} {bs:List S50} (h:Fits bs):Ev (fun k=>swageref14_Right.f k p bs 256) (rightF p bs 256) :=
 r14_right p bs (by decide) (by decide) h.ops (fun q=>Nat.le_trans (h.args q) (by decide))
theorem inL_take (bs:List S50) {j:Nat} (h:j<bs.length):(inL bs).take (j+1)=(inL bs).take j++[liveRow bs j 0]:=by
 unfold inL
 rw [List.take_succ_eq_append_getElem (by simpa using h),List.getElem_map,List.getElem_range]
theorem r17_in (p:Int) (bs:List S50) (h:Fits bs) (hR:rightF p bs 256=true):Ev (fun k=>swageref17_In.f k p bs) (inL bs):=by
 have key:∀ m j,j+m=bs.length→Ev (fun k=>swageref17_In.l0 k true ((inL bs).take j) (j:Int) p bs) (inL bs):=by
  intro m
  induction m with
  | zero =>
   intro j hj
   refine Ev.pure1 _ (fun k=>?_)
   rw [swageref17_In.l0,if_neg (by omega),List.take_of_length_le (by rw [inL_length];omega)]
  | succ m ih =>
   intro j hj
   have hlt:j<bs.length:=by omega
   have hl:=h.len
   refine (ih (j+1) (by omega)).step (fun k=>?_)
   have hlen:((inL bs).take j).length<5864062014805:=by rw [List.length_take,inL_length];omega
   have ha:=swageref17_at.is hR hlt (Nat.zero_le (opLen bs j))
   rw [swageref17_In.l0,if_pos (by omega),if_pos rfl,show (0:Int)=((0:Nat):Int) from rfl,ha,Option.bind_some,if_pos hlen,nat_wrap (by omega),inL_take bs hlt]
 unfold swageref17_In.f
 have hr:=h.right (p:=p)
 rw [hR] at hr
 exact Ev.then hr (key bs.length 0 (Nat.zero_add _))
noncomputable def anyB (bs:List S50) (r:Int) (l:List Int):Bool:=l.any fun t=>decide (r∈liveRow bs t.toNat 0)
theorem anyB_out {p:Int} {bs:List S50} {fn:Int} (h:RightP p bs fn) {i:Nat} (hi:i<bs.length) (r:Int):anyB bs r (succT (rd_T50 bs (i:Int)).f1)=true↔OutP bs i r:=by
 unfold anyB
 rw [List.any_eq_true]
 constructor
 ·rintro ⟨t,ht,hd⟩
  have h0:=h.succ hi t ht
  refine ⟨t.toNat,?_,(mem_liveRow h).1 (of_decide_eq_true hd)⟩
  rw [Int.toNat_of_nonneg h0.1]
  exact ht
 ·rintro ⟨j,hj,ha⟩
  exact ⟨(j:Int),hj,decide_eq_true (by rw [Int.toNat_natCast];exact (mem_liveRow h).2 ha)⟩
/-- Those of the first m registers that are live behind block i. -/
noncomputable def upOut (bs:List S50) (i m:Nat):List Int:=((List.range m).map fun j:Nat=>(j:Int)+1).filter fun r=>anyB bs r (succT (rd_T50 bs (i:Int)).f1)
theorem upOut_succ (bs:List S50) (i m:Nat):upOut bs i (m+1)=if anyB bs ((m:Int)+1) (succT (rd_T50 bs (i:Int)).f1)=true then upOut bs i m++[(m:Int)+1] else upOut bs i m:=by
 unfold upOut
 rw [List.range_succ,List.map_append,List.filter_append]
 split
 ·rename_i h
  simp [h]
 ·rename_i h
  simp [h]
theorem upOut_len (bs:List S50) (i m:Nat):(upOut bs i m).length≤m:=by
 unfold upOut
 refine Nat.le_trans (List.length_filter_le _ _) ?_
 simp
theorem upOut_all {p:Int} {bs:List S50} {fn:Int} (h:RightP p bs fn) {i m:Nat} (hi:i<bs.length) (hm:(m:Int)=topR p bs):upOut bs i m=outRow bs i:=by
 refine outRow_eq h ((regs_rise m).sublist List.filter_sublist) (fun r=>?_)
 unfold upOut
 rw [List.mem_filter,mem_regs,anyB_out h hi]
 constructor
 ·exact fun h=>h.2
 ·intro ha
  refine ⟨?_,ha⟩
  obtain ⟨j,hj,ha⟩:=ha
  have h1:=h.at_reg ha
  have h2:=live_top h ha
  omega
/-! ### The document's words of chapter 17,in closed form -/
theorem ints_self (l:List Int) (hl:l.length≤4096):Ev (fun k=>swageref02_Ints.f k l l) true:=by
 have key:∀ m j,j+m=l.length→Ev (fun k=>swageref02_Ints.l0 k l l (j:Int)) true:=by
  intro m
  induction m with
  | zero =>
   intro j hj
   refine Ev.pure1 _ (fun k=>?_)
   rw [swageref02_Ints.l0,if_neg (by omega)]
  | succ m ih =>
   intro j hj
   refine (ih (j+1) (by omega)).step (fun k=>?_)
   rw [swageref02_Ints.l0,if_pos (by omega),if_pos (Int.natCast_nonneg j),if_pos (by omega),if_pos rfl,nat_wrap (by omega)]
 refine Ev.same (key l.length 0 (Nat.zero_add _)) (fun k=>?_)
 unfold swageref02_Ints.f
 rw [if_pos rfl]
 rfl
/-! ### swageref17.Out;Copy and Same of chapter 14 -/
theorem r14_copy (p:Int) (bs:List S50) (h:Fits bs):Ev (fun k=>swageref14_Copy.f k p bs) (p,bs):=by
 have hl:=h.len
 have l1:∀ (i:Nat) (hi:i<bs.length) (acc:List S50) (hacc:acc.length≤4096) (R:Int × List S50) (hE:Ev (fun k=>swageref14_Copy.l0 k ((i+1:Nat):Int) p bs p (acc++[rd_T50 bs (i:Int)])) R) (m q:Nat),q+m=(rd_T50 bs (i:Int)).f0.length→Ev (fun k=>swageref14_Copy.l1 k (i:Int) (q:Int) p bs p acc ((rd_T50 bs (i:Int)).f0.take q) (rd_T50 bs (i:Int)).f1.f0 (rd_T50 bs (i:Int)).f1.f1 (rd_T50 bs (i:Int)).f1.f2 (rd_T50 bs (i:Int)).f1.f3) R:=by
  intro i hi acc hacc R hE m
  have ho:=h.ops i
  induction m with
  | zero =>
   intro q hq
   refine hE.step (fun k=>?_)
   rw [swageref14_Copy.l1,if_pos (Int.natCast_nonneg i),if_pos (by omega),if_neg (by omega),if_pos (by omega),nat_wrap (by omega),List.take_of_length_le (by omega)]
  | succ m ih =>
   intro q hq
   have hq' : q<(rd_T50 bs (i:Int)).f0.length:=by omega
   have ha:(rd_T45 (rd_T50 bs (i:Int)).f0 (q:Int)).f5.length≤1000000000:=h.args (i,q)
   refine (ih (q+1) (by omega)).step (fun k=>?_)
   rw [swageref14_Copy.l1,if_pos (Int.natCast_nonneg i),if_pos (by omega),if_pos (by omega),if_pos (Int.natCast_nonneg q),Option.bind_some,if_pos (by simp;omega),if_pos (by rw [List.length_take];omega),nat_wrap (by omega),List.take_succ_eq_append_getElem hq',← rd45' hq',List.nil_append]
 have l0:∀ m i,i+m=bs.length→Ev (fun k=>swageref14_Copy.l0 k (i:Int) p bs p (bs.take i)) (p,bs):=by
  intro m
  induction m with
  | zero =>
   intro i hi
   refine Ev.pure1 _ (fun k=>?_)
   rw [swageref14_Copy.l0,if_neg (by omega),List.take_of_length_le (by omega)]
  | succ m ih =>
   intro i hi
   have hlt:i<bs.length:=by omega
   have h2:=ih (i+1) (by omega)
   rw [List.take_succ_eq_append_getElem hlt,← rd43' hlt] at h2
   have h3:=l1 i hlt (bs.take i) (by rw [List.length_take];omega) _ h2 _ 0 (Nat.zero_add _)
   refine h3.step (fun k=>?_)
   rw [swageref14_Copy.l0,if_pos (by omega),if_pos (Int.natCast_nonneg i)]
   rfl
 exact l0 bs.length 0 (Nat.zero_add _)
theorem sameOp_self (x:S45) (hx:x.f5.length≤4096):Ev (fun k=>swageref14_SameOp.f k x.f0 x.f1 x.f2 x.f3 x.f4 x.f5 x.f0 x.f1 x.f2 x.f3 x.f4 x.f5) true:=by
 unfold swageref14_SameOp.f
 refine Ev.then (ints_self x.f5 hx) ?_
 refine Ev.pure _ (fun k=>?_)
 simp
/-! ### The document's Number and Calls of chapter 25 -/
theorem r25_number (p:Int) (bs:List S50) (h:Fits bs) (hR:rightF p bs 256=true):Ev (fun k=>swageref25_Number.f k p bs) (numL bs):=by
 have RP:=rightF_iff hR
 have key:∀ m j,j+m=bs.length→Ev (fun k=>swageref25_Number.l0 k (pos bs j:Int) (numT bs j) (j:Int) p bs) (numL bs):=by
  intro m
  induction m with
  | zero =>
   intro j hj
   refine Ev.pure1 _ (fun k=>?_)
   rw [swageref25_Number.l0,if_neg (by omega)]
   have e:j=bs.length:=by omega
   rw [e]
   rfl
  | succ m ih =>
   intro j hj
   have hlt:j<bs.length:=by omega
   have hl:=RP.len.2
   refine (ih (j+1) (by omega)).step (fun k=>?_)
   have hlen:(numT bs j).length<17592186044416:=by rw [numT_length];omega
   have hs:wrap64 ((wrap64 ((pos bs j:Int)+((rd_T50 bs (j:Int)).f0.length:Int)))+1)=(pos bs (j+1):Int):=num_step (pos_succ bs j) (pos_le RP (by omega))
   rw [swageref25_Number.l0,if_pos (Int.ofNat_lt.2 hlt),if_pos (Int.natCast_nonneg j),if_pos hlen,hs,num_inc hlt hl,← numT_succ]
 unfold swageref25_Number.f
 have hr:=h.right (p:=p)
 rw [hR] at hr
 have h0:=key bs.length 0 (Nat.zero_add _)
 rw [num0,pos_zero] at h0
 exact Ev.then hr h0
theorem r25_number_bad (p:Int) (bs:List S50) (h:Fits bs) (hR:rightF p bs 256=false):Ev (fun k=>swageref25_Number.f k p bs) []:=by
 unfold swageref25_Number.f
 have hr:=h.right (p:=p)
 rw [hR] at hr
 exact Ev.then hr (Ev.pure _ (fun k=>rfl))
theorem w1zero:wrap64 ((0:Int)+1)=1:=by unfold wrap64;omega
theorem r25_calls_bad (p:Int) (bs:List S50) (h:Fits bs) (hR:rightF p bs 256=false):Ev (fun k=>swageref25_Calls.f k p bs) []:=by
 unfold swageref25_Calls.f
 refine Ev.then (r25_number_bad p bs h hR) (Ev.pure1 _ (fun k=>?_))
 rw [swageref25_Calls.l0,if_neg (by rw [w1zero];decide)]
theorem r25_calls (p:Int) (bs:List S50) (h:Fits bs) (hR:rightF p bs 256=true):Ev (fun k=>swageref25_Calls.f k p bs) (callsP bs (plcs bs bs.length)):=by
 have RP:=rightF_iff hR
 have hl:=RP.len.2
 have l1:∀ (j:Nat) (hj:j<bs.length) (R:List Int) (hE:Ev (fun k=>swageref25_Calls.l0 k (numL bs) (callsP bs (plcs bs (j+1))) ((j+1:Nat):Int) p bs) R) (m q:Nat),q+m=opLen bs j→Ev (fun k=>swageref25_Calls.l1 k (numL bs) (callsP bs (plcs bs j++rowP j q)) (j:Int) (q:Int) p bs) R:=by
  intro j hj R hE m
  induction m with
  | zero =>
   intro q hq
   refine hE.step (fun k=>?_)
   have hq' : ¬ (q:Int)<((rd_T50 bs (j:Int)).f0.length:Int):=by
    have:q=opLen bs j:=by omega
    rw [this]
    exact Int.lt_irrefl _
   rw [swageref25_Calls.l1,if_pos (Int.natCast_nonneg j),if_pos (Int.ofNat_lt.2 hj),if_neg hq',num_inc hj hl]
   have e:q=opLen bs j:=by omega
   rw [e,← plcs_succ]
  | succ m ih =>
   intro q hq
   have hlt:q<opLen bs j:=by omega
   have hlt' : (q:Int)<((rd_T50 bs (j:Int)).f0.length:Int):=Int.ofNat_lt.2 hlt
   have hol:=RP.opLen_le j
   refine (ih (q+1) (by omega)).step (fun k=>?_)
   have hw:wrap64 ((q:Int)+1)=((q+1:Nat):Int):=nat_wrap (by omega)
   have hpos:=pos_le RP (Nat.le_of_lt hj)
   have hw2:wrap64 ((pos bs j:Int)+(q:Int))=(pos bs j:Int)+(q:Int):=(wr3 hpos (by omega)).1
   have hlen:(callsP bs (plcs bs j++rowP j q)).length<17592186044416:=by
    have h1:=callsP_len bs (plcs bs j++rowP j q)
    have h2:=part_le RP hj (Nat.le_of_lt hlt)
    omega
   have hrow:plcs bs j++rowP j (q+1)=(plcs bs j++rowP j q)++[(j,q)]:=by
    rw [List.append_assoc]
    congr 1
    unfold rowP
    rw [List.range_succ,List.map_append]
    rfl
   rw [swageref25_Calls.l1,if_pos (Int.natCast_nonneg j),if_pos (Int.ofNat_lt.2 hj),if_pos hlt',if_pos (Int.natCast_nonneg q),hw,hrow,callsP_snoc]
   by_cases h7:(opOf bs (j,q)).f0=7
   ·have h7' : (rd_T45 (rd_T50 bs (j:Int)).f0 (q:Int)).f0=7:=h7
    rw [if_pos h7',if_pos h7,if_pos (by rw [numL_length];omega),if_pos hlen,rd_num bs (Nat.le_of_lt hj),hw2]
   ·have h7' : ¬ (rd_T45 (rd_T50 bs (j:Int)).f0 (q:Int)).f0=7:=h7
    rw [if_neg h7',if_neg h7]
 have l0:∀ m j,j+m=bs.length→Ev (fun k=>swageref25_Calls.l0 k (numL bs) (callsP bs (plcs bs j)) (j:Int) p bs) (callsP bs (plcs bs bs.length)):=by
  intro m
  induction m with
  | zero =>
   intro j hj
   have e:j=bs.length:=by omega
   refine Ev.pure1 _ (fun k=>?_)
   have hw:wrap64 ((j:Int)+1)=((j+1:Nat):Int):=nat_wrap (by omega)
   rw [swageref25_Calls.l0,hw,if_neg (by rw [numL_length];omega),e]
  | succ m ih =>
   intro j hj
   have hlt:j<bs.length:=by omega
   have h1:=l1 j hlt _ (ih (j+1) (by omega)) (opLen bs j) 0 (Nat.zero_add _)
   have e0:plcs bs j++rowP j 0=plcs bs j:=by simp [rowP]
   rw [e0] at h1
   refine h1.step (fun k=>?_)
   rw [swageref25_Calls.l0,num_inc hlt hl,if_pos (by rw [numL_length];omega)]
   rfl
 unfold swageref25_Calls.f
 have h0:=l0 bs.length 0 (Nat.zero_add _)
 have e0:callsP bs (plcs bs 0)=[]:=rfl
 rw [e0] at h0
 exact Ev.then (r25_number p bs h hR) h0
end Go.Proofs.YtnkgbnbbmcoiiaaGreat.S
namespace Go.Proofs.YtnkgbnbbmcoiiaaGreat.S
open Go.RowKit Go.Proofs.YtnkgbnbbmcoiiaaGreatW.PrintWords Go.Proofs.YtnkgbnbbmcoiiaaGreatW.PrintLast Go.Proofs.YtnkgbnbbmcoiiaaGreatW.PrintMore
set_option linter.unusedVariables false
set_option linter.unusedSimpArgs false
/-! ### What a function of few blocks is -/
/-- A block's operations are few. -/
def Small14 (bs:List S50) (i:Nat):Prop:=(rd_T50 bs (i:Int)).f0.length≤250∧∀ q:Nat,q<(rd_T50 bs (i:Int)).f0.length→(rd_T45 (rd_T50 bs (i:Int)).f0 (q:Int)).f5.length≤20
theorem few14_true (p:Int) (bs:List S50) (hb:bs.length≤12) (hL:∀ j:Nat,(rd_T50 bs (j:Int)).f0.length≤2199023255552):∀ k:Nat,
  (∀ (x3:Int) (j:Nat),swagelaw14_Few.l0 k x3 (j:Int) p bs=some true→0≤x3→x3≤2199023255552*(j:Int)→j≤bs.length→x3≤250∧∀ i,j≤i→i<bs.length→Small14 bs i) ∧
  (∀ (x3:Int) (j q:Nat),swagelaw14_Few.l1 k x3 (j:Int) (q:Int) p bs=some true→0≤x3→x3≤2199023255552*((j:Int)+1)→j<bs.length→(x3≤250∧∀ i,j+1≤i→i<bs.length→Small14 bs i)∧∀ q' : Nat,q≤q'→q'<(rd_T50 bs (j:Int)).f0.length→q'<300→(rd_T45 (rd_T50 bs (j:Int)).f0 (q' : Int)).f5.length≤20):=by
 intro k
 induction k using Nat.strongRecOn with
 | ind k ih =>
  constructor
  ·intro x3 j h h0 h1 hj
   cases k with
   | zero=>rw [swagelaw14_Few.l0] at h;cases h
   | succ k =>
    by_cases hlt:j<bs.length
    ·rw [swagelaw14_Few.l0,if_pos (Int.ofNat_lt.2 hlt),decide_eq_true (show (j:Int)<100 by omega)] at h
     cases k with
     | zero=>rw [swagelaw14_Few.j1] at h;cases h
     | succ k =>
      rw [swagelaw14_Few.j1,if_pos rfl,if_pos (Int.natCast_nonneg j),if_pos (Int.ofNat_lt.2 hlt)] at h
      have hl:=hL j
      have hw:wrap64 (x3+((rd_T50 bs (j:Int)).f0.length:Int))=x3+((rd_T50 bs (j:Int)).f0.length:Int):=by
       unfold wrap64
       omega
      rw [hw] at h
      obtain ⟨⟨e1,e2⟩,e3⟩:=(ih k (by omega)).2 _ j 0 h (by omega) (by omega) hlt
      refine ⟨by omega,fun i hi hi2=>?_⟩
      by_cases e:i=j
      ·subst e
       exact ⟨by omega,fun q hq=>e3 q (Nat.zero_le _) hq (by omega)⟩
      ·exact e2 i (by omega) hi2
    ·rw [swagelaw14_Few.l0,if_neg (by omega)] at h
     cases k with
     | zero=>rw [swagelaw14_Few.j1] at h;cases h
     | succ k =>
      rw [swagelaw14_Few.j1,if_neg (by decide),if_pos (by omega)] at h
      injection h with h
      exact ⟨of_decide_eq_true h,fun i hi hi2=>absurd hi2 (by omega)⟩
  ·intro x3 j q h h0 h1 hj
   cases k with
   | zero=>rw [swagelaw14_Few.l1] at h;cases h
   | succ k =>
    rw [swagelaw14_Few.l1,if_pos (Int.natCast_nonneg j),if_pos (Int.ofNat_lt.2 hj)] at h
    have hend:swagelaw14_Few.j3 k x3 (j:Int) (q:Int) false p bs=some true→x3≤250∧∀ i,j+1≤i→i<bs.length→Small14 bs i:=fun h=>by
     cases k with
     | zero=>rw [swagelaw14_Few.j3] at h;cases h
     | succ k =>
      rw [swagelaw14_Few.j3,if_neg (by decide),num_inc (n:=12) (by omega) (by decide)] at h
      exact (ih k (by omega)).1 x3 (j+1) h h0 (by omega) hj
    by_cases hq:q<(rd_T50 bs (j:Int)).f0.length
    ·rw [if_pos (Int.ofNat_lt.2 hq)] at h
     by_cases h3:(q:Int)<300
     ·rw [decide_eq_true h3] at h
      cases k with
      | zero=>rw [swagelaw14_Few.j3] at h;cases h
      | succ k =>
       rw [swagelaw14_Few.j3,if_pos rfl,if_pos (Int.natCast_nonneg j),if_pos (Int.ofNat_lt.2 hj),if_pos (Int.natCast_nonneg q),if_pos (Int.ofNat_lt.2 hq)] at h
       by_cases ha:((rd_T45 (rd_T50 bs (j:Int)).f0 (q:Int)).f5.length:Int) > 20
       ·rw [if_pos ha] at h;cases h
       ·rw [if_neg ha,num_inc (n:=300) (by omega) (by decide)] at h
        obtain ⟨e1,e3⟩:=(ih k (by omega)).2 x3 j (q+1) h h0 h1 hj
        refine ⟨e1,fun q' hq1 hq2 hq3=>?_⟩
        by_cases e:q'=q
        ·subst e;omega
        ·exact e3 q' (by omega) hq2 hq3
     ·rw [decide_eq_false h3] at h
      exact ⟨hend h,fun q' hq1 hq2 hq3=>absurd hq3 (by omega)⟩
    ·rw [if_neg (by omega)] at h
     exact ⟨hend h,fun q' hq1 hq2 hq3=>absurd hq2 (by omega)⟩
/-- What few tells of a function. -/
structure Few17 (bs:List S50):Prop where mk ::
 len:bs.length≤12
 ops:∀ i:Nat,(rd_T50 bs (i:Int)).f0.length≤250
 args:∀ q,(opOf bs q).f5.length≤20
theorem few17_true (k:Nat) (p:Int) (bs:List S50) (hL:∀ j:Nat,(rd_T50 bs (j:Int)).f0.length≤2199023255552) (h:swagelaw17_few.f k p bs=some true):Few17 bs:=by
 unfold swagelaw17_few.f at h
 cases hf:swagelaw14_Few.f k p bs with
 | none=>rw [hf] at h;cases h
 | some b =>
  rw [hf,Option.bind_some] at h
  cases b with
  | false=>rw [if_neg (by decide)] at h;cases h
  | true =>
   rw [if_pos rfl] at h
   by_cases hb:(bs.length:Int)≤12
   ·have hb' : bs.length≤12:=by omega
    have hS:=(((few14_true p bs hb' hL k).1 0 0 hf (by decide) (by decide) (Nat.zero_le _)).2)
    have hz:∀ i:Nat,¬ i<bs.length→rd_T50 bs (i:Int)=z50:=fun i hi=>by
     unfold rd_T50
     rw [Int.toNat_natCast,List.getD_eq_getElem?_getD,List.getElem?_eq_none (by omega)]
     rfl
    refine ⟨hb',fun i=>?_,fun q=>?_⟩
    ·by_cases hi:i<bs.length
     ·exact (hS i (Nat.zero_le _) hi).1
     ·rw [hz i hi];decide
    ·unfold opOf
     by_cases hi:q.1<bs.length
     ·by_cases hq:q.2<(rd_T50 bs (q.1:Int)).f0.length
      ·exact (hS q.1 (Nat.zero_le _) hi).2 q.2 hq
      ·have e:rd_T45 (rd_T50 bs (q.1:Int)).f0 (q.2:Int)=z45:=by
        unfold rd_T45
        rw [Int.toNat_natCast,List.getD_eq_getElem?_getD,List.getElem?_eq_none (by omega)]
        rfl
       rw [e];decide
     ·rw [hz q.1 hi]
      have e:rd_T45 z50.f0 (q.2:Int)=z45:=by
       unfold rd_T45
       rw [Int.toNat_natCast,List.getD_eq_getElem?_getD]
       rfl
      rw [e];decide
   ·rw [if_neg hb] at h;cases h
theorem Few17.fits {bs:List S50} (h:Few17 bs):Fits bs:=⟨Nat.le_trans h.len (by decide),fun i=>Nat.le_trans (h.ops i) (by decide),fun q=>Nat.le_trans (h.args q) (by decide)⟩
end Go.Proofs.YtnkgbnbbmcoiiaaGreat.S
namespace Go.Proofs.YtnkgbnbbmcoiiaaGreat.S
open Go.RowKit Go.IM Go.RelRegion Go.Proofs.YtnkgbnbbmcoiiaaGreatW.PrintWords Go.Proofs.YtnkgbnbbmcoiiaaGreatW.PrintLast Go.Proofs.YtnkgbnbbmcoiiaaGreatW.PrintMore
set_option linter.unusedVariables false
set_option linter.unusedSimpArgs false
/-! ### swageref14.Same of equal functions -/
theorem eqT48 (w:World) (a0 a1 a2 a3:Int):(Op.equalIn 10000 48 (.agg #[.int .i64 a0,.int .i64 a1,.int .i64 a2,.int .i64 a3]) (.agg #[.int .i64 a0,.int .i64 a1,.int .i64 a2,.int .i64 a3])).run Tryz.prog w=.ok true w:=by
 rw [eqA48 9998 w]
 simp
attribute [local go_sem high] eqT48
set_option maxHeartbeats 16000000 in
set_option maxRecDepth 100000 in
theorem same14_eq (p:Int) (A A' : Option Addr) (c c' : Nat) (bs:List S50) (w:World) (hF:Fits bs) (hA:∀ q,(opOf bs q).f5.length≤4096) (hC:Kd.C k50 w A bs.length bs) (hC' : Kd.C k50 w A' bs.length bs) :
  Calls Tryz.prog 17 #[.agg #[.int .i64 p,.slice A bs.length c],.agg #[.int .i64 p,.slice A' bs.length c']] w fun e w'=>e=.returned (.bool true)∧Below w.heap.size w w':=by
 have hu24:=Tryz.underlying24
 have hu50:=Tryz.underlying50
 have hu48:=Tryz.underlying48
 have hu45:=Tryz.underlying45
 have HC:=ak_ hC
 have HC2:=ak_ hC'
 have HFT:=ak_ hF
 have HA:=ak_ hA
 have hlen4:=hF.len
 have hbA:=below_alloc (Below.refl w.heap.size w) (.cells #[.int .i64 p,.slice A bs.length c] 24)
 have hbB:=below_alloc hbA (.cells #[.int .i64 p,.slice A' bs.length c'] 24)
 have HF0:=blk_alloc (blk_new w (.cells #[.int .i64 p,.slice A bs.length c] 24)) (.cells #[.int .i64 p,.slice A' bs.length c'] 24)
 have HG0:=blk_new (w.alloc (.cells #[.int .i64 p,.slice A bs.length c] 24)) (.cells #[.int .i64 p,.slice A' bs.length c'] 24)
 rw [World.size_alloc] at HG0
 have c0:=blk_cell HF0 0
 have c1:=blk_cell HF0 1
 have d0:=blk_cell HG0 0
 have d1:=blk_cell HG0 1
 simp only [ga_,gb_,gc_] at c0 c1 d0 d1
 obtain ⟨W,hW⟩:∃ W,(w.alloc (.cells #[.int .i64 p,.slice A bs.length c] 24)).alloc (.cells #[.int .i64 p,.slice A' bs.length c'] 24)=W:=⟨_,rfl⟩
 have HWQ:=ak_ hW
 have HBW:=ak_ (hW▸hbB)
 have HF:=ak_ (hW▸HF0)
 have HG:=ak_ (hW▸HG0)
 clear hC hC' hF hA hbA hbB HF0 HG0 hW
 go_enter Tryz.func17,Tryz.ntmps17
 go_wp2_with fail
 rw [HWQ.out]
 clear c0 c1 d0 d1 HWQ
 go_loopw [5] (fun i wr=>∃ j:Nat,j≤bs.length∧i=.int .i64 (j:Int)∧Aside0 (Below W.heap.size W wr)) (fun i _=>bs.length - (intOf i).toNat)
 case atStart=>exact ⟨0,Nat.zero_le _,rfl,⟨Below.refl _ _⟩⟩
 case round =>
  obtain ⟨j,hj,rfl,HB⟩:=hrel
  have c0:=blk_cell (blk_below HF.out HB.out) 0
  have c1:=blk_cell (blk_below HF.out HB.out) 1
  have d0:=blk_cell (blk_below HG.out HB.out) 0
  have d1:=blk_cell (blk_below HG.out HB.out) 1
  simp only [ga_,gb_,gc_] at c0 c1 d0 d1
  by_cases hlt:j<bs.length
  ·have b1:decide ((j:Int)<(bs.length:Int))=true:=decide_eq_true (Int.ofNat_lt.2 hlt)
   have hw1:wrap64 ((j:Int)+1)=(j:Int)+1:=inc63 hlt (Nat.le_trans hlen4 (by decide))
   have HBB:=ak_ (below_then HBW.out HBW.out.size HB.out)
   obtain ⟨adf,A5,c5,eA,fh,t0,t1,t2,t3,l5,g5⟩:=at_T50 (Kd.C_below HC.out HBB.out) (j:Int) (Int.natCast_nonneg j) (Int.ofNat_lt.2 hlt)
   obtain ⟨ads,A6,c6,eS,sh,u0,u1,u2,u3,l6,g6⟩:=at_T50 (Kd.C_below HC2.out HBB.out) (j:Int) (Int.natCast_nonneg j) (Int.ofNat_lt.2 hlt)
   simp only [Int.toNat_natCast] at fh t0 t1 t2 t3 sh u0 u1 u2 u3
   subst eA eS
   have HYL:=ak_ (HFT.out.ops j)
   have HY5:Aside0 (∀ k:Nat,(rd_T45 (rd_T50 bs (j:Int)).f0 (k:Int)).f5.length≤4096):=⟨fun k=>HA.out (j,k)⟩
   generalize (rd_T50 bs (j:Int)).f0=ys at fh sh l5 g5 l6 g6 HYL HY5
   generalize (rd_T50 bs (j:Int)).f1=tm at t0 t1 t2 t3 u0 u1 u2 u3
   have HG5:=ak_ g5
   have HG6:=ak_ g6
   clear l5 g5 l6 g6
   go_wp2_with fail
   refine wp_region_rel 30 (fun _=>none) (fun _=>[]) (fun _ _ _=>True) (fun wq=>Below wr.heap.size wr wq) (fun a b=>Below a.heap.size a b) (by kernel_rfl) (by kernel_rfl) (below_drew (Below.refl _ _)) (fun a b h k=>below_then h h.size k) (fun _ _ _ _ h _=>h) ?_
   simp only [List.take_succ_cons,List.take_zero,List.drop_succ_cons,List.drop_zero]
   iterate 30 (apply relQ_step rfl;apply Exists.intro;constructor;(focus (intro wq hwq;have c1:=pw_cell_below hwq c1;have d1:=pw_cell_below hwq d1;have fh:=pw_cell_below hwq fh;have t0:=pw_cell_below hwq t0;have t1:=pw_cell_below hwq t1;have t2:=pw_cell_below hwq t2;have t3:=pw_cell_below hwq t3;have sh:=pw_cell_below hwq sh;have u0:=pw_cell_below hwq u0;have u1:=pw_cell_below hwq u1;have u2:=pw_cell_below hwq u2;have u3:=pw_cell_below hwq u3;unfold Yl;go_wp2_with fail;exact ⟨rfl,_,rfl,rfl,Below.refl _ _⟩));(try simp only [Act.put,pa_,pb_,pc_]))
   refine relQ_nil (fun xx=>?_)
   repeat (refine relL_quiet rfl ?_)
   refine relL_nil (fun w13 hw13 _=>?_)
   clear c0 c1 d0 d1 t0 t1 t2 t3 u0 u1 u2 u3
   have fh:=pw_cell_below hw13 fh
   have sh:=pw_cell_below hw13 sh
   have Hfh:=ak_ fh
   have Hsh:=ak_ sh
   have HG7:=ak_ (Kd.C_below HG5.out hw13)
   have HG8:=ak_ (Kd.C_below HG6.out hw13)
   have HB13:=ak_ (below_then HB.out HB.out.size hw13)
   clear hw13 fh sh HG5 HG6
   go_wp2_with fail
   go_loopw [6] (fun i wi=>∃ q:Nat,q≤ys.length∧i=.int .i64 (q:Int)∧Aside0 (Below w13.heap.size w13 wi)) (fun i _=>ys.length - (intOf i).toNat)
   case atStart=>exact ⟨0,Nat.zero_le _,rfl,⟨Below.refl _ _⟩⟩
   case round =>
    obtain ⟨q,hq,rfl,HBi⟩:=hrel
    have HB:=ak_ (below_then HB13.out HB13.out.size HBi.out)
    have c0:=blk_cell (blk_below HF.out HB.out) 0
    have c1:=blk_cell (blk_below HF.out HB.out) 1
    have d0:=blk_cell (blk_below HG.out HB.out) 0
    have d1:=blk_cell (blk_below HG.out HB.out) 1
    simp only [ga_,gb_,gc_] at c0 c1 d0 d1
    have fh:=pw_cell_below HBi.out Hfh.out
    have sh:=pw_cell_below HBi.out Hsh.out
    by_cases hlq:q<ys.length
    ·have b2:decide ((q:Int)<(ys.length:Int))=true:=decide_eq_true (Int.ofNat_lt.2 hlq)
     have hw2:wrap64 ((q:Int)+1)=(q:Int)+1:=inc63 hlq (Nat.le_trans HYL.out (by decide))
     obtain ⟨adx,A7,c7,eX,x0,x1,x2,x3,x4,x5,x6,x7⟩:=at_T45 (Kd.C_below HG7.out HBi.out) (q:Int) (Int.natCast_nonneg q) (Int.ofNat_lt.2 hlq)
     obtain ⟨ady,A8,c8,eY,y0,y1,y2,y3,y4,y5,y6,y7⟩:=at_T45 (Kd.C_below HG8.out HBi.out) (q:Int) (Int.natCast_nonneg q) (Int.ofNat_lt.2 hlq)
     simp only [Int.toNat_natCast] at x0 x1 x2 x3 x4 x5 y0 y1 y2 y3 y4 y5
     subst eX eY
     obtain ⟨k,hk⟩:=sameOp_self (rd_T45 ys (q:Int)) (HY5.out q)
     have HK:=ak_ (hk k (Nat.le_refl _))
     clear hk
     generalize rd_T45 ys (q:Int)=X at x0 x1 x2 x3 x4 x5 x6 x7 y0 y1 y2 y3 y4 y5 y6 y7 HK
     have HX6:=ak_ x6
     have HX7:=ak_ x7
     have HY6:=ak_ y6
     have HY7:=ak_ y7
     clear x6 x7 y6 y7
     go_wp2_with fail
     refine wp_region_rel 20 (fun _=>none) (fun _=>[]) (fun _ _ _=>True) (fun wq=>Below wr.heap.size wr wq) (fun a b=>Below a.heap.size a b) (by kernel_rfl) (by kernel_rfl) (below_drew (Below.refl _ _)) (fun a b h k=>below_then h h.size k) (fun _ _ _ _ h _=>h) ?_
     simp only [List.take_succ_cons,List.take_zero,List.drop_succ_cons,List.drop_zero]
     iterate 20 (apply relQ_step rfl;apply Exists.intro;constructor;(focus (intro wq hwq;have c1:=pw_cell_below hwq c1;have d1:=pw_cell_below hwq d1;have fh:=pw_cell_below hwq fh;have sh:=pw_cell_below hwq sh;have x0:=pw_cell_below hwq x0;have x1:=pw_cell_below hwq x1;have x2:=pw_cell_below hwq x2;have x3:=pw_cell_below hwq x3;have x4:=pw_cell_below hwq x4;have x5:=pw_cell_below hwq x5;have y0:=pw_cell_below hwq y0;have y1:=pw_cell_below hwq y1;have y2:=pw_cell_below hwq y2;have y3:=pw_cell_below hwq y3;have y4:=pw_cell_below hwq y4;have y5:=pw_cell_below hwq y5;unfold Yl;go_wp2_with (go_at_call 48;refine (swageref14_SameOp.calls k X.f0 X.f1 X.f2 X.f3 X.f4 A7 c7 X.f5 X.f0 X.f1 X.f2 X.f3 X.f4 A8 c8 X.f5 true _ (Kd.C_below HX7.out hwq) HX6.out (Kd.C_below HY7.out hwq) HY6.out HK.out).mono ?_;rintro e w9 ⟨rfl,hbq⟩);first|exact ⟨rfl,_,rfl,rfl,Below.refl _ _⟩|exact ⟨rfl,_,rfl,rfl,hbq⟩));(try simp only [Act.put,pa_,pb_,pc_]))
     refine relQ_nil (fun xx=>?_)
     repeat (refine relL_quiet rfl ?_)
     refine relL_nil (fun w14 hw14 _=>?_)
     have HB14:=ak_ (below_then HBi.out HBi.out.size hw14)
     go_wp2_with fail
     go_roundw
     case rel=>exact ⟨q+1,hlq,by first|(rw [hw2];exact num_cast q)|(with_reducible exact num_cast q),HB14⟩
     case measure=>first|(rw [hw2];exact num_meas hlq)|(with_reducible exact num_meas hlq)
    ·have b2:decide ((q:Int)<(ys.length:Int))=false:=decide_eq_false (fun h=>hlq (Int.ofNat_lt.1 h))
     go_wp2_with fail
     go_roundw
     case rel=>exact ⟨j+1,hlt,by first|(rw [hw1];exact num_cast j)|(with_reducible exact num_cast j),HB⟩
     case measure=>first|(rw [hw1];exact num_meas hlt)|(with_reducible exact num_meas hlt)
  ·have b1:decide ((j:Int)<(bs.length:Int))=false:=decide_eq_false (fun h=>hlt (Int.ofNat_lt.1 h))
   go_wp2_with fail
   go_ret
   exact ⟨rfl,below_then HBW.out HBW.out.size HB.out⟩
end Go.Proofs.YtnkgbnbbmcoiiaaGreat.S
namespace Go.Proofs.YtnkgbnbbmcoiiaaGreat.S
open Go.RowKit Go.IM Go.Proofs.YtnkgbnbbmcoiiaaGreatW.PrintWords Go.Proofs.YtnkgbnbbmcoiiaaGreatW.PrintLast Go.Proofs.YtnkgbnbbmcoiiaaGreatW.PrintMore
set_option linter.unusedVariables false
set_option linter.unusedSimpArgs false
/-! ### swageref17.Out -/
theorem in17_any (p:Int) (A:Option Addr) (c:Nat) (bs:List S50) (w:World) (hF:Fits bs) (hR:rightF p bs 256=true) (hC:Kd.C k50 w A bs.length bs) (hc:bs.length≤c) :
  Calls Tryz.prog 22 #[.agg #[.int .i64 p,.slice A bs.length c]] w fun e w'=>∃ A' c',e=.returned (.slice A' bs.length c')∧Kd.C (Kd.slice 3 (Kd.int .i64)) w' A' bs.length (inL bs)∧Below w.heap.size w w':=by
 obtain ⟨k,hk⟩:=r17_in p bs hF hR
 refine (swageref17_In.calls k p A c bs _ w hC hc (hk k (Nat.le_refl _))).mono ?_
 rintro e w' ⟨v,rfl,hr,hb⟩
 obtain ⟨A',c',rfl,_,hC'⟩:=Kd.R_reads (Kd.S_R hr)
 rw [inL_length] at hC' ⊢
 exact ⟨A',c',rfl,hC',hb⟩
theorem anyB_take {bs:List S50} {r:Int} {l:List Int} {q:Nat} (h:q<l.length):anyB bs r (l.take (q+1))=(anyB bs r (l.take q) || decide (r∈liveRow bs l[q].toNat 0)):=by
 unfold anyB
 rw [List.take_succ_eq_append_getElem h,List.any_append]
 simp only [List.any_cons,List.any_nil,Bool.or_false]
set_option maxHeartbeats 16000000 in
set_option maxRecDepth 100000 in
theorem out17_ok (p:Int) (A:Option Addr) (c:Nat) (bs:List S50) (w:World) (hF:Fits bs) (hR:rightF p bs 256=true) (hC:Kd.C k50 w A bs.length bs) (hc:bs.length≤c) :
  Calls Tryz.prog 24 #[.agg #[.int .i64 p,.slice A bs.length c]] w fun e w'=>∃ v,e=.returned v∧Kd.R (Kd.slice 3 (Kd.int .i64)) 31 w' w.heap.size (fun _=>True) v (outL bs)∧Below w.heap.size w w':=by
 have RP:=ak_ (rightF_iff hR)
 have HR:=ak_ hR
 have HFT:=ak_ hF
 have HC:=ak_ hC
 have HCc:=ak_ hc
 have hn4:=hF.len
 have hu24:=Tryz.underlying24
 have HB0:=ak_ (below_alloc (Below.refl w.heap.size w) (.cells #[.int .i64 p,.slice A bs.length c] 24))
 have HF0:=ak_ (blk_new w (.cells #[.int .i64 p,.slice A bs.length c] 24))
 obtain ⟨T,hT⟩:∃ T:Nat,(T:Int)=topR p bs:=⟨(topR p bs).toNat,Int.toNat_of_nonneg (topR_nonneg p bs)⟩
 have HT:=ak_ hT
 have hTl:T≤4096:=by have:=top_le RP.out;omega
 have HLS:Aside0 ((succL bs).length=bs.length):=⟨succL_length bs⟩
 have HOA:=ak_ (fun j (hj:j<bs.length)=>upOut_all RP.out (i:=j) (m:=T) hj hT)
 have c0:=bc_ HF0 0
 have c1:=bc_ HF0 1
 simp only [ga_,gb_,gc_] at c0 c1
 obtain ⟨fi,hfi⟩:∃ fi:Nat→List Int,fi=fun i=>outRow bs i:=⟨_,rfl⟩
 have HFI:=ak_ hfi
 have HOL:Aside0 ((List.range bs.length).map fi=outL bs):=⟨by rw [hfi];rfl⟩
 clear hfi hF hR hC hc hT
 go_enter Tryz.func24,Tryz.ntmps24
 go_wp2_with (go_at_call 22;refine (in17_any p A c bs _ HFT.out HR.out (Kd.C_below HC.out HB0.out) HCc.out).mono ?_;rintro e w1 ⟨A1,c1',rfl,hC1,hb⟩;have HC1:=ak_ hC1;have HB1:=ak_ (below_then HB0.out HB0.out.size hb);have HF1:=ak_ (blk_below HF0.out hb);clear c0 c1 hC1 hb)
 go_loopw [4,5] (fun v i wr=>∃ j:Nat,j≤bs.length∧i=.int .i64 (j:Int)∧Aside0 (Kd.R (Kd.slice 3 (Kd.int .i64)) 31 wr w1.heap.size (fun _=>True) v ((List.range j).map fi))∧Aside0 (Below w1.heap.size w1 wr)) (fun _ i _=>bs.length - (intOf i).toNat)
 case atStart=>exact ⟨0,Nat.zero_le _,rfl,⟨Kd.R_nil _ _ _ _ _⟩,⟨Below.refl _ _⟩⟩
 case round =>
  obtain ⟨j,hj,rfl,HO,HB⟩:=hrel
  have c0:=blk_cell (blk_below HF1.out HB.out) 0
  have c1:=blk_cell (blk_below HF1.out HB.out) 1
  simp only [ga_,gb_,gc_] at c0 c1
  by_cases hlt:j<bs.length
  ·have b1:decide ((j:Int)<(bs.length:Int))=true:=decide_eq_true (Int.ofNat_lt.2 hlt)
   have hw1:wrap64 ((j:Int)+1)=(j:Int)+1:=inc63 hlt (Nat.le_trans hn4 (by decide))
   have HLT:=ak_ hlt
   have HSU:=ak_ (upOut_succ bs j)
   have HUL:=ak_ (upOut_len bs j)
   have HSB:=ak_ (RP.out.succ hlt)
   have HTS:Aside0 ((List.range (j+1)).map fi=(List.range j).map fi++[fi j]):=⟨by rw [List.range_succ,List.map_append];rfl⟩
   have HFJ:Aside0 (upOut bs j T=fi j):=⟨by rw [HFI.out];exact HOA.out j hlt⟩
   have HL:Aside0 (((List.range j).map fi).length≤4096):=⟨by simp;omega⟩
   generalize (List.range j).map fi=out at HO HTS HL
   have HBr:=ak_ (below_then HB1.out HB1.out.size HB.out)
   obtain ⟨sl,hsl⟩:∃ sl,succT (rd_T50 bs (j:Int)).f1=sl:=⟨_,rfl⟩
   have hSA:rd_L1 (succL bs) (j:Int)=sl:=by rw [← hsl];exact succL_at hlt
   rw [hsl] at HSU HSB
   clear hsl
   go_wp2_with (go_at_call 54;refine (succ14_any p A c bs _ (Kd.C_below HC.out HBr.out) HCc.out (Nat.le_trans hn4 (by decide))).mono ?_;rintro e w2 ⟨A8,c8,rfl,hr8,hb⟩;rw [HLS.out] at hr8 ⊢;have HB2:=ak_ hb;obtain ⟨ads,As,cs,eS,hs0,hs1,hs2⟩:=row_cell (show Kd.C (Kd.slice 3 (Kd.int .i64)) w2 A8 bs.length (succL bs) by have h:=(Kd.R_reads' hr8).2.2;rw [HLS.out] at h;exact h) hlt hSA;subst eS;have HS2:=ak_ hs2;clear hb hr8 hs1 hs2 c0 c1)
   clear hs0 hSA
   have HB2w:=ak_ (below_then HBr.out HBr.out.size HB2.out)
   have HB21:=ak_ (below_then HB.out HB.out.size HB2.out)
   have HF2:=ak_ (blk_below (blk_below HF1.out HB.out) HB2.out)
   go_loopw [7,8] (fun v i' wx=>∃ m:Nat,m≤T∧i'=.int .i64 ((m:Int)+1)∧Aside0 (wx.ownsRow w2.heap.size 3 1 v (upOut bs j m).length (nums .i64 (upOut bs j m)))∧Aside0 (Below w2.heap.size w2 wx)) (fun _ i' _=>T+1 - (intOf i').toNat)
   case atStart=>exact ⟨0,Nat.zero_le _,rfl,⟨own_nil _ _ _ _⟩,⟨Below.refl _ _⟩⟩
   case round =>
    obtain ⟨m,hm,rfl,HOx,HBx⟩:=hrel
    have c0:=blk_cell (blk_below HF2.out HBx.out) 0
    have c1:=blk_cell (blk_below HF2.out HBx.out) 1
    simp only [ga_,gb_,gc_] at c0 c1
    have HBxw:=ak_ (below_then HB2w.out HB2w.out.size HBx.out)
    by_cases hmT:m<T
    ·have b2:decide ((m:Int)+1≤(T:Int))=true:=decide_eq_true (by omega)
     have b2p:(m:Int)+1≤(T:Int):=by omega
     have hw2:wrap64 ((m:Int)+1+1)=((m+1:Nat):Int)+1:=by
      unfold wrap64
      omega
     have HMT:=ak_ hmT
     have hus:=HSU.out m
     obtain ⟨B,hB⟩:∃ B,anyB bs ((m:Int)+1) sl=B:=⟨_,rfl⟩
     rw [hB] at hus
     have HBB:=ak_ hB
     have HUS:=ak_ hus
     have hul:=HUL.out m
     clear hB hus
     go_wp2_with (go_at_call 38;refine (regs14_any p A c bs _ RP.out (Kd.C_below HC.out HBxw.out) HCc.out).mono ?_;rintro e w3 ⟨rfl,hb⟩;rw [← HT.out];have HB3:=ak_ (below_then HBx.out HBx.out.size hb);have HO3:=ak_ (pw_own_below HOx.out hb);clear c0 c1 hb)
     go_loopw [9,10] (fun v i wi=>∃ q:Nat,q≤sl.length∧i=.int .i64 (q:Int)∧v=.bool (anyB bs ((m:Int)+1) (sl.take q))∧Aside0 (Below w3.heap.size w3 wi)) (fun _ i _=>sl.length - (intOf i).toNat)
     case atStart=>exact ⟨0,Nat.zero_le _,rfl,rfl,⟨Below.refl _ _⟩⟩
     case round =>
      obtain ⟨q,hq,rfl,rfl,HBq⟩:=hrel
      have HB4:=ak_ (below_then HB3.out HB3.out.size HBq.out)
      by_cases hlq:q<sl.length
      ·have b3:decide ((q:Int)<(sl.length:Int))=true:=decide_eq_true (Int.ofNat_lt.2 hlq)
       have hCs:=Kd.C_below HS2.out HB4.out
       have hw6:wrap64 ((q:Int)+1)=(q:Int)+1:=inc63 hlq hCs.2.1
       obtain ⟨adq,eQ,hcq⟩:=Kd.at_int hCs (q:Int) (Int.natCast_nonneg q) (Int.ofNat_lt.2 hlq)
       rw [Int.toNat_natCast] at hcq
       have hsb:=HSB.out (rd sl (q:Int)) (by rw [rd_mem hlq];exact List.getElem_mem _)
       have HTK:Aside0 (anyB bs ((m:Int)+1) (sl.take (q+1))=(anyB bs ((m:Int)+1) (sl.take q) || decide ((m:Int)+1∈liveRow bs (rd sl (q:Int)).toNat 0))):=⟨by rw [anyB_take hlq,rd_mem hlq]⟩
       obtain ⟨t,ht⟩:∃ t:Nat,rd sl (q:Int)=(t:Int):=⟨_,(Int.toNat_of_nonneg hsb.1).symm⟩
       rw [ht] at hcq hsb HTK
       rw [Int.toNat_natCast] at HTK
       subst eQ
       have htn:t<bs.length:=by omega
       obtain ⟨adx,A0,k0,eX,hx0,hx1,hx2⟩:=row_cell (Kd.C_below HC1.out (below_then HB21.out HB21.out.size HB4.out)) htn (rd_inL htn)
       subst eX
       have HX1:=ak_ hx1
       have HX2:=ak_ hx2
       have HXL:Aside0 ((liveRow bs t 0).length≤1000000000000):=⟨Nat.le_trans (liveRow_le RP.out t 0) (by decide)⟩
       have b4:decide ((t:Int)<(bs.length:Int))=true:=decide_eq_true (Int.ofNat_lt.2 htn)
       generalize liveRow bs t 0=lt at hx0 HX1 HX2 HXL HTK
       clear hx1 hx2 ht hsb hCs
       cases hfb:anyB bs ((m:Int)+1) (sl.take q) with
       | true =>
        have HV:Aside0 (anyB bs ((m:Int)+1) (sl.take (q+1))=true):=⟨by rw [HTK.out,hfb];rfl⟩
        clear hfb
        go_wp2_with fail
        go_roundw
        case rel=>exact ⟨q+1,hlq,by first|(rw [hw6];exact num_cast q)|(with_reducible exact num_cast q),by rw [HV.out],HBq⟩
        case measure=>first|(rw [hw6];exact num_meas hlq)|(with_reducible exact num_meas hlq)
       | false =>
        have HV:Aside0 (anyB bs ((m:Int)+1) (sl.take (q+1))=decide ((m:Int)+1∈lt)):=⟨by rw [HTK.out,hfb];rfl⟩
        clear hfb
        go_wp2_with (go_at_call 55;refine (has17_any A0 k0 lt ((m:Int)+1) _ HX2.out HX1.out HXL.out).mono ?_;rintro e w8 ⟨rfl,hb⟩;have HB8:=ak_ (below_then HBq.out HBq.out.size hb);clear hb)
        go_roundw
        case rel=>exact ⟨q+1,hlq,by first|(rw [hw6];exact num_cast q)|(with_reducible exact num_cast q),by rw [HV.out],HB8⟩
        case measure=>first|(rw [hw6];exact num_meas hlq)|(with_reducible exact num_meas hlq)
      ·have b3:decide ((q:Int)<(sl.length:Int))=false:=decide_eq_false (fun h=>hlq (Int.ofNat_lt.1 h))
       have hfe:anyB bs ((m:Int)+1) (sl.take q)=B:=by rw [List.take_of_length_le (Nat.le_of_not_lt hlq)];exact HBB.out
       rw [hfe]
       clear hfe
       have HO4:=ak_ (pw_own_below HO3.out HBq.out)
       cases B with
       | false =>
        have HU:Aside0 (upOut bs j (m+1)=upOut bs j m):=⟨by rw [HUS.out,if_neg (by simp)]⟩
        go_wp2_with fail
        go_roundw
        case rel=>exact ⟨m+1,HMT.out,by first|(with_reducible rfl)|rw [Int.natCast_succ]|rw [hw2],⟨by rw [HU.out];exact HO4.out⟩,HB4⟩
        case measure=>first|exact at_meas HMT.out|(rw [hw2];exact at_meas HMT.out)
       | true =>
        have HU:Aside0 (upOut bs j (m+1)=upOut bs j m++[(m:Int)+1]):=⟨by rw [HUS.out,if_pos rfl]⟩
        have HLB:Aside0 ((upOut bs j m).length≤4096):=⟨by omega⟩
        obtain ⟨L,hL⟩:∃ L,upOut bs j m=L:=⟨_,rfl⟩
        rw [hL] at HU HLB HO4
        clear hL hul
        go_wp2_with (at_builtin;refine print_append_num w2.heap.size rfl _ _ 31 3 .i64 8 rfl Tryz.underlying31 (by kernel_rfl) (by decide) u7 L ((m:Int)+1) rfl rfl HO4.out HB4.out HB4.out.size (by have:=HLB.out;omega) ?_;intro v1 w5 hown hB1 hg1 hat;have HO5:=ak_ hown;have HB5:=ak_ hB1;clear hown hB1 hg1 hat)
        go_roundw
        case rel=>exact ⟨m+1,HMT.out,by first|(with_reducible rfl)|rw [Int.natCast_succ]|rw [hw2],⟨by rw [HU.out];exact HO5.out⟩,HB5⟩
        case measure=>first|exact at_meas HMT.out|(rw [hw2];exact at_meas HMT.out)
    ·have b2:decide ((m:Int)+1≤(T:Int))=false:=decide_eq_false (by omega)
     have b2p:¬ (m:Int)+1≤(T:Int):=by omega
     have hme:m=T:=by omega
     rw [hme,HFJ.out] at HOx
     clear hme
     generalize fi j=zs at HOx HTS
     have hr7:Kd.R (Kd.int .i64) 3 _ w2.heap.size (fun _=>True) u7 zs:=Kd.R_of_own HOx.out (fun _ _=>trivial)
     obtain ⟨A7,c7,e7⟩:=Kd.R_slice hr7
     subst e7
     have HR7:=ak_ hr7
     clear hr7
     go_wp2_with (first
      | (go_at_call 38;refine (regs14_any p A c bs _ RP.out (Kd.C_below HC.out HBxw.out) HCc.out).mono ?_;rintro e w3 ⟨rfl,hb⟩;rw [← HT.out];have HB3:=ak_ (below_then HBx.out HBx.out.size hb);have HR3:=ak_ (Kd.R_below HR7.out hb);have HB31:=ak_ (below_then HB2.out HB2.out.size HB3.out);clear c0 c1 hb)
      | (at_builtin;refine Kd.R_append (Kd.slice 3 (Kd.int .i64)) (w0:=w1) w1.heap.size rfl _ _ 35 31 (.slice none 0 0) 24 rfl Tryz.underlying35 info31 rfl (by decide) (by decide) _ out zs [.slice A7 zs.length c7] (fun _=>True) (fun k=>w2.heap.size≤k) rfl rfl ⟨_,rfl,Kd.R_lower (Kd.R_mono (Kd.R_bound HR3.out) (fun k hk=>hk.2.1)) HB21.out.size⟩ (fun k hk=>⟨trivial,fun e=>by have:=Kd.R_lt HO.out k e.symm;have:=HB2.out.size;omega⟩) (fun _ _=>trivial) (Kd.R_below HO.out HB31.out) (below_then HB.out HB.out.size HB31.out) (by have:=HB.out.size;have:=HB31.out.size;omega) (by have:=HL.out;omega) ?_;intro v5 w5 ho5 hb5 hg5 hat5;have HO5:=ak_ ho5;have HB5:=ak_ hb5;clear ho5 hb5 hg5 hat5))
     go_roundw
     case rel=>exact ⟨j+1,HLT.out,by first|(rw [hw1];exact num_cast j)|(with_reducible exact num_cast j),⟨by rw [HTS.out];exact HO5.out⟩,HB5⟩
     case measure=>first|(rw [hw1];exact num_meas HLT.out)|(with_reducible exact num_meas HLT.out)
  ·have b1:decide ((j:Int)<(bs.length:Int))=false:=decide_eq_false (fun h=>hlt (Int.ofNat_lt.1 h))
   obtain rfl:j=bs.length:=by omega
   rw [HOL.out] at HO
   go_wp2_with fail
   go_ret
   exact ⟨_,rfl,Kd.R_lower HO.out HB1.out.size,below_then HB1.out HB1.out.size HB.out⟩
/-! ### What LiveTells calls: program and document tell one row -/
/-- A row that a call tells. -/
def Told (w:World) (L:List (List Int)) (e:Ending) (w' : World):Prop:=∃ A c,e=.returned (.slice A L.length c)∧L.length≤c∧Kd.C (Kd.slice 3 (Kd.int .i64)) w' A L.length L∧Below w.heap.size w w'
theorem Told.of_R {w w' : World} {v:Value} {L:List (List Int)} {base:Nat} {ok:Nat→Prop} (h:Kd.R (Kd.slice 3 (Kd.int .i64)) 31 w' base ok v L) (hb:Below w.heap.size w w'):Told w L (.returned v) w':=by
 obtain ⟨A,c,rfl,hl,hC⟩:=Kd.R_reads h
 exact ⟨A,c,rfl,hl,hC,hb⟩
theorem copy14_told (p:Int) (A:Option Addr) (c:Nat) (bs:List S50) (w:World) (hF:Fits bs) (hC:Kd.C k50 w A bs.length bs) (hc:bs.length≤c) :
  Calls Tryz.prog 8 #[.agg #[.int .i64 p,.slice A bs.length c]] w fun e w'=>∃ A' c',e=.returned (.agg #[.int .i64 p,.slice A' bs.length c'])∧bs.length≤c'∧Kd.C k50 w' A' bs.length bs∧Below w.heap.size w w':=by
 obtain ⟨k,hk⟩:=r14_copy p bs hF
 refine (swageref14_Copy.calls k p A c bs p bs w hC hc (hk k (Nat.le_refl _))).mono ?_
 rintro e w' ⟨v,rfl,h,hb⟩
 obtain ⟨A',c',rfl,hl,hC'⟩:=Kd.R_reads h
 exact ⟨A',c',rfl,hl,hC',hb⟩
theorem same14_told (p:Int) (A A' : Option Addr) (c c' : Nat) (bs:List S50) (w:World) (hF:Fits bs) (hA:∀ q,(opOf bs q).f5.length≤4096) (hC:Kd.C k50 w A bs.length bs) (hc:bs.length≤c) (hC' : Kd.C k50 w A' bs.length bs) (hc' : bs.length≤c') :
  Calls Tryz.prog 17 #[.agg #[.int .i64 p,.slice A bs.length c],.agg #[.int .i64 p,.slice A' bs.length c']] w fun e w'=>e=.returned (.bool true)∧Below w.heap.size w w':=by
 exact same14_eq p A A' c c' bs w hF hA hC hC'
