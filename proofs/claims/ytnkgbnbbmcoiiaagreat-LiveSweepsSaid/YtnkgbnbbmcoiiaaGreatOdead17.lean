import Derived.Test.YtnkgbnbbmcoiiaaGreatBk
import Derived.Test.YtnkgbnbbmcoiiaaGreatRfz
import Derived.Test.YtnkgbnbbmcoiiaaGreatLtz
import Derived.Test.YtnkgbnbbmcoiiaaGreatLap17
import Derived.Test.YtnkgbnbbmcoiiaaGreatOapp
namespace Go.Proofs.YtnkgbnbbmcoiiaaGreat.S
open Go.RowKit Go.IM Go.Proofs.YtnkgbnbbmcoiiaaGreatW.PrintWords Go.Proofs.YtnkgbnbbmcoiiaaGreatW.PrintLast Go.Proofs.YtnkgbnbbmcoiiaaGreatW.PrintMore
set_option linter.unusedVariables false
set_option linter.unusedSimpArgs false
/-! ### live.Dead -/
theorem info68:(Tryz.prog.info? 68).map (fun i=>(i.zero,i.size,i.bytes))=some (some (.agg #[.int .i64 0,.int .i64 0]),2,16):=by kernel_rfl
theorem prC_one (q:Nat × Nat):∀ u∈prC q,u.oneCell'=true:=by
 intro u hu
 simp only [prC,List.mem_cons,List.not_mem_nil,or_false] at hu
 rcases hu with rfl|rfl<;>rfl
section
variable {ops:Array Oper} {rest:List Oper} {o:Oper} {a:Act} {Q:Exit→Act→World→Prop}
theorem app86 {w0 W:World} (base:Nat) (hgd:o.guard=none) (s x:Operand) (ho:o.op=.call { callee:=.builtin .append,args:=#[s,x],argTypes:=#[42,42] })
  (v:Value) (D:List (Nat × Nat)) (i k:Nat) (hs:a.eval s=v) (hx:a.eval x=.slice (some ⟨W.heap.size,0,none⟩) 1 1) (HO:W.ownsRow base 68 2 v D.length (prCs D)) (HB:Below base w0 W) (hbase:base≤W.heap.size) (hl:D.length≤16384)
  (h:∀ v1 w1,w1.ownsRow base 68 2 v1 (D++[(i,k)]).length (prCs (D++[(i,k)]))→Below base w0 w1→TX 68 W w1→wpList Tryz.prog ops Q rest (a.put o.dst v1) w1):wpList Tryz.prog ops Q (o::rest) a (W.alloc (.cells #[.int .i64 (i:Int),.int .i64 (k:Int)] 68)):=by
 refine print_append_cells (w0:=w0) (W:=W) base hgd s x 42 68 (.agg #[.int .i64 0,.int .i64 0]) 2 16 ho Tryz.underlying42 info68 rfl (by decide) (by decide) v D.length (prCs D) (prC (i,k)) hs hx rfl (prC_one (i,k)) HO HB hbase (by omega) ?_
 intro v1 w1 ho1 hb1 hg1 _
 exact h v1 w1 (by rw [List.length_append,prCs_snoc];exact ho1) hb1 (TX.of_append HO hg1)
end
set_option maxHeartbeats 4000000 in
set_option maxRecDepth 100000 in
theorem dead_bad (p:Int) (A:Option Addr) (c:Nat) (bs:List S50) (w:World) (hC:Kd.C k50 w A bs.length bs) (hR:rightF p bs 256=false) :
  Calls Tryz.prog 30 #[.agg #[.int .i64 p,.slice A bs.length c]] w fun e w'=>e=.returned (.slice none 0 0)∧Below w.heap.size w w':=by
 have HR:=ak_ hR
 have HC:=ak_ hC
 have HB0:=ak_ (below_alloc (Below.refl w.heap.size w) (.cells #[.int .i64 p,.slice A bs.length c] 24))
 have hu34:=Tryz.underlying24
 clear hC hR
 go_enter Tryz.func30,Tryz.ntmps30
 go_wp2_with (go_at_call 49;refine (sets_bad p A c bs _ (Kd.C_below HC.out HB0.out) HR.out).mono ?_;rintro e w1 ⟨rfl,hb⟩;have HB1:=ak_ (below_then HB0.out HB0.out.size hb);clear hb)
 go_ret
 exact ⟨rfl,HB1.out⟩
set_option maxHeartbeats 8000000 in
set_option maxRecDepth 100000 in
theorem dead_ok (p:Int) (A:Option Addr) (c:Nat) (bs:List S50) (w:World) (hC:Kd.C k50 w A bs.length bs) (hR:rightF p bs 256=true) :
  Calls Tryz.prog 30 #[.agg #[.int .i64 p,.slice A bs.length c]] w fun e w'=>∃ v,e=.returned v∧w'.ownsRow w.heap.size 68 2 v (deadP bs (plcs bs bs.length)).length (prCs (deadP bs (plcs bs bs.length)))∧Below w.heap.size w w':=by
 have RP:=ak_ (rightF_iff hR)
 have HR:=ak_ hR
 have HC:=ak_ hC
 have HB0:=ak_ (below_alloc (Below.refl w.heap.size w) (.cells #[.int .i64 p,.slice A bs.length c] 24))
 have HF0:=ak_ (blk_new w (.cells #[.int .i64 p,.slice A bs.length c] 24))
 have hu34:=Tryz.underlying24
 have hu43:=Tryz.underlying50
 have hu41:=Tryz.underlying48
 have hu45:=Tryz.underlying45
 have hu86:=Tryz.underlying68
 have hlen:=RP.out.len
 clear hC hR
 go_enter Tryz.func30,Tryz.ntmps30
 go_wp2_with (go_at_call 49;refine (sets_ok p A c bs _ (Kd.C_below HC.out HB0.out) HR.out).mono ?_;rintro e w1 ⟨A1,rfl,hm,hb⟩;have HM:=ak_ hm;have HF1:=ak_ (blk_below HF0.out hb);have HB1:=ak_ (below_then HB0.out HB0.out.size hb);have c0:=bc_ HF1 0;have c1:=bc_ HF1 1;simp only [ga_,gb_,gc_] at c0 c1;clear hb hm)
 clear c0 c1
 go_loopw [5,21] (fun v i wr=>∃ x:Nat,x≤bs.length∧i=.int .i64 (x:Int)∧Aside0 (wr.ownsRow w1.heap.size 68 2 v (deadP bs (plcs bs x)).length (prCs (deadP bs (plcs bs x))))∧Aside0 (Below w1.heap.size w1 wr)) (fun _ i _=>bs.length - (intOf i).toNat)
 case atStart=>exact ⟨0,Nat.zero_le _,rfl,⟨own_nil _ _ _ _⟩,⟨Below.refl _ _⟩⟩
 case round =>
  obtain ⟨x,hx,rfl,HO,HB⟩:=hrel
  by_cases hlt:x<bs.length
  ·have b1:decide ((x:Int)<(bs.length:Int))=true:=decide_eq_true (by omega)
   have hw1:wrap64 ((x:Int)+1)=(x:Int)+1:=(wr3 (z:=0) (by decide) (by omega)).2.2
   have q1:(0:Int)≤(x:Int):=by omega
   have q2:(x:Int)<(bs.length:Int):=by omega
   obtain ⟨ad,A5,c5,eA,h0,h1,h2,h3,h4,l5,g5⟩:=at_T50 HC.out (x:Int) q1 q2
   simp only [Int.toNat_natCast] at h0 h1 h2 h3 h4
   subst eA
   have hbw:=below_then HB1.out HB1.out.size HB.out
   have h0:=pw_cell_below hbw h0
   have h1:=pw_cell_below hbw h1
   have h2:=pw_cell_below hbw h2
   have h3:=pw_cell_below hbw h3
   have h4:=pw_cell_below hbw h4
   clear hbw
   have HG5:=ak_ g5
   have HOL:Aside0 (opLen bs x=(rd_T50 bs (x:Int)).f0.length):=⟨rfl⟩
   have HOP:Aside0 (∀ k:Nat,opOf bs (x,k)=rd_T45 (rd_T50 bs (x:Int)).f0 (k:Int)):=⟨fun k=>rfl⟩
   have HXL:Aside0 ((rd_T50 bs (x:Int)).f0.length≤16384):=⟨RP.out.opLen_le x⟩
   have HPL:Aside0 (∀ k,k≤opLen bs x→(deadP bs (plcs bs x++rowP x k)).length≤16384):=⟨fun k hk=>Nat.le_trans (deadP_len _ _) (part_le RP.out hlt hk)⟩
   have HST:=ak_ (fun k:Nat=>deadP_snoc bs (plcs bs x++rowP x k) (x,k))
   generalize (rd_T50 bs (x:Int)).f0=xs at h0 l5 HG5 HOL HOP HXL
   generalize (rd_T50 bs (x:Int)).f1.f0=t0 at h1
   generalize (rd_T50 bs (x:Int)).f1.f1=t1 at h2
   generalize (rd_T50 bs (x:Int)).f1.f2=t2 at h3
   generalize (rd_T50 bs (x:Int)).f1.f3=t3 at h4
   obtain ⟨L,hL⟩:∃ L,afterL bs x=L:=⟨_,rfl⟩
   have HL:=ak_ hL
   have HLL:Aside0 (L.length=xs.length):=⟨by rw [← hL,afterL,List.length_map,List.length_range,HOL.out]⟩
   have HLA:Aside0 (∀ k:Nat,k<L.length→rd_L1 L (k:Int)=liveRow bs x (k+1)):=⟨fun k hk=>by
    rw [HLL.out,← HOL.out] at hk
    rw [← hL]
    exact rd_afterL hk⟩
   have hbA:=below_alloc (Below.refl wr.heap.size wr) (.cells #[.slice A5 xs.length c5,.int .i64 t0,.int .i64 t1,.int .i64 t2,.int .i64 t3] 50)
   have HB2:=ak_ (below_alloc HB.out (.cells #[.slice A5 xs.length c5,.int .i64 t0,.int .i64 t1,.int .i64 t2,.int .i64 t3] 50))
   have HO2:=ak_ (own_alloc HO.out (.cells #[.slice A5 xs.length c5,.int .i64 t0,.int .i64 t1,.int .i64 t2,.int .i64 t3] 50))
   have HX2:=ak_ (blk_new wr (.cells #[.slice A5 xs.length c5,.int .i64 t0,.int .i64 t1,.int .i64 t2,.int .i64 t3] 50))
   have c0:=blk_cell (blk_below (blk_below HF1.out HB.out) hbA) 0
   have c1:=blk_cell (blk_below (blk_below HF1.out HB.out) hbA) 1
   simp only [ga_,gb_,gc_] at c0 c1
   clear hL g5 hbA
   go_wp2_with (go_at_call 56;refine (after_any p (some ad) c bs 256 A1 x _ (Kd.C_below HC.out (below_then HB1.out HB1.out.size HB2.out)) RP.out (HM.out.below HB2.out) hlt).mono ?_;rintro e w3 ⟨v3,rfl,hr,hb⟩;rw [HL.out] at hr;have HR3:=ak_ hr;obtain ⟨A3,c3,rfl,k3,hC3⟩:=Kd.R_reads hr;have HB3:=ak_ (below_then HB2.out HB2.out.size hb);have HO3:=ak_ (pw_own_below HO2.out hb);have HX3:=ak_ (blk_below HX2.out hb);clear hr hb hC3 k3 c0 c1)
   clear h0 h1 h2 h3 h4 HO HB HB2 HO2 HX2
   generalize wr.heap.size=g at HX3 ⊢
   go_loopw [5,31] (fun v i wr=>∃ k:Nat,k≤L.length∧i=.int .i64 (k:Int)∧Aside0 (wr.ownsRow w1.heap.size 68 2 v (deadP bs (plcs bs x++rowP x k)).length (prCs (deadP bs (plcs bs x++rowP x k))))∧Aside0 (TX 68 w3 wr)∧Aside0 (Below w1.heap.size w1 wr)) (fun _ i _=>L.length - (intOf i).toNat)
   case atStart=>exact ⟨0,Nat.zero_le _,rfl,⟨by rw [rowP_zero,List.append_nil];exact HO3.out⟩,⟨TX.refl _ _⟩,HB3⟩
   case round =>
    clear HO3 HB3
    obtain ⟨k,hk,rfl,HO,HT,HB⟩:=hrel
    by_cases hlk:k<L.length
    ·have b2:decide ((k:Int)<(L.length:Int))=true:=decide_eq_true (Int.ofNat_lt.2 hlk)
     have hkx:k<xs.length:=by rw [← HLL.out];exact hlk
     have hw2:wrap64 ((k:Int)+1)=(k:Int)+1:=(wr3 (z:=0) (by decide) (Nat.le_trans (Nat.le_of_lt hkx) HXL.out)).2.2
     obtain ⟨A3',c3',e3,k3,hC3⟩:=Kd.R_reads (HT.out.R HR3.out (by intro q hq;simp [Kd.slice,Kd.int,Kd.scalar] at hq;omega))
     obtain ⟨rfl,rfl⟩:A3'=A3∧c3'=c3:=by
      injection e3 with e3 _ e4
      exact ⟨e3.symm,e4.symm⟩
     clear e3 k3
     obtain ⟨adr,A0,k0,eI,hi0,hi1,hi2⟩:=row_cell hC3 hlk (HLA.out k hlk)
     subst eI
     have HI1:=ak_ hi1
     have HI2:=ak_ hi2
     have y0:=blk_cell (HT.out.blk HX3.out (by decide)) 0
     simp only [ga_,gb_,gc_] at y0
     obtain ⟨adk,A6,c6,eA,x0,x1,x2,x3,x4,x5,x6,x7⟩:=at_T45 (Kd.C_below HG5.out (below_then HB1.out HB1.out.size HB.out)) (k:Int) (Int.natCast_nonneg k) (Int.ofNat_lt.2 hkx)
     simp only [Int.toNat_natCast] at x0 x1 x2 x3 x4 x5
     subst eA
     have HS:=ak_ (HST.out k)
     have hD:deadB bs (x,k)=(pureX (opOf bs (x,k)) && !decide ((opOf bs (x,k)).f1∈liveRow bs x (k+1))):=rfl
     rw [HOP.out k] at hD
     have HLN:=ak_ (HPL.out k (by rw [HOL.out];omega))
     have HL4:=ak_ (liveRow_le RP.out x (k+1))
     generalize rd_T45 xs (k:Int)=X at x0 x1 x2 x3 x4 x5 x6 x7 hD
     generalize liveRow bs x (k+1)=l at hi0 HI1 HI2 hD HL4
     have hbA:=below_alloc (Below.refl wr.heap.size wr) (.cells #[.int .i64 X.f0,.int .i64 X.f1,.int .i64 X.f2,.int .i64 X.f3,.int .i64 X.f4,.slice A6 X.f5.length c6] 45)
     have HX6:=ak_ x6
     have HX7:=ak_ (Kd.C_below x7 hbA)
     have HXB:=ak_ (blk_new wr (.cells #[.int .i64 X.f0,.int .i64 X.f1,.int .i64 X.f2,.int .i64 X.f3,.int .i64 X.f4,.slice A6 X.f5.length c6] 45))
     have HB3:=ak_ (below_alloc HB.out (.cells #[.int .i64 X.f0,.int .i64 X.f1,.int .i64 X.f2,.int .i64 X.f3,.int .i64 X.f4,.slice A6 X.f5.length c6] 45))
     have HO3:=ak_ (own_alloc HO.out (.cells #[.int .i64 X.f0,.int .i64 X.f1,.int .i64 X.f2,.int .i64 X.f3,.int .i64 X.f4,.slice A6 X.f5.length c6] 45))
     have HT3:=ak_ (HT.out.trans (TX.of_below hbA))
     have HI3:=ak_ (Kd.C_below HI2.out hbA)
     clear x6 x7 hi1 hi2 hbA hC3
     generalize deadP bs (plcs bs x++rowP x k)=D at HO3 HS HLN
     cases hp:pureX X with
     | false =>
      have HP:=ak_ hp
      have HS2:Aside0 (deadP bs (plcs bs x++rowP x (k+1))=D):=⟨by rw [rowP_succ,← List.append_assoc,HS.out,hD,hp];rfl⟩
      clear hp hD
      go_wp2_with (go_at_call 58;refine (pure_any X A6 c6 _ HX7.out HX6.out).mono ?_;rintro e w4 ⟨rfl,hb⟩;rw [HP.out];have HB4:=ak_ (below_then HB3.out HB3.out.size hb);have HO4:=ak_ (pw_own_below HO3.out hb);have HT4:=ak_ (HT3.out.trans (TX.of_below hb));have HI4:=ak_ (Kd.C_below HI3.out hb);have z1:=blk_cell (blk_below HXB.out hb) 1;simp only [ga_,gb_,gc_] at z1;clear hb)
      go_roundw
      case rel=>exact ⟨k+1,hlk,by first|(rw [hw2];exact num_cast k)|(with_reducible exact num_cast k),⟨by rw [HS2.out];exact HO4.out⟩,HT4,HB4⟩
      case measure=>first|(rw [hw2];exact num_meas hlk)|(with_reducible exact num_meas hlk)
     | true =>
      have HP:=ak_ hp
      cases hm:decide (X.f1∈l) with
      | true =>
       have HM1:=ak_ hm
       have HS2:Aside0 (deadP bs (plcs bs x++rowP x (k+1))=D):=⟨by rw [rowP_succ,← List.append_assoc,HS.out,hD,hp,hm];rfl⟩
       clear hp hD hm
       go_wp2_with (first
        | (go_at_call 58;refine (pure_any X A6 c6 _ HX7.out HX6.out).mono ?_;rintro e w4 ⟨rfl,hb⟩;rw [HP.out];have HB4:=ak_ (below_then HB3.out HB3.out.size hb);have HO4:=ak_ (pw_own_below HO3.out hb);have HT4:=ak_ (HT3.out.trans (TX.of_below hb));have HI4:=ak_ (Kd.C_below HI3.out hb);have z1:=blk_cell (blk_below HXB.out hb) 1;simp only [ga_,gb_,gc_] at z1;clear hb)
        | (go_at_call 59;refine (contains_any A0 k0 l X.f1 _ HI4.out HI1.out HL4.out).mono ?_;rintro e w5 ⟨rfl,hb⟩;rw [HM1.out];have HB5:=ak_ (below_then HB4.out HB4.out.size hb);have HO5:=ak_ (pw_own_below HO4.out hb);have HT5:=ak_ (HT4.out.trans (TX.of_below hb));clear hb))
       go_roundw
       case rel=>exact ⟨k+1,hlk,by first|(rw [hw2];exact num_cast k)|(with_reducible exact num_cast k),⟨by rw [HS2.out];exact HO5.out⟩,HT5,HB5⟩
       case measure=>first|(rw [hw2];exact num_meas hlk)|(with_reducible exact num_meas hlk)
      | false =>
       have HM1:=ak_ hm
       have HS2:Aside0 (deadP bs (plcs bs x++rowP x (k+1))=D++[(x,k)]):=⟨by rw [rowP_succ,← List.append_assoc,HS.out,hD,hp,hm];rfl⟩
       clear hp hD hm
       go_wp2_with (first
        | (go_at_call 58;refine (pure_any X A6 c6 _ HX7.out HX6.out).mono ?_;rintro e w4 ⟨rfl,hb⟩;rw [HP.out];have HB4:=ak_ (below_then HB3.out HB3.out.size hb);have HO4:=ak_ (pw_own_below HO3.out hb);have HT4:=ak_ (HT3.out.trans (TX.of_below hb));have HI4:=ak_ (Kd.C_below HI3.out hb);have z1:=blk_cell (blk_below HXB.out hb) 1;simp only [ga_,gb_,gc_] at z1;clear hb)
        | (go_at_call 59;refine (contains_any A0 k0 l X.f1 _ HI4.out HI1.out HL4.out).mono ?_;rintro e w5 ⟨rfl,hb⟩;rw [HM1.out];have HB5:=ak_ (below_then HB4.out HB4.out.size hb);have HO5:=ak_ (pw_own_below HO4.out hb);have HT5:=ak_ (HT4.out.trans (TX.of_below hb));clear hb)
        | (at_builtin;refine app86 (w0:=w1) w1.heap.size rfl _ _ rfl u5 D x k rfl rfl HO5.out HB5.out HB5.out.size HLN.out ?_;intro v6 w6 ho6 hb6 ht6;have HO6:=ak_ ho6;have HB6:=ak_ hb6;have HT6:=ak_ (HT5.out.trans ht6);clear ho6 hb6 ht6))
       go_roundw
       case rel=>exact ⟨k+1,hlk,by first|(rw [hw2];exact num_cast k)|(with_reducible exact num_cast k),⟨by rw [HS2.out];exact HO6.out⟩,HT6,HB6⟩
       case measure=>first|(rw [hw2];exact num_meas hlk)|(with_reducible exact num_meas hlk)
    ·have b2:decide ((k:Int)<(L.length:Int))=false:=decide_eq_false (fun h=>hlk (Int.ofNat_lt.1 h))
     have ek:k=xs.length:=(Nat.le_antisymm hk (Nat.le_of_not_lt hlk)).trans HLL.out
     have HF:Aside0 (deadP bs (plcs bs x++rowP x k)=deadP bs (plcs bs (x+1))):=⟨by rw [plcs_succ,HOL.out,ek]⟩
     rw [HF.out] at HO
     clear ek HF
     go_wp2_with fail
     go_roundw
     case rel=>exact ⟨x+1,hlt,by first|(rw [hw1];exact num_cast x)|(with_reducible exact num_cast x),HO,HB⟩
     case measure=>first|(rw [hw1];exact num_meas hlt)|(with_reducible exact num_meas hlt)
  ·have b1:decide ((x:Int)<(bs.length:Int))=false:=decide_eq_false (by omega)
   obtain rfl:x=bs.length:=Nat.le_antisymm hx (Nat.le_of_not_lt hlt)
   go_wp2_with fail
   go_ret
   exact ⟨_,rfl,own_less HO.out HB1.out.size,below_then HB1.out HB1.out.size HB.out⟩
end Go.Proofs.YtnkgbnbbmcoiiaaGreat.S
namespace Go.Proofs.YtnkgbnbbmcoiiaaGreat.S
open Go.RowKit Go.IM Go.Proofs.YtnkgbnbbmcoiiaaGreatW.PrintWords Go.Proofs.YtnkgbnbbmcoiiaaGreatW.PrintLast Go.Proofs.YtnkgbnbbmcoiiaaGreatW.PrintMore
set_option linter.unusedVariables false
set_option linter.unusedSimpArgs false
/-! ### live.Sweep of a function without blocks -/
theorem C50_nil (w:World) (A:Option Addr):Kd.C k50 w A 0 []:=⟨rfl,by decide,fun h=>absurd h (Nat.lt_irrefl _)⟩
set_option maxHeartbeats 8000000 in
set_option maxRecDepth 100000 in
theorem sweep_none (p:Int) (A:Option Addr) (c:Nat) (w:World) (hR:rightF p [] 256=false) :
  Calls Tryz.prog 32 #[.agg #[.int .i64 p,.slice A 0 c]] w fun e w'=>∃ A' c',e=.returned (.agg #[.int .i64 p,.slice A' 0 c'])∧Below w.heap.size w w':=by
 have hu34:=Tryz.underlying24
 have HR:=ak_ hR
 have hbA:=below_alloc (below_alloc (Below.refl w.heap.size w) (.cells #[.int .i64 p,.slice A 0 c] 24)) (.cells #[.int .i64 0,.slice none 0 0] 24)
 have hx1:=blk_alloc (blk_new w (.cells #[.int .i64 p,.slice A 0 c] 24)) (.cells #[.int .i64 0,.slice none 0 0] 24)
 have hx2:=blk_new (w.alloc (.cells #[.int .i64 p,.slice A 0 c] 24)) (.cells #[.int .i64 0,.slice none 0 0] 24)
 rw [World.size_alloc] at hx2
 have HBA:=ak_ hbA
 have HX1:=ak_ hx1
 have HX2:=ak_ hx2
 clear hbA hx1 hx2 hR
 go_enter Tryz.func32,Tryz.ntmps32
 go_wp2_with (go_at_call 61;refine (copy_none p A c _).mono ?_;rintro e w1 ⟨A1,c1,rfl,hb⟩;have HB1:=ak_ (below_then HBA.out HBA.out.size hb);have HX11:=ak_ (blk_below HX1.out hb);have HX21:=ak_ (blk_below HX2.out hb);have s0:=bc_ HX11 0;have s1:=bc_ HX11 1;have f0:=fz_ HX11 0;have f1:=fz_ HX11 1;simp only [ga_,gb_,gc_] at s0 s1;clear hb)
 clear s0 s1 f0 f1
 have hY1:((w1.setCell ⟨w.heap.size,0,none⟩ (.int .i64 p)).setCell ⟨w.heap.size,1,none⟩ (.slice A1 0 c1)).heap[w.heap.size]?=some (.cells #[.int .i64 p,.slice A1 0 c1] 24 (0,0)):=blk_set (blk_set HX11.out 0 (.int .i64 p)) 1 (.slice A1 0 c1)
 have hY2:=blk_far (blk_far HX21.out (p:=⟨w.heap.size,0,none⟩) (by simp) (.int .i64 p)) (p:=⟨w.heap.size,1,none⟩) (by simp) (.slice A1 0 c1)
 have hYB:=below_set (below_set HB1.out ⟨w.heap.size,0,none⟩ (.int .i64 p) (Nat.le_refl _)) ⟨w.heap.size,1,none⟩ (.slice A1 0 c1) (Nat.le_refl _)
 generalize (w1.setCell ⟨w.heap.size,0,none⟩ (.int .i64 p)).setCell ⟨w.heap.size,1,none⟩ (.slice A1 0 c1)=W1 at hY1 hY2 hYB ⊢
 have HY1:=ak_ hY1
 have HY2:=ak_ hY2
 have HYB:=ak_ hYB
 clear hY1 hY2 hYB HBA HX1 HX2 HB1 HX11 HX21
 go_loopw [3] (fun _ wr=>wr=W1) (fun _ wr=>0)
 case atStart=>exact rfl
 case round =>
  subst hrel
  have c0:=bc_ HY1 0
  have c1':=bc_ HY1 1
  simp only [ga_,gb_,gc_] at c0 c1'
  go_wp2_with (go_at_call 30;refine (dead_bad p A1 c1 [] _ (C50_nil _ _) HR.out).mono ?_;rintro e w2 ⟨rfl,hb⟩;have HB2:=ak_ hb;have hc0:=blk_cell (blk_below HY1.out hb) 0;have hc1:=blk_cell (blk_below HY1.out hb) 1;have d0:=blk_cell (blk_below HY2.out hb) 0;have d1:=blk_cell (blk_below HY2.out hb) 1;have e0:=blk_frozen (blk_below HY2.out hb) 0;have e1:=blk_frozen (blk_below HY2.out hb) 1;simp only [ga_,gb_,gc_] at hc0 hc1 d0 d1;clear hb)
  have hz:=blk_set (blk_set (blk_below HY2.out HB2.out) 0 (.int .i64 p)) 1 (.slice A1 0 c1)
  have hb1:=below_set (below_set (below_then HYB.out HYB.out.size HB2.out) ⟨w.heap.size+1,0,none⟩ (.int .i64 p) (Nat.le_succ _)) ⟨w.heap.size+1,1,none⟩ (.slice A1 0 c1) (Nat.le_succ _)
  generalize (w2.setCell ⟨w.heap.size+1,0,none⟩ (.int .i64 p)).setCell ⟨w.heap.size+1,1,none⟩ (.slice A1 0 c1)=W2 at hz hb1 ⊢
  have z0:=blk_cell hz 0
  have z1:=blk_cell hz 1
  simp at z0 z1
  refine bodyPost_ret (v:=.agg #[.int .i64 p,.slice A1 0 c1]) (by simp [results,Tryz.results32,go_sem,hu34,z0,z1]) rfl ?_
  exact ⟨A1,c1,rfl,hb1⟩
end Go.Proofs.YtnkgbnbbmcoiiaaGreat.S
namespace Go.Proofs.YtnkgbnbbmcoiiaaGreat.S
open Go.RowKit Go.IM Go.RelRegion Go.Proofs.YtnkgbnbbmcoiiaaGreatW.PrintWords Go.Proofs.YtnkgbnbbmcoiiaaGreatW.PrintLast Go.Proofs.YtnkgbnbbmcoiiaaGreatW.PrintMore
set_option linter.unusedVariables false
set_option linter.unusedSimpArgs false
/-! ### swageref17.Dead -/
theorem aft17_R (p:Int) (A:Option Addr) (c:Nat) (bs:List S50) (x:Nat) (w:World) (hF:Fits bs) (hR:rightF p bs 256=true) (hx:x<bs.length) (hC:Kd.C k50 w A bs.length bs) (hc:bs.length≤c) :
  Calls Tryz.prog 26 #[.agg #[.int .i64 p,.slice A bs.length c],.int .i64 (x:Int)] w fun e w'=>∃ v,e=.returned v∧Kd.R (Kd.slice 3 (Kd.int .i64)) 31 w' w.heap.size (fun _=>True) v (afterL bs x)∧Below w.heap.size w w':=by
 obtain ⟨k,hk⟩:=r17_after p bs hF hR x hx
 refine (swageref17_After.calls k p A c bs (x:Int) _ w hC hc (hk k (Nat.le_refl _))).mono ?_
 rintro e w' ⟨v,rfl,h,hb⟩
 exact ⟨v,rfl,Kd.S_R h,hb⟩
set_option maxHeartbeats 4000000 in
set_option maxRecDepth 100000 in
theorem dead17_bad (p:Int) (A:Option Addr) (c:Nat) (bs:List S50) (w:World) (hF:Fits bs) (hR:rightF p bs 256=false) (hC:Kd.C k50 w A bs.length bs) (hc:bs.length≤c) :
  Calls Tryz.prog 31 #[.agg #[.int .i64 p,.slice A bs.length c]] w fun e w'=>e=.returned (.slice none 0 0)∧Below w.heap.size w w':=by
 have HCc:=ak_ hc
 have HC:=ak_ hC
 obtain ⟨kr,hkr⟩:=hF.right (p:=p)
 have HKR:=ak_ (hkr kr (Nat.le_refl _))
 rw [hR] at HKR
 have HB0:=ak_ (below_alloc (Below.refl w.heap.size w) (.cells #[.int .i64 p,.slice A bs.length c] 24))
 have HF0:=ak_ (blk_new w (.cells #[.int .i64 p,.slice A bs.length c] 24))
 have c0:=bc_ HF0 0
 have c1:=bc_ HF0 1
 simp only [ga_,gb_,gc_] at c0 c1
 have hu24:=Tryz.underlying24
 clear hC hc hR hF hkr
 go_enter Tryz.func31,Tryz.ntmps31
 go_wp2_with (go_at_call 46;refine (swageref14_Right.calls kr p A c bs 256 _ _ (Kd.C_below HC.out HB0.out) HCc.out HKR.out).mono ?_;rintro e w1 ⟨rfl,hb⟩;have HF1:=ak_ (blk_below HF0.out hb);have HB1:=ak_ (below_then HB0.out HB0.out.size hb);clear c0 c1 hb)
 go_loopw [4,5] (fun v i wr=>v=.slice none 0 0∧i=.int .i64 0∧Aside0 (Below w1.heap.size w1 wr)) (fun _ i _=>0)
 case atStart=>exact ⟨rfl,rfl,⟨Below.refl _ _⟩⟩
 case round =>
  obtain ⟨rfl,rfl,HB⟩:=hrel
  have c0:=blk_cell (blk_below HF1.out HB.out) 0
  have c1:=blk_cell (blk_below HF1.out HB.out) 1
  simp only [ga_,gb_,gc_] at c0 c1
  by_cases hlt:(0:Int)<(bs.length:Int)
  ·have b1:decide ((0:Int)<(bs.length:Int))=true:=decide_eq_true hlt
   go_wp2_with fail
   go_ret
   exact ⟨rfl,below_then HB1.out HB1.out.size HB.out⟩
  ·have b1:decide ((0:Int)<(bs.length:Int))=false:=decide_eq_false hlt
   go_wp2_with fail
   go_ret
   exact ⟨rfl,below_then HB1.out HB1.out.size HB.out⟩
set_option maxHeartbeats 16000000 in
set_option maxRecDepth 100000 in
theorem dead17_ok (p:Int) (A:Option Addr) (c:Nat) (bs:List S50) (w:World) (hF:Fits bs) (hR:rightF p bs 256=true) (hC:Kd.C k50 w A bs.length bs) (hc:bs.length≤c) :
  Calls Tryz.prog 31 #[.agg #[.int .i64 p,.slice A bs.length c]] w fun e w'=>∃ v,e=.returned v∧w'.ownsRow w.heap.size 68 2 v (deadP bs (plcs bs bs.length)).length (prCs (deadP bs (plcs bs bs.length)))∧Below w.heap.size w w':=by
 have RP:=ak_ (rightF_iff hR)
 have HR:=ak_ hR
 have HFT:=ak_ hF
 have HCc:=ak_ hc
 have HC:=ak_ hC
 obtain ⟨kr,hkr⟩:=hF.right (p:=p)
 have HKR:=ak_ (hkr kr (Nat.le_refl _))
 rw [hR] at HKR
 have HB0:=ak_ (below_alloc (Below.refl w.heap.size w) (.cells #[.int .i64 p,.slice A bs.length c] 24))
 have HF0:=ak_ (blk_new w (.cells #[.int .i64 p,.slice A bs.length c] 24))
 have c0:=bc_ HF0 0
 have c1:=bc_ HF0 1
 simp only [ga_,gb_,gc_] at c0 c1
 have hu24:=Tryz.underlying24
 have hu50:=Tryz.underlying50
 have hu48:=Tryz.underlying48
 have hu45:=Tryz.underlying45
 have hu68:=Tryz.underlying68
 have hlen:=RP.out.len
 clear hC hc hR hF hkr
 go_enter Tryz.func31,Tryz.ntmps31
 go_wp2_with (go_at_call 46;refine (swageref14_Right.calls kr p A c bs 256 _ _ (Kd.C_below HC.out HB0.out) HCc.out HKR.out).mono ?_;rintro e w1 ⟨rfl,hb⟩;have HF1:=ak_ (blk_below HF0.out hb);have HB1:=ak_ (below_then HB0.out HB0.out.size hb);clear c0 c1 hb)
 go_loopw [4,5] (fun v i wr=>∃ x:Nat,x≤bs.length∧i=.int .i64 (x:Int)∧Aside0 (wr.ownsRow w1.heap.size 68 2 v (deadP bs (plcs bs x)).length (prCs (deadP bs (plcs bs x))))∧Aside0 (Below w1.heap.size w1 wr)) (fun _ i _=>bs.length - (intOf i).toNat)
 case atStart=>exact ⟨0,Nat.zero_le _,rfl,⟨own_nil _ _ _ _⟩,⟨Below.refl _ _⟩⟩
 case round =>
  obtain ⟨x,hx,rfl,HO,HB⟩:=hrel
  have c0:=blk_cell (blk_below HF1.out HB.out) 0
  have c1:=blk_cell (blk_below HF1.out HB.out) 1
  simp only [ga_,gb_,gc_] at c0 c1
  by_cases hlt:x<bs.length
  ·have b1:decide ((x:Int)<(bs.length:Int))=true:=decide_eq_true (by omega)
   have hw1:wrap64 ((x:Int)+1)=(x:Int)+1:=(wr3 (z:=0) (by decide) (by omega)).2.2
   obtain ⟨ad,A5,c5,eA,h0,h1,h2,h3,h4,l5,g5⟩:=at_T50 HC.out (x:Int) (Int.natCast_nonneg x) (Int.ofNat_lt.2 hlt)
   simp only [Int.toNat_natCast] at h0
   clear h1 h2 h3 h4
   subst eA
   have HG5:=ak_ g5
   have HOL:Aside0 (opLen bs x=(rd_T50 bs (x:Int)).f0.length):=⟨rfl⟩
   have HOP:Aside0 (∀ k:Nat,opOf bs (x,k)=rd_T45 (rd_T50 bs (x:Int)).f0 (k:Int)):=⟨fun k=>rfl⟩
   have HXL:Aside0 ((rd_T50 bs (x:Int)).f0.length≤16384):=⟨RP.out.opLen_le x⟩
   have HPL:Aside0 (∀ k,k≤opLen bs x→(deadP bs (plcs bs x++rowP x k)).length≤16384):=⟨fun k hk=>Nat.le_trans (deadP_len _ _) (part_le RP.out hlt hk)⟩
   have HST:=ak_ (fun k:Nat=>deadP_snoc bs (plcs bs x++rowP x k) (x,k))
   generalize (rd_T50 bs (x:Int)).f0=xs at h0 l5 HG5 HOL HOP HXL
   obtain ⟨L,hL⟩:∃ L,afterL bs x=L:=⟨_,rfl⟩
   have HL:=ak_ hL
   have HLL:Aside0 (L.length=xs.length):=⟨by rw [← hL,afterL,List.length_map,List.length_range,HOL.out]⟩
   have HLA:Aside0 (∀ k:Nat,k<L.length→rd_L1 L (k:Int)=liveRow bs x (k+1)):=⟨fun k hk=>by
    rw [HLL.out,← HOL.out] at hk
    rw [← hL]
    exact rd_afterL hk⟩
   have H0:=ak_ h0
   clear hL g5 h0
   go_wp2_with (go_at_call 26;refine (aft17_R p (some ad) c bs x _ HFT.out HR.out hlt (Kd.C_below HC.out (below_then HB1.out HB1.out.size HB.out)) HCc.out).mono ?_;rintro e w3 ⟨v3,rfl,hr,hb⟩;rw [HL.out] at hr;have HR3:=ak_ hr;obtain ⟨A3,c3,rfl,k3,hC3⟩:=Kd.R_reads hr;have HB3:=ak_ (below_then HB.out HB.out.size hb);have HO3:=ak_ (pw_own_below HO.out hb);clear c0 c1 hb hr hC3)
   go_loopw [4,7] (fun v i wr=>∃ k:Nat,k≤L.length∧i=.int .i64 (k:Int)∧Aside0 (wr.ownsRow w1.heap.size 68 2 v (deadP bs (plcs bs x++rowP x k)).length (prCs (deadP bs (plcs bs x++rowP x k))))∧Aside0 (TX 68 w3 wr)∧Aside0 (Below w1.heap.size w1 wr)) (fun _ i _=>L.length - (intOf i).toNat)
   case atStart=>exact ⟨0,Nat.zero_le _,rfl,⟨by rw [rowP_zero,List.append_nil];exact HO3.out⟩,⟨TX.refl _ _⟩,HB3⟩
   case round =>
    clear HO3 HB3
    obtain ⟨k,hk,rfl,HO,HT,HB⟩:=hrel
    have c0:=blk_cell (blk_below HF1.out HB.out) 0
    have c1:=blk_cell (blk_below HF1.out HB.out) 1
    simp only [ga_,gb_,gc_] at c0 c1
    have h0:=pw_cell_below (below_then HB1.out HB1.out.size HB.out) H0.out
    by_cases hlk:k<L.length
    ·have b2:decide ((k:Int)<(L.length:Int))=true:=decide_eq_true (Int.ofNat_lt.2 hlk)
     have hkx:k<xs.length:=by rw [← HLL.out];exact hlk
     have hw2:wrap64 ((k:Int)+1)=(k:Int)+1:=(wr3 (z:=0) (by decide) (Nat.le_trans (Nat.le_of_lt hkx) HXL.out)).2.2
     obtain ⟨A3',c3',e3,k3',hC3⟩:=Kd.R_reads (HT.out.R HR3.out (by intro q hq;simp [Kd.slice,Kd.int,Kd.scalar] at hq;omega))
     obtain ⟨rfl,rfl⟩:A3'=A3∧c3'=c3:=by
      injection e3 with e3 _ e4
      exact ⟨e3.symm,e4.symm⟩
     clear e3 k3'
     obtain ⟨adr,A0,k0,eI,hi0,hi1,hi2⟩:=row_cell hC3 hlk (HLA.out k hlk)
     subst eI
     have HI1:=ak_ hi1
     have HI2:=ak_ hi2
     obtain ⟨adk,A6,c6,eA,x0,x1,x2,x3,x4,x5,x6,x7⟩:=at_T45 (Kd.C_below HG5.out (below_then HB1.out HB1.out.size HB.out)) (k:Int) (Int.natCast_nonneg k) (Int.ofNat_lt.2 hkx)
     simp only [Int.toNat_natCast] at x0 x1 x2 x3 x4 x5
     subst eA
     have HS:=ak_ (HST.out k)
     have hD:deadB bs (x,k)=(pureX (opOf bs (x,k)) && !decide ((opOf bs (x,k)).f1∈liveRow bs x (k+1))):=rfl
     rw [HOP.out k] at hD
     have HLN:=ak_ (HPL.out k (by rw [HOL.out];omega))
     have HL4:Aside0 ((liveRow bs x (k+1)).length≤1000000000000):=⟨Nat.le_trans (liveRow_le RP.out x (k+1)) (by decide)⟩
     generalize rd_T45 xs (k:Int)=X at x0 x1 x2 x3 x4 x5 x6 x7 hD
     generalize liveRow bs x (k+1)=l at hi0 HI1 HI2 hD HL4
     have hbA:=below_alloc (Below.refl wr.heap.size wr) (.cells #[.int .i64 X.f0,.int .i64 X.f1,.int .i64 X.f2,.int .i64 X.f3,.int .i64 X.f4,.slice A6 X.f5.length c6] 45)
     have HX6:=ak_ x6
     have HX7:=ak_ (Kd.C_below x7 hbA)
     have HXB:=ak_ (blk_new wr (.cells #[.int .i64 X.f0,.int .i64 X.f1,.int .i64 X.f2,.int .i64 X.f3,.int .i64 X.f4,.slice A6 X.f5.length c6] 45))
     have HB3:=ak_ (below_alloc HB.out (.cells #[.int .i64 X.f0,.int .i64 X.f1,.int .i64 X.f2,.int .i64 X.f3,.int .i64 X.f4,.slice A6 X.f5.length c6] 45))
     have HO3:=ak_ (own_alloc HO.out (.cells #[.int .i64 X.f0,.int .i64 X.f1,.int .i64 X.f2,.int .i64 X.f3,.int .i64 X.f4,.slice A6 X.f5.length c6] 45))
     have HT3:=ak_ (HT.out.trans (TX.of_below hbA))
     have HI3:=ak_ (Kd.C_below HI2.out hbA)
     have hi0:=pw_cell_below hbA hi0
     have y0:=bc_ HXB 0
     have y1:=bc_ HXB 1
     have y2:=bc_ HXB 2
     have y3:=bc_ HXB 3
     have y4:=bc_ HXB 4
     have y5:=bc_ HXB 5
     simp only [ga_,gb_,gc_] at y0 y1 y2 y3 y4 y5
     clear x6 x7 hi1 hi2 hbA hC3
     generalize deadP bs (plcs bs x++rowP x k)=D at HO3 HS HLN
     cases hp:pureX X with
     | false =>
      have HP:=ak_ hp
      have HS2:Aside0 (deadP bs (plcs bs x++rowP x (k+1))=D):=⟨by rw [rowP_succ,← List.append_assoc,HS.out,hD,hp];rfl⟩
      clear hp hD
      go_wp2_with (go_at_call 60;refine (swageref14_Pure.calls X.f0 X.f1 X.f2 X.f3 X.f4 A6 c6 X.f5 _ _ HX7.out HX6.out (r14_pure X)).mono ?_;rintro e w4 ⟨rfl,hb⟩;rw [HP.out];have HB4:=ak_ (below_then HB3.out HB3.out.size hb);have HO4:=ak_ (pw_own_below HO3.out hb);have HT4:=ak_ (HT3.out.trans (TX.of_below hb));have HI4:=ak_ (Kd.C_below HI3.out hb);have hi0:=pw_cell_below hb hi0;have z1:=blk_cell (blk_below HXB.out hb) 1;simp only [ga_,gb_,gc_] at z1;clear hb)
      refine wp_region_rel 11 (fun _=>none) (fun _=>[]) (fun _ _ _=>True) (fun wq=>Below w4.heap.size w4 wq) (fun a b=>Below a.heap.size a b) (by kernel_rfl) (by kernel_rfl) (below_drew (Below.refl _ _)) (fun a b h k=>below_then h h.size k) (fun _ _ _ _ h _=>h) ?_
      simp only [List.take_succ_cons,List.take_zero,List.drop_succ_cons,List.drop_zero]
      iterate 11 (apply relQ_step rfl;apply Exists.intro;constructor;(focus (intro wq hwq;have hi0:=pw_cell_below hwq hi0;have z1:=pw_cell_below hwq z1;unfold Yl;go_wp2_with fail;exact ⟨rfl,_,rfl,rfl,Below.refl _ _⟩));(try simp only [Act.put,pa_,pb_,pc_]))
      refine relQ_nil (fun xx=>?_)
      repeat (refine relL_quiet rfl ?_)
      refine relL_nil (fun w5 hw5 _=>?_)
      have HB5:=ak_ (below_then HB4.out HB4.out.size hw5)
      have HO5:=ak_ (pw_own_below HO4.out hw5)
      have HT5:=ak_ (HT4.out.trans (TX.of_below hw5))
      clear hw5
      go_wp2_with fail
      go_roundw
      case rel=>exact ⟨k+1,hlk,by first|(rw [hw2];exact num_cast k)|(with_reducible exact num_cast k),⟨by rw [HS2.out];exact HO5.out⟩,HT5,HB5⟩
      case measure=>first|(rw [hw2];exact num_meas hlk)|(with_reducible exact num_meas hlk)
     | true =>
      have HP:=ak_ hp
      cases hm:decide (X.f1∈l) with
      | true =>
       have HM1:=ak_ hm
       have HS2:Aside0 (deadP bs (plcs bs x++rowP x (k+1))=D):=⟨by rw [rowP_succ,← List.append_assoc,HS.out,hD,hp,hm];rfl⟩
       clear hp hD hm
       go_wp2_with (go_at_call 60;refine (swageref14_Pure.calls X.f0 X.f1 X.f2 X.f3 X.f4 A6 c6 X.f5 _ _ HX7.out HX6.out (r14_pure X)).mono ?_;rintro e w4 ⟨rfl,hb⟩;rw [HP.out];have HB4:=ak_ (below_then HB3.out HB3.out.size hb);have HO4:=ak_ (pw_own_below HO3.out hb);have HT4:=ak_ (HT3.out.trans (TX.of_below hb));have HI4:=ak_ (Kd.C_below HI3.out hb);have hi0:=pw_cell_below hb hi0;have z1:=blk_cell (blk_below HXB.out hb) 1;simp only [ga_,gb_,gc_] at z1;clear hb)
       refine wp_region_rel 11 (fun _=>none) (fun _=>[]) (fun _ _ _=>True) (fun wq=>Below w4.heap.size w4 wq) (fun a b=>Below a.heap.size a b) (by kernel_rfl) (by kernel_rfl) (below_drew (Below.refl _ _)) (fun a b h k=>below_then h h.size k) (fun _ _ _ _ h _=>h) ?_
       simp only [List.take_succ_cons,List.take_zero,List.drop_succ_cons,List.drop_zero]
       iterate 11 (apply relQ_step rfl;apply Exists.intro;constructor;(focus (intro wq hwq;have hi0:=pw_cell_below hwq hi0;have z1:=pw_cell_below hwq z1;unfold Yl;go_wp2_with (go_at_call 55;refine (has17_any A0 k0 l X.f1 _ (Kd.C_below HI4.out hwq) HI1.out HL4.out).mono ?_;rintro e w9 ⟨rfl,hbq⟩;rw [HM1.out]);first|exact ⟨rfl,_,rfl,rfl,Below.refl _ _⟩|exact ⟨rfl,_,rfl,rfl,hbq⟩));(try simp only [Act.put,pa_,pb_,pc_]))
       refine relQ_nil (fun xx=>?_)
       repeat (refine relL_quiet rfl ?_)
       refine relL_nil (fun w5 hw5 _=>?_)
       have HB5:=ak_ (below_then HB4.out HB4.out.size hw5)
       have HO5:=ak_ (pw_own_below HO4.out hw5)
       have HT5:=ak_ (HT4.out.trans (TX.of_below hw5))
       clear hw5
       go_wp2_with fail
       go_roundw
       case rel=>exact ⟨k+1,hlk,by first|(rw [hw2];exact num_cast k)|(with_reducible exact num_cast k),⟨by rw [HS2.out];exact HO5.out⟩,HT5,HB5⟩
       case measure=>first|(rw [hw2];exact num_meas hlk)|(with_reducible exact num_meas hlk)
      | false =>
       have HM1:=ak_ hm
       have HS2:Aside0 (deadP bs (plcs bs x++rowP x (k+1))=D++[(x,k)]):=⟨by rw [rowP_succ,← List.append_assoc,HS.out,hD,hp,hm];rfl⟩
       clear hp hD hm
       go_wp2_with (go_at_call 60;refine (swageref14_Pure.calls X.f0 X.f1 X.f2 X.f3 X.f4 A6 c6 X.f5 _ _ HX7.out HX6.out (r14_pure X)).mono ?_;rintro e w4 ⟨rfl,hb⟩;rw [HP.out];have HB4:=ak_ (below_then HB3.out HB3.out.size hb);have HO4:=ak_ (pw_own_below HO3.out hb);have HT4:=ak_ (HT3.out.trans (TX.of_below hb));have HI4:=ak_ (Kd.C_below HI3.out hb);have hi0:=pw_cell_below hb hi0;have z1:=blk_cell (blk_below HXB.out hb) 1;simp only [ga_,gb_,gc_] at z1;clear hb)
       refine wp_region_rel 11 (fun _=>none) (fun _=>[]) (fun _ _ _=>True) (fun wq=>Below w4.heap.size w4 wq) (fun a b=>Below a.heap.size a b) (by kernel_rfl) (by kernel_rfl) (below_drew (Below.refl _ _)) (fun a b h k=>below_then h h.size k) (fun _ _ _ _ h _=>h) ?_
       simp only [List.take_succ_cons,List.take_zero,List.drop_succ_cons,List.drop_zero]
       iterate 11 (apply relQ_step rfl;apply Exists.intro;constructor;(focus (intro wq hwq;have hi0:=pw_cell_below hwq hi0;have z1:=pw_cell_below hwq z1;unfold Yl;go_wp2_with (go_at_call 55;refine (has17_any A0 k0 l X.f1 _ (Kd.C_below HI4.out hwq) HI1.out HL4.out).mono ?_;rintro e w9 ⟨rfl,hbq⟩;rw [HM1.out]);first|exact ⟨rfl,_,rfl,rfl,Below.refl _ _⟩|exact ⟨rfl,_,rfl,rfl,hbq⟩));(try simp only [Act.put,pa_,pb_,pc_]))
       refine relQ_nil (fun xx=>?_)
       repeat (refine relL_quiet rfl ?_)
       refine relL_nil (fun w5 hw5 _=>?_)
       have HB5:=ak_ (below_then HB4.out HB4.out.size hw5)
       have HO5:=ak_ (pw_own_below HO4.out hw5)
       have HT5:=ak_ (HT4.out.trans (TX.of_below hw5))
       clear hw5
       go_wp2_with ((at_builtin;refine app86 (w0:=w1) w1.heap.size rfl _ _ rfl u4 D x k rfl rfl HO5.out HB5.out HB5.out.size HLN.out ?_;intro v6 w6 ho6 hb6 ht6;have HO6:=ak_ ho6;have HB6:=ak_ hb6;have HT6:=ak_ (HT5.out.trans ht6);clear ho6 hb6 ht6))
       go_roundw
       case rel=>exact ⟨k+1,hlk,by first|(rw [hw2];exact num_cast k)|(with_reducible exact num_cast k),⟨by rw [HS2.out];exact HO6.out⟩,HT6,HB6⟩
       case measure=>first|(rw [hw2];exact num_meas hlk)|(with_reducible exact num_meas hlk)
    ·have b2:decide ((k:Int)<(L.length:Int))=false:=decide_eq_false (fun h=>hlk (Int.ofNat_lt.1 h))
     have ek:k=xs.length:=(Nat.le_antisymm hk (Nat.le_of_not_lt hlk)).trans HLL.out
     have HF:Aside0 (deadP bs (plcs bs x++rowP x k)=deadP bs (plcs bs (x+1))):=⟨by rw [plcs_succ,HOL.out,ek]⟩
     rw [HF.out] at HO
     clear ek HF
     go_wp2_with fail
     go_roundw
     case rel=>exact ⟨x+1,hlt,by first|(rw [hw1];exact num_cast x)|(with_reducible exact num_cast x),HO,HB⟩
     case measure=>first|(rw [hw1];exact num_meas hlt)|(with_reducible exact num_meas hlt)
  ·have b1:decide ((x:Int)<(bs.length:Int))=false:=decide_eq_false (by omega)
   obtain rfl:x=bs.length:=Nat.le_antisymm hx (Nat.le_of_not_lt hlt)
   go_wp2_with fail
   go_ret
   exact ⟨_,rfl,own_less HO.out HB1.out.size,below_then HB1.out HB1.out.size HB.out⟩
end Go.Proofs.YtnkgbnbbmcoiiaaGreat.S
