import Derived.Test.YtnkgbnbbmcoiiaaGreatBk
import Derived.Test.YtnkgbnbbmcoiiaaGreatLtz
import Derived.Test.YtnkgbnbbmcoiiaaGreatLsm
import Derived.Test.YtnkgbnbbmcoiiaaGreatOo17
import Derived.Deep.DeepCutAuto
import Derived.Test.YtnkgbnbbmcoiiaaGreatS16
import Derived.Test.YtnkgbnbbmcoiiaaGreatReli
namespace Go.Proofs.YtnkgbnbbmcoiiaaGreat.S
open Go.RowKit Go.IM Go.Proofs.YtnkgbnbbmcoiiaaGreatW.PrintWords Go.Proofs.YtnkgbnbbmcoiiaaGreatW.PrintLast Go.Proofs.YtnkgbnbbmcoiiaaGreatW.PrintMore
set_option linter.unusedVariables false
set_option linter.unusedSimpArgs false
/-! ### swageref25.points -/
theorem has25_eq:∀ k l x j,swageref25_has.l0 k l x j=swageref17_has.l0 k l x j
 | 0,_,_,_=>rfl
 | k+1,l,x,j=>by rw [swageref25_has.l0,swageref17_has.l0,has25_eq k]
theorem has25_any (A:Option Addr) (c:Nat) (l:List Int) (x:Int) (w:World) (hC:Kd.C (Kd.int .i64) w A l.length l) (hc:l.length≤c) (hl:l.length≤1000000000000) :
  Calls Tryz.prog 79 #[.slice A l.length c,.int .i64 x] w fun e w'=>e=.returned (.bool (decide (x∈l)))∧Below w.heap.size w w':=by
 have hE:Ev (fun k=>swageref25_has.f k l x) (decide (x∈l)):=Ev.same (r17_has l x hl) (fun k=>has25_eq k l x 0)
 obtain ⟨k,hk⟩:=hE
 refine (swageref25_has.calls k A c l x _ w hC hc (hk k (Nat.le_refl _))).mono ?_
 rintro e w' ⟨rfl,hd⟩
 exact ⟨rfl,hd.below⟩
/-- The places so far,in a row of the call's own. -/
def PL (w3:World) (Q:Int→Prop) (n:Nat) (v:Value) (W:World):Prop:=∃ L:List Int,(∀ q,q∈L↔Q q)∧L.length≤n∧W.ownsRow w3.heap.size 3 1 v L.length (nums .i64 L)∧Below w3.heap.size w3 W
theorem PL.imp {w3 W:World} {Q Q' : Int→Prop} {n n' : Nat} {v:Value} (h:PL w3 Q n v W) (hq:∀ q,Q q↔Q' q) (hn:n≤n'):PL w3 Q' n' v W:=by
 obtain ⟨L,h1,h2,h3⟩:=h
 exact ⟨L,fun q=>(h1 q).trans (hq q),Nat.le_trans h2 hn,h3⟩
theorem PL.below {w3 W W' : World} {Q:Int→Prop} {n:Nat} {v:Value} (h:PL w3 Q n v W) (hb:Below W.heap.size W W'):PL w3 Q n v W':=by
 obtain ⟨L,h1,h2,h3,h4⟩:=h
 exact ⟨L,h1,h2,pw_own_below h3 hb,below_then h4 h4.size hb⟩
theorem PL.bel {w3 W:World} {Q:Int→Prop} {n:Nat} {v:Value} (h:PL w3 Q n v W):Below w3.heap.size w3 W:=by
 obtain ⟨L,h1,h2,h3,h4⟩:=h
 exact h4
section
variable {ops:Array Oper} {rest:List Oper} {o:Oper} {a:Act} {QQ:Exit→Act→World→Prop}
theorem PL.app {w3 W:World} {Q:Int→Prop} {n:Nat} {v:Value} (h:PL w3 Q n v W) (hgd:o.guard=none) (s x:Operand) (ho:o.op=.call { callee:=.builtin .append,args:=#[s,x],argTypes:=#[31,31] })
  (y:Int) (hs:a.eval s=v) (hx:a.eval x=.slice (some ⟨W.heap.size,0,none⟩) 1 1) (hn:n≤1000000000)
  (hk:∀ v1 w1,PL w3 (fun q=>q=y∨Q q) (n+1) v1 w1→TX 3 W w1→wpList Tryz.prog ops QQ rest (a.put o.dst v1) w1):wpList Tryz.prog ops QQ (o::rest) a (W.alloc (.cells #[.int .i64 y] 3)):=by
 obtain ⟨L,h1,h2,h3,h4⟩:=h
 refine print_append_num w3.heap.size hgd s x 31 3 .i64 8 ho Tryz.underlying31 (by kernel_rfl) (by decide) v L y hs hx h3 h4 h4.size (by omega) ?_
 intro v1 w5 hown hB1 hg1 hat
 refine hk v1 w5 ⟨L++[y],fun q=>?_,by rw [List.length_append];simp only [List.length_singleton];omega,hown,hB1⟩ (TX.of_append h3 hg1)
 rw [List.mem_append,List.mem_singleton,h1 q]
 exact Or.comm
end
theorem or_assoc' {a b c:Prop} : a∨b∨c↔(a∨b)∨c:=⟨fun h=>h.elim (fun h=>.inl (.inl h)) (fun h=>h.elim (fun h=>.inl (.inr h)) .inr),fun h=>h.elim (fun h=>h.elim .inl (fun h=>.inr (.inl h))) (fun h=>.inr (.inr h))⟩
theorem opS_succ {bs:List S50} {j k:Nat} {r q:Int} {R:Prop} : ((∃ k',k'<k+1∧Op1 bs j k' r q)∨R)↔(Op1 bs j k r q∨((∃ k',k'<k∧Op1 bs j k' r q)∨R)):=by
 constructor
 ·rintro (⟨k',h,h2⟩|h)
  ·by_cases e:k'=k
   ·subst e;exact .inl h2
   ·exact .inr (.inl ⟨k',by omega,h2⟩)
  ·exact .inr (.inr h)
 ·rintro (h|⟨k',h,h2⟩|h)
  ·exact .inl ⟨k,Nat.lt_succ_self _,h⟩
  ·exact .inl ⟨k',by omega,h2⟩
  ·exact .inr h
theorem wr25 {a b:Nat} (ha:a≤20480) (hb:b≤16384):wrap64 ((a:Int)+(b:Int))=(a:Int)+(b:Int)∧wrap64 ((a:Int)+(b:Int)+1)=(a:Int)+(b:Int)+1∧wrap64 ((a:Int) - 1)=(a:Int) - 1:=by
 unfold wrap64
 omega
set_option maxHeartbeats 16000000 in
set_option maxRecDepth 100000 in
theorem points_ok (p:Int) (A:Option Addr) (c:Nat) (bs:List S50) (r:Int) (w:World) (hF:Fits bs) (hR:rightF p bs 256=true) (hr:1≤r) (hC:Kd.C k50 w A bs.length bs) (hc:bs.length≤c) :
  Calls Tryz.prog 47 #[.agg #[.int .i64 p,.slice A bs.length c],.int .i64 r] w fun e w'=>∃ v L,e=.returned v∧(∀ q,q∈L↔Pts p bs bs.length r q)∧L.length≤1000000000∧w'.ownsRow w.heap.size 3 1 v L.length (nums .i64 L)∧Below w.heap.size w w':=by
 have hu24:=Tryz.underlying24
 have hu50:=Tryz.underlying50
 have RP:=ak_ (rightF_iff hR)
 obtain ⟨kn,hkn⟩:=r25_number p bs hF hR
 have HKN:=ak_ (hkn kn (Nat.le_refl _))
 obtain ⟨ki,hki⟩:=r17_in p bs hF hR
 have HKI:=ak_ (hki ki (Nat.le_refl _))
 have HFT:=ak_ hF
 have HR:=ak_ hR
 have HC:=ak_ hC
 have HCc:=ak_ hc
 have HR1:=ak_ hr
 have HB0:=ak_ (below_alloc (Below.refl w.heap.size w) (.cells #[.int .i64 p,.slice A bs.length c] 24))
 have HF0:=ak_ (blk_new w (.cells #[.int .i64 p,.slice A bs.length c] 24))
 clear hkn hki hF hR hC hc hr
 go_enter Tryz.func47,Tryz.ntmps47
 have c0:=bc_ HF0 0
 have c1:=bc_ HF0 1
 simp only [ga_,gb_,gc_] at c0 c1
 go_upto_if 21 with (first
  | (go_at_call 12;refine (swageref25_Number.calls kn p A c bs (numL bs) _ (Kd.C_below HC.out HB0.out) HCc.out HKN.out).mono ?_;rintro e w1 ⟨v5,rfl,hr,hb⟩;obtain ⟨A5,c5,rfl,k5,hC5⟩:=Kd.R_reads hr;have HN1:=ak_ hC5;have HB1:=ak_ (below_then HB0.out HB0.out.size hb);have HF1:=ak_ (blk_below HF0.out hb);clear c0 c1;have c0:=bc_ HF1 0;have c1:=bc_ HF1 1;simp only [ga_,gb_,gc_] at c0 c1;clear hr k5 hC5 hb)
  | (go_at_call 22;refine (swageref17_In.calls ki p A c bs (inL bs) _ (Kd.C_below HC.out HB1.out) HCc.out HKI.out).mono ?_;rintro e w2 ⟨v6,rfl,hr,hb⟩;obtain ⟨A6,c6,rfl,k6,hC6⟩:=Kd.R_reads (Kd.S_R hr);have HI2:=ak_ hC6;have HN2:=ak_ (Kd.C_below HN1.out hb);have HB2:=ak_ (below_then HB1.out HB1.out.size hb);have HF2:=ak_ (blk_below HF1.out hb);clear c0 c1;have c0:=bc_ HF2 0;have c1:=bc_ HF2 1;simp only [ga_,gb_,gc_] at c0 c1;clear hr k6 hC6 hb)
  | (go_at_call 24;refine (out17_ok p A c bs _ HFT.out HR.out (Kd.C_below HC.out HB2.out) HCc.out).mono ?_;rintro e w3 ⟨v7,rfl,hr,hb⟩;obtain ⟨A7,c7,rfl,k7,hC7⟩:=Kd.R_reads hr;have HU3:=ak_ hC7;have HI3:=ak_ (Kd.C_below HI2.out hb);have HN3:=ak_ (Kd.C_below HN2.out hb);have HB3:=ak_ (below_then HB2.out HB2.out.size hb);have HF3:=ak_ (blk_below HF2.out hb);clear c0 c1;have c0:=bc_ HF3 0;have c1:=bc_ HF3 1;simp only [ga_,gb_,gc_] at c0 c1;clear hr k7 hC7 hb))
 go_cut [8] (fun v8 wc=>Aside0 (PL w3 (Pts p bs 0 r) 1 v8 wc))
 case first =>
  by_cases hp:r≤p
  ·have b1:decide (r≤p)=true:=decide_eq_true hp
   have HP:=ak_ hp
   have HPL:Aside0 (PL w3 (fun _=>False) 0 (.slice none 0 0) w3):=⟨[],fun q=>by simp,Nat.le_refl _,own_nil _ _ _ _,Below.refl _ _⟩
   rw [b1]
   go_wp2_with (at_builtin;refine PL.app HPL.out rfl _ _ rfl 0 rfl rfl (by decide) ?_;intro v1 w5 hpl htx;have HPL5:=ak_ hpl;clear hpl htx)
   go_meet
   case rel=>exact ⟨HPL5.out.imp (fun q=>by
    unfold Pts
    constructor
    ·rintro (h|h)
     ·exact .inl ⟨h,HR1.out,HP.out⟩
     ·exact absurd h (by simp)
    ·rintro (⟨h,_⟩|⟨i,hi,_⟩)
     ·exact .inl h
     ·exact absurd hi (Nat.not_lt_zero _)) (Nat.le_refl _)⟩
  ·have b1:decide (r≤p)=false:=decide_eq_false hp
   have HP:=ak_ hp
   rw [b1]
   go_wp2_with fail
   go_meet
   case rel=>exact ⟨[],fun q=>by
    unfold Pts
    constructor
    ·intro h;cases h
    ·rintro (⟨_,_,h⟩|⟨i,hi,_⟩)
     ·have h1:=HP.out;omega
     ·exact absurd hi (Nat.not_lt_zero _),Nat.zero_le _,own_nil _ _ _ _,Below.refl _ _⟩
 case rest =>
  have HPL:=hcut
  clear hcut c0 c1
  have HNL:Aside0 ((numL bs).length=bs.length+1):=⟨numL_length bs⟩
  have HIL:Aside0 ((inL bs).length=bs.length):=⟨inL_length bs⟩
  have HOL0:Aside0 ((outL bs).length=bs.length):=⟨outL_length bs⟩
  rw [HIL.out] at HI3 ⊢
  rw [HOL0.out] at HU3 ⊢
  go_wp2_with fail
  go_loopw [8,9] (fun v i wr=>∃ j:Nat,j≤bs.length∧i=.int .i64 (j:Int)∧Aside0 (PL w3 (Pts p bs j r) (1+40000*j) v wr)) (fun _ i _=>bs.length - (intOf i).toNat)
  case atStart=>exact ⟨0,Nat.zero_le _,rfl,⟨HPL.out.imp (fun _=>Iff.rfl) (Nat.le_refl _)⟩⟩
  case round =>
   clear HPL
   obtain ⟨j,hj,rfl,HPL⟩:=hrel
   have HBr:=ak_ HPL.out.bel
   have HFr:=ak_ (blk_below HF3.out HBr.out)
   have c0:=bc_ HFr 0
   have c1:=bc_ HFr 1
   simp only [ga_,gb_,gc_] at c0 c1
   by_cases hlt:j<bs.length
   ·have b1:decide ((j:Int)<(bs.length:Int))=true:=decide_eq_true (Int.ofNat_lt.2 hlt)
    have hw1:wrap64 ((j:Int)+1)=(j:Int)+1:=inc63 hlt (Nat.le_trans RP.out.len.2 (by decide))
    have HW1:=ak_ hw1
    have HJN:Aside0 (1+40000*j+40000≤1000000000):=⟨by have:=RP.out.len.2;omega⟩
    have hn0:j<(numL bs).length:=by rw [HNL.out];omega
    have hn1:j+1<(numL bs).length:=by rw [HNL.out];omega
    obtain ⟨ad,A0,k0,eA,h0,h1,h2,h3,h4,l5,g5⟩:=at_T50 HC.out (j:Int) (Int.natCast_nonneg j) (Int.ofNat_lt.2 hlt)
    simp only [Int.toNat_natCast] at h0 h1 h2 h3 h4
    have hbw:=below_then HB3.out HB3.out.size HBr.out
    have h0:=pw_cell_below hbw h0
    have h1:=pw_cell_below hbw h1
    have h2:=pw_cell_below hbw h2
    have h3:=pw_cell_below hbw h3
    have h4:=pw_cell_below hbw h4
    clear hbw
    subst eA
    obtain ⟨adi,Ai,ki,eI,hi0,hi1,hi2⟩:=row_cell (Kd.C_below HI3.out HBr.out) hlt (rd_inL hlt)
    obtain ⟨ado,Ao,ko,eO,ho0,ho1,ho2⟩:=row_cell HU3.out hlt (rd_outL hlt)
    subst eI eO
    obtain ⟨adn,eN,_⟩:=Kd.at_int HN3.out (j:Int) (Int.natCast_nonneg j) (Int.ofNat_lt.2 hn0)
    subst eN
    have HNn0:=ak_ (num_cell HN3.out HNL.out (j:=j) hj)
    have HNn1:=ak_ (num_cell HN3.out HNL.out (j:=j+1) hlt)
    have HZ0:=ak_ (pos_le RP.out hj)
    have HZ1:=ak_ (pos_le RP.out (j:=j+1) hlt)
    have HOP:Aside0 (∀ k:Nat,opOf bs (j,k)=rd_T45 (rd_T50 bs (j:Int)).f0 (k:Int)):=⟨fun k=>rfl⟩
    have HOL:Aside0 (opLen bs j=(rd_T50 bs (j:Int)).f0.length):=⟨rfl⟩
    have HXL:Aside0 ((rd_T50 bs (j:Int)).f0.length≤16384):=⟨RP.out.opLen_le j⟩
    have HTU:Aside0 (∀ q,((r∈tuseT (rd_T50 bs (j:Int)).f1∧q=(pos bs (j+1):Int) - 1)∨((∃ k,k<(rd_T50 bs (j:Int)).f0.length∧Op1 bs j k r q)∨((r∈outRow bs j∧q=(pos bs (j+1):Int))∨((r∈liveRow bs j 0∧q=(pos bs j:Int))∨Pts p bs j r q))))↔Pts p bs (j+1) r q):=⟨fun q=>by
     rw [← pts_succ]
     unfold PtT
     constructor
     ·rintro (h|h|h|h|h)
      ·exact .inr (.inl h)
      ·exact .inl h
      ·exact .inr (.inr (.inl h))
      ·exact .inr (.inr (.inr (.inl h)))
      ·exact .inr (.inr (.inr (.inr h)))
     ·rintro (h|h|h|h|h)
      ·exact .inr (.inl h)
      ·exact .inl h
      ·exact .inr (.inr (.inl h))
      ·exact .inr (.inr (.inr (.inl h)))
      ·exact .inr (.inr (.inr (.inr h)))⟩
    have HTL:Aside0 ((tuseT (rd_T50 bs (j:Int)).f1).length≤1000000000000):=⟨by unfold tuseT;split<;>simp⟩
    have HLR:Aside0 ((liveRow bs j 0).length≤1000000000000):=⟨Nat.le_trans (liveRow_le RP.out j 0) (by decide)⟩
    have HLO:Aside0 ((outRow bs j).length≤1000000000000):=⟨by
     unfold outRow
     refine Nat.le_trans (List.length_filter_le _ _) ?_
     simp⟩
    obtain ⟨PQ,hPQ⟩:∃ PQ:Int→Prop,Pts p bs j r=PQ:=⟨_,rfl⟩
    obtain ⟨PR,hPR⟩:∃ PR:Int→Prop,Pts p bs (j+1) r=PR:=⟨_,rfl⟩
    have HPR:=ak_ hPR
    rw [hPQ] at HPL
    have HTU:Aside0 (∀ q,((r∈tuseT (rd_T50 bs (j:Int)).f1∧q=(pos bs (j+1):Int) - 1)∨((∃ k,k<(rd_T50 bs (j:Int)).f0.length∧Op1 bs j k r q)∨((r∈outRow bs j∧q=(pos bs (j+1):Int))∨((r∈liveRow bs j 0∧q=(pos bs j:Int))∨PQ q))))↔PR q):=⟨fun q=>by rw [← hPQ,← hPR];exact HTU.out q⟩
    clear hPQ hPR
    have HO1:Aside0 (∀ k q,Op1 bs j k r q↔(r∈useX (opOf bs (j,k))∧q=(pos bs j:Int)+(k:Int))∨(r=setX (opOf bs (j,k))∧q=(pos bs j:Int)+(k:Int)+1)):=⟨fun k q=>by
     have hr:=HR1.out
     unfold Op1
     constructor
     ·rintro (h|⟨_,h1,h2⟩)
      ·exact .inl h
      ·exact .inr ⟨h1,h2⟩
     ·rintro (h|⟨h1,h2⟩)
      ·exact .inl h
      ·exact .inr ⟨by rw [← h1];omega,h1,h2⟩⟩
    generalize liveRow bs j 0=li at hi0 hi1 hi2 HTU HLR
    generalize outRow bs j=lo at ho0 ho1 ho2 HTU HLO
    generalize pos bs j=z0 at HNn0 HZ0 HTU HO1
    generalize pos bs (j+1)=z1 at HNn1 HZ1 HTU
    generalize rd_T50 bs (j:Int)=X50 at h0 h1 h2 h3 h4 l5 g5 HOP HOL HXL HTU HTL
    obtain ⟨xs,tm⟩:=X50
    have HOP:Aside0 (∀ k:Nat,opOf bs (j,k)=rd_T45 xs (k:Int)):=HOP
    have HOL:Aside0 (opLen bs j=xs.length):=HOL
    have HXL:Aside0 (xs.length≤16384):=HXL
    have HTL:Aside0 ((tuseT tm).length≤1000000000000):=HTL
    have HTU:Aside0 (∀ q,((r∈tuseT tm∧q=(z1:Int) - 1)∨((∃ k,k<xs.length∧Op1 bs j k r q)∨((r∈lo∧q=(z1:Int))∨((r∈li∧q=(z0:Int))∨PQ q))))↔PR q):=HTU
    simp only at h0 h1 h2 h3 h4
    have hw2:wrap64 ((z1:Int) - 1)=(z1:Int) - 1:=(wr25 HZ1.out (Nat.zero_le _)).2.2
    have HW2:=ak_ hw2
    have hbX:=below_alloc (Below.refl wr.heap.size wr) (.cells #[.slice A0 xs.length k0,.int .i64 tm.f0,.int .i64 tm.f1,.int .i64 tm.f2,.int .i64 tm.f3] 50)
    have HBX:=ak_ hbX
    have HXX:=ak_ (blk_new wr (.cells #[.slice A0 xs.length k0,.int .i64 tm.f0,.int .i64 tm.f1,.int .i64 tm.f2,.int .i64 tm.f3] 50))
    have HLI:=ak_ (Kd.C_below hi2 hbX)
    have HLIc:=ak_ hi1
    have HLOc:=ak_ ho1
    have HLOr:=ak_ ho2
    have HLO0:=ak_ ho0
    have HG5:=ak_ g5
    have HG5c:=ak_ l5
    have HPLX:=ak_ (HPL.out.below hbX)
    have hi0:=pw_cell_below hbX hi0
    clear hbX hi1 hi2 ho0 ho1 ho2 g5 l5 hw1 hw2
    obtain ⟨BI,hBI⟩:∃ B,decide (r∈li)=B:=⟨_,rfl⟩
    have HBI:=ak_ hBI
    clear hBI
    go_upto_if 42 with (go_at_call 79;refine (has25_any Ai ki li r _ HLI.out HLIc.out HLR.out).mono ?_;rintro e w4 ⟨rfl,hb⟩;rw [HBI.out];have HH4:=ak_ hb;have HX4:=ak_ (blk_below HXX.out hb);have HPL4:=ak_ (HPLX.out.below hb);clear hb hi0)
    (try simp only [Act.put,pa_,pb_,pc_])
    go_cut [8] (fun v8 wc=>Aside0 (PL w3 (fun q=>(r∈li∧q=(z0:Int))∨PQ q) (1+40000*j+1) v8 wc)∧Aside0 (TX 3 w4 wc))
    case first =>
     cases hd:BI with
     | true =>
      rw [hd] at HBI
      have HD:=ak_ (of_decide_eq_true HBI.out)
      clear hd
      have hN0:=pw_cell_below HPL4.out.bel HNn0.out
      go_wp2_with (at_builtin;refine PL.app HPL4.out rfl _ _ rfl (z0:Int) rfl rfl (by have:=HJN.out;omega) ?_;intro v1 wa hpl htx;have HPLa:=ak_ hpl;have HTXa:=ak_ htx;clear hpl htx)
      go_meet
      case rel=>exact ⟨⟨HPLa.out.imp (fun q=>⟨fun h=>h.imp (fun h=>⟨HD.out,h⟩) id,fun h=>h.imp (fun h=>h.2) id⟩) (Nat.le_refl _)⟩,HTXa⟩
     | false =>
      rw [hd] at HBI
      have HD:=ak_ (of_decide_eq_false HBI.out)
      clear hd
      go_wp2_with fail
      go_meet
      case rel=>exact ⟨⟨HPL4.out.imp (fun q=>⟨.inr,fun h=>h.elim (fun h=>absurd h.1 HD.out) id⟩) (Nat.le_succ _)⟩,⟨TX.refl _ _⟩⟩
    case rest =>
     obtain ⟨HPL5,HTX5⟩:=hcut
     clear HBI HPL4 HPLX HXX
     have ho0:=pw_cell_below HPL5.out.bel HLO0.out
     obtain ⟨BO,hBO⟩:∃ B,decide (r∈lo)=B:=⟨_,rfl⟩
     have HBO:=ak_ hBO
     clear hBO
     go_upto_if 55 with (go_at_call 79;refine (has25_any Ao ko lo r _ (Kd.C_below HLOr.out HPL5.out.bel) HLOc.out HLO.out).mono ?_;rintro e w6 ⟨rfl,hb⟩;rw [HBO.out];have HTX6:=ak_ (HTX5.out.trans (TX.of_below hb));have HPL6:=ak_ (HPL5.out.below hb);clear hb ho0)
     (try simp only [Act.put,pa_,pb_,pc_])
     go_cut [8] (fun v8 wc=>Aside0 (PL w3 (fun q=>(r∈lo∧q=(z1:Int))∨((r∈li∧q=(z0:Int))∨PQ q)) (1+40000*j+2) v8 wc)∧Aside0 (TX 3 w4 wc))
     case first =>
      cases hd:BO with
      | true =>
       rw [hd] at HBO
       have HD:=ak_ (of_decide_eq_true HBO.out)
       clear hd
       have hN1:w6.cell? ⟨adn.block,adn.off+(j+1),none⟩=some (.int .i64 (z1:Int)):=pw_cell_below HPL6.out.bel HNn1.out
       have hw1:=HW1.out
       go_wp2_with (at_builtin;refine PL.app HPL6.out rfl _ _ rfl (z1:Int) rfl rfl (by have:=HJN.out;omega) ?_;intro v1 wa hpl htx;have HPLa:=ak_ hpl;have HTXa:=ak_ htx;clear hpl htx)
       go_meet
       case rel=>exact ⟨⟨HPLa.out.imp (fun q=>⟨fun h=>h.imp (fun h=>⟨HD.out,h⟩) id,fun h=>h.imp (fun h=>h.2) id⟩) (Nat.le_refl _)⟩,⟨HTX6.out.trans HTXa.out⟩⟩
      | false =>
       rw [hd] at HBO
       have HD:=ak_ (of_decide_eq_false HBO.out)
       clear hd
       go_wp2_with fail
       go_meet
       case rel=>exact ⟨⟨HPL6.out.imp (fun q=>⟨.inr,fun h=>h.elim (fun h=>absurd h.1 HD.out) id⟩) (Nat.le_succ _)⟩,HTX6⟩
     case rest =>
      obtain ⟨HPL7,HTX7⟩:=hcut
      clear HBO HPL6 HTX6 HPL5 HTX5
      go_wp2_with fail
      go_loopw [8,11] (fun v i wi=>∃ k:Nat,k≤xs.length∧i=.int .i64 (k:Int)∧Aside0 (PL w3 (fun q=>(∃ k',k'<k∧Op1 bs j k' r q)∨((r∈lo∧q=(z1:Int))∨((r∈li∧q=(z0:Int))∨PQ q))) (1+40000*j+2+2*k) v wi)∧Aside0 (TX 3 w4 wi)) (fun _ i _=>xs.length - (intOf i).toNat)
      case atStart=>exact ⟨0,Nat.zero_le _,rfl,⟨HPL7.out.imp (fun q=>⟨.inr,fun h=>h.elim (fun ⟨k',h,_⟩=>absurd h (Nat.not_lt_zero _)) id⟩) (Nat.le_refl _)⟩,HTX7⟩
      case round =>
       clear HPL7 HTX7
       obtain ⟨k,hk,rfl,HPLk,HTXk⟩:=hrel
       have hbx:=HTXk.out.blk HX4.out (by decide)
       have HXk:=ak_ hbx
       have c0:=blk_cell hbx 0
       simp only [ga_,gb_,gc_] at c0
       by_cases hlk:k<xs.length
       ·have b2:decide ((k:Int)<(xs.length:Int))=true:=decide_eq_true (Int.ofNat_lt.2 hlk)
        have hw2:wrap64 ((k:Int)+1)=(k:Int)+1:=inc63 hlk (Nat.le_trans HXL.out (by decide))
        have HWk:=ak_ hw2
        have HKX:=ak_ hlk
        have HNK:Aside0 (1+40000*j+2+2*k+1≤1000000000):=⟨by have:=HJN.out;have:=HXL.out;omega⟩
        have HNK0:Aside0 (1+40000*j+2+2*k≤1000000000):=⟨by have:=HNK.out;omega⟩
        have HG5k:=ak_ (Kd.C_below HG5.out (below_then HB3.out HB3.out.size HPLk.out.bel))
        obtain ⟨adk,A9,c9,eA,x0,x1,x2,x3,x4,x5,x6,x7⟩:=at_T45 HG5k.out (k:Int) (Int.natCast_nonneg k) (Int.ofNat_lt.2 hlk)
        simp only [Int.toNat_natCast] at x0 x1 x2 x3 x4 x5
        subst eA
        have HX6:=ak_ x6
        have HX7:=ak_ x7
        have HO1k:=ak_ (HO1.out k)
        have HAX:Aside0 ((opOf bs (j,k)).f5.length≤1000000000):=⟨HFT.out.args _⟩
        rw [HOP.out k] at HO1k HAX
        obtain ⟨X,hX⟩:∃ X,rd_T45 xs (k:Int)=X:=⟨_,rfl⟩
        rw [hX] at x0 x1 x2 x3 x4 x5 HX6 HX7 HO1k HAX
        have HXE:=ak_ hX
        clear hX
        clear x6 x7
        have HUL:Aside0 ((useX X).length≤1000000000000):=⟨by
         have:=HAX.out
         unfold useX
         simp only [List.length_append]
         repeat' split
         all_goals (simp only [List.length_cons,List.length_nil];omega)⟩
        obtain ⟨BU,hBU⟩:∃ B,decide (r∈useX X)=B:=⟨_,rfl⟩
        have HBU:=ak_ hBU
        have HZK:=ak_ (wr25 HZ0.out (Nat.le_trans (Nat.le_of_lt hlk) HXL.out))
        clear hBU hw2
        go_upto_if 78 with (first
         | (go_at_call 66;refine (uses14_any X A9 c9 _ (Nat.le_trans HAX.out (by decide)) HX7.out HX6.out).mono ?_;rintro e wu ⟨Au,cu,rfl,ku,hCu,hb⟩;have HCu:=ak_ hCu;have HKu:=ak_ ku;have HBu:=ak_ hb;clear hCu ku hb)
         | (go_at_call 79;refine (has25_any Au cu (useX X) r _ HCu.out HKu.out HUL.out).mono ?_;rintro e w6 ⟨rfl,hb⟩;rw [HBU.out];have HBb:=ak_ (below_then HBu.out HBu.out.size hb);have HTX6:=ak_ (HTXk.out.trans (TX.of_below HBb.out));have HPL6:=ak_ (HPLk.out.below HBb.out);clear hb))
        (try simp only [Act.put,pa_,pb_,pc_])
        go_cut [8] (fun v8 wc=>Aside0 (PL w3 (fun q=>(r∈useX X∧q=(z0:Int)+(k:Int))∨((∃ k',k'<k∧Op1 bs j k' r q)∨((r∈lo∧q=(z1:Int))∨((r∈li∧q=(z0:Int))∨PQ q)))) (1+40000*j+2+2*k+1) v8 wc)∧Aside0 (TX 3 w4 wc))
        case first =>
         cases hd:BU with
         | true =>
          rw [hd] at HBU
          have HD:=ak_ (of_decide_eq_true HBU.out)
          clear hd
          have hN0:=pw_cell_below HPL6.out.bel HNn0.out
          have hwz:=HZK.out.1
          go_wp2_with (at_builtin;refine PL.app HPL6.out rfl _ _ rfl ((z0:Int)+(k:Int)) rfl rfl HNK0.out ?_;intro v1 wa hpl htx;have HPLa:=ak_ hpl;have HTXa:=ak_ htx;clear hpl htx)
          go_meet
          case rel=>exact ⟨⟨HPLa.out.imp (fun q=>⟨fun h=>h.imp (fun h=>⟨HD.out,h⟩) id,fun h=>h.imp (fun h=>h.2) id⟩) (Nat.le_refl _)⟩,⟨HTX6.out.trans HTXa.out⟩⟩
         | false =>
          rw [hd] at HBU
          have HD:=ak_ (of_decide_eq_false HBU.out)
          clear hd
          go_wp2_with fail
          go_meet
          case rel=>exact ⟨⟨HPL6.out.imp (fun q=>⟨.inr,fun h=>h.elim (fun h=>absurd h.1 HD.out) id⟩) (Nat.le_succ _)⟩,HTX6⟩
        case rest =>
         obtain ⟨HPL8,HTX8⟩:=hcut
         clear HBU HPL6 HTX6 HPLk HTXk
         have hbx:=HTX8.out.blk HX4.out (by decide)
         have c0:=blk_cell hbx 0
         simp only [ga_,gb_,gc_] at c0
         have hw2:=HWk.out
         have hbq:=below_then HB3.out HB3.out.size HPL8.out.bel
         obtain ⟨adk',A9',c9',eA,y0,y1,y2,y3,y4,y5,y6,y7⟩:=at_T45 (Kd.C_below HG5.out hbq) (k:Int) (Int.natCast_nonneg k) (Int.ofNat_lt.2 hlk)
         simp only [Int.toNat_natCast] at y0 y1 y2 y3 y4 y5
         injection eA with eA
         subst eA
         have HY6:=ak_ y6
         have HY7:=ak_ y7
         rw [HXE.out] at y0 y1 y2 y3 y4 y5 HY6 HY7
         clear HX6 HX7 HAX y6 y7 hbq
         by_cases hs:setX X=r
         ·have HD:=ak_ hs
          have b3:decide (setX X=r)=true:=decide_eq_true hs
          have b4:(setX X == r)=true:=by simpa using hs
          have hwz:=HZK.out.1
          have hwz2:=HZK.out.2.1
          go_wp2_with (first
           | (go_at_call 65;refine (sets14_any X A9' c9' _ HY7.out HY6.out).mono ?_;rintro e w6 ⟨rfl,hb⟩;have HTX9:=ak_ (HTX8.out.trans (TX.of_below hb));have HPL9:=ak_ (HPL8.out.below hb);have hN0:=pw_cell_below HPL9.out.bel HNn0.out;clear hb)
           | (at_builtin;refine PL.app HPL9.out rfl _ _ rfl ((z0:Int)+(k:Int)+1) rfl rfl HNK.out ?_;intro v1 wa hpl htx;have HPLa:=ak_ hpl;have HTXa:=ak_ htx;clear hpl htx))
          go_roundw
          case rel=>exact ⟨k+1,hlk,by first|(rw [hw2];exact num_cast k)|(with_reducible exact num_cast k),⟨HPLa.out.imp (fun q=>(or_assoc'.trans (or_congr_left (Iff.trans ⟨fun h=>h.elim (fun h=>.inr ⟨HD.out.symm,h⟩) .inl,fun h=>h.elim .inr (fun h=>.inl h.2)⟩ (HO1k.out q).symm))).trans opS_succ.symm) (by omega)⟩,⟨HTX9.out.trans HTXa.out⟩⟩
          case measure=>first|(rw [hw2];exact num_meas hlk)|(with_reducible exact num_meas hlk)
         ·have HD:=ak_ hs
          have b3:decide (setX X=r)=false:=decide_eq_false hs
          have b4:(setX X == r)=false:=by simpa using hs
          go_wp2_with (go_at_call 65;refine (sets14_any X A9' c9' _ HY7.out HY6.out).mono ?_;rintro e w6 ⟨rfl,hb⟩;have HTX9:=ak_ (HTX8.out.trans (TX.of_below hb));have HPL9:=ak_ (HPL8.out.below hb);have hN0:=pw_cell_below HPL9.out.bel HNn0.out;clear hb)
          go_roundw
          case rel=>exact ⟨k+1,hlk,by first|(rw [hw2];exact num_cast k)|(with_reducible exact num_cast k),⟨HPL9.out.imp (fun q=>(or_congr_left (Iff.trans ⟨.inl,fun h=>h.elim id (fun h=>absurd h.1.symm HD.out)⟩ (HO1k.out q).symm)).trans opS_succ.symm) (by omega)⟩,HTX9⟩
          case measure=>first|(rw [hw2];exact num_meas hlk)|(with_reducible exact num_meas hlk)
       ·have b2:decide ((k:Int)<(xs.length:Int))=false:=decide_eq_false (fun h=>hlk (Int.ofNat_lt.1 h))
        have ek:k=xs.length:=Nat.le_antisymm hk (Nat.le_of_not_lt hlk)
        rw [ek] at HPLk
        have b1':=blk_cell hbx 1
        have b2':=blk_cell hbx 2
        have b3':=blk_cell hbx 3
        have b4':=blk_cell hbx 4
        simp only [ga_,gb_,gc_] at b1' b2' b3' b4'
        obtain ⟨BT,hBT⟩:∃ B,decide (r∈tuseT tm)=B:=⟨_,rfl⟩
        have HBT:=ak_ hBT
        clear hBT hbx ek hk
        have hw1:=HW1.out
        have hw2:=HW2.out
        cases hd:BT with
        | true =>
         rw [hd] at HBT
         have HD:=ak_ (of_decide_eq_true HBT.out)
         clear hd
         go_wp2_with (first
          | (go_at_call 67;refine (tuses14_any tm _).mono ?_;rintro e wu ⟨Au,cu,rfl,ku,hCu,hb⟩;have HCu:=ak_ hCu;have HKu:=ak_ ku;have HBu:=ak_ hb;clear hCu ku hb)
          | (go_at_call 79;refine (has25_any Au cu (tuseT tm) r _ HCu.out HKu.out HTL.out).mono ?_;rintro e w6 ⟨rfl,hb⟩;rw [HBT.out];have HBb:=ak_ (below_then HBu.out HBu.out.size hb);have HPL9:=ak_ (HPLk.out.below HBb.out);have hN1:w6.cell? ⟨adn.block,adn.off+(j+1),none⟩=some (.int .i64 (z1:Int)):=pw_cell_below HPL9.out.bel HNn1.out;clear hb)
          | (at_builtin;refine PL.app HPL9.out rfl _ _ rfl ((z1:Int) - 1) rfl rfl (by have:=HJN.out;have:=HXL.out;omega) ?_;intro v1 wa hpl htx;have HPLa:=ak_ hpl;clear hpl htx))
         go_roundw
         case rel=>exact ⟨j+1,hlt,by first|(rw [hw1];exact num_cast j)|(with_reducible exact num_cast j),⟨by rw [HPR.out];exact (HPLa.out.imp (fun q=>Iff.trans ⟨fun h=>h.imp (fun h=>⟨HD.out,h⟩) id,fun h=>h.imp (fun h=>h.2) id⟩ (HTU.out q)) (by have:=HXL.out;omega))⟩⟩
         case measure=>first|(rw [hw1];exact num_meas hlt)|(with_reducible exact num_meas hlt)
        | false =>
         rw [hd] at HBT
         have HD:=ak_ (of_decide_eq_false HBT.out)
         clear hd
         go_wp2_with (first
          | (go_at_call 67;refine (tuses14_any tm _).mono ?_;rintro e wu ⟨Au,cu,rfl,ku,hCu,hb⟩;have HCu:=ak_ hCu;have HKu:=ak_ ku;have HBu:=ak_ hb;clear hCu ku hb)
          | (go_at_call 79;refine (has25_any Au cu (tuseT tm) r _ HCu.out HKu.out HTL.out).mono ?_;rintro e w6 ⟨rfl,hb⟩;rw [HBT.out];have HBb:=ak_ (below_then HBu.out HBu.out.size hb);have HPL9:=ak_ (HPLk.out.below HBb.out);have hN1:w6.cell? ⟨adn.block,adn.off+(j+1),none⟩=some (.int .i64 (z1:Int)):=pw_cell_below HPL9.out.bel HNn1.out;clear hb))
         go_roundw
         case rel=>exact ⟨j+1,hlt,by first|(rw [hw1];exact num_cast j)|(with_reducible exact num_cast j),⟨by rw [HPR.out];exact (HPL9.out.imp (fun q=>Iff.trans ⟨.inr,fun h=>h.elim (fun h=>absurd h.1 HD.out) id⟩ (HTU.out q)) (by have:=HXL.out;omega))⟩⟩
         case measure=>first|(rw [hw1];exact num_meas hlt)|(with_reducible exact num_meas hlt)
   ·have b1:decide ((j:Int)<(bs.length:Int))=false:=decide_eq_false (fun h=>hlt (Int.ofNat_lt.1 h))
    have ej:j=bs.length:=Nat.le_antisymm hj (Nat.le_of_not_lt hlt)
    have hjn:1+40000*j≤1000000000:=by have:=RP.out.len.2;omega
    obtain ⟨L,q1,q2,q3,q4⟩:=HPL.out
    rw [ej] at q1
    go_wp2_with fail
    go_ret
    exact ⟨_,L,rfl,q1,Nat.le_trans q2 hjn,own_weaken q3 HB3.out.size,below_then HB3.out HB3.out.size HBr.out⟩
end Go.Proofs.YtnkgbnbbmcoiiaaGreat.S
namespace Go.Proofs.YtnkgbnbbmcoiiaaGreat.S
open Go.RowKit Go.IM Go.RelRegion Go.Proofs.YtnkgbnbbmcoiiaaGreatW.PrintWords Go.Proofs.YtnkgbnbbmcoiiaaGreatW.PrintLast Go.Proofs.YtnkgbnbbmcoiiaaGreatW.PrintMore
set_option linter.unusedVariables false
set_option linter.unusedSimpArgs false
/-! ### swageref25.Of -/
theorem pts_top {p:Int} {bs:List S50} (h:RightP p bs 256) {r q:Int} (hp:Pts p bs bs.length r q):1≤r∧r≤topR p bs:=by
 refine ⟨(pts_reg h (Nat.le_refl _) hp).1,?_⟩
 have hu:∀ i k,i<bs.length→k<opLen bs i→∀ r∈opR' (opOf bs (i,k)),r≤topR p bs:=fun i k hi hk r hr=>by
  refine foldl_mem _ _ _ (mem_allU bs bs.length 0 i r (Nat.zero_le _) (by omega) (List.mem_append_left _ (List.mem_flatMap.2 ⟨opOf bs (i,k),?_,hr⟩)))
  have h2:k<(rd_T50 bs (i:Int)).f0.length:=hk
  rw [show opOf bs (i,k)=(rd_T50 bs (i:Int)).f0[k] from rd45' h2]
  exact List.getElem_mem h2
 rcases hp with ⟨_,h1,h2⟩|⟨i,hi,⟨hr,_⟩|⟨hr,_⟩|⟨hr,_⟩|⟨k,hk,⟨hr,_⟩|⟨h0,hr,_⟩⟩⟩
 ·have:=foldl_ge (allU bs bs.length 0) (max p 0)
  unfold topR
  omega
 ·exact live_top h ((mem_liveRow h).1 hr)
 ·obtain ⟨j,hj,ha⟩:=(mem_outRow h).1 hr
  exact live_top h ha
 ·exact foldl_mem _ _ _ (mem_allU bs bs.length 0 i r (Nat.zero_le _) (by omega) (List.mem_append_right _ hr))
 ·exact hu i k hi hk r (List.mem_cons_of_mem _ hr)
 ·exact hu i k hi hk r (by rw [hr];exact List.mem_cons_self)
/-- The spans of the first registers. -/
structure QI (P:Int→Int→Prop) (m:Nat) (out:List S52):Prop where mk ::
 rise:Rise (out.map (·.f0))
 span:∀ x∈out,x.f0≤(m:Int)∧SpanOf P x.f0 x.f1 x.f2
 all:∀ r q,r≤(m:Int)→P r q→∃ x∈out,x.f0=r
theorem QI.skip {P:Int→Int→Prop} {m:Nat} {out:List S52} (h:QI P m out) (hn:∀ q,¬ P ((m:Int)+1) q):QI P (m+1) out :=
 ⟨h.rise,fun x hx=>⟨by have:=(h.span x hx).1;omega,(h.span x hx).2⟩,fun r q hr hp=>by
  by_cases e:r=(m:Int)+1
  ·subst e;exact absurd hp (hn q)
  ·exact h.all r q (by omega) hp⟩
theorem QI.add {P:Int→Int→Prop} {m:Nat} {out:List S52} (h:QI P m out) {a b:Int} (hs:SpanOf P ((m:Int)+1) a b):QI P (m+1) (out++[⟨(m:Int)+1,a,b⟩]):=by
 refine ⟨?_,fun x hx=>?_,fun r q hr hp=>?_⟩
 ·unfold Rise
  rw [List.map_append,List.pairwise_append]
  refine ⟨h.rise,by simp,fun x hx y hy=>?_⟩
  obtain ⟨x',hx',rfl⟩:=List.mem_map.1 hx
  simp only [List.map_cons,List.map_nil,List.mem_singleton] at hy
  subst hy
  have:=(h.span x' hx').1
  omega
 ·rcases List.mem_append.1 hx with hx|hx
  ·exact ⟨by have:=(h.span x hx).1;omega,(h.span x hx).2⟩
  ·rw [List.mem_singleton] at hx
   subst hx
   exact ⟨by simp,hs⟩
 ·by_cases e:r=(m:Int)+1
  ·subst e
   exact ⟨_,List.mem_append_right _ (List.mem_singleton.2 rfl),rfl⟩
  ·obtain ⟨x,hx,e2⟩:=h.all r q (by omega) hp
   exact ⟨x,List.mem_append_left _ hx,e2⟩
theorem QI.len {P:Int→Int→Prop} {m:Nat} {out:List S52} (h:QI P m out) (h1:∀ r q,P r q→1≤r) (hm:m≤4096):out.length≤4096:=by
 have hn:(out.map (·.f0)).Nodup:=h.rise.imp (fun h e=>by omega)
 have:=Lv.regs_le hn (fun r hr=>by
  obtain ⟨x,hx,rfl⟩:=List.mem_map.1 hr
  exact ⟨h1 _ _ (h.span x hx).2.lo,by have:=(h.span x hx).1;omega⟩)
 rwa [List.length_map] at this
/-- Where the least and the greatest stand. -/
structure MM (L:List Int) (k:Nat) (a b:Int):Prop where mk ::
 lo:a∈L
 hi:b∈L
 all:∀ i:Nat,i<k→a≤rd L (i:Int)∧rd L (i:Int)≤b
theorem MM.step {L:List Int} {k:Nat} {a b:Int} (h:MM L k a b) (hk:k<L.length):MM L (k+1) (min a (rd L (k:Int))) (max b (rd L (k:Int))):=by
 have hm:rd L (k:Int)∈L:=by rw [rd_mem hk];exact List.getElem_mem hk
 refine ⟨?_,?_,fun i hi=>?_⟩
 ·by_cases e:a≤rd L (k:Int)
  ·rw [Int.min_eq_left e];exact h.lo
  ·rw [Int.min_eq_right (by omega)];exact hm
 ·by_cases e:b≤rd L (k:Int)
  ·rw [Int.max_eq_right e];exact hm
  ·rw [Int.max_eq_left (by omega)];exact h.hi
 ·by_cases e:i=k
  ·subst e;omega
  ·have:=h.all i (by omega);omega
theorem MM.span {P:Int→Int→Prop} {L:List Int} {a b r:Int} (h:MM L L.length a b) (hq:∀ q,q∈L↔P r q):SpanOf P r a b :=
 ⟨(hq a).1 h.lo,(hq b).1 h.hi,fun q hp=>by
  obtain ⟨i,hi,e⟩:=List.getElem_of_mem ((hq q).2 hp)
  have:=h.all i hi
  rw [rd_mem hi,e] at this
  exact this⟩
theorem num_cast2 (m:Nat):Value.int .i64 ((m:Int)+1+1)=Value.int .i64 (((m+1:Nat):Int)+1):=by rw [Int.natCast_succ]
theorem of_meas {T R:Int} (h:R≤T):(T+1 - intOf (.int .i64 (R+1))).toNat<(T+1 - intOf (.int .i64 R)).toNat:=by
 simp only [intOf]
 omega
def rofE:Nat→Option (List Nat)
 | 8=>some []
 | _=>none
set_option maxHeartbeats 16000000 in
set_option maxRecDepth 100000 in
theorem rof_ok (p:Int) (A:Option Addr) (c:Nat) (bs:List S50) (w:World) (hF:Fits bs) (hR:rightF p bs 256=true) (hC:Kd.C k50 w A bs.length bs) (hc:bs.length≤c) :
  Calls Tryz.prog 14 #[.agg #[.int .i64 p,.slice A bs.length c]] w fun e w'=>∃ v out,e=.returned v∧Kd.R k52 52 w' w.heap.size (fun _=>True) v out∧OfQ (Pts p bs bs.length) out∧Below w.heap.size w w':=by
 have hu24:=Tryz.underlying24
 have hu52:=Tryz.underlying52
 have RP:=ak_ (rightF_iff hR)
 have HPT:=ak_ (fun r q=>pts_top (r:=r) (q:=q) RP.out)
 obtain ⟨kr,hkr⟩:=hF.right (p:=p)
 have HKR:=ak_ (hkr kr (Nat.le_refl _))
 rw [hR] at HKR
 have HTL:=ak_ (top_le RP.out)
 have HT0:=ak_ (topR_nonneg p bs)
 obtain ⟨kg,hkg⟩:=r14_regs p bs (Nat.le_trans RP.out.len.2 (by decide)) hF.ops hF.args
 have HKG:=ak_ (hkg kg (Nat.le_refl _))
 have HFT:=ak_ hF
 have HR:=ak_ hR
 have HC:=ak_ hC
 have HCc:=ak_ hc
 have HB0:=ak_ (below_alloc (Below.refl w.heap.size w) (.cells #[.int .i64 p,.slice A bs.length c] 24))
 have HF0:=ak_ (blk_new w (.cells #[.int .i64 p,.slice A bs.length c] 24))
 clear hkr hkg hF hR hC hc
 generalize topR p bs=T at HPT HTL HT0 HKG
 go_enter Tryz.func14,Tryz.ntmps14
 have c0:=bc_ HF0 0
 have c1:=bc_ HF0 1
 simp only [ga_,gb_,gc_] at c0 c1
 go_wp2_with (go_at_call 46;refine (swageref14_Right.calls kr p A c bs 256 _ _ (Kd.C_below HC.out HB0.out) HCc.out HKR.out).mono ?_;rintro e w1 ⟨rfl,hb⟩;have HB1:=ak_ (below_then HB0.out HB0.out.size hb);have HF1:=ak_ (blk_below HF0.out hb);clear c0 c1 hb)
 go_loopw [4,5] (fun v i wr=>∃ (m:Nat) (out:List S52),(m:Int)≤T∧i=.int .i64 ((m:Int)+1)∧Aside0 (QI (Pts p bs bs.length) m out)∧Aside0 (Kd.R k52 52 wr w1.heap.size (fun _=>True) v out)∧Aside0 (Below w1.heap.size w1 wr)) (fun _ i _=>(T+1 - intOf i).toNat)
 case atStart=>exact ⟨0,[],HT0.out,rfl,⟨⟨List.Pairwise.nil,(fun x hx=>by cases hx),fun r q hr hp=>absurd (HPT.out r q hp).1 (by omega)⟩⟩,⟨Kd.R_nil _ _ _ _ _⟩,⟨Below.refl _ _⟩⟩
 case round =>
  obtain ⟨m,out,hm,rfl,HQ,HO,HB⟩:=hrel
  have HBw:=ak_ (below_then HB1.out HB1.out.size HB.out)
  have c0:=blk_cell (blk_below HF1.out HB.out) 0
  have c1:=blk_cell (blk_below HF1.out HB.out) 1
  simp only [ga_,gb_,gc_] at c0 c1
  have HML:Aside0 (m≤4096):=⟨by have:=HTL.out;omega⟩
  have hw1:wrap64 ((m:Int)+1+1)=(m:Int)+1+1:=by unfold wrap64;have:=HML.out;omega
  have HW1:=ak_ hw1
  clear hw1
  by_cases hlt:(m:Int)+1≤T
  ·have b1:decide ((m:Int)+1≤T)=true:=decide_eq_true hlt
   have HLT:=ak_ hlt
   obtain ⟨R,hRg⟩:∃ R:Int,(m:Int)+1=R:=⟨_,rfl⟩
   have HRM:=ak_ hRg
   rw [hRg] at b1 ⊢
   have HR1:Aside0 (1≤R):=⟨by omega⟩
   have HW1:Aside0 (wrap64 (R+1)=R+1):=⟨by rw [← hRg];exact HW1.out⟩
   clear hRg hlt
   go_upto_if 25 with (first
    | (go_at_call 38;refine (swageref14_Regs.calls kg p A c bs T _ (Kd.C_below HC.out HBw.out) HCc.out HKG.out).mono ?_;rintro e w2 ⟨rfl,hb⟩;have HB2:=ak_ (below_then HB.out HB.out.size hb);have HO2:=ak_ (Kd.R_below HO.out hb);clear c0 c1;have c0:=blk_cell (blk_below HF1.out HB2.out) 0;have c1:=blk_cell (blk_below HF1.out HB2.out) 1;simp only [ga_,gb_,gc_] at c0 c1;clear hb)
    | (go_at_call 47;refine (points_ok p A c bs R _ HFT.out HR.out HR1.out (Kd.C_below HC.out (below_then HB1.out HB1.out.size HB2.out)) HCc.out).mono ?_;rintro e w4 ⟨v4,L,rfl,hq,hl,ho,hb⟩;obtain ⟨AL,cL,rfl⟩:=own_slice ho;have HLQ:=ak_ hq;have HLL:=ak_ hl;have HOL:=ak_ ho;have HB4:=ak_ (below_then HB2.out HB2.out.size hb);have HO4:=ak_ (Kd.R_below HO2.out hb);clear hq hl ho hb c0 c1 b1))
   by_cases h0:L.length=0
   ·have b1:decide (((L.length:Nat):Int)=0)=true:=decide_eq_true (by omega)
    have b2:(((L.length:Nat):Int) == 0)=true:=by simpa using h0
    have HSK:Aside0 (∀ q,¬ Pts p bs bs.length ((m:Int)+1) q):=⟨fun q hq=>by
     rw [HRM.out] at hq
     have:=(HLQ.out q).2 hq
     rw [List.eq_nil_of_length_eq_zero h0] at this
     cases this⟩
    have hw1:=HW1.out
    try rw [b1]
    go_wp2_with fail
    go_roundw
    case rel=>exact ⟨m+1,out,by have:=HLT.out;have:=HRM.out;omega,by first|(rw [hw1,← HRM.out];exact num_cast2 m)|(rw [← HRM.out];exact num_cast2 m),⟨HQ.out.skip HSK.out⟩,HO4,HB4⟩
    case measure=>first|(rw [HW1.out,← HRM.out];exact of_meas HLT.out)|(rw [← HRM.out];exact of_meas HLT.out)
   ·have hpos:0<L.length:=Nat.pos_of_ne_zero h0
    have b1:decide (((L.length:Nat):Int)=0)=false:=decide_eq_false (by omega)
    have b2:(((L.length:Nat):Int) == 0)=false:=by simpa using h0
    have b3:decide ((0:Int)<((L.length:Nat):Int))=true:=decide_eq_true (Int.ofNat_lt.2 hpos)
    obtain ⟨adl,eA,l0⟩:=(own_reads' HOL.out).at_ (0:Int) (Int.le_refl _) (Int.ofNat_lt.2 hpos)
    subst eA
    have l0:w4.cell? adl=some (.int .i64 (rd L 0)):=l0
    have hm0:rd L 0∈L:=by
     show rd L ((0:Nat):Int)∈L
     rw [rd_mem hpos]
     exact List.getElem_mem hpos
    have HM0:Aside0 (MM L 0 (rd L 0) (rd L 0)):=⟨⟨hm0,hm0,fun i hi=>absurd hi (Nat.not_lt_zero _)⟩⟩
    clear hm0
    generalize rd L 0=z at l0 HM0
    try rw [b1]
    go_wp2_with fail
    refine wp_region_rel 9 rofE (fun k=>[k]) (fun k vs w'=>k=8→∃ g,vs=[.pointer (some ⟨g,0,none⟩)]∧w4.heap.size≤g∧w'.heap[g]?=some (.cells #[.int .i64 0,.int .i64 0,.int .i64 0] 52 (0,0))) (fun wq=>Below w4.heap.size w4 wq) (fun a b=>Below a.heap.size a b) (by kernel_rfl) (by kernel_rfl) (below_drew (Below.refl _ _)) (fun a b h k=>below_then h h.size k) (fun _ _ a b h hb e=>by
     obtain ⟨g,h1,h2,h3⟩:=h e
     exact ⟨g,h1,h2,blk_below h3 hb⟩) ?_
    simp only [List.take_succ_cons,List.take_zero,List.drop_succ_cons,List.drop_zero]
    iterate 9 (first|(refine relQ_loud rfl ?_)|(apply relQ_step rfl;apply Exists.intro;constructor;(focus (intro wq hwq;have l0:=pw_cell_below hwq l0;unfold Yl;go_wp2_with fail;exact ⟨rfl,_,rfl,rfl,Below.refl _ _⟩));(try simp only [Act.put,pa_,pb_,pc_])))
    refine relQ_nil (fun xx=>?_)
    repeat (refine relL_quiet rfl ?_)
    refine relL_loud rfl (fun w' hw' _=>?_) ?_
    ·unfold Yl
     go_wp2_with fail
     refine ⟨rfl,_,rfl,below_alloc (Below.refl w'.heap.size w') (.cells #[.int .i64 0,.int .i64 0,.int .i64 0] 52),⟨w'.heap.size,rfl,hw'.size,blk_new w' _⟩⟩
    (try simp only [Act.put,pa_,pb_,pc_])
    refine relL_nil (fun w5 hw5 hRR=>?_)
    obtain ⟨gb,e8,hgb,hbx⟩:=hRR 8 (by decide) rfl rfl
    have e8:xx 8=.pointer (some ⟨gb,0,none⟩):=by simpa using e8
    rw [e8]
    have s0:=blk_cell hbx 0
    have s1:=blk_cell hbx 1
    have s2:=blk_cell hbx 2
    simp only [ga_,gb_,gc_] at s0 s1 s2
    have f0:=blk_frozen hbx 0
    have f1:=blk_frozen hbx 1
    have f2:=blk_frozen hbx 2
    have HBX:=ak_ hbx
    have HGB:=ak_ hgb
    have HB5:=ak_ hw5
    clear hRR hbx hgb hw5 e8 l0
    go_wp2_with fail
    obtain ⟨W5,hW5⟩:∃ W5,((w5.setCell ⟨gb,0,none⟩ (.int .i64 R)).setCell ⟨gb,1,none⟩ (.int .i64 z)).setCell ⟨gb,2,none⟩ (.int .i64 z)=W5:=⟨_,rfl⟩
    have HX5:Aside0 (W5.heap[gb]?=some (.cells #[.int .i64 R,.int .i64 z,.int .i64 z] 52 (0,0))):=⟨by rw [← hW5];exact blk_set (blk_set (blk_set HBX.out 0 (.int .i64 R)) 1 (.int .i64 z)) 2 (.int .i64 z)⟩
    have HB5' : Aside0 (Below w4.heap.size w4 W5):=⟨by rw [← hW5];exact below_set (below_set (below_set HB5.out HGB.out) HGB.out) HGB.out⟩
    rw [hW5]
    clear hW5 s0 s1 s2 f0 f1 f2 HBX HB5
    go_loopw [8] (fun i wi=>∃ (k:Nat) (a b:Int),k≤L.length∧i=.int .i64 (k:Int)∧Aside0 (MM L k a b)∧Aside0 (wi.heap[gb]?=some (.cells #[.int .i64 R,.int .i64 a,.int .i64 b] 52 (0,0)))∧Aside0 (Below w4.heap.size w4 wi)) (fun i _=>L.length - (intOf i).toNat)
    case atStart=>exact ⟨0,z,z,Nat.zero_le _,rfl,HM0,HX5,HB5'⟩
    case round =>
     clear HM0 HX5 HB5'
     obtain ⟨k,a,b,hk,rfl,HM,HX,HBi⟩:=hrel
     have s0:=bc_ HX 0
     have s1:=bc_ HX 1
     have s2:=bc_ HX 2
     simp only [ga_,gb_,gc_] at s0 s1 s2
     by_cases hlk:k<L.length
     ·have d1:decide ((k:Int)<(L.length:Int))=true:=decide_eq_true (Int.ofNat_lt.2 hlk)
      have hw2:wrap64 ((k:Int)+1)=(k:Int)+1:=inc63 hlk (Nat.le_trans HLL.out (by decide))
      obtain ⟨adq,eA,lk⟩:=((own_reads' HOL.out).below HBi.out).at_ (k:Int) (Int.natCast_nonneg k) (Int.ofNat_lt.2 hlk)
      simp only [Int.toNat_natCast] at lk
      injection eA with eA
      subst eA
      have HM1:=ak_ (HM.out.step hlk)
      obtain ⟨q,hq⟩:∃ q,rd L (k:Int)=q:=⟨_,rfl⟩
      rw [hq] at lk HM1
      have HQK:=ak_ hq
      clear hq
      have f1:=fz_ HX 1
      have f2:=fz_ HX 2
      go_wp2_with fail
      refine wp_region_rel 7 (fun _=>none) (fun _=>[]) (fun _ _ _=>True) (fun wq=>Below wr.heap.size wr wq) (fun a b=>Below a.heap.size a b) (by kernel_rfl) (by kernel_rfl) (below_drew (Below.refl _ _)) (fun a b h k=>below_then h h.size k) (fun _ _ _ _ h _=>h) ?_
      simp only [List.take_succ_cons,List.take_zero,List.drop_succ_cons,List.drop_zero]
      iterate 7 (apply relQ_step rfl;apply Exists.intro;constructor;(focus (intro wq hwq;have s1:=pw_cell_below hwq s1;have lk:=pw_cell_below hwq lk;unfold Yl;go_wp2_with fail;exact ⟨rfl,_,rfl,rfl,Below.refl _ _⟩));(try simp only [Act.put,pa_,pb_,pc_]))
      refine relQ_nil (fun xx=>?_)
      repeat (refine relL_quiet rfl ?_)
      refine relL_nil (fun w6 hw6 _=>?_)
      have HX6:=ak_ (blk_below HX.out hw6)
      have HB6:=ak_ (below_then HBi.out HBi.out.size hw6)
      have s1:=pw_cell_below hw6 s1
      have f1:=fz_ HX6 1
      clear f2 s0 s2 lk hw6
      go_wp2_with fail
      obtain ⟨W7,hW7⟩:∃ W7,w6.setCell ⟨gb,1,none⟩ (.int .i64 (min a q))=W7:=⟨_,rfl⟩
      have HX7:Aside0 (W7.heap[gb]?=some (.cells #[.int .i64 R,.int .i64 (min a q),.int .i64 b] 52 (0,0))):=⟨by rw [← hW7];exact blk_set HX6.out 1 (.int .i64 (min a q))⟩
      have HB7:Aside0 (Below w4.heap.size w4 W7):=⟨by rw [← hW7];exact below_set HB6.out HGB.out⟩
      rw [hW7]
      clear hW7 s1 f1 HX6 HB6
      obtain ⟨adr,eR,lk⟩:=((own_reads' HOL.out).below HB7.out).at_ (k:Int) (Int.natCast_nonneg k) (Int.ofNat_lt.2 hlk)
      simp only [Int.toNat_natCast] at lk
      injection eR with eR
      subst eR
      rw [HQK.out] at lk
      have s2:=bc_ HX7 2
      simp only [ga_,gb_,gc_] at s2
      refine wp_region_rel 7 (fun _=>none) (fun _=>[]) (fun _ _ _=>True) (fun wq=>Below W7.heap.size W7 wq) (fun a b=>Below a.heap.size a b) (by kernel_rfl) (by kernel_rfl) (below_drew (Below.refl _ _)) (fun a b h k=>below_then h h.size k) (fun _ _ _ _ h _=>h) ?_
      simp only [List.take_succ_cons,List.take_zero,List.drop_succ_cons,List.drop_zero]
      iterate 7 (apply relQ_step rfl;apply Exists.intro;constructor;(focus (intro wq hwq;have s2:=pw_cell_below hwq s2;have lk:=pw_cell_below hwq lk;unfold Yl;go_wp2_with fail;exact ⟨rfl,_,rfl,rfl,Below.refl _ _⟩));(try simp only [Act.put,pa_,pb_,pc_]))
      refine relQ_nil (fun xx=>?_)
      repeat (refine relL_quiet rfl ?_)
      refine relL_nil (fun w8 hw8 _=>?_)
      have HX8:=ak_ (blk_below HX7.out hw8)
      have HB8:=ak_ (below_then HB7.out HB7.out.size hw8)
      have s2:=pw_cell_below hw8 s2
      have f2:=fz_ HX8 2
      clear lk hw8
      go_wp2_with fail
      go_roundw
      case rel=>exact ⟨k+1,min a q,max b q,hlk,by first|(rw [hw2];exact num_cast k)|(with_reducible exact num_cast k),HM1,⟨blk_set HX8.out 2 (.int .i64 (max b q))⟩,⟨below_set HB8.out HGB.out⟩⟩
      case measure=>first|(rw [hw2];exact num_meas hlk)|(with_reducible exact num_meas hlk)
     ·have d1:decide ((k:Int)<(L.length:Int))=false:=decide_eq_false (fun h=>hlk (Int.ofNat_lt.1 h))
      have ek:k=L.length:=Nat.le_antisymm hk (Nat.le_of_not_lt hlk)
      have hsp:=(ek▸HM.out:MM L L.length a b).span (P:=Pts p bs bs.length) HLQ.out
      rw [← HRM.out] at hsp
      have HQ2:=ak_ (HQ.out.add hsp)
      have HOL2:Aside0 (out.length≤4096):=⟨HQ.out.len (fun r q h=>(HPT.out r q h).1) HML.out⟩
      have HOi:=ak_ (Kd.R_below HO4.out HBi.out)
      have HBf:=ak_ (below_then HB4.out HB4.out.size HBi.out)
      have hw1:=HW1.out
      clear hsp ek hk
      go_wp2_with (at_builtin;refine Kd.R_append k52 (w0:=w1) w1.heap.size rfl _ _ 28 52 (.agg #[.int .i64 0,.int .i64 0,.int .i64 0]) 24 rfl Tryz.underlying28 info52' rfl (by decide) (by decide) u4 out ⟨R,a,b⟩ [.int .i64 R,.int .i64 a,.int .i64 b] (fun _=>True) (fun _=>False) rfl rfl (k52_mkM _ _ _ _) (fun _ hk=>hk.elim) (fun _ _=>trivial) HOi.out HBf.out HBf.out.size (by have:=HOL2.out;omega) ?_;intro v1 w5 ho5 hb5 hg5 hat5;have HO5:=ak_ ho5;have HB5:=ak_ hb5;clear ho5 hb5 hg5 hat5)
      go_roundw
      case rel=>exact ⟨m+1,out++[⟨R,a,b⟩],by have:=HLT.out;have:=HRM.out;omega,by first|(rw [hw1,← HRM.out];exact num_cast2 m)|(rw [← HRM.out];exact num_cast2 m),⟨by rw [← HRM.out];exact HQ2.out⟩,HO5,HB5⟩
      case measure=>first|(rw [HW1.out,← HRM.out];exact of_meas HLT.out)|(rw [← HRM.out];exact of_meas HLT.out)
  ·have b1:decide ((m:Int)+1≤T)=false:=decide_eq_false hlt
   have HEQ:Aside0 (∀ r q,Pts p bs bs.length r q→r≤(m:Int)):=⟨fun r q h=>by have:=(HPT.out r q h).2;omega⟩
   go_wp2_with (go_at_call 38;refine (swageref14_Regs.calls kg p A c bs T _ (Kd.C_below HC.out HBw.out) HCc.out HKG.out).mono ?_;rintro e w2 ⟨rfl,hb⟩;have HB2:=ak_ (below_then HB.out HB.out.size hb);have HO2:=ak_ (Kd.R_below HO.out hb);clear hb)
   go_ret
   exact ⟨_,out,rfl,Kd.R_lower HO2.out HB1.out.size,⟨HQ.out.rise,fun x hx=>(HQ.out.span x hx).2,fun r q h=>HQ.out.all r q (HEQ.out r q h) h⟩,below_then HB1.out HB1.out.size HB2.out⟩
end Go.Proofs.YtnkgbnbbmcoiiaaGreat.S
