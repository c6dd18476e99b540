import Derived.Test.YtnkgbnbbmcoiiaaGreatBk
import Derived.Test.YtnkgbnbbmcoiiaaGreatLreads
import Derived.Test.YtnkgbnbbmcoiiaaGreatReli
import Derived.Test.YtnkgbnbbmcoiiaaGreatOput
import Derived.Test.YtnkgbnbbmcoiiaaGreatS12
import Derived.Test.YtnkgbnbbmcoiiaaGreatS14
import Derived.Test.YtnkgbnbbmcoiiaaGreatS5
import Derived.Test.YtnkgbnbbmcoiiaaGreatS6
import Derived.Test.YtnkgbnbbmcoiiaaGreatOsets
namespace Go.Proofs.YtnkgbnbbmcoiiaaGreat.S
open Go.RowKit Go.IM Go.RelRegion Go.Proofs.YtnkgbnbbmcoiiaaGreatW.PrintWords Go.Proofs.YtnkgbnbbmcoiiaaGreatW.PrintLast Go.Proofs.YtnkgbnbbmcoiiaaGreatW.PrintMore
set_option linter.unusedVariables false
set_option linter.unusedSimpArgs false
/-! ### swageref17.reads -/
theorem inc63 {j n:Nat} (h:j<n) (hn:n≤9223372036854775807):wrap64 ((j:Int)+1)=(j:Int)+1:=by
 unfold wrap64
 omega
theorem has17_any (A:Option Addr) (c:Nat) (l:List Int) (x:Int) (w:World) (hC:Kd.C (Kd.int .i64) w A l.length l) (hc:l.length≤c) (hl:l.length≤1000000000000) :
  Calls Tryz.prog 55 #[.slice A l.length c,.int .i64 x] w fun e w'=>e=.returned (.bool (decide (x∈l)))∧Below w.heap.size w w':=by
 obtain ⟨k,hk⟩:=r17_has l x hl
 refine (swageref17_has.calls k A c l x _ w hC hc (hk k (Nat.le_refl _))).mono ?_
 rintro e w' ⟨rfl,hd⟩
 exact ⟨rfl,hd.below⟩
theorem uses14_any (x:S45) (A:Option Addr) (c:Nat) (w:World) (hx:x.f5.length≤1000000000000) (hC:Kd.C (Kd.int .i64) w A x.f5.length x.f5) (hc:x.f5.length≤c) :
  Calls Tryz.prog 66 #[.agg #[.int .i64 x.f0,.int .i64 x.f1,.int .i64 x.f2,.int .i64 x.f3,.int .i64 x.f4,.slice A x.f5.length c]] w fun e w'=>∃ A' c',e=.returned (.slice A' (useX x).length c')∧(useX x).length≤c'∧Kd.C (Kd.int .i64) w' A' (useX x).length (useX x)∧Below w.heap.size w w':=by
 obtain ⟨k,hk⟩:=r14_uses x hx
 refine (swageref14_Uses.calls k x.f0 x.f1 x.f2 x.f3 x.f4 A c x.f5 (useX x) w hC hc (hk k (Nat.le_refl _))).mono ?_
 rintro e w' ⟨v,rfl,hr,hb⟩
 obtain ⟨A',c',rfl,k',hc'⟩:=Kd.R_reads hr
 exact ⟨A',c',rfl,k',hc',hb⟩
theorem sets14_any (x:S45) (A:Option Addr) (c:Nat) (w:World) (hC:Kd.C (Kd.int .i64) w A x.f5.length x.f5) (hc:x.f5.length≤c) :
  Calls Tryz.prog 65 #[.agg #[.int .i64 x.f0,.int .i64 x.f1,.int .i64 x.f2,.int .i64 x.f3,.int .i64 x.f4,.slice A x.f5.length c]] w fun e w'=>e=.returned (.int .i64 (setX x))∧Below w.heap.size w w' :=
 swageref14_Sets.calls x.f0 x.f1 x.f2 x.f3 x.f4 A c x.f5 (setX x) w hC hc (r14_sets x)
theorem tuses14_any (t:S48) (w:World) :
  Calls Tryz.prog 67 #[.agg #[.int .i64 t.f0,.int .i64 t.f1,.int .i64 t.f2,.int .i64 t.f3]] w fun e w'=>∃ A c,e=.returned (.slice A (tuseT t).length c)∧(tuseT t).length≤c∧Kd.C (Kd.int .i64) w' A (tuseT t).length (tuseT t)∧Below w.heap.size w w':=by
 refine (swageref14_TermUses.calls t.f0 t.f1 t.f2 t.f3 (tuseT t) w (r14_tuses t)).mono ?_
 rintro e w' ⟨v,rfl,hr,hb⟩
 obtain ⟨A',c',rfl,k',hc'⟩:=Kd.R_reads hr
 exact ⟨A',c',rfl,k',hc',hb⟩
theorem succ14_any (p:Int) (A:Option Addr) (c:Nat) (bs:List S50) (w:World) (hC:Kd.C k50 w A bs.length bs) (hc:bs.length≤c) (hl:bs.length≤1000000000000) :
  Calls Tryz.prog 54 #[.agg #[.int .i64 p,.slice A bs.length c]] w fun e w'=>∃ A' c',e=.returned (.slice A' (succL bs).length c')∧Kd.R (Kd.slice 3 (Kd.int .i64)) 31 w' w.heap.size (fun _=>True) (.slice A' (succL bs).length c') (succL bs)∧Below w.heap.size w w':=by
 obtain ⟨k,hk⟩:=r14_succ p bs hl
 refine (swageref14_Succ.calls k p A c bs (succL bs) w hC hc (hk k (Nat.le_refl _))).mono ?_
 rintro e w' ⟨v,rfl,hr,hb⟩
 have hr:=Kd.S_R hr
 obtain ⟨A',c',rfl,k',hc'⟩:=Kd.R_reads hr
 exact ⟨A',c',rfl,hr,hb⟩
theorem suc_row {w5 wr:World} {ad:Addr} {n c i:Nat} {L:List (List Int)} {l:List Int} {g base:Nat} (hr:Kd.R (Kd.slice 3 (Kd.int .i64)) 31 w5 base (fun _=>True) (.slice (some ad) n c) L) (hgb:g<base) (hi:i<n) (hl:rd_L1 L (i:Int)=l) {A0:Option Addr} {c0:Nat}
  (hc:w5.cell? (ad.add i)=some (.slice A0 l.length c0)) (hg:w5.grownBy wr (some g)):Kd.C (Kd.int .i64) wr A0 l.length l:=by
 have hR:=Kd.R_grown (Kd.R_bound hr) hg (fun k hk e=>by
  have e' : k=g:=by injection e
  have:=hk.2.1
  omega)
 have hC:=(Kd.R_reads' hR).2.2
 have hn:=(Kd.R_reads' hR).1
 rw [← hn] at hC
 obtain ⟨ad',A0',c0',e,h0,h1,h2⟩:=row_cell hC hi hl
 have e:ad=ad':=by injection e
 subst e
 have hb:base≤ad.block:=Kd.R_base hr ad.block (by simp [Value.ownBlock])
 have h3:=cell_grown hg hc (fun e=>by
  have e' : (ad.add i).block=g:=by injection e
  have e2:(ad.add i).block=ad.block:=by unfold Addr.add;split<;>rfl
  omega)
 rw [h0] at h3
 have h4:=Option.some.inj h3
 injection h4 with h4 h5 h6
 subst h4
 exact h2
theorem grown_set (W:World) (b t:Nat) (v:Value):W.grownBy (W.setCell ⟨b,t,none⟩ v) (some b):=⟨rfl,rfl,rfl,by rw [World.size_setCell];exact Nat.le_refl _,fun k _ hk=>Below.heap_setCell W _ v k (fun e=>hk (by rw [e]))⟩
def bl (M:List Bool):Array Value:=(M.map Value.bool).toArray
theorem bl_get {M:List Bool} {t:Nat} (h:t<M.length):(bl M)[t]?=some (.bool (met M t)):=by
 unfold bl met
 simp [h,List.getD_eq_getElem?_getD]
theorem bl_set (M:List Bool) (t:Nat):(bl M).setIfInBounds t (.bool true)=bl (M.set t true):=by
 unfold bl
 rw [List.setIfInBounds_toArray,List.map_set]
theorem left_le:∀ (M M' : List Bool),M'.length=M.length→(∀ t,met M t=true→met M' t=true)→left M'≤left M
 | [],[],_,_=>Nat.le_refl _
 | [],_::_,h,_=>by cases h
 | _::_,[],h,_=>by cases h
 | a::M,b::M',h,hm=>by
  have ih:=left_le M M' (by simpa using h) (fun t ht=>hm (t+1) ht)
  have h0:=hm 0
  unfold left at ih ⊢
  rw [List.count_cons,List.count_cons]
  cases a<;>cases b<;>simp_all [met]<;>omega
/-- Where the loop over the successors stands. -/
structure SucQ (bs:List S50) (r:Int) (M:List Bool) (sl:List Int) (q:Nat) (M1:List Bool):Prop where mk ::
 len:M1.length=M.length
 more:∀ t,met M t=true→met M1 t=true
 seen:∀ j,met M1 j=true→met M j=false→Loc bs r M1 j 0
 done:∀ u,u<q→met M1 (rd sl (u:Int)).toNat=true
theorem SucQ.start (bs:List S50) (r:Int) (M:List Bool) (sl:List Int):SucQ bs r M sl 0 M:=⟨rfl,fun _ h=>h,(fun j h1 h2=>by rw [h1] at h2;cases h2),fun u hu=>absurd hu (Nat.not_lt_zero _)⟩
theorem SucQ.cont {bs:List S50} {r:Int} {M M1:List Bool} {sl:List Int} {q t:Nat} (h:SucQ bs r M sl q M1) (ht:rd sl (q:Int)=(t:Int)) (hm:met M1 t=true):SucQ bs r M sl (q+1) M1 :=
 ⟨h.len,h.more,h.seen,fun u hu=>by
  by_cases e:u=q
  ·subst e;rw [ht,Int.toNat_natCast];exact hm
  ·exact h.done u (by omega)⟩
theorem SucQ.call {bs:List S50} {r:Int} {M M1 M2:List Bool} {sl:List Int} {q t:Nat} (h:SucQ bs r M sl q M1) (ht:rd sl (q:Int)=(t:Int)) (htl:t<M1.length) (hr:RdQ bs r t 0 (M1.set t true) false M2):SucQ bs r M sl (q+1) M2:=by
 obtain ⟨hl,hs⟩:=hr.no rfl
 have h12:∀ u,met M1 u=true→met M2 u=true:=fun u hu=>hr.more u (by rw [met_set _ _ _ htl];split;rfl;exact hu)
 have ht2:met M2 t=true:=hr.more t (by rw [met_set _ _ _ htl,if_pos rfl])
 refine ⟨by rw [hr.len,List.length_set];exact h.len,fun u hu=>h12 u (h.more u hu),fun j h1 h2=>?_,fun u hu=>?_⟩
 ·by_cases e:j=t
  ·subst e;exact hl
  ·cases hm:met M1 j with
   | true=>exact (h.seen j hm h2).mono h12
   | false=>exact hs j h1 (by rw [met_set _ _ _ htl,if_neg e];exact hm)
 ·by_cases e:u=q
  ·subst e;rw [ht,Int.toNat_natCast];exact ht2
  ·exact h12 _ (h.done u (by omega))
theorem useX_12 (x:S45) (h:x.f5.length≤1000):(useX x).length≤1000000000000:=by
 unfold useX
 simp only [List.length_append]
 repeat' split
 all_goals (simp only [List.length_cons,List.length_nil];omega)
set_option maxHeartbeats 16000000 in
set_option maxRecDepth 100000 in
theorem reads_ok (p:Int) (A:Option Addr) (c:Nat) (bs:List S50) (r:Int) (RP0:RightP p bs 256) (hc:bs.length≤c) (w0:World) (hC:Kd.C k50 w0 A bs.length bs) (g:Nat) (hg0:w0.heap.size≤g) :
  ∀ (m:Nat) (M:List Bool) (i k:Nat) (w:World),left M≤m→M.length=bs.length→i<bs.length→k≤opLen bs i→Below w0.heap.size w0 w→w.heap[g]?=some (.cells (bl M) 4 (0,0)) →
  Calls Tryz.prog 84 #[.agg #[.int .i64 p,.slice A bs.length c],.int .i64 (i:Int),.int .i64 (k:Int),.int .i64 r,.slice (some ⟨g,0,none⟩) bs.length bs.length] w fun e w' =>
   ∃ b M',e=.returned (.bool b)∧w'.heap[g]?=some (.cells (bl M') 4 (0,0))∧w.grownBy w' (some g)∧RdQ bs r i k M b M':=by
 intro m
 induction m using Nat.strongRecOn with
 | ind m IH =>
 intro M i k w hm hML hi hk hbw hgM
 have RP:=ak_ RP0
 have HIH:=ak_ IH
 have HC:=ak_ hC
 have HCc:=ak_ hc
 have HG0:=ak_ hg0
 have HBW:=ak_ hbw
 have HGM:=ak_ hgM
 have HLM:=ak_ hm
 have HML:=ak_ hML
 have hu24:=Tryz.underlying24
 have hu50:=Tryz.underlying50
 have hu48:=Tryz.underlying48
 have hu45:=Tryz.underlying45
 have hgw:g<w.heap.size:=blk_lt hgM
 have HGW:=ak_ hgw
 have hn4:=RP0.len.2
 have HN4:=ak_ hn4
 obtain ⟨adb,A5,c5,eA,h0,h1,h2,h3,h4,l5,g5⟩:=at_T50 (Kd.C_below hC hbw) (i:Int) (Int.natCast_nonneg i) (Int.ofNat_lt.2 hi)
 simp only [Int.toNat_natCast] at h0 h1 h2 h3 h4
 subst eA
 have hkl:k≤(rd_T50 bs (i:Int)).f0.length:=hk
 have HXL:Aside0 ((rd_T50 bs (i:Int)).f0.length≤16384):=⟨RP0.opLen_le i⟩
 have HX5:Aside0 (∀ q:Nat,(rd_T45 (rd_T50 bs (i:Int)).f0 (q:Int)).f5.length≤1000):=⟨fun q=>Nat.le_trans (RP0.opA (i,q)).2 (by decide)⟩
 have HTL:Aside0 ((tuseT (rd_T50 bs (i:Int)).f1).length≤1000000000000):=⟨by unfold tuseT;split<;>simp⟩
 have HCO:Aside0 (∀ q:Nat,q<(rd_T50 bs (i:Int)).f0.length→opsFrom bs i q=rd_T45 (rd_T50 bs (i:Int)).f0 (q:Int)::opsFrom bs i (q+1)):=⟨fun q hq=>opsFrom_cons hq⟩
 have HEN:Aside0 (opsFrom bs i (rd_T50 bs (i:Int)).f0.length=[]):=⟨opsFrom_nil bs i⟩
 have HOL:Aside0 (opLen bs i=(rd_T50 bs (i:Int)).f0.length):=⟨rfl⟩
 have HTU:Aside0 (r∈tuseT (rd_T50 bs (i:Int)).f1→Lv.At (gOf bs) r i (opLen bs i)):=⟨fun h=>.tuse h⟩
 have HSU:Aside0 (∀ t:Nat,(t:Int)∈succT (rd_T50 bs (i:Int)).f1→Lv.At (gOf bs) r t 0→Lv.At (gOf bs) r i (opLen bs i)):=⟨fun t ht ha=>.jump ht ha⟩
 have HSB:=ak_ (RP0.succ hi)
 have HLC:Aside0 (∀ M',scan r (opsFrom bs i k)=none→r∉tuseT (rd_T50 bs (i:Int)).f1→(∀ t:Nat,(t:Int)∈succT (rd_T50 bs (i:Int)).f1→met M' t=true)→Loc bs r M' i k):=⟨fun M' h1 h2 h3=>.inr ⟨h1,h2,h3⟩⟩
 have HSL:Aside0 (rd_L1 (succL bs) (i:Int)=succT (rd_T50 bs (i:Int)).f1):=⟨succL_at hi⟩
 generalize (rd_T50 bs (i:Int)).f0=xs at h0 l5 g5 hkl HXL HX5 HCO HEN HOL
 generalize (rd_T50 bs (i:Int)).f1=tm at h1 h2 h3 h4 HTL HTU HSU HSB HLC HSL
 have HKX:=ak_ hkl
 have hb1:=below_alloc (Below.refl w.heap.size w) (.cells #[.int .i64 p,.slice (some adb) bs.length c] 24)
 have h0:=pw_cell_below hb1 h0
 have h1:=pw_cell_below hb1 h1
 have h2:=pw_cell_below hb1 h2
 have h3:=pw_cell_below hb1 h3
 have h4:=pw_cell_below hb1 h4
 have HB2:=ak_ (below_alloc hb1 (.cells #[.slice A5 xs.length c5,.int .i64 tm.f0,.int .i64 tm.f1,.int .i64 tm.f2,.int .i64 tm.f3] 50))
 have hf2:=blk_alloc (blk_new w (.cells #[.int .i64 p,.slice (some adb) bs.length c] 24)) (.cells #[.slice A5 xs.length c5,.int .i64 tm.f0,.int .i64 tm.f1,.int .i64 tm.f2,.int .i64 tm.f3] 50)
 have hb2:=blk_new (w.alloc (.cells #[.int .i64 p,.slice (some adb) bs.length c] 24)) (.cells #[.slice A5 xs.length c5,.int .i64 tm.f0,.int .i64 tm.f1,.int .i64 tm.f2,.int .i64 tm.f3] 50)
 have HG5:=ak_ g5
 have c0:=blk_cell (blk_new w (.cells #[.int .i64 p,.slice (some adb) bs.length c] 24)) 0
 have c1:=blk_cell (blk_new w (.cells #[.int .i64 p,.slice (some adb) bs.length c] 24)) 1
 simp only [ga_,gb_,gc_] at c0 c1
 clear IH RP0 hC hc hg0 hbw hgM hm hML hn4 hk g5 l5 hb1 hgw
 go_enter Tryz.func84,Tryz.ntmps84
 go_wp2_with fail
 clear h0 h1 h2 h3 h4 c0 c1
 rw [World.size_alloc] at hb2
 obtain ⟨w2,hw2⟩:∃ w2,(w.alloc (.cells #[.int .i64 p,.slice (some adb) bs.length c] 24)).alloc (.cells #[.slice A5 xs.length c5,.int .i64 tm.f0,.int .i64 tm.f1,.int .i64 tm.f2,.int .i64 tm.f3] 50)=w2:=⟨_,rfl⟩
 rw [hw2] at HB2 hf2 hb2 ⊢
 clear hw2
 have HF2:=ak_ hf2
 have HBX:=ak_ hb2
 have HGS:Aside0 (g<w2.heap.size):=⟨Nat.lt_of_lt_of_le HGW.out HB2.out.size⟩
 clear hf2 hb2
 go_loopw [12] (fun v wr=>∃ q:Nat,k≤q∧q≤xs.length∧v=.int .i64 (q:Int)∧Aside0 (scan r (opsFrom bs i k)=scan r (opsFrom bs i q))∧Aside0 (Below w2.heap.size w2 wr)) (fun v _=>xs.length - (intOf v).toNat)
 case atStart=>exact ⟨k,Nat.le_refl _,hkl,rfl,⟨rfl⟩,⟨Below.refl _ _⟩⟩
 case round =>
  clear hkl
  obtain ⟨q,hkq,hq,rfl,HSC,HB⟩:=hrel
  have z0:=blk_cell (blk_below HBX.out HB.out) 0
  have z1:=blk_cell (blk_below HBX.out HB.out) 1
  have z2:=blk_cell (blk_below HBX.out HB.out) 2
  have z3:=blk_cell (blk_below HBX.out HB.out) 3
  have z4:=blk_cell (blk_below HBX.out HB.out) 4
  simp only [ga_,gb_,gc_] at z0 z1 z2 z3 z4
  have HBr:=ak_ (below_then HB2.out HB2.out.size HB.out)
  by_cases hlq:q<xs.length
  ·have b3:decide ((q:Int)<(xs.length:Int))=true:=decide_eq_true (Int.ofNat_lt.2 hlq)
   have hw6:wrap64 ((q:Int)+1)=(q:Int)+1:=inc63 hlq (Nat.le_trans HXL.out (by decide))
   obtain ⟨adk,A6,c6,eA,x0,x1,x2,x3,x4,x5,x6,x7⟩:=at_T45 (Kd.C_below HG5.out HBr.out) (q:Int) (Int.natCast_nonneg q) (Int.ofNat_lt.2 hlq)
   simp only [Int.toNat_natCast] at x0 x1 x2 x3 x4 x5
   subst eA
   have hco:=HCO.out q hlq
   have hX5:=HX5.out q
   generalize rd_T45 xs (q:Int)=X at x0 x1 x2 x3 x4 x5 x6 x7 hco hX5
   rw [hco,scan] at HSC
   have HUL:=ak_ (useX_12 X hX5)
   have HX12:Aside0 (X.f5.length≤1000000000000):=⟨Nat.le_trans hX5 (by decide)⟩
   have HX6:=ak_ x6
   have HX7:=ak_ x7
   have HKQ:=ak_ hkq
   clear x6 x7 hX5 hco hkq
   by_cases hu:r∈useX X
   ·have HU:Aside0 (decide (r∈useX X)=true):=⟨decide_eq_true hu⟩
    rw [if_pos hu] at HSC
    clear hu hq
    go_wp2_with (first
     | (go_at_call 66;refine (uses14_any X A6 c6 _ HX12.out HX7.out HX6.out).mono ?_;rintro e w3 ⟨A7,c7,rfl,k7,hC7,hb⟩;have HB3:=ak_ (below_then HBr.out HBr.out.size hb);have HK7:=ak_ k7;have HC7:=ak_ hC7;clear hb k7 hC7)
     | (go_at_call 55;refine (has17_any A7 c7 (useX X) r _ HC7.out HK7.out HUL.out).mono ?_;rintro e w4 ⟨rfl,hb⟩;rw [HU.out];have HB4:=ak_ (below_then HB3.out HB3.out.size hb);clear hb))
    go_ret
    exact ⟨true,M,rfl,blk_below HGM.out HB4.out,grown_of_below HB4.out _,rfl,fun _ h=>h,fun _=>scan_use (opLen bs i - k) k (by have:=HKX.out;have:=HOL.out;omega) HSC.out,(fun h=>by cases h)⟩
   ·have HU:Aside0 (decide (r∈useX X)=false):=⟨decide_eq_false hu⟩
    rw [if_neg hu] at HSC
    clear hu
    by_cases hs:setX X=r
    ·have b6:decide (setX X=r)=true:=decide_eq_true hs
     have b6b:(setX X == r)=true:=b6
     rw [if_pos hs] at HSC
     clear hs hq
     go_wp2_with (first
     | (have:=HB4;go_at_call 65;refine (sets14_any X A6 c6 _ (Kd.C_below HX7.out HBr4.out) HX6.out).mono ?_;rintro e w5 ⟨rfl,hb⟩;have HB5:=ak_ (below_then HB.out HB.out.size (below_then HBr4.out HBr4.out.size hb));have HB5w:=ak_ (below_then HB4.out HB4.out.size hb);clear hb)
     | (go_at_call 66;refine (uses14_any X A6 c6 _ HX12.out HX7.out HX6.out).mono ?_;rintro e w3 ⟨A7,c7,rfl,k7,hC7,hb⟩;have HBr3:=ak_ hb;have HB3:=ak_ (below_then HBr.out HBr.out.size hb);have HK7:=ak_ k7;have HC7:=ak_ hC7;clear hb k7 hC7)
     | (go_at_call 55;refine (has17_any A7 c7 (useX X) r _ HC7.out HK7.out HUL.out).mono ?_;rintro e w4 ⟨rfl,hb⟩;rw [HU.out];have HBr4:=ak_ (below_then HBr3.out HBr3.out.size hb);have HB4:=ak_ (below_then HB3.out HB3.out.size hb);have x0:=pw_cell_below HBr4.out x0;have x1:=pw_cell_below HBr4.out x1;have x2:=pw_cell_below HBr4.out x2;have x3:=pw_cell_below HBr4.out x3;have x4:=pw_cell_below HBr4.out x4;have x5:=pw_cell_below HBr4.out x5;have z0:=pw_cell_below HBr4.out z0;clear hb))
     go_ret
     exact ⟨false,M,rfl,blk_below HGM.out HB5w.out,grown_of_below HB5w.out _,rfl,fun _ h=>h,(fun h=>by cases h),fun _=>⟨.inl HSC.out,(fun j h1 h2=>by rw [h1] at h2;cases h2)⟩⟩
    ·have b6:decide (setX X=r)=false:=decide_eq_false hs
     have b6b:(setX X == r)=false:=b6
     rw [if_neg hs] at HSC
     clear hs hq
     have hkq:k≤q+1:=Nat.le_succ_of_le HKQ.out
     go_wp2_with (first
     | (have:=HB4;go_at_call 65;refine (sets14_any X A6 c6 _ (Kd.C_below HX7.out HBr4.out) HX6.out).mono ?_;rintro e w5 ⟨rfl,hb⟩;have HB5:=ak_ (below_then HB.out HB.out.size (below_then HBr4.out HBr4.out.size hb));have HB5w:=ak_ (below_then HB4.out HB4.out.size hb);clear hb)
     | (go_at_call 66;refine (uses14_any X A6 c6 _ HX12.out HX7.out HX6.out).mono ?_;rintro e w3 ⟨A7,c7,rfl,k7,hC7,hb⟩;have HBr3:=ak_ hb;have HB3:=ak_ (below_then HBr.out HBr.out.size hb);have HK7:=ak_ k7;have HC7:=ak_ hC7;clear hb k7 hC7)
     | (go_at_call 55;refine (has17_any A7 c7 (useX X) r _ HC7.out HK7.out HUL.out).mono ?_;rintro e w4 ⟨rfl,hb⟩;rw [HU.out];have HBr4:=ak_ (below_then HBr3.out HBr3.out.size hb);have HB4:=ak_ (below_then HB3.out HB3.out.size hb);have x0:=pw_cell_below HBr4.out x0;have x1:=pw_cell_below HBr4.out x1;have x2:=pw_cell_below HBr4.out x2;have x3:=pw_cell_below HBr4.out x3;have x4:=pw_cell_below HBr4.out x4;have x5:=pw_cell_below HBr4.out x5;have z0:=pw_cell_below HBr4.out z0;clear hb))
     go_roundw
     case rel=>exact ⟨q+1,hkq,hlq,by first|(rw [hw6];exact num_cast q)|(with_reducible exact num_cast q),HSC,HB5⟩
     case measure=>first|(rw [hw6];exact num_meas hlq)|(with_reducible exact num_meas hlq)
  ·have b3:decide ((q:Int)<(xs.length:Int))=false:=decide_eq_false (fun h=>hlq (Int.ofNat_lt.1 h))
   have hqe:q=xs.length:=Nat.le_antisymm hq (Nat.le_of_not_lt hlq)
   rw [hqe,HEN.out,scan] at HSC
   clear hqe
   have c0:=blk_cell (blk_below HF2.out HB.out) 0
   have c1:=blk_cell (blk_below HF2.out HB.out) 1
   simp only [ga_,gb_,gc_] at c0 c1
   by_cases ht:r∈tuseT tm
   ·have HU:Aside0 (decide (r∈tuseT tm)=true):=⟨decide_eq_true ht⟩
    have HAT:=ak_ (HTU.out ht)
    clear ht hq
    go_wp2_with (first
     | (go_at_call 67;refine (tuses14_any tm _).mono ?_;rintro e w3 ⟨A7,c7,rfl,k7,hC7,hb⟩;have HB3:=ak_ (below_then HBr.out HBr.out.size hb);have HK7:=ak_ k7;have HC7:=ak_ hC7;clear hb k7 hC7)
     | (go_at_call 55;refine (has17_any A7 c7 (tuseT tm) r _ HC7.out HK7.out HTL.out).mono ?_;rintro e w4 ⟨rfl,hb⟩;rw [HU.out];have HB4:=ak_ (below_then HB3.out HB3.out.size hb);clear hb))
    go_ret
    exact ⟨true,M,rfl,blk_below HGM.out HB4.out,grown_of_below HB4.out _,rfl,fun _ h=>h,fun _=>scan_pass HAT.out (opLen bs i - k) k (by have:=HKX.out;have:=HOL.out;omega) HSC.out,(fun h=>by cases h)⟩
   ·have HU:Aside0 (decide (r∈tuseT tm)=false):=⟨decide_eq_false ht⟩
    have HNT:=ak_ ht
    clear ht hq
    have HLS:Aside0 ((succL bs).length=bs.length):=⟨succL_length bs⟩
    go_wp2_with (first
     | (go_at_call 67;refine (tuses14_any tm _).mono ?_;rintro e w3 ⟨A7,c7,rfl,k7,hC7,hb⟩;have HBr3:=ak_ hb;have HK7:=ak_ k7;have HC7:=ak_ hC7;clear hb k7 hC7)
     | (go_at_call 55;refine (has17_any A7 c7 (tuseT tm) r _ HC7.out HK7.out HTL.out).mono ?_;rintro e w4 ⟨rfl,hb⟩;rw [HU.out];have HBr4:=ak_ (below_then HBr3.out HBr3.out.size hb);have c0:=pw_cell_below HBr4.out c0;have c1:=pw_cell_below HBr4.out c1;clear hb)
     | (go_at_call 54;refine (succ14_any p (some adb) c bs _ (Kd.C_below HC.out (below_then HBW.out HBW.out.size (below_then HBr.out HBr.out.size HBr4.out))) HCc.out (Nat.le_trans HN4.out (by decide))).mono ?_;rintro e w5 ⟨A8,c8,rfl,hr8,hb⟩;rw [HLS.out] at hr8 ⊢;have HR8:=ak_ hr8;have HB5:=ak_ (below_then HBr.out HBr.out.size (below_then HBr4.out HBr4.out.size hb));have HS4:=ak_ (show g<w4.heap.size from Nat.lt_of_lt_of_le HGW.out (below_then HBr.out HBr.out.size HBr4.out).size);have HF5:=ak_ (blk_below (blk_below HF2.out HB.out) (below_then HBr4.out HBr4.out.size hb));obtain ⟨ads,As,cs,eS,hs0,hs1,hs2⟩:=row_cell (show Kd.C (Kd.slice 3 (Kd.int .i64)) w5 A8 bs.length (succL bs) by have h:=(Kd.R_reads' hr8).2.2;rw [HLS.out] at h;exact h) hi HSL.out;subst eS;have HS0:=ak_ hs0;have HS2:=ak_ hs2;clear hb hr8 hs1 hs2 c0 c1))
    obtain ⟨sl,hsl⟩:∃ sl,succT tm=sl:=⟨_,rfl⟩
    have HROW:Aside0 (∀ wr,w5.grownBy wr (some g)→Kd.C (Kd.int .i64) wr As sl.length sl):=⟨fun wr hg=>by
     rw [← hsl]
     exact suc_row HR8.out HS4.out hi HSL.out HS0.out hg⟩
    rw [hsl] at HSU HSB HLC ⊢
    have HNF:Aside0 (w.heap.size≠g):=⟨fun e=>by have:=HGW.out;omega⟩
    clear hsl HR8 HS0 HS2 HF2 HBX HB HBr HBr3 HBr4 HK7 HC7 z0 z1 z2 z3 z4
    go_loopw [14] (fun v wr=>∃ (q:Nat) (M1:List Bool),q≤sl.length∧v=.int .i64 (q:Int)∧Aside0 (SucQ bs r M sl q M1)∧Aside0 (wr.heap[g]?=some (.cells (bl M1) 4 (0,0)))∧Aside0 (w5.grownBy wr (some g))) (fun v _=>sl.length - (intOf v).toNat)
    case atStart=>exact ⟨0,M,Nat.zero_le _,rfl,⟨SucQ.start bs r M sl⟩,⟨blk_below HGM.out HB5.out⟩,⟨grown_of_below (Below.refl _ _) _⟩⟩
    case round =>
     obtain ⟨q,M1,hq,rfl,HSQ,HM1,HG⟩:=hrel
     by_cases hlq:q<sl.length
     ·have b3:decide ((q:Int)<(sl.length:Int))=true:=decide_eq_true (Int.ofNat_lt.2 hlq)
      have hCr:=HROW.out wr HG.out
      have hw6:wrap64 ((q:Int)+1)=(q:Int)+1:=inc63 hlq hCr.2.1
      obtain ⟨adq,eQ,hcq⟩:=Kd.at_int hCr (q:Int) (Int.natCast_nonneg q) (Int.ofNat_lt.2 hlq)
      rw [Int.toNat_natCast] at hcq
      have hmem:rd sl (q:Int)∈sl:=by rw [rd_mem hlq];exact List.getElem_mem _
      have hsb:=HSB.out (rd sl (q:Int)) hmem
      obtain ⟨t,ht⟩:∃ t:Nat,rd sl (q:Int)=(t:Int):=⟨_,(Int.toNat_of_nonneg hsb.1).symm⟩
      rw [ht] at hcq hsb hmem
      have HT:=ak_ ht
      have HMEM:=ak_ hmem
      subst eQ
      have htn:t<bs.length:=by omega
      have htM:t<M1.length:=by rw [HSQ.out.len,HML.out];exact htn
      have HTM:=ak_ htM
      have HTN:=ak_ htn
      have b4:decide ((t:Int)<(bs.length:Int))=true:=decide_eq_true (Int.ofNat_lt.2 htn)
      have m0:=(blk_cell HM1.out t).trans (bl_get htM)
      have mf:=fz_ HM1 t
      clear hCr hsb hmem ht htM
      cases hm1:met M1 t with
      | true =>
       rw [hm1] at m0
       have HQ2:=ak_ (HSQ.out.cont HT.out hm1)
       clear hm1
       go_wp2_with fail
       go_roundw
       case rel=>exact ⟨q+1,M1,hlq,by first|(rw [hw6];exact num_cast q)|(with_reducible exact num_cast q),HQ2,HM1,HG⟩
       case measure=>first|(rw [hw6];exact num_meas hlq)|(with_reducible exact num_meas hlq)
      | false =>
       rw [hm1] at m0
       have HM2:Aside0 ((wr.setCell ⟨g,t,none⟩ (.bool true)).heap[g]?=some (.cells (bl (M1.set t true)) 4 (0,0))):=⟨by rw [← bl_set];exact blk_set HM1.out t (.bool true)⟩
       have HG2:Aside0 (w5.grownBy (wr.setCell ⟨g,t,none⟩ (.bool true)) (some g)):=⟨grown_then HG.out (grown_set wr g t (.bool true)) (.inl rfl)⟩
       have HLF:Aside0 (left (M1.set t true)<m):=⟨by
        have h1:=left_set M1 t HTM.out hm1
        have h2:=left_le M M1 HSQ.out.len HSQ.out.more
        have h3:=HLM.out
        omega⟩
       obtain ⟨adq2,eQ2,e0⟩:=Kd.at_int (HROW.out _ HG2.out) (q:Int) (Int.natCast_nonneg q) (Int.ofNat_lt.2 hlq)
       obtain rfl:=Option.some.inj eQ2
       rw [Int.toNat_natCast,HT.out] at e0
       have f0:=blk_cell (blk_grown HF5.out HG2.out (fun e=>HNF.out (by injection e))) 0
       have f1:=blk_cell (blk_grown HF5.out HG2.out (fun e=>HNF.out (by injection e))) 1
       simp only [ga_,gb_,gc_] at f0 f1
       clear hm1 eQ2
       go_wp2_with fail
       obtain ⟨W,hW⟩:∃ W,wr.setCell ⟨g,t,none⟩ (.bool true)=W:=⟨_,rfl⟩
       rw [hW] at HM2 HG2 e0 f0 f1 ⊢
       clear hW m0 mf hcq b4
       refine wp_region_rel 7 (fun _=>none) (fun _=>[]) (fun _ _ _=>True) (fun wq=>Below W.heap.size W wq) (fun a b=>Below a.heap.size a b) (by kernel_rfl) (by kernel_rfl) (below_drew (Below.refl _ _)) (fun a b h k=>below_then h h.size k) (fun _ _ _ _ h _=>h) ?_
       simp only [List.take_succ_cons,List.take_zero,List.drop_succ_cons,List.drop_zero]
       iterate 7 (apply relQ_step rfl;apply Exists.intro;constructor;(focus (intro wq hwq;have e0:=pw_cell_below hwq e0;have f0:=pw_cell_below hwq f0;have f1:=pw_cell_below hwq f1;unfold Yl;go_wp2_with fail;exact ⟨rfl,_,rfl,rfl,Below.refl _ _⟩));(try simp only [Act.put,pa_,pb_,pc_]))
       refine relQ_nil (fun xx=>?_)
       repeat (refine relL_quiet rfl ?_)
       refine relL_nil (fun w13 hw13 _=>?_)
       have HBD:=ak_ hw13
       have HBW0:=ak_ (pw_below_grown (below_then HBW.out HBW.out.size HB5.out) (some g) (Nat.le_trans HBW.out.size HB5.out.size) HG2.out (fun k e=>by cases e;exact HG0.out))
       have HIN:=ak_ (HIH.out (left (M1.set t true)) HLF.out (M1.set t true) t 0 w13 (Nat.le_refl _) (by rw [List.length_set,HSQ.out.len,HML.out]) HTN.out (Nat.zero_le _) (below_then HBW0.out HBW0.out.size HBD.out) (blk_below HM2.out HBD.out))
       clear hw13 e0 f0 f1
       go_wp2_with fail
       refine (HIN.out).mono ?_
       rintro e w14 ⟨b',M2,rfl,hM2,hg2,hq2⟩
       have HM14:=ak_ hM2
       have HG14:=ak_ (grown_then (grown_then HG2.out (grown_of_below HBD.out (some g)) (.inl rfl)) hg2 (.inl rfl))
       have HQ14:=ak_ hq2
       clear hM2 hg2 hq2
       cases b' with
       | true =>
        go_wp2_with fail
        go_ret
        refine ⟨true,M2,rfl,HM14.out,grown_then (grown_of_below HB5.out (some g)) HG14.out (.inl rfl),?_,fun u hu=>?_,fun _=>?_,fun h=>by cases h⟩
        ·rw [HQ14.out.len,List.length_set];exact HSQ.out.len
        ·exact HQ14.out.more u (by rw [met_set _ _ _ HTM.out];split;rfl;exact HSQ.out.more u hu)
        ·exact scan_pass (HSU.out t HMEM.out (HQ14.out.yes rfl)) (opLen bs i - k) k (by have:=HKX.out;have:=HOL.out;omega) HSC.out
       | false =>
        have HQ2:=ak_ (HSQ.out.call HT.out HTM.out HQ14.out)
        go_wp2_with fail
        go_roundw
        case rel=>exact ⟨q+1,M2,hlq,by first|(rw [hw6];exact num_cast q)|(with_reducible exact num_cast q),HQ2,HM14,HG14⟩
        case measure=>first|(rw [hw6];exact num_meas hlq)|(with_reducible exact num_meas hlq)
     ·have b3:decide ((q:Int)<(sl.length:Int))=false:=decide_eq_false (fun h=>hlq (Int.ofNat_lt.1 h))
      have hqe:q=sl.length:=Nat.le_antisymm hq (Nat.le_of_not_lt hlq)
      have HDN:Aside0 (∀ t:Nat,(t:Int)∈sl→met M1 t=true):=⟨fun t ht=>by
       obtain ⟨u,hu,e⟩:=List.getElem_of_mem ht
       have h1:=HSQ.out.done u (by rw [hqe];exact hu)
       rw [rd_mem hu,e,Int.toNat_natCast] at h1
       exact h1⟩
      clear hqe
      go_wp2_with fail
      go_ret
      exact ⟨false,M1,rfl,HM1.out,grown_then (grown_of_below HB5.out (some g)) HG.out (.inl rfl),HSQ.out.len,HSQ.out.more,(fun h=>by cases h),fun _=>⟨HLC.out M1 HSC.out HNT.out HDN.out,HSQ.out.seen⟩⟩
/-! ### swageref17.at -/
/-- make([]T,m): the world,written out. -/
theorem wpl_makeW {P:Program} (w:World) {ops:Array Oper} {rest:List Oper} {o:Oper} {a:Act} {Q:Exit→Act→World→Prop}
  (hg:o.guard=none) (l c:Operand) (t:TypeId) (hop:o.op=Op.makeSlice t l c) (e:TypeId) (z:Value) (sz bytes:Nat) (ht:P.underlying t=some (.slice e)) (hinfo:(P.info? e).map (fun i=>(i.zero,i.size,i.bytes))=some (some z,sz,bytes)) (hb0:0<bytes)
  (m:Nat) (hl:a.eval l=.int .i64 (m:Int)) (hc:a.eval c=.int .i64 (m:Int)) (hm:m*bytes≤281474976710656)
  (hK:wpList P ops Q rest (a.put o.dst (.slice (some ⟨w.heap.size,0,none⟩) m m)) (w.alloc (.cells (madeCells z.cells (m*sz)) e))) :
  wpList P ops Q (o::rest) a w:=by
 obtain ⟨i0,hi,hzz⟩:=Option.map_eq_some_iff.1 hinfo
 simp only [Prod.mk.injEq] at hzz
 obtain ⟨hz0,hz1,hz2⟩:=hzz
 have hmm:m≤281474976710656:=Nat.le_trans (Nat.le_mul_of_pos_right _ hb0) hm
 have hr:=run_make (P:=P) w t e i0 z ht hi hz0 .i64 .i64 (m:Int) (m:Int) (by omega) (by omega)
  (by
   have h3:((i0.bytes*m:Nat):Int)≤281474976710656:=by rw [hz2,Nat.mul_comm];omega
   rwa [Int.natCast_mul] at h3) (by omega)
 simp only [Int.toNat_natCast] at hr
 rw [hz1] at hr
 refine wpList_plain hg fun K hK'=>?_
 unfold Oper.wp
 simp [execOp,hop,hl,hc,hr,Result.andThen]
 exact hK' _ _ hK
theorem info4:(Tryz.prog.info? 4).map (fun i=>(i.zero,i.size,i.bytes))=some (some (.bool false),1,1):=by kernel_rfl
theorem made_bl (n:Nat):madeCells #[Value.bool false] (n*1)=bl (List.replicate n false):=by
 unfold bl
 rw [Nat.mul_one,List.map_replicate]
 apply Array.ext'
 simp only [madeCells,Array.toList_ofFn]
 apply List.ext_getElem
 ·simp
 ·intro j h1 h2
  simp [Nat.mod_one]
/-- What the loud of at's test tell. -/
def R51 (n B:Nat) (k:Nat) (vs:List Value) (w' : World):Prop :=
 if k=7 then ∃ g,vs=[.slice (some ⟨g,0,none⟩) n n]∧B≤g∧w'.heap[g]?=some (.cells (bl (List.replicate n false)) 4 (0,0)) else True
theorem R51.below {n B k:Nat} {vs:List Value} {w' w2:World} (h:R51 n B k vs w') (hb:Below w'.heap.size w' w2):R51 n B k vs w2:=by
 unfold R51 at h ⊢
 split at h
 ·rename_i h1
  rw [if_pos h1]
  obtain ⟨g,e,hB,h⟩:=h
  exact ⟨g,e,hB,blk_below h hb⟩
 ·rename_i h1
  rw [if_neg h1]
  trivial
/-- The first m registers,as far as they are live. -/
noncomputable def upTo (bs:List S50) (i k m:Nat):List Int:=((List.range m).map fun j:Nat=>(j:Int)+1).filter fun r=>@decide (Lv.At (gOf bs) r i k) (Classical.propDecidable _)
theorem upTo_yes {bs:List S50} {i k m:Nat} (h:Lv.At (gOf bs) ((m:Int)+1) i k):upTo bs i k (m+1)=upTo bs i k m++[(m:Int)+1]:=by
 unfold upTo
 rw [List.range_succ,List.map_append,List.filter_append]
 simp [h]
theorem upTo_no {bs:List S50} {i k m:Nat} (h:¬ Lv.At (gOf bs) ((m:Int)+1) i k):upTo bs i k (m+1)=upTo bs i k m:=by
 unfold upTo
 rw [List.range_succ,List.map_append,List.filter_append]
 simp [h]
theorem upTo_len (bs:List S50) (i k m:Nat):(upTo bs i k m).length≤m:=by
 unfold upTo
 refine Nat.le_trans (List.length_filter_le _ _) ?_
 simp
theorem upTo_all {p:Int} {bs:List S50} {fn:Int} (h:RightP p bs fn) {i k m:Nat} (hm:(m:Int)=topR p bs):upTo bs i k m=liveRow bs i k:=by
 refine liveRow_eq h ((regs_rise m).sublist List.filter_sublist) (fun r=>?_)
 unfold upTo
 rw [List.mem_filter,mem_regs]
 constructor
 ·rintro ⟨_,h2⟩
  simpa using h2
 ·intro ha
  refine ⟨?_,by simpa using ha⟩
  have h1:=h.at_reg ha
  have h2:=live_top h ha
  omega
theorem regs14_any (p:Int) (A:Option Addr) (c:Nat) (bs:List S50) (w:World) (RP:RightP p bs 256) (hC:Kd.C k50 w A bs.length bs) (hc:bs.length≤c) :
  Calls Tryz.prog 38 #[.agg #[.int .i64 p,.slice A bs.length c]] w fun e w'=>e=.returned (.int .i64 (topR p bs))∧Below w.heap.size w w':=by
 obtain ⟨k,hk⟩:=r14_regs p bs (Nat.le_trans RP.len.2 (by decide)) (fun i=>Nat.le_trans (RP.opLen_le i) (by decide)) (fun q=>Nat.le_trans (RP.opA q).2 (by decide))
 exact swageref14_Regs.calls k p A c bs _ w hC hc (hk k (Nat.le_refl _))
theorem set_le {p:Int} {bs:List S50} {fn:Int} (h:RightP p bs fn) {i k:Nat} (hk:k<(rd_T50 bs (i:Int)).f0.length):setX (opOf bs (i,k))≤4096:=by
 by_cases hi:i<bs.length
 ·have h1:=(ropX_parts (h.op i k hi hk)).2.1
  unfold setX
  split
  ·rename_i hs
   exact (fld_reg h1 hs).2
  ·decide
 ·have e:rd_T50 bs (i:Int)=z50:=by
   unfold rd_T50
   rw [List.getD_eq_getElem?_getD,Int.toNat_natCast,List.getElem?_eq_none (by omega)]
   rfl
  rw [e] at hk
  exact absurd hk (Nat.not_lt_zero _)
theorem top_le {p:Int} {bs:List S50} {fn:Int} (h:RightP p bs fn):topR p bs≤4096:=by
 have key:∀ (l:List Int) (z:Int),z≤4096→(∀ r∈l,r≤4096)→l.foldl max z≤4096:=by
  intro l
  induction l with
  | nil=>exact fun z hz _=>hz
  | cons a l ih=>exact fun z hz hl=>ih (max z a) (by have:=hl a List.mem_cons_self;omega) (fun r hr=>hl r (List.mem_cons_of_mem _ hr))
 have hU:∀ m i r,r∈allU bs m i→r≤4096:=by
  intro m
  induction m with
  | zero=>exact fun i r hr=>by cases hr
  | succ m ih =>
   intro i r hr
   rcases List.mem_append.1 hr with hr|hr
   ·rcases List.mem_append.1 hr with hr|hr
    ·obtain ⟨x,hx,hr⟩:=List.mem_flatMap.1 hr
     obtain ⟨k,hk,e⟩:=List.getElem_of_mem hx
     have ho:opOf bs (i,k)=x:=(rd45' hk).trans e
     rcases List.mem_cons.1 hr with hr|hr
     ·have:=set_le h (i:=i) (k:=k) hk
      rw [ho] at this
      omega
     ·have:=(h.opA (i,k)).1 r (by rw [ho];exact hr)
      omega
    ·have:=h.tuseA i r hr
     omega
   ·exact ih (i+1) r hr
 exact key _ _ (by have:=h.par;omega) (hU _ _)
theorem at_meas {m T:Nat} (h:m<T):T+1 - (intOf (.int .i64 ((m:Int)+1+1))).toNat<T+1 - (intOf (.int .i64 ((m:Int)+1))).toNat:=by
 show T+1 - ((m:Int)+1+1).toNat<T+1 - ((m:Int)+1).toNat
 omega
set_option maxHeartbeats 16000000 in
set_option maxRecDepth 100000 in
theorem at17_ok (p:Int) (A:Option Addr) (c:Nat) (bs:List S50) (i k:Nat) (w:World) (RP0:RightP p bs 256) (hC:Kd.C k50 w A bs.length bs) (hc:bs.length≤c) (hi:i<bs.length) (hk:k≤opLen bs i) :
  Calls Tryz.prog 51 #[.agg #[.int .i64 p,.slice A bs.length c],.int .i64 (i:Int),.int .i64 (k:Int)] w fun e w'=>∃ v,e=.returned v∧Kd.R (Kd.int .i64) 3 w' w.heap.size (fun _=>True) v (liveRow bs i k)∧Below w.heap.size w w':=by
 have RP:=ak_ RP0
 have HC:=ak_ hC
 have HCc:=ak_ hc
 have HI:=ak_ hi
 have HK:=ak_ hk
 have hn4:=RP0.len.2
 have hu24:=Tryz.underlying24
 have hu107:=Tryz.underlying107
 have HB0:=ak_ (below_alloc (Below.refl w.heap.size w) (.cells #[.int .i64 p,.slice A bs.length c] 24))
 have HF0:=ak_ (blk_new w (.cells #[.int .i64 p,.slice A bs.length c] 24))
 obtain ⟨T,hT⟩:∃ T:Nat,(T:Int)=topR p bs:=⟨(topR p bs).toNat,Int.toNat_of_nonneg (topR_nonneg p bs)⟩
 have HT:=ak_ hT
 have hTl:T≤4096:=by have:=top_le RP0;omega
 have HUL:=ak_ (fun m=>upTo_len bs i k m)
 have HALL:=ak_ (upTo_all RP0 (i:=i) (k:=k) hT)
 have c0:=bc_ HF0 0
 have c1:=bc_ HF0 1
 simp only [ga_,gb_,gc_] at c0 c1
 clear RP0 hC hc hi hk hT
 go_enter Tryz.func51,Tryz.ntmps51
 go_wp2_with (go_at_call 38;refine (regs14_any p A c bs _ RP.out (Kd.C_below HC.out HB0.out) HCc.out).mono ?_;rintro e w1 ⟨rfl,hb⟩;rw [← HT.out];have HB1:=ak_ (below_then HB0.out HB0.out.size hb);have HF1:=ak_ (blk_below HF0.out hb);clear c0 c1 hb)
 go_loopw [7,9] (fun v i' wr=>∃ m:Nat,m≤T∧i'=.int .i64 ((m:Int)+1)∧Aside0 (wr.ownsRow w1.heap.size 3 1 v (upTo bs i k m).length (nums .i64 (upTo bs i k m)))∧Aside0 (Below w1.heap.size w1 wr)) (fun _ i' _=>T+1 - (intOf i').toNat)
 case atStart=>exact ⟨0,Nat.zero_le _,rfl,⟨own_nil _ _ _ _⟩,⟨Below.refl _ _⟩⟩
 case round =>
  obtain ⟨m,hm,rfl,HO,HB⟩:=hrel
  have c0:=blk_cell (blk_below HF1.out HB.out) 0
  have c1:=blk_cell (blk_below HF1.out HB.out) 1
  simp only [ga_,gb_,gc_] at c0 c1
  by_cases hlt:m<T
  ·have b1:decide ((m:Int)+1≤(T:Int))=true:=decide_eq_true (by omega)
   have b1p:(m:Int)+1≤(T:Int):=by omega
   have hw1:wrap64 ((m:Int)+1+1)=((m+1:Nat):Int)+1:=by
    unfold wrap64
    omega
   have HLT:=ak_ hlt
   have hHm:=HUL.out m
   go_wp2_with fail
   refine wp_region_rel 8 (fun k=>if k=7 then some [] else none) (fun k=>[k]) (R51 bs.length wr.heap.size) (fun w'=>Below wr.heap.size wr w') (fun a b=>Below a.heap.size a b) (by kernel_rfl) (by kernel_rfl) (below_drew (Below.refl _ _)) (fun a b h k=>below_then h h.size k) (fun _ _ _ _ h hb=>h.below hb) ?_
   simp only [List.take_succ_cons,List.take_zero,List.drop_succ_cons,List.drop_zero]
   iterate 8 (first|(refine relQ_loud rfl ?_)|(apply relQ_step rfl;apply Exists.intro;constructor;(focus (intro w' hw';have c0:=pw_cell_below hw' c0;have c1:=pw_cell_below hw' c1;unfold Yl;go_wp2_with fail;exact ⟨rfl,_,rfl,rfl,Below.refl _ _⟩));(try simp only [Act.put,pa_,pb_,pc_])))
   refine relQ_nil (fun xx=>?_)
   repeat (refine relL_quiet rfl ?_)
   refine relL_loud rfl (fun w' hw' _=>?_) ?_
   ·unfold Yl
    refine wpl_makeW _ rfl _ _ 107 rfl 4 (.bool false) 1 1 Tryz.underlying107 info4 (by decide) bs.length rfl rfl (by omega) ?_
    refine ⟨rfl,_,rfl,below_alloc (Below.refl _ _) _,?_⟩
    unfold R51
    rw [if_pos rfl]
    exact ⟨w'.heap.size,by simp,hw'.size,by rw [show madeCells (Value.bool false).cells (bs.length*1)=bl (List.replicate bs.length false) from made_bl bs.length];exact blk_new w' _⟩
   (try simp only [Act.put,pa_,pb_,pc_])
   refine relL_nil (fun w2 hw2 hRR=>?_)
   have r7:=hRR 7 (by decide) rfl
   unfold R51 at r7
   rw [if_pos rfl] at r7
   obtain ⟨g,e7,hBg,hg⟩:=r7
   have e7:xx 7=.slice (some ⟨g,0,none⟩) bs.length bs.length:=by simpa using e7
   rw [e7]
   have HB2:=ak_ (below_then HB.out HB.out.size hw2)
   have HO2:=ak_ (pw_own_below HO.out hw2)
   have hBW:=below_then HB1.out HB1.out.size HB2.out
   have HBW:=ak_ hBW
   have HSZ:Aside0 (w1.heap.size≤wr.heap.size):=⟨HB.out.size⟩
   have HWG:Aside0 (w.heap.size≤g∧w1.heap.size≤g):=⟨by have h1:=HB1.out.size;have h2:=HB.out.size;omega,by have h2:=HB.out.size;omega⟩
   have HIN:=ak_ (reads_ok p A c bs ((m:Int)+1) RP.out HCc.out w HC.out g HWG.out.1 (left (List.replicate bs.length false)) (List.replicate bs.length false) i k w2 (Nat.le_refl _) (by simp) HI.out HK.out hBW hg)
   have HNE:Aside0 (u7.ownBlock≠some g):=⟨fun e=>by
    obtain ⟨cells,hc⟩:=own_typed HO2.out g e
    rw [hg] at hc
    injection hc with hc
    injection hc with h1 h2 h3
    cases h2⟩
   clear hRR e7 hw2 c0 c1 hBW hg hBg
   go_wp2_with fail
   refine (HIN.out).mono ?_
   rintro e w3 ⟨b',M2,rfl,hM2,hg2,hq2⟩
   have HQ:=ak_ (reads_all hq2)
   have HB3:=ak_ (pw_below_grown HB2.out (some g) HB2.out.size hg2 (fun k e=>by cases e;exact HWG.out.2))
   have HO3:Aside0 (w3.ownsRow w1.heap.size 3 1 u7 (upTo bs i k m).length (nums .i64 (upTo bs i k m))):=⟨own_other HO2.out hg2 (.inr HNE.out)⟩
   clear hM2 hg2 hq2
   cases b' with
   | false =>
    have HU:Aside0 (upTo bs i k (m+1)=upTo bs i k m):=⟨upTo_no (fun h=>by have:=HQ.out.2 h;cases this)⟩
    go_wp2_with fail
    go_roundw
    case rel=>exact ⟨m+1,HLT.out,by first|(with_reducible rfl)|rw [Int.natCast_succ]|rw [hw1],⟨by rw [HU.out];exact HO3.out⟩,HB3⟩
    case measure=>first|exact at_meas HLT.out|(rw [hw1];exact at_meas HLT.out)
   | true =>
    have HU:Aside0 (upTo bs i k (m+1)=upTo bs i k m++[(m:Int)+1]):=⟨upTo_yes (HQ.out.1 rfl)⟩
    have HLB:Aside0 ((upTo bs i k m).length≤4096):=⟨by omega⟩
    obtain ⟨L,hL⟩:∃ L,upTo bs i k m=L:=⟨_,rfl⟩
    rw [hL] at HU HLB HO3
    clear hL hHm
    go_wp2_with (at_builtin;refine print_append_num w1.heap.size rfl _ _ 31 3 .i64 8 rfl Tryz.underlying31 (by kernel_rfl) (by decide) u7 L ((m:Int)+1) rfl rfl HO3.out HB3.out HB3.out.size (by have:=HLB.out;omega) ?_;intro v1 w5 hown hB1 hg1 hat;have HO5:=ak_ hown;have HB5:=ak_ hB1;clear hown hB1 hg1 hat)
    go_roundw
    case rel=>exact ⟨m+1,HLT.out,by first|(with_reducible rfl)|rw [Int.natCast_succ]|rw [hw1],⟨by rw [HU.out];exact HO5.out⟩,HB5⟩
    case measure=>first|exact at_meas HLT.out|(rw [hw1];exact at_meas HLT.out)
  ·have b1:decide ((m:Int)+1≤(T:Int))=false:=decide_eq_false (by omega)
   have b1p:¬ (m:Int)+1≤(T:Int):=by omega
   have hme:m=T:=by omega
   rw [hme,HALL.out] at HO
   clear hme
   go_wp2_with fail
   go_ret
   exact ⟨_,rfl,Kd.R_lower (Kd.R_of_own HO.out (fun _ _=>trivial)) HB1.out.size,below_then HB1.out HB1.out.size HB.out⟩
end Go.Proofs.YtnkgbnbbmcoiiaaGreat.S
namespace Go.Proofs.YtnkgbnbbmcoiiaaGreat.S
open Go.RowKit Go.IM Go.Proofs.YtnkgbnbbmcoiiaaGreatW.PrintWords Go.Proofs.YtnkgbnbbmcoiiaaGreatW.PrintLast Go.Proofs.YtnkgbnbbmcoiiaaGreatW.PrintMore
set_option linter.unusedVariables false
/-! ### swageref17.at,as the print takes it -/
open Classical in
/-- at,of a right function and a place of it. -/
noncomputable def swageref17_at.f (p:Int) (bs:List S50) (i k:Int):Option (List Int):=if rightF p bs 256=true∧0≤i∧i<(bs.length:Int)∧0≤k∧k≤(opLen bs i.toNat:Int) then some (liveRow bs i.toNat k.toNat) else none
theorem swageref17_at.calls (p:Int) (A:Option Addr) (c:Nat) (bs:List S50) (i k:Int) (r:List Int) (w:World) (hC:Kd.C k50 w A bs.length bs) (hc:bs.length≤c) (h:swageref17_at.f p bs i k=some r) :
  Calls Tryz.prog 51 #[.agg #[.int .i64 p,.slice A bs.length c],.int .i64 i,.int .i64 k] w fun e w'=>∃ v,e=.returned v∧Kd.R (Kd.int .i64) 3 w' w.heap.size (fun _=>True) v r∧Below w.heap.size w w':=by
 unfold swageref17_at.f at h
 split at h
 ·rename_i hh
  obtain ⟨hR,h1,h2,h3,h4⟩:=hh
  injection h with h
  subst h
  have:=at17_ok p A c bs i.toNat k.toNat w (rightF_iff hR) hC hc (by omega) (by omega)
  rw [Int.toNat_of_nonneg h1,Int.toNat_of_nonneg h3] at this
  exact this
 ·cases h
theorem swageref17_at.is {p:Int} {bs:List S50} (hR:rightF p bs 256=true) {i k:Nat} (hi:i<bs.length) (hk:k≤opLen bs i):swageref17_at.f p bs (i:Int) (k:Int)=some (liveRow bs i k):=by
 unfold swageref17_at.f
 rw [if_pos ⟨hR,Int.natCast_nonneg i,Int.ofNat_lt.2 hi,Int.natCast_nonneg k,by rw [Int.toNat_natCast];exact Int.ofNat_le.2 hk⟩]
 rw [Int.toNat_natCast,Int.toNat_natCast]
