import Derived.Test.YtnkgbnbbmcoiiaaGreatBk
import Derived.Test.YtnkgbnbbmcoiiaaGreatLap17
import Derived.Test.YtnkgbnbbmcoiiaaGreatOdead17
import Derived.Test.YtnkgbnbbmcoiiaaGreatLsm17
import Derived.Deep.LoopGhost
import Derived.Test.YtnkgbnbbmcoiiaaGreatRfz
import Derived.Test.YtnkgbnbbmcoiiaaGreatLtz
import Derived.Test.YtnkgbnbbmcoiiaaGreatOrterm
import Derived.Test.YtnkgbnbbmcoiiaaGreatS8
namespace Go.Proofs.YtnkgbnbbmcoiiaaGreat.S
open Go.RowKit Go.IM Go.Proofs.YtnkgbnbbmcoiiaaGreatW.PrintWords Go.Proofs.YtnkgbnbbmcoiiaaGreatW.PrintLast Go.Proofs.YtnkgbnbbmcoiiaaGreatW.PrintMore
set_option linter.unusedVariables false
set_option linter.unusedSimpArgs false
/-! ### swageref17.Sweep of a function that is not right -/
theorem C_of_R_far {w w' : World} {base:Nat} {A:Option Addr} {c:Nat} {bs:List S50} (h:Kd.R k50 50 w base (fun _=>True) (.slice A bs.length c) bs) (hk:∀ k,base≤k→k<w.heap.size→w'.heap[k]?=w.heap[k]?):Kd.C k50 w' A bs.length bs:=by
 have hb:=Kd.R_bound h
 have h':=Kd.R_move (w1:=w') hb (fun k hk'=>by
  obtain ⟨h1,h2,_,q,_,cells,hc⟩:=hk'
  exact hk k h2 (blk_lt hc))
 exact (Kd.R_reads' h').2.2
set_option maxHeartbeats 8000000 in
set_option maxRecDepth 100000 in
theorem rsweep_bad (p:Int) (A:Option Addr) (c:Nat) (bs:List S50) (w:World) (hF:Fits bs) (hR:rightF p bs 256=false) (hC:Kd.C k50 w A bs.length bs) (hc:bs.length≤c) :
  Calls Tryz.prog 33 #[.agg #[.int .i64 p,.slice A bs.length c]] w fun e w'=>∃ A' c',e=.returned (.agg #[.int .i64 p,.slice A' bs.length c'])∧bs.length≤c'∧Kd.C k50 w' A' bs.length bs∧Below w.heap.size w w':=by
 have hu24:=Tryz.underlying24
 have HR:=ak_ hR
 have HFT:=ak_ hF
 obtain ⟨kc,hkc⟩:=r14_copy p bs hF
 have HKC:=ak_ (hkc kc (Nat.le_refl _))
 have HCc:=ak_ hc
 have hbA:=below_alloc (below_alloc (Below.refl w.heap.size w) (.cells #[.int .i64 p,.slice A bs.length c] 24)) (.cells #[.int .i64 0,.slice none 0 0] 24)
 have hx1:=blk_alloc (blk_new w (.cells #[.int .i64 p,.slice A bs.length c] 24)) (.cells #[.int .i64 0,.slice none 0 0] 24)
 have hx2:=blk_new (w.alloc (.cells #[.int .i64 p,.slice A bs.length c] 24)) (.cells #[.int .i64 0,.slice none 0 0] 24)
 have hsz:((w.alloc (.cells #[.int .i64 p,.slice A bs.length c] 24)).alloc (.cells #[.int .i64 0,.slice none 0 0] 24)).heap.size=w.heap.size+2:=by rw [World.size_alloc,World.size_alloc]
 rw [World.size_alloc] at hx2
 have HCA:=ak_ (Kd.C_below hC hbA)
 have HBA:=ak_ hbA
 have HX1:=ak_ hx1
 have HX2:=ak_ hx2
 have HSZ:=ak_ hsz
 clear hC hR hF hc hkc hbA hx1 hx2 hsz
 go_enter Tryz.func33,Tryz.ntmps33
 go_wp2_with (go_at_call 8;refine (swageref14_Copy.calls kc p A c bs p bs _ HCA.out HCc.out HKC.out).mono ?_;rintro e w1 ⟨v,rfl,hr,hb⟩;obtain ⟨A1,c1,rfl⟩:=Kd.R_slice hr;have HRR:=ak_ hr;have HB1:=ak_ (below_then HBA.out HBA.out.size hb);have HX11:=ak_ (blk_below HX1.out hb);have HX21:=ak_ (blk_below HX2.out hb);have s0:=bc_ HX11 0;have s1:=bc_ HX11 1;have f0:=fz_ HX11 0;have f1:=fz_ HX11 1;simp only [ga_,gb_,gc_] at s0 s1;clear hr hb)
 clear s0 s1 f0 f1
 have hX1:((w1.setCell ⟨w.heap.size,0,none⟩ (.int .i64 p)).setCell ⟨w.heap.size,1,none⟩ (.slice A1 bs.length c1)).heap[w.heap.size]?=some (.cells #[.int .i64 p,.slice A1 bs.length c1] 24 (0,0)):=blk_set (blk_set HX11.out 0 (.int .i64 p)) 1 (.slice A1 bs.length c1)
 have hX2:=blk_far (blk_far HX21.out (p:=⟨w.heap.size,0,none⟩) (by simp) (.int .i64 p)) (p:=⟨w.heap.size,1,none⟩) (by simp) (.slice A1 bs.length c1)
 have hB:=below_set (below_set HB1.out ⟨w.heap.size,0,none⟩ (.int .i64 p) (Nat.le_refl _)) ⟨w.heap.size,1,none⟩ (.slice A1 bs.length c1) (Nat.le_refl _)
 have hRR:Kd.R k50 50 ((w1.setCell ⟨w.heap.size,0,none⟩ (.int .i64 p)).setCell ⟨w.heap.size,1,none⟩ (.slice A1 bs.length c1)) (w.heap.size+2) (fun _=>True) (.slice A1 bs.length c1) bs:=by
  have hr:=HRR.out
  rw [HSZ.out] at hr
  refine Kd.R_mono (Kd.R_move (w1:=(w1.setCell ⟨w.heap.size,0,none⟩ (.int .i64 p)).setCell ⟨w.heap.size,1,none⟩ (.slice A1 bs.length c1)) (Kd.R_bound hr) (fun k hk'=>?_)) (fun k h=>trivial)
  obtain ⟨h1,h2,_⟩:=hk'
  have h2:w.heap.size+2≤k:=h2
  exact (Below.heap_setCell _ _ _ k (by show k≠w.heap.size;omega)).trans (Below.heap_setCell _ _ _ k (by show k≠w.heap.size;omega))
 have HCAP:Aside0 (bs.length≤c1):=⟨(Kd.R_reads' HRR.out).2.1⟩
 generalize (w1.setCell ⟨w.heap.size,0,none⟩ (.int .i64 p)).setCell ⟨w.heap.size,1,none⟩ (.slice A1 bs.length c1)=W1 at hX1 hX2 hB hRR ⊢
 clear HBA HX1 HX2 HSZ HB1 HX11 HX21 HRR
 have HY1:=ak_ hX1
 have HY2:=ak_ hX2
 have HYB:=ak_ hB
 have HRR:=ak_ hRR
 clear hX1 hX2 hB hRR
 go_loopw [3] (fun _ wr=>wr=W1) (fun _ wr=>0)
 case atStart=>exact rfl
 case round =>
  subst hrel
  have c0:=bc_ HY1 0
  have c1':=bc_ HY1 1
  simp only [ga_,gb_,gc_] at c0 c1'
  have HCC:Aside0 (Kd.C k50 wr A1 bs.length bs):=⟨(Kd.R_reads' HRR.out).2.2⟩
  go_wp2_with (go_at_call 31;refine (dead17_bad p A1 c1 bs _ HFT.out HR.out HCC.out HCAP.out).mono ?_;rintro e w2 ⟨rfl,hb⟩;have HB2:=ak_ hb;have hc0:=blk_cell (blk_below HY1.out hb) 0;have hc1:=blk_cell (blk_below HY1.out hb) 1;have d0:=blk_cell (blk_below HY2.out hb) 0;have d1:=blk_cell (blk_below HY2.out hb) 1;have e0:=blk_frozen (blk_below HY2.out hb) 0;have e1:=blk_frozen (blk_below HY2.out hb) 1;simp only [ga_,gb_,gc_] at hc0 hc1 d0 d1;clear hb)
  have hz:=blk_set (blk_set (blk_below HY2.out HB2.out) 0 (.int .i64 p)) 1 (.slice A1 bs.length c1)
  have hb1:=below_set (below_set (below_then HYB.out HYB.out.size HB2.out) ⟨w.heap.size+1,0,none⟩ (.int .i64 p) (Nat.le_succ _)) ⟨w.heap.size+1,1,none⟩ (.slice A1 bs.length c1) (Nat.le_succ _)
  have hC2:Kd.C k50 ((w2.setCell ⟨w.heap.size+1,0,none⟩ (.int .i64 p)).setCell ⟨w.heap.size+1,1,none⟩ (.slice A1 bs.length c1)) A1 bs.length bs:=C_of_R_far HRR.out (fun k h1 h2=>by
   refine (Below.heap_setCell _ _ _ k (by show k≠w.heap.size+1;omega)).trans ((Below.heap_setCell _ _ _ k (by show k≠w.heap.size+1;omega)).trans ?_)
   exact HB2.out.block k h2)
  generalize (w2.setCell ⟨w.heap.size+1,0,none⟩ (.int .i64 p)).setCell ⟨w.heap.size+1,1,none⟩ (.slice A1 bs.length c1)=W2 at hz hb1 hC2 ⊢
  have z0:=blk_cell hz 0
  have z1:=blk_cell hz 1
  simp at z0 z1
  refine bodyPost_ret (v:=.agg #[.int .i64 p,.slice A1 bs.length c1]) (by simp [results,Tryz.results33,go_sem,hu24,z0,z1]) rfl ?_
  exact ⟨_,c1,rfl,HCAP.out,hC2,hb1⟩
/-! ### live.Sweep -/
/-- A round of Sweep: what the boxes hold. -/
structure SwI (w W:World) (p:Int) (bs cur:List S50) (A:Option Addr) (c:Nat) (m:Nat):Prop where mk ::
 bel:Below w.heap.size w W
 b1:W.heap[w.heap.size]?=some (.cells #[.int .i64 p,.slice A cur.length c] 24 (0,0))
 b2:W.heap[w.heap.size+1]?=some (.cells #[.int .i64 0,.slice none 0 0] 24 (0,0))
 cap:cur.length≤c
 right:RightP p cur 256
 way:∀ s,SweepOf cur s→SweepOf bs s
 deep:∃ bg og,St (fun k=>k=w.heap.size∨k=w.heap.size+1) W (fun w'=>DeepAt w' A cur bg og)
 tot:tot cur=m
theorem SwI.below {w W W' : World} {p:Int} {bs cur:List S50} {A:Option Addr} {c m:Nat} (h:SwI w W p bs cur A c m) (hb:Below W.heap.size W W'):SwI w W' p bs cur A c m :=
 ⟨below_then h.bel h.bel.size hb,blk_below h.b1 hb,blk_below h.b2 hb,h.cap,h.right,h.way,by
  obtain ⟨bg,og,hd⟩:=h.deep
  exact ⟨bg,og,hd.step (KP.of_below hb)⟩,h.tot⟩
def SwP (w:World) (p:Int) (bs:List S50) (m:Nat) (W:World):Prop:=∃ cur A c,SwI w W p bs cur A c m
theorem SwI.set {w W:World} {p:Int} {bs cur cur' : List S50} {A A' : Option Addr} {c c' m:Nat} (h:SwI w W p bs cur A c m) (hc:cur'.length≤c') (hr:RightP p cur' 256) (ht:∀ s,SweepOf cur' s→SweepOf bs s) (hd:∃ bg og,St (fun k=>k=w.heap.size∨k=w.heap.size+1) W (fun w'=>DeepAt w' A' cur' bg og)) :
  SwI w ((W.setCell ⟨w.heap.size,0,none⟩ (.int .i64 p)).setCell ⟨w.heap.size,1,none⟩ (.slice A' cur'.length c')) p bs cur' A' c' (S.tot cur'):=by
 refine ⟨below_set (below_set h.bel _ _ (Nat.le_refl _)) _ _ (Nat.le_refl _),?_,?_,hc,hr,ht,?_,rfl⟩
 ·have:=blk_set (blk_set h.b1 0 (.int .i64 p)) 1 (.slice A' cur'.length c')
  exact this
 ·exact blk_far (blk_far h.b2 (by simp) _) (by simp) _
 ·obtain ⟨bg,og,hd⟩:=hd
  exact ⟨bg,og,(hd.step (KP.setCell _ _ _ (.inl rfl))).step (KP.setCell _ _ _ (.inl rfl))⟩
set_option maxHeartbeats 8000000 in
set_option maxRecDepth 100000 in
theorem sweep_ok (p:Int) (A:Option Addr) (c:Nat) (bs:List S50) (w:World) (hC:Kd.C k50 w A bs.length bs) (hR:rightF p bs 256=true) :
  Calls Tryz.prog 32 #[.agg #[.int .i64 p,.slice A bs.length c]] w fun e w'=>∃ A' c' s,e=.returned (.agg #[.int .i64 p,.slice A' s.length c'])∧s.length≤c'∧SweepOf bs s∧Kd.C k50 w' A' s.length s∧Below w.heap.size w w':=by
 have hu34:=Tryz.underlying24
 have RP:=ak_ (rightF_iff hR)
 obtain ⟨bg0,og0,hde⟩:=deep_of hC
 have hbA:=below_alloc (below_alloc (Below.refl w.heap.size w) (.cells #[.int .i64 p,.slice A bs.length c] 24)) (.cells #[.int .i64 0,.slice none 0 0] 24)
 have hx1:=blk_alloc (blk_new w (.cells #[.int .i64 p,.slice A bs.length c] 24)) (.cells #[.int .i64 0,.slice none 0 0] 24)
 have hx2:=blk_new (w.alloc (.cells #[.int .i64 p,.slice A bs.length c] 24)) (.cells #[.int .i64 0,.slice none 0 0] 24)
 have hsz:((w.alloc (.cells #[.int .i64 p,.slice A bs.length c] 24)).alloc (.cells #[.int .i64 0,.slice none 0 0] 24)).heap.size=w.heap.size+2:=by rw [World.size_alloc,World.size_alloc]
 rw [World.size_alloc] at hx2
 have HST:Aside0 (St (fun k=>k=w.heap.size∨k=w.heap.size+1) ((w.alloc (.cells #[.int .i64 p,.slice A bs.length c] 24)).alloc (.cells #[.int .i64 0,.slice none 0 0] 24)) (fun w'=>DeepAt w' A bs bg0 og0)):=⟨fun w2 h2=>hde.kc (h2.kc hbA (fun k hk h=>by omega))⟩
 have HBA:=ak_ hbA
 have HX1:=ak_ hx1
 have HX2:=ak_ hx2
 have HSZ:=ak_ hsz
 clear hC hR hbA hx1 hx2 hsz hde
 go_enter Tryz.func32,Tryz.ntmps32
 go_wp2_with (go_at_call 61;refine (copy_ok p A c bs _ (fun k=>k=w.heap.size∨k=w.heap.size+1) bg0 og0 HST.out (fun k hk=>by rw [HSZ.out];omega) RP.out.sml).mono ?_;rintro e w1 ⟨g,c1,bg1,cs1,rfl,hle,hg,hbr,hb⟩;have HLE:=ak_ hle;have HG:=ak_ hg;have HBR:=ak_ hbr;have HB1:=ak_ (below_then HBA.out HBA.out.size hb);have HX11:=ak_ (blk_below HX1.out hb);have HX21:=ak_ (blk_below HX2.out hb);have s0:=bc_ HX11 0;have s1:=bc_ HX11 1;have f0:=fz_ HX11 0;have f1:=fz_ HX11 1;simp only [ga_,gb_,gc_] at s0 s1;clear hle hg hbr hb)
 clear s0 s1 f0 f1
 have HP:Aside0 (SwP w p bs (tot bs) ((w1.setCell ⟨w.heap.size,0,none⟩ (.int .i64 p)).setCell ⟨w.heap.size,1,none⟩ (.slice (some ⟨g,0,none⟩) bs.length c1))):=⟨by
  have hg:=HG.out
  rw [HSZ.out] at hg
  obtain ⟨og1,hd1⟩:=HBR.out.deep (Y:=fun k=>k=w.heap.size∨k=w.heap.size+1) (fun h=>by omega) (fun k h=>.inr h)
  refine ⟨bs,some ⟨g,0,none⟩,c1,⟨below_set (below_set HB1.out _ _ (Nat.le_refl _)) _ _ (Nat.le_refl _),?_,?_,HLE.out,RP.out,fun s h=>h,⟨bg1,og1,(hd1.step (KP.setCell _ _ _ (.inl rfl))).step (KP.setCell _ _ _ (.inl rfl))⟩,rfl⟩⟩
  ·have:=blk_set (blk_set HX11.out 0 (.int .i64 p)) 1 (.slice (some ⟨g,0,none⟩) bs.length c1)
   exact this
  ·exact blk_far (blk_far HX21.out (by simp) _) (by simp) _⟩
 generalize (w1.setCell ⟨w.heap.size,0,none⟩ (.int .i64 p)).setCell ⟨w.heap.size,1,none⟩ (.slice (some ⟨g,0,none⟩) bs.length c1)=W1 at HP ⊢
 clear HST HBA HX1 HX2 HSZ HLE HG HBR HB1 HX11 HX21
 go_loopw [3] (fun _ wr=>∃ m,SwP w p bs m wr) (fun _ wr=>leastOf fun m=>SwP w p bs m wr)
 case atStart=>exact ⟨_,HP.out⟩
 case round =>
  clear HP
  obtain ⟨hls,hmin⟩:=leastOf_spec hrel
  have HMIN:=ak_ hmin
  obtain ⟨cur,A',c',hsw⟩:=hls
  have HSW:=ak_ hsw
  have c0:=blk_cell hsw.b1 0
  have c1':=blk_cell hsw.b1 1
  simp only [ga_,gb_,gc_] at c0 c1'
  clear hrel hmin hsw
  have HTOT:=ak_ HSW.out.tot
  have HCC:Aside0 (Kd.C k50 wr A' cur.length cur):=⟨by
   obtain ⟨bg,og,hd⟩:=HSW.out.deep
   exact blks_C hd.now.1 (by have:=HSW.out.right.len;omega)⟩
  have HDL:Aside0 ((deadL cur).length≤16384):=⟨Nat.le_trans (deadP_len _ _) HSW.out.right.few⟩
  by_cases hd:deadL cur=[]
  ·have HD0:=ak_ hd
   go_wp2_with (go_at_call 30;refine (dead_ok p A' c' cur _ HCC.out (rightF_of HSW.out.right)).mono ?_;rintro e w2 ⟨v,rfl,ho,hb⟩;obtain ⟨Dd,cd,rfl⟩:=own_slice ho;have hdl:(deadP cur (plcs cur cur.length)).length=0:=(congrArg List.length HD0.out);rw [hdl] at ho ⊢;have HB2:=ak_ hb;have hc0:=blk_cell (blk_below HSW.out.b1 hb) 0;have hc1:=blk_cell (blk_below HSW.out.b1 hb) 1;have d0:=blk_cell (blk_below HSW.out.b2 hb) 0;have d1:=blk_cell (blk_below HSW.out.b2 hb) 1;have e0:=blk_frozen (blk_below HSW.out.b2 hb) 0;have e1:=blk_frozen (blk_below HSW.out.b2 hb) 1;simp only [ga_,gb_,gc_] at hc0 hc1 d0 d1;clear ho hb hdl)
   have hz:=blk_set (blk_set (blk_below HSW.out.b2 HB2.out) 0 (.int .i64 p)) 1 (.slice A' cur.length c')
   have hb1:=below_set (below_set (below_then HSW.out.bel HSW.out.bel.size HB2.out) ⟨w.heap.size+1,0,none⟩ (.int .i64 p) (Nat.le_succ _)) ⟨w.heap.size+1,1,none⟩ (.slice A' cur.length c') (Nat.le_succ _)
   have hC2:Kd.C k50 ((w2.setCell ⟨w.heap.size+1,0,none⟩ (.int .i64 p)).setCell ⟨w.heap.size+1,1,none⟩ (.slice A' cur.length c')) A' cur.length cur:=by
    obtain ⟨bg,og,hd⟩:=HSW.out.deep
    exact blks_C (((hd.step (KP.of_below HB2.out)).step (KP.setCell _ _ _ (.inr rfl))).step (KP.setCell _ _ _ (.inr rfl))).now.1 (by have:=HSW.out.right.len;omega)
   generalize (w2.setCell ⟨w.heap.size+1,0,none⟩ (.int .i64 p)).setCell ⟨w.heap.size+1,1,none⟩ (.slice A' cur.length c')=W2 at hz hb1 hC2 ⊢
   have z0:=blk_cell hz 0
   have z1:=blk_cell hz 1
   simp at z0 z1
   refine bodyPost_ret (v:=.agg #[.int .i64 p,.slice A' cur.length c']) (by simp [results,Tryz.results32,go_sem,hu34,z0,z1]) rfl ?_
   exact ⟨A',c',cur,rfl,HSW.out.cap,HSW.out.way _ (.done HD0.out),hC2,hb1⟩
  ·have hlt:=List.length_pos_iff.2 hd
   have HD0:=ak_ hd
   clear hd
   have b1:((deadL cur).length:Int)≠0:=by omega
   have b2:decide (((deadL cur).length:Int)=0)=false:=decide_eq_false b1
   have b3:(((deadL cur).length:Int) == 0)=false:=by simpa using b1
   obtain ⟨DL,hDL⟩:∃ DL,deadL cur=DL:=⟨_,rfl⟩
   rw [hDL] at hlt b1 b2 b3
   have HDE:=ak_ hDL
   clear hDL
   obtain ⟨bg,og,hdp⟩:=HSW.out.deep
   have HDP:=ak_ hdp
   clear hdp
   go_wp2_with (first
    | (go_at_call 30;refine (dead_ok p A' c' cur _ HCC.out (rightF_of HSW.out.right)).mono ?_;rintro e w2 ⟨v,rfl,ho,hb⟩;obtain ⟨Dd,cd,rfl⟩:=own_slice ho;have hde:deadP cur (plcs cur cur.length)=DL:=HDE.out;rw [hde] at ho ⊢;have HPA:=ak_ (PrAt.of_own ho);have HB2:=ak_ hb;have hc0:=blk_cell (blk_below HSW.out.b1 hb) 0;have hc1:=blk_cell (blk_below HSW.out.b1 hb) 1;simp only [ga_,gb_,gc_] at hc0 hc1;clear ho hb hde)
    | (go_at_call 62;refine (without_ok p A' c' cur Dd cd DL _ (fun k=>k=w.heap.size∨k=w.heap.size+1) bg og (HDP.out.step (KP.of_below HB2.out)) (fun k hk=>by have h1:=blk_lt HSW.out.b1;have h2:=blk_lt HSW.out.b2;have h3:=HB2.out.size;omega) HSW.out.right.sml HPA.out (by rw [← HDE.out];exact HDL.out)).mono ?_;rintro e w3 ⟨A3,c3,bg3,og3,rfl,hle3,hst3,hb⟩;have HLE3:=ak_ hle3;have HST3:=ak_ hst3;have HB3:=ak_ (below_then HB2.out HB2.out.size hb);have s0:=blk_cell (blk_below HSW.out.b1 HB3.out) 0;have s1:=blk_cell (blk_below HSW.out.b1 HB3.out) 1;have f0:=blk_frozen (blk_below HSW.out.b1 HB3.out) 0;have f1:=blk_frozen (blk_below HSW.out.b1 HB3.out) 1;simp only [ga_,gb_,gc_] at s0 s1;clear hle3 hst3 hb hc0 hc1))
   go_roundw
   case rel =>
    have h:=SwI.set (HSW.out.below HB3.out) (cur':=woutL cur DL) (A':=A3) (c':=c3) (by rw [woutL_length];exact HLE3.out) (HSW.out.right.wout DL) (fun s hs=>HSW.out.way s (.step HD0.out (by rw [HDE.out];exact hs))) ⟨bg3,og3,HST3.out⟩
    rw [woutL_length] at h
    exact ⟨_,_,_,_,h⟩
   case measure =>
    have h:=SwI.set (HSW.out.below HB3.out) (cur':=woutL cur DL) (A':=A3) (c':=c3) (by rw [woutL_length];exact HLE3.out) (HSW.out.right.wout DL) (fun s hs=>HSW.out.way s (.step HD0.out (by rw [HDE.out];exact hs))) ⟨bg3,og3,HST3.out⟩
    rw [woutL_length] at h
    have h1:=(leastOf_spec (p:=fun m=>SwP w p bs m ((w3.setCell ⟨w.heap.size,0,none⟩ (.int .i64 p)).setCell ⟨w.heap.size,1,none⟩ (.slice A3 cur.length c3))) ⟨_,_,_,_,h⟩).2 _ ⟨_,_,_,h⟩
    have h2:=tot_wout HD0.out
    rw [HDE.out,HTOT.out] at h2
    exact Nat.lt_of_le_of_lt h1 h2
/-! ### live.Sweep of a function that is not right -/
set_option maxHeartbeats 8000000 in
set_option maxRecDepth 100000 in
theorem sweep_bad (p:Int) (A:Option Addr) (c:Nat) (bs:List S50) (w:World) (hC:Kd.C k50 w A bs.length bs) (hR:rightF p bs 256=false) (hs:Sml bs) :
  Calls Tryz.prog 32 #[.agg #[.int .i64 p,.slice A bs.length c]] w fun e w'=>∃ A' c',e=.returned (.agg #[.int .i64 p,.slice A' bs.length c'])∧bs.length≤c'∧Kd.C k50 w' A' bs.length bs∧Below w.heap.size w w':=by
 have hu34:=Tryz.underlying24
 have HR:=ak_ hR
 have HSM:=ak_ hs
 obtain ⟨bg0,og0,hde⟩:=deep_of hC
 have hbA:=below_alloc (below_alloc (Below.refl w.heap.size w) (.cells #[.int .i64 p,.slice A bs.length c] 24)) (.cells #[.int .i64 0,.slice none 0 0] 24)
 have hx1:=blk_alloc (blk_new w (.cells #[.int .i64 p,.slice A bs.length c] 24)) (.cells #[.int .i64 0,.slice none 0 0] 24)
 have hx2:=blk_new (w.alloc (.cells #[.int .i64 p,.slice A bs.length c] 24)) (.cells #[.int .i64 0,.slice none 0 0] 24)
 have hsz:((w.alloc (.cells #[.int .i64 p,.slice A bs.length c] 24)).alloc (.cells #[.int .i64 0,.slice none 0 0] 24)).heap.size=w.heap.size+2:=by rw [World.size_alloc,World.size_alloc]
 rw [World.size_alloc] at hx2
 have HST:Aside0 (St (fun k=>k=w.heap.size∨k=w.heap.size+1) ((w.alloc (.cells #[.int .i64 p,.slice A bs.length c] 24)).alloc (.cells #[.int .i64 0,.slice none 0 0] 24)) (fun w'=>DeepAt w' A bs bg0 og0)):=⟨fun w2 h2=>hde.kc (h2.kc hbA (fun k hk h=>by omega))⟩
 have HBA:=ak_ hbA
 have HX1:=ak_ hx1
 have HX2:=ak_ hx2
 have HSZ:=ak_ hsz
 clear hC hR hs hbA hx1 hx2 hsz hde
 go_enter Tryz.func32,Tryz.ntmps32
 go_wp2_with (go_at_call 61;refine (copy_ok p A c bs _ (fun k=>k=w.heap.size∨k=w.heap.size+1) bg0 og0 HST.out (fun k hk=>by rw [HSZ.out];omega) HSM.out).mono ?_;rintro e w1 ⟨g,c1,bg1,cs1,rfl,hle,hg,hbr,hb⟩;have HLE:=ak_ hle;have HG:=ak_ hg;have HBR:=ak_ hbr;have HB1:=ak_ (below_then HBA.out HBA.out.size hb);have HX11:=ak_ (blk_below HX1.out hb);have HX21:=ak_ (blk_below HX2.out hb);have s0:=bc_ HX11 0;have s1:=bc_ HX11 1;have f0:=fz_ HX11 0;have f1:=fz_ HX11 1;simp only [ga_,gb_,gc_] at s0 s1;clear hle hg hbr hb)
 clear s0 s1 f0 f1
 have hX1:((w1.setCell ⟨w.heap.size,0,none⟩ (.int .i64 p)).setCell ⟨w.heap.size,1,none⟩ (.slice (some ⟨g,0,none⟩) bs.length c1)).heap[w.heap.size]?=some (.cells #[.int .i64 p,.slice (some ⟨g,0,none⟩) bs.length c1] 24 (0,0)):=blk_set (blk_set HX11.out 0 (.int .i64 p)) 1 (.slice (some ⟨g,0,none⟩) bs.length c1)
 have hX2:=blk_far (blk_far HX21.out (p:=⟨w.heap.size,0,none⟩) (by simp) (.int .i64 p)) (p:=⟨w.heap.size,1,none⟩) (by simp) (.slice (some ⟨g,0,none⟩) bs.length c1)
 have hB:=below_set (below_set HB1.out ⟨w.heap.size,0,none⟩ (.int .i64 p) (Nat.le_refl _)) ⟨w.heap.size,1,none⟩ (.slice (some ⟨g,0,none⟩) bs.length c1) (Nat.le_refl _)
 have hD:∃ bg og,St (fun k=>k=w.heap.size∨k=w.heap.size+1) ((w1.setCell ⟨w.heap.size,0,none⟩ (.int .i64 p)).setCell ⟨w.heap.size,1,none⟩ (.slice (some ⟨g,0,none⟩) bs.length c1)) (fun w'=>DeepAt w' (some ⟨g,0,none⟩) bs bg og):=by
  have hg:=HG.out
  rw [HSZ.out] at hg
  obtain ⟨og1,hd1⟩:=HBR.out.deep (Y:=fun k=>k=w.heap.size∨k=w.heap.size+1) (fun h=>by omega) (fun k h=>.inr h)
  exact ⟨bg1,og1,(hd1.step (KP.setCell _ _ _ (.inl rfl))).step (KP.setCell _ _ _ (.inl rfl))⟩
 generalize (w1.setCell ⟨w.heap.size,0,none⟩ (.int .i64 p)).setCell ⟨w.heap.size,1,none⟩ (.slice (some ⟨g,0,none⟩) bs.length c1)=W1 at hX1 hX2 hB hD ⊢
 clear HST HBA HX1 HX2 HSZ HG HBR HB1 HX11 HX21
 have HY1:=ak_ hX1
 have HY2:=ak_ hX2
 have HYB:=ak_ hB
 have HYD:=ak_ hD
 clear hX1 hX2 hB hD
 go_loopw [3] (fun _ wr=>wr=W1) (fun _ wr=>0)
 case atStart=>exact rfl
 case round =>
  subst hrel
  have c0:=bc_ HY1 0
  have c1':=bc_ HY1 1
  simp only [ga_,gb_,gc_] at c0 c1'
  have HCC:Aside0 (Kd.C k50 wr (some ⟨g,0,none⟩) bs.length bs):=⟨by
   obtain ⟨bg,og,hd⟩:=HYD.out
   exact blks_C hd.now.1 (Nat.le_trans HSM.out.blks (by decide))⟩
  go_wp2_with (go_at_call 30;refine (dead_bad p (some ⟨g,0,none⟩) c1 bs _ HCC.out HR.out).mono ?_;rintro e w2 ⟨rfl,hb⟩;have HB2:=ak_ hb;have hc0:=blk_cell (blk_below HY1.out hb) 0;have hc1:=blk_cell (blk_below HY1.out hb) 1;have d0:=blk_cell (blk_below HY2.out hb) 0;have d1:=blk_cell (blk_below HY2.out hb) 1;have e0:=blk_frozen (blk_below HY2.out hb) 0;have e1:=blk_frozen (blk_below HY2.out hb) 1;simp only [ga_,gb_,gc_] at hc0 hc1 d0 d1;clear hb)
  have hz:=blk_set (blk_set (blk_below HY2.out HB2.out) 0 (.int .i64 p)) 1 (.slice (some ⟨g,0,none⟩) bs.length c1)
  have hb1:=below_set (below_set (below_then HYB.out HYB.out.size HB2.out) ⟨w.heap.size+1,0,none⟩ (.int .i64 p) (Nat.le_succ _)) ⟨w.heap.size+1,1,none⟩ (.slice (some ⟨g,0,none⟩) bs.length c1) (Nat.le_succ _)
  have hC2:Kd.C k50 ((w2.setCell ⟨w.heap.size+1,0,none⟩ (.int .i64 p)).setCell ⟨w.heap.size+1,1,none⟩ (.slice (some ⟨g,0,none⟩) bs.length c1)) (some ⟨g,0,none⟩) bs.length bs:=by
   obtain ⟨bg,og,hd⟩:=HYD.out
   exact blks_C (((hd.step (KP.of_below HB2.out)).step (KP.setCell _ _ _ (.inr rfl))).step (KP.setCell _ _ _ (.inr rfl))).now.1 (Nat.le_trans HSM.out.blks (by decide))
  generalize (w2.setCell ⟨w.heap.size+1,0,none⟩ (.int .i64 p)).setCell ⟨w.heap.size+1,1,none⟩ (.slice (some ⟨g,0,none⟩) bs.length c1)=W2 at hz hb1 hC2 ⊢
  have z0:=blk_cell hz 0
  have z1:=blk_cell hz 1
  simp at z0 z1
  refine bodyPost_ret (v:=.agg #[.int .i64 p,.slice (some ⟨g,0,none⟩) bs.length c1]) (by simp [results,Tryz.results32,go_sem,hu34,z0,z1]) rfl ?_
  exact ⟨_,c1,rfl,HLE.out,hC2,hb1⟩
end Go.Proofs.YtnkgbnbbmcoiiaaGreat.S
namespace Go.Proofs.YtnkgbnbbmcoiiaaGreat.S
open Go.RowKit Go.IM Go.RelRegion Go.Proofs.YtnkgbnbbmcoiiaaGreatW.PrintWords Go.Proofs.YtnkgbnbbmcoiiaaGreatW.PrintLast Go.Proofs.YtnkgbnbbmcoiiaaGreatW.PrintMore
set_option linter.unusedVariables false
set_option linter.unusedSimpArgs false
/-! ### swageref05.Pairs at equal rows;swagelaw17.small -/
theorem eqA68' (d:Nat) (w:World) (x0 x1 y0 y1:Int):(Op.equalIn (d+2) 68 (.agg #[.int .i64 x0,.int .i64 x1]) (.agg #[.int .i64 y0,.int .i64 y1])).run Tryz.prog w=.ok (x0 == y0 && (x1 == y1)) w:=eqA68 d w (x0,x1) (y0,y1)
section
attribute [local go_sem high] eqA68'
set_option maxHeartbeats 4000000 in
set_option maxRecDepth 100000 in
theorem pairs_same (A:Option Addr) (c:Nat) (A' : Option Addr) (c' : Nat) (ds:List (Nat × Nat)) (w:World) (h:PrAt w A ds) (h' : PrAt w A' ds) (hl:ds.length≤16384) :
  Calls Tryz.prog 29 #[.slice A ds.length c,.slice A' ds.length c'] w fun e w'=>e=.returned (.bool true)∧Below w.heap.size w w':=by
 have hu86:=Tryz.underlying68
 have H:=ak_ h
 have H':=ak_ h'
 clear h h'
 go_enter Tryz.func29,Tryz.ntmps29
 go_wp2_with fail
 go_loopw [5] (fun i wr=>∃ j:Nat,j≤ds.length∧i=.int .i64 (j:Int)∧Aside0 (Below w.heap.size w wr)) (fun i _=>ds.length - (intOf i).toNat)
 case atStart=>exact ⟨0,Nat.zero_le _,rfl,⟨Below.refl _ _⟩⟩
 case round =>
  obtain ⟨j,hj,rfl,HB⟩:=hrel
  by_cases hlt:j<ds.length
  ·have b1:decide ((j:Int)<(ds.length:Int))=true:=decide_eq_true (by omega)
   have hw1:wrap64 ((j:Int)+1)=(j:Int)+1:=(wr3 (z:=0) (by decide) (by omega)).2.2
   obtain ⟨ad,eA,k0,k1⟩:=(H.out.below HB.out) j hlt
   obtain ⟨ad',eA',m0,m1⟩:=(H'.out.below HB.out) j hlt
   subst eA eA'
   generalize ds[j]=q at k0 k1 m0 m1
   go_wp2_with fail
   refine wp_region_rel 9 (fun _=>none) (fun _=>[]) (fun _ _ _=>True) (fun wq=>Below wr.heap.size wr wq) (fun a b=>Below a.heap.size a b) (by kernel_rfl) (by kernel_rfl) (below_drew (Below.refl _ _)) (fun a b h k=>below_then h h.size k) (fun _ _ _ _ h _=>h) ?_
   simp only [List.take_succ_cons,List.take_zero,List.drop_succ_cons,List.drop_zero]
   iterate 9 (apply relQ_step rfl;apply Exists.intro;constructor;(focus (intro wq hwq;have k0:=pw_cell_below hwq k0;have k1:=pw_cell_below hwq k1;have m0:=pw_cell_below hwq m0;have m1:=pw_cell_below hwq m1;unfold Yl;go_wp2_with fail;exact ⟨rfl,_,rfl,rfl,Below.refl _ _⟩));(try simp only [Act.put,pa_,pb_,pc_]))
   refine relQ_nil (fun xx=>?_)
   repeat (refine relL_quiet rfl ?_)
   refine relL_nil (fun w13 hw13 _=>?_)
   have HB13:=ak_ (below_then HB.out HB.out.size hw13)
   clear k0 k1 m0 m1 hw13
   go_wp2_with fail
   go_roundw
   case rel=>exact ⟨j+1,hlt,by first|(rw [hw1];exact num_cast j)|(with_reducible exact num_cast j),HB13⟩
   case measure=>first|(rw [hw1];exact num_meas hlt)|(with_reducible exact num_meas hlt)
  ·have b1:decide ((j:Int)<(ds.length:Int))=false:=decide_eq_false (by omega)
   go_wp2_with fail
   go_ret
   exact ⟨rfl,HB.out⟩
end
theorem opsTC {W:World} {g:Nat} (h:W.heap[g]?=some (.cells #[.int .i64 1,.int .i64 1,.int .i64 0,.int .i64 0,.int .i64 4,.slice none 0 0,.int .i64 1,.int .i64 2,.int .i64 0,.int .i64 0,.int .i64 5,.slice none 0 0,.int .i64 9,.int .i64 0,.int .i64 1,.int .i64 0,.int .i64 0,.slice none 0 0] 45 (0,0))):Kd.C k45 W (some ⟨g,0,none⟩) 3 [⟨1,1,0,0,4,[]⟩,⟨1,2,0,0,5,[]⟩,⟨9,0,1,0,0,[]⟩]:=by
 refine ⟨rfl,by decide,fun _=>⟨_,rfl,fun j p hj=>?_⟩⟩
 have hcell:∀ n,W.cell? ⟨g,n,none⟩=_:=fun n=>blk_cell h n
 match j,hj with
 | 0,hj =>
  cases hj
  refine ⟨_,rfl,k45_mk W ⟨1,1,0,0,4,[]⟩ (c5:=0) (Nat.le_refl _) (C0 W),fun i u hi=>?_⟩
  match i,hi with
  | 0,hi=>cases hi;exact hcell 0
  | 1,hi=>cases hi;exact hcell 1
  | 2,hi=>cases hi;exact hcell 2
  | 3,hi=>cases hi;exact hcell 3
  | 4,hi=>cases hi;exact hcell 4
  | 5,hi=>cases hi;exact hcell 5
  | i+6,hi=>simp at hi
 | 1,hj =>
  cases hj
  refine ⟨_,rfl,k45_mk W ⟨1,2,0,0,5,[]⟩ (c5:=0) (Nat.le_refl _) (C0 W),fun i u hi=>?_⟩
  match i,hi with
  | 0,hi=>cases hi;exact hcell 6
  | 1,hi=>cases hi;exact hcell 7
  | 2,hi=>cases hi;exact hcell 8
  | 3,hi=>cases hi;exact hcell 9
  | 4,hi=>cases hi;exact hcell 10
  | 5,hi=>cases hi;exact hcell 11
  | i+6,hi=>simp at hi
 | 2,hj =>
  cases hj
  refine ⟨_,rfl,k45_mk W ⟨9,0,1,0,0,[]⟩ (c5:=0) (Nat.le_refl _) (C0 W),fun i u hi=>?_⟩
  match i,hi with
  | 0,hi=>cases hi;exact hcell 12
  | 1,hi=>cases hi;exact hcell 13
  | 2,hi=>cases hi;exact hcell 14
  | 3,hi=>cases hi;exact hcell 15
  | 4,hi=>cases hi;exact hcell 16
  | 5,hi=>cases hi;exact hcell 17
  | i+6,hi=>simp at hi
 | j+3,hj=>simp at hj
theorem blkTC {W:World} {g g' : Nat} (h:W.heap[g]?=some (.cells #[.int .i64 1,.int .i64 1,.int .i64 0,.int .i64 0,.int .i64 4,.slice none 0 0,.int .i64 1,.int .i64 2,.int .i64 0,.int .i64 0,.int .i64 5,.slice none 0 0,.int .i64 9,.int .i64 0,.int .i64 1,.int .i64 0,.int .i64 0,.slice none 0 0] 45 (0,0))) (h' : W.heap[g']?=some (.cells #[.slice (some ⟨g,0,none⟩) 3 3,.int .i64 3,.int .i64 1,.int .i64 0,.int .i64 0] 50 (0,0))):Kd.C k50 W (some ⟨g',0,none⟩) 1 bsT:=by
 refine ⟨rfl,by decide,fun _=>⟨_,rfl,fun j p hj=>?_⟩⟩
 have hcell:∀ n,W.cell? ⟨g',n,none⟩=_:=fun n=>blk_cell h' n
 match j,hj with
 | 0,hj =>
  cases hj
  refine ⟨_,rfl,k50_mk W ⟨[⟨1,1,0,0,4,[]⟩,⟨1,2,0,0,5,[]⟩,⟨9,0,1,0,0,[]⟩],⟨3,1,0,0⟩⟩ (c0:=3) (Nat.le_refl _) (opsTC h),fun i u hi=>?_⟩
  match i,hi with
  | 0,hi=>cases hi;exact hcell 0
  | 1,hi=>cases hi;exact hcell 1
  | 2,hi=>cases hi;exact hcell 2
  | 3,hi=>cases hi;exact hcell 3
  | 4,hi=>cases hi;exact hcell 4
  | i+5,hi=>simp at hi
 | j+1,hj=>simp [bsT] at hj
theorem rows_same1:swageref06_Rows.f 9 [[1],[1],[1]] [[1],[1],[1]]=some true:=by decide +kernel
theorem rows_same2:swageref06_Rows.f 9 [[]] [[]]=some true:=by decide +kernel
/-- A literal of slices,as rows. -/
theorem litRows {W:World} {g:Nat} {gs:List Tri} {L:List (List Int)} (h:W.heap[g]?=some (.cells (encs slv gs).toArray 31 (0,0))) (ht:Tells .i64 W gs L) (hl:gs.length≤1000):Kd.C (Kd.slice 3 (Kd.int .i64)) W (some ⟨g,0,none⟩) L.length L:=by
 have hr:ReadsOf slv zt W (some ⟨g,0,none⟩) gs.length gs:=⟨rfl,by omega,fun _=>⟨_,rfl,fun j hj=>by
  rw [Addr.add_lit,Nat.zero_add]
  refine (blk_cell h j).trans ?_
  simp [encs,List.getD_eq_getElem?_getD,hj]⟩⟩
 rw [ht.len] at hr
 exact tells_C hr ht
set_option maxHeartbeats 8000000 in
set_option maxRecDepth 100000 in
theorem small17_walk (w:World):Calls Tryz.prog 18 #[] w fun e w'=>e=.returned (.bool true)∧Below w.heap.size w w':=by
 have hu34:=Tryz.underlying24
 have hu43:=Tryz.underlying50
 have hu45:=Tryz.underlying45
 have hu41:=Tryz.underlying48
 have hu86:=Tryz.underlying68
 go_enter Tryz.func18,Tryz.ntmps18
 go_wp2_with fail
 have x0:=blk_alloc (blk_alloc (blk_new w (.cells #[.int .i64 1,.int .i64 1,.int .i64 0,.int .i64 0,.int .i64 4,.slice none 0 0,.int .i64 1,.int .i64 2,.int .i64 0,.int .i64 0,.int .i64 5,.slice none 0 0,.int .i64 9,.int .i64 0,.int .i64 1,.int .i64 0,.int .i64 0,.slice none 0 0] 45)) (.cells #[.slice (some ⟨w.heap.size,0,none⟩) 3 3,.int .i64 3,.int .i64 1,.int .i64 0,.int .i64 0] 50)) (.cells #[.int .i64 0,.slice (some ⟨w.heap.size+1,0,none⟩) 1 1] 24)
 have x1:=blk_alloc (blk_new (w.alloc (.cells #[.int .i64 1,.int .i64 1,.int .i64 0,.int .i64 0,.int .i64 4,.slice none 0 0,.int .i64 1,.int .i64 2,.int .i64 0,.int .i64 0,.int .i64 5,.slice none 0 0,.int .i64 9,.int .i64 0,.int .i64 1,.int .i64 0,.int .i64 0,.slice none 0 0] 45)) (.cells #[.slice (some ⟨w.heap.size,0,none⟩) 3 3,.int .i64 3,.int .i64 1,.int .i64 0,.int .i64 0] 50)) (.cells #[.int .i64 0,.slice (some ⟨w.heap.size+1,0,none⟩) 1 1] 24)
 have x2:=blk_new ((w.alloc (.cells #[.int .i64 1,.int .i64 1,.int .i64 0,.int .i64 0,.int .i64 4,.slice none 0 0,.int .i64 1,.int .i64 2,.int .i64 0,.int .i64 0,.int .i64 5,.slice none 0 0,.int .i64 9,.int .i64 0,.int .i64 1,.int .i64 0,.int .i64 0,.slice none 0 0] 45)).alloc (.cells #[.slice (some ⟨w.heap.size,0,none⟩) 3 3,.int .i64 3,.int .i64 1,.int .i64 0,.int .i64 0] 50)) (.cells #[.int .i64 0,.slice (some ⟨w.heap.size+1,0,none⟩) 1 1] 24)
 rw [World.size_alloc] at x1
 rw [World.size_alloc,World.size_alloc] at x2
 have hb3:=below_alloc (below_alloc (below_alloc (Below.refl w.heap.size w) (.cells #[.int .i64 1,.int .i64 1,.int .i64 0,.int .i64 0,.int .i64 4,.slice none 0 0,.int .i64 1,.int .i64 2,.int .i64 0,.int .i64 0,.int .i64 5,.slice none 0 0,.int .i64 9,.int .i64 0,.int .i64 1,.int .i64 0,.int .i64 0,.slice none 0 0] 45)) (.cells #[.slice (some ⟨w.heap.size,0,none⟩) 3 3,.int .i64 3,.int .i64 1,.int .i64 0,.int .i64 0] 50)) (.cells #[.int .i64 0,.slice (some ⟨w.heap.size+1,0,none⟩) 1 1] 24)
 generalize ((w.alloc (.cells #[.int .i64 1,.int .i64 1,.int .i64 0,.int .i64 0,.int .i64 4,.slice none 0 0,.int .i64 1,.int .i64 2,.int .i64 0,.int .i64 0,.int .i64 5,.slice none 0 0,.int .i64 9,.int .i64 0,.int .i64 1,.int .i64 0,.int .i64 0,.slice none 0 0] 45)).alloc (.cells #[.slice (some ⟨w.heap.size,0,none⟩) 3 3,.int .i64 3,.int .i64 1,.int .i64 0,.int .i64 0] 50)).alloc (.cells #[.int .i64 0,.slice (some ⟨w.heap.size+1,0,none⟩) 1 1] 24)=W3 at x0 x1 x2 hb3 ⊢
 have hC3:=blkTC x0 x1
 have HX3:=ak_ x2
 have HC3:=ak_ hC3
 have HB3:=ak_ hb3
 clear x0 x1 x2 hC3 hb3
 refine (sweep_ok 0 (some ⟨w.heap.size+1,0,none⟩) 1 bsT _ HC3.out t_right).mono ?_
 rintro e w4 ⟨A4,c4,sw,rfl,hle,hsw,hCs,hb⟩
 obtain rfl:=t_sweep hsw
 have e1:bsS.length=1:=rfl
 rw [e1] at hle hCs ⊢
 have hbA:=below_then hb hb.size (below_alloc (Below.refl w4.heap.size w4) (.cells #[.int .i64 0,.slice A4 1 c4] 24))
 have HS5:=ak_ (Kd.C_below hCs (below_alloc (Below.refl w4.heap.size w4) (.cells #[.int .i64 0,.slice A4 1 c4] 24)))
 have HY5:=ak_ (blk_new w4 (.cells #[.int .i64 0,.slice A4 1 c4] 24))
 have HC5:=ak_ (Kd.C_below HC3.out hbA)
 have HX5:=ak_ (blk_below HX3.out hbA)
 have HB5:=ak_ (below_then HB3.out HB3.out.size hbA)
 clear HC3
 clear HX3
 clear HB3
 have c0:=bc_ HX5 0
 have c1:=bc_ HX5 1
 have d0:=bc_ HY5 0
 have d1:=bc_ HY5 1
 simp only [ga_,gb_,gc_] at c0 c1 d0 d1
 clear hb hbA hCs hle hsw e1
 go_wp2_with fail
 generalize w4.alloc (.cells #[.int .i64 0,.slice A4 1 c4] 24)=W5 at HC5 HX5 HB5 HS5 HY5 c0 c1 d0 d1 ⊢
 refine (After_ok 0 (some ⟨w.heap.size+1,0,none⟩) 1 bsT 0 _ HC5.out t_right (by decide)).mono ?_
 rintro e w6 ⟨v6,rfl,hr,hb⟩
 rw [t_after] at hr
 obtain ⟨Aa,ca,rfl,ka,hCa⟩:=Kd.R_reads hr
 have HCA:=ak_ hCa
 have HKA:=ak_ ka
 have HC6:=ak_ (Kd.C_below HC5.out hb)
 have HX6:=ak_ (blk_below HX5.out hb)
 have HB6:=ak_ (below_then HB5.out HB5.out.size hb)
 have HS6:=ak_ (Kd.C_below HS5.out hb)
 have HY6:=ak_ (blk_below HY5.out hb)
 clear HC5
 clear HX5
 clear HB5
 clear HS5
 clear HY5
 clear c0 c1 d0 d1
 clear hr hb hCa ka
 go_wp2_with fail
 have hb1:=below_alloc (Below.refl w6.heap.size w6) (.cells #[.int .i64 1] 3)
 have hb2:=below_alloc (Below.refl (w6.alloc (.cells #[.int .i64 1] 3)).heap.size (w6.alloc (.cells #[.int .i64 1] 3))) (.cells #[.int .i64 1] 3)
 have hb3:=below_alloc (Below.refl ((w6.alloc (.cells #[.int .i64 1] 3)).alloc (.cells #[.int .i64 1] 3)).heap.size ((w6.alloc (.cells #[.int .i64 1] 3)).alloc (.cells #[.int .i64 1] 3))) (.cells #[.int .i64 1] 3)
 have hl1:=Tells.one (c:=1) (C_one w6 1) (by decide)
 have hl2:=Tells.one (c:=1) (C_one (w6.alloc (.cells #[.int .i64 1] 3)) 1) (by decide)
 have hl3:=Tells.one (c:=1) (C_one ((w6.alloc (.cells #[.int .i64 1] 3)).alloc (.cells #[.int .i64 1] 3)) 1) (by decide)
 have ht:=((hl1.below hb2).append hl2).below hb3
 have ht:=ht.append hl3
 simp only [World.size_alloc] at ht
 have hbw:=below_then (below_then hb1 hb1.size hb2) (below_then hb1 hb1.size hb2).size hb3
 have hsz7:(((w6.alloc (.cells #[.int .i64 1] 3)).alloc (.cells #[.int .i64 1] 3)).alloc (.cells #[.int .i64 1] 3)).heap.size=w6.heap.size+1+1+1:=by rw [World.size_alloc,World.size_alloc,World.size_alloc]
 generalize ((w6.alloc (.cells #[.int .i64 1] 3)).alloc (.cells #[.int .i64 1] 3)).alloc (.cells #[.int .i64 1] 3)=W7 at ht hbw hsz7 ⊢
 have hb8:=below_alloc (Below.refl W7.heap.size W7) (.cells #[.slice (some ⟨w6.heap.size,0,none⟩) 1 1,.slice (some ⟨w6.heap.size+1,0,none⟩) 1 1,.slice (some ⟨w6.heap.size+1+1,0,none⟩) 1 1] 31)
 have hbw8:=below_then hbw hbw.size hb8
 have hL:Kd.C (Kd.slice 3 (Kd.int .i64)) (W7.alloc (.cells #[.slice (some ⟨w6.heap.size,0,none⟩) 1 1,.slice (some ⟨w6.heap.size+1,0,none⟩) 1 1,.slice (some ⟨w6.heap.size+1+1,0,none⟩) 1 1] 31)) (some ⟨W7.heap.size,0,none⟩) 3 [[1],[1],[1]]:=litRows (gs:=[(some ⟨w6.heap.size,0,none⟩,1,1),(some ⟨w6.heap.size+1,0,none⟩,1,1),(some ⟨w6.heap.size+1+1,0,none⟩,1,1)]) (blk_new W7 _) (ht.below hb8) (by simp)
 rw [hsz7] at hL
 refine (swageref06_Rows.calls 9 Aa ca [[1],[1],[1]] (some ⟨w6.heap.size+1+1+1,0,none⟩) 3 [[1],[1],[1]] true _ (Kd.C_below HCA.out hbw8) HKA.out hL (by decide) rows_same1).mono ?_
 rintro e w9 ⟨rfl,hd⟩
 have hb9:=below_then hbw8 hbw8.size hd.below
 have HC9:=ak_ (Kd.C_below HC6.out hb9)
 have HX9:=ak_ (blk_below HX6.out hb9)
 have HB9:=ak_ (below_then HB6.out HB6.out.size hb9)
 have HS9:=ak_ (Kd.C_below HS6.out hb9)
 have HY9:=ak_ (blk_below HY6.out hb9)
 clear HC6
 clear HX6
 clear HB6
 clear HS6
 clear HY6
 have c0:=bc_ HX9 0
 have c1:=bc_ HX9 1
 have d0:=bc_ HY9 0
 have d1:=bc_ HY9 1
 simp only [ga_,gb_,gc_] at c0 c1 d0 d1
 clear hb1 hb2 hb3 hl1 hl2 hl3 ht hbw hsz7 hb8 hbw8 hL hd hb9 HCA HKA
 go_wp2_with fail
 refine (dead_ok 0 (some ⟨w.heap.size+1,0,none⟩) 1 bsT _ HC9.out t_right).mono ?_
 rintro e w10 ⟨v10,rfl,ho,hb⟩
 have hdt:deadP bsT (plcs bsT bsT.length)=[(0,1)]:=t_dead
 rw [hdt] at ho
 obtain ⟨Dd,cd,rfl⟩:=own_slice ho
 have HPA:=ak_ (PrAt.of_own ho)
 have HC10:=ak_ (Kd.C_below HC9.out hb)
 have HX10:=ak_ (blk_below HX9.out hb)
 have HB10:=ak_ (below_then HB9.out HB9.out.size hb)
 have HS10:=ak_ (Kd.C_below HS9.out hb)
 have HY10:=ak_ (blk_below HY9.out hb)
 clear HC9
 clear HX9
 clear HB9
 clear HS9
 clear HY9
 clear c0 c1 d0 d1
 clear ho hb hdt
 go_wp2_with fail
 have hbA:=below_alloc (Below.refl w10.heap.size w10) (.cells #[.int .i64 0,.int .i64 1] 68)
 have hPL:PrAt (w10.alloc (.cells #[.int .i64 0,.int .i64 1] 68)) (some ⟨w10.heap.size,0,none⟩) [(0,1)]:=fun j hj=>by
  obtain rfl:j=0:=by simp at hj;omega
  exact ⟨_,rfl,by rw [Addr.add_lit];exact blk_cell (blk_new w10 (.cells #[.int .i64 0,.int .i64 1] 68)) 0,by simp only [Addr.add_lit];exact blk_cell (blk_new w10 (.cells #[.int .i64 0,.int .i64 1] 68)) 1⟩
 refine (pairs_same Dd cd (some ⟨w10.heap.size,0,none⟩) 1 [(0,1)] _ (HPA.out.below hbA) hPL (by decide)).mono ?_
 rintro e w11 ⟨rfl,hb⟩
 have hb11:=below_then hbA hbA.size hb
 have HC11:=ak_ (Kd.C_below HC10.out hb11)
 have HX11:=ak_ (blk_below HX10.out hb11)
 have HB11:=ak_ (below_then HB10.out HB10.out.size hb11)
 have HS11:=ak_ (Kd.C_below HS10.out hb11)
 have HY11:=ak_ (blk_below HY10.out hb11)
 clear HC10
 clear HX10
 clear HB10
 clear HS10
 clear HY10
 have c0:=bc_ HX11 0
 have c1:=bc_ HX11 1
 have d0:=bc_ HY11 0
 have d1:=bc_ HY11 1
 simp only [ga_,gb_,gc_] at c0 c1 d0 d1
 obtain ⟨ads,A5,c5,eS,k0,_⟩:=at_T50 HS11.out 0 (by decide) (by decide)
 have el:(rd_T50 bsS 0).f0.length=2:=rfl
 rw [el] at k0
 subst eS
 have k0:w11.cell? ads=some (.slice A5 2 c5):=by simpa [Addr.add] using k0
 clear hbA hPL hb hb11 HPA el
 go_wp2_with fail
 refine (most_ok 0 (some ⟨w.heap.size+1,0,none⟩) 1 bsT _ HC11.out t_right).mono ?_
 rintro e w12 ⟨m,rfl,hm,hb⟩
 obtain rfl:=t_most hm
 have HC12:=ak_ (Kd.C_below HC11.out hb)
 have HX12:=ak_ (blk_below HX11.out hb)
 have HB12:=ak_ (below_then HB11.out HB11.out.size hb)
 have HS12:=ak_ (Kd.C_below HS11.out hb)
 have HY12:=ak_ (blk_below HY11.out hb)
 clear HC11
 clear HX11
 clear HB11
 clear HS11
 clear HY11
 clear c0 c1 d0 d1
 have c0:=bc_ HX12 0
 have c1:=bc_ HX12 1
 have d0:=bc_ HY12 0
 have d1:=bc_ HY12 1
 simp only [ga_,gb_,gc_] at c0 c1 d0 d1
 clear hm hb k0
 go_wp2_with fail
 refine (in_ok 0 (some ⟨w.heap.size+1,0,none⟩) 1 bsT _ HC12.out t_right).mono ?_
 rintro e w13 ⟨v13,rfl,hr,hb⟩
 rw [t_in] at hr
 obtain ⟨Ai,ci,rfl,ki,hCi⟩:=Kd.R_reads hr
 have HC13:=ak_ (Kd.C_below HC12.out hb)
 have HX13:=ak_ (blk_below HX12.out hb)
 have HB13:=ak_ (below_then HB12.out HB12.out.size hb)
 have HS13:=ak_ (Kd.C_below HS12.out hb)
 have HY13:=ak_ (blk_below HY12.out hb)
 clear HC12
 clear HX12
 clear HB12
 clear HS12
 clear HY12
 clear c0 c1 d0 d1
 have HCI:=ak_ hCi
 have HKI:=ak_ ki
 clear hr hb hCi ki
 go_wp2_with fail
 have hbA:=below_alloc (Below.refl w13.heap.size w13) (.cells #[.slice none 0 0] 31)
 have hL:Kd.C (Kd.slice 3 (Kd.int .i64)) (w13.alloc (.cells #[.slice none 0 0] 31)) (some ⟨w13.heap.size,0,none⟩) 1 [[]]:=litRows (gs:=[(none,0,0)]) (blk_new w13 _) (Tells.one (C0 _) (by decide)) (by decide)
 refine (swageref06_Rows.calls 9 Ai ci [[]] (some ⟨w13.heap.size,0,none⟩) 1 [[]] true _ (Kd.C_below HCI.out hbA) HKI.out hL (by decide) rows_same2).mono ?_
 rintro e w14 ⟨rfl,hd⟩
 have hb14:=below_then hbA hbA.size hd.below
 have HC14:=ak_ (Kd.C_below HC13.out hb14)
 have HX14:=ak_ (blk_below HX13.out hb14)
 have HB14:=ak_ (below_then HB13.out HB13.out.size hb14)
 have HS14:=ak_ (Kd.C_below HS13.out hb14)
 have HY14:=ak_ (blk_below HY13.out hb14)
 clear HC13
 clear HX13
 clear HB13
 clear HS13
 clear HY13
 have c0:=bc_ HX14 0
 have c1:=bc_ HX14 1
 have d0:=bc_ HY14 0
 have d1:=bc_ HY14 1
 simp only [ga_,gb_,gc_] at c0 c1 d0 d1
 clear hbA hL hd hb14 HCI HKI
 go_wp2_with fail
 refine (out_ok 0 (some ⟨w.heap.size+1,0,none⟩) 1 bsT _ HC14.out t_right).mono ?_
 rintro e w15 ⟨v15,rfl,hr,hb⟩
 rw [t_out] at hr
 obtain ⟨Ao,co,rfl,ko,hCo⟩:=Kd.R_reads hr
 have HC15:=ak_ (Kd.C_below HC14.out hb)
 have HX15:=ak_ (blk_below HX14.out hb)
 have HB15:=ak_ (below_then HB14.out HB14.out.size hb)
 have HS15:=ak_ (Kd.C_below HS14.out hb)
 have HY15:=ak_ (blk_below HY14.out hb)
 clear HC14
 clear HX14
 clear HB14
 clear HS14
 clear HY14
 clear c0 c1 d0 d1
 have HCO:=ak_ hCo
 have HKO:=ak_ ko
 clear hr hb hCo ko
 go_wp2_with fail
 have hbA:=below_alloc (Below.refl w15.heap.size w15) (.cells #[.slice none 0 0] 31)
 have hL:Kd.C (Kd.slice 3 (Kd.int .i64)) (w15.alloc (.cells #[.slice none 0 0] 31)) (some ⟨w15.heap.size,0,none⟩) 1 [[]]:=litRows (gs:=[(none,0,0)]) (blk_new w15 _) (Tells.one (C0 _) (by decide)) (by decide)
 refine (swageref06_Rows.calls 9 Ao co [[]] (some ⟨w15.heap.size,0,none⟩) 1 [[]] true _ (Kd.C_below HCO.out hbA) HKO.out hL (by decide) rows_same2).mono ?_
 rintro e w16 ⟨rfl,hd⟩
 have hb16:=below_then hbA hbA.size hd.below
 have HC16:=ak_ (Kd.C_below HC15.out hb16)
 have HX16:=ak_ (blk_below HX15.out hb16)
 have HB16:=ak_ (below_then HB15.out HB15.out.size hb16)
 have HS16:=ak_ (Kd.C_below HS15.out hb16)
 have HY16:=ak_ (blk_below HY15.out hb16)
 clear HC15
 clear HX15
 clear HB15
 clear HS15
 clear HY15
 clear hbA hL hd hb16 HCO HKO
 go_wp2_with fail
 go_ret
 exact ⟨rfl,HB16.out⟩
end Go.Proofs.YtnkgbnbbmcoiiaaGreat.S
