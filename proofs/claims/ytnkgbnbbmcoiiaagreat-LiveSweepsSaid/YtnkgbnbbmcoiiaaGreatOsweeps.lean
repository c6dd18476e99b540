import Derived.Test.YtnkgbnbbmcoiiaaGreatBk
import Derived.Test.YtnkgbnbbmcoiiaaGreatLap17
import Derived.Test.YtnkgbnbbmcoiiaaGreatLsm17
import Derived.Test.YtnkgbnbbmcoiiaaGreatOdead17
import Derived.Test.YtnkgbnbbmcoiiaaGreatOsmall17
import Derived.Test.YtnkgbnbbmcoiiaaGreatOapp
import Derived.Deep.LoopGhost
import Derived.Test.YtnkgbnbbmcoiiaaGreatLtz
import Derived.Test.YtnkgbnbbmcoiiaaGreatOright
namespace Go.Proofs.YtnkgbnbbmcoiiaaGreat.S
open Go.RowKit Go.IM Go.RelRegion Go.Proofs.YtnkgbnbbmcoiiaaGreatW.PrintWords Go.Proofs.YtnkgbnbbmcoiiaaGreatW.PrintLast Go.Proofs.YtnkgbnbbmcoiiaaGreatW.PrintMore
set_option linter.unusedVariables false
set_option linter.unusedSimpArgs false
/-! ### swageref17.Sweep -/
structure RwI (w W:World) (p:Int) (cur:List S50) (g c:Nat):Prop where mk ::
 bel:Below w.heap.size w W
 b1:W.heap[w.heap.size]?=some (.cells #[.int .i64 p,.slice (some ⟨g,0,none⟩) cur.length c] 24 (0,0))
 b2:W.heap[w.heap.size+1]?=some (.cells #[.int .i64 0,.slice none 0 0] 24 (0,0))
 gt:w.heap.size+2≤g
 cap:cur.length≤c
 br:∃ bg cs,BR (fun k=>k=g∨k<w.heap.size+2) W g cur bg cs
theorem RwI.below {w W W' : World} {p:Int} {cur:List S50} {g c:Nat} (h:RwI w W p cur g c) (hb:Below W.heap.size W W'):RwI w W' p cur g c :=
 ⟨below_then h.bel h.bel.size hb,blk_below h.b1 hb,blk_below h.b2 hb,h.gt,h.cap,by
  obtain ⟨bg,cs,hbr⟩:=h.br
  exact ⟨bg,cs,hbr.step (KP.of_below hb) (hb.block g (blk_lt hbr.blk))⟩⟩
theorem RwI.lt {w W:World} {p:Int} {cur:List S50} {g c:Nat} (h:RwI w W p cur g c):g<W.heap.size:=by
 obtain ⟨bg,cs,hbr⟩:=h.br
 exact blk_lt hbr.blk
theorem RwI.C {w W:World} {p:Int} {cur:List S50} {g c:Nat} (h:RwI w W p cur g c) (hl:cur.length≤4096):Kd.C k50 W (some ⟨g,0,none⟩) cur.length cur:=by
 obtain ⟨bg,cs,hbr⟩:=h.br
 exact hbr.C (Nat.le_trans hl (by decide))
theorem RwI.put {w W:World} {p:Int} {cur:List S50} {g c:Nat} (h:RwI w W p cur g c) {b:Nat} (hb:b<cur.length) (xs:List S45) {A:Option Addr} {c' : Nat} (hc:xs.length≤c') (hm:xs.length≤9223372036854775807) (hst:OpsS (fun k=>k=g∨k<w.heap.size+2) W A xs) :
  RwI w (W.setCell ⟨g,b*5,none⟩ (.slice A xs.length c')) p (cur.set b ⟨xs,(rd_T50 cur (b:Int)).f1⟩) g c:=by
 have hg:=h.gt
 refine ⟨below_set h.bel _ _ (by show w.heap.size≤g;omega),?_,blk_far h.b2 (by show w.heap.size+1≠g;omega) _,h.gt,by rw [List.length_set];exact h.cap,?_⟩
 ·rw [List.length_set]
  exact blk_far h.b1 (by show w.heap.size≠g;omega) _
 ·obtain ⟨bg,cs,hbr⟩:=h.br
  exact ⟨_,_,hbr.put hb (.inl rfl) xs hc hm hst⟩
def RwQ (w:World) (p:Int) (bs:List S50) (g c m:Nat) (W:World):Prop:=∃ cur,RwI w W p cur g c∧RightP p cur 256∧Fits cur∧(∀ s,SweepOf cur s→SweepOf bs s)∧tot cur=m
theorem cut_tail {xs:List S45} {ad:Addr} {og:Nat→Option Addr × Nat} {k cx:Nat} (hk:k<xs.length) (hc:xs.length≤cx):∃ ad9:Addr,(if cx=k+1 then some ad else (some ad).map (·.add ((k+1)*6)))=some ad9∧∀ W,OpsAt W (some ad) xs og→∀ (j:Nat) (u:Value),((opsQ xs og).drop ((k+1)*6))[j]?=some u→W.cell? (ad9.add j)=some u:=by
 by_cases e:cx=k+1
 ·refine ⟨ad,if_pos e,fun W _ j u hu=>?_⟩
  rw [List.drop_eq_nil_of_le (by rw [opsQ_len];omega)] at hu
  simp at hu
 ·refine ⟨ad.add ((k+1)*6),if_neg e,fun W h j u hu=>?_⟩
  rw [add_add]
  rw [List.getElem?_drop] at hu
  exact h.cells _ u hu
theorem wrk {n k:Nat} (h:k<n) (hn:n≤1000000000000):wrap64 ((k:Int)+1)=(k:Int)+1:=by
 unfold wrap64
 omega
theorem toN1 (k:Nat):((k:Int)+1).toNat=k+1:=by omega
def rwE:Nat→Option (List Nat)
 | 3=>some []
 | 7=>some [3]
 | 12=>some [7]
 | _=>none
theorem sub1w {n:Nat} (h:n≤16384):wrap64 ((n:Int) - 1)=(n:Int) - 1:=by
 unfold wrap64
 omega
theorem dnw (k:Nat):(intOf (.int .i64 ((k:Int) - 1))+1).toNat<(intOf (.int .i64 (k:Int))+1).toNat:=by
 simp only [intOf]
 omega
set_option maxHeartbeats 16000000 in
set_option maxRecDepth 100000 in
theorem rsweep_ok (p:Int) (A:Option Addr) (c:Nat) (bs:List S50) (w:World) (hF:Fits bs) (hR:rightF p bs 256=true) (hC:Kd.C k50 w A bs.length bs) (hc:bs.length≤c) :
  Calls Tryz.prog 33 #[.agg #[.int .i64 p,.slice A bs.length c]] w fun e w'=>∃ A' c' s,e=.returned (.agg #[.int .i64 p,.slice A' s.length c'])∧s.length≤c'∧SweepOf bs s∧Kd.C k50 w' A' s.length s∧Below w.heap.size w w':=by
 have hu24:=Tryz.underlying24
 have RP:=ak_ (rightF_iff hR)
 have HFT:=ak_ hF
 obtain ⟨kc,hkc⟩:=r14_copy p bs hF
 have HKC:=ak_ (hkc kc (Nat.le_refl _))
 have HCc:=ak_ hc
 have hbA:=below_alloc (below_alloc (Below.refl w.heap.size w) (.cells #[.int .i64 p,.slice A bs.length c] 24)) (.cells #[.int .i64 0,.slice none 0 0] 24)
 have hx1:=blk_alloc (blk_new w (.cells #[.int .i64 p,.slice A bs.length c] 24)) (.cells #[.int .i64 0,.slice none 0 0] 24)
 have hx2:=blk_new (w.alloc (.cells #[.int .i64 p,.slice A bs.length c] 24)) (.cells #[.int .i64 0,.slice none 0 0] 24)
 have hsz:((w.alloc (.cells #[.int .i64 p,.slice A bs.length c] 24)).alloc (.cells #[.int .i64 0,.slice none 0 0] 24)).heap.size=w.heap.size+2:=by rw [World.size_alloc,World.size_alloc]
 rw [World.size_alloc] at hx2
 have HCA:=ak_ (Kd.C_below hC hbA)
 have HBA:=ak_ hbA
 have HX1:=ak_ hx1
 have HX2:=ak_ hx2
 have HSZ:=ak_ hsz
 clear hC hR hF hc hkc hbA hx1 hx2 hsz
 go_enter Tryz.func33,Tryz.ntmps33
 go_wp2_with (go_at_call 8;refine (swageref14_Copy.calls kc p A c bs p bs _ HCA.out HCc.out HKC.out).mono ?_;rintro e w1 ⟨v,rfl,hr,hb⟩;obtain ⟨A1,c1,rfl⟩:=Kd.R_slice hr;have HRR:=ak_ hr;have HB1:=ak_ (below_then HBA.out HBA.out.size hb);have HX11:=ak_ (blk_below HX1.out hb);have HX21:=ak_ (blk_below HX2.out hb);have s0:=bc_ HX11 0;have s1:=bc_ HX11 1;have f0:=fz_ HX11 0;have f1:=fz_ HX11 1;simp only [ga_,gb_,gc_] at s0 s1;clear hr hb)
 clear s0 s1 f0 f1
 obtain ⟨g,bg1,cs1,rfl,hg,hbr⟩:=br_of_R HRR.out RP.out.len.1
 rw [HSZ.out] at hg hbr
 have HCAP:Aside0 (bs.length≤c1):=⟨(Kd.R_reads' HRR.out).2.1⟩
 have HP:Aside0 (RwQ w p bs g c1 (tot bs) ((w1.setCell ⟨w.heap.size,0,none⟩ (.int .i64 p)).setCell ⟨w.heap.size,1,none⟩ (.slice (some ⟨g,0,none⟩) bs.length c1))):=⟨by
  refine ⟨bs,⟨below_set (below_set HB1.out _ _ (Nat.le_refl _)) _ _ (Nat.le_refl _),?_,?_,hg,HCAP.out,bg1,cs1,?_⟩,RP.out,HFT.out,fun s h=>h,rfl⟩
  ·exact blk_set (blk_set HX11.out 0 (.int .i64 p)) 1 (.slice (some ⟨g,0,none⟩) bs.length c1)
  ·exact blk_far (blk_far HX21.out (by simp) _) (by simp) _
  ·refine (hbr.step (KP.setCell _ _ _ (.inr (Nat.lt_succ_of_lt (Nat.lt_succ_self _)))) (Below.heap_setCell _ _ _ g (by show g≠w.heap.size;omega))).step (KP.setCell _ _ _ (.inr (Nat.lt_succ_of_lt (Nat.lt_succ_self _)))) (Below.heap_setCell _ _ _ g (by show g≠w.heap.size;omega))⟩
 clear hg hbr
 generalize (w1.setCell ⟨w.heap.size,0,none⟩ (.int .i64 p)).setCell ⟨w.heap.size,1,none⟩ (.slice (some ⟨g,0,none⟩) bs.length c1)=W1 at HP ⊢
 clear HCA HBA HX1 HX2 HSZ HRR HB1 HX11 HX21 HCAP HKC HCc HFT
 go_loopw [3] (fun _ wr=>∃ m,RwQ w p bs g c1 m wr) (fun _ wr=>leastOf fun m=>RwQ w p bs g c1 m wr)
 case atStart=>exact ⟨_,HP.out⟩
 case round =>
  clear HP RP
  obtain ⟨hls,hmin⟩:=leastOf_spec hrel
  have HMIN:=ak_ hmin
  obtain ⟨cur,hsw,hright,hfits,hway,htot⟩:=hls
  have HSW:=ak_ hsw
  have HRP:=ak_ hright
  have HFT:=ak_ hfits
  have HWAY:=ak_ hway
  have HTOT:=ak_ htot
  have c0:=blk_cell hsw.b1 0
  have c1':=blk_cell hsw.b1 1
  simp only [ga_,gb_,gc_] at c0 c1'
  have HCC:=ak_ (hsw.C hright.len.2)
  have HDL:Aside0 ((deadL cur).length≤16384):=⟨Nat.le_trans (deadP_len _ _) hright.few⟩
  clear hrel hmin hsw hright hfits hway htot
  by_cases hd:deadL cur=[]
  ·have HD0:=ak_ hd
   go_wp2_with (go_at_call 31;refine (dead17_ok p (some ⟨g,0,none⟩) c1 cur _ HFT.out (rightF_of HRP.out) HCC.out HSW.out.cap).mono ?_;rintro e w2 ⟨v,rfl,ho,hb⟩;obtain ⟨Dd,cd,rfl⟩:=own_slice ho;have hdl:(deadP cur (plcs cur cur.length)).length=0:=(congrArg List.length HD0.out);rw [hdl] at ho ⊢;have HB2:=ak_ hb;have hc0:=blk_cell (blk_below HSW.out.b1 hb) 0;have hc1:=blk_cell (blk_below HSW.out.b1 hb) 1;have d0:=blk_cell (blk_below HSW.out.b2 hb) 0;have d1:=blk_cell (blk_below HSW.out.b2 hb) 1;have e0:=blk_frozen (blk_below HSW.out.b2 hb) 0;have e1:=blk_frozen (blk_below HSW.out.b2 hb) 1;simp only [ga_,gb_,gc_] at hc0 hc1 d0 d1;clear ho hb hdl)
   have hz:=blk_set (blk_set (blk_below HSW.out.b2 HB2.out) 0 (.int .i64 p)) 1 (.slice (some ⟨g,0,none⟩) cur.length c1)
   have hb1:=below_set (below_set (below_then HSW.out.bel HSW.out.bel.size HB2.out) ⟨w.heap.size+1,0,none⟩ (.int .i64 p) (Nat.le_succ _)) ⟨w.heap.size+1,1,none⟩ (.slice (some ⟨g,0,none⟩) cur.length c1) (Nat.le_succ _)
   have hC2:Kd.C k50 ((w2.setCell ⟨w.heap.size+1,0,none⟩ (.int .i64 p)).setCell ⟨w.heap.size+1,1,none⟩ (.slice (some ⟨g,0,none⟩) cur.length c1)) (some ⟨g,0,none⟩) cur.length cur:=by
    obtain ⟨bg,cs,hbr⟩:=(HSW.out.below HB2.out).br
    have hgt:=HSW.out.gt
    have h2:(fun k=>k=g∨k<w.heap.size+2) (w.heap.size+1):=.inr (Nat.lt_succ_self _)
    exact ((hbr.step (KP.setCell _ _ _ h2) (Below.heap_setCell _ _ _ g (by show g≠w.heap.size+1;omega))).step (KP.setCell _ _ _ h2) (Below.heap_setCell _ _ _ g (by show g≠w.heap.size+1;omega))).C (Nat.le_trans HRP.out.len.2 (by decide))
   generalize (w2.setCell ⟨w.heap.size+1,0,none⟩ (.int .i64 p)).setCell ⟨w.heap.size+1,1,none⟩ (.slice (some ⟨g,0,none⟩) cur.length c1)=W2 at hz hb1 hC2 ⊢
   have z0:=blk_cell hz 0
   have z1:=blk_cell hz 1
   simp at z0 z1
   refine bodyPost_ret (v:=.agg #[.int .i64 p,.slice (some ⟨g,0,none⟩) cur.length c1]) (by simp [results,Tryz.results33,go_sem,hu24,z0,z1]) rfl ?_
   exact ⟨some ⟨g,0,none⟩,c1,cur,rfl,HSW.out.cap,HWAY.out _ (.done HD0.out),hC2,hb1⟩
  ·have hlt:=List.length_pos_iff.2 hd
   have HD0:=ak_ hd
   clear hd
   have b1:((deadL cur).length:Int)≠0:=by omega
   have b2:decide (((deadL cur).length:Int)=0)=false:=decide_eq_false b1
   have b3:(((deadL cur).length:Int) == 0)=false:=by simpa using b1
   have HASC:=ak_ (deadL_lt cur)
   have HVAL:Aside0 (∀ q∈deadL cur,q.1<cur.length∧q.2<opLen cur q.1):=⟨fun q hq=>(mem_deadL.1 hq).1⟩
   obtain ⟨DL,hDL⟩:∃ DL,deadL cur=DL:=⟨_,rfl⟩
   rw [hDL] at hlt b1 b2 b3 HASC HVAL HDL
   have HDE:=ak_ hDL
   clear hDL
   have hwd:wrap64 ((DL.length:Int) - 1)=(DL.length:Int) - 1:=sub1w HDL.out
   go_wp2_with (go_at_call 31;refine (dead17_ok p (some ⟨g,0,none⟩) c1 cur _ HFT.out (rightF_of HRP.out) HCC.out HSW.out.cap).mono ?_;rintro e w2 ⟨v,rfl,ho,hb⟩;obtain ⟨Dd,cd,rfl⟩:=own_slice ho;have hde:deadP cur (plcs cur cur.length)=DL:=HDE.out;rw [hde] at ho ⊢;have HOD:=ak_ ho;have HSW2:=ak_ (HSW.out.below hb);have HW2:=ak_ hb;clear ho hb hde c0 c1')
   clear b1 b2 b3
   go_loopw [4] (fun i wi=>∃ m:Nat,m≤DL.length∧i=.int .i64 ((m:Int) - 1)∧Aside0 (RwI w wi p (woutL cur (DL.drop m)) g c1)∧Aside0 (wi.ownsRow wr.heap.size 68 2 (.slice Dd DL.length cd) DL.length (prCs DL))) (fun i _=>(intOf i+1).toNat)
   case atStart=>exact ⟨DL.length,Nat.le_refl _,by first|(with_reducible rfl)|rw [hwd],⟨by rw [List.drop_length,woutL_nil];exact HSW2.out⟩,HOD⟩
   case round =>
    try clear hwd
    clear HSW2 HOD
    obtain ⟨m,hm,rfl,HSI,HOD⟩:=hrel
    cases m with
    | zero =>
     have hz:((0:Nat):Int) - 1=-1:=rfl
     rw [hz]
     clear hz
     go_wp2_with fail
     go_roundw
     case rel =>
      have h:=HSI.out
      rw [List.drop_zero] at h
      exact ⟨tot (woutL cur DL),woutL cur DL,h,HRP.out.wout DL,HFT.out.wout DL,fun s hs=>HWAY.out s (.step (HDE.out▸HD0.out) (by rw [HDE.out];exact hs)),rfl⟩
     case measure =>
      have h:=HSI.out
      rw [List.drop_zero] at h
      have hq:RwQ w p bs g c1 (tot (woutL cur DL)) _:=⟨woutL cur DL,h,HRP.out.wout DL,HFT.out.wout DL,fun s hs=>HWAY.out s (.step (HDE.out▸HD0.out) (by rw [HDE.out];exact hs)),rfl⟩
      have h1:=(leastOf_spec (p:=fun m=>RwQ w p bs g c1 m _) ⟨_,hq⟩).2 _ hq
      have h2:=tot_wout HD0.out
      rw [HDE.out,HTOT.out] at h2
      exact Nat.lt_of_le_of_lt h1 h2
    | succ q =>
     have ek:((q+1:Nat):Int) - 1=(q:Int):=by omega
     rw [ek]
     clear ek
     have hqn:q<DL.length:=hm
     have hq0:(0:Int)≤(q:Int):=Int.natCast_nonneg q
     have hq1:decide ((0:Int)≤(q:Int))=true:=decide_eq_true hq0
     have hq2:decide ((q:Int)<(DL.length:Int))=true:=decide_eq_true (Int.ofNat_lt.2 hm)
     obtain ⟨add,eD,h0,h1⟩:=(PrAt.of_own HOD.out) q hm
     subst eD
     obtain ⟨st1,st2,st3⟩:=strike HASC.out HVAL.out hm
     have HST:=ak_ st3
     have HL:Aside0 ((woutL cur (DL.drop (q+1))).length=cur.length):=⟨woutL_length _ _⟩
     have hxl:(rd_T50 (woutL cur (DL.drop (q+1))) ((DL[q]).1:Int)).f0.length≤16384:=by
      rw [rd_woutL st1]
      refine Nat.le_trans (opsW_len _ _ _ _) ?_
      exact HRP.out.opLen_le _
     have HXL:=ak_ hxl
     clear st3 hxl
     generalize DL[q]=dq at h0 h1 st1 st2 HST HXL
     obtain ⟨b,k⟩:=dq
     simp only at h0 h1 st1 st2
     have HST:Aside0 (woutL cur (DL.drop q)=(woutL cur (DL.drop (q+1))).set b ⟨(rd_T50 (woutL cur (DL.drop (q+1))) (b:Int)).f0.take k++(rd_T50 (woutL cur (DL.drop (q+1))) (b:Int)).f0.drop (k+1),(rd_T50 (woutL cur (DL.drop (q+1))) (b:Int)).f1⟩):=HST
     have HXL:Aside0 ((rd_T50 (woutL cur (DL.drop (q+1))) (b:Int)).f0.length≤16384):=HXL
     generalize woutL cur (DL.drop (q+1))=L at HSI HST HL HXL st2
     have hbl:b<L.length:=by rw [HL.out];exact st1
     have HBL:=ak_ hbl
     have hb0:(0:Int)≤(b:Int):=Int.natCast_nonneg b
     have hb1:decide ((b:Int)<(L.length:Int))=true:=decide_eq_true (Int.ofNat_lt.2 hbl)
     have hb2:(b:Int)<(L.length:Int):=Int.ofNat_lt.2 hbl
     have hb3:decide ((0:Int)≤(b:Int))=true:=decide_eq_true hb0
     obtain ⟨bg,cs,hbr⟩:=HSI.out.br
     have k0:wr.cell? ⟨g,b*5,none⟩=_:=hbr.cells hbl 0 _ rfl
     obtain ⟨-,hcap,-,og,hog⟩:=hbr.el b hbl
     have HOG:=ak_ hog
     have HX43:Aside0 (∀ xs,(rd_T50 L (b:Int)).f0=xs→∀ A9 c9 W,RwI w W p L g c1→(xs.take k++xs.drop (k+1)).length≤c9→OpsS (fun k=>k=g∨k<w.heap.size+2) W A9 (xs.take k++xs.drop (k+1))→RwI w (W.setCell ⟨g,b*5,none⟩ (.slice A9 (xs.take k++xs.drop (k+1)).length c9)) p (woutL cur (DL.drop q)) g c1):=⟨fun xs e A9 c9 W hI hc9 hst=>by
      rw [HST.out,e]
      refine hI.put HBL.out (xs.take k++xs.drop (k+1)) hc9 ?_ hst
      have:=HXL.out
      rw [e] at this
      rw [List.length_append,List.length_take,List.length_drop]
      omega⟩
     generalize (rd_T50 L (b:Int)).f0=xs at k0 st2 hcap HOG HX43 HXL
     have HX43:=ak_ (HX43.out xs rfl)
     clear hog hbr HST
     obtain ⟨ax,hax⟩:∃ ax,bg b=ax:=⟨_,rfl⟩
     rw [hax] at k0 HOG hcap
     obtain ⟨Ax,cx⟩:=ax
     simp only at k0 hcap
     have HOG:Aside0 (St (fun k=>k=g∨k<w.heap.size+2) wr (fun w'=>OpsAt w' Ax xs og)):=HOG
     clear hax
     obtain ⟨⟨adx,eA,-⟩,-,-⟩:=HOG.out.now k st2
     subst eA
     have HKL:=ak_ st2
     have HCX:=ak_ hcap
     have hk0:(0:Int)≤(k:Int):=Int.natCast_nonneg k
     obtain ⟨i0,hii,hzz⟩:=Option.map_eq_some_iff.1 info45c
     simp only [Prod.mk.injEq] at hzz
     have hcut1:=cut_to (P:=Tryz.prog) 46 45 .i64 Tryz.underlying46 hii (some adx) xs.length cx (k:Int) hk0 (by omega) hcap
     simp only [Int.toNat_natCast] at hcut1
     have hcut2:=cut_from (P:=Tryz.prog) 46 45 .i64 Tryz.underlying46 hii 6 hzz.2.1 (some adx) xs.length cx ((k:Int)+1) (by omega) (by omega)
     rw [toN1] at hcut2
     obtain ⟨ad9,hA9,hrd9⟩:=cut_tail (ad:=adx) (og:=og) st2 hcap
     rw [hA9] at hcut2
     have HR9:=ak_ hrd9
     obtain ⟨r,hr⟩:∃ r,xs.length - (k+1)=r:=⟨_,rfl⟩
     rw [hr] at hcut2
     have HRR:Aside0 (k+1+r=xs.length):=⟨by omega⟩
     generalize cx - (k+1)=c9 at hcut2
     clear hii hzz hA9 hrd9 hr
     have c0:=blk_cell HSI.out.b1 0
     have c1':=blk_cell HSI.out.b1 1
     simp only [ga_,gb_,gc_] at c0 c1'
     have fG:wr.frozen? ⟨g,b*5,none⟩=false:=by
      obtain ⟨bg,cs,hbr⟩:=HSI.out.br
      exact blk_frozen hbr.blk _
     have HGL:=ak_ HSI.out.lt
     have hwk:wrap64 ((k:Int)+1)=(k:Int)+1:=wrk st2 (Nat.le_trans HXL.out (by decide))
     have hwq:wrap64 ((q:Int) - 1)=(q:Int) - 1:=sub1w (Nat.le_trans (Nat.le_of_lt hqn) HDL.out)
     clear st1 hcap hm
     go_wp2_with fail
     clear hq0 hq1 hq2 h0 h1
     obtain ⟨olds,holds⟩:∃ olds,(opsQ xs og).take (k*6)=olds:=⟨_,rfl⟩
     obtain ⟨news,hnews⟩:∃ news,(opsQ xs og).drop ((k+1)*6)=news:=⟨_,rfl⟩
     have hlo:olds.length=k*6:=by
      rw [← holds,List.length_take,opsQ_len]
      exact Nat.min_eq_left (Nat.mul_le_mul_right _ (Nat.le_of_lt HKL.out))
     have hln:news.length=r*6:=by
      rw [← hnews,List.length_drop,opsQ_len,← HRR.out,Nat.add_mul,Nat.add_sub_cancel_left]
     have h1o:∀ u∈olds,u.oneCell'=true:=fun u hu=>opsQ_one xs og u (List.mem_of_mem_take (holds▸hu))
     have h1n:∀ u∈news,u.oneCell'=true:=fun u hu=>opsQ_one xs og u (List.mem_of_mem_drop (hnews▸hu))
     have hoc:∀ W,Below wr.heap.size wr W→∀ (j:Nat) (u:Value),olds[j]?=some u→W.cell? (adx.add j)=some u:=fun W hW j u hu=>by
      refine (HOG.out.step (KP.of_below hW)).now.cells j u ?_
      have hj:=(List.getElem?_eq_some_iff.1 hu).1
      rw [← holds,List.getElem?_take_of_lt (by rw [← hlo];exact hj)] at hu
      exact hu
     have hnc:∀ W,Below wr.heap.size wr W→∀ (j:Nat) (u:Value),news[j]?=some u→W.cell? (ad9.add j)=some u:=fun W hW j u hu=>by
      refine HR9.out W (HOG.out.step (KP.of_below hW)).now j u ?_
      rw [hnews]
      exact hu
     have hlen:(xs.take k++xs.drop (k+1)).length=k+r:=by
      rw [List.length_append,List.length_take,List.length_drop,Nat.min_eq_left (Nat.le_of_lt HKL.out),← HRR.out,Nat.add_sub_cancel_left]
     have hfin:∀ W cur9 g9,Below wr.heap.size wr W→wr.heap.size≤g9→W.heap[g9]?=some (.cells cur9 45 (0,0))→(∀ (j:Nat) (u:Value),olds[j]?=some u→cur9[j]?=some u)→(∀ (j:Nat) (u:Value),news[j]?=some u→cur9[k*6+j]?=some u)→OpsS (fun k=>k=g∨k<w.heap.size+2) W (some ⟨g9,0,none⟩) (xs.take k++xs.drop (k+1)):=fun W cur9 g9 hW hg9 hb9 ho hn=>by
      have hor:OR (fun k=>k=g∨k<w.heap.size+2) W g9 (xs.take k++xs.drop (k+1)) (fun i=>if i<k then og i else og (i+1)) cur9:=by
       refine cutOR HKL.out hb9 (by rw [holds];exact ho) (by rw [hnews];exact hn) (fun i hi=>⟨(HOG.out.now i hi).cap,?_⟩)
       exact (HOG.out.imp (fun w' h=>(h i hi).row)).step (KP.of_below hW)
      have hgl:=HGL.out
      have hgt:=HSI.out.gt
      exact hor.stS (fun h=>by omega) (fun k h=>h)
     have HLO:=ak_ hlo
     have HLN:=ak_ hln
     have H1O:=ak_ h1o
     have H1N:=ak_ h1n
     have HOC:=ak_ hoc
     have HNC:=ak_ hnc
     have HFIN:=ak_ hfin
     have HLEN:=ak_ hlen
     have HSUM:Aside0 (k+r≤1000000000):=⟨by have h1:=HXL.out;have h2:=HRR.out;omega⟩
     clear holds hnews hlo hln h1o h1n hoc hnc hfin hlen
     refine wp_region_rel 13 rwE (fun n=>[n]) (RQ wr.heap.size k r olds news) (fun w'=>Below wr.heap.size wr w') (ZT wr.heap.size (k*6) news) (by kernel_rfl) (by kernel_rfl) (below_drew (Below.refl _ _)) (fun a b h t=>ZT.cls h t h.size) (fun n vs a b h t=>RQ.keep HLO.out n vs a b h t) ?_
     simp only [List.take_succ_cons,List.take_zero,List.drop_succ_cons,List.drop_zero]
     iterate 13 (first|(refine relQ_loud rfl ?_)|(apply relQ_step rfl;apply Exists.intro;constructor;(focus (intro w' hw';have c1':=pw_cell_below hw' c1';unfold Yl;go_wp2_with fail;exact ⟨rfl,_,rfl,rfl,ZT.refl _ _ _ _⟩));(try simp only [Act.put,pa_,pb_,pc_])))
     refine relQ_nil (fun xx=>?_)
     repeat (refine relL_quiet rfl ?_)
     refine relL_loud rfl (fun w' hw' _=>?_) ?_
     ·unfold Yl
      go_wp2_with fail
      refine ⟨rfl,_,rfl,ZT.of_below (below_alloc (Below.refl _ _) _),?_⟩
      unfold RQ
      rw [if_pos rfl]
      exact ⟨w'.heap.size,by simp,hw'.size,blk_new w' _⟩
     (try simp only [Act.put,pa_,pb_,pc_])
     repeat (refine relL_quiet rfl ?_)
     refine relL_loud rfl (fun w' hw' hR=>?_) ?_
     ·have r3:=hR 3 (by simp)
      unfold RQ at r3
      rw [if_pos rfl] at r3
      obtain ⟨g3,e3,hg3,hb3⟩:=r3
      have e3:xx 3=.slice (some ⟨g3,0,none⟩) 0 0:=by simpa using e3
      rw [e3]
      unfold Yl
      refine appq_first w' rfl _ _ rfl wr.heap.size k r olds news g3 (by rfl) adx cx (by rfl) HLO.out (HOC.out w' hw') H1O.out hg3 hb3 hw'.size (Nat.le_trans (Nat.le_add_right k r) HSUM.out) (fun v1 w1 hs hr=>?_)
      go_wp2_with fail
      exact ⟨rfl,_,rfl,hs,by simpa using hr⟩
     (try simp only [Act.put,pa_,pb_,pc_])
     repeat (refine relL_quiet rfl ?_)
     refine relL_loud rfl (fun w' hw' hR=>?_) ?_
     ·have r7:=hR 7 (by simp)
      unfold Yl
      refine appq_second w' rfl _ _ rfl wr.heap.size k r olds news (xx 7) (by rfl) (by simpa using r7) ad9 c9 (by rfl) HLO.out HLN.out (HNC.out w' hw') H1N.out hw'.size HSUM.out (fun v1 w1 hs hr=>?_)
      go_wp2_with fail
      exact ⟨rfl,_,rfl,hs,by simpa using hr⟩
     (try simp only [Act.put,pa_,pb_,pc_])
     refine relL_nil (fun w6 hw6 hRR=>?_)
     have r12:=hRR 12 (by decide) rfl
     unfold RQ at r12
     rw [if_neg (by decide),if_neg (by decide),if_pos rfl] at r12
     obtain ⟨g9,cap9,cur9,e12,hg9,hb9,hcap9,ho9,hn9⟩:=r12
     have e12:xx 12=.slice (some ⟨g9,0,none⟩) (k+r) cap9:=by simpa using e12
     rw [e12]
     have hN:=HX43.out (some ⟨g9,0,none⟩) cap9 w6 (HSI.out.below hw6) (by rw [HLEN.out];exact hcap9) (HFIN.out w6 cur9 g9 hw6 hg9 hb9 ho9 hn9)
     rw [HLEN.out] at hN
     have HN:=ak_ hN
     have HOD6:=ak_ (pw_own_below HOD.out hw6)
     have k0:=pw_cell_below hw6 k0
     have fG:w6.frozen? ⟨g,b*5,none⟩=false:=by
      obtain ⟨bg,cs,hbr⟩:=(HSI.out.below hw6).br
      exact blk_frozen hbr.blk _
     clear hw6 hRR hb9 ho9 hn9 hcap9 hg9 hN c0 c1' hcut1 hcut2 e12
     go_wp2_with fail
     go_roundw
     case rel=>exact ⟨q,Nat.le_of_lt hqn,by first|(with_reducible rfl)|rw [hwq],HN,⟨own_setCell HOD6.out (fun e=>by
      have h1:=own_base HOD6.out g e.symm
      have h2:=HSW.out.lt
      omega) _⟩⟩
     case measure=>first|(rw [hwq];exact dnw q)|exact dnw q
/-! ### swagelaw17.LiveSweeps -/
theorem Few17.wout {bs:List S50} (h:Few17 bs) (ds:List (Nat × Nat)):Few17 (woutL bs ds):=⟨by rw [woutL_length];exact h.len,(wout_any ds h.ops h.args).1,(wout_any ds h.ops h.args).2⟩
theorem SweepOf.few {bs s:List S50} (h:SweepOf bs s) (hf:Few17 bs):Few17 s:=by
 induction h with
 | done _=>exact hf
 | step _ _ ih=>exact ih (hf.wout _)
theorem Few17.sml {bs:List S50} (h:Few17 bs) (hp:0<bs.length):Sml bs:=⟨hp,Nat.le_trans h.len (by decide),fun i=>Nat.le_trans (h.ops i) (by decide),fun q=>Nat.le_trans (h.args q) (by decide)⟩
/-- The dead places that program and document tell;what both leave. -/
noncomputable def deadX (p:Int) (bs:List S50):List (Nat × Nat):=if rightF p bs 256=true then deadL bs else []
noncomputable def sweepX (p:Int) (bs:List S50):List S50:=if rightF p bs 256=true then (sweep_ex (tot bs) bs (Nat.le_refl _)).choose else bs
theorem sweepX_few {p:Int} {bs:List S50} (h:Few17 bs):Few17 (sweepX p bs):=by
 unfold sweepX
 split
 ·exact (sweep_ex (tot bs) bs (Nat.le_refl _)).choose_spec.few h
 ·exact h
theorem deadX_len {p:Int} {bs:List S50} : (deadX p bs).length≤16384:=by
 unfold deadX
 split
 ·rename_i h
  exact Nat.le_trans (deadP_len _ _) (rightF_iff h).few
 ·exact Nat.zero_le _
/-- Pairs that a call tells. -/
def ToldP (w:World) (D:List (Nat × Nat)) (e:Ending) (w' : World):Prop:=∃ A c,e=.returned (.slice A D.length c)∧PrAt w' A D∧Below w.heap.size w w'
/-- A function that a call tells. -/
def ToldF (w:World) (p:Int) (s:List S50) (e:Ending) (w' : World):Prop:=∃ A c,e=.returned (.agg #[.int .i64 p,.slice A s.length c])∧s.length≤c∧Kd.C k50 w' A s.length s∧Below w.heap.size w w'
theorem dead_toldP (p:Int) (A:Option Addr) (c:Nat) (bs:List S50) (w:World) (hC:Kd.C k50 w A bs.length bs):Calls Tryz.prog 30 #[.agg #[.int .i64 p,.slice A bs.length c]] w (ToldP w (deadX p bs)):=by
 unfold deadX
 cases hR:rightF p bs 256 with
 | true =>
  rw [if_pos rfl]
  refine (dead_ok p A c bs w hC hR).mono ?_
  rintro e w' ⟨v,rfl,ho,hb⟩
  obtain ⟨D,cd,rfl⟩:=own_slice ho
  exact ⟨D,cd,rfl,PrAt.of_own ho,hb⟩
 | false =>
  rw [if_neg (by decide)]
  refine (dead_bad p A c bs w hC hR).mono ?_
  rintro e w' ⟨rfl,hb⟩
  exact ⟨none,0,rfl,fun j hj=>absurd hj (Nat.not_lt_zero _),hb⟩
theorem dead17_toldP (p:Int) (A:Option Addr) (c:Nat) (bs:List S50) (w:World) (hF:Fits bs) (hC:Kd.C k50 w A bs.length bs) (hc:bs.length≤c):Calls Tryz.prog 31 #[.agg #[.int .i64 p,.slice A bs.length c]] w (ToldP w (deadX p bs)):=by
 unfold deadX
 cases hR:rightF p bs 256 with
 | true =>
  rw [if_pos rfl]
  refine (dead17_ok p A c bs w hF hR hC hc).mono ?_
  rintro e w' ⟨v,rfl,ho,hb⟩
  obtain ⟨D,cd,rfl⟩:=own_slice ho
  exact ⟨D,cd,rfl,PrAt.of_own ho,hb⟩
 | false =>
  rw [if_neg (by decide)]
  refine (dead17_bad p A c bs w hF hR hC hc).mono ?_
  rintro e w' ⟨rfl,hb⟩
  exact ⟨none,0,rfl,fun j hj=>absurd hj (Nat.not_lt_zero _),hb⟩
theorem sweep_toldF (p:Int) (A:Option Addr) (c:Nat) (bs:List S50) (w:World) (hF:Few17 bs) (hC:Kd.C k50 w A bs.length bs) (hc:bs.length≤c):Calls Tryz.prog 32 #[.agg #[.int .i64 p,.slice A bs.length c]] w (ToldF w p (sweepX p bs)):=by
 unfold sweepX
 cases hR:rightF p bs 256 with
 | true =>
  rw [if_pos rfl]
  refine (sweep_ok p A c bs w hC hR).mono ?_
  rintro e w' ⟨A',c',s,rfl,h1,h2,h3,hb⟩
  have e:=h2.uniq (sweep_ex (tot bs) bs (Nat.le_refl _)).choose_spec
  rw [← e]
  exact ⟨A',c',rfl,h1,h3,hb⟩
 | false =>
  rw [if_neg (by decide)]
  by_cases h0:0<bs.length
  ·refine (sweep_bad p A c bs w hC hR (hF.sml h0)).mono ?_
   rintro e w' ⟨A',c',rfl,h1,h3,hb⟩
   exact ⟨A',c',rfl,h1,h3,hb⟩
  ·obtain rfl:bs=[]:=List.eq_nil_of_length_eq_zero (by omega)
   refine (sweep_none p A c w hR).mono ?_
   rintro e w' ⟨A',c',rfl,hb⟩
   exact ⟨A',c',rfl,Nat.zero_le _,C50_nil _ _,hb⟩
theorem rsweep_toldF (p:Int) (A:Option Addr) (c:Nat) (bs:List S50) (w:World) (hF:Few17 bs) (hC:Kd.C k50 w A bs.length bs) (hc:bs.length≤c):Calls Tryz.prog 33 #[.agg #[.int .i64 p,.slice A bs.length c]] w (ToldF w p (sweepX p bs)):=by
 unfold sweepX
 cases hR:rightF p bs 256 with
 | true =>
  rw [if_pos rfl]
  refine (rsweep_ok p A c bs w hF.fits hR hC hc).mono ?_
  rintro e w' ⟨A',c',s,rfl,h1,h2,h3,hb⟩
  have e:=h2.uniq (sweep_ex (tot bs) bs (Nat.le_refl _)).choose_spec
  rw [← e]
  exact ⟨A',c',rfl,h1,h3,hb⟩
 | false =>
  rw [if_neg (by decide)]
  refine (rsweep_bad p A c bs w hF.fits hR hC hc).mono ?_
  rintro e w' ⟨A',c',rfl,h1,h3,hb⟩
  exact ⟨A',c',rfl,h1,h3,hb⟩
def lw5E:Nat→Option (List Nat)
 | 2=>some []
 | 3=>some [2]
 | 4=>some []
 | 5=>some [4]
 | 6=>some [3,5]
 | 7=>some [6]
 | 8=>some [7]
 | 9=>some [8]
 | 10=>some [8,9]
 | 11=>some [8]
 | 12=>some [8,11]
 | 13=>some [8,10,12]
 | 14=>some [8,13]
 | 15=>some [14]
 | 16=>some [15]
 | 17=>some [15]
 | 18=>some [15,16,17]
 | 19=>some [15,18]
 | 20=>some [19]
 | _=>none
def lw5T (p:Int) (A As:Option Addr) (n c cs:Nat):Nat→Value
 | 2=>.agg #[.int .i64 p,.slice A n c]
 | 4=>.agg #[.int .i64 p,.slice A n c]
 | 6=>.bool true
 | 7=>.bool true
 | 8=>.bool true
 | 9=>.agg #[.int .i64 p,.slice A n c]
 | 11=>.agg #[.int .i64 p,.slice A n c]
 | 13=>.bool true
 | 14=>.bool true
 | 15=>.bool true
 | 16=>.agg #[.int .i64 p,.slice A n c]
 | 17=>.agg #[.int .i64 p,.slice As n cs]
 | 18=>.bool true
 | 19=>.bool true
 | 20=>.bool true
 | _=>undef
/-- What the loud of LiveSweeps' great test tell. -/
def RT5 (T:Nat→Value) (p:Int) (D:List (Nat × Nat)) (s:List S50) (k:Nat) (vs:List Value) (w' : World):Prop :=
 if k=3∨k=5 then ∃ A c,vs=[.slice A D.length c]∧PrAt w' A D
 else if k=10∨k=12 then ∃ A c,vs=[.agg #[.int .i64 p,.slice A s.length c]]∧s.length≤c∧Kd.C k50 w' A s.length s
 else vs=[T k]
section
variable {T:Nat→Value} {p:Int} {D:List (Nat × Nat)} {s:List S50} {k:Nat} {x:Nat→Value} {w' : World}
theorem RT5.below {vs:List Value} {w2:World} (h:RT5 T p D s k vs w') (hb:Below w'.heap.size w' w2):RT5 T p D s k vs w2:=by
 unfold RT5 at h ⊢
 split at h
 ·rename_i e
  rw [if_pos e]
  obtain ⟨A,c,h1,h2⟩:=h
  exact ⟨A,c,h1,h2.below hb⟩
 ·rename_i e
  rw [if_neg e]
  split at h
  ·rename_i e2
   rw [if_pos e2]
   obtain ⟨A,c,h1,h2,h3⟩:=h
   exact ⟨A,c,h1,h2,Kd.C_below h3 hb⟩
  ·rename_i e2
   rw [if_neg e2]
   exact h
theorem RT5.val (h:RT5 T p D s k ([k].map x) w') (h1:¬ (k=3∨k=5)) (h2:¬ (k=10∨k=12)):x k=T k:=by
 unfold RT5 at h
 rw [if_neg h1,if_neg h2] at h
 simpa using h
theorem RT5.prs (h:RT5 T p D s k ([k].map x) w') (h1:k=3∨k=5):∃ A c,x k=.slice A D.length c∧PrAt w' A D:=by
 unfold RT5 at h
 rw [if_pos h1] at h
 obtain ⟨A,c,e,h2⟩:=h
 exact ⟨A,c,by simpa using e,h2⟩
theorem RT5.fn (h:RT5 T p D s k ([k].map x) w') (h1:¬ (k=3∨k=5)) (h2:k=10∨k=12):∃ A c,x k=.agg #[.int .i64 p,.slice A s.length c]∧s.length≤c∧Kd.C k50 w' A s.length s:=by
 unfold RT5 at h
 rw [if_neg h1,if_pos h2] at h
 obtain ⟨A,c,e,h3,h4⟩:=h
 exact ⟨A,c,by simpa using e,h3,h4⟩
theorem RT5.mkval {v:Value} (h:v=T k) (h1:¬ (k=3∨k=5)) (h2:¬ (k=10∨k=12)):RT5 T p D s k ([k].map fun e=>if e=k then v else x e) w':=by
 unfold RT5
 rw [if_neg h1,if_neg h2,h]
 simp
theorem RT5.mkprs {A:Option Addr} {c:Nat} (h:PrAt w' A D) (h1:k=3∨k=5):RT5 T p D s k ([k].map fun e=>if e=k then .slice A D.length c else x e) w':=by
 unfold RT5
 rw [if_pos h1]
 exact ⟨A,c,by simp,h⟩
theorem RT5.mkfn {A:Option Addr} {c:Nat} (h:s.length≤c) (h' : Kd.C k50 w' A s.length s) (h1:¬ (k=3∨k=5)) (h2:k=10∨k=12):RT5 T p D s k ([k].map fun e=>if e=k then .agg #[.int .i64 p,.slice A s.length c] else x e) w':=by
 unfold RT5
 rw [if_neg h1,if_pos h2]
 exact ⟨A,c,by simp,h,h'⟩
end
set_option maxHeartbeats 16000000 in
set_option maxRecDepth 100000 in
theorem sweeps_few (p:Int) (A:Option Addr) (c:Nat) (bs:List S50) (w:World) (k:Nat) (hC:Kd.C k50 w A bs.length bs) (hc:bs.length≤c) (hf:swagelaw17_few.f k p bs=some false) :
  Calls Tryz.prog 5 #[.agg #[.int .i64 p,.slice A bs.length c]] w fun e w'=>e=.returned (.bool true)∧Below w.heap.size w w':=by
 have hu24:=Tryz.underlying24
 have HF:=ak_ hf
 have HC:=ak_ hC
 have HCc:=ak_ hc
 have HB0:=ak_ (below_alloc (Below.refl w.heap.size w) (.cells #[.int .i64 p,.slice A bs.length c] 24))
 have HF0:=ak_ (blk_new w (.cells #[.int .i64 p,.slice A bs.length c] 24))
 clear hC hf hc
 go_enter Tryz.func5,Tryz.ntmps5
 go_wp2_with (first
  | (go_at_call 18;refine (small17_walk _).mono ?_;rintro e w1 ⟨rfl,hb⟩;have HB1:=ak_ (below_then HB0.out HB0.out.size hb);have HF1:=ak_ (blk_below HF0.out hb);have c0:=bc_ HF1 0;have c1:=bc_ HF1 1;simp only [ga_,gb_,gc_] at c0 c1;clear hb)
  | (go_at_call 19;refine (swagelaw17_few.calls k p A c bs false _ (Kd.C_below HC.out HB1.out) HCc.out HF.out).mono ?_;rintro e w2 ⟨rfl,hb⟩;have HB2:=ak_ (below_then HB1.out HB1.out.size hb);have HF2:=ak_ (blk_below HF1.out hb);clear c0 c1;have c0:=bc_ HF2 0;have c1:=bc_ HF2 1;simp only [ga_,gb_,gc_] at c0 c1;clear hb))
 go_ret
 exact ⟨rfl,HB2.out⟩
set_option maxHeartbeats 16000000 in
set_option maxRecDepth 100000 in
theorem sweeps_walk (p:Int) (A:Option Addr) (c:Nat) (bs:List S50) (w:World) (k:Nat) (hC:Kd.C k50 w A bs.length bs) (hc:bs.length≤c) (hf:swagelaw17_few.f k p bs=some true)
  (D:List (Nat × Nat)) (s:List S50) (hDL:D.length≤16384) (q8:∀ w',Kd.C k50 w' A bs.length bs→Calls Tryz.prog 8 #[.agg #[.int .i64 p,.slice A bs.length c]] w' fun e w2=>∃ A' c',e=.returned (.agg #[.int .i64 p,.slice A' bs.length c'])∧bs.length≤c'∧Kd.C k50 w2 A' bs.length bs∧Below w'.heap.size w' w2) (q30:∀ w',Kd.C k50 w' A bs.length bs→Calls Tryz.prog 30 #[.agg #[.int .i64 p,.slice A bs.length c]] w' (ToldP w' D)) (q31:∀ w',Kd.C k50 w' A bs.length bs→Calls Tryz.prog 31 #[.agg #[.int .i64 p,.slice A bs.length c]] w' (ToldP w' D)) (q32:∀ w',Kd.C k50 w' A bs.length bs→Calls Tryz.prog 32 #[.agg #[.int .i64 p,.slice A bs.length c]] w' (ToldF w' p s)) (q33:∀ w',Kd.C k50 w' A bs.length bs→Calls Tryz.prog 33 #[.agg #[.int .i64 p,.slice A bs.length c]] w' (ToldF w' p s)) (q17:∀ A' c' w',Kd.C k50 w' A bs.length bs→Kd.C k50 w' A' bs.length bs→bs.length≤c'→Calls Tryz.prog 17 #[.agg #[.int .i64 p,.slice A bs.length c],.agg #[.int .i64 p,.slice A' bs.length c']] w' fun e w2=>e=.returned (.bool true)∧Below w'.heap.size w' w2) (q17s:∀ A1 c1 A' c' w',Kd.C k50 w' A1 s.length s→Kd.C k50 w' A' s.length s→Calls Tryz.prog 17 #[.agg #[.int .i64 p,.slice A1 s.length c1],.agg #[.int .i64 p,.slice A' s.length c']] w' fun e w2=>e=.returned (.bool true)∧Below w'.heap.size w' w2) :
  Calls Tryz.prog 5 #[.agg #[.int .i64 p,.slice A bs.length c]] w fun e w'=>e=.returned (.bool true)∧Below w.heap.size w w':=by
 have hu24:=Tryz.underlying24
 have HF:=ak_ hf
 have HC:=ak_ hC
 have HCc:=ak_ hc
 have HB0:=ak_ (below_alloc (Below.refl w.heap.size w) (.cells #[.int .i64 p,.slice A bs.length c] 24))
 have HF0:=ak_ (blk_new w (.cells #[.int .i64 p,.slice A bs.length c] 24))
 have Q8:=ak_ q8
 have Q30:=ak_ q30
 have Q31:=ak_ q31
 have Q32:=ak_ q32
 have Q33:=ak_ q33
 have Q17:=ak_ q17
 have Q17S:=ak_ q17s
 have HDL:=ak_ hDL
 clear hC hf hc hDL q8 q30 q31 q32 q33 q17 q17s
 go_enter Tryz.func5,Tryz.ntmps5
 go_wp2_with (first
  | (go_at_call 18;refine (small17_walk _).mono ?_;rintro e w1 ⟨rfl,hb⟩;have HB1:=ak_ (below_then HB0.out HB0.out.size hb);have HF1:=ak_ (blk_below HF0.out hb);have c0:=bc_ HF1 0;have c1:=bc_ HF1 1;simp only [ga_,gb_,gc_] at c0 c1;clear hb)
  | (go_at_call 19;refine (swagelaw17_few.calls k p A c bs true _ (Kd.C_below HC.out HB1.out) HCc.out HF.out).mono ?_;rintro e w2 ⟨rfl,hb⟩;have HB2:=ak_ (below_then HB1.out HB1.out.size hb);have HF2:=ak_ (blk_below HF1.out hb);clear c0 c1;have c0:=bc_ HF2 0;have c1:=bc_ HF2 1;simp only [ga_,gb_,gc_] at c0 c1;clear hb)
  | (go_at_call 8;refine (Q8.out _ (Kd.C_below HC.out HB2.out)).mono ?_;rintro e w3 ⟨As,cs,rfl,hcs,hCs,hb⟩;have HS3:=ak_ hCs;have HCS:=ak_ hcs;clear hcs hCs;have HB3:=ak_ (below_then HB2.out HB2.out.size hb);have HF3:=ak_ (blk_below HF2.out hb);clear c0 c1;have HFA3:=ak_ (blk_below HF3.out (below_alloc (Below.refl w3.heap.size w3) (.cells #[.int .i64 p,.slice As bs.length cs] 24)));have c0:=bc_ HFA3 0;have c1:=bc_ HFA3 1;simp only [ga_,gb_,gc_] at c0 c1;clear hb))
 obtain ⟨W3,hW3⟩:∃ W3,w3.alloc (.cells #[.int .i64 p,.slice As bs.length cs] 24)=W3:=⟨_,rfl⟩
 have hbA:=below_alloc (Below.refl w3.heap.size w3) (.cells #[.int .i64 p,.slice As bs.length cs] 24)
 have hX3:=blk_new w3 (.cells #[.int .i64 p,.slice As bs.length cs] 24)
 rw [hW3] at hbA hX3
 rw [hW3]
 clear hW3
 obtain ⟨gs,hgs⟩:∃ gs,w3.heap.size=gs:=⟨_,rfl⟩
 have HF3A:=ak_ (blk_below HF3.out hbA)
 have HB3A:=ak_ (below_then HB3.out HB3.out.size hbA)
 have HS3A:=ak_ (Kd.C_below HS3.out hbA)
 rw [hgs] at hX3 ⊢
 have HX3:=ak_ hX3
 clear hbA hX3 hgs
 clear c0 c1
 have c0:=bc_ HF3A 0
 have c1:=bc_ HF3A 1
 have d0:=bc_ HX3 0
 have d1:=bc_ HX3 1
 simp only [ga_,gb_,gc_] at c0 c1 d0 d1
 refine wp_region_rel 21 lw5E (fun k=>[k]) (RT5 (lw5T p A As bs.length c cs) p D s) (fun w'=>Below W3.heap.size W3 w') (fun a b=>Below a.heap.size a b) (by kernel_rfl) (by kernel_rfl) (below_drew (Below.refl _ _)) (fun a b h k=>below_then h h.size k) (fun _ _ _ _ h hb=>h.below hb) ?_
 simp only [List.take_succ_cons,List.take_zero,List.drop_succ_cons,List.drop_zero]
 iterate 21 (first|(refine relQ_loud rfl ?_)|(apply relQ_step rfl;apply Exists.intro;constructor;(focus (intro w' hw';have c0:=pw_cell_below hw' c0;have c1:=pw_cell_below hw' c1;have d0:=pw_cell_below hw' d0;have d1:=pw_cell_below hw' d1;unfold Yl;go_wp2_with fail;exact ⟨rfl,_,rfl,rfl,Below.refl _ _⟩));(try simp only [Act.put,pa_,pb_,pc_])))
 refine relQ_nil (fun xx=>?_)
 repeat (refine relL_quiet rfl ?_)
 refine relL_loud rfl (fun w' hw' hR=>?_) ?_
 ·have c0:=pw_cell_below hw' c0;have c1:=pw_cell_below hw' c1;have d0:=pw_cell_below hw' d0;have d1:=pw_cell_below hw' d1
  clear hR
  unfold Yl
  go_wp2_with (fail)
  exact ⟨rfl,_,rfl,Below.refl _ _,RT5.mkval rfl (by decide) (by decide)⟩
 (try simp only [Act.put,pa_,pb_,pc_])
 refine relL_loud rfl (fun w' hw' hR=>?_) ?_
 ·have c0:=pw_cell_below hw' c0;have c1:=pw_cell_below hw' c1;have d0:=pw_cell_below hw' d0;have d1:=pw_cell_below hw' d1
  have e2:xx 2=.agg #[.int .i64 p,.slice A bs.length c]:=RT5.val (hR 2 (by simp [lw5E])) (by decide) (by decide)
  rw [e2]
  clear e2
  clear hR
  unfold Yl
  go_wp2_with (go_at_call 30;refine (Q30.out _ (Kd.C_below HC.out (below_then HB3A.out HB3A.out.size hw'))).mono ?_;rintro e w6 ⟨A6,c6,rfl,hP6,hb⟩)
  exact ⟨rfl,_,rfl,hb,RT5.mkprs hP6 (by decide)⟩
 (try simp only [Act.put,pa_,pb_,pc_])
 refine relL_loud rfl (fun w' hw' hR=>?_) ?_
 ·have c0:=pw_cell_below hw' c0;have c1:=pw_cell_below hw' c1;have d0:=pw_cell_below hw' d0;have d1:=pw_cell_below hw' d1
  clear hR
  unfold Yl
  go_wp2_with (fail)
  exact ⟨rfl,_,rfl,Below.refl _ _,RT5.mkval rfl (by decide) (by decide)⟩
 (try simp only [Act.put,pa_,pb_,pc_])
 refine relL_loud rfl (fun w' hw' hR=>?_) ?_
 ·have c0:=pw_cell_below hw' c0;have c1:=pw_cell_below hw' c1;have d0:=pw_cell_below hw' d0;have d1:=pw_cell_below hw' d1
  have e4:xx 4=.agg #[.int .i64 p,.slice A bs.length c]:=RT5.val (hR 4 (by simp [lw5E])) (by decide) (by decide)
  rw [e4]
  clear e4
  clear hR
  unfold Yl
  go_wp2_with (go_at_call 31;refine (Q31.out _ (Kd.C_below HC.out (below_then HB3A.out HB3A.out.size hw'))).mono ?_;rintro e w6 ⟨A6,c6,rfl,hP6,hb⟩)
  exact ⟨rfl,_,rfl,hb,RT5.mkprs hP6 (by decide)⟩
 (try simp only [Act.put,pa_,pb_,pc_])
 refine relL_loud rfl (fun w' hw' hR=>?_) ?_
 ·have c0:=pw_cell_below hw' c0;have c1:=pw_cell_below hw' c1;have d0:=pw_cell_below hw' d0;have d1:=pw_cell_below hw' d1
  obtain ⟨A3,c3,e3,hP3⟩:=RT5.prs (hR 3 (by simp [lw5E])) (by decide)
  obtain ⟨A5,c5,e5,hP5⟩:=RT5.prs (hR 5 (by simp [lw5E])) (by decide)
  rw [e3,e5]
  clear e3 e5
  clear hR
  unfold Yl
  go_wp2_with (go_at_call 29;refine (pairs_same A3 c3 A5 c5 D _ hP3 hP5 HDL.out).mono ?_;rintro e w6 ⟨rfl,hb⟩)
  exact ⟨rfl,_,rfl,hb,RT5.mkval rfl (by decide) (by decide)⟩
 (try simp only [Act.put,pa_,pb_,pc_])
 refine relL_loud rfl (fun w' hw' hR=>?_) ?_
 ·have c0:=pw_cell_below hw' c0;have c1:=pw_cell_below hw' c1;have d0:=pw_cell_below hw' d0;have d1:=pw_cell_below hw' d1
  have e6:xx 6=.bool true:=RT5.val (hR 6 (by simp [lw5E])) (by decide) (by decide)
  rw [e6]
  clear e6
  clear hR
  unfold Yl
  go_wp2_with (fail)
  exact ⟨rfl,_,rfl,Below.refl _ _,RT5.mkval rfl (by decide) (by decide)⟩
 (try simp only [Act.put,pa_,pb_,pc_])
 refine relL_loud rfl (fun w' hw' hR=>?_) ?_
 ·have c0:=pw_cell_below hw' c0;have c1:=pw_cell_below hw' c1;have d0:=pw_cell_below hw' d0;have d1:=pw_cell_below hw' d1
  have e7:xx 7=.bool true:=RT5.val (hR 7 (by simp [lw5E])) (by decide) (by decide)
  rw [e7]
  clear e7
  clear hR
  unfold Yl
  go_wp2_with (fail)
  exact ⟨rfl,_,rfl,Below.refl _ _,RT5.mkval rfl (by decide) (by decide)⟩
 (try simp only [Act.put,pa_,pb_,pc_])
 refine relL_loud rfl (fun w' hw' hR=>?_) ?_
 ·have c0:=pw_cell_below hw' c0;have c1:=pw_cell_below hw' c1;have d0:=pw_cell_below hw' d0;have d1:=pw_cell_below hw' d1
  have e8:xx 8=.bool true:=RT5.val (hR 8 (by simp [lw5E])) (by decide) (by decide)
  rw [e8]
  clear e8
  clear hR
  unfold Yl
  go_wp2_with (fail)
  exact ⟨rfl,_,rfl,Below.refl _ _,RT5.mkval rfl (by decide) (by decide)⟩
 (try simp only [Act.put,pa_,pb_,pc_])
 refine relL_loud rfl (fun w' hw' hR=>?_) ?_
 ·have c0:=pw_cell_below hw' c0;have c1:=pw_cell_below hw' c1;have d0:=pw_cell_below hw' d0;have d1:=pw_cell_below hw' d1
  have e8:xx 8=.bool true:=RT5.val (hR 8 (by simp [lw5E])) (by decide) (by decide)
  have e9:xx 9=.agg #[.int .i64 p,.slice A bs.length c]:=RT5.val (hR 9 (by simp [lw5E])) (by decide) (by decide)
  rw [e8,e9]
  clear e8 e9
  clear hR
  unfold Yl
  go_wp2_with (go_at_call 32;refine (Q32.out _ (Kd.C_below HC.out (below_then HB3A.out HB3A.out.size hw'))).mono ?_;rintro e w6 ⟨A6,c6,rfl,hl6,hC6,hb⟩)
  exact ⟨rfl,_,rfl,hb,RT5.mkfn hl6 hC6 (by decide) (by decide)⟩
 (try simp only [Act.put,pa_,pb_,pc_])
 refine relL_loud rfl (fun w' hw' hR=>?_) ?_
 ·have c0:=pw_cell_below hw' c0;have c1:=pw_cell_below hw' c1;have d0:=pw_cell_below hw' d0;have d1:=pw_cell_below hw' d1
  have e8:xx 8=.bool true:=RT5.val (hR 8 (by simp [lw5E])) (by decide) (by decide)
  rw [e8]
  clear e8
  clear hR
  unfold Yl
  go_wp2_with (fail)
  exact ⟨rfl,_,rfl,Below.refl _ _,RT5.mkval rfl (by decide) (by decide)⟩
 (try simp only [Act.put,pa_,pb_,pc_])
 refine relL_loud rfl (fun w' hw' hR=>?_) ?_
 ·have c0:=pw_cell_below hw' c0;have c1:=pw_cell_below hw' c1;have d0:=pw_cell_below hw' d0;have d1:=pw_cell_below hw' d1
  have e8:xx 8=.bool true:=RT5.val (hR 8 (by simp [lw5E])) (by decide) (by decide)
  have e11:xx 11=.agg #[.int .i64 p,.slice A bs.length c]:=RT5.val (hR 11 (by simp [lw5E])) (by decide) (by decide)
  rw [e8,e11]
  clear e8 e11
  clear hR
  unfold Yl
  go_wp2_with (go_at_call 33;refine (Q33.out _ (Kd.C_below HC.out (below_then HB3A.out HB3A.out.size hw'))).mono ?_;rintro e w6 ⟨A6,c6,rfl,hl6,hC6,hb⟩)
  exact ⟨rfl,_,rfl,hb,RT5.mkfn hl6 hC6 (by decide) (by decide)⟩
 (try simp only [Act.put,pa_,pb_,pc_])
 refine relL_loud rfl (fun w' hw' hR=>?_) ?_
 ·have c0:=pw_cell_below hw' c0;have c1:=pw_cell_below hw' c1;have d0:=pw_cell_below hw' d0;have d1:=pw_cell_below hw' d1
  have e8:xx 8=.bool true:=RT5.val (hR 8 (by simp [lw5E])) (by decide) (by decide)
  obtain ⟨A10,c10,e10,hl10,hC10⟩:=RT5.fn (hR 10 (by simp [lw5E])) (by decide) (by decide)
  obtain ⟨A12,c12,e12,hl12,hC12⟩:=RT5.fn (hR 12 (by simp [lw5E])) (by decide) (by decide)
  rw [e8,e10,e12]
  clear e8 e10 e12
  clear hR
  unfold Yl
  go_wp2_with (go_at_call 17;refine (Q17S.out A10 c10 A12 c12 _ hC10 hC12).mono ?_;rintro e w6 ⟨rfl,hb⟩)
  exact ⟨rfl,_,rfl,hb,RT5.mkval rfl (by decide) (by decide)⟩
 (try simp only [Act.put,pa_,pb_,pc_])
 refine relL_loud rfl (fun w' hw' hR=>?_) ?_
 ·have c0:=pw_cell_below hw' c0;have c1:=pw_cell_below hw' c1;have d0:=pw_cell_below hw' d0;have d1:=pw_cell_below hw' d1
  have e8:xx 8=.bool true:=RT5.val (hR 8 (by simp [lw5E])) (by decide) (by decide)
  have e13:xx 13=.bool true:=RT5.val (hR 13 (by simp [lw5E])) (by decide) (by decide)
  rw [e8,e13]
  clear e8 e13
  clear hR
  unfold Yl
  go_wp2_with (fail)
  exact ⟨rfl,_,rfl,Below.refl _ _,RT5.mkval rfl (by decide) (by decide)⟩
 (try simp only [Act.put,pa_,pb_,pc_])
 refine relL_loud rfl (fun w' hw' hR=>?_) ?_
 ·have c0:=pw_cell_below hw' c0;have c1:=pw_cell_below hw' c1;have d0:=pw_cell_below hw' d0;have d1:=pw_cell_below hw' d1
  have e14:xx 14=.bool true:=RT5.val (hR 14 (by simp [lw5E])) (by decide) (by decide)
  rw [e14]
  clear e14
  clear hR
  unfold Yl
  go_wp2_with (fail)
  exact ⟨rfl,_,rfl,Below.refl _ _,RT5.mkval rfl (by decide) (by decide)⟩
 (try simp only [Act.put,pa_,pb_,pc_])
 refine relL_loud rfl (fun w' hw' hR=>?_) ?_
 ·have c0:=pw_cell_below hw' c0;have c1:=pw_cell_below hw' c1;have d0:=pw_cell_below hw' d0;have d1:=pw_cell_below hw' d1
  have e15:xx 15=.bool true:=RT5.val (hR 15 (by simp [lw5E])) (by decide) (by decide)
  rw [e15]
  clear e15
  clear hR
  unfold Yl
  go_wp2_with (fail)
  exact ⟨rfl,_,rfl,Below.refl _ _,RT5.mkval rfl (by decide) (by decide)⟩
 (try simp only [Act.put,pa_,pb_,pc_])
 refine relL_loud rfl (fun w' hw' hR=>?_) ?_
 ·have c0:=pw_cell_below hw' c0;have c1:=pw_cell_below hw' c1;have d0:=pw_cell_below hw' d0;have d1:=pw_cell_below hw' d1
  have e15:xx 15=.bool true:=RT5.val (hR 15 (by simp [lw5E])) (by decide) (by decide)
  rw [e15]
  clear e15
  clear hR
  unfold Yl
  go_wp2_with (fail)
  exact ⟨rfl,_,rfl,Below.refl _ _,RT5.mkval rfl (by decide) (by decide)⟩
 (try simp only [Act.put,pa_,pb_,pc_])
 refine relL_loud rfl (fun w' hw' hR=>?_) ?_
 ·have c0:=pw_cell_below hw' c0;have c1:=pw_cell_below hw' c1;have d0:=pw_cell_below hw' d0;have d1:=pw_cell_below hw' d1
  have e15:xx 15=.bool true:=RT5.val (hR 15 (by simp [lw5E])) (by decide) (by decide)
  have e16:xx 16=.agg #[.int .i64 p,.slice A bs.length c]:=RT5.val (hR 16 (by simp [lw5E])) (by decide) (by decide)
  have e17:xx 17=.agg #[.int .i64 p,.slice As bs.length cs]:=RT5.val (hR 17 (by simp [lw5E])) (by decide) (by decide)
  rw [e15,e16,e17]
  clear e15 e16 e17
  clear hR
  unfold Yl
  go_wp2_with (go_at_call 17;refine (Q17.out As cs _ (Kd.C_below HC.out (below_then HB3A.out HB3A.out.size hw')) (Kd.C_below HS3A.out hw') HCS.out).mono ?_;rintro e w6 ⟨rfl,hb⟩)
  exact ⟨rfl,_,rfl,hb,RT5.mkval rfl (by decide) (by decide)⟩
 (try simp only [Act.put,pa_,pb_,pc_])
 refine relL_loud rfl (fun w' hw' hR=>?_) ?_
 ·have c0:=pw_cell_below hw' c0;have c1:=pw_cell_below hw' c1;have d0:=pw_cell_below hw' d0;have d1:=pw_cell_below hw' d1
  have e15:xx 15=.bool true:=RT5.val (hR 15 (by simp [lw5E])) (by decide) (by decide)
  have e18:xx 18=.bool true:=RT5.val (hR 18 (by simp [lw5E])) (by decide) (by decide)
  rw [e15,e18]
  clear e15 e18
  clear hR
  unfold Yl
  go_wp2_with (fail)
  exact ⟨rfl,_,rfl,Below.refl _ _,RT5.mkval rfl (by decide) (by decide)⟩
 (try simp only [Act.put,pa_,pb_,pc_])
 refine relL_loud rfl (fun w' hw' hR=>?_) ?_
 ·have c0:=pw_cell_below hw' c0;have c1:=pw_cell_below hw' c1;have d0:=pw_cell_below hw' d0;have d1:=pw_cell_below hw' d1
  have e19:xx 19=.bool true:=RT5.val (hR 19 (by simp [lw5E])) (by decide) (by decide)
  rw [e19]
  clear e19
  clear hR
  unfold Yl
  go_wp2_with (fail)
  exact ⟨rfl,_,rfl,Below.refl _ _,RT5.mkval rfl (by decide) (by decide)⟩
 (try simp only [Act.put,pa_,pb_,pc_])
 refine relL_nil (fun w6 hw6 hRR=>?_)
 have e20:xx 20=.bool true:=RT5.val (hRR 20 (by decide) rfl) (by decide) (by decide)
 rw [e20]
 clear c0 c1 d0 d1 hRR e20
 go_wp2_with fail
 go_ret
 exact ⟨rfl,below_then HB3A.out HB3A.out.size hw6⟩
theorem liveSweeps_true (p:Int) (A:Option Addr) (c:Nat) (bs:List S50) (w:World) (hC:Kd.C k50 w A bs.length bs) (hc:bs.length≤c) (hr:Room bs) (hB:∀ j:Nat,(rd_T50 bs (j:Int)).f0.length≤2199023255552) :
  Calls Tryz.prog 5 #[.agg #[.int .i64 p,.slice A bs.length c]] w fun e w'=>e=.returned (.bool true)∧Below w.heap.size w w':=by
 obtain ⟨k,b,hf⟩:=few17_total p bs hr
 have hf:=hf k (Nat.le_refl _)
 cases b with
 | false=>exact sweeps_few p A c bs w k hC hc hf
 | true =>
  have h7:=few17_true k p bs hB hf
  have hF:=h7.fits
  have h7s:Few17 (sweepX p bs):=sweepX_few h7
  exact sweeps_walk p A c bs w k hC hc hf (deadX p bs) (sweepX p bs) deadX_len
   (fun w' h=>copy14_told p A c bs w' hF h hc) (fun w' h=>dead_toldP p A c bs w' h) (fun w' h=>dead17_toldP p A c bs w' hF h hc) (fun w' h=>sweep_toldF p A c bs w' h7 h hc) (fun w' h=>rsweep_toldF p A c bs w' h7 h hc)
   (fun A' c' w' h h' hc'=>same14_told p A A' c c' bs w' hF (fun q=>Nat.le_trans (h7.args q) (by decide)) h hc h' hc')
   (fun A1 c1 A' c' w' h h'=>same14_eq p A1 A' c1 c' (sweepX p bs) w' h7s.fits (fun q=>Nat.le_trans (h7s.args q) (by decide)) h h')
end Go.Proofs.YtnkgbnbbmcoiiaaGreat.S
