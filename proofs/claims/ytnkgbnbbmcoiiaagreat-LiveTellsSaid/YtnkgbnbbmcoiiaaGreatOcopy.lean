import Derived.Test.YtnkgbnbbmcoiiaaGreatOclone
namespace Go.Proofs.YtnkgbnbbmcoiiaaGreat.S
open Go.RowKit Go.IM Go.Proofs.YtnkgbnbbmcoiiaaGreatW.PrintWords Go.Proofs.YtnkgbnbbmcoiiaaGreatW.PrintLast Go.Proofs.YtnkgbnbbmcoiiaaGreatW.PrintMore
set_option linter.unusedVariables false
set_option linter.unusedSimpArgs false
/-! ### code.Copy -/
theorem St.wide {X Y:Nat→Prop} {w:World} {φ:World→Prop} (h:St X w φ) (hs:∀ k,Y k→X k∨w.heap.size≤k):St Y w φ:=fun w2 h2=>h w2 ⟨h2.1,fun k o hx hk ho=>h2.2 k o (fun hY=>by
 rcases hs k hY with h1|h1
 ·exact hx h1
 ·have:=(Array.getElem?_eq_some_iff.1 hk).1;omega) hk ho⟩
theorem OpsS.wide {X Y:Nat→Prop} {w:World} {A:Option Addr} {xs:List S45} (h:OpsS X w A xs) (hs:∀ k,Y k→X k∨w.heap.size≤k):OpsS Y w A xs:=by
 obtain ⟨og,h⟩:=h
 exact ⟨og,h.wide hs⟩
theorem BR.wide {X Y:Nat→Prop} {w:World} {g:Nat} {bs:List S50} {bg:Nat→Option Addr × Nat} {cs:Array Value} (h:BR X w g bs bg cs) (hs:∀ k,Y k→X k∨w.heap.size≤k):BR Y w g bs bg cs :=
 ⟨h.blk,fun k hk=>⟨(h.el k hk).1,(h.el k hk).2.1,(h.el k hk).2.2.1,(h.el k hk).2.2.2.wide hs⟩⟩
/-- Sizes that a call can bear. -/
structure Sml (bs:List S50):Prop where mk ::
 pos:0<bs.length
 blks:bs.length≤4096
 ops:∀ i,opLen bs i≤16384
 args:∀ q,(opOf bs q).f5.length≤1000000
theorem RightP.sml {p:Int} {bs:List S50} {fn:Int} (h:RightP p bs fn):Sml bs:=⟨h.len.1,h.len.2,h.opLen_le,fun q=>Nat.le_trans (h.opA q).2 (by decide)⟩
/-- The two boxes,and what lay ahead. -/
structure CI (w W:World) (p:Int) (g n c1:Nat):Prop where mk ::
 bel:Below w.heap.size w W
 b1:W.heap[w.heap.size]?=some (.cells #[.int .i64 p,.slice (some ⟨g,0,none⟩) n c1] 24 (0,0))
 b2:W.heap[w.heap.size+1]?=some (.cells #[.int .i64 0,.slice none 0 0] 24 (0,0))
theorem CI.below {w W W' : World} {p:Int} {g n c1:Nat} (h:CI w W p g n c1) (hb:Below W.heap.size W W'):CI w W' p g n c1:=⟨below_then h.bel h.bel.size hb,blk_below h.b1 hb,blk_below h.b2 hb⟩
theorem below_set {w W:World} (h:Below w.heap.size w W) (a:Addr) (v:Value) (ha:w.heap.size≤a.block):Below w.heap.size w (W.setCell a v) :=
 ⟨h.os,h.tape,h.output,Nat.le_trans h.size (KeepsWalks.setCell W a v).size,fun i hi=>(Below.heap_setCell W a v i (by omega)).trans (h.block i hi)⟩
theorem CI.set {w W:World} {p:Int} {g n c1:Nat} (h:CI w W p g n c1) (a:Addr) (v:Value) (ha:w.heap.size+2≤a.block):CI w (W.setCell a v) p g n c1 :=
 ⟨below_set h.bel a v (by omega),blk_far h.b1 (by omega) v,blk_far h.b2 (by omega) v⟩
theorem bset_id {bs:List S50} {k:Nat} (hk:k<bs.length):bs.set k ⟨(rd_T50 bs (k:Int)).f0,(rd_T50 bs (k:Int)).f1⟩=bs:=by
 rw [rd43' hk]
 exact List.set_getElem_self hk
/-- What slices.Clone gives,as a row of blocks. -/
theorem BR.of_new {w:World} {X:Nat→Prop} {A A1:Option Addr} {bs:List S50} {bg:Nat→Option Addr × Nat} {w1:World} (h:BlksAt w A bs bg) (hst:∀ i,i<bs.length→OpsS X w1 (bg i).1 (rd_T50 bs (i:Int)).f0) {W0:World} (hn:0<bs.length) (hr:NewRow W0 w1 50 bs.length ((List.range bs.length).flatMap fun k:Nat=>blkC' (rd_T50 bs (k:Int)) (bg k)) A1) :
  ∃ g cs,A1=some ⟨g,0,none⟩∧W0.heap.size≤g∧BR X w1 g bs bg cs:=by
 obtain ⟨g,cs,e,hg,hbk,hc⟩:=hr hn
 refine ⟨g,cs,e,hg,hbk,fun i hi=>⟨fun j u hu=>hc _ _ ?_,(h i hi).cap,(h i hi).row.2.1,hst i hi⟩⟩
 have hj:j<5:=by
  have:=(List.getElem?_eq_some_iff.1 hu).1
  simpa [blkC'] using this
 rw [flat_get (fun k:Nat=>blkC' (rd_T50 bs (k:Int)) (bg k)) 5 (fun i=>rfl) bs.length i j hi hj]
 exact hu
theorem OR.of_new {X:Nat→Prop} {A A1:Option Addr} {xs:List S45} {og:Nat→Option Addr × Nat} {w1:World} (h:St X w1 (fun w'=>OpsAt w' A xs og)) {W0:World} (hr:NewRow W0 w1 45 xs.length ((List.range xs.length).flatMap fun k:Nat=>opC (rd_T45 xs (k:Int)) (og k)) A1) (hn:0<xs.length) :
  ∃ g cs,A1=some ⟨g,0,none⟩∧W0.heap.size≤g∧OR X w1 g xs og cs:=by
 obtain ⟨g,cs,e,hg,hbk,hc⟩:=hr hn
 refine ⟨g,cs,e,hg,hbk,fun i hi=>⟨fun j u hu=>hc _ _ ?_,(h.now i hi).cap,h.imp (fun w' h=>(h i hi).row)⟩⟩
 have hj:j<6:=by
  have:=(List.getElem?_eq_some_iff.1 hu).1
  simpa [opC] using this
 rw [flat_get (fun k:Nat=>opC (rd_T45 xs (k:Int)) (og k)) 6 (fun i=>rfl) xs.length i j hi hj]
 exact hu
theorem BR.cells {X:Nat→Prop} {w:World} {g:Nat} {bs:List S50} {bg:Nat→Option Addr × Nat} {cs:Array Value} (h:BR X w g bs bg cs) {i:Nat} (hi:i<bs.length) (j:Nat) (u:Value) (hu:(blkC' (rd_T50 bs (i:Int)) (bg i))[j]?=some u):w.cell? ⟨g,i*5+j,none⟩=some u:=(blk_cell h.blk _).trans ((h.el i hi).1 j u hu)
theorem OR.cells {X:Nat→Prop} {w:World} {g:Nat} {xs:List S45} {og:Nat→Option Addr × Nat} {cs:Array Value} (h:OR X w g xs og cs) {i:Nat} (hi:i<xs.length) (j:Nat) (u:Value) (hu:(opC (rd_T45 xs (i:Int)) (og i))[j]?=some u):w.cell? ⟨g,i*6+j,none⟩=some u:=(blk_cell h.blk _).trans ((h.el i hi).1 j u hu)
/-- The blocks that may be written: the two boxes,and the row of blocks. -/
def XC (Z:Nat→Prop) (s g:Nat) (k:Nat):Prop:=k=s∨k=s+1∨k=g∨Z k
theorem XC.or {Z:Nat→Prop} {s g k:Nat} (h:XC Z s g k) (hg:s≤g):Z k∨s≤k:=by
 rcases h with h|h|h|h
 ·exact .inr (by omega)
 ·exact .inr (by omega)
 ·exact .inr (by omega)
 ·exact .inl h
theorem XC.not {Z:Nat→Prop} {s g k:Nat} (hs:s+1<k) (hg:k≠g) (hZ:∀ k,Z k→k<s):¬ XC Z s g k:=by
 rintro (h|h|h|h)
 ·omega
 ·omega
 ·omega
 ·have:=hZ k h;omega
set_option maxHeartbeats 8000000 in
set_option maxRecDepth 100000 in
theorem copy_ok (p:Int) (A:Option Addr) (c:Nat) (bs:List S50) (w:World) (Z:Nat→Prop) (bg0:Nat→Option Addr × Nat) (og0:Nat→Nat→Option Addr × Nat) (hD:St Z w (fun w'=>DeepAt w' A bs bg0 og0)) (hZ:∀ k,Z k→k<w.heap.size) (hs:Sml bs) :
  Calls Tryz.prog 61 #[.agg #[.int .i64 p,.slice A bs.length c]] w fun e w'=>∃ g c1 bg cs,e=.returned (.agg #[.int .i64 p,.slice (some ⟨g,0,none⟩) bs.length c1])∧bs.length≤c1∧w.heap.size≤g∧BR (fun k=>k=g∨Z k) w' g bs bg cs∧Below w.heap.size w w':=by
 have hu34:=Tryz.underlying24
 have hu43:=Tryz.underlying50
 have hu41:=Tryz.underlying48
 have hu45:=Tryz.underlying45
 have HS:=Aside0.mk hs
 have HZ:=Aside0.mk hZ
 have hlen:=hs.blks
 have HDX:Aside0 (∀ W,Below w.heap.size w W→St (fun k=>Z k∨w.heap.size≤k) W (fun w'=>DeepAt w' A bs bg0 og0)):=⟨fun W hb=>(hD.wide (Y:=fun k=>Z k∨w.heap.size≤k) (fun k h=>h)).step (KP.of_below hb)⟩
 have hbA:=below_alloc (below_alloc (Below.refl w.heap.size w) (.cells #[.int .i64 p,.slice A bs.length c] 24)) (.cells #[.int .i64 0,.slice none 0 0] 24)
 have HBA:=Aside0.mk hbA
 have hx1:=blk_alloc (blk_new w (.cells #[.int .i64 p,.slice A bs.length c] 24)) (.cells #[.int .i64 0,.slice none 0 0] 24)
 have hx2:=blk_new (w.alloc (.cells #[.int .i64 p,.slice A bs.length c] 24)) (.cells #[.int .i64 0,.slice none 0 0] 24)
 have hsz:((w.alloc (.cells #[.int .i64 p,.slice A bs.length c] 24)).alloc (.cells #[.int .i64 0,.slice none 0 0] 24)).heap.size=w.heap.size+2:=by rw [World.size_alloc,World.size_alloc]
 rw [World.size_alloc] at hx2
 have HX1:=Aside0.mk hx1
 have HX2:=Aside0.mk hx2
 have HSZ:=Aside0.mk hsz
 clear hD hs hbA hx1 hx2 hsz hZ
 go_enter Tryz.func61,Tryz.ntmps61
 go_wp2_with (go_at_call 88;refine (clone_blks A c bs bg0 _ (HDX.out _ HBA.out).now.1 (Nat.le_trans HS.out.blks (by decide))).mono ?_;rintro e w1 ⟨A1,c1,rfl,hle,hnr,hb⟩;have HLE:=Aside0.mk hle;have HNR:=Aside0.mk hnr;have HB1:=Aside0.mk (below_then HBA.out HBA.out.size hb);have HX11:=Aside0.mk (blk_below HX1.out hb);have HX21:=Aside0.mk (blk_below HX2.out hb);have sX:=blk_cell HX11.out 1;have fX:=blk_frozen HX11.out 1;have s0:=blk_cell HX11.out 0;simp only [List.getElem?_toArray,List.getElem?_cons_zero,List.getElem?_cons_succ] at sX s0;clear hle hnr hb)
 obtain ⟨g,cs0,rfl,hg2,hBR⟩:=BR.of_new (X:=fun k=>Z k∨w.heap.size≤k) (HDX.out _ HB1.out).now.1 (fun i hi=>⟨og0 i,(HDX.out _ HB1.out).imp (fun w' h=>h.2 i hi)⟩) HS.out.pos HNR.out
 rw [HSZ.out] at hg2
 clear sX fX s0
 obtain ⟨W1,hW1⟩:∃ W1,w1.setCell ⟨w.heap.size,1,none⟩ (.slice (some ⟨g,0,none⟩) bs.length c1)=W1:=⟨_,rfl⟩
 have HCI:Aside0 (CI w W1 p g bs.length c1):=⟨by
  rw [← hW1]
  refine ⟨below_set HB1.out _ _ (Nat.le_refl _),?_,blk_far HX21.out (by simp) _⟩
  exact blk_set HX11.out 1 _⟩
 have HBR:Aside0 (BR (XC Z w.heap.size g) W1 g bs bg0 cs0):=⟨by
  rw [← hW1]
  have h1:=hBR.step (KP.setCell (X:=fun k=>Z k∨w.heap.size≤k) w1 ⟨w.heap.size,1,none⟩ (.slice (some ⟨g,0,none⟩) bs.length c1) (.inr (Nat.le_refl _))) (Below.heap_setCell _ _ _ g (by show g≠w.heap.size;omega))
  exact h1.wide (fun k hk=>.inl (hk.or (by omega)))⟩
 have c1':=blk_cell HCI.out.b1 1
 have c0':=blk_cell HCI.out.b1 0
 simp only [List.getElem?_toArray,List.getElem?_cons_zero,List.getElem?_cons_succ] at c1' c0'
 rw [hW1]
 clear hW1 hBR HB1 HX11 HX21 HNR HX1 HX2 HBA HSZ
 have HG2:=Aside0.mk hg2
 go_wp2_with fail
 clear c1' c0'
 go_loopw [15] (fun i wr=>∃ (x:Nat) (bg' : Nat→Option Addr × Nat) (cs:Array Value),x≤bs.length∧i=.int .i64 (x:Int)∧Aside0 (CI w wr p g bs.length c1)∧Aside0 (BR (XC Z w.heap.size g) wr g bs bg' cs)∧Aside0 (∀ q,x≤q→bg' q=bg0 q)) (fun i _=>bs.length - (intOf i).toNat)
 case atStart=>exact ⟨0,bg0,cs0,Nat.zero_le _,rfl,HCI,HBR,⟨fun _ _=>rfl⟩⟩
 case round =>
  clear HCI HBR
  obtain ⟨x,bg',cs,hx,rfl,HCI,HBR,HBE⟩:=hrel
  by_cases hlt:x<bs.length
  ·have b1:decide ((x:Int)<(bs.length:Int))=true:=decide_eq_true (by omega)
   have hw1:wrap64 ((x:Int)+1)=(x:Int)+1:=(wr3 (z:=0) (by decide) (by omega)).2.2
   have HOG:=Aside0.mk (fun W hb=>(HDX.out W hb).imp (fun w' h=>h.2 x hlt))
   generalize og0 x=og at HOG
   have k0:wr.cell? ⟨g,x*5,none⟩=_:=HBR.out.cells hlt 0 _ rfl
   have k1:wr.cell? ⟨g,x*5+1,none⟩=_:=HBR.out.cells hlt 1 _ rfl
   have k2:wr.cell? ⟨g,x*5+2,none⟩=_:=HBR.out.cells hlt 2 _ rfl
   have k3:wr.cell? ⟨g,x*5+3,none⟩=_:=HBR.out.cells hlt 3 _ rfl
   have k4:wr.cell? ⟨g,x*5+4,none⟩=_:=HBR.out.cells hlt 4 _ rfl
   rw [HBE.out x (Nat.le_refl _)] at k0
   have HSET:=Aside0.mk (bset_id hlt)
   have HOL:=Aside0.mk (HS.out.ops x)
   have HAG:Aside0 (∀ k:Nat,(rd_T45 (rd_T50 bs (x:Int)).f0 (k:Int)).f5.length≤1000000):=⟨fun k=>HS.out.args (x,k)⟩
   have HXL:Aside0 ((rd_T50 bs (x:Int)).f0.length≤16384):=⟨HS.out.ops x⟩
   clear HOL
   obtain ⟨X43,hX43⟩:∃ X43,rd_T50 bs (x:Int)=X43:=⟨_,rfl⟩
   rw [hX43] at HOG k0 k1 k2 k3 k4 HAG HXL
   have HX43:=Aside0.mk hX43
   clear hX43
   obtain ⟨xs,t0,t1,t2,t3⟩:=X43
   simp only at k0 k1 k2 k3 k4
   have HAG:Aside0 (∀ k:Nat,(rd_T45 xs (k:Int)).f5.length≤1000000):=HAG
   have HXL:Aside0 (xs.length≤16384):=HXL
   have HOG:Aside0 (∀ W,Below w.heap.size w W→St (fun k=>Z k∨w.heap.size≤k) W (fun w'=>OpsAt w' (bg0 x).1 xs og)):=HOG
   have HLX:Aside0 (xs.length≤(bg0 x).2∨True):=⟨.inr trivial⟩
   have hbA:=below_alloc (Below.refl wr.heap.size wr) (.cells #[.slice (bg0 x).1 xs.length (bg0 x).2,.int .i64 t0,.int .i64 t1,.int .i64 t2,.int .i64 t3] 50)
   have HBA:=Aside0.mk hbA
   clear hbA
   go_wp2_with (go_at_call 89;refine (clone_ops (bg0 x).1 (bg0 x).2 xs og _ (HOG.out _ (below_then HCI.out.bel HCI.out.bel.size HBA.out)).now (Nat.le_trans HXL.out (by decide))).mono ?_;rintro e w3 ⟨A2,c2,rfl,hle,hnr,hb⟩;have HLE2:=Aside0.mk hle;have HNR2:=Aside0.mk hnr;have HB3:=Aside0.mk (below_then HBA.out HBA.out.size hb);clear hle hnr hb)
   clear k0 k1 k2 k3 k4 b1
   have HCI3:=Aside0.mk (HCI.out.below HB3.out)
   have hBR3:=((HBR.out.wide (Y:=fun q=>XC Z w.heap.size g q∨wr.heap.size≤q) (fun q h=>h.imp id id)).step (KP.of_below HB3.out) (HB3.out.block g (blk_lt HBR.out.blk)))
   have HBR3:=Aside0.mk hBR3
   clear hBR3
   have HGW:Aside0 (g<wr.heap.size):=⟨blk_lt HBR.out.blk⟩
   have HOR3:Aside0 (0<xs.length→∃ (g2:Nat) (og' : Nat→Option Addr × Nat) (ds:Array Value),A2=some ⟨g2,0,none⟩∧wr.heap.size≤g2∧OR (fun q=>XC Z w.heap.size g q∨q=g2) w3 g2 xs og' ds∧∀ q,0≤q→og' q=og q):=⟨fun h=>by
    obtain ⟨g2,ds,e,hg,hor⟩:=OR.of_new (HOG.out _ HCI3.out.bel) HNR2.out h
    have hs2:wr.heap.size≤g2:=Nat.le_trans (by rw [World.size_alloc];omega) hg
    refine ⟨g2,og,ds,e,hs2,⟨hor.blk,fun k hk=>⟨(hor.el k hk).1,(hor.el k hk).2.1,(hor.el k hk).2.2.mono (fun q hq=>?_)⟩⟩,fun _ _=>rfl⟩
    have h1:=HG2.out
    have h2:=HGW.out
    rcases hq with hq|hq
    ·exact hq.or (by omega)
    ·exact .inr (by have:=HCI.out.bel.size;omega)⟩
   clear HNR2
   obtain ⟨Sz,hSz⟩:∃ Sz,wr.heap.size=Sz:=⟨_,rfl⟩
   rw [hSz] at HGW HBR3 HOR3
   clear hSz
   go_loopw [25] (fun i wi=>∃ k:Nat,k≤xs.length∧i=.int .i64 (k:Int)∧Aside0 (CI w wi p g bs.length c1)∧Aside0 (BR (fun q=>XC Z w.heap.size g q∨Sz≤q) wi g bs bg' cs)∧Aside0 (0<xs.length→∃ (g2:Nat) (og' : Nat→Option Addr × Nat) (ds:Array Value),A2=some ⟨g2,0,none⟩∧Sz≤g2∧OR (fun q=>XC Z w.heap.size g q∨q=g2) wi g2 xs og' ds∧∀ q,k≤q→og' q=og q)) (fun i _=>xs.length - (intOf i).toNat)
   case atStart=>exact ⟨0,Nat.zero_le _,rfl,HCI3,HBR3,HOR3⟩
   case round =>
    clear HCI HBR HCI3 HBR3 HOR3
    obtain ⟨k,hk,rfl,HCI,HBR,HOR⟩:=hrel
    by_cases hlk:k<xs.length
    ·have b2:decide ((k:Int)<(xs.length:Int))=true:=decide_eq_true (by omega)
     have hw2:wrap64 ((k:Int)+1)=(k:Int)+1:=(wr3 (z:=0) (by decide) (Nat.le_trans (Nat.le_of_lt hlk) HXL.out)).2.2
     obtain ⟨g2,og',ds,rfl,hg2',hor,hoe⟩:=HOR.out (by omega)
     have HORr:=Aside0.mk hor
     have HOE:=Aside0.mk hoe
     have HGG:=Aside0.mk hg2'
     have y0:wr.cell? ⟨g2,k*6,none⟩=_:=hor.cells hlk 0 _ rfl
     have y1:wr.cell? ⟨g2,k*6+1,none⟩=_:=hor.cells hlk 1 _ rfl
     have y2:wr.cell? ⟨g2,k*6+2,none⟩=_:=hor.cells hlk 2 _ rfl
     have y3:wr.cell? ⟨g2,k*6+3,none⟩=_:=hor.cells hlk 3 _ rfl
     have y4:wr.cell? ⟨g2,k*6+4,none⟩=_:=hor.cells hlk 4 _ rfl
     have y5:wr.cell? ⟨g2,k*6+5,none⟩=_:=hor.cells hlk 5 _ rfl
     rw [hoe k (Nat.le_refl _)] at y5
     have HRW:Aside0 (∀ W,Below w.heap.size w W→Kd.C (Kd.int .i64) W (og k).1 (rd_T45 xs (k:Int)).f5.length (rd_T45 xs (k:Int)).f5):=⟨fun W hb=>((HOG.out W hb).now k hlk).row⟩
     have HAK:=Aside0.mk (HAG.out k)
     obtain ⟨X,hX⟩:∃ X,rd_T45 xs (k:Int)=X:=⟨_,rfl⟩
     rw [hX] at y0 y1 y2 y3 y4 y5 HRW HAK
     have HX:=Aside0.mk hX
     have HBB:=Aside0.mk (below_alloc (Below.refl wr.heap.size wr) (.cells #[.int .i64 X.f0,.int .i64 X.f1,.int .i64 X.f2,.int .i64 X.f3,.int .i64 X.f4,.slice (og k).1 X.f5.length (og k).2] 45))
     clear hX hor hoe hg2' HOR
     go_wp2_with (go_at_call 90;refine (clone_int (og k).1 (og k).2 X.f5 _ (HRW.out _ (below_then HCI.out.bel HCI.out.bel.size HBB.out)) (Nat.le_trans HAK.out (by decide))).mono ?_;rintro e w5 ⟨A5,c5,rfl,hle,hst,hb⟩;have HLE5:=Aside0.mk hle;have HST5:=Aside0.mk hst;have HB5:=Aside0.mk (below_then HBB.out HBB.out.size hb);have HSZ5:Aside0 (wr.heap.size≤(wr.alloc (.cells #[.int .i64 X.f0,.int .i64 X.f1,.int .i64 X.f2,.int .i64 X.f3,.int .i64 X.f4,.slice (og k).1 X.f5.length (og k).2] 45)).heap.size):=⟨HBB.out.size⟩;have y5:=pw_cell_below HB5.out y5;have f5:w5.frozen? ⟨g2,k*6+5,none⟩=false:=blk_frozen (blk_below HORr.out.blk HB5.out) _;clear hle hst hb y0 y1 y2 y3 y4)
     go_roundw
     case rel =>
      have hlt2:=blk_lt HORr.out.blk
      have hg1:=HG2.out
      have hg3:=HGW.out
      have hg4:=HGG.out
      refine ⟨k+1,hlk,by first|(rw [hw2];exact num_cast k)|(with_reducible exact num_cast k),⟨(HCI.out.below HB5.out).set _ _ (by show w.heap.size+2≤g2;omega)⟩,⟨?_⟩,⟨fun _=>⟨g2,fun q=>if q=k then (A5,c5) else og' q,ds.setIfInBounds (k*6+5) (.slice A5 X.f5.length c5),rfl,hg4,?_,?_⟩⟩⟩
      ·refine (HBR.out.step (KP.of_below HB5.out) (HB5.out.block g (blk_lt HBR.out.blk))).step (KP.setCell w5 _ _ (.inr hg4)) (Below.heap_setCell _ _ _ g (by show g≠g2;omega))
      ·have h:=OR.put (HORr.out.step (KP.of_below HB5.out) (HB5.out.block g2 hlt2)) hlk (.inr rfl) (A:=A5) (c:=c5) (by rw [HX.out];exact HLE5.out) (by
        rw [HX.out]
        refine HST5.out _ (fun q hq h=>?_)
        have h2:=HSZ5.out
        rcases h with (h|h|h|h)|h
        ·omega
        ·omega
        ·omega
        ·have:=HZ.out q h;have:=HCI.out.bel.size;omega
        ·omega)
       rw [HX.out] at h
       exact h
      ·intro q hq
       show (if q=k then (A5,c5) else og' q)=og q
       rw [if_neg (by omega)]
       exact HOE.out q (by omega)
     case measure=>first|(rw [hw2];exact num_meas hlk)|(with_reducible exact num_meas hlk)
    ·have b2:decide ((k:Int)<(xs.length:Int))=false:=decide_eq_false (by omega)
     have sG:wr.cell? ⟨g,x*5,none⟩=_:=HBR.out.cells hlt 0 _ rfl
     have fG:wr.frozen? ⟨g,x*5,none⟩=false:=blk_frozen HBR.out.blk _
     have c1':=blk_cell HCI.out.b1 1
     simp only [List.getElem?_toArray,List.getElem?_cons_zero,List.getElem?_cons_succ] at c1'
     go_wp2_with fail
     go_roundw
     case rel =>
      have hg1:=HG2.out
      have hst:OpsS (XC Z w.heap.size g) wr A2 xs:=by
       rcases Nat.eq_zero_or_pos xs.length with h0|h0
       ·exact OpsS.nil h0
       ·obtain ⟨g2,og',ds,rfl,hg2',hor,_⟩:=HOR.out h0
        have hg3:=HGW.out
        exact hor.stS (XC.not (by omega) (by omega) HZ.out) (fun q hq=>.inl hq)
      have hb0:BR (XC Z w.heap.size g) wr g bs bg' cs:=⟨HBR.out.blk,fun q hq=>⟨(HBR.out.el q hq).1,(HBR.out.el q hq).2.1,(HBR.out.el q hq).2.2.1,(HBR.out.el q hq).2.2.2.mono (fun q hq=>.inl hq)⟩⟩
      have h:=BR.put hb0 hlt (.inr (.inr (.inl rfl))) xs (A:=A2) (c:=c2) HLE2.out (by have:=HXL.out;omega) hst
      have he:=HSET.out
      rw [HX43.out] at h he
      rw [he] at h
      refine ⟨x+1,_,_,hlt,by first|(rw [hw1];exact num_cast x)|(with_reducible exact num_cast x),⟨HCI.out.set _ _ hg1⟩,⟨h⟩,⟨fun q hq=>?_⟩⟩
      rw [if_neg (by omega)]
      exact HBE.out q (by omega)
     case measure=>first|(rw [hw1];exact num_meas hlt)|(with_reducible exact num_meas hlt)
  ·have b1:decide ((x:Int)<(bs.length:Int))=false:=decide_eq_false (by omega)
   have c0':=blk_cell HCI.out.b1 0
   have c1':=blk_cell HCI.out.b1 1
   have d0:=blk_cell HCI.out.b2 0
   have d1:=blk_cell HCI.out.b2 1
   simp only [List.getElem?_toArray,List.getElem?_cons_zero,List.getElem?_cons_succ] at c0' c1' d0 d1
   have e0:=blk_frozen HCI.out.b2 0
   have e1:=blk_frozen HCI.out.b2 1
   go_wp2_with fail
   have hz:=blk_set (blk_set HCI.out.b2 0 (.int .i64 p)) 1 (.slice (some ⟨g,0,none⟩) bs.length c1)
   have hkp1:=KP.setCell (X:=XC Z w.heap.size g) wr ⟨w.heap.size+1,0,none⟩ (.int .i64 p) (.inr (.inl rfl))
   have hkp2:=KP.setCell (X:=XC Z w.heap.size g) (wr.setCell ⟨w.heap.size+1,0,none⟩ (.int .i64 p)) ⟨w.heap.size+1,1,none⟩ (.slice (some ⟨g,0,none⟩) bs.length c1) (.inr (.inl rfl))
   have hg1:=HG2.out
   have hb1:=below_set (below_set HCI.out.bel ⟨w.heap.size+1,0,none⟩ (.int .i64 p) (Nat.le_succ _)) ⟨w.heap.size+1,1,none⟩ (.slice (some ⟨g,0,none⟩) bs.length c1) (Nat.le_succ _)
   have hbr:=(HBR.out.step hkp1 (Below.heap_setCell _ _ _ g (by show g≠w.heap.size+1;omega))).step hkp2 (Below.heap_setCell _ _ _ g (by show g≠w.heap.size+1;omega))
   generalize (wr.setCell ⟨w.heap.size+1,0,none⟩ (.int .i64 p)).setCell ⟨w.heap.size+1,1,none⟩ (.slice (some ⟨g,0,none⟩) bs.length c1)=W2 at hz hb1 hbr ⊢
   have z0:=blk_cell hz 0
   have z1:=blk_cell hz 1
   simp at z0 z1
   refine bodyPost_ret (v:=.agg #[.int .i64 p,.slice (some ⟨g,0,none⟩) bs.length c1]) (by simp [results,Tryz.results61,go_sem,hu34,z0,z1]) rfl ?_
   exact ⟨g,c1,bg',cs,rfl,HLE.out,by omega,⟨hbr.blk,fun q hq=>⟨(hbr.el q hq).1,(hbr.el q hq).2.1,(hbr.el q hq).2.2.1,(hbr.el q hq).2.2.2.mono (fun q hq=>hq.elim (fun h=>.inr (.inr (.inl h))) (fun h=>.inr (.inr (.inr h))))⟩⟩,hb1⟩
end Go.Proofs.YtnkgbnbbmcoiiaaGreat.S
