import Derived.Test.YtnkgbnbbmcoiiaaGreatBk
import Derived.Test.YtnkgbnbbmcoiiaaGreatOclone
import Derived.ArgAppend
namespace Go.Proofs.YtnkgbnbbmcoiiaaGreat.S
open Go.RowKit Go.IM Go.Proofs.YtnkgbnbbmcoiiaaGreatW.PrintWords Go.Proofs.YtnkgbnbbmcoiiaaGreatW.PrintLast Go.Proofs.YtnkgbnbbmcoiiaaGreatW.PrintMore
set_option linter.unusedVariables false
set_option linter.unusedSimpArgs false
/-! ### code.Copy -/
theorem St.wide {X Y:Nat→Prop} {w:World} {φ:World→Prop} (h:St X w φ) (hs:∀ k,Y k→X k∨w.heap.size≤k):St Y w φ:=fun w2 h2=>h w2 ⟨h2.1,fun k o hx hk ho=>h2.2 k o (fun hY=>by
 rcases hs k hY with h1|h1
 ·exact hx h1
 ·have:=(Array.getElem?_eq_some_iff.1 hk).1;omega) hk ho⟩
theorem OpsS.wide {X Y:Nat→Prop} {w:World} {A:Option Addr} {xs:List S45} (h:OpsS X w A xs) (hs:∀ k,Y k→X k∨w.heap.size≤k):OpsS Y w A xs:=by
 obtain ⟨og,h⟩:=h
 exact ⟨og,h.wide hs⟩
theorem BR.wide {X Y:Nat→Prop} {w:World} {g:Nat} {bs:List S50} {bg:Nat→Option Addr × Nat} {cs:Array Value} (h:BR X w g bs bg cs) (hs:∀ k,Y k→X k∨w.heap.size≤k):BR Y w g bs bg cs :=
 ⟨h.blk,fun k hk=>⟨(h.el k hk).1,(h.el k hk).2.1,(h.el k hk).2.2.1,(h.el k hk).2.2.2.wide hs⟩⟩
/-- Sizes that a call can bear. -/
structure Sml (bs:List S50):Prop where mk ::
 pos:0<bs.length
 blks:bs.length≤4096
 ops:∀ i,opLen bs i≤16384
 args:∀ q,(opOf bs q).f5.length≤1000000
theorem RightP.sml {p:Int} {bs:List S50} {fn:Int} (h:RightP p bs fn):Sml bs:=⟨h.len.1,h.len.2,h.opLen_le,fun q=>Nat.le_trans (h.opA q).2 (by decide)⟩
/-- The two boxes,and what lay ahead. -/
structure CI (w W:World) (p:Int) (g n c1:Nat):Prop where mk ::
 bel:Below w.heap.size w W
 b1:W.heap[w.heap.size]?=some (.cells #[.int .i64 p,.slice (some ⟨g,0,none⟩) n c1] 24 (0,0))
 b2:W.heap[w.heap.size+1]?=some (.cells #[.int .i64 0,.slice none 0 0] 24 (0,0))
theorem CI.below {w W W' : World} {p:Int} {g n c1:Nat} (h:CI w W p g n c1) (hb:Below W.heap.size W W'):CI w W' p g n c1:=⟨below_then h.bel h.bel.size hb,blk_below h.b1 hb,blk_below h.b2 hb⟩
theorem below_set {w W:World} (h:Below w.heap.size w W) (a:Addr) (v:Value) (ha:w.heap.size≤a.block):Below w.heap.size w (W.setCell a v) :=
 ⟨h.os,h.tape,h.output,Nat.le_trans h.size (KeepsWalks.setCell W a v).size,fun i hi=>(Below.heap_setCell W a v i (by omega)).trans (h.block i hi)⟩
theorem CI.set {w W:World} {p:Int} {g n c1:Nat} (h:CI w W p g n c1) (a:Addr) (v:Value) (ha:w.heap.size+2≤a.block):CI w (W.setCell a v) p g n c1 :=
 ⟨below_set h.bel a v (by omega),blk_far h.b1 (by omega) v,blk_far h.b2 (by omega) v⟩
theorem bset_id {bs:List S50} {k:Nat} (hk:k<bs.length):bs.set k ⟨(rd_T50 bs (k:Int)).f0,(rd_T50 bs (k:Int)).f1⟩=bs:=by
 rw [rd43' hk]
 exact List.set_getElem_self hk
/-- What slices.Clone gives,as a row of blocks. -/
theorem BR.of_new {w:World} {X:Nat→Prop} {A A1:Option Addr} {bs:List S50} {bg:Nat→Option Addr × Nat} {w1:World} (h:BlksAt w A bs bg) (hst:∀ i,i<bs.length→OpsS X w1 (bg i).1 (rd_T50 bs (i:Int)).f0) {W0:World} (hn:0<bs.length) (hr:NewRow W0 w1 50 bs.length ((List.range bs.length).flatMap fun k:Nat=>blkC' (rd_T50 bs (k:Int)) (bg k)) A1) :
  ∃ g cs,A1=some ⟨g,0,none⟩∧W0.heap.size≤g∧BR X w1 g bs bg cs:=by
 obtain ⟨g,cs,e,hg,hbk,hc⟩:=hr hn
 refine ⟨g,cs,e,hg,hbk,fun i hi=>⟨fun j u hu=>hc _ _ ?_,(h i hi).cap,(h i hi).row.2.1,hst i hi⟩⟩
 have hj:j<5:=by
  have:=(List.getElem?_eq_some_iff.1 hu).1
  simpa [blkC'] using this
 rw [flat_get (fun k:Nat=>blkC' (rd_T50 bs (k:Int)) (bg k)) 5 (fun i=>rfl) bs.length i j hi hj]
 exact hu
theorem OR.of_new {X:Nat→Prop} {A A1:Option Addr} {xs:List S45} {og:Nat→Option Addr × Nat} {w1:World} (h:St X w1 (fun w'=>OpsAt w' A xs og)) {W0:World} (hr:NewRow W0 w1 45 xs.length ((List.range xs.length).flatMap fun k:Nat=>opC (rd_T45 xs (k:Int)) (og k)) A1) (hn:0<xs.length) :
  ∃ g cs,A1=some ⟨g,0,none⟩∧W0.heap.size≤g∧OR X w1 g xs og cs:=by
 obtain ⟨g,cs,e,hg,hbk,hc⟩:=hr hn
 refine ⟨g,cs,e,hg,hbk,fun i hi=>⟨fun j u hu=>hc _ _ ?_,(h.now i hi).cap,h.imp (fun w' h=>(h i hi).row)⟩⟩
 have hj:j<6:=by
  have:=(List.getElem?_eq_some_iff.1 hu).1
  simpa [opC] using this
 rw [flat_get (fun k:Nat=>opC (rd_T45 xs (k:Int)) (og k)) 6 (fun i=>rfl) xs.length i j hi hj]
 exact hu
theorem BR.cells {X:Nat→Prop} {w:World} {g:Nat} {bs:List S50} {bg:Nat→Option Addr × Nat} {cs:Array Value} (h:BR X w g bs bg cs) {i:Nat} (hi:i<bs.length) (j:Nat) (u:Value) (hu:(blkC' (rd_T50 bs (i:Int)) (bg i))[j]?=some u):w.cell? ⟨g,i*5+j,none⟩=some u:=(blk_cell h.blk _).trans ((h.el i hi).1 j u hu)
theorem OR.cells {X:Nat→Prop} {w:World} {g:Nat} {xs:List S45} {og:Nat→Option Addr × Nat} {cs:Array Value} (h:OR X w g xs og cs) {i:Nat} (hi:i<xs.length) (j:Nat) (u:Value) (hu:(opC (rd_T45 xs (i:Int)) (og i))[j]?=some u):w.cell? ⟨g,i*6+j,none⟩=some u:=(blk_cell h.blk _).trans ((h.el i hi).1 j u hu)
/-- The blocks that may be written: the two boxes,and the row of blocks. -/
def XC (Z:Nat→Prop) (s g:Nat) (k:Nat):Prop:=k=s∨k=s+1∨k=g∨Z k
theorem XC.or {Z:Nat→Prop} {s g k:Nat} (h:XC Z s g k) (hg:s≤g):Z k∨s≤k:=by
 rcases h with h|h|h|h
 ·exact .inr (by omega)
 ·exact .inr (by omega)
 ·exact .inr (by omega)
 ·exact .inl h
theorem XC.not {Z:Nat→Prop} {s g k:Nat} (hs:s+1<k) (hg:k≠g) (hZ:∀ k,Z k→k<s):¬ XC Z s g k:=by
 rintro (h|h|h|h)
 ·omega
 ·omega
 ·omega
 ·have:=hZ k h;omega
set_option maxHeartbeats 8000000 in
set_option maxRecDepth 100000 in
theorem copy_ok (p:Int) (A:Option Addr) (c:Nat) (bs:List S50) (w:World) (Z:Nat→Prop) (bg0:Nat→Option Addr × Nat) (og0:Nat→Nat→Option Addr × Nat) (hD:St Z w (fun w'=>DeepAt w' A bs bg0 og0)) (hZ:∀ k,Z k→k<w.heap.size) (hs:Sml bs) :
  Calls Tryz.prog 61 #[.agg #[.int .i64 p,.slice A bs.length c]] w fun e w'=>∃ g c1 bg cs,e=.returned (.agg #[.int .i64 p,.slice (some ⟨g,0,none⟩) bs.length c1])∧bs.length≤c1∧w.heap.size≤g∧BR (fun k=>k=g∨Z k) w' g bs bg cs∧Below w.heap.size w w':=by
 have hu34:=Tryz.underlying24
 have hu43:=Tryz.underlying50
 have hu41:=Tryz.underlying48
 have hu45:=Tryz.underlying45
 have HS:=ak_ hs
 have HZ:=ak_ hZ
 have hlen:=hs.blks
 have HDX:Aside0 (∀ W,Below w.heap.size w W→St (fun k=>Z k∨w.heap.size≤k) W (fun w'=>DeepAt w' A bs bg0 og0)):=⟨fun W hb=>(hD.wide (Y:=fun k=>Z k∨w.heap.size≤k) (fun k h=>h)).step (KP.of_below hb)⟩
 have hbA:=below_alloc (below_alloc (Below.refl w.heap.size w) (.cells #[.int .i64 p,.slice A bs.length c] 24)) (.cells #[.int .i64 0,.slice none 0 0] 24)
 have HBA:=ak_ hbA
 have hx1:=blk_alloc (blk_new w (.cells #[.int .i64 p,.slice A bs.length c] 24)) (.cells #[.int .i64 0,.slice none 0 0] 24)
 have hx2:=blk_new (w.alloc (.cells #[.int .i64 p,.slice A bs.length c] 24)) (.cells #[.int .i64 0,.slice none 0 0] 24)
 have hsz:((w.alloc (.cells #[.int .i64 p,.slice A bs.length c] 24)).alloc (.cells #[.int .i64 0,.slice none 0 0] 24)).heap.size=w.heap.size+2:=by rw [World.size_alloc,World.size_alloc]
 rw [World.size_alloc] at hx2
 have HX1:=ak_ hx1
 have HX2:=ak_ hx2
 have HSZ:=ak_ hsz
 clear hD hs hbA hx1 hx2 hsz hZ
 go_enter Tryz.func61,Tryz.ntmps61
 go_wp2_with (go_at_call 88;refine (clone_blks A c bs bg0 _ (HDX.out _ HBA.out).now.1 (Nat.le_trans HS.out.blks (by decide))).mono ?_;rintro e w1 ⟨A1,c1,rfl,hle,hnr,hb⟩;have HLE:=ak_ hle;have HNR:=ak_ hnr;have HB1:=ak_ (below_then HBA.out HBA.out.size hb);have HX11:=ak_ (blk_below HX1.out hb);have HX21:=ak_ (blk_below HX2.out hb);have sX:=bc_ HX11 1;have fX:=fz_ HX11 1;have s0:=bc_ HX11 0;simp only [ga_,gb_,gc_] at sX s0;clear hle hnr hb)
 obtain ⟨g,cs0,rfl,hg2,hBR⟩:=BR.of_new (X:=fun k=>Z k∨w.heap.size≤k) (HDX.out _ HB1.out).now.1 (fun i hi=>⟨og0 i,(HDX.out _ HB1.out).imp (fun w' h=>h.2 i hi)⟩) HS.out.pos HNR.out
 rw [HSZ.out] at hg2
 clear sX fX s0
 obtain ⟨W1,hW1⟩:∃ W1,w1.setCell ⟨w.heap.size,1,none⟩ (.slice (some ⟨g,0,none⟩) bs.length c1)=W1:=⟨_,rfl⟩
 have HCI:Aside0 (CI w W1 p g bs.length c1):=⟨by
  rw [← hW1]
  refine ⟨below_set HB1.out _ _ (Nat.le_refl _),?_,blk_far HX21.out (by simp) _⟩
  exact blk_set HX11.out 1 _⟩
 have HBR:Aside0 (BR (XC Z w.heap.size g) W1 g bs bg0 cs0):=⟨by
  rw [← hW1]
  have h1:=hBR.step (KP.setCell (X:=fun k=>Z k∨w.heap.size≤k) w1 ⟨w.heap.size,1,none⟩ (.slice (some ⟨g,0,none⟩) bs.length c1) (.inr (Nat.le_refl _))) (Below.heap_setCell _ _ _ g (by show g≠w.heap.size;omega))
  exact h1.wide (fun k hk=>.inl (hk.or (by omega)))⟩
 have c1':=blk_cell HCI.out.b1 1
 have c0':=blk_cell HCI.out.b1 0
 simp only [ga_,gb_,gc_] at c1' c0'
 rw [hW1]
 clear hW1 hBR HB1 HX11 HX21 HNR HX1 HX2 HBA HSZ
 have HG2:=ak_ hg2
 go_wp2_with fail
 clear c1' c0'
 go_loopw [15] (fun i wr=>∃ (x:Nat) (bg' : Nat→Option Addr × Nat) (cs:Array Value),x≤bs.length∧i=.int .i64 (x:Int)∧Aside0 (CI w wr p g bs.length c1)∧Aside0 (BR (XC Z w.heap.size g) wr g bs bg' cs)∧Aside0 (∀ q,x≤q→bg' q=bg0 q)) (fun i _=>bs.length - (intOf i).toNat)
 case atStart=>exact ⟨0,bg0,cs0,Nat.zero_le _,rfl,HCI,HBR,⟨fun _ _=>rfl⟩⟩
 case round =>
  clear HCI HBR
  obtain ⟨x,bg',cs,hx,rfl,HCI,HBR,HBE⟩:=hrel
  by_cases hlt:x<bs.length
  ·have b1:decide ((x:Int)<(bs.length:Int))=true:=decide_eq_true (by omega)
   have hw1:wrap64 ((x:Int)+1)=(x:Int)+1:=(wr3 (z:=0) (by decide) (by omega)).2.2
   have HOG:=ak_ (fun W hb=>(HDX.out W hb).imp (fun w' h=>h.2 x hlt))
   generalize og0 x=og at HOG
   have k0:wr.cell? ⟨g,x*5,none⟩=_:=HBR.out.cells hlt 0 _ rfl
   have k1:wr.cell? ⟨g,x*5+1,none⟩=_:=HBR.out.cells hlt 1 _ rfl
   have k2:wr.cell? ⟨g,x*5+2,none⟩=_:=HBR.out.cells hlt 2 _ rfl
   have k3:wr.cell? ⟨g,x*5+3,none⟩=_:=HBR.out.cells hlt 3 _ rfl
   have k4:wr.cell? ⟨g,x*5+4,none⟩=_:=HBR.out.cells hlt 4 _ rfl
   rw [HBE.out x (Nat.le_refl _)] at k0
   have HSET:=ak_ (bset_id hlt)
   have HOL:=ak_ (HS.out.ops x)
   have HAG:Aside0 (∀ k:Nat,(rd_T45 (rd_T50 bs (x:Int)).f0 (k:Int)).f5.length≤1000000):=⟨fun k=>HS.out.args (x,k)⟩
   have HXL:Aside0 ((rd_T50 bs (x:Int)).f0.length≤16384):=⟨HS.out.ops x⟩
   clear HOL
   obtain ⟨X43,hX43⟩:∃ X43,rd_T50 bs (x:Int)=X43:=⟨_,rfl⟩
   rw [hX43] at HOG k0 k1 k2 k3 k4 HAG HXL
   have HX43:=ak_ hX43
   clear hX43
   obtain ⟨xs,t0,t1,t2,t3⟩:=X43
   simp only at k0 k1 k2 k3 k4
   have HAG:Aside0 (∀ k:Nat,(rd_T45 xs (k:Int)).f5.length≤1000000):=HAG
   have HXL:Aside0 (xs.length≤16384):=HXL
   have HOG:Aside0 (∀ W,Below w.heap.size w W→St (fun k=>Z k∨w.heap.size≤k) W (fun w'=>OpsAt w' (bg0 x).1 xs og)):=HOG
   have HLX:Aside0 (xs.length≤(bg0 x).2∨True):=⟨.inr trivial⟩
   have hbA:=below_alloc (Below.refl wr.heap.size wr) (.cells #[.slice (bg0 x).1 xs.length (bg0 x).2,.int .i64 t0,.int .i64 t1,.int .i64 t2,.int .i64 t3] 50)
   have HBA:=ak_ hbA
   clear hbA
   go_wp2_with (go_at_call 89;refine (clone_ops (bg0 x).1 (bg0 x).2 xs og _ (HOG.out _ (below_then HCI.out.bel HCI.out.bel.size HBA.out)).now (Nat.le_trans HXL.out (by decide))).mono ?_;rintro e w3 ⟨A2,c2,rfl,hle,hnr,hb⟩;have HLE2:=ak_ hle;have HNR2:=ak_ hnr;have HB3:=ak_ (below_then HBA.out HBA.out.size hb);clear hle hnr hb)
   clear k0 k1 k2 k3 k4 b1
   have HCI3:=ak_ (HCI.out.below HB3.out)
   have hBR3:=((HBR.out.wide (Y:=fun q=>XC Z w.heap.size g q∨wr.heap.size≤q) (fun q h=>h.imp id id)).step (KP.of_below HB3.out) (HB3.out.block g (blk_lt HBR.out.blk)))
   have HBR3:=ak_ hBR3
   clear hBR3
   have HGW:Aside0 (g<wr.heap.size):=⟨blk_lt HBR.out.blk⟩
   have HOR3:Aside0 (0<xs.length→∃ (g2:Nat) (og' : Nat→Option Addr × Nat) (ds:Array Value),A2=some ⟨g2,0,none⟩∧wr.heap.size≤g2∧OR (fun q=>XC Z w.heap.size g q∨q=g2) w3 g2 xs og' ds∧∀ q,0≤q→og' q=og q):=⟨fun h=>by
    obtain ⟨g2,ds,e,hg,hor⟩:=OR.of_new (HOG.out _ HCI3.out.bel) HNR2.out h
    have hs2:wr.heap.size≤g2:=Nat.le_trans (by rw [World.size_alloc];omega) hg
    refine ⟨g2,og,ds,e,hs2,⟨hor.blk,fun k hk=>⟨(hor.el k hk).1,(hor.el k hk).2.1,(hor.el k hk).2.2.mono (fun q hq=>?_)⟩⟩,fun _ _=>rfl⟩
    have h1:=HG2.out
    have h2:=HGW.out
    rcases hq with hq|hq
    ·exact hq.or (by omega)
    ·exact .inr (by have:=HCI.out.bel.size;omega)⟩
   clear HNR2
   obtain ⟨Sz,hSz⟩:∃ Sz,wr.heap.size=Sz:=⟨_,rfl⟩
   rw [hSz] at HGW HBR3 HOR3
   clear hSz
   go_loopw [25] (fun i wi=>∃ k:Nat,k≤xs.length∧i=.int .i64 (k:Int)∧Aside0 (CI w wi p g bs.length c1)∧Aside0 (BR (fun q=>XC Z w.heap.size g q∨Sz≤q) wi g bs bg' cs)∧Aside0 (0<xs.length→∃ (g2:Nat) (og' : Nat→Option Addr × Nat) (ds:Array Value),A2=some ⟨g2,0,none⟩∧Sz≤g2∧OR (fun q=>XC Z w.heap.size g q∨q=g2) wi g2 xs og' ds∧∀ q,k≤q→og' q=og q)) (fun i _=>xs.length - (intOf i).toNat)
   case atStart=>exact ⟨0,Nat.zero_le _,rfl,HCI3,HBR3,HOR3⟩
   case round =>
    clear HCI HBR HCI3 HBR3 HOR3
    obtain ⟨k,hk,rfl,HCI,HBR,HOR⟩:=hrel
    by_cases hlk:k<xs.length
    ·have b2:decide ((k:Int)<(xs.length:Int))=true:=decide_eq_true (by omega)
     have hw2:wrap64 ((k:Int)+1)=(k:Int)+1:=(wr3 (z:=0) (by decide) (Nat.le_trans (Nat.le_of_lt hlk) HXL.out)).2.2
     obtain ⟨g2,og',ds,rfl,hg2',hor,hoe⟩:=HOR.out (by omega)
     have HORr:=ak_ hor
     have HOE:=ak_ hoe
     have HGG:=ak_ hg2'
     have y0:wr.cell? ⟨g2,k*6,none⟩=_:=hor.cells hlk 0 _ rfl
     have y1:wr.cell? ⟨g2,k*6+1,none⟩=_:=hor.cells hlk 1 _ rfl
     have y2:wr.cell? ⟨g2,k*6+2,none⟩=_:=hor.cells hlk 2 _ rfl
     have y3:wr.cell? ⟨g2,k*6+3,none⟩=_:=hor.cells hlk 3 _ rfl
     have y4:wr.cell? ⟨g2,k*6+4,none⟩=_:=hor.cells hlk 4 _ rfl
     have y5:wr.cell? ⟨g2,k*6+5,none⟩=_:=hor.cells hlk 5 _ rfl
     rw [hoe k (Nat.le_refl _)] at y5
     have HRW:Aside0 (∀ W,Below w.heap.size w W→Kd.C (Kd.int .i64) W (og k).1 (rd_T45 xs (k:Int)).f5.length (rd_T45 xs (k:Int)).f5):=⟨fun W hb=>((HOG.out W hb).now k hlk).row⟩
     have HAK:=ak_ (HAG.out k)
     obtain ⟨X,hX⟩:∃ X,rd_T45 xs (k:Int)=X:=⟨_,rfl⟩
     rw [hX] at y0 y1 y2 y3 y4 y5 HRW HAK
     have HX:=ak_ hX
     have HBB:=ak_ (below_alloc (Below.refl wr.heap.size wr) (.cells #[.int .i64 X.f0,.int .i64 X.f1,.int .i64 X.f2,.int .i64 X.f3,.int .i64 X.f4,.slice (og k).1 X.f5.length (og k).2] 45))
     clear hX hor hoe hg2' HOR
     go_wp2_with (go_at_call 90;refine (clone_int (og k).1 (og k).2 X.f5 _ (HRW.out _ (below_then HCI.out.bel HCI.out.bel.size HBB.out)) (Nat.le_trans HAK.out (by decide))).mono ?_;rintro e w5 ⟨A5,c5,rfl,hle,hst,hb⟩;have HLE5:=ak_ hle;have HST5:=ak_ hst;have HB5:=ak_ (below_then HBB.out HBB.out.size hb);have HSZ5:Aside0 (wr.heap.size≤(wr.alloc (.cells #[.int .i64 X.f0,.int .i64 X.f1,.int .i64 X.f2,.int .i64 X.f3,.int .i64 X.f4,.slice (og k).1 X.f5.length (og k).2] 45)).heap.size):=⟨HBB.out.size⟩;have y5:=pw_cell_below HB5.out y5;have f5:w5.frozen? ⟨g2,k*6+5,none⟩=false:=blk_frozen (blk_below HORr.out.blk HB5.out) _;clear hle hst hb y0 y1 y2 y3 y4)
     go_roundw
     case rel =>
      have hlt2:=blk_lt HORr.out.blk
      have hg1:=HG2.out
      have hg3:=HGW.out
      have hg4:=HGG.out
      refine ⟨k+1,hlk,by first|(rw [hw2];exact num_cast k)|(with_reducible exact num_cast k),⟨(HCI.out.below HB5.out).set _ _ (by show w.heap.size+2≤g2;omega)⟩,⟨?_⟩,⟨fun _=>⟨g2,fun q=>if q=k then (A5,c5) else og' q,ds.setIfInBounds (k*6+5) (.slice A5 X.f5.length c5),rfl,hg4,?_,?_⟩⟩⟩
      ·refine (HBR.out.step (KP.of_below HB5.out) (HB5.out.block g (blk_lt HBR.out.blk))).step (KP.setCell w5 _ _ (.inr hg4)) (Below.heap_setCell _ _ _ g (by show g≠g2;omega))
      ·have h:=OR.put (HORr.out.step (KP.of_below HB5.out) (HB5.out.block g2 hlt2)) hlk (.inr rfl) (A:=A5) (c:=c5) (by rw [HX.out];exact HLE5.out) (by
        rw [HX.out]
        refine HST5.out _ (fun q hq h=>?_)
        have h2:=HSZ5.out
        rcases h with (h|h|h|h)|h
        ·omega
        ·omega
        ·omega
        ·have:=HZ.out q h;have:=HCI.out.bel.size;omega
        ·omega)
       rw [HX.out] at h
       exact h
      ·intro q hq
       show (if q=k then (A5,c5) else og' q)=og q
       rw [if_neg (by omega)]
       exact HOE.out q (by omega)
     case measure=>first|(rw [hw2];exact num_meas hlk)|(with_reducible exact num_meas hlk)
    ·have b2:decide ((k:Int)<(xs.length:Int))=false:=decide_eq_false (by omega)
     have sG:wr.cell? ⟨g,x*5,none⟩=_:=HBR.out.cells hlt 0 _ rfl
     have fG:wr.frozen? ⟨g,x*5,none⟩=false:=blk_frozen HBR.out.blk _
     have c1':=blk_cell HCI.out.b1 1
     simp only [ga_,gb_,gc_] at c1'
     go_wp2_with fail
     go_roundw
     case rel =>
      have hg1:=HG2.out
      have hst:OpsS (XC Z w.heap.size g) wr A2 xs:=by
       rcases Nat.eq_zero_or_pos xs.length with h0|h0
       ·exact OpsS.nil h0
       ·obtain ⟨g2,og',ds,rfl,hg2',hor,_⟩:=HOR.out h0
        have hg3:=HGW.out
        exact hor.stS (XC.not (by omega) (by omega) HZ.out) (fun q hq=>.inl hq)
      have hb0:BR (XC Z w.heap.size g) wr g bs bg' cs:=⟨HBR.out.blk,fun q hq=>⟨(HBR.out.el q hq).1,(HBR.out.el q hq).2.1,(HBR.out.el q hq).2.2.1,(HBR.out.el q hq).2.2.2.mono (fun q hq=>.inl hq)⟩⟩
      have h:=BR.put hb0 hlt (.inr (.inr (.inl rfl))) xs (A:=A2) (c:=c2) HLE2.out (by have:=HXL.out;omega) hst
      have he:=HSET.out
      rw [HX43.out] at h he
      rw [he] at h
      refine ⟨x+1,_,_,hlt,by first|(rw [hw1];exact num_cast x)|(with_reducible exact num_cast x),⟨HCI.out.set _ _ hg1⟩,⟨h⟩,⟨fun q hq=>?_⟩⟩
      rw [if_neg (by omega)]
      exact HBE.out q (by omega)
     case measure=>first|(rw [hw1];exact num_meas hlt)|(with_reducible exact num_meas hlt)
  ·have b1:decide ((x:Int)<(bs.length:Int))=false:=decide_eq_false (by omega)
   have c0':=blk_cell HCI.out.b1 0
   have c1':=blk_cell HCI.out.b1 1
   have d0:=blk_cell HCI.out.b2 0
   have d1:=blk_cell HCI.out.b2 1
   simp only [ga_,gb_,gc_] at c0' c1' d0 d1
   have e0:=blk_frozen HCI.out.b2 0
   have e1:=blk_frozen HCI.out.b2 1
   go_wp2_with fail
   have hz:=blk_set (blk_set HCI.out.b2 0 (.int .i64 p)) 1 (.slice (some ⟨g,0,none⟩) bs.length c1)
   have hkp1:=KP.setCell (X:=XC Z w.heap.size g) wr ⟨w.heap.size+1,0,none⟩ (.int .i64 p) (.inr (.inl rfl))
   have hkp2:=KP.setCell (X:=XC Z w.heap.size g) (wr.setCell ⟨w.heap.size+1,0,none⟩ (.int .i64 p)) ⟨w.heap.size+1,1,none⟩ (.slice (some ⟨g,0,none⟩) bs.length c1) (.inr (.inl rfl))
   have hg1:=HG2.out
   have hb1:=below_set (below_set HCI.out.bel ⟨w.heap.size+1,0,none⟩ (.int .i64 p) (Nat.le_succ _)) ⟨w.heap.size+1,1,none⟩ (.slice (some ⟨g,0,none⟩) bs.length c1) (Nat.le_succ _)
   have hbr:=(HBR.out.step hkp1 (Below.heap_setCell _ _ _ g (by show g≠w.heap.size+1;omega))).step hkp2 (Below.heap_setCell _ _ _ g (by show g≠w.heap.size+1;omega))
   generalize (wr.setCell ⟨w.heap.size+1,0,none⟩ (.int .i64 p)).setCell ⟨w.heap.size+1,1,none⟩ (.slice (some ⟨g,0,none⟩) bs.length c1)=W2 at hz hb1 hbr ⊢
   have z0:=blk_cell hz 0
   have z1:=blk_cell hz 1
   simp at z0 z1
   refine bodyPost_ret (v:=.agg #[.int .i64 p,.slice (some ⟨g,0,none⟩) bs.length c1]) (by simp [results,Tryz.results61,go_sem,hu34,z0,z1]) rfl ?_
   exact ⟨g,c1,bg',cs,rfl,HLE.out,by omega,⟨hbr.blk,fun q hq=>⟨(hbr.el q hq).1,(hbr.el q hq).2.1,(hbr.el q hq).2.2.1,(hbr.el q hq).2.2.2.mono (fun q hq=>hq.elim (fun h=>.inr (.inr (.inl h))) (fun h=>.inr (.inr (.inr h))))⟩⟩,hb1⟩
/-! ### code.Copy of a function without blocks -/
set_option maxHeartbeats 8000000 in
set_option maxRecDepth 100000 in
theorem copy_none (p:Int) (A:Option Addr) (c:Nat) (w:World) :
  Calls Tryz.prog 61 #[.agg #[.int .i64 p,.slice A 0 c]] w fun e w'=>∃ A' c',e=.returned (.agg #[.int .i64 p,.slice A' 0 c'])∧Below w.heap.size w w':=by
 have hu34:=Tryz.underlying24
 have hbA:=below_alloc (below_alloc (Below.refl w.heap.size w) (.cells #[.int .i64 p,.slice A 0 c] 24)) (.cells #[.int .i64 0,.slice none 0 0] 24)
 have hx1:=blk_alloc (blk_new w (.cells #[.int .i64 p,.slice A 0 c] 24)) (.cells #[.int .i64 0,.slice none 0 0] 24)
 have hx2:=blk_new (w.alloc (.cells #[.int .i64 p,.slice A 0 c] 24)) (.cells #[.int .i64 0,.slice none 0 0] 24)
 rw [World.size_alloc] at hx2
 have HBA:=ak_ hbA
 have HX1:=ak_ hx1
 have HX2:=ak_ hx2
 clear hbA hx1 hx2
 go_enter Tryz.func61,Tryz.ntmps61
 go_wp2_with (go_at_call 88;refine (clone90 A 0 c [] _ rfl (fun u h=>by cases h) (by decide) (fun h=>absurd h (Nat.lt_irrefl _))).mono ?_;rintro e w1 ⟨A1,c1,rfl,hle,_,hb⟩;have HB1:=ak_ (below_then HBA.out HBA.out.size hb);have HX11:=ak_ (blk_below HX1.out hb);have HX21:=ak_ (blk_below HX2.out hb);have sX:=bc_ HX11 1;have fX:=fz_ HX11 1;have s0:=bc_ HX11 0;simp only [ga_,gb_,gc_] at sX s0;clear hle hb)
 clear sX fX s0
 have hY1:(w1.setCell ⟨w.heap.size,1,none⟩ (.slice A1 0 c1)).heap[w.heap.size]?=some (.cells #[.int .i64 p,.slice A1 0 c1] 24 (0,0)):=blk_set HX11.out 1 _
 have hY2:=blk_far HX21.out (p:=⟨w.heap.size,1,none⟩) (by simp) (.slice A1 0 c1)
 have hYB:=below_set HB1.out ⟨w.heap.size,1,none⟩ (.slice A1 0 c1) (Nat.le_refl _)
 generalize w1.setCell ⟨w.heap.size,1,none⟩ (.slice A1 0 c1)=W1 at hY1 hY2 hYB ⊢
 have c0:=blk_cell hY1 0
 have c1':=blk_cell hY1 1
 have d0:=blk_cell hY2 0
 have d1:=blk_cell hY2 1
 have e0:=blk_frozen hY2 0
 have e1:=blk_frozen hY2 1
 simp only [ga_,gb_,gc_] at c0 c1' d0 d1
 have HY2:=ak_ hY2
 have HYB:=ak_ hYB
 clear hY1 hY2 hYB HBA HX1 HX2 HB1 HX11 HX21
 go_wp2_with fail
 go_loopw [15] (fun i wr=>i=.int .i64 0∧wr=W1) (fun _ _=>0)
 case atStart=>exact ⟨rfl,rfl⟩
 case round =>
  obtain ⟨rfl,rfl⟩:=hrel
  go_wp2_with fail
  have hz:=blk_set (blk_set HY2.out 0 (.int .i64 p)) 1 (.slice A1 0 c1)
  have hb1:=below_set (below_set HYB.out ⟨w.heap.size+1,0,none⟩ (.int .i64 p) (Nat.le_succ _)) ⟨w.heap.size+1,1,none⟩ (.slice A1 0 c1) (Nat.le_succ _)
  generalize (wr.setCell ⟨w.heap.size+1,0,none⟩ (.int .i64 p)).setCell ⟨w.heap.size+1,1,none⟩ (.slice A1 0 c1)=W2 at hz hb1 ⊢
  have z0:=blk_cell hz 0
  have z1:=blk_cell hz 1
  simp at z0 z1
  refine bodyPost_ret (v:=.agg #[.int .i64 p,.slice A1 0 c1]) (by simp [results,Tryz.results61,go_sem,hu34,z0,z1]) rfl ?_
  exact ⟨A1,c1,rfl,hb1⟩
/-! ### An own row of blocks,as the walks that write into it want it -/
theorem opsS_of_R {w:World} {base:Nat} {ok:Nat→Prop} {X:Nat→Prop} {A:Option Addr} {n c:Nat} {xs:List S45} (h:Kd.R k45 45 w base ok (.slice A n c) xs) (hX:∀ k,ok k→base≤k→¬ X k):OpsS X w A xs:=by
 obtain ⟨_,_,hC⟩:=Kd.R_reads' h
 obtain ⟨og,ho⟩:=ops_at hC
 refine ⟨og,fun w' hk q hq=>?_⟩
 have hb:=Kd.R_bound h
 have h':=Kd.R_move (w1:=w') hb (fun k hk'=>by
  obtain ⟨h1,h2,_,q,_,cells,hc⟩:=hk'
  rw [hc]
  exact hk.2 k _ (hX k h1 h2) hc rfl)
 obtain ⟨_,_,hC'⟩:=Kd.R_reads' h'
 obtain ⟨og',ho'⟩:=ops_at hC'
 have h1:=ho q hq
 have h2:=ho' q hq
 have e:og' q=og q:=by
  obtain ⟨g,cap,e0,hbg,hlt,cells,hcl⟩:=Kd.R_form h (by omega)
  obtain ⟨g',cap',e0',_,_,cells',hcl'⟩:=Kd.R_form h' (by omega)
  injection e0 with eA _ _
  obtain ⟨ad,ea,_,_,_,_,_,x5⟩:=h1.out
  obtain ⟨ad',ea',_,_,_,_,_,y5⟩:=h2.out
  have e1:ad'=ad:=by
   rw [ea] at ea'
   exact (Option.some.inj ea').symm
  subst e1
  have e2:ad'=⟨g,0,none⟩:=by
   rw [eA] at ea
   exact (Option.some.inj ea).symm
  subst e2
  have hsame:w'.heap[g]?=w.heap[g]?:=by
   have hok:=hb.1 g (by rw [eA];rfl)
   obtain ⟨o1,o2,_⟩:=hok
   rw [hcl]
   exact hk.2 g _ (hX g o1 o2) hcl rfl
  have hcell:∀ o,w'.cell? ⟨g,o,none⟩=w.cell? ⟨g,o,none⟩:=fun o=>World.cell?_of_block hsame
  simp only [Addr.add_lit,Nat.zero_add] at x5 y5
  rw [hcell,x5] at y5
  injection y5 with y5
  injection y5 with z1 _ z2
  exact Prod.ext z1.symm z2.symm
 rw [← e]
 exact h2
theorem br_of_R {w:World} {base:Nat} {A:Option Addr} {n c:Nat} {bs:List S50} (h:Kd.R k50 50 w base (fun _=>True) (.slice A n c) bs) (hp:0<bs.length) :
  ∃ g bg cs,A=some ⟨g,0,none⟩∧base≤g∧BR (fun k=>k=g∨k<base) w g bs bg cs:=by
 obtain ⟨_,inner,ho,hr⟩:=h
 rcases ho.2 with ⟨_,hn⟩|⟨g,cap,cur,he,hg,hh,hnc,_,hsz,htake⟩
 ·omega
 ·injection he with hA hn hc
  subst hA
  have h1:∃ bg:Nat→Option Addr × Nat,∀ i,i<bs.length→(∀ j u,(blkC' (rd_T50 bs (i:Int)) (bg i))[j]?=some u→cur[i*5+j]?=some u)∧(rd_T50 bs (i:Int)).f0.length≤(bg i).2∧(rd_T50 bs (i:Int)).f0.length≤9223372036854775807∧OpsS (fun k=>k=g∨k<base) w (bg i).1 (rd_T50 bs (i:Int)).f0:=by
   refine choice_ (α:=Option Addr × Nat) bs.length (fun i y=>(∀ j u,(blkC' (rd_T50 bs (i:Int)) y)[j]?=some u→cur[i*5+j]?=some u)∧(rd_T50 bs (i:Int)).f0.length≤y.2∧(rd_T50 bs (i:Int)).f0.length≤9223372036854775807∧OpsS (fun k=>k=g∨k<base) w y.1 (rd_T50 bs (i:Int)).f0) (fun i hi=>?_)
   rw [rd43' hi]
   obtain ⟨v0,hcs,hR⟩:=k50_openM (hr.2 i bs[i] (List.getElem?_eq_getElem hi))
   obtain ⟨A0,c0,rfl⟩:=Kd.R_slice hR
   refine ⟨(A0,c0),fun j u hu=>?_,(Kd.R_reads' hR).2.1,(Kd.R_reads' hR).2.2.2.1,opsS_of_R hR (fun k hk hb hx=>?_)⟩
   ·have e5:k50.sz=5:=rfl
    rw [e5] at hcs
    have hj:j<5:=by
     have:=(List.getElem?_eq_some_iff.1 hu).1
     exact this
    have e1:((inner.drop (i*5)).take 5)[j]?=some u:=by rw [hcs];exact hu
    rw [List.getElem?_take,if_pos hj,List.getElem?_drop] at e1
    rw [← htake,List.getElem?_take,e5] at e1
    split at e1
    ·rw [← Array.getElem?_toList];exact e1
    ·cases e1
   ·rcases hx with hx|hx
    ·exact hk.2 (by rw [hx];rfl)
    ·omega
  obtain ⟨bg,hbg⟩:=h1
  exact ⟨g,bg,cur,rfl,hg,hh,hbg⟩
/-! ### One own block may turn once -/
structure ZR (g:Nat) (Z:Obj) (a b:World):Prop where mk ::
 os:b.os=a.os
 tape:b.tape=a.tape
 output:b.output=a.output
 size:a.heap.size≤b.heap.size
 block:∀ k,k<a.heap.size→k≠g→b.heap[k]?=a.heap[k]?
 once:b.heap[g]?=a.heap[g]?∨a.heap[g]?=some Z
theorem ZR.refl (g:Nat) (Z:Obj) (a:World):ZR g Z a a:=⟨rfl,rfl,rfl,Nat.le_refl _,fun _ _ _=>rfl,.inl rfl⟩
theorem ZR.trans {g:Nat} {Z:Obj} {a b c:World} (h:ZR g Z a b) (k:ZR g Z b c):ZR g Z a c:=by
 refine ⟨k.os.trans h.os,k.tape.trans h.tape,k.output.trans h.output,Nat.le_trans h.size k.size,fun i hi hn=>(k.block i (Nat.lt_of_lt_of_le hi h.size) hn).trans (h.block i hi hn),?_⟩
 rcases h.once with h1|h1
 ·rcases k.once with k1|k1
  ·exact .inl (k1.trans h1)
  ·exact .inr (h1▸k1)
 ·exact .inr h1
theorem ZR.of_below {g:Nat} {Z:Obj} {a b:World} (hg:g<a.heap.size) (h:Below a.heap.size a b):ZR g Z a b :=
 ⟨h.os,h.tape,h.output,h.size,fun k hk _=>h.block k hk,.inl (h.block g hg)⟩
theorem ZR.set {g:Nat} {Z:Obj} {a:World} (h:a.heap[g]?=some Z) (i:Nat) (v:Value):ZR g Z a (a.setCell ⟨g,i,none⟩ v) :=
 ⟨rfl,rfl,rfl,(KeepsWalks.setCell a _ v).size,fun k _ hn=>Below.heap_setCell a ⟨g,i,none⟩ v k hn,.inr h⟩
theorem ZR.below {g B:Nat} {Z:Obj} {a b:World} (h:ZR g Z a b) (hB:B≤g) (hs:B≤a.heap.size):Below B a b :=
 ⟨h.os,h.tape,h.output,h.size,fun k hk=>h.block k (by omega) (by omega)⟩
/-- What a row of operations may turn to: its first m cells stay,and news stand behind them. -/
structure Grew (m:Nat) (news:List Value) (cur cur' : Array Value):Prop where mk ::
 size:cur'.size=cur.size
 low:∀ j,j<m→cur'[j]?=cur[j]?
 high:∀ (j:Nat) (u:Value),news[j]?=some u→cur'[m+j]?=some u
/-- The worlds of the region: all stays but g,which may turn once,and own rows,which may get the news. -/
structure ZS (z g:Nat) (Z:Obj) (m:Nat) (news:List Value) (a b:World):Prop where mk ::
 os:b.os=a.os
 tape:b.tape=a.tape
 output:b.output=a.output
 size:a.heap.size≤b.heap.size
 block:∀ i,i<a.heap.size→i≠g→b.heap[i]?=a.heap[i]?∨(z≤i∧∃ cur cur',a.heap[i]?=some (.cells cur 45 (0,0))∧b.heap[i]?=some (.cells cur' 45 (0,0))∧Grew m news cur cur')
 once:b.heap[g]?=a.heap[g]?∨a.heap[g]?=some Z
theorem Grew.trans {m:Nat} {news:List Value} {a b c:Array Value} (h:Grew m news a b) (k:Grew m news b c):Grew m news a c :=
 ⟨k.size.trans h.size,fun j hj=>(k.low j hj).trans (h.low j hj),k.high⟩
theorem ZS.refl (z g:Nat) (Z:Obj) (m:Nat) (news:List Value) (a:World):ZS z g Z m news a a:=⟨rfl,rfl,rfl,Nat.le_refl _,fun _ _ _=>.inl rfl,.inl rfl⟩
theorem ZS.trans {z g:Nat} {Z:Obj} {m:Nat} {news:List Value} {a b c:World} (h:ZS z g Z m news a b) (k:ZS z g Z m news b c):ZS z g Z m news a c:=by
 refine ⟨k.os.trans h.os,k.tape.trans h.tape,k.output.trans h.output,Nat.le_trans h.size k.size,fun i hi hn=>?_,?_⟩
 ·rcases h.block i hi hn with h1|⟨hz,cur,cur',h1,h2,h3⟩
  ·rcases k.block i (Nat.lt_of_lt_of_le hi h.size) hn with k1|⟨hz,cur,cur',k1,k2,k3⟩
   ·exact .inl (k1.trans h1)
   ·exact .inr ⟨hz,cur,cur',h1▸k1,k2,k3⟩
  ·rcases k.block i (Nat.lt_of_lt_of_le hi h.size) hn with k1|⟨_,cur2,cur2',k1,k2,k3⟩
   ·exact .inr ⟨hz,cur,cur',h1,k1.trans h2,h3⟩
   ·rw [h2] at k1
    injection k1 with k1
    injection k1 with k1 _
    subst k1
    exact .inr ⟨hz,cur,cur2',h1,k2,h3.trans k3⟩
 ·rcases h.once with h1|h1
  ·rcases k.once with k1|k1
   ·exact .inl (k1.trans h1)
   ·exact .inr (h1▸k1)
  ·exact .inr h1
theorem ZS.of_below {z g:Nat} {Z:Obj} {m:Nat} {news:List Value} {a b:World} (hg:g<a.heap.size) (h:Below a.heap.size a b):ZS z g Z m news a b :=
 ⟨h.os,h.tape,h.output,h.size,fun k hk _=>.inl (h.block k hk),.inl (h.block g hg)⟩
/-! ### Two appends of operations among the drawn -/
/-- The worlds of the region: all stays,but own rows of operations may get the news behind their first m cells. -/
structure ZT (z m:Nat) (news:List Value) (a b:World):Prop where mk ::
 os:b.os=a.os
 tape:b.tape=a.tape
 output:b.output=a.output
 size:a.heap.size≤b.heap.size
 block:∀ i,i<a.heap.size→b.heap[i]?=a.heap[i]?∨(z≤i∧∃ cur cur',a.heap[i]?=some (.cells cur 45 (0,0))∧b.heap[i]?=some (.cells cur' 45 (0,0))∧Grew m news cur cur')
theorem ZT.refl (z m:Nat) (news:List Value) (a:World):ZT z m news a a:=⟨rfl,rfl,rfl,Nat.le_refl _,fun _ _=>.inl rfl⟩
theorem ZT.of_below {z m:Nat} {news:List Value} {a b:World} (h:Below a.heap.size a b):ZT z m news a b:=⟨h.os,h.tape,h.output,h.size,fun k hk=>.inl (h.block k hk)⟩
theorem ZT.cls {z m:Nat} {news:List Value} {w0 a b:World} (h:Below z w0 a) (k:ZT z m news a b) (hz:z≤a.heap.size):Below z w0 b :=
 ⟨k.os.trans h.os,k.tape.trans h.tape,k.output.trans h.output,Nat.le_trans h.size k.size,fun g hg=>by
  rcases k.block g (by omega) with h1|⟨h1,_⟩
  ·exact h1.trans (h.block g hg)
  ·omega⟩
theorem ZT.at_ {z m:Nat} {news:List Value} {a b:World} (k:ZT z m news a b) {g:Nat} {cur:Array Value} (hg:a.heap[g]?=some (.cells cur 45 (0,0))):∃ cur',b.heap[g]?=some (.cells cur' 45 (0,0))∧(cur'=cur∨Grew m news cur cur'):=by
 rcases k.block g (Array.getElem?_eq_some_iff.1 hg).1 with h1|⟨_,cur1,cur2,h1,h2,h3⟩
 ·exact ⟨cur,h1.trans hg,.inl rfl⟩
 ·rw [hg] at h1
  injection h1 with h1
  injection h1 with h1
  subst h1
  exact ⟨cur2,h2,.inr h3⟩
/-- What the loud tell: the empty row,the first operations,the first and the last. -/
def RQ (z k r:Nat) (olds news:List Value) (n:Nat) (vs:List Value) (W:World):Prop :=
 if n=3 then ∃ g,vs=[.slice (some ⟨g,0,none⟩) 0 0]∧z≤g∧W.heap[g]?=some (.cells #[] 45 (0,0))
 else if n=7 then ∃ g cap cur,vs=[.slice (some ⟨g,0,none⟩) k cap]∧z≤g∧W.heap[g]?=some (.cells cur 45 (0,0))∧k≤cap∧cap≤maxLen∧cur.size=cap*6∧∀ (j:Nat) (u:Value),olds[j]?=some u→cur[j]?=some u
 else if n=12 then ∃ g cap cur,vs=[.slice (some ⟨g,0,none⟩) (k+r) cap]∧z≤g∧W.heap[g]?=some (.cells cur 45 (0,0))∧k+r≤cap∧(∀ (j:Nat) (u:Value),olds[j]?=some u→cur[j]?=some u)∧∀ (j:Nat) (u:Value),news[j]?=some u→cur[k*6+j]?=some u
 else True
theorem RQ.keep {z k r:Nat} {olds news:List Value} (hl:olds.length=k*6) (n:Nat) (vs:List Value) (a b:World) (h:RQ z k r olds news n vs a) (t:ZT z (k*6) news a b):RQ z k r olds news n vs b:=by
 unfold RQ at h ⊢
 have hlow:∀ {cur cur' : Array Value},(cur'=cur∨Grew (k*6) news cur cur')→(∀ (j:Nat) (u:Value),olds[j]?=some u→cur[j]?=some u)→∀ (j:Nat) (u:Value),olds[j]?=some u→cur'[j]?=some u:=by
  intro cur cur' hc ho j u hu
  rcases hc with rfl|hc
  ·exact ho j u hu
  ·rw [hc.low j (by have:=(List.getElem?_eq_some_iff.1 hu).1;omega)]
   exact ho j u hu
 have hsz:∀ {cur cur' : Array Value},(cur'=cur∨Grew (k*6) news cur cur')→cur'.size=cur.size:=by
  intro cur cur' hc
  rcases hc with rfl|hc
  ·rfl
  ·exact hc.size
 split at h
 ·rename_i e;rw [if_pos e]
  obtain ⟨g,h1,h2,h3⟩:=h
  obtain ⟨cur',h4,h5⟩:=t.at_ h3
  refine ⟨g,h1,h2,?_⟩
  have:=hsz h5
  have e0:cur'=#[]:=Array.eq_empty_of_size_eq_zero this
  rw [h4,e0]
 ·rename_i e;rw [if_neg e]
  split at h
  ·rename_i e2;rw [if_pos e2]
   obtain ⟨g,cap,cur,h1,h2,h3,h4,h5,h6,h7⟩:=h
   obtain ⟨cur',h8,h9⟩:=t.at_ h3
   exact ⟨g,cap,cur',h1,h2,h8,h4,h5,(hsz h9).trans h6,hlow h9 h7⟩
  ·rename_i e2;rw [if_neg e2]
   split at h
   ·rename_i e3;rw [if_pos e3]
    obtain ⟨g,cap,cur,h1,h2,h3,h4,h5,h6⟩:=h
    obtain ⟨cur',h8,h9⟩:=t.at_ h3
    refine ⟨g,cap,cur',h1,h2,h8,h4,hlow h9 h5,fun j u hu=>?_⟩
    rcases h9 with rfl|h9
    ·exact h6 j u hu
    ·exact h9.high j u hu
   ·rename_i e3;rw [if_neg e3];trivial
section
variable {ops:Array Oper} {rest:List Oper} {o:Oper} {a:Act} {Q:Exit→Act→World→Prop}
theorem appq_first (w' : World) (hgd:o.guard=none) (s x:Operand) (ho:o.op=.call { callee:=.builtin .append,args:=#[s,x],argTypes:=#[46,46] })
  (z k r:Nat) (olds news:List Value) (g:Nat) (hs:a.eval s=.slice (some ⟨g,0,none⟩) 0 0) (ad:Addr) (c:Nat) (hx:a.eval x=.slice (some ad) k c) (hlo:olds.length=k*6) (hc:∀ j u,olds[j]?=some u→w'.cell? (ad.add j)=some u) (h1c:∀ u∈olds,u.oneCell'=true)
  (hg:z≤g) (hb:w'.heap[g]?=some (.cells #[] 45 (0,0))) (hzs:z≤w'.heap.size) (hl:k≤1000000000) (h:∀ v1 w1,ZT z (k*6) news w' w1→RQ z k r olds news 7 [v1] w1→wpList Tryz.prog ops Q rest (a.put o.dst v1) w1):wpList Tryz.prog ops Q (o::rest) a w':=by
 obtain ⟨i0,hi,hzz⟩:=Option.map_eq_some_iff.1 info45c
 simp only [Prod.mk.injEq] at hzz
 obtain ⟨hz0,hz1,hz2⟩:=hzz
 refine wpList_append_arg w' hgd s x 46 ho 45 i0 _ 6 64 Tryz.underlying46 hi hz0 hz1 hz2 rfl (by decide) g 0 0 0 [] hs (by simp) (by simp) ad k c olds hx hlo hc h1c (fun h j hj=>?_) (by simp only [maxLen];omega) (by omega) (fun h0=>?_) (fun h0 v1 w1 hown hgr=>?_)
 ·obtain rfl:k=0:=by omega
  rw [hlo,Nat.zero_mul] at hj
  exact absurd hj (Nat.not_lt_zero _)
 ·obtain rfl:k=0:=by omega
  obtain rfl:olds=[]:=List.eq_nil_of_length_eq_zero (by rw [hlo,Nat.zero_mul])
  refine h _ w' (ZT.refl _ _ _ _) ?_
  unfold RQ
  rw [if_neg (by decide),if_pos rfl]
  exact ⟨g,0,#[],rfl,hg,hb,Nat.le_refl _,by simp [maxLen],rfl,fun j u hu=>by simp at hu⟩
 ·rw [Nat.zero_add,List.nil_append] at hown
  have hbl:Below w'.heap.size w' w1:=⟨hgr.os,hgr.tape,hgr.output,hgr.size,fun i hi=>hgr.block i hi (by simp)⟩
  refine h v1 w1 (ZT.of_below hbl) ?_
  unfold RQ
  rw [if_neg (by decide),if_pos rfl]
  rcases hown.2 with ⟨_,h1⟩|⟨g1,cap,cur,rfl,h2,h3,h4,h5,h6,h7⟩
  ·omega
  ·refine ⟨g1,cap,cur,rfl,by omega,h3,h4,h5,h6,fun j u hu=>?_⟩
   have hj:j<k*6:=by
    have:=(List.getElem?_eq_some_iff.1 hu).1
    omega
   rw [← h7,List.getElem?_take_of_lt hj,Array.getElem?_toList] at hu
   exact hu
theorem appq_second (w' : World) (hgd:o.guard=none) (s x:Operand) (ho:o.op=.call { callee:=.builtin .append,args:=#[s,x],argTypes:=#[46,46] })
  (z k r:Nat) (olds news:List Value) (v7:Value) (hs:a.eval s=v7) (h7:RQ z k r olds news 7 [v7] w') (ad:Addr) (c:Nat) (hx:a.eval x=.slice (some ad) r c) (hlo:olds.length=k*6) (hln:news.length=r*6) (hc:∀ j u,news[j]?=some u→w'.cell? (ad.add j)=some u) (h1c:∀ u∈news,u.oneCell'=true)
  (hzs:z≤w'.heap.size) (hl:k+r≤1000000000) (h:∀ v1 w1,ZT z (k*6) news w' w1→RQ z k r olds news 12 [v1] w1→wpList Tryz.prog ops Q rest (a.put o.dst v1) w1):wpList Tryz.prog ops Q (o::rest) a w':=by
 obtain ⟨i0,hi,hzz⟩:=Option.map_eq_some_iff.1 info45c
 simp only [Prod.mk.injEq] at hzz
 obtain ⟨hz0,hz1,hz2⟩:=hzz
 unfold RQ at h7
 rw [if_neg (by decide),if_pos rfl] at h7
 obtain ⟨g,cap,cur,e7,hg,hb,hcap,hmax,hsz,hold⟩:=h7
 obtain rfl:v7=.slice (some ⟨g,0,none⟩) k cap:=by injection e7
 refine wpList_append_arg w' hgd s x 46 ho 45 i0 _ 6 64 Tryz.underlying46 hi hz0 hz1 hz2 rfl (by decide) g 0 k cap olds hs hlo (fun j u hu=>?_) ad r c news hx hln hc h1c (fun hr j hj=>?_) (by simp only [maxLen];omega) (by omega) (fun hr=>?_) (fun _ v1 w1 hown hgr=>?_)
 ·rw [Nat.zero_add]
  exact (blk_cell hb j).trans (hold j u hu)
 ·have hlt:k*6+j<cur.size:=by omega
  rw [Nat.zero_add]
  refine ⟨?_,blk_frozen hb _⟩
  rw [blk_cell hb]
  simp [hlt]
 ·rw [Nat.zero_add]
  obtain ⟨cur',hb',hs',ht'⟩:=setCells_row news (k*6) w' cur hb (by omega)
  obtain ⟨e1,e2,e3,e4⟩:=setCells_same g news (k*6) w'
  have hgrew:Grew (k*6) news cur cur':=by
   have hk6:k*6≤cur.toList.length:=by rw [Array.length_toList];omega
   refine ⟨hs',fun j hj=>?_,fun j u hu=>?_⟩
   ·rw [← Array.getElem?_toList,ht',List.append_assoc,List.getElem?_append_left (by rw [List.length_take];omega),List.getElem?_take_of_lt hj,Array.getElem?_toList]
   ·have hj:=(List.getElem?_eq_some_iff.1 hu).1
    rw [← Array.getElem?_toList,ht',List.append_assoc,List.getElem?_append_right (by rw [List.length_take];omega),List.length_take,Nat.min_eq_left hk6,Nat.add_sub_cancel_left,List.getElem?_append_left hj]
    exact hu
  refine h _ _ ⟨e1,e2,e3,Nat.le_of_eq e4.symm,fun i hi=>?_⟩ ?_
  ·by_cases e:i=g
   ·subst e
    exact .inr ⟨hg,cur,cur',hb,hb',hgrew⟩
   ·exact .inl (setCells_far news (k*6) i e)
  ·unfold RQ
   rw [if_neg (by decide),if_neg (by decide),if_pos rfl]
   refine ⟨g,cap,cur',rfl,hg,hb',hr,fun j u hu=>?_,hgrew.high⟩
   rw [hgrew.low j (by have:=(List.getElem?_eq_some_iff.1 hu).1;omega)]
   exact hold j u hu
 ·have hbl:Below w'.heap.size w' w1:=⟨hgr.os,hgr.tape,hgr.output,hgr.size,fun i hi=>hgr.block i hi (by simp)⟩
  refine h v1 w1 (ZT.of_below hbl) ?_
  unfold RQ
  rw [if_neg (by decide),if_neg (by decide),if_pos rfl]
  have hget:∀ (cur1:Array Value),cur1.toList.take ((k+r)*6)=olds++news→(∀ (j:Nat) (u:Value),olds[j]?=some u→cur1[j]?=some u)∧∀ (j:Nat) (u:Value),news[j]?=some u→cur1[k*6+j]?=some u:=by
   intro cur1 ht
   have hg2:∀ (j:Nat) (u:Value),(olds++news)[j]?=some u→cur1[j]?=some u:=fun j u hu=>by
    have hj:=(List.getElem?_eq_some_iff.1 hu).1
    rw [List.length_append] at hj
    rw [← ht,List.getElem?_take_of_lt (by omega),Array.getElem?_toList] at hu
    exact hu
   refine ⟨fun j u hu=>hg2 j u ?_,fun j u hu=>hg2 _ u ?_⟩
   ·rw [List.getElem?_append_left (List.getElem?_eq_some_iff.1 hu).1];exact hu
   ·rw [List.getElem?_append_right (by omega),hlo,Nat.add_sub_cancel_left];exact hu
  rcases hown.2 with ⟨rfl,h1⟩|⟨g1,cap1,cur1,rfl,h2,h3,h4,h5,h6,h8⟩
  ·omega
  ·obtain ⟨q1,q2⟩:=hget cur1 h8
   exact ⟨g1,cap1,cur1,rfl,by omega,h3,h4,q1,q2⟩
end
/-! ### The cells of a row of operations -/
def opsQ (xs:List S45) (og:Nat→Option Addr × Nat):List Value:=(List.range xs.length).flatMap fun k:Nat=>opC (rd_T45 xs (k:Int)) (og k)
theorem opsQ_len (xs:List S45) (og:Nat→Option Addr × Nat):(opsQ xs og).length=xs.length*6:=flat_len _ 6 (fun _=>rfl) _
theorem opsQ_get (xs:List S45) (og:Nat→Option Addr × Nat) {k i:Nat} (hk:k<xs.length) (hi:i<6):(opsQ xs og)[k*6+i]?=(opC (rd_T45 xs (k:Int)) (og k))[i]?:=flat_get (fun k:Nat=>opC (rd_T45 xs (k:Int)) (og k)) 6 (fun _=>rfl) xs.length k i hk hi
theorem opC_one' (x:S45) (g:Option Addr × Nat):∀ u∈opC x g,u.oneCell'=true:=by
 intro u hu
 simp only [opC,List.mem_cons,List.not_mem_nil,or_false] at hu
 rcases hu with rfl|rfl|rfl|rfl|rfl|rfl<;>rfl
theorem opsQ_one (xs:List S45) (og:Nat→Option Addr × Nat):∀ u∈opsQ xs og,u.oneCell'=true:=by
 intro u hu
 obtain ⟨k,_,hk⟩:=List.mem_flatMap.1 hu
 exact opC_one' _ _ u hk
theorem OpsAt.cells {w:World} {ad:Addr} {xs:List S45} {og:Nat→Option Addr × Nat} (h:OpsAt w (some ad) xs og):∀ (j:Nat) (u:Value),(opsQ xs og)[j]?=some u→w.cell? (ad.add j)=some u:=by
 intro j u hu
 have hj:=(List.getElem?_eq_some_iff.1 hu).1
 rw [opsQ_len] at hj
 have hk:j / 6<xs.length:=by omega
 have hi:j % 6<6:=Nat.mod_lt _ (by decide)
 have e:j=j / 6*6+j % 6:=by omega
 rw [e,opsQ_get xs og hk hi] at hu
 rw [e]
 generalize j / 6=k at *
 generalize j % 6=i at *
 obtain ⟨⟨ad',e',h0,h1,h2,h3,h4,h5⟩,h6,h7⟩:=h k hk
 injection e' with e'
 subst e'
 have hi2:i=0∨i=1∨i=2∨i=3∨i=4∨i=5:=by omega
 rcases hi2 with rfl|rfl|rfl|rfl|rfl|rfl<;>(simp [opC] at hu;subst hu)
 ·exact h0
 ·rw [add_field _ _ 1 (by omega)];exact h1
 ·rw [add_field _ _ 2 (by omega)];exact h2
 ·rw [add_field _ _ 3 (by omega)];exact h3
 ·rw [add_field _ _ 4 (by omega)];exact h4
 ·rw [add_field _ _ 5 (by omega)];exact h5
theorem rd45_cut {xs:List S45} {k j:Nat} (hk:k<xs.length) (hj:j<(xs.take k++xs.drop (k+1)).length):(j<k→rd_T45 (xs.take k++xs.drop (k+1)) (j:Int)=rd_T45 xs (j:Int))∧(k≤j→rd_T45 (xs.take k++xs.drop (k+1)) (j:Int)=rd_T45 xs ((j+1:Nat):Int)):=by
 have hl:(xs.take k++xs.drop (k+1)).length=xs.length - 1:=by rw [List.length_append,List.length_take,List.length_drop];omega
 rw [hl] at hj
 have hlt:(xs.take k).length=k:=by rw [List.length_take];omega
 constructor
 ·intro h
  rw [rd45' (by rw [hl];exact hj),rd45' (by omega),List.getElem_append_left (by omega),List.getElem_take]
 ·intro h
  rw [rd45' (by rw [hl];exact hj),rd45' (by omega),List.getElem_append_right (by omega),List.getElem_drop]
  congr 1
  omega
/-- The row without one. -/
theorem cutOR {X:Nat→Prop} {W:World} {g:Nat} {cur:Array Value} {xs:List S45} {og:Nat→Option Addr × Nat} {k:Nat} (hk:k<xs.length) (hb:W.heap[g]?=some (.cells cur 45 (0,0)))
  (hlo:∀ (j:Nat) (u:Value),((opsQ xs og).take (k*6))[j]?=some u→cur[j]?=some u) (hnew:∀ (j:Nat) (u:Value),((opsQ xs og).drop ((k+1)*6))[j]?=some u→cur[k*6+j]?=some u)
  (hin:∀ i,i<xs.length→(rd_T45 xs (i:Int)).f5.length≤(og i).2∧St X W (fun w'=>Kd.C (Kd.int .i64) w' (og i).1 (rd_T45 xs (i:Int)).f5.length (rd_T45 xs (i:Int)).f5)) :
  OR X W g (xs.take k++xs.drop (k+1)) (fun i=>if i<k then og i else og (i+1)) cur:=by
 have hl:(xs.take k++xs.drop (k+1)).length=xs.length - 1:=by rw [List.length_append,List.length_take,List.length_drop];omega
 refine ⟨hb,fun j hj=>?_⟩
 obtain ⟨r1,r2⟩:=rd45_cut hk hj
 rw [hl] at hj
 by_cases h:j<k
 ·rw [r1 h]
  simp only [if_pos h]
  refine ⟨fun i u hu=>hlo _ u ?_,hin j (by omega)⟩
  have hi:i<6:=by
   have:=(List.getElem?_eq_some_iff.1 hu).1
   simpa [opC] using this
  rw [List.getElem?_take_of_lt (by omega),opsQ_get xs og (by omega) hi]
  exact hu
 ·rw [r2 (by omega)]
  simp only [if_neg h]
  refine ⟨fun i u hu=>?_,hin (j+1) (by omega)⟩
  have hi:i<6:=by
   have:=(List.getElem?_eq_some_iff.1 hu).1
   simpa [opC] using this
  have:=hnew ((j - k)*6+i) u (by
   rw [List.getElem?_drop,show (k+1)*6+((j - k)*6+i)=(j+1)*6+i by omega,opsQ_get xs og (by omega) hi]
   exact hu)
  rw [show k*6+((j - k)*6+i)=j*6+i by omega] at this
  exact this
end Go.Proofs.YtnkgbnbbmcoiiaaGreat.S
