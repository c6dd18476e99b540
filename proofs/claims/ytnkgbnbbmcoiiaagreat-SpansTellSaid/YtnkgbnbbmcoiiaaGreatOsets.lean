import Derived.Test.YtnkgbnbbmcoiiaaGreatBk
import Derived.Test.YtnkgbnbbmcoiiaaGreatOback
import Derived.Test.YtnkgbnbbmcoiiaaGreatReli
namespace Go.Proofs.YtnkgbnbbmcoiiaaGreat.S
open Go.RowKit Go.Shelf Go.IM Go.Proofs.YtnkgbnbbmcoiiaaGreatW.PrintWords Go.Proofs.YtnkgbnbbmcoiiaaGreatW.PrintLast Go.Proofs.YtnkgbnbbmcoiiaaGreatW.PrintMore
set_option linter.unusedVariables false
set_option linter.unusedSimpArgs false
attribute [local go_sem] Oper.semAt_some
/-- make([]T,m),inside a fence: the world,written out. -/
theorem wplIn_makeW {F:Fence} {n:Nat} {P:Program} (w:World) {ops:Array Oper} {rest:List Oper} {o:Oper} {a:Act} {Q:Exit→Act→World→Prop}
  (hg:o.guard=none) (l c:Operand) (t:TypeId) (hop:o.op=Op.makeSlice t l c) (e:TypeId) (z:Value) (sz bytes:Nat) (ht:P.underlying t=some (.slice e)) (hinfo:(P.info? e).map (fun i=>(i.zero,i.size,i.bytes))=some (some z,sz,bytes)) (hb0:0<bytes)
  (m:Nat) (hl:a.eval l=.int .i64 (m:Int)) (hc:a.eval c=.int .i64 (m:Int)) (hm:m*bytes≤281474976710656)
  (hK:wpListIn F n P ops Q rest (a.put o.dst (.slice (some ⟨w.heap.size,0,none⟩) m m)) (w.alloc (.cells (madeCells z.cells (m*sz)) e))) :
  wpListIn F n P ops Q (o::rest) a w:=by
 obtain ⟨i0,hi,hzz⟩:=Option.map_eq_some_iff.1 hinfo
 simp only [Prod.mk.injEq] at hzz
 obtain ⟨hz0,hz1,hz2⟩:=hzz
 have hmm:m≤281474976710656:=Nat.le_trans (Nat.le_mul_of_pos_right _ hb0) hm
 have hr:=run_make (P:=P) w t e i0 z ht hi hz0 .i64 .i64 (m:Int) (m:Int) (by omega) (by omega)
  (by
   have h3:((i0.bytes*m:Nat):Int)≤281474976710656:=by rw [hz2,Nat.mul_comm];omega
   rwa [Int.natCast_mul] at h3) (by omega)
 simp only [Int.toNat_natCast] at hr
 rw [hz1] at hr
 refine wpListIn_plain hg fun K hK'=>?_
 unfold Oper.wpIn
 refine ⟨?_,?_⟩
 ·simp [Oper.about,hop]
 ·rw [Oper.semAt_plain F _ _ (by rw [hop];intro c hc';cases hc')]
  simp [execOp,hop,hl,hc,hr,Result.andThen]
  exact hK' _ _ hK
theorem info73:(Tryz.prog.info? 73).map (fun i=>(i.zero,i.size,i.bytes))=some (some (.map none),1,8):=by kernel_rfl
/-- A row (block R) of sets;those of the first j blocks are there. -/
structure MRow (w:World) (R lo n j:Nat) (I:Nat→Int→Prop):Prop where mk ::
 out:∃ cs:Array Value,w.heap[R]?=some (.cells cs 73 (0,0))∧cs.size=n∧∀ i,i<j→∃ m es,cs[i]?=some (.map (some m))∧lo≤m∧At w m es∧KS es (I i)
theorem MRow.below {w w' : World} {R lo n j:Nat} {I:Nat→Int→Prop} (h:MRow w R lo n j I) (hb:Below w.heap.size w w'):MRow w' R lo n j I:=by
 obtain ⟨cs,h1,h2,h3⟩:=h.out
 exact ⟨cs,blk_below h1 hb,h2,fun i hi=>by obtain ⟨m,es,e1,e2,e3,e4⟩:=h3 i hi;exact ⟨m,es,e1,e2,e3.below hb e3.lt,e4⟩⟩
theorem MRow.alloc {w:World} {R lo n j:Nat} {I:Nat→Int→Prop} (h:MRow w R lo n j I) (o:Obj):MRow (w.alloc o) R lo n j I:=h.below (below_alloc (Below.refl _ _) o)
theorem MRow.book {w:World} {R lo n j:Nat} {I:Nat→Int→Prop} (h:MRow w R lo n j I) {l:Nat} {o:Obj} (o' : Obj) (ho:w.heap[l]?=some o) (hb:isBook o=true):MRow (w.putObj l o') R lo n j I:=by
 obtain ⟨cs,h1,h2,h3⟩:=h.out
 refine ⟨cs,?_,h2,fun i hi=>by obtain ⟨m,es,e1,e2,e3,e4⟩:=h3 i hi;exact ⟨m,es,e1,e2,e3.book o' ho hb,e4⟩⟩
 exact (BookFrom.cells (β:=Unit) 0 (fun _=>R) (fun _=>.cells cs 73 (0,0)) (fun _=>rfl)).book () w l o o' h1 (Nat.zero_le _) ho hb
/-- A step that writes another map,made later. -/
theorem MRow.grown {w w' : World} {R lo n j b:Nat} {I:Nat→Int→Prop} (h:MRow w R lo n j I) (hg:w.grownBy w' (some b)) (hb:∀ o,w.heap[b]?=some o→o.isCells=false) (hd:∀ i m,i<j→(∃ cs:Array Value,w.heap[R]?=some (.cells cs 73 (0,0))∧cs[i]?=some (.map (some m)))→m≠b):MRow w' R lo n j I:=by
 obtain ⟨cs,h1,h2,h3⟩:=h.out
 refine ⟨cs,blk_grown h1 hg (fun e=>?_),h2,fun i hi=>?_⟩
 ·injection e with e
  subst e
  have:=hb _ h1
  cases this
 ·obtain ⟨m,es,e1,e2,e3,e4⟩:=h3 i hi
  exact ⟨m,es,e1,e2,e3.kept hg (fun e=>hd i m hi ⟨cs,h1,e1⟩ (by injection e)),e4⟩
/-- A store of a box's,or another row's,cell. -/
theorem MRow.far {w:World} {R lo n j:Nat} {I:Nat→Int→Prop} (h:MRow w R lo n j I) {p:Addr} (hR:R≠p.block) {cs' : Array Value} {t:TypeId} {f:Nat × Nat} (hp:w.heap[p.block]?=some (.cells cs' t f)) (u:Value):MRow (w.setCell p u) R lo n j I:=by
 obtain ⟨cs,h1,h2,h3⟩:=h.out
 refine ⟨cs,blk_far h1 hR u,h2,fun i hi=>?_⟩
 obtain ⟨m,es,e1,e2,e3,e4⟩:=h3 i hi
 exact ⟨m,es,e1,e2,e3.setCell (fun e=>(e3.not_cells hp) e.symm) u,e4⟩
/-- A set is put in. -/
theorem MRow.put {w:World} {R lo n j k m:Nat} {I:Nat→Int→Prop} {es:List (Int × Value)} {P:Int→Prop} (h:MRow w R lo n j I) (hk:k<n) (hm:lo≤m) (ha:At w m es) (hks:KS es P) (j' : Nat) (hj:∀ i,i<j'→i=k∨i<j) :
  MRow (w.setCell ⟨R,k,none⟩ (.map (some m))) R lo n j' (fun i r=>if i=k then P r else I i r):=by
 obtain ⟨cs,h1,h2,h3⟩:=h.out
 refine ⟨_,blk_set h1 k _,by simp [h2],fun i hi=>?_⟩
 by_cases he:i=k
 ·subst he
  refine ⟨m,es,by simp [h2,hk],hm,ha.setCell (fun e=>(ha.not_cells h1) e.symm) _,?_⟩
  simp only [if_pos]
  exact hks
 ·obtain ⟨m',es',e1,e2,e3,e4⟩:=h3 i ((hj i hi).resolve_left he)
  refine ⟨m',es',?_,e2,e3.setCell (fun e=>(e3.not_cells h1) e.symm) _,?_⟩
  ·rw [Array.getElem?_setIfInBounds_ne (fun e=>he e.symm)]
   exact e1
  ·simp only [if_neg he]
   exact e4
theorem MRow.imp {w:World} {R lo n j:Nat} {I I' : Nat→Int→Prop} (h:MRow w R lo n j I) (hi:∀ i,i<j→∀ r,I i r↔I' i r):MRow w R lo n j I':=by
 obtain ⟨cs,h1,h2,h3⟩:=h.out
 exact ⟨cs,h1,h2,fun i hlt=>by obtain ⟨m,es,e1,e2,e3,e4⟩:=h3 i hlt;exact ⟨m,es,e1,e2,e3,e4.imp (hi i hlt)⟩⟩
theorem MRow.maps {w:World} {R lo n:Nat} {I:Nat→Int→Prop} (h:MRow w R lo n n I):MapsAt w (some ⟨R,0,none⟩) n I:=fun i hi=>by
 obtain ⟨cs,h1,h2,h3⟩:=h.out
 obtain ⟨m,es,e1,e2,e3,e4⟩:=h3 i hi
 exact ⟨_,m,es,rfl,by rw [add_plain,blk_cell h1];exact e1,e3,e4⟩
/-- What holds at each round's beginning. -/
structure LI (g:Lv.G) (wA w W:World) (R S n:Nat) (Iv:Nat→Int→Prop):Prop where mk ::
 row:MRow W R S n n Iv
 ke:KE R (R+1) wA W
 bel:Below S w W
 sound:∀ i,i<n→∀ r,Iv i r→Lv.At g r i 0
 post:∀ i,i<n→∀ r,Iv i r→Lv.Bk g Iv i (g.len i) r

theorem KS.sz {es:List (Int × Value)} {P:Int→Prop} (h:KS es P):Lv.Sz P es.length:=⟨keysOf es,h.nodup,h.mem,by rw [keysOf,List.length_map]⟩
theorem grownBy_setCellAt (W:World) (p:Addr) (v:Value):W.grownBy (W.setCell p v) (some p.block) :=
 ⟨rfl,rfl,rfl,(KeepsWalks.setCell W _ v).size,fun k _ hk=>Below.heap_setCell _ _ _ k (fun e=>hk (by rw [e]))⟩
theorem CL_kc {w w' : World} {A:Option Addr} {n:Nat} {l:List (List Int)} (h:Kd.C (Kd.slice 3 (Kd.int .i64)) w A n l) (hk:KC w w'):Kd.C (Kd.slice 3 (Kd.int .i64)) w' A n l:=by
 obtain ⟨h1,h2,h3⟩:=h
 refine ⟨h1,h2,fun hn=>?_⟩
 obtain ⟨ad,e,hc⟩:=h3 hn
 refine ⟨ad,e,fun j p hj=>?_⟩
 obtain ⟨c,hl,hk',hu⟩:=hc j p hj
 obtain ⟨A5,c5,rfl,l5,g5⟩:=hk'
 exact ⟨_,hl,⟨A5,c5,rfl,l5,Cint_kc g5 hk⟩,fun i u hi=>hk.cell (hu i u hi)⟩
theorem succL_at {bs:List S50} {x:Nat} (h:x<bs.length):rd_L1 (succL bs) (x:Int)=succT (rd_T50 bs (x:Int)).f1:=by
 unfold rd_L1 succL
 rw [rd43' h]
 simp [List.getD_eq_getElem?_getD,h]
/-- What the loud two of a region tell: the set behind the block;a new box. -/
def R16 (g:Lv.G) (I:Nat→Int→Prop) (x B:Nat) (k:Nat) (vs:List Value) (w' : World):Prop :=
 if k=7 then ∃ m es,vs=[.map (some m)]∧At w' m es∧KS es (Lv.Bk g I x 0)∧B≤m else if k=8 then ∃ q,vs=[.pointer (some ⟨q,0,none⟩)]∧Boxed w' q 73 (.map none)∧B≤q else True
theorem R16.below {g:Lv.G} {I:Nat→Int→Prop} {x B k:Nat} {vs:List Value} {w' w2:World} (h:R16 g I x B k vs w') (hb:Below w'.heap.size w' w2):R16 g I x B k vs w2:=by
 unfold R16 at h ⊢
 split at h
 ·rename_i hk
  rw [if_pos hk]
  obtain ⟨m,es,e,ha,hk,hm⟩:=h
  exact ⟨m,es,e,ha.below hb ha.lt,hk,hm⟩
 ·rename_i hk
  rw [if_neg hk]
  split at h
  ·rename_i hk2
   rw [if_pos hk2]
   obtain ⟨q,e,hq,hm⟩:=h
   exact ⟨q,e,blk_below hq hb,hm⟩
  ·rename_i hk2
   rw [if_neg hk2]
   trivial
theorem LI.below {g:Lv.G} {wA w W W' : World} {R S n:Nat} {Iv:Nat→Int→Prop} (h:LI g wA w W R S n Iv) (hb:Below W.heap.size W W') (hS:S≤W.heap.size:=by omega):LI g wA w W' R S n Iv :=
 ⟨h.row.below hb,h.ke.trans (KE.of_below hb),⟨hb.os.trans h.bel.os,hb.tape.trans h.bel.tape,hb.output.trans h.bel.output,Nat.le_trans h.bel.size hb.size,fun k hk=>(hb.block k (by omega)).trans (h.bel.block k hk)⟩,h.sound,h.post⟩
theorem LI.bookFrom {β:Type} {B:Nat} {g:Lv.G} {wA w:World} {R S n:Nat} {Iv:Nat→Int→Prop} (hS:S≤B) (hw:S≤w.heap.size):BookFrom B (fun (_:β) W=>LI g wA w W R S n Iv) :=
 ⟨fun s X Y hs hb=>hs.below hb (by have:=hs.bel.size;omega),fun s X l o o' hs hB ho hb=>⟨hs.row.book o' ho hb,(BookFrom.ke (β:=Unit) (B:=0)).book () X l o o' hs.ke (Nat.zero_le _) ho hb,(BookFrom.belowB (β:=Unit) (B:=B) hS hw).book () X l o o' hs.bel hB ho hb,hs.sound,hs.post⟩⟩
theorem succL_length (bs:List S50):(succL bs).length=bs.length:=by simp [succL]
/-- What sets answers of a right function. -/
def SetsP (bs:List S50) (w:World) (e:Ending) (w' : World):Prop :=
 ∃ A,e=.returned (.tuple #[.slice A bs.length bs.length,.bool true])∧MapsAt w' A bs.length (fun i r=>Lv.At (gOf bs) r i 0)∧Below w.heap.size w w'
set_option maxHeartbeats 8000000 in
set_option maxRecDepth 100000 in
theorem sets_in (p:Int) (A:Option Addr) (c:Nat) (bs:List S50) (w:World) (hC:Kd.C k50 w A bs.length bs) (hR:rightF p bs 256=true) :
  CallsIn Fence.wide 7 Tryz.prog 49 #[.agg #[.int .i64 p,.slice A bs.length c]] w (SetsP bs w):=by
 have hu34:=Tryz.underlying24
 have hu43:=Tryz.underlying50
 have RP:=ak_ (rightF_iff hR)
 have HR:=ak_ hR
 have HC:=ak_ hC
 have hlen:=RP.out.len
 have hmm:=@run_makeMap Tryz.prog
 have HF0:=ak_ (blk_new w (.cells #[.int .i64 p,.slice A bs.length c] 24))
 have HB0:=ak_ (below_alloc (Below.refl w.heap.size w) (.cells #[.int .i64 p,.slice A bs.length c] 24))
 clear hC hR
 refine callsIn_of_wp_marks Tryz.func49 rfl trivial ?_ rfl
 simp only [Tryz.ntmps49,List.size_toArray,List.length_cons,List.length_nil,Nat.reduceAdd,Nat.reduceSub,Array.replicate_succ,Array.replicate_zero,List.push_toArray,List.append_toArray,List.nil_append,List.cons_append]
 gi_wp2_with (first
  | (refine ⟨trivial,?_⟩;gi_at_call 45;refine (callsIn_wide.2 (right_any p A c bs 256 _ (Kd.C_below HC.out HB0.out))).mono ?_;rintro e w1 ⟨rfl,hb⟩;rw [HR.out];have HB1:=ak_ (below_then HB0.out HB0.out.size hb);have HF1:=ak_ (blk_below HF0.out hb);have c0:=bc_ HF1 0;have c1:=bc_ HF1 1;simp only [ga_,gb_,gc_] at c0 c1;clear hb)
  | (refine ⟨trivial,?_⟩;gi_at_call 52;refine (callsIn_wide.2 (succ_any p A c bs _ (Kd.C_below HC.out HB1.out) RP.out.len.2)).mono ?_;rintro e w2 ⟨v2,rfl,hr2,hb⟩;obtain ⟨A2,c2',rfl,_,hC2⟩:=Kd.R_reads hr2;have HC2:=ak_ hC2;have HT2:=ak_ (Nat.le_trans (blk_lt HF1.out) hb.size);have HB2:=ak_ (below_then HB1.out HB1.out.size hb);have HF2:=ak_ (blk_alloc (blk_below HF1.out hb) (.cells #[.slice A2 (succL bs).length c2'] 35));clear c0 c1;have c0:=bc_ HF2 0;have c1:=bc_ HF2 1;simp only [ga_,gb_,gc_] at c0 c1;clear hb hr2 hC2)
  | (gi_at_make;refine wplIn_makeW _ rfl _ _ 69 rfl 73 (.map none) 1 8 Tryz.underlying69 info73 (by decide) bs.length rfl rfl (by omega) ?_))
 clear c0 c1
 obtain ⟨S,hS⟩:∃ S,w.heap.size=S:=⟨_,rfl⟩
 obtain ⟨T,hT⟩:∃ T,w2.heap.size=T:=⟨_,rfl⟩
 obtain ⟨wA,hwA⟩:∃ wA,((w2.alloc (.cells #[.slice A2 (succL bs).length c2'] 35)).alloc (.cells (madeCells #[Value.map none] bs.length) 73)).alloc (.cells #[.slice (some ⟨T+1,0,none⟩) bs.length bs.length] 69)=wA:=⟨_,rfl⟩
 have hST:S+1≤T:=by have h4:=HT2.out;omega
 have hzA:wA.heap.size=T+3:=by rw [← hwA,← hT];simp [World.size_alloc]
 have HFA:Aside0 (wA.heap[S]?=some (.cells #[.int .i64 p,.slice A bs.length c] 24 (0,0))):=⟨by rw [← hwA,← hS];exact blk_alloc (blk_alloc HF2.out _) _⟩
 have HSA:Aside0 (Boxed wA T 35 (.slice A2 (succL bs).length c2')):=⟨by
  rw [← hwA]
  have:=Boxed.new w2 35 (.slice A2 (succL bs).length c2')
  rw [hT] at this
  exact (this.alloc _).alloc _⟩
 have HIA:Aside0 (Boxed wA (T+2) 69 (.slice (some ⟨T+1,0,none⟩) bs.length bs.length)):=⟨by
  rw [← hwA]
  have:=Boxed.new ((w2.alloc (.cells #[.slice A2 (succL bs).length c2'] 35)).alloc (.cells (madeCells #[Value.map none] bs.length) 73)) 69 (.slice (some ⟨T+1,0,none⟩) bs.length bs.length)
  rwa [World.size_alloc,World.size_alloc,hT] at this⟩
 have HRA:Aside0 (MRow wA (T+1) S bs.length 0 (fun _ _=>False)):=⟨⟨madeCells #[Value.map none] bs.length,by
  rw [← hwA]
  have:=blk_new (w2.alloc (.cells #[.slice A2 (succL bs).length c2'] 35)) (.cells (madeCells #[Value.map none] bs.length) 73)
  rw [World.size_alloc,hT] at this
  exact blk_alloc this _,by rw [size_madeCells],fun i hi=>absurd hi (Nat.not_lt_zero _)⟩⟩
 have HBA:Aside0 (Below S w wA):=⟨by rw [← hwA,← hS];exact below_alloc (below_alloc (below_alloc HB2.out _) _) _⟩
 have HB2A:Aside0 (Below w2.heap.size w2 wA):=⟨by rw [← hwA];exact below_alloc (below_alloc (below_alloc (Below.refl _ _) _) _) _⟩
 simp only [hS,hT,Nat.add_assoc,Nat.reduceAdd]
 rw [hwA]
 clear hwA HF2 HF1 HF0 HB0 HB1 HB2
 gi_loopw [24] (fun i wr=>∃ j:Nat,j≤bs.length∧i=.int .i64 (j:Int)∧Aside0 (MRow wr (T+1) S bs.length j (fun _ _=>False))∧Aside0 (KE (T+1) (T+2) wA wr)∧Aside0 (Below S w wr)) (fun i _=>bs.length - (intOf i).toNat)
 case atStart=>exact ⟨0,Nat.zero_le _,rfl,HRA,⟨KE.refl _ _ _⟩,HBA⟩
 case round =>
  obtain ⟨j,hj,rfl,HM,HK,HB⟩:=hrel
  have hI:=(HK.out.boxed HIA.out (by omega)).cell
  by_cases hlt:j<bs.length
  ·have b1:decide ((j:Int)<(bs.length:Int))=true:=decide_eq_true (by omega)
   obtain ⟨cs,h1,h2,h3⟩:=HM.out.out
   have hrow:=blk_alloc h1 (.map #[] 0)
   have cR:=blk_cell hrow j
   have fR:=blk_frozen hrow j
   rw [Array.getElem?_eq_getElem (by omega:j<cs.size)] at cR
   generalize cs[j]=old at cR
   have HM2:=ak_ (HM.out.alloc (.map #[] 0))
   have HAM:=ak_ (At.made wr)
   clear h1 h2 h3 hrow
   have HSZ:Aside0 (S≤wr.heap.size):=⟨by have:=HB.out.size;omega⟩
   gi_wp2
   go_roundw
   case rel =>
    refine ⟨j+1,by omega,by go_num,⟨?_⟩,⟨(HK.out.trans (KE.of_below (below_alloc (Below.refl _ _) _))).trans (KE.setCell _ _ _ ⟨by show T+1≤T+1;omega,by show T+1<T+2;omega⟩)⟩,⟨(HB.out.alloc HSZ.out _).setCell (p:=⟨T+1,j,none⟩) (by show S≤T+1;omega) _⟩⟩
    exact (HM2.out.put hlt HSZ.out HAM.out KS.nil (j+1) (fun i hi=>by omega)).imp (fun i hi r=>by split<;>exact Iff.rfl)
   case measure=>(simp [intOf];try omega)
  ·have b1:decide ((j:Int)<(bs.length:Int))=false:=decide_eq_false (by omega)
   obtain rfl:j=bs.length:=by omega
   gi_wp2
   --TAIL
   have HKA:=ak_ (HK.out.trans (KE.of_below (below_alloc (Below.refl wr.heap.size wr) (.cells #[.bool true] 4))))
   have HMA:=ak_ (HM.out.alloc (.cells #[.bool true] 4))
   have HBB:=ak_ (show Below S w (wr.alloc (.cells #[.bool true] 4)) from HB.out.alloc (by have:=HB.out.size;omega) _)
   have HXA:=ak_ (Boxed.new wr 4 (.bool true))
   have hxs:T+3≤wr.heap.size:=by have:=HK.out.size;omega
   clear HRA HM HK HB hI
   obtain ⟨s0,hs0⟩:∃ s0,s0=((List.range bs.length).map fun _=>0).sum:=⟨_,rfl⟩
   have HT0:Aside0 (Lv.Tot (fun _ _=>False) bs.length s0):=⟨by rw [hs0];exact Lv.Tot.zero _⟩
   clear hs0
   refine wpIn_loop_ghostB (fun k a W=>∃ (X:Nat) (mo:Bool) (Iv:Nat→Int→Prop) (s:Nat) (v32 v33 v34 v35 v66:Value) (ds:List Deferred),a={ tmps:=#[.agg #[.int .i64 p,.slice A bs.length c],.pointer (some ⟨S,0,none⟩),.slice none 0 0,.bool false,.pointer (some ⟨T,0,none⟩),.pointer (some ⟨T+2,0,none⟩),u6,.pointer (some ⟨X,0,none⟩),undef,undef,undef,undef,undef,.agg #[.int .i64 p,.slice A bs.length c],.bool true,.bool false,.agg #[.int .i64 p,.slice A bs.length c],.slice A2 (succL bs).length c2',.pointer (some ⟨S,1,none⟩),.slice A bs.length c,.int .i64 bs.length,.slice (some ⟨T+1,0,none⟩) bs.length bs.length,.slice (some ⟨T+1,0,none⟩) bs.length bs.length,.int .i64 bs.length,.int .i64 bs.length,.bool false,u26,u27,u28,u29,u30,u31,v32,v33,v34,v35,undef,undef,undef,undef,undef,undef,undef,undef,undef,undef,undef,undef,undef,undef,undef,undef,undef,undef,undef,undef,undef,undef,undef,undef,undef,undef,undef,undef,undef,undef,v66,undef],defers:=ds } ∧
    Marks S W ds∧Boxed W X 4 (.bool mo)∧T+3≤X∧LI (gOf bs) wA w W (T+1) S bs.length Iv∧Lv.Tot Iv bs.length s∧(mo=false→∀ i,i<bs.length→∀ r,Lv.Bk (gOf bs) Iv i (opLen bs i) r→Iv i r)∧k=2*(bs.length*4096 - s)+(if mo=true then 1 else 0))
    (2*(bs.length*4096 - s0)+1) ⟨wr.heap.size,true,fun _ _=>False,s0,undef,undef,undef,undef,undef,[],rfl,Marks.nil _ _,HXA.out,hxs,⟨HMA.out,HKA.out,HBB.out,fun _ _ _ h=>h.elim,fun _ _ _ h=>h.elim⟩,HT0.out,(fun h=>by cases h),rfl⟩ ?_
   clear HXA HMA HBB HKA hxs HT0
   rintro k a W ⟨X,mo,Iv,s,v32,v33,v34,v35,v66,ds,rfl,hds,hX,hXs,hLI,hT,hcl,rfl⟩
   have cX:=hX.cell
   have fX:=hX.frozen
   have hFW:W.heap[S]?=some (.cells #[.int .i64 p,.slice A bs.length c] 24 (0,0)):=hLI.ke.cells S _ (by omega) HFA.out rfl
   have cF:=blk_cell hFW 1
   simp only [ga_,gb_,gc_] at cF
   have HDS:=ak_ hds
   have HX:=ak_ hX
   have HLI:=ak_ hLI
   have HTT:=ak_ hT
   have HCL:=ak_ hcl
   clear hds hX hLI hT hcl hFW
   cases mo with
   | false =>
    have cI:=(HLI.out.ke.boxed HIA.out (by omega)).cell
    gi_wp2
    obtain ⟨rs,rfl,hnd,hrs⟩:=HDS.out
    refine leavesM_marks rs _ hnd (fun r hr=>(hrs r hr).2) (fun W' hW'=>?_)
    have hB' : Below S w W':=HLI.out.bel.trans (hW'.below (fun r hr=>(hrs r hr).1))
    have hM' : MRow W' (T+1) S bs.length bs.length Iv:=by
     obtain ⟨cs,h1,h2,h3⟩:=HLI.out.row.out
     have hne:∀ q (o:Obj),W.heap[q]?=some o→isBook o=false→W'.heap[q]?=some o:=fun q o hq ho=>(hW'.same q (fun hm=>by
      have:=(hrs q hm).2
      rw [hq] at this
      cases this
      cases ho)).trans hq
     refine ⟨cs,hne _ _ h1 rfl,h2,fun i hi=>?_⟩
     obtain ⟨m,es,e1,e2,e3,e4⟩:=h3 i hi
     refine ⟨m,es,e1,e2,?_,e4⟩
     obtain ⟨en,ck,hm,rest⟩:=e3
     exact ⟨en,ck,hne _ _ hm rfl,rest⟩
    refine ⟨.tuple #[.slice (some ⟨T+1,0,none⟩) bs.length bs.length,.bool true],by simp [results,Tryz.results49,go_sem],some ⟨T+1,0,none⟩,rfl,?_,by rw [hS];exact hB'⟩
    exact hM'.maps.imp (Lv.least (g:=gOf bs) RP.out.wf HLI.out.sound (fun i hi r h=>HCL.out (by simp) i hi r h))
   | true =>
    gi_wp2_with (refine ⟨trivial,?_⟩;gi_at_call 80;refine (bb_in _ _ _ _ _).mono ?_;rintro e w4 ⟨rfl,rfl⟩)
    obtain ⟨w5,hw5⟩:∃ w5,(W.setCell ⟨X,0,none⟩ (.bool false)).alloc (.cells #[.slice A bs.length c] 22)=w5:=⟨_,rfl⟩
    obtain ⟨BB,hBB⟩:∃ BB,W.heap.size=BB:=⟨_,rfl⟩
    have hz5:w5.heap.size=BB+1:=by rw [← hw5,← hBB];simp [World.size_alloc]
    have hXB:X<BB:=by rw [← hBB];exact HX.out.lt
    have HX5:Aside0 (Boxed w5 X 4 (.bool false)):=⟨by rw [← hw5];exact (HX.out.set _).alloc _⟩
    have HLI5:Aside0 (LI (gOf bs) wA w w5 (T+1) S bs.length Iv):=⟨by
     rw [← hw5]
     have h1:LI (gOf bs) wA w (W.setCell ⟨X,0,none⟩ (.bool false)) (T+1) S bs.length Iv:=⟨HLI.out.row.far (p:=⟨X,0,none⟩) (by show T+1≠X;omega) HX.out _,HLI.out.ke.far (by show wA.heap.size≤X;omega),HLI.out.bel.setCell (p:=⟨X,0,none⟩) (by show S≤X;omega) _,HLI.out.sound,HLI.out.post⟩
     exact h1.below (below_alloc (Below.refl _ _) _) (by have:=HLI.out.bel.size;rw [World.size_setCell];omega)⟩
    have HIT5:Aside0 (w5.heap[BB]?=some (.cells #[.slice A bs.length c] 22 (0,0))):=⟨by
     rw [← hw5,← hBB]
     have:=blk_new (W.setCell ⟨X,0,none⟩ (.bool false)) (.cells #[.slice A bs.length c] 22)
     rwa [World.size_setCell] at this⟩
    have HKB5:Aside0 (KB S W w5):=⟨by rw [← hw5];exact (KB.setCell W ⟨X,0,none⟩ _ HX.out).trans (KB.of_below (below_alloc (Below.refl _ _) _))⟩
    simp only [hBB]
    rw [hw5]
    clear hw5 cX fX cF HLI HX
    obtain ⟨bg,hbg⟩:=blks_at HC.out
    have HBG:=ak_ hbg
    have hst:=bb_seq 6 (by decide) BB A c bs bg (by omega) (KE (T+1) (X+1)) (fun h k=>h.trans k) (fun h=>KE.of_below h) w5 (fun Wa wr2 hW hk=>by
     have hkc:KC w wr2:=KE.kc (below_then (show Below w.heap.size w w5 by rw [hS];exact HLI5.out.bel) (show w.heap.size≤w5.heap.size by have:=HLI5.out.bel.size;omega) hW) (by omega) hk
     refine ⟨?_,HBG.out.kc hkc⟩
     have h1:=hk.cells BB _ (by omega) ((hW.block BB (blk_lt HIT5.out)).trans HIT5.out) rfl
     have h2:=blk_cell h1 0
     simpa only [List.getElem?_toArray,List.getElem?_cons_zero,List.getElem?_cons_succ] using h2)
    clear hbg
    refine wpIn_rangeFunc_H rfl (by decide) (gf:=106) (lb:=#[.pointer (some ⟨BB,0,none⟩)]) rfl trivial (enters_of Tryz.func106 (by kernel_rfl) rfl)
     hst (fun h k=>h.trans k) (fun Wa l o o' hl ho hb=>KE.putObj Wa l o' ho (not_cells_of_book hb)) (Below.refl _ _) (fun _=>rfl)
     (fun pre W1=>∃ (mo:Bool) (Iv1:Nat→Int→Prop) (s1:Nat),Boxed W1 X 4 (.bool mo)∧LI (gOf bs) wA w W1 (T+1) S bs.length Iv1∧Lv.Tot Iv1 bs.length s1∧(mo=true→s<s1)∧(mo=false→Iv1=Iv∧∀ i∈pre,∀ r,Lv.Bk (gOf bs) Iv i (opLen bs i) r→Iv i r)∧KB S W W1)
     (fun _ _ _=>False) ?hI (fun _=>BookFrom.pure _ _) ⟨false,Iv,s,HX5.out,HLI5.out,HTT.out,(fun h=>by cases h),(fun _=>⟨rfl,fun i hi=>by cases hi⟩),HKB5.out⟩
     (fun x a' W1=>∃ b,a'={ tmps:=#[.agg #[.int .i64 p,.slice A bs.length c],.pointer (some ⟨S,0,none⟩),.slice none 0 0,.bool false,.pointer (some ⟨T,0,none⟩),.pointer (some ⟨T+2,0,none⟩),u6,.pointer (some ⟨X,0,none⟩),.int .i64 (x:Int),.pointer (some ⟨b,0,none⟩),undef,undef,undef,.agg #[.int .i64 p,.slice A bs.length c],.bool true,.bool false,.agg #[.int .i64 p,.slice A bs.length c],.slice A2 (succL bs).length c2',.pointer (some ⟨S,1,none⟩),.slice A bs.length c,.int .i64 bs.length,.slice (some ⟨T+1,0,none⟩) bs.length bs.length,.slice (some ⟨T+1,0,none⟩) bs.length bs.length,.int .i64 bs.length,.int .i64 bs.length,.bool false,u26,u27,u28,u29,u30,u31,.bool true,.pointer (some ⟨S,1,none⟩),.slice A bs.length c,.func (.func 106) #[] #[.pointer (some ⟨BB,0,none⟩)],.int .i64 (x:Int),blkV (rd_T50 bs (x:Int)) (bg x),undef,undef,undef,undef,undef,undef,undef,undef,undef,undef,undef,undef,undef,undef,undef,undef,undef,undef,undef,undef,undef,undef,undef,undef,undef,undef,undef,undef,v66,undef],defers:=[] }∧W1.heap[b]?=some (.cells #[.slice (bg x).1 (rd_T50 bs (x:Int)).f0.length (bg x).2,.int .i64 (rd_T50 bs (x:Int)).f1.f0,.int .i64 (rd_T50 bs (x:Int)).f1.f1,.int .i64 (rd_T50 bs (x:Int)).f1.f2,.int .i64 (rd_T50 bs (x:Int)).f1.f3] 50 (0,0)))
     ?hAx ?assign ?body ?done ?stop
    case hI =>
     refine BookFrom.ex fun mo=>BookFrom.ex fun Iv1=>BookFrom.ex fun s1=>(BookFrom.boxed _ X 4 _).and ((LI.bookFrom (by omega) (by omega)).and ((BookFrom.pure _ _).and ((BookFrom.pure _ _).and ((BookFrom.pure _ _).and (BookFrom.kb (by omega))))))
    case hAx =>
     intro x a'
     exact BookFrom.ex fun b=>(BookFrom.pure _ _).and (BookFrom.cells _ (fun _=>b) _ (fun _=>rfl))
    case assign =>
     intro lr pre x W1 KK hI1 hKK
     unfold bbV blkV
     unfold blkV at hKK
     generalize rd_T50 bs (x:Int)=y at hKK
     generalize bg x=g at hKK
     have HI1:=ak_ hI1
     have HKK:=ak_ hKK
     clear hI1 hKK
     gi_wp2
     refine HKK.out _ _ (KB.of_below (below_alloc (Below.refl _ _) _)) (KE.of_below (below_alloc (Below.refl _ _) _)) ?_ ⟨W1.heap.size,rfl,blk_new _ _⟩
     obtain ⟨mo,Iv1,s1,h1,h2,h3,h4,h5,h6⟩:=HI1.out
     exact ⟨mo,Iv1,s1,h1.alloc _,h2.below (below_alloc (Below.refl _ _) _) (by have:=h2.bel.size;omega),h3,h4,h5,h6.trans (KB.of_below (below_alloc (Below.refl _ _) _))⟩
    case body =>
     rintro lr pre x a' W1 hlr ⟨rl,hrl⟩ ⟨mo,Iv1,s1,h1,h2,h3,h4,h5,h6⟩ ⟨b,rfl,hb⟩ ⟨kk,hkk,hpre,hxk⟩
     have hxn:x<bs.length:=by omega
     have HX1:=ak_ h1
     have HLI1:=ak_ h2
     have HTT1:=ak_ h3
     have HGR:=ak_ h4
     have HSM:=ak_ h5
     have HKB1:=ak_ h6
     have HBX:=ak_ hb
     have HRL:=ak_ hrl
     clear h1 h2 h3 h4 h5 h6 hb hrl hpre hxk hkk
     have sI:=(HLI1.out.ke.boxed HIA.out (by omega)).cell
     have sS:=(HLI1.out.ke.boxed HSA.out (by omega)).cell
     have hkc2:KC w2 W1:=KE.kc HB2A.out (by omega) HLI1.out.ke
     obtain ⟨ad2,A0,cb,eA2,sE,hcb,hCr⟩:=at_L1 (CL_kc HC2.out hkc2) (x:Int) (by omega) (by rw [succL_length];omega)
     rw [Int.toNat_natCast] at sE
     have q1:(0:Int)≤(x:Int):=by omega
     have q2:(x:Int)<((succL bs).length:Int):=by rw [succL_length];omega
     have sB1:=bc_ HBX 1
     have sB2:=bc_ HBX 2
     have sB3:=bc_ HBX 3
     have sB4:=bc_ HBX 4
     simp only [ga_,gb_,gc_] at sB1 sB2 sB3 sB4
     have HSL:=ak_ (succL_at hxn)
     have HSC:=ak_ (RP.out.succ hxn)
     have HCR:=ak_ hCr
     clear hCr hcb hkc2
     subst eA2
     gi_wp2
     refine RelRegion.wpIn_region_rel (ro:=some lr) (K0:=?_) 9 (fun k=>if k=7∨k=8 then some [] else none) (fun k=>[k]) (R16 (gOf bs) Iv1 x W1.heap.size) (fun w'=>Below W1.heap.size W1 w') (fun a b=>Below a.heap.size a b) (by kernel_rfl) (by kernel_rfl) (by kernel_rfl) (below_drew (Below.refl _ _)) (fun a b h k=>below_then h h.size k) (fun _ _ _ _ h hb=>h.below hb) ?_ ?_
     case refine_1=>exact fun a w6=>∃ m es q,a={ tmps:=#[.agg #[.int .i64 p,.slice A bs.length c],.pointer (some ⟨S,0,none⟩),.slice none 0 0,.bool false,.pointer (some ⟨T,0,none⟩),.pointer (some ⟨T+2,0,none⟩),u6,.pointer (some ⟨X,0,none⟩),.int .i64 (x:Int),.pointer (some ⟨b,0,none⟩),.pointer (some ⟨q,0,none⟩),undef,undef,.agg #[.int .i64 p,.slice A bs.length c],.bool true,.bool false,.agg #[.int .i64 p,.slice A bs.length c],.slice (some ad2) (succL bs).length c2',.pointer (some ⟨S,1,none⟩),.slice A bs.length c,.int .i64 bs.length,.slice (some ⟨T+1,0,none⟩) bs.length bs.length,.slice (some ⟨T+1,0,none⟩) bs.length bs.length,.int .i64 bs.length,.int .i64 bs.length,.bool false,u26,u27,u28,u29,u30,u31,.bool true,.pointer (some ⟨S,1,none⟩),.slice A bs.length c,.func (.func 106) #[] #[.pointer (some ⟨BB,0,none⟩)],.int .i64 (x:Int),blkV (rd_T50 bs (x:Int)) (bg x),.slice (some ⟨T+1,0,none⟩) bs.length bs.length,.slice (some ad2) (succL bs).length c2',.int .i64 (x:Int),.pointer (some (ad2.add x)),.slice A0 (rd_L1 (succL bs) (x:Int)).length cb,.pointer (some ⟨b,1,none⟩),.agg #[.int .i64 (rd_T50 bs (x:Int)).f1.f0,.int .i64 (rd_T50 bs (x:Int)).f1.f1,.int .i64 (rd_T50 bs (x:Int)).f1.f2,.int .i64 (rd_T50 bs (x:Int)).f1.f3],.map (some m),undef,undef,undef,undef,undef,undef,undef,undef,undef,undef,undef,undef,undef,undef,undef,undef,undef,undef,undef,undef,v66,undef],defers:=[] }∧At w6 m es∧KS es (Lv.Bk (gOf bs) Iv1 x 0)∧Boxed w6 q 73 (.map (some m))∧W1.heap.size≤m∧Below W1.heap.size W1 w6
     ·simp only [List.take_succ_cons,List.take_zero,List.drop_succ_cons,List.drop_zero]
      iterate 9 (first|(refine RelRegion.relQ_loud rfl ?_)|(apply RelRegion.relQ_step rfl;apply Exists.intro;constructor;(focus (intro w' hw';have sI:=pw_cell_below hw' sI;have sS:=pw_cell_below hw' sS;have sE:=pw_cell_below hw' sE;have sB1:=pw_cell_below hw' sB1;have sB2:=pw_cell_below hw' sB2;have sB3:=pw_cell_below hw' sB3;have sB4:=pw_cell_below hw' sB4;unfold RelRegion.Yl;go_wp2_with fail;exact ⟨rfl,_,rfl,rfl,Below.refl _ _⟩));(try simp only [Act.put,pa_,pb_,pc_])))
      refine RelRegion.relQ_nil (fun xx=>?_)
      repeat (refine RelRegion.relL_quiet rfl ?_)
      refine RelRegion.relL_loud rfl (fun w' hw' _=>?_) ?_
      ·have hb61:=behind_any (some ⟨T+1,0,none⟩) bs.length bs.length Iv1 A0 cb (rd_L1 (succL bs) (x:Int)) (rd_T50 bs (x:Int)).f1 w' (by omega) (HLI1.out.row.maps.below hw') (Kd.C_below HCR.out hw') (by rw [HSL.out];exact HSC.out)
       have HB61:=ak_ hb61
       clear hb61
       unfold RelRegion.Yl
       go_wp2_with (go_at_call 57;refine HB61.out.mono ?_;rintro e w6 ⟨m,es,rfl,ha,hk,hms,hb⟩)
       refine ⟨rfl,_,rfl,hb,?_⟩
       unfold R16
       rw [if_pos rfl]
       exact ⟨m,es,by simp,ha,by rw [HSL.out] at hk;exact hk,Nat.le_trans hw'.size hms⟩
      (try simp only [Act.put,pa_,pb_,pc_])
      refine RelRegion.relL_loud rfl (fun w' hw' _=>?_) ?_
      ·unfold RelRegion.Yl
       go_wp2_with fail
       refine ⟨rfl,_,rfl,below_alloc (Below.refl _ _) _,?_⟩
       unfold R16
       rw [if_neg (by decide),if_pos rfl]
       exact ⟨w'.heap.size,by simp,Boxed.new w' 73 (.map none),hw'.size⟩
      (try simp only [Act.put,pa_,pb_,pc_])
      refine RelRegion.relL_nil (fun w' hw' hR=>?_)
      have r7:=hR 7 (by decide) rfl
      have r8:=hR 8 (by decide) rfl
      unfold R16 at r7 r8
      rw [if_pos rfl] at r7
      rw [if_neg (by decide),if_pos rfl] at r8
      obtain ⟨m,es,e7,ha,hk,hm⟩:=r7
      obtain ⟨q,e8,hq,hqm⟩:=r8
      have e7:xx 7=.map (some m):=by simpa using e7
      have e8:xx 8=.pointer (some ⟨q,0,none⟩):=by simpa using e8
      rw [e7,e8]
      have cq:=hq.cell
      have fq:=hq.frozen
      have HQ:=ak_ hq
      have HA:=ak_ ha
      have HKS:=ak_ hk
      have HW:=ak_ hw'
      clear hq ha hk hw' hR e7 e8
      go_wp2_with fail
      exact ⟨m,es,q,⟨rfl,rfl⟩,HA.out.setCell (a:=⟨q,0,none⟩) (fun e=>HA.out.not_cells HQ.out e.symm) _,HKS.out,HQ.out.set _,hm,HW.out.setCell (p:=⟨q,0,none⟩) hqm _⟩
     ·rintro a w6 ⟨m,es,q,rfl,ha,hk,hq,hm,hb⟩
      have HA6:=ak_ ha
      have HK6:=ak_ hk
      have HQ6:=ak_ hq
      have HM6:=ak_ hm
      have HB6:=ak_ hb
      have HBX6:=ak_ (blk_below HBX.out hb)
      have sB0:=bc_ HBX6 0
      simp only [ga_,gb_,gc_] at sB0
      clear ha hk hq hm hb sI sS sE sB1 sB2 sB3 sB4
      gi_wp2_with (refine ⟨trivial,?_⟩;gi_at_call 81;refine (CallsIn.inRound lr (bo_in _ _ _ _ _)).mono ?_;rintro e w7 ⟨rfl,rfl⟩)
      obtain ⟨w7,hw7⟩:∃ w7,w6.alloc (.cells #[.slice (bg x).1 (rd_T50 bs (x:Int)).f0.length (bg x).2] 46)=w7:=⟨_,rfl⟩
      obtain ⟨Y,hY⟩:∃ Y,w6.heap.size=Y:=⟨_,rfl⟩
      have hz7:w7.heap.size=Y+1:=by rw [← hw7,← hY];simp [World.size_alloc]
      have hb67:Below w6.heap.size w6 w7:=by rw [← hw7];exact below_alloc (Below.refl _ _) _
      have HA7:=ak_ (HA6.out.below hb67 HA6.out.lt)
      have HQ7:Aside0 (Boxed w7 q 73 (.map (some m))):=⟨blk_below HQ6.out hb67⟩
      have HB7:Aside0 (Below W1.heap.size W1 w7):=⟨below_then HB6.out HB6.out.size hb67⟩
      have HY7:Aside0 (w7.heap[Y]?=some (.cells #[.slice (bg x).1 (rd_T50 bs (x:Int)).f0.length (bg x).2] 46 (0,0))):=⟨by rw [← hw7,← hY];exact blk_new _ _⟩
      have hW1s:W1.heap.size≤w7.heap.size:=HB7.out.size
      rw [hY,hw7]
      clear hw7 hb67 sB0
      have hkcw:KC w W1:=KE.kc (show Below w.heap.size w wA by rw [hS];exact HBA.out) (by omega) HLI1.out.ke
      obtain ⟨og,hog⟩:=ops_at (HBG.out x hxn).row
      have HOG:=ak_ hog
      have hLl:(rd_T50 bs (x:Int)).f0.length=opLen bs x:=rfl
      have hLm:=RP.out.opLen_le x
      have hst2:=bo_seq 4 (by decide) Y (bg x).1 (bg x).2 (rd_T50 bs (x:Int)).f0 og (by rw [hLl];omega) KC (fun h k=>h.trans k) (fun h=>KC.of_below h) w7 (fun Wa wr2 hW hk=>by
       have hkc:KC w wr2:=((hkcw.trans (KC.of_below HB7.out)).trans (KC.of_below (hW))).trans hk
       refine ⟨?_,HOG.out.kc hkc⟩
       have h1:=hk.cells Y _ ((hW.block Y (blk_lt HY7.out)).trans HY7.out) rfl
       have h2:=blk_cell h1 0
       simpa only [List.getElem?_toArray,List.getElem?_cons_zero,List.getElem?_cons_succ] using h2)
      have HKCW:=ak_ hkcw
      clear hog hkcw
      refine wpIn_rangeFunc_N (l₀:=lr) (r₀:=rl) rfl (HB7.out.block lr (blk_lt HRL.out) |>.trans HRL.out) (by decide) (gf:=107) (lb:=#[.pointer (some ⟨Y,0,none⟩)]) rfl trivial (enters_of Tryz.func107 (by kernel_rfl) rfl)
       (hst2.inRound lr) (fun h k=>h.trans k) (fun Wa l o o' hl ho hb=>KC.of_grown grown_put (fun o2 h2=>by rw [ho] at h2;cases h2;exact not_cells_of_book hb)) (Below.refl _ _) (fun _=>rfl)
       (fun pre2 W2=>∃ es2,At W2 m es2∧KS es2 (Lv.Bk (gOf bs) Iv1 x pre2.length)∧Boxed W2 q 73 (.map (some m))∧Below W1.heap.size W1 W2)
       (fun _ _ _=>False) ?hI2 (fun _=>BookFrom.pure _ _) ⟨es,HA7.out,HK6.out,HQ7.out,HB7.out⟩
       (fun y a' W2=>∃ b2,a'={ tmps:=#[.agg #[.int .i64 p,.slice A bs.length c],.pointer (some ⟨S,0,none⟩),.slice none 0 0,.bool false,.pointer (some ⟨T,0,none⟩),.pointer (some ⟨T+2,0,none⟩),u6,.pointer (some ⟨X,0,none⟩),.int .i64 (x:Int),.pointer (some ⟨b,0,none⟩),.pointer (some ⟨q,0,none⟩),undef,.pointer (some ⟨b2,0,none⟩),.agg #[.int .i64 p,.slice A bs.length c],.bool true,.bool false,.agg #[.int .i64 p,.slice A bs.length c],.slice (some ad2) (succL bs).length c2',.pointer (some ⟨S,1,none⟩),.slice A bs.length c,.int .i64 bs.length,.slice (some ⟨T+1,0,none⟩) bs.length bs.length,.slice (some ⟨T+1,0,none⟩) bs.length bs.length,.int .i64 bs.length,.int .i64 bs.length,.bool false,u26,u27,u28,u29,u30,u31,.bool true,.pointer (some ⟨S,1,none⟩),.slice A bs.length c,.func (.func 106) #[] #[.pointer (some ⟨BB,0,none⟩)],.int .i64 (x:Int),blkV (rd_T50 bs (x:Int)) (bg x),.slice (some ⟨T+1,0,none⟩) bs.length bs.length,.slice (some ad2) (succL bs).length c2',.int .i64 (x:Int),.pointer (some (ad2.add x)),.slice A0 (rd_L1 (succL bs) (x:Int)).length cb,.pointer (some ⟨b,1,none⟩),.agg #[.int .i64 (rd_T50 bs (x:Int)).f1.f0,.int .i64 (rd_T50 bs (x:Int)).f1.f1,.int .i64 (rd_T50 bs (x:Int)).f1.f2,.int .i64 (rd_T50 bs (x:Int)).f1.f3],.map (some m),.pointer (some ⟨b,0,none⟩),.slice (bg x).1 (rd_T50 bs (x:Int)).f0.length (bg x).2,.func (.func 107) #[] #[.pointer (some ⟨Y,0,none⟩)],.int .i64 (y:Int),opV (rd_T45 (rd_T50 bs (x:Int)).f0 (y:Int)) (og y),undef,undef,undef,undef,undef,undef,undef,undef,undef,undef,undef,undef,undef,undef,undef,v66,undef],defers:=[] }∧W2.heap[b2]?=some (.cells #[.int .i64 (rd_T45 (rd_T50 bs (x:Int)).f0 (y:Int)).f0,.int .i64 (rd_T45 (rd_T50 bs (x:Int)).f0 (y:Int)).f1,.int .i64 (rd_T45 (rd_T50 bs (x:Int)).f0 (y:Int)).f2,.int .i64 (rd_T45 (rd_T50 bs (x:Int)).f0 (y:Int)).f3,.int .i64 (rd_T45 (rd_T50 bs (x:Int)).f0 (y:Int)).f4,.slice (og y).1 (rd_T45 (rd_T50 bs (x:Int)).f0 (y:Int)).f5.length (og y).2] 45 (0,0)))
       ?hAx2 ?assign2 ?body2 ?done2 ?stop2
      case hI2 =>
       exact BookFrom.ex fun es2=>(BookFrom.at _ (fun _=>m) (fun _=>es2)).and ((BookFrom.pure _ _).and ((BookFrom.boxed _ q 73 _).and (BookFrom.belowB hW1s (Nat.le_refl _))))
      case hAx2 =>
       intro y a'
       exact BookFrom.ex fun b=>(BookFrom.pure _ _).and (BookFrom.cells _ (fun _=>b) _ (fun _=>rfl))
      case assign2 =>
       intro lr2 pre2 y W2 KK hI1 hKK
       unfold boV opV
       unfold opV at hKK
       generalize rd_T45 (rd_T50 bs (x:Int)).f0 (y:Int)=z at hKK
       generalize og y=g at hKK
       have HI1:=ak_ hI1
       have HKK:=ak_ hKK
       clear hI1 hKK
       gi_wp2
       refine HKK.out _ _ (KB.of_below (below_alloc (Below.refl _ _) _)) (KC.of_below (below_alloc (Below.refl _ _) _)) ?_ ⟨W2.heap.size,rfl,blk_new _ _⟩
       obtain ⟨es2,h1,h2,h3,h4⟩:=HI1.out
       exact ⟨es2,h1.alloc _,h2,h3.alloc _,below_alloc h4 _⟩
      case body2 =>
       rintro lr2 pre2 y a' W2 _ _ ⟨es2,h1,h2,h3,h4⟩ ⟨b2,rfl,hb2⟩ ⟨k2,hk2,hpre2,hy2⟩
       have hyl:y<opLen bs x:=by omega
       have hop:=RP.out.opA (x,y)
       have hop2:=(HOG.out y hyl)
       have hXY:rd_T45 (rd_T50 bs (x:Int)).f0 (y:Int)=opOf bs (x,y):=rfl
       rw [hXY] at hb2 hop2
       rw [hXY]
       have hpl:pre2.length=k2:=by rw [hpre2,downs_length]
       rw [hpl] at h2
       have hrow:=Cint_kc hop2.row ((HKCW.out.trans (KC.of_below h4)))
       have hcapp:=hop2.cap
       have HSTEP:Aside0 (∀ r,(r∈useX (opOf bs (x,y))∨(r≠setX (opOf bs (x,y))∧Lv.Bk (gOf bs) Iv1 x k2 r))↔Lv.Bk (gOf bs) Iv1 x (k2+1) r):=⟨fun r=>by
        subst hy2
        rfl⟩
       have HPL2:Aside0 ((pre2++[y]).length=k2+1):=⟨by rw [List.length_append,hpl];rfl⟩
       have hlen8:=hop.2
       have c0:=blk_cell hb2 0
       have c1:=blk_cell hb2 1
       have c2:=blk_cell hb2 2
       have c3:=blk_cell hb2 3
       have c4:=blk_cell hb2 4
       have c5:=blk_cell hb2 5
       simp only [ga_,gb_,gc_] at c0 c1 c2 c3 c4 c5
       have cq:=h3.cell
       have hov:=over_any m es2 _ (opOf bs (x,y)) (og y).1 (og y).2 W2 (by omega) h1 h2 hrow hcapp
       have HOV:=ak_ hov
       have HA2:=ak_ h1
       have HQ2:=ak_ h3
       have HB2:=ak_ h4
       unfold opV
       generalize opOf bs (x,y)=z at c0 c1 c2 c3 c4 c5 HOV HSTEP ⊢
       generalize og y=g at c5 HOV ⊢
       clear hov h1 h2 h3 h4 hb2 hop hop2 hrow hcapp hXY hlen8 hpl hpre2 hy2 hk2 hyl
       gi_wp2_with (refine ⟨trivial,?_⟩;gi_at_call 82;refine (CallsIn.inRound lr2 (CallsIn.inRound lr (callsIn_wide.2 HOV.out))).mono ?_;rintro e W3 ⟨rfl,es3,ha3,hk3,hg3⟩;have HA3:=ak_ ha3;have HK3:=ak_ hk3;have HG3:=ak_ hg3;clear ha3 hk3 hg3)
       exact ⟨KB.of_at HG3.out HA2.out,KC.of_grown HG3.out HA2.out.no_cells,es3,HA3.out,by rw [HPL2.out];exact HK3.out.imp HSTEP.out,HQ2.out.kept HG3.out (fun e=>HA2.out.not_cells HQ2.out (by injection e)),below_of_grown HB2.out HG3.out HM6.out⟩
      case done2 =>
       rintro xs2 W2 rfl ⟨es2,h1,h2,h3,h4⟩
       rw [downs_length,hLl] at h2
       have sq:=h3.cell
       have sI:=((HLI1.out.ke.trans (KE.of_kc (KC.of_below h4))).boxed HIA.out (by omega)).cell
       have hMR2:=HLI1.out.row.below h4
       obtain ⟨cs,hr1,hr2,hr3⟩:=hMR2.out
       obtain ⟨mx,esx,hx1,hx2,hx3,hx4⟩:=hr3 x hxn
       have sR:=blk_cell hr1 x
       rw [hx1] at sR
       have q1:(0:Int)≤(x:Int):=by omega
       have q2:(x:Int)<(bs.length:Int):=by omega
       have HA2:=ak_ h1
       have HK2:=ak_ h2
       have HQ2:=ak_ h3
       have HB2:=ak_ h4
       have HXX:=ak_ hx3
       have HXK:=ak_ hx4
       have HR1:=ak_ hr1
       clear h1 h2 h3 h4 hMR2 hr1 hr2 hr3 hx1 hx2 hx3 hx4
       gi_wp2
       refine RelRegion.wpIn_region_rel (ro:=some lr) (K0:=?_) 8 (fun _=>none) (fun _=>[]) (fun _ _ _=>True) (fun w'=>Below W2.heap.size W2 w') (fun a b=>Below a.heap.size a b) (by kernel_rfl) (by kernel_rfl) (by kernel_rfl) (below_drew (Below.refl _ _)) (fun a b h k=>below_then h h.size k) (fun _ _ _ _ h _=>h) ?_ ?_
       case refine_1=>exact fun a w8=>a={ tmps:=#[.agg #[.int .i64 p,.slice A bs.length c],.pointer (some ⟨S,0,none⟩),.slice none 0 0,.bool false,.pointer (some ⟨T,0,none⟩),.pointer (some ⟨T+2,0,none⟩),u6,.pointer (some ⟨X,0,none⟩),.int .i64 (x:Int),.pointer (some ⟨b,0,none⟩),.pointer (some ⟨q,0,none⟩),undef,undef,.agg #[.int .i64 p,.slice A bs.length c],.bool true,.bool false,.agg #[.int .i64 p,.slice A bs.length c],.slice (some ad2) (succL bs).length c2',.pointer (some ⟨S,1,none⟩),.slice A bs.length c,.int .i64 bs.length,.slice (some ⟨T+1,0,none⟩) bs.length bs.length,.slice (some ⟨T+1,0,none⟩) bs.length bs.length,.int .i64 bs.length,.int .i64 bs.length,.bool false,u26,u27,u28,u29,u30,u31,.bool true,.pointer (some ⟨S,1,none⟩),.slice A bs.length c,.func (.func 106) #[] #[.pointer (some ⟨BB,0,none⟩)],.int .i64 (x:Int),blkV (rd_T50 bs (x:Int)) (bg x),.slice (some ⟨T+1,0,none⟩) bs.length bs.length,.slice (some ad2) (succL bs).length c2',.int .i64 (x:Int),.pointer (some (ad2.add x)),.slice A0 (rd_L1 (succL bs) (x:Int)).length cb,.pointer (some ⟨b,1,none⟩),.agg #[.int .i64 (rd_T50 bs (x:Int)).f1.f0,.int .i64 (rd_T50 bs (x:Int)).f1.f1,.int .i64 (rd_T50 bs (x:Int)).f1.f2,.int .i64 (rd_T50 bs (x:Int)).f1.f3],.map (some m),.pointer (some ⟨b,0,none⟩),.slice (bg x).1 (rd_T50 bs (x:Int)).f0.length (bg x).2,.func (.func 107) #[] #[.pointer (some ⟨Y,0,none⟩)],undef,undef,undef,undef,undef,.map (some m),.int .i64 (es2.length:Int),.slice (some ⟨T+1,0,none⟩) bs.length bs.length,.int .i64 (x:Int),.pointer (some ⟨T+1,x,none⟩),.map (some mx),.int .i64 (esx.length:Int),.bool (decide ((esx.length:Int)<(es2.length:Int))),undef,undef,undef,undef,v66,undef],defers:=[] }∧Below W2.heap.size W2 w8
       ·simp only [List.take_succ_cons,List.take_zero,List.drop_succ_cons,List.drop_zero]
        iterate 8 (apply RelRegion.relQ_step rfl;apply Exists.intro;constructor;(focus (intro w' hw';have sI:=pw_cell_below hw' sI;have sq:=pw_cell_below hw' sq;have sR:=pw_cell_below hw' sR;unfold RelRegion.Yl;go_wp2_with (at_len;first|(refine IM.wpl_len _ rfl _ 73 rfl 3 4 Tryz.underlying73 m es2 rfl (HA2.out.below hw' HA2.out.lt) ?_)|(refine IM.wpl_len _ rfl _ 73 rfl 3 4 Tryz.underlying73 mx esx rfl (HXX.out.below hw' HXX.out.lt) ?_));exact ⟨rfl,_,rfl,rfl,Below.refl _ _⟩));(try simp only [Act.put,pa_,pb_,pc_]))
        refine RelRegion.relQ_nil (fun xx=>?_)
        repeat (refine RelRegion.relL_quiet rfl ?_)
        refine RelRegion.relL_nil (fun w' hw' _=>?_)
        have HW8:=ak_ hw'
        clear hw' sI sq sR
        go_wp2_with fail
        exact HW8.out
       ·rintro a w8 ⟨rfl,hb8⟩
        have HB18:=ak_ (below_then HB2.out HB2.out.size hb8)
        have HA8:=ak_ (HA2.out.below hb8 HA2.out.lt)
        have hX8:Boxed w8 X 4 (.bool mo):=blk_below HX1.out HB18.out
        have sX:=hX8.cell
        have fX:=hX8.frozen
        have sq:=pw_cell_below hb8 sq
        have sI:=pw_cell_below hb8 sI
        have hr8:=blk_below HR1.out hb8
        have fR:=blk_frozen hr8 x
        have sR:=pw_cell_below hb8 sR
        have HX8:=ak_ hX8
        have HR8:=ak_ hr8
        have HSX:=ak_ HXK.out.sz
        have HSB:=ak_ HK2.out.sz
        have hS8:S≤w8.heap.size:=by have:=HLI1.out.bel.size;have:=HB18.out.size;omega
        have hSm:S≤m:=by have:=HLI1.out.bel.size;have:=HM6.out;omega
        have HBel8:Aside0 (Below S w w8):=⟨HLI1.out.bel.trans (HB18.out.mono (by have:=HLI1.out.bel.size;omega))⟩
        clear hX8 hr8 hb8
        by_cases hgt:esx.length<es2.length
        ·have b1:decide ((esx.length:Int)<(es2.length:Int))=true:=decide_eq_true (by omega)
         have b1' : decide (esx.length<es2.length)=true:=decide_eq_true hgt
         have HGT:=ak_ hgt
         gi_wp2
         have hrow:=(HLI1.out.row.below HB18.out).put hxn hSm HA8.out HK2.out bs.length (fun i hi=>by omega)
         have hX9:Boxed (w8.setCell ⟨T+1,x,none⟩ (.map (some m))) X 4 (.bool mo):=HX8.out.kept (grownBy_setCellAt _ _ _) (fun e=>by have e' : X=T+1:=(by injection e);omega)
         have hsub:∀ i,i<bs.length→∀ r,Iv1 i r→(if i=x then Lv.Bk (gOf bs) Iv1 x (opLen bs x) r else Iv1 i r):=fun i hi r h=>by
          by_cases e:i=x
          ·rw [if_pos e];subst e;exact HLI1.out.post i hi r h
          ·rw [if_neg e];exact h
         have hmono:∀ i,i<bs.length→∀ mm r,Lv.Bk (gOf bs) Iv1 i mm r→Lv.Bk (gOf bs) (fun i r=>if i=x then Lv.Bk (gOf bs) Iv1 x (opLen bs x) r else Iv1 i r) i mm r:=fun i hi mm r h=>Lv.Bk.mono (fun j r hj h=>hsub j (by have:=RP.out.wf i hi _ hj;exact Int.ofNat_lt.1 this.2) r h) mm r h
         have hregs:∀ r,Lv.Bk (gOf bs) Iv1 x (opLen bs x) r→1≤r∧r≤4096:=fun r h=>RP.out.at_reg (Lv.Bk.sound (g:=gOf bs) (fun j r hj h=>HLI1.out.sound j (by have:=RP.out.wf x hxn _ hj;exact Int.ofNat_lt.1 this.2) r h) (opLen bs x) r (Nat.le_refl _) h)
         have htot:∃ s2,Lv.Tot (fun i r=>if i=x then Lv.Bk (gOf bs) Iv1 x (opLen bs x) r else Iv1 i r) bs.length s2∧s<s2:=by
          cases mo with
          | true =>
           obtain ⟨s2,h1,h2⟩:=HTT1.out.set hxn HSX.out HSB.out HGT.out (HSB.out.regs hregs)
           have:=HGR.out rfl
           exact ⟨s2,h1,by omega⟩
          | false =>
           obtain ⟨rfl,_⟩:=HSM.out rfl
           exact HTT.out.set hxn HSX.out HSB.out HGT.out (HSB.out.regs hregs)
         obtain ⟨s2,ht2,hs2⟩:=htot
         refine ⟨?_,?_,true,_,s2,hX9.set _,⟨hrow.far (p:=⟨X,0,none⟩) (by show T+1≠X;omega) hX9 _,((HLI1.out.ke.trans (KE.of_below HB18.out)).trans (KE.setCell _ _ _ ⟨by show T+1≤T+1;omega,by show T+1<T+2;omega⟩)).far (by show wA.heap.size≤X;omega),(HBel8.out.setCell (p:=⟨T+1,x,none⟩) (by show S≤T+1;omega) _).setCell (p:=⟨X,0,none⟩) (by show S≤X;omega) _,?_,?_⟩,ht2,(fun _=>hs2),(fun h=>by cases h),?_⟩
         ·exact ((KB.of_below HB18.out).trans (KB.setCell w8 ⟨T+1,x,none⟩ _ HR8.out)).trans (KB.setCell _ ⟨X,0,none⟩ _ hX9)
         ·exact ((KE.of_below HB18.out).trans (KE.setCell _ _ _ ⟨by show T+1≤T+1;omega,by show T+1<X+1;omega⟩)).trans (KE.setCell _ _ _ ⟨by show T+1≤X;omega,by show X<X+1;omega⟩)
         ·intro i hi r h
          by_cases e:i=x
          ·rw [if_pos e] at h
           have:=Lv.Bk.sound (g:=gOf bs) (fun j r hj h=>HLI1.out.sound j (by have:=RP.out.wf x hxn _ hj;exact Int.ofNat_lt.1 this.2) r h) (opLen bs x) r (Nat.le_refl _) h
           rw [e]
           rwa [show (gOf bs).len x - opLen bs x=0 from Nat.sub_self _] at this
          ·rw [if_neg e] at h
           exact HLI1.out.sound i hi r h
         ·intro i hi r h
          by_cases e:i=x
          ·rw [if_pos e] at h
           subst e
           exact hmono i hi _ r h
          ·rw [if_neg e] at h
           exact hmono i hi _ r (HLI1.out.post i hi r h)
         ·exact (HKB1.out.trans ((KB.of_below HB18.out).trans (KB.setCell w8 ⟨T+1,x,none⟩ _ HR8.out))).trans (KB.setCell _ ⟨X,0,none⟩ _ hX9)
        ·have b1:decide ((esx.length:Int)<(es2.length:Int))=false:=decide_eq_false (by omega)
         have b1' : decide (esx.length<es2.length)=false:=decide_eq_false hgt
         have HGT:=ak_ hgt
         gi_wp2
         refine ⟨KB.of_below HB18.out,KE.of_below HB18.out,mo,Iv1,s1,HX8.out,HLI1.out.below HB18.out (by have:=HLI1.out.bel.size;omega),HTT1.out,HGR.out,(fun h=>?_),HKB1.out.trans (KB.of_below HB18.out)⟩
         obtain ⟨rfl,hall⟩:=HSM.out h
         refine ⟨rfl,fun i hi r hr=>?_⟩
         rcases List.mem_append.1 hi with hi|hi
         ·exact hall i hi r hr
         ·have e:i=x:=List.mem_singleton.1 hi
          subst e
          exact HSX.out.same HSB.out (HLI1.out.post i hxn) (by have:=HGT.out;omega) r hr
      case stop2 =>
       rintro cd pre2 W2 hpre hF
       exact hF.elim
    case done =>
     rintro D xs W1 hD rfl ⟨mo,Iv1,s1,h1,h2,h3,h4,h5,h6⟩ hK
     have cX:=h1.cell
     have HX1:=ak_ h1
     have HLI1:=ak_ h2
     have HTT1:=ak_ h3
     have HGR:=ak_ h4
     have HSM:=ak_ h5
     have HKB1:=ak_ h6
     have HDD:=ak_ hK
     have HMK:Aside0 (Marks S W1 (markOf D::ds)):=⟨HDS.out.cons (by have:=HLI1.out.bel.size;omega) (by omega) hK (fun r hr h=>h6.same r _ hr h rfl)⟩
     clear h1 h2 h3 h4 h5 h6 hK
     gi_wp2
     have hM2:Marks S (W1.alloc (.cells #[.bool mo] 4)) (markOf D::ds):=HMK.out.kept (fun r hr h=>(KB.of_below (B:=S) (below_alloc (Below.refl W1.heap.size W1) (.cells #[.bool mo] 4))).same r _ hr h rfl)
     have hX2:=Boxed.new W1 4 (.bool mo)
     have hL2:=HLI1.out.below (below_alloc (Below.refl W1.heap.size W1) (.cells #[.bool mo] 4)) (by have:=HLI1.out.bel.size;omega)
     have hle:=HTT1.out.le
     have hXs2:T+3≤W1.heap.size:=by have:=HX1.out.lt;omega
     cases mo with
     | true =>
      have:=HGR.out rfl
      exact ⟨_,by simp only [if_pos];omega,W1.heap.size,true,Iv1,s1,_,_,_,_,_,_,rfl,hM2,hX2,hXs2,hL2,HTT1.out,(fun h=>by cases h),rfl⟩
     | false =>
      obtain ⟨hI,hall⟩:=HSM.out rfl
      subst hI
      refine ⟨2*(bs.length*4096 - s)+0,by simp,W1.heap.size,false,Iv1,s,_,_,_,_,_,_,rfl,hM2,hX2,hXs2,hL2,HTT.out,(fun _ i hi r h=>hall i ?_ r h),by simp⟩
      unfold downs
      exact List.mem_map.2 ⟨bs.length - 1 - i,List.mem_range.2 (by omega),by omega⟩
    case stop =>
     rintro D cd pre W1 hD hpre hF hK
     exact hF.elim
