import Derived.Test.YtnkgbnbbmcoiiaaGreatBk
import Derived.Test.YtnkgbnbbmcoiiaaGreatLap17
import Derived.Test.YtnkgbnbbmcoiiaaGreatOright
import Derived.Test.YtnkgbnbbmcoiiaaGreatOdead17
import Derived.Test.YtnkgbnbbmcoiiaaGreatLtz
import Derived.Test.YtnkgbnbbmcoiiaaGreatRfz
namespace Go.Proofs.YtnkgbnbbmcoiiaaGreat.S
open Go.RowKit Go.IM Go.Proofs.YtnkgbnbbmcoiiaaGreatW.PrintWords Go.Proofs.YtnkgbnbbmcoiiaaGreatW.PrintLast Go.Proofs.YtnkgbnbbmcoiiaaGreatW.PrintMore
set_option linter.unusedVariables false
set_option linter.unusedSimpArgs false
/-! ### live.without -/
/-- A row of pairs. -/
def PrAt (w:World) (D:Option Addr) (ds:List (Nat × Nat)):Prop:=∀ j (h:j<ds.length),∃ ad,D=some ad∧w.cell? (ad.add (j*2))=some (.int .i64 ((ds[j]'h).1:Int))∧w.cell? ⟨(ad.add (j*2)).block,(ad.add (j*2)).off+1,none⟩=some (.int .i64 ((ds[j]'h).2:Int))
theorem PrAt.below {w w' : World} {D:Option Addr} {ds:List (Nat × Nat)} (h:PrAt w D ds) (hb:Below w.heap.size w w'):PrAt w' D ds:=fun j hj=>by
 obtain ⟨ad,e,h1,h2⟩:=h j hj
 exact ⟨ad,e,pw_cell_below hb h1,pw_cell_below hb h2⟩
theorem prCs_get:∀ (ds:List (Nat × Nat)) (j:Nat) (h:j<ds.length),(prCs ds)[j*2]?=some (.int .i64 ((ds[j]'h).1:Int))∧(prCs ds)[j*2+1]?=some (.int .i64 ((ds[j]'h).2:Int))
 | d::ds,0,_=>⟨rfl,rfl⟩
 | d::ds,j+1,h=>by
  have ih:=prCs_get ds j (by simpa using h)
  have e1:(prCs (d::ds))[(j+1)*2]?=(prCs ds)[j*2]?:=by
   show ([_,_]++prCs ds)[(j+1)*2]?=_
   rw [List.getElem?_append_right (by simp;omega)]
   congr 1
   simp;omega
  have e2:(prCs (d::ds))[(j+1)*2+1]?=(prCs ds)[j*2+1]?:=by
   show ([_,_]++prCs ds)[(j+1)*2+1]?=_
   rw [List.getElem?_append_right (by simp;omega)]
   congr 1
   simp;omega
  rw [e1,e2]
  exact ih
theorem PrAt.of_own {w:World} {base:Nat} {D:Option Addr} {c:Nat} {ds:List (Nat × Nat)} (h:w.ownsRow base 68 2 (.slice D ds.length c) ds.length (prCs ds)):PrAt w D ds:=fun j hj=>by
 rcases h.2 with ⟨_,h1⟩|⟨g,cap,cur,e,h2,h3,h4,h5,h6,h7⟩
 ·omega
 ·injection e with e1 _ _
  subst e1
  refine ⟨_,rfl,?_,?_⟩
  ·rw [Addr.add_lit,Nat.zero_add]
   refine (blk_cell h3 _).trans ?_
   have:=(prCs_get ds j hj).1
   rw [← h7,List.getElem?_take_of_lt (by omega),Array.getElem?_toList] at this
   exact this
  ·simp only [Addr.add_lit,Nat.zero_add]
   refine (blk_cell h3 _).trans ?_
   have:=(prCs_get ds j hj).2
   rw [← h7,List.getElem?_take_of_lt (by omega),Array.getElem?_toList] at this
   exact this
/-- The operations of a block,up to m,without some. -/
def opsW (bs:List S50) (ds:List (Nat × Nat)) (i m:Nat):List S45:=((List.range m).filter fun k=>!decide ((i,k)∈ds)).map fun k=>opOf bs (i,k)
theorem opsW_succ (bs:List S50) (ds:List (Nat × Nat)) (i m:Nat):opsW bs ds i (m+1)=if (i,m)∈ds then opsW bs ds i m else opsW bs ds i m++[opOf bs (i,m)]:=by
 unfold opsW
 rw [List.range_succ,List.filter_append,List.map_append]
 by_cases h:(i,m)∈ds<;>simp [h]
theorem opsW_len (bs:List S50) (ds:List (Nat × Nat)) (i m:Nat):(opsW bs ds i m).length≤m:=by
 unfold opsW
 rw [List.length_map]
 exact Nat.le_trans (List.length_filter_le _ _) (by simp)
/-- A function without some operations. -/
def woutB (bs:List S50) (ds:List (Nat × Nat)) (i:Nat):S50:=⟨opsW bs ds i (opLen bs i),(rd_T50 bs (i:Int)).f1⟩
def woutL (bs:List S50) (ds:List (Nat × Nat)):List S50:=(List.range bs.length).map (woutB bs ds)
theorem woutL_length (bs:List S50) (ds:List (Nat × Nat)):(woutL bs ds).length=bs.length:=by simp [woutL]
theorem rd_woutL {bs:List S50} {ds:List (Nat × Nat)} {i:Nat} (h:i<bs.length):rd_T50 (woutL bs ds) (i:Int)=woutB bs ds i:=by
 rw [rd43' (by rw [woutL_length];exact h)]
 simp [woutL]
theorem blks_ext {a b:List S50} (h:a.length=b.length) (he:∀ i:Nat,i<b.length→rd_T50 a (i:Int)=rd_T50 b (i:Int)):a=b:=by
 apply List.ext_getElem h
 intro i h1 h2
 have:=he i h2
 rwa [rd43' h1,rd43' h2] at this
/-- A row of operations of the call's own,its inner rows elsewhere. -/
def LR (X:Nat→Prop) (w:World) (base:Nat) (v:Value) (xs:List S45):Prop:=∃ gs:Nat→Option Addr × Nat,w.ownsRow base 45 6 v xs.length ((List.range xs.length).flatMap fun k:Nat=>opC (rd_T45 xs (k:Int)) (gs k))∧∀ k,k<xs.length→(rd_T45 xs (k:Int)).f5.length≤(gs k).2∧St X w (fun w'=>Kd.C (Kd.int .i64) w' (gs k).1 (rd_T45 xs (k:Int)).f5.length (rd_T45 xs (k:Int)).f5)
theorem LR.nil (X:Nat→Prop) (w:World) (base:Nat):LR X w base (.slice none 0 0) []:=⟨fun _=>(none,0),own_nil _ _ _ _,fun k hk=>absurd hk (Nat.not_lt_zero _)⟩
theorem LR.below {X:Nat→Prop} {w w' : World} {base:Nat} {v:Value} {xs:List S45} (h:LR X w base v xs) (hb:Below w.heap.size w w'):LR X w' base v xs:=by
 obtain ⟨gs,h1,h2⟩:=h
 exact ⟨gs,pw_own_below h1 hb,fun k hk=>⟨(h2 k hk).1,(h2 k hk).2.step (KP.of_below hb)⟩⟩
theorem rd45_snoc_l {xs:List S45} {x:S45} {k:Nat} (h:k<xs.length):rd_T45 (xs++[x]) (k:Int)=rd_T45 xs (k:Int):=by
 rw [rd45' (by rw [List.length_append];omega),rd45' h,List.getElem_append_left h]
theorem rd45_snoc_r {xs:List S45} {x:S45} : rd_T45 (xs++[x]) ((xs.length:Nat):Int)=x:=by
 rw [rd45' (by simp)]
 simp
theorem flat_congr {α:Type} {f g:Nat→List α} : ∀ (l:List Nat),(∀ k∈l,f k=g k)→l.flatMap f=l.flatMap g
 | [],_=>rfl
 | x::l,h=>by rw [List.flatMap_cons,List.flatMap_cons,h x List.mem_cons_self,flat_congr l (fun k hk=>h k (List.mem_cons_of_mem _ hk))]
theorem lr_cells (xs:List S45) (gs:Nat→Option Addr × Nat) (x:S45) (g:Option Addr × Nat):(List.range (xs++[x]).length).flatMap (fun k:Nat=>opC (rd_T45 (xs++[x]) (k:Int)) (if k=xs.length then g else gs k))=(List.range xs.length).flatMap (fun k:Nat=>opC (rd_T45 xs (k:Int)) (gs k))++opC x g:=by
 rw [List.length_append,List.length_singleton,List.range_succ,List.flatMap_append]
 congr 1
 ·refine flat_congr _ (fun k hk=>?_)
  have hlt:=List.mem_range.1 hk
  rw [rd45_snoc_l hlt,if_neg (by omega)]
 ·simp [rd45_snoc_r]
theorem opC_one (x:S45) (g:Option Addr × Nat):∀ u∈opC x g,u.oneCell'=true:=by
 intro u hu
 simp only [opC,List.mem_cons,List.not_mem_nil,or_false] at hu
 rcases hu with rfl|rfl|rfl|rfl|rfl|rfl<;>rfl
section
variable {ops:Array Oper} {rest:List Oper} {o:Oper} {a:Act} {Q:Exit→Act→World→Prop}
theorem appLR {w0 W:World} {base:Nat} {X:Nat→Prop} (hgd:o.guard=none) (s x:Operand) (ho:o.op=.call { callee:=.builtin .append,args:=#[s,x],argTypes:=#[46,46] })
  (v:Value) (xs:List S45) (y:S45) (A:Option Addr) (c:Nat) (hs:a.eval s=v) (hx:a.eval x=.slice (some ⟨W.heap.size,0,none⟩) 1 1) (hX:∀ k,base≤k→X k) (HO:LR X W base v xs) (HB:Below base w0 W) (hbase:base≤W.heap.size) (hl:xs.length≤16384)
  (hc:y.f5.length≤c) (hst:St X W (fun w'=>Kd.C (Kd.int .i64) w' A y.f5.length y.f5))
  (h:∀ v1 w1,LR X w1 base v1 (xs++[y])→Below base w0 w1→KP X W w1→wpList Tryz.prog ops Q rest (a.put o.dst v1) w1):wpList Tryz.prog ops Q (o::rest) a (W.alloc (.cells #[.int .i64 y.f0,.int .i64 y.f1,.int .i64 y.f2,.int .i64 y.f3,.int .i64 y.f4,.slice A y.f5.length c] 45)):=by
 obtain ⟨gs,h1,h2⟩:=HO
 refine print_append_cells (w0:=w0) (W:=W) base hgd s x 46 45 (.agg #[.int .i64 0,.int .i64 0,.int .i64 0,.int .i64 0,.int .i64 0,.slice none 0 0]) 6 64 ho Tryz.underlying46 info45c rfl (by decide) (by decide) v xs.length _ (opC y (A,c)) hs hx rfl (opC_one y (A,c)) h1 HB hbase (by omega) ?_
 intro v1 w1 ho1 hb1 hg1 _
 have hkp:KP X W w1:=⟨hg1.size,fun k o hx hk _=>(hg1.block k (Array.getElem?_eq_some_iff.1 hk).1 (fun e=>hx (hX k (own_base h1 k e.symm)))).trans hk⟩
 refine h v1 w1 ⟨fun k=>if k=xs.length then (A,c) else gs k,?_,fun k hk=>?_⟩ hb1 hkp
 ·rw [lr_cells,List.length_append]
  exact ho1
 ·by_cases e:k=xs.length
  ·subst e
   rw [rd45_snoc_r]
   simp only [if_pos]
   exact ⟨hc,hst.step hkp⟩
  ·rw [List.length_append,List.length_singleton] at hk
   rw [rd45_snoc_l (by omega)]
   simp only [if_neg e]
   exact ⟨(h2 k (by omega)).1,(h2 k (by omega)).2.step hkp⟩
end
/-- The finished row,whatever Y holds. -/
theorem LR.fin {X Y:Nat→Prop} {w:World} {base:Nat} {v:Value} {xs:List S45} (h:LR X w base v xs) (hs:∀ k,Y k→X k) (hy:∀ k,base≤k→k<w.heap.size→¬ Y k):∃ A c,v=.slice A xs.length c∧xs.length≤c∧OpsS Y w A xs:=by
 obtain ⟨gs,h1,h2⟩:=h
 rcases h1.2 with ⟨rfl,h0⟩|⟨g,cap,cur,rfl,hg,hbk,hle,_,hsz,htk⟩
 ·rw [h0]
  exact ⟨none,0,rfl,Nat.le_refl _,OpsS.nil h0⟩
 ·refine ⟨some ⟨g,0,none⟩,cap,rfl,hle,?_⟩
  have hor:OR X w g xs gs cur:=⟨hbk,fun k hk=>⟨fun j u hu=>?_,(h2 k hk).1,(h2 k hk).2⟩⟩
  ·exact hor.stS (hy g hg (blk_lt hbk)) hs
  ·have hj:j<6:=by
    have:=(List.getElem?_eq_some_iff.1 hu).1
    simpa [opC] using this
   have hf:=flat_get (fun k:Nat=>opC (rd_T45 xs (k:Int)) (gs k)) 6 (fun i=>rfl) xs.length k j hk hj
   rw [← htk] at hf
   have hlt:k*6+j<xs.length*6:=by
    have:=Nat.mul_le_mul_right 6 hk
    rw [Nat.succ_mul] at this
    omega
   rw [List.getElem?_take_of_lt hlt,Array.getElem?_toList] at hf
   exact hf.trans hu
/-- The two boxes,and what lay ahead. -/
structure CW (w W:World) (p:Int) (A:Option Addr) (n c:Nat):Prop where mk ::
 bel:Below w.heap.size w W
 b2:W.heap[w.heap.size]?=some (.cells #[.int .i64 p,.slice A n c] 24 (0,0))
 b4:W.heap[w.heap.size+1]?=some (.cells #[.int .i64 0,.slice none 0 0] 24 (0,0))
theorem CW.below {w W W' : World} {p:Int} {A:Option Addr} {n c:Nat} (h:CW w W p A n c) (hb:Below W.heap.size W W'):CW w W' p A n c:=⟨below_then h.bel h.bel.size hb,blk_below h.b2 hb,blk_below h.b4 hb⟩
theorem CW.grown {w W W' : World} {p:Int} {A:Option Addr} {n c b:Nat} (h:CW w W p A n c) (hg:W.grownBy W' (some b)) (hb:w.heap.size+2≤b):CW w W' p A n c :=
 ⟨below_of_grown h.bel hg (by omega),blk_grown h.b2 hg (by simp;omega),blk_grown h.b4 hg (by simp;omega)⟩
theorem CW.set {w W:World} {p:Int} {A:Option Addr} {n c:Nat} (h:CW w W p A n c) (a:Addr) (v:Value) (ha:w.heap.size+2≤a.block):CW w (W.setCell a v) p A n c :=
 ⟨below_set h.bel a v (by omega),blk_far h.b2 (by omega) v,blk_far h.b4 (by omega) v⟩
theorem dec_mem {ds:List (Nat × Nat)} {i k:Nat} : decide ((i,k)∈ds)=true↔∃ r∈ds,((i:Int),(k:Int))=((r.1:Int),(r.2:Int)):=by
 rw [decide_eq_true_eq]
 constructor
 ·intro h
  exact ⟨_,h,rfl⟩
 ·rintro ⟨r,hr,e⟩
  simp only [Prod.mk.injEq] at e
  obtain ⟨r1,r2⟩:=r
  simp only at e
  obtain rfl:i=r1:=by omega
  obtain rfl:k=r2:=by omega
  exact hr
set_option maxHeartbeats 8000000 in
set_option maxRecDepth 100000 in
theorem without_ok (p:Int) (A:Option Addr) (c:Nat) (bs:List S50) (D:Option Addr) (cd:Nat) (ds:List (Nat × Nat)) (w:World) (Z:Nat→Prop) (bg0:Nat→Option Addr × Nat) (og0:Nat→Nat→Option Addr × Nat) (hF:St Z w (fun w'=>DeepAt w' A bs bg0 og0)) (hZ:∀ k,Z k→k<w.heap.size) (hs:Sml bs) (hD:PrAt w D ds) (hdl:ds.length≤16384) :
  Calls Tryz.prog 62 #[.agg #[.int .i64 p,.slice A bs.length c],.slice D ds.length cd] w fun e w'=>∃ A' c' bg' og',e=.returned (.agg #[.int .i64 p,.slice A' bs.length c'])∧bs.length≤c'∧St Z w' (fun w2=>DeepAt w2 A' (woutL bs ds) bg' og')∧Below w.heap.size w w':=by
 have hu34:=Tryz.underlying24
 have hu43:=Tryz.underlying50
 have hu41:=Tryz.underlying48
 have hu45:=Tryz.underlying45
 have hu86:=Tryz.underlying68
 have hmm:=@run_makeMap Tryz.prog
 have HS:=ak_ hs
 have HFX:Aside0 (∀ W,Below w.heap.size w W→St (fun k=>Z k∨k=w.heap.size+1) W (fun w'=>DeepAt w' A bs bg0 og0)):=⟨fun W hb=>((hF.wide (Y:=fun k=>Z k∨w.heap.size≤k) (fun k h=>h)).step (KP.of_below hb)).mono (fun k h=>h.elim .inl (fun h=>.inr (by omega)))⟩
 have HZ:=ak_ hZ
 have HD:=ak_ hD
 have hlen:=hs.blks
 have hcw:CW w (((w.alloc (.cells #[.int .i64 p,.slice A bs.length c] 24)).alloc (.cells #[.int .i64 0,.slice none 0 0] 24)).alloc (.map #[] 0)) p A bs.length c:=by
  have h0:CW w ((w.alloc (.cells #[.int .i64 p,.slice A bs.length c] 24)).alloc (.cells #[.int .i64 0,.slice none 0 0] 24)) p A bs.length c:=by
   refine ⟨below_alloc (below_alloc (Below.refl _ _) _) _,blk_alloc (blk_new w _) _,?_⟩
   have:=blk_new (w.alloc (.cells #[.int .i64 p,.slice A bs.length c] 24)) (.cells #[.int .i64 0,.slice none 0 0] 24)
   rwa [World.size_alloc] at this
  exact h0.below (below_alloc (Below.refl _ _) _)
 have hat:=At2.made ((w.alloc (.cells #[.int .i64 p,.slice A bs.length c] 24)).alloc (.cells #[.int .i64 0,.slice none 0 0] 24))
 have hsz:((w.alloc (.cells #[.int .i64 p,.slice A bs.length c] 24)).alloc (.cells #[.int .i64 0,.slice none 0 0] 24)).heap.size=w.heap.size+2:=by rw [World.size_alloc,World.size_alloc]
 rw [hsz] at hat
 have HCW:=ak_ hcw
 have HAT:=ak_ hat
 clear hF hs hD hZ hcw hat hsz
 go_enter Tryz.func62,Tryz.ntmps62
 go_wp2_with fail
 clear hmm
 go_loopw [17] (fun i wr=>∃ j:Nat,j≤ds.length∧i=.int .i64 (j:Int)∧Aside0 (CW w wr p A bs.length c)∧Aside0 (At2 wr (w.heap.size+2) (fun q=>∃ r∈ds.take j,q=((r.1:Int),(r.2:Int))))) (fun i _=>ds.length - (intOf i).toNat)
 case atStart=>exact ⟨0,Nat.zero_le _,rfl,HCW,⟨HAT.out.imp (fun q=>by simp)⟩⟩
 case round =>
  clear HCW HAT
  obtain ⟨j,hj,rfl,HCW,HAT⟩:=hrel
  by_cases hlj:j<ds.length
  ·have b1:decide ((j:Int)<(ds.length:Int))=true:=decide_eq_true (by omega)
   have hw1:wrap64 ((j:Int)+1)=(j:Int)+1:=(wr3 (z:=0) (by decide) (by omega)).2.2
   obtain ⟨add,eD,h0,h1⟩:=(HD.out.below HCW.out.bel) j hlj
   subst eD
   have HTK:Aside0 (ds.take (j+1)=ds.take j++[ds[j]]):=⟨List.take_succ_eq_append_getElem hlj⟩
   generalize ds[j]=q at h0 h1 HTK
   have HAA:=ak_ (HAT.out.alloc (.cells #[.int .i64 (q.1:Int),.int .i64 (q.2:Int)] 68))
   have HCA:=ak_ (HCW.out.below (below_alloc (Below.refl wr.heap.size wr) (.cells #[.int .i64 (q.1:Int),.int .i64 (q.2:Int)] 68)))
   go_wp2_with (at_mapUpdate;refine wpl_upd2 rfl _ _ _ rfl (w.heap.size+2) _ rfl HAA.out ((q.1:Int),(q.2:Int)) rfl rfl ?_;intro w1 hm1 hg1;have HM1:=ak_ hm1;have HG1:=ak_ hg1;clear hm1 hg1)
   go_roundw
   case rel =>
    refine ⟨j+1,hlj,by first|(rw [hw1];exact num_cast j)|(with_reducible exact num_cast j),⟨HCA.out.grown HG1.out (Nat.le_refl _)⟩,⟨HM1.out.imp (fun r=>?_)⟩⟩
    rw [HTK.out]
    simp only [List.mem_append,List.mem_singleton]
    constructor
    ·rintro (h|⟨r',h1,h2⟩)
     ·exact ⟨q,.inr rfl,h⟩
     ·exact ⟨r',.inl h1,h2⟩
    ·rintro ⟨r',h1|h1,h2⟩
     ·exact .inr ⟨r',h1,h2⟩
     ·subst h1;exact .inl h2
   case measure=>first|(rw [hw1];exact num_meas hlj)|(with_reducible exact num_meas hlj)
  ·have b1:decide ((j:Int)<(ds.length:Int))=false:=decide_eq_false (by omega)
   have HAS:Aside0 (At2 wr (w.heap.size+2) (fun q=>∃ r∈ds,q=((r.1:Int),(r.2:Int)))):=⟨HAT.out.imp (fun q=>by rw [List.take_of_length_le (Nat.le_of_not_lt hlj)])⟩
   have c0:=blk_cell HCW.out.b2 0
   have c1:=blk_cell HCW.out.b2 1
   simp only [ga_,gb_,gc_] at c0 c1
   clear HAT
   go_wp2_with (go_at_call 61;refine (copy_ok p A c bs _ (fun k=>Z k∨k=w.heap.size+1) bg0 og0 (HFX.out _ HCW.out.bel) (fun k hk=>hk.elim (fun h=>Nat.lt_of_lt_of_le (HZ.out k h) HCW.out.bel.size) (fun h=>by have h1:=HAS.out.lt;omega)) HS.out).mono ?_;rintro e w2 ⟨g,c1',bg,cs,rfl,hle,hgw,hbr,hb⟩;have HLE:=ak_ hle;have HGW:=ak_ (Nat.le_trans HAS.out.lt hgw);have HBR2:=ak_ hbr;have HCW2:=ak_ (HCW.out.below hb);have HAS2:=ak_ (HAS.out.below hb HAS.out.lt);clear hle hgw hbr hb c0 c1)
   have hbA:=below_alloc (Below.refl w2.heap.size w2) (.cells #[.int .i64 p,.slice (some ⟨g,0,none⟩) bs.length c1'] 24)
   have HCW3:=ak_ (HCW2.out.below hbA)
   have HAS3:=ak_ (HAS2.out.below hbA HAS2.out.lt)
   have HBR3:=ak_ (HBR2.out.step (KP.of_below hbA) (hbA.block g (blk_lt HBR2.out.blk)))
   have HX83:=ak_ (blk_new w2 (.cells #[.int .i64 p,.slice (some ⟨g,0,none⟩) bs.length c1'] 24))
   have HGB:=ak_ (blk_lt HBR2.out.blk)
   clear hbA HCW2 HAS2 HBR2
   generalize w2.heap.size=b8 at HX83 HGB ⊢
   generalize w2.alloc (.cells #[.int .i64 p,.slice (some ⟨g,0,none⟩) bs.length c1'] 24)=W3 at HCW3 HAS3 HBR3 HX83 ⊢
   clear hlj hj b1 HCW HAS
   go_loopw [29] (fun i wr=>∃ (x:Nat) (mx:List S50) (bg' : Nat→Option Addr × Nat) (cs' : Array Value),x≤bs.length∧i=.int .i64 (x:Int)∧Aside0 (CW w wr p A bs.length c)∧Aside0 (At2 wr (w.heap.size+2) (fun q=>∃ r∈ds,q=((r.1:Int),(r.2:Int))))∧Aside0 (BR (fun k=>k=g∨Z k∨k=w.heap.size+1) wr g mx bg' cs')∧Aside0 (wr.heap[b8]?=some (.cells #[.int .i64 p,.slice (some ⟨g,0,none⟩) bs.length c1'] 24 (0,0))) ∧
     Aside0 (mx.length=bs.length∧(∀ i:Nat,i<x→rd_T50 mx (i:Int)=woutB bs ds i)∧∀ i:Nat,x≤i→i<bs.length→rd_T50 mx (i:Int)=rd_T50 bs (i:Int))) (fun i _=>bs.length - (intOf i).toNat)
   case atStart=>exact ⟨0,bs,bg,cs,Nat.zero_le _,rfl,HCW3,HAS3,HBR3,HX83,⟨rfl,fun i hi=>absurd hi (Nat.not_lt_zero _),fun _ _ _=>rfl⟩⟩
   case round =>
    clear HCW3 HAS3 HBR3 HX83
    obtain ⟨x,mx,bg',cs',hx,rfl,HCW,HAS,HBR,HX8,HMX⟩:=hrel
    by_cases hlt:x<bs.length
    ·have b1:decide ((x:Int)<(bs.length:Int))=true:=decide_eq_true (by omega)
     have hw1:wrap64 ((x:Int)+1)=(x:Int)+1:=(wr3 (z:=0) (by decide) (by omega)).2.2
     have HXM:Aside0 (x<mx.length):=⟨by rw [HMX.out.1];exact hlt⟩
     have hrx:=HMX.out.2.2 x (Nat.le_refl _) hlt
     have k0:wr.cell? ⟨g,x*5,none⟩=_:=HBR.out.cells HXM.out 0 _ rfl
     have k1:wr.cell? ⟨g,x*5+1,none⟩=_:=HBR.out.cells HXM.out 1 _ rfl
     have k2:wr.cell? ⟨g,x*5+2,none⟩=_:=HBR.out.cells HXM.out 2 _ rfl
     have k3:wr.cell? ⟨g,x*5+3,none⟩=_:=HBR.out.cells HXM.out 3 _ rfl
     have k4:wr.cell? ⟨g,x*5+4,none⟩=_:=HBR.out.cells HXM.out 4 _ rfl
     obtain ⟨_,hcap,_,og,hog⟩:=HBR.out.el x HXM.out
     have HOG:=ak_ (hog.wide (Y:=fun q=>(q=g∨Z q∨q=w.heap.size+1)∨wr.heap.size≤q) (fun q h=>h))
     rw [hrx] at k0 k1 k2 k3 k4 HOG hcap
     have HOP:Aside0 (∀ k:Nat,opOf bs (x,k)=rd_T45 (rd_T50 bs (x:Int)).f0 (k:Int)):=⟨fun k=>rfl⟩
     have HOL:Aside0 (opLen bs x=(rd_T50 bs (x:Int)).f0.length):=⟨rfl⟩
     have HXL:Aside0 ((rd_T50 bs (x:Int)).f0.length≤16384):=⟨HS.out.ops x⟩
     have HWB:Aside0 (woutB bs ds x=⟨opsW bs ds x (opLen bs x),(rd_T50 mx (x:Int)).f1⟩):=⟨by rw [hrx];rfl⟩
     clear hog hrx
     generalize rd_T50 bs (x:Int)=X43 at k0 k1 k2 k3 k4 HOG hcap HOP HOL HXL
     obtain ⟨xs,t0,t1,t2,t3⟩:=X43
     have HOP:Aside0 (∀ k:Nat,opOf bs (x,k)=rd_T45 xs (k:Int)):=HOP
     have HOL:Aside0 (opLen bs x=xs.length):=HOL
     have HXL:Aside0 (xs.length≤16384):=HXL
     obtain ⟨ax,hax⟩:∃ ax,bg' x=ax:=⟨_,rfl⟩
     rw [hax] at k0 HOG hcap
     obtain ⟨Ax,cx⟩:=ax
     simp only at k0 k1 k2 k3 k4 hcap
     have HOG:Aside0 (St (fun q=>(q=g∨Z q∨q=w.heap.size+1)∨wr.heap.size≤q) wr (fun w'=>OpsAt w' Ax xs og)):=HOG
     clear hax
     go_wp2_with fail
     clear k0 k1 k2 k3 k4 b1
     have HBA:=ak_ (below_alloc (Below.refl wr.heap.size wr) (.cells #[.slice Ax xs.length cx,.int .i64 t0,.int .i64 t1,.int .i64 t2,.int .i64 t3] 50))
     go_loopw [11,37] (fun v i wi=>∃ k:Nat,k≤xs.length∧i=.int .i64 (k:Int)∧Aside0 (Below wr.heap.size wr wi)∧Aside0 (LR (fun q=>(q=g∨Z q∨q=w.heap.size+1)∨wr.heap.size≤q) wi wr.heap.size v (opsW bs ds x k))) (fun _ i _=>xs.length - (intOf i).toNat)
     case atStart=>exact ⟨0,Nat.zero_le _,rfl,HBA,⟨LR.nil _ _ _⟩⟩
     case round =>
      clear HBA
      obtain ⟨k,hk,rfl,HB,HLR⟩:=hrel
      have HLW:=ak_ (Nat.le_trans (opsW_len bs ds x k) (Nat.le_trans hk HXL.out))
      by_cases hlk:k<xs.length
      ·have b2:decide ((k:Int)<(xs.length:Int))=true:=decide_eq_true (by omega)
       have hw2:wrap64 ((k:Int)+1)=(k:Int)+1:=(wr3 (z:=0) (by decide) (Nat.le_trans (Nat.le_of_lt hlk) HXL.out)).2.2
       have hopS:=HOG.out.step (KP.of_below HB.out)
       obtain ⟨⟨adx,eA,y0,y1,y2,y3,y4,y5⟩,hcy,_⟩:=hopS.now k hlk
       have HSA:=ak_ (hopS.imp (fun w' h=>(h k hlk).row))
       have HSU:=ak_ (opsW_succ bs ds x k)
       rw [HOP.out k] at HSU
       subst eA
       generalize rd_T45 xs (k:Int)=X at y0 y1 y2 y3 y4 y5 hcy HSA HSU
       generalize og k=gk at y5 hcy HSA
       obtain ⟨A6,c6⟩:=gk
       simp only at y5 hcy
       have HCY:=ak_ hcy
       have hbX:=below_alloc (Below.refl wr.heap.size wr) (.cells #[.int .i64 X.f0,.int .i64 X.f1,.int .i64 X.f2,.int .i64 X.f3,.int .i64 X.f4,.slice A6 X.f5.length c6] 45)
       have HAL:=ak_ ((HAS.out.below HB.out HAS.out.lt).alloc (.cells #[.int .i64 X.f0,.int .i64 X.f1,.int .i64 X.f2,.int .i64 X.f3,.int .i64 X.f4,.slice A6 X.f5.length c6] 45))
       have HBX:=ak_ (below_alloc HB.out (.cells #[.int .i64 X.f0,.int .i64 X.f1,.int .i64 X.f2,.int .i64 X.f3,.int .i64 X.f4,.slice A6 X.f5.length c6] 45))
       have HLX:=ak_ (HLR.out.below hbX)
       have HSX:=ak_ (HSA.out.step (KP.of_below hbX))
       clear hopS hcy hbX
       generalize opsW bs ds x k=L at HLX HSU HLW
       cases hd:decide ((x,k)∈ds) with
       | true =>
        have HR:=ak_ (dec_mem (ds:=ds) (i:=x) (k:=k))
        rw [hd] at HR
        have HSU2:Aside0 (opsW bs ds x (k+1)=L):=⟨by rw [HSU.out,if_pos (of_decide_eq_true hd)]⟩
        clear hd
        go_wp2_with (at_lookup;refine wpl_look2 rfl _ _ rfl (w.heap.size+2) _ rfl HAL.out ((x:Int),(k:Int)) rfl true HR.out ?_)
        go_roundw
        case rel=>exact ⟨k+1,hlk,by first|(rw [hw2];exact num_cast k)|(with_reducible exact num_cast k),HBX,⟨by rw [HSU2.out];exact HLX.out⟩⟩
        case measure=>first|(rw [hw2];exact num_meas hlk)|(with_reducible exact num_meas hlk)
       | false =>
        have HR:=ak_ (dec_mem (ds:=ds) (i:=x) (k:=k))
        rw [hd] at HR
        have HSU2:Aside0 (opsW bs ds x (k+1)=L++[X]):=⟨by rw [HSU.out,if_neg (of_decide_eq_false hd)]⟩
        clear hd
        go_wp2_with (first
         | (at_lookup;refine wpl_look2 rfl _ _ rfl (w.heap.size+2) _ rfl HAL.out ((x:Int),(k:Int)) rfl false HR.out ?_)
         | (at_builtin;refine appLR rfl _ _ rfl u11 L X A6 c6 rfl (by rw [World.size_alloc];rfl) (fun q h=>.inr h) HLX.out HBX.out HBX.out.size HLW.out HCY.out HSX.out ?_;intro v6 w6 ho6 hb6 _;have HO6:=ak_ ho6;have HB6:=ak_ hb6;clear ho6 hb6))
        go_roundw
        case rel=>exact ⟨k+1,hlk,by first|(rw [hw2];exact num_cast k)|(with_reducible exact num_cast k),HB6,⟨by rw [HSU2.out];exact HO6.out⟩⟩
        case measure=>first|(rw [hw2];exact num_meas hlk)|(with_reducible exact num_meas hlk)
      ·have b2:decide ((k:Int)<(xs.length:Int))=false:=decide_eq_false (by omega)
       obtain ⟨A9,c9,rfl,hle9,hops⟩:=HLR.out.fin (Y:=fun q=>q=g∨Z q∨q=w.heap.size+1) (fun q h=>.inl h) (fun q h1 _ h2=>by
        have:=blk_lt HBR.out.blk
        have:=HCW.out.bel.size
        have h3:=blk_lt HCW.out.b4
        have h4:=HZ.out q
        rcases h2 with h2|h2|h2
        ·omega
        ·have:=h4 h2;omega
        ·omega)
       have ek:k=opLen bs x:=(Nat.le_antisymm hk (Nat.le_of_not_lt hlk)).trans HOL.out.symm
       have HFW:Aside0 (opsW bs ds x k=opsW bs ds x (opLen bs x)):=⟨by rw [ek]⟩
       rw [HFW.out] at hle9 hops HLW ⊢
       have HL9:=ak_ hle9
       have HO9:=ak_ hops
       have hb8:=blk_below HX8.out HB.out
       have c1:=blk_cell hb8 1
       simp only [ga_,gb_,gc_] at c1
       have HBRi:=ak_ (HBR.out.step (KP.of_below HB.out) (HB.out.block g (blk_lt HBR.out.blk)))
       have sG:wr.cell? ⟨g,x*5,none⟩=_:=HBRi.out.cells HXM.out 0 _ rfl
       have fG:wr.frozen? ⟨g,x*5,none⟩=false:=blk_frozen HBRi.out.blk _
       clear hle9 hops ek
       go_wp2_with fail
       go_roundw
       case rel =>
        have hgw:=HGW.out
        have h:=BR.put HBRi.out HXM.out (.inl rfl) (opsW bs ds x (opLen bs x)) (A:=A9) (c:=c9) HL9.out (by have:=HLW.out;omega) HO9.out
        rw [← HWB.out] at h
        refine ⟨x+1,_,_,_,hlt,by first|(rw [hw1];exact num_cast x)|(with_reducible exact num_cast x),⟨(HCW.out.below HB.out).set _ _ (by show w.heap.size+2≤g;omega)⟩,⟨(HAS.out.below HB.out HAS.out.lt).setCell (by show w.heap.size+2≠g;omega) _⟩,⟨h⟩,⟨blk_far hb8 (by have:=HGB.out;show b8≠g;omega) _⟩,⟨by rw [List.length_set];exact HMX.out.1,fun i hi=>?_,fun i h1 h2=>?_⟩⟩
        ·by_cases e:i=x
         ·subst e
          rw [rd43' (by rw [List.length_set];exact HXM.out),List.getElem_set_self]
         ·have him:i<mx.length:=by rw [HMX.out.1];omega
          rw [rd43' (by rw [List.length_set];exact him),List.getElem_set_ne (fun h=>e h.symm),← rd43' him]
          exact HMX.out.2.1 i (by omega)
        ·have him:i<mx.length:=by rw [HMX.out.1];omega
         rw [rd43' (by rw [List.length_set];exact him),List.getElem_set_ne (by omega),← rd43' him]
         exact HMX.out.2.2 i (by omega) h2
       case measure=>first|(rw [hw1];exact num_meas hlt)|(with_reducible exact num_meas hlt)
    ·have b1:decide ((x:Int)<(bs.length:Int))=false:=decide_eq_false (by omega)
     have hxe:x=bs.length:=Nat.le_antisymm hx (Nat.le_of_not_lt hlt)
     have HFM:Aside0 (mx=woutL bs ds):=⟨blks_ext (by rw [HMX.out.1,woutL_length]) (fun i hi=>by
      rw [woutL_length] at hi
      rw [rd_woutL hi]
      exact HMX.out.2.1 i (by omega))⟩
     have c0':=bc_ HX8 0
     have c1'':=bc_ HX8 1
     have d0:=blk_cell HCW.out.b4 0
     have d1:=blk_cell HCW.out.b4 1
     simp only [ga_,gb_,gc_] at c0' c1'' d0 d1
     have e0:=blk_frozen HCW.out.b4 0
     have e1:=blk_frozen HCW.out.b4 1
     clear hxe
     go_wp2_with fail
     have hz:=blk_set (blk_set HCW.out.b4 0 (.int .i64 p)) 1 (.slice (some ⟨g,0,none⟩) bs.length c1')
     have hkp1:=KP.setCell (X:=fun k=>k=g∨Z k∨k=w.heap.size+1) wr ⟨w.heap.size+1,0,none⟩ (.int .i64 p) (.inr (.inr rfl))
     have hkp2:=KP.setCell (X:=fun k=>k=g∨Z k∨k=w.heap.size+1) (wr.setCell ⟨w.heap.size+1,0,none⟩ (.int .i64 p)) ⟨w.heap.size+1,1,none⟩ (.slice (some ⟨g,0,none⟩) bs.length c1') (.inr (.inr rfl))
     have hg1:=HGW.out
     have hb1:=below_set (below_set HCW.out.bel ⟨w.heap.size+1,0,none⟩ (.int .i64 p) (Nat.le_succ _)) ⟨w.heap.size+1,1,none⟩ (.slice (some ⟨g,0,none⟩) bs.length c1') (Nat.le_succ _)
     have hbr:=(HBR.out.step hkp1 (Below.heap_setCell _ _ _ g (by show g≠w.heap.size+1;omega))).step hkp2 (Below.heap_setCell _ _ _ g (by show g≠w.heap.size+1;omega))
     generalize (wr.setCell ⟨w.heap.size+1,0,none⟩ (.int .i64 p)).setCell ⟨w.heap.size+1,1,none⟩ (.slice (some ⟨g,0,none⟩) bs.length c1')=W2 at hz hb1 hbr ⊢
     have z0:=blk_cell hz 0
     have z1:=blk_cell hz 1
     simp at z0 z1
     refine bodyPost_ret (v:=.agg #[.int .i64 p,.slice (some ⟨g,0,none⟩) bs.length c1']) (by simp [results,Tryz.results62,go_sem,hu34,z0,z1]) rfl ?_
     obtain ⟨og',hde⟩:=hbr.deep (Y:=Z) (fun h=>by have:=HZ.out g h;omega) (fun k h=>.inr (.inl h))
     rw [HFM.out] at hde
     exact ⟨_,c1',bg',og',rfl,HLE.out,hde,hb1⟩
end Go.Proofs.YtnkgbnbbmcoiiaaGreat.S
namespace Go.Proofs.YtnkgbnbbmcoiiaaGreat.S
open Go.RowKit Go.IM Go.Proofs.YtnkgbnbbmcoiiaaGreatW.PrintWords Go.Proofs.YtnkgbnbbmcoiiaaGreatW.PrintLast Go.Proofs.YtnkgbnbbmcoiiaaGreatW.PrintMore
set_option linter.unusedVariables false
set_option linter.unusedSimpArgs false
/-! ### Sweep,plain -/
theorem rightF_of {p:Int} {bs:List S50} {fn:Int} (h:RightP p bs fn):rightF p bs fn=true:=by
 unfold rightF
 simp only [Bool.and_eq_true,wi,decide_eq_true_eq,List.all_eq_true]
 refine ⟨⟨by have:=h.len;omega,by have:=h.len;omega⟩,h.par,?_,h.few,fun q hq=>?_⟩
 ·unfold termsR
  rw [List.all_eq_true]
  intro x hx
  obtain ⟨i,hi,e⟩:=List.getElem_of_mem hx
  have:=h.term i hi
  rw [rd43' hi,e] at this
  exact this
 ·obtain ⟨i,k⟩:=q
  obtain ⟨h1,h2⟩:=mem_plcs.1 hq
  exact h.op i k h1 h2
theorem opLen_wout {bs:List S50} {ds:List (Nat × Nat)} {i:Nat} (h:i<bs.length):opLen (woutL bs ds) i=(opsW bs ds i (opLen bs i)).length:=by
 unfold opLen
 rw [rd_woutL h]
 rfl
theorem opLen_wout_le {bs:List S50} {ds:List (Nat × Nat)} {i:Nat} (h:i<bs.length):opLen (woutL bs ds) i≤opLen bs i:=by
 rw [opLen_wout h]
 exact opsW_len _ _ _ _
theorem plcs_le {a b:List S50} : ∀ n,(∀ i,i<n→opLen a i≤opLen b i)→(plcs a n).length≤(plcs b n).length
 | 0,_=>Nat.le_refl _
 | n+1,h=>by
  have:=plcs_le n (fun i hi=>h i (by omega))
  have h2:=h n (by omega)
  rw [plcs_succ,plcs_succ,List.length_append,List.length_append]
  simp only [rowP,List.length_map,List.length_range]
  omega
theorem plcs_lt {a b:List S50} {j:Nat} (hj:opLen a j<opLen b j):∀ n,j<n→(∀ i,i<n→opLen a i≤opLen b i)→(plcs a n).length<(plcs b n).length
 | 0,h,_=>absurd h (Nat.not_lt_zero _)
 | n+1,hn,h=>by
  rw [plcs_succ,plcs_succ,List.length_append,List.length_append]
  simp only [rowP,List.length_map,List.length_range]
  by_cases e:j=n
  ·subst e
   have:=plcs_le (a:=a) (b:=b) j (fun i hi=>h i (by omega))
   omega
  ·have:=plcs_lt hj n (by omega) (fun i hi=>h i (by omega))
   have h2:=h n (by omega)
   omega
/-- An operation of what is left is one of what was. -/
theorem opOf_wout {bs:List S50} {ds:List (Nat × Nat)} {i k:Nat} (h:i<bs.length) (hk:k<opLen (woutL bs ds) i):∃ k',k'<opLen bs i∧opOf (woutL bs ds) (i,k)=opOf bs (i,k')∧(i,k')∉ds:=by
 rw [opLen_wout h] at hk
 have e:opOf (woutL bs ds) (i,k)=(opsW bs ds i (opLen bs i))[k]:=by
  show rd_T45 (rd_T50 (woutL bs ds) (i:Int)).f0 (k:Int)=_
  rw [rd_woutL h]
  exact rd45' hk
 have hm:=List.getElem_mem hk
 obtain ⟨k',hk',he⟩:=List.mem_map.1 (show (opsW bs ds i (opLen bs i))[k]∈List.map (fun k=>opOf bs (i,k)) _ from hm)
 obtain ⟨h1,h2⟩:=List.mem_filter.1 hk'
 exact ⟨k',List.mem_range.1 h1,e.trans he.symm,by simpa using h2⟩
theorem RightP.wout {p:Int} {bs:List S50} {fn:Int} (h:RightP p bs fn) (ds:List (Nat × Nat)):RightP p (woutL bs ds) fn:=by
 refine ⟨by rw [woutL_length];exact h.len,h.par,fun i hi=>?_,?_,fun i k hi hk=>?_⟩
 ·rw [woutL_length] at hi ⊢
  rw [rd_woutL hi]
  exact h.term i hi
 ·rw [woutL_length]
  exact Nat.le_trans (plcs_le _ (fun i hi=>opLen_wout_le hi)) h.few
 ·rw [woutL_length] at hi
  obtain ⟨k',hk',e,_⟩:=opOf_wout hi hk
  rw [e]
  exact h.op i k' hi hk'
noncomputable def deadL (bs:List S50):List (Nat × Nat):=deadP bs (plcs bs bs.length)
theorem mem_deadL {bs:List S50} {q:Nat × Nat} : q∈deadL bs↔(q.1<bs.length∧q.2<opLen bs q.1)∧deadB bs q=true:=by
 unfold deadL deadP
 rw [List.mem_filter]
 obtain ⟨i,k⟩:=q
 rw [mem_plcs]
def tot (bs:List S50):Nat:=(plcs bs bs.length).length
theorem opsW_lt {bs:List S50} {ds:List (Nat × Nat)} {i k:Nat} (hk:k<opLen bs i) (hd:(i,k)∈ds):(opsW bs ds i (opLen bs i)).length<opLen bs i:=by
 have:∀ m,k<m→(opsW bs ds i m).length<m:=fun m hm=>by
  induction m with
  | zero=>exact absurd hm (Nat.not_lt_zero _)
  | succ m ih =>
   rw [opsW_succ]
   by_cases e:k=m
   ·subst e
    rw [if_pos hd]
    exact Nat.lt_succ_of_le (opsW_len _ _ _ _)
   ·have h1:=ih (by omega)
    split
    ·omega
    ·rw [List.length_append,List.length_singleton];omega
 exact this _ hk
theorem tot_wout {bs:List S50} (h:deadL bs≠[]):tot (woutL bs (deadL bs))<tot bs:=by
 obtain ⟨q,hq⟩:=List.exists_mem_of_ne_nil _ h
 obtain ⟨⟨h1,h2⟩,_⟩:=mem_deadL.1 hq
 unfold tot
 rw [woutL_length]
 refine plcs_lt (j:=q.1) ?_ _ h1 (fun i hi=>opLen_wout_le hi)
 rw [opLen_wout h1]
 exact opsW_lt h2 hq
/-- What Sweep makes of a function. -/
inductive SweepOf:List S50→List S50→Prop
 | done {bs:List S50} : deadL bs=[]→SweepOf bs bs
 | step {bs s:List S50} : deadL bs≠[]→SweepOf (woutL bs (deadL bs)) s→SweepOf bs s
theorem SweepOf.uniq {bs s:List S50} (h:SweepOf bs s):∀ {t:List S50},SweepOf bs t→s=t:=by
 induction h with
 | done h =>
  intro t ht
  cases ht with
  | done _=>rfl
  | step h2 _=>exact absurd h h2
 | step h _ ih =>
  intro t ht
  cases ht with
  | done h2=>exact absurd h2 h
  | step _ ht=>exact ih ht
theorem SweepOf.fin {bs s:List S50} (h:SweepOf bs s):deadL s=[]:=by
 induction h with
 | done h=>exact h
 | step _ _ ih=>exact ih
theorem SweepOf.right {bs s:List S50} (h:SweepOf bs s) {p fn:Int} (hr:RightP p bs fn):RightP p s fn:=by
 induction h with
 | done _=>exact hr
 | step _ _ ih=>exact ih (hr.wout _)
theorem SweepOf.len {bs s:List S50} (h:SweepOf bs s):s.length=bs.length:=by
 induction h with
 | done _=>rfl
 | step _ _ ih=>rw [ih,woutL_length]
theorem sweep_ex:∀ (m:Nat) (bs:List S50),tot bs≤m→∃ s,SweepOf bs s
 | 0,bs,h=>by
  by_cases e:deadL bs=[]
  ·exact ⟨bs,.done e⟩
  ·have:=tot_wout e;omega
 | m+1,bs,h=>by
  by_cases e:deadL bs=[]
  ·exact ⟨bs,.done e⟩
  ·obtain ⟨s,hs⟩:=sweep_ex m (woutL bs (deadL bs)) (by have:=tot_wout e;omega)
   exact ⟨s,.step e hs⟩
/-! ### What is struck one by one,from behind -/
theorem opsW_all {bs:List S50} {ds:List (Nat × Nat)} {b:Nat} : ∀ {m:Nat},(∀ k,k<m→(b,k)∉ds)→(opsW bs ds b m).length=m
 | 0,_=>rfl
 | m+1,h=>by
  rw [opsW_succ,if_neg (h m (Nat.lt_succ_self m)),List.length_append,opsW_all (fun k hk=>h k (Nat.lt_succ_of_lt hk))]
  rfl
theorem opsW_cong {bs:List S50} {ds es:List (Nat × Nat)} {b:Nat} : ∀ {m:Nat},(∀ k,k<m→((b,k)∈ds↔(b,k)∈es))→opsW bs ds b m=opsW bs es b m
 | 0,_=>rfl
 | m+1,h=>by
  rw [opsW_succ,opsW_succ,opsW_cong (fun k hk=>h k (Nat.lt_succ_of_lt hk))]
  have:=h m (Nat.lt_succ_self m)
  by_cases hm:(b,m)∈ds
  ·rw [if_pos hm,if_pos (this.1 hm)]
  ·rw [if_neg hm,if_neg (fun he=>hm (this.2 he))]
theorem opsW_strike {bs:List S50} {ds:List (Nat × Nat)} {b k:Nat} (h:∀ k',k'≤k→(b,k')∉ds):∀ {n:Nat},k<n→(opsW bs ds b n).take k++(opsW bs ds b n).drop (k+1)=opsW bs ((b,k)::ds) b n
 | 0,hn=>absurd hn (Nat.not_lt_zero _)
 | n+1,hn=>by
  by_cases hk:k=n
  ·subst hk
   have hl:(opsW bs ds b k).length=k:=opsW_all (fun k' hk'=>h k' (Nat.le_of_lt hk'))
   rw [opsW_succ,if_neg (h k (Nat.le_refl _)),opsW_succ,if_pos List.mem_cons_self]
   rw [List.take_append_of_le_length (by omega),List.take_of_length_le (by omega),List.drop_eq_nil_of_le (by rw [List.length_append,hl];simp),List.append_nil]
   refine opsW_cong (fun k' hk'=>⟨fun hm=>List.mem_cons_of_mem _ hm,fun hm=>?_⟩)
   rcases List.mem_cons.1 hm with e|hm
   ·injection e with _ e
    omega
   ·exact hm
  ·have hlt:k<n:=by omega
   have ih:=opsW_strike (bs:=bs) h (n:=n) hlt
   have hl:k+1≤(opsW bs ds b n).length:=by
    have h1:(opsW bs ds b (k+1)).length=k+1:=opsW_all (fun k' hk'=>h k' (by omega))
    have h2:∀ m,(opsW bs ds b (k+1)).length≤(opsW bs ds b (k+1+m)).length:=by
     intro m
     induction m with
     | zero=>exact Nat.le_refl _
     | succ m ihm =>
      refine Nat.le_trans ihm ?_
      rw [show k+1+(m+1)=(k+1+m)+1 from rfl,opsW_succ]
      split
      ·exact Nat.le_refl _
      ·rw [List.length_append];omega
    have:=h2 (n - (k+1))
    rw [show k+1+(n - (k+1))=n by omega] at this
    omega
   rw [opsW_succ,opsW_succ bs ((b,k)::ds)]
   have hiff:(b,n)∈(b,k)::ds↔(b,n)∈ds:=⟨fun hm=>by
    rcases List.mem_cons.1 hm with e|hm
    ·injection e with _ e
     omega
    ·exact hm,fun hm=>List.mem_cons_of_mem _ hm⟩
   by_cases hd:(b,n)∈ds
   ·rw [if_pos hd,if_pos (hiff.2 hd),ih]
   ·rw [if_neg hd,if_neg (fun he=>hd (hiff.1 he)),← ih,List.take_append_of_le_length (by omega),List.drop_append_of_le_length hl,List.append_assoc]
theorem woutL_strike {bs:List S50} {ds:List (Nat × Nat)} {b k:Nat} (hb:b<bs.length) (hk:k<opLen bs b) (h:∀ k',k'≤k→(b,k')∉ds) :
  woutL bs ((b,k)::ds)=(woutL bs ds).set b ⟨(opsW bs ds b (opLen bs b)).take k++(opsW bs ds b (opLen bs b)).drop (k+1),(rd_T50 bs (b:Int)).f1⟩:=by
 refine List.ext_getElem (by rw [List.length_set,woutL_length,woutL_length]) (fun i h1 h2=>?_)
 rw [woutL_length] at h1
 rw [List.getElem_set]
 have e1:(woutL bs ((b,k)::ds))[i]'(by rw [woutL_length];exact h1)=woutB bs ((b,k)::ds) i:=by simp [woutL]
 have e2:(woutL bs ds)[i]'(by rw [woutL_length];exact h1)=woutB bs ds i:=by simp [woutL]
 rw [e1]
 by_cases e:b=i
 ·subst e
  rw [if_pos rfl]
  unfold woutB
  rw [opsW_strike h hk]
 ·rw [if_neg e,e2]
  unfold woutB
  rw [opsW_cong (ds:=(b,k)::ds) (es:=ds) (fun k' _=>⟨fun hm=>by
   rcases List.mem_cons.1 hm with e'|hm
   ·injection e' with e' _
    exact absurd e'.symm e
   ·exact hm,fun hm=>List.mem_cons_of_mem _ hm⟩)]
/-- The order of places. -/
def LtP (a b:Nat × Nat):Prop:=a.1<b.1∨(a.1=b.1∧a.2<b.2)
theorem rowP_lt (i k:Nat):(rowP i k).Pairwise LtP:=by
 unfold rowP
 rw [List.pairwise_map]
 exact List.pairwise_lt_range.imp (fun h=>.inr ⟨rfl,h⟩)
theorem plcs_asc (bs:List S50) (n:Nat):(plcs bs n).Pairwise LtP:=by
 induction n with
 | zero=>exact List.Pairwise.nil
 | succ n ih =>
  rw [plcs_succ,List.pairwise_append]
  refine ⟨ih,rowP_lt _ _,fun a ha c hc=>.inl ?_⟩
  unfold plcs at ha
  obtain ⟨j,hj,ha⟩:=List.mem_flatMap.1 ha
  obtain ⟨q,_,rfl⟩:=List.mem_map.1 ha
  unfold rowP at hc
  obtain ⟨q',_,rfl⟩:=List.mem_map.1 hc
  exact List.mem_range.1 hj
theorem deadL_lt (bs:List S50):(deadL bs).Pairwise LtP:=(plcs_asc bs _).filter _
theorem lt_not_mem {l:List (Nat × Nat)} {b k:Nat} (h:((b,k)::l).Pairwise LtP):∀ k',k'≤k→(b,k')∉l:=fun k' hk hm=>by
 rcases (List.pairwise_cons.1 h).1 _ hm with h1|⟨_,h1⟩
 ·exact absurd h1 (Nat.lt_irrefl _)
 ·exact absurd h1 (Nat.not_lt.2 hk)
/-! ### The document's Sweep,one strike -/
theorem opsW_nil (bs:List S50) (b:Nat):opsW bs [] b (opLen bs b)=(rd_T50 bs (b:Int)).f0:=by
 refine List.ext_getElem (opsW_all (fun _ _=>List.not_mem_nil)) (fun k h1 h2=>?_)
 unfold opsW
 have e:((List.range (opLen bs b)).filter fun k=>!decide ((b,k)∈([]:List (Nat × Nat))))=List.range (opLen bs b):=by
  rw [List.filter_eq_self]
  intro k _
  simp
 simp only [e,List.getElem_map,List.getElem_range]
 exact rd45' h2
theorem woutL_nil (bs:List S50):woutL bs []=bs:=by
 refine blks_ext (woutL_length _ _) (fun i hi=>?_)
 rw [rd_woutL hi]
 unfold woutB
 rw [opsW_nil]
theorem wout_any {bs:List S50} (ds:List (Nat × Nat)) {a b:Nat} (h1:∀ i:Nat,(rd_T50 bs (i:Int)).f0.length≤a) (h2:∀ q,(opOf bs q).f5.length≤b):(∀ i:Nat,(rd_T50 (woutL bs ds) (i:Int)).f0.length≤a)∧∀ q,(opOf (woutL bs ds) q).f5.length≤b:=by
 have hz:∀ i:Nat,¬ i<bs.length→rd_T50 (woutL bs ds) (i:Int)=z50:=fun i hi=>by
  unfold rd_T50
  rw [Int.toNat_natCast,List.getD_eq_getElem?_getD,List.getElem?_eq_none (by rw [woutL_length];omega)]
  rfl
 have hl:∀ i:Nat,i<bs.length→(rd_T50 (woutL bs ds) (i:Int)).f0.length≤(rd_T50 bs (i:Int)).f0.length:=fun i hi=>by
  rw [rd_woutL hi]
  exact opsW_len bs ds i (opLen bs i)
 refine ⟨fun i=>?_,fun q=>?_⟩
 ·by_cases hi:i<bs.length
  ·exact Nat.le_trans (hl i hi) (h1 i)
  ·rw [hz i hi];exact Nat.zero_le _
 ·by_cases hi:q.1<bs.length
  ·by_cases hq:q.2<opLen (woutL bs ds) q.1
   ·obtain ⟨k',_,e,_⟩:=opOf_wout (ds:=ds) hi hq
    have e' : opOf (woutL bs ds) q=opOf bs (q.1,k'):=e
    rw [e']
    exact h2 _
   ·have e:opOf (woutL bs ds) q=z45:=by
     unfold opOf rd_T45
     rw [Int.toNat_natCast,List.getD_eq_getElem?_getD,List.getElem?_eq_none (Nat.le_of_not_lt hq)]
     rfl
    rw [e];exact Nat.zero_le _
  ·unfold opOf
   rw [hz q.1 hi]
   have e:rd_T45 z50.f0 (q.2:Int)=z45:=by
    unfold rd_T45
    rw [Int.toNat_natCast,List.getD_eq_getElem?_getD]
    rfl
   rw [e];exact Nat.zero_le _
theorem Fits.wout {bs:List S50} (h:Fits bs) (ds:List (Nat × Nat)):Fits (woutL bs ds):=⟨by rw [woutL_length];exact h.len,(wout_any ds h.ops h.args).1,(wout_any ds h.ops h.args).2⟩
/-- A strike: what is left when the places from m on are struck. -/
theorem strike {bs:List S50} {ds:List (Nat × Nat)} (ho:ds.Pairwise LtP) (hv:∀ q∈ds,q.1<bs.length∧q.2<opLen bs q.1) {m:Nat} (hm:m<ds.length) :
  (ds[m]).1<bs.length∧(ds[m]).2<(rd_T50 (woutL bs (ds.drop (m+1))) ((ds[m]).1:Int)).f0.length ∧
  woutL bs (ds.drop m)=(woutL bs (ds.drop (m+1))).set (ds[m]).1 ⟨(rd_T50 (woutL bs (ds.drop (m+1))) ((ds[m]).1:Int)).f0.take (ds[m]).2++(rd_T50 (woutL bs (ds.drop (m+1))) ((ds[m]).1:Int)).f0.drop ((ds[m]).2+1),(rd_T50 (woutL bs (ds.drop (m+1))) ((ds[m]).1:Int)).f1⟩:=by
 have hd:ds.drop m=ds[m]::ds.drop (m+1):=List.drop_eq_getElem_cons hm
 have hp:(ds[m]::ds.drop (m+1)).Pairwise LtP:=hd▸ho.sublist (List.drop_sublist _ _)
 obtain ⟨h1,h2⟩:=hv _ (List.getElem_mem hm)
 rw [hd]
 generalize ds[m]=q at *
 obtain ⟨b,k⟩:=q
 have hn:=lt_not_mem hp
 rw [rd_woutL h1]
 refine ⟨h1,?_,woutL_strike h1 h2 hn⟩
 show k<(opsW bs (ds.drop (m+1)) b (opLen bs b)).length
 have e1:(opsW bs (ds.drop (m+1)) b (k+1)).length=k+1:=opsW_all (fun k' hk'=>hn k' (by omega))
 have e2:∀ m',(opsW bs (ds.drop (m+1)) b (k+1)).length≤(opsW bs (ds.drop (m+1)) b (k+1+m')).length:=by
  intro m'
  induction m' with
  | zero=>exact Nat.le_refl _
  | succ m' ih =>
   refine Nat.le_trans ih ?_
   rw [show k+1+(m'+1)=(k+1+m')+1 from rfl,opsW_succ]
   split
   ·exact Nat.le_refl _
   ·rw [List.length_append];omega
 have e3:=e2 (opLen bs b - (k+1))
 rw [show k+1+(opLen bs b - (k+1))=opLen bs b by have:k<opLen bs b:=h2;omega] at e3
 omega
/-! ### The function of swagelaw17.small -/
def bsT:List S50:=[⟨[⟨1,1,0,0,4,[]⟩,⟨1,2,0,0,5,[]⟩,⟨9,0,1,0,0,[]⟩],⟨3,1,0,0⟩⟩]
theorem t_right:rightF 0 bsT 256=true:=by decide +kernel
theorem t_u0:(gOf bsT).use 0 0=[]:=by decide +kernel
theorem t_u1:(gOf bsT).use 0 1=[]:=by decide +kernel
theorem t_u2:(gOf bsT).use 0 2=[1]:=by decide +kernel
theorem t_s0:(gOf bsT).set 0 0=1:=by decide +kernel
theorem t_s1:(gOf bsT).set 0 1=2:=by decide +kernel
theorem t_s2:(gOf bsT).set 0 2=0:=by decide +kernel
theorem t_t:(gOf bsT).tuse 0=[1]:=by decide +kernel
theorem t_succ:(gOf bsT).succ 0=[]:=by decide +kernel
theorem t_len:(gOf bsT).len 0=3:=rfl
theorem t_at3 {r:Int} : Lv.At (gOf bsT) r 0 3↔r=1:=by
 have h:=Lv.at_end (g:=gOf bsT) (r:=r) (i:=0)
 rw [t_len,t_t,t_succ] at h
 rw [h]
 simp
theorem t_at2 {r:Int} : Lv.At (gOf bsT) r 0 2↔r=1:=by
 rw [Lv.at_iff (by rw [t_len];decide),t_u2,t_s2,t_at3]
 simp only [List.mem_singleton]
 omega
theorem t_at1 {r:Int} : Lv.At (gOf bsT) r 0 1↔r=1:=by
 rw [Lv.at_iff (by rw [t_len];decide),t_u1,t_s1,t_at2]
 simp only [List.not_mem_nil,false_or]
 omega
theorem t_at0 {r:Int} : ¬ Lv.At (gOf bsT) r 0 0:=by
 rw [Lv.at_iff (by rw [t_len];decide),t_u0,t_s0,t_at1]
 simp only [List.not_mem_nil,false_or]
 omega
theorem rise1:Rise [1]:=List.pairwise_singleton _ _
theorem t_row0:liveRow bsT 0 0=[]:=(liveRow_eq (rightF_iff t_right) List.Pairwise.nil (fun r=>⟨fun h=>absurd h (by simp),fun h=>absurd h t_at0⟩)).symm
theorem t_row1:liveRow bsT 0 1=[1]:=(liveRow_eq (rightF_iff t_right) rise1 (fun r=>by rw [List.mem_singleton];exact t_at1.symm)).symm
theorem t_row2:liveRow bsT 0 2=[1]:=(liveRow_eq (rightF_iff t_right) rise1 (fun r=>by rw [List.mem_singleton];exact t_at2.symm)).symm
theorem t_row3:liveRow bsT 0 3=[1]:=(liveRow_eq (rightF_iff t_right) rise1 (fun r=>by rw [List.mem_singleton];exact t_at3.symm)).symm
theorem t_after:afterL bsT 0=[[1],[1],[1]]:=by
 have e:opLen bsT 0=3:=rfl
 unfold afterL
 rw [e]
 show [liveRow bsT 0 (0+1),liveRow bsT 0 (1+1),liveRow bsT 0 (2+1)]=_
 rw [t_row1,t_row2,t_row3]
theorem t_in:inL bsT=[[]]:=by
 show [liveRow bsT 0 0]=_
 rw [t_row0]
theorem t_out:outL bsT=[[]]:=by
 have h:([]:List Int)=outRow bsT 0:=outRow_eq (rightF_iff t_right) List.Pairwise.nil (fun r=>⟨fun h=>absurd h (by simp),fun ⟨j,h,_⟩=>by
  have e:succT (rd_T50 bsT ((0:Nat):Int)).f1=[]:=t_succ
  rw [e] at h
  exact absurd h (by simp)⟩)
 show [outRow bsT 0]=_
 rw [← h]
theorem t_plcs:plcs bsT bsT.length=[(0,0),(0,1),(0,2)]:=by decide +kernel
theorem t_dead:deadL bsT=[(0,1)]:=by
 have p0:pureX (opOf bsT (0,0))=true:=by decide +kernel
 have p1:pureX (opOf bsT (0,1))=true:=by decide +kernel
 have p2:pureX (opOf bsT (0,2))=false:=by decide +kernel
 have d0:(opOf bsT (0,0)).f1=1:=by decide +kernel
 have d1:(opOf bsT (0,1)).f1=2:=by decide +kernel
 have b0:deadB bsT (0,0)=false:=by unfold deadB;rw [p0,d0,t_row1];rfl
 have b1:deadB bsT (0,1)=true:=by unfold deadB;rw [p1,d1,t_row2];rfl
 have b2:deadB bsT (0,2)=false:=by unfold deadB;rw [p2];rfl
 unfold deadL deadP
 rw [t_plcs]
 simp [b0,b1,b2]
theorem t_most {m:Nat} (h:MaxOf (Sizes bsT bsT.length) m):m=1:=by
 have h1:Sizes bsT bsT.length 1:=⟨0,1,by decide,by decide,by rw [t_row1];rfl⟩
 have h2:=h.le 1 h1
 rcases h.is with e|⟨i,k,hi,hk,e⟩
 ·omega
 ·have hi0:i=0:=by
   have:i<1:=hi
   omega
  subst hi0
  have hk3:k≤3:=hk
  have:k=0∨k=1∨k=2∨k=3:=by omega
  rcases this with rfl|rfl|rfl|rfl
  ·rw [t_row0] at e;simp at e;omega
  ·rw [t_row1] at e;exact e
  ·rw [t_row2] at e;exact e
  ·rw [t_row3] at e;exact e
theorem t_wout:woutL bsT [(0,1)]=bsS:=by kernel_rfl
/-! The rest: bsS again. -/
theorem s_at2 {r:Int} : Lv.At (gOf bsS) r 0 2↔r=1:=by
 have h:=Lv.at_end (g:=gOf bsS) (r:=r) (i:=0)
 have e1:(gOf bsS).len 0=2:=rfl
 have e2:(gOf bsS).tuse 0=[1]:=sm_t
 have e3:(gOf bsS).succ 0=[]:=sm_succ
 rw [e1,e2,e3] at h
 rw [h]
 simp
theorem s_at1 {r:Int} : Lv.At (gOf bsS) r 0 1↔r=1:=by
 have e1:(gOf bsS).use 0 1=[1]:=sm_u1
 have e2:(gOf bsS).set 0 1=0:=sm_s1
 rw [Lv.at_iff (show 1<2 by decide),e1,e2,s_at2]
 simp only [List.mem_singleton]
 omega
theorem s_row1:liveRow bsS 0 1=[1]:=(liveRow_eq (rightF_iff sm_right) rise1 (fun r=>by rw [List.mem_singleton];exact s_at1.symm)).symm
theorem s_plcs:plcs bsS bsS.length=[(0,0),(0,1)]:=by decide +kernel
theorem s_dead:deadL bsS=[]:=by
 have p0:pureX (opOf bsS (0,0))=true:=by decide +kernel
 have p1:pureX (opOf bsS (0,1))=false:=by decide +kernel
 have d0:(opOf bsS (0,0)).f1=1:=by decide +kernel
 have b0:deadB bsS (0,0)=false:=by unfold deadB;rw [p0,d0,s_row1];rfl
 have b1:deadB bsS (0,1)=false:=by unfold deadB;rw [p1];rfl
 unfold deadL deadP
 rw [s_plcs]
 simp [b0,b1]
theorem t_sweep {s:List S50} (h:SweepOf bsT s):s=bsS:=by
 have h1:SweepOf bsT bsS:=.step (by rw [t_dead];simp) (by rw [t_dead,t_wout];exact .done s_dead)
 exact h.uniq h1
end Go.Proofs.YtnkgbnbbmcoiiaaGreat.S
