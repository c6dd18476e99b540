import Derived.Test.YtnkgbnbbmcoiiaaGreatObeh
import Derived.WideKeyRuns
import Derived.Test.YtnkgbnbbmcoiiaaGreatOkeys
import Derived.RangeFuncBound
import Derived.RangeFuncCalls
import Derived.Shelf.Abstract
import Derived.Shelf.RegionOpen
import Derived.WalkKit
import Derived.OwnWalkIn
import Derived.TacticsInMore
import Derived.LoopNIn
import Derived.LoopIn
import Derived.Outline
import Derived.RangeFuncNested
import Derived.Deep.LoopGhost
import Derived.TacticsIn
namespace Go.Proofs.YtnkgbnbbmcoiiaaGreat.S
open Go.RowKit Go.IM Go.Proofs.YtnkgbnbbmcoiiaaGreatW.PrintWords Go.Proofs.YtnkgbnbbmcoiiaaGreatW.PrintLast Go.Proofs.YtnkgbnbbmcoiiaaGreatW.PrintMore
open Go.ChangeMaps (setBlock heap_setBlock_same heap_setBlock_other)
set_option linter.unusedVariables false
set_option linter.unusedSimpArgs false
/-! ### A set of pairs: map[[2]int]bool -/
def kv2 (q:Int × Int):Value:=.agg #[.int .i64 q.1,.int .i64 q.2]
theorem eqA68 (d:Nat) (w:World) (x y:Int × Int):(Op.equalIn (d+2) 68 (kv2 x) (kv2 y)).run Tryz.prog w=.ok (x.1 == y.1 && (x.2 == y.2)) w:=by
 obtain ⟨x0,x1⟩:=x
 obtain ⟨y0,y1⟩:=y
 unfold kv2
 have p0:∀ (a b:Int),(part 3 #[.int .i64 a,.int .i64 b] 0).run Tryz.prog w=.ok (.int .i64 a) w:=fun a b=>by go_simp
 have p1:∀ (a b:Int),(part 3 #[.int .i64 a,.int .i64 b] 1).run Tryz.prog w=.ok (.int .i64 b) w:=fun a b=>by go_simp
 have e:∀ (a b:Int),(Op.equalIn (d+1) 3 (.int .i64 a) (.int .i64 b)).run Tryz.prog w=.ok (a == b) w:=fun a b=>by go_simp
 have hs:(sizeOf 3).run Tryz.prog w=.ok 1 w:=by kernel_rfl
 rw [Op.equalIn]
 simp only [Sem.run_bind,run_underlying Tryz.underlying68,Result.andThen_ok,hs]
 by_cases h0:x0=y0<;>by_cases h1:x1=y1<;>simp [List.range',p0,p1,e,Sem.run_bind,Result.andThen_ok,h0,h1]
theorem eq86 (w:World) (x y:Int × Int):(Op.equal 68 (kv2 x) (kv2 y)).run Tryz.prog w=.ok (decide (x=y)) w:=by
 have h:=eqA68 9998 w x y
 have e:(x.1 == y.1 && (x.2 == y.2))=decide (x=y):=by
  obtain ⟨x0,x1⟩:=x
  obtain ⟨y0,y1⟩:=y
  by_cases h0:x0=y0<;>by_cases h1:x1=y1<;>simp [h0,h1]
 rw [e] at h
 exact h
theorem check86 (c:Bool) (w:World) (x:Int × Int):(Instr.checkKey c 10000 68 (kv2 x)).run Tryz.prog w=.ok () w:=by kernel_rfl
/-- The entries are the keys ks,each with true. -/
def KV2 (en:List MapEntry) (ks:List (Int × Int)):Prop:=en.map (fun e=>(e.key,e.val))=ks.map (fun q=>(kv2 q,Value.bool true))
theorem KV2.cons_inv {e:MapEntry} {en:List MapEntry} {ks:List (Int × Int)} (h:KV2 (e::en) ks):∃ q ks',ks=q::ks'∧e.key=kv2 q∧e.val=.bool true∧KV2 en ks':=by
 cases ks with
 | nil=>simp [KV2] at h
 | cons q ks =>
  simp only [KV2,List.map_cons,List.cons.injEq,Prod.mk.injEq] at h
  exact ⟨q,ks,rfl,h.1.1,h.1.2,h.2⟩
theorem find86 (w:World) (x:Int × Int):∀ (en:List MapEntry) (ks:List (Int × Int)) (i:Nat),KV2 en ks→(x∉ks∧(Instr.findAsking 68 (kv2 x) en i).run Tryz.prog w=.ok none w)∨∃ m,ks[m]?=some x∧(Instr.findAsking 68 (kv2 x) en i).run Tryz.prog w=.ok (some (i+m,.bool true)) w
 | [],ks,i,h=>by
  cases ks with
  | nil=>exact .inl ⟨by simp,by simp [Instr.findAsking]⟩
  | cons q ks=>simp [KV2] at h
 | e::en,ks,i,h=>by
  obtain ⟨q,ks',rfl,hk,hv,ht⟩:=h.cons_inv
  by_cases hq:x=q
  ·right
   refine ⟨0,by rw [hq];rfl,?_⟩
   simp [Instr.findAsking,hk,hv,eq86,hq,Result.andThen]
  ·have hr:(Instr.findAsking 68 (kv2 x) (e::en) i).run Tryz.prog w=(Instr.findAsking 68 (kv2 x) en (i+1)).run Tryz.prog w:=by
    simp [Instr.findAsking,hk,eq86,hq,Result.andThen]
   rw [hr]
   rcases find86 w x en ks' (i+1) ht with ⟨h1,h2⟩|⟨m,h1,h2⟩
   ·exact .inl ⟨by simp [hq,h1],h2⟩
   ·exact .inr ⟨m+1,by simpa using h1,by (have e1:i+1+m=i+(m+1):=by omega);rw [h2,e1]⟩
theorem findKey86 (w:World) (x:Int × Int) (en:List MapEntry):(Instr.findKey 68 (kv2 x) en).run Tryz.prog w=(Instr.findAsking 68 (kv2 x) en).run Tryz.prog w :=
 run_findKey_eq w (by kernel_rfl) (kv2 x) en
/-- Block b is a set of those pairs of which S tells. -/
def At2 (w:World) (b:Nat) (S:Int × Int→Prop):Prop:=∃ (en:Array MapEntry) (clock:Nat) (ks:List (Int × Int)),w.heap[b]?=some (.map en clock)∧KV2 en.toList ks∧∀ q,q∈ks↔S q
theorem At2.lt {w:World} {b:Nat} {S:Int × Int→Prop} (h:At2 w b S):b<w.heap.size:=by
 obtain ⟨en,clock,ks,hb,_⟩:=h
 exact (Array.getElem?_eq_some_iff.1 hb).1
theorem At2.below {w w' : World} {b B:Nat} {S:Int × Int→Prop} (h:At2 w b S) (hB:Below B w w') (hb:b<B):At2 w' b S:=by
 obtain ⟨en,clock,ks,hm,r⟩:=h
 exact ⟨en,clock,ks,(hB.block b hb).trans hm,r⟩
theorem At2.made (w:World):At2 (w.alloc (.map #[] 0)) w.heap.size (fun _=>False):=⟨#[],0,[],(MapKept.heap_alloc w _).1,rfl,fun q=>by simp⟩
theorem At2.alloc {w:World} {b:Nat} {S:Int × Int→Prop} (h:At2 w b S) (o:Obj):At2 (w.alloc o) b S:=h.below (below_alloc (Below.refl w.heap.size w) o) h.lt
theorem At2.imp {w:World} {b:Nat} {S T:Int × Int→Prop} (h:At2 w b S) (hs:∀ q,S q↔T q):At2 w b T:=by
 obtain ⟨en,clock,ks,hm,h1,h2⟩:=h
 exact ⟨en,clock,ks,hm,h1,fun q=>(h2 q).trans (hs q)⟩
theorem At2.setCell {w:World} {b:Nat} {S:Int × Int→Prop} (h:At2 w b S) {a:Addr} (ha:b≠a.block) (u:Value):At2 (w.setCell a u) b S:=by
 obtain ⟨en,clock,ks,hm,r⟩:=h
 exact ⟨en,clock,ks,by rw [Below.heap_setCell _ _ _ _ ha];exact hm,r⟩
theorem At2.look {w:World} {b:Nat} {S:Int × Int→Prop} (h:At2 w b S) (x:Int × Int) (r:Bool) (hr:r=true↔S x):(Instr.lookup 113 (.map (some b)) (kv2 x) false).run Tryz.prog w=.ok (.bool r) w:=by
 obtain ⟨en,clock,ks,hb,hkv,hs⟩:=h
 have hz:(zeroValue 4).run Tryz.prog w=.ok (.bool false) w:=by kernel_rfl
 rcases find86 w x en.toList ks 0 hkv with ⟨h1,h2⟩|⟨m,h1,h2⟩
 ·have:r=false:=by
   cases r with
   | false=>rfl
   | true=>exact absurd ((hs x).2 (hr.1 rfl)) h1
  subst this
  simp [Instr.lookup,run_underlying Tryz.underlying113,MapKept.run_getObj_map hb,Result.andThen,check86,findKey86,h2,hz]
 ·have:r=true:=hr.2 ((hs x).1 (List.mem_of_getElem? h1))
  subst this
  simp [Instr.lookup,run_underlying Tryz.underlying113,MapKept.run_getObj_map hb,Result.andThen,check86,findKey86,h2]
theorem At2.update {w:World} {b:Nat} {S:Int × Int→Prop} (h:At2 w b S) (x:Int × Int):∃ w',(Instr.mapUpdate 113 (.map (some b)) (kv2 x) (.bool true)).run Tryz.prog w=.ok () w'∧At2 w' b (fun q=>q=x∨S q)∧w.grownBy w' (some b):=by
 obtain ⟨en,clock,ks,hb,hkv,hs⟩:=h
 rcases find86 w x en.toList ks 0 hkv with ⟨h1,h2⟩|⟨m,h1,h2⟩
 ·refine ⟨setBlock w b (.map (en.push { key:=kv2 x,val:=.bool true,born:=clock }) (clock+1)),?_,⟨_,_,ks++[x],heap_setBlock_same hb _,?_,fun q=>?_⟩,grown_setBlock hb _⟩
  ·simp only [Instr.mapUpdate,Sem.run_bind,run_underlying Tryz.underlying113,MapKept.run_getObj_map hb,Result.andThen,check86,findKey86,h2,MapKept.run_setObj_map _ hb]
   rfl
  ·unfold KV2 at hkv ⊢
   rw [Array.toList_push,List.map_append,List.map_append,hkv]
   rfl
  ·rw [List.mem_append,List.mem_singleton,hs q]
   exact or_comm
 ·rw [Nat.zero_add] at h2
  have hml:m<ks.length:=(List.getElem?_eq_some_iff.1 h1).1
  have hel:en.toList.length=ks.length:=by
   have:=congrArg List.length hkv
   simpa using this
  have he:∃ e,en[m]?=some e∧e.key=kv2 x∧e.val=.bool true:=by
   have:=congrArg (·[m]?) hkv
   simp only [List.getElem?_map,h1,Option.map_some] at this
   have hlt:m<en.size:=by simpa using (show m<en.toList.length by omega)
   rw [← Array.getElem?_toList]
   cases hh:en.toList[m]? with
   | none=>rw [hh] at this;simp at this
   | some e =>
    rw [hh] at this
    simp at this
    exact ⟨e,rfl,this.1,this.2⟩
  obtain ⟨e,he,hek,hev⟩:=he
  have hst:(Instr.keyThatStays (kv2 x) (kv2 x)).run Tryz.prog w=.ok (kv2 x) w:=by
   have:Instr.sameBits 10000 (kv2 x) (kv2 x)=true:=by
    have e1:(10000:Nat)=9998+1+1:=rfl
    rw [e1]
    simp [Instr.sameBits,kv2]
   unfold Instr.keyThatStays
   rw [if_pos this]
   rfl
  refine ⟨setBlock w b (.map (en.modify m fun e=>{ e with key:=kv2 x,val:=.bool true }) clock),?_,⟨_,_,ks,heap_setBlock_same hb _,?_,fun q=>?_⟩,grown_setBlock hb _⟩
  ·simp only [Instr.mapUpdate,Sem.run_bind,run_underlying Tryz.underlying113,MapKept.run_getObj_map hb,Result.andThen,check86,findKey86,h2,he,Option.map_some,Option.getD_some,hek,hst,MapKept.run_setObj_map _ hb]
   rfl
  ·unfold KV2 at hkv ⊢
   rw [← hkv,Array.toList_modify]
   apply List.ext_getElem?
   intro i
   simp only [List.getElem?_map,List.getElem?_modify]
   by_cases hij:m=i
   ·subst hij
    rw [show en.toList[m]?=some e by rw [Array.getElem?_toList];exact he]
    simp [hek,hev]
   ·cases hh:en.toList[i]?<;>simp [hij]
  ·show q∈ks↔q=x∨S q
   rw [← hs q]
   constructor
   ·intro h;exact .inr h
   ·rintro (rfl|h)
    ·exact List.mem_of_getElem? h1
    ·exact h
section
variable {ops:Array Oper} {rest:List Oper} {o:Oper} {a:Act} {Q:Exit→Act→World→Prop} {w:World}
theorem wpl_look2 (hg:o.guard=none) (m x:Operand) (hop:o.op=Op.lookup 113 m x false) (b:Nat) (S:Int × Int→Prop) (hm:a.eval m=.map (some b)) (h:At2 w b S) (k:Int × Int) (hx:a.eval x=kv2 k) (r:Bool) (hr:r=true↔S k)
  (hQ:wpList Tryz.prog ops Q rest (a.put o.dst (.bool r)) w):wpList Tryz.prog ops Q (o::rest) a w:=by
 refine wpList_plain hg fun K' hK'=>?_
 unfold Oper.wp
 simp [execOp,hop,hm,hx,h.look k r hr,Result.andThen]
 exact hK' _ _ hQ
theorem wpl_upd2 (hg:o.guard=none) (m x v:Operand) (hop:o.op=Op.mapUpdate 113 m x v) (b:Nat) (S:Int × Int→Prop) (hm:a.eval m=.map (some b)) (h:At2 w b S) (k:Int × Int) (hx:a.eval x=kv2 k) (hv:a.eval v=.bool true)
  (hQ:∀ w',At2 w' b (fun q=>q=k∨S q)→w.grownBy w' (some b)→wpList Tryz.prog ops Q rest (a.put o.dst undef) w'):wpList Tryz.prog ops Q (o::rest) a w:=by
 refine wpList_plain hg fun K' hK'=>?_
 obtain ⟨w',hrun,h1,h2⟩:=h.update k
 unfold Oper.wp
 simp [execOp,hop,hm,hx,hv,hrun,Result.andThen]
 exact hK' _ _ (hQ w' h1 h2)
end
end Go.Proofs.YtnkgbnbbmcoiiaaGreat.S
namespace Go.Proofs.YtnkgbnbbmcoiiaaGreat.S
open Go.RowKit Go.Shelf Go.IM Go.Proofs.YtnkgbnbbmcoiiaaGreatW.PrintWords Go.Proofs.YtnkgbnbbmcoiiaaGreatW.PrintLast Go.Proofs.YtnkgbnbbmcoiiaaGreatW.PrintMore
set_option linter.unusedVariables false
attribute [local go_sem] Oper.semAt_some
/-- The operation at a place. -/
def opOf (bs:List S50) (p:Nat × Nat):S45:=rd_T45 (rd_T50 bs (p.1:Int)).f0 (p.2:Int)
def opLen (bs:List S50) (i:Nat):Nat:=(rd_T50 bs (i:Int)).f0.length
/-- The places of the first i blocks' operations. -/
def plcs (bs:List S50) (i:Nat):List (Nat × Nat):=(List.range i).flatMap fun j=>(List.range (opLen bs j)).map fun k=>(j,k)
def rowP (i k:Nat):List (Nat × Nat):=(List.range k).map fun j=>(i,j)
theorem rowP_zero (i:Nat):rowP i 0=[]:=rfl
theorem rowP_succ (i k:Nat):rowP i (k+1)=rowP i k++[(i,k)]:=by unfold rowP;rw [List.range_succ,List.map_append];rfl
theorem plcs_succ (bs:List S50) (i:Nat):plcs bs (i+1)=plcs bs i++rowP i (opLen bs i):=by
 unfold plcs rowP
 rw [List.range_succ,List.flatMap_append]
 simp
theorem plcs_prefix (bs:List S50):∀ m i,∃ rest,plcs bs (i+m)=plcs bs i++rest
 | 0,i=>⟨[],by simp⟩
 | m+1,i=>by
  obtain ⟨rest,h⟩:=plcs_prefix bs m i
  exact ⟨rest++rowP (i+m) (opLen bs (i+m)),by rw [← Nat.add_assoc,plcs_succ,h,List.append_assoc]⟩
theorem rowP_prefix (i:Nat):∀ m k,∃ rest,rowP i (k+m)=rowP i k++rest
 | 0,k=>⟨[],by simp⟩
 | m+1,k=>by
  obtain ⟨rest,h⟩:=rowP_prefix i m k
  exact ⟨rest++[(i,k+m)],by rw [← Nat.add_assoc,rowP_succ,h,List.append_assoc]⟩
theorem part_prefix {bs:List S50} {i k:Nat} (hi:i<bs.length) (hk:k≤opLen bs i):∃ rest,plcs bs bs.length=plcs bs i++rowP i k++rest:=by
 obtain ⟨m,hm⟩:∃ m,bs.length=(i+1)+m:=⟨bs.length - (i+1),by omega⟩
 obtain ⟨r1,h1⟩:=plcs_prefix bs m (i+1)
 obtain ⟨j,hj⟩:∃ j,opLen bs i=k+j:=⟨opLen bs i - k,by omega⟩
 obtain ⟨r2,h2⟩:=rowP_prefix i j k
 exact ⟨r2++r1,by rw [hm,h1,plcs_succ,hj,h2];simp⟩
theorem part_len {bs:List S50} {i k:Nat} (hi:i<bs.length) (hk:k<opLen bs i):(plcs bs i++rowP i k).length<(plcs bs bs.length).length:=by
 obtain ⟨rest,h⟩:=part_prefix hi (Nat.succ_le_of_lt hk)
 rw [h,rowP_succ]
 simp
theorem mem_plcs {bs:List S50} {i j k:Nat} : (j,k)∈plcs bs i↔j<i∧k<opLen bs j:=by
 unfold plcs
 simp [List.mem_flatMap,List.mem_range,List.mem_map,Prod.mk.injEq]
/-- What an iterator over a function's operations reads. -/
structure OpsF (wr:World) (Bs:Nat) (A:Option Addr) (c:Nat) (bs:List S50) (bg:Nat→Option Addr × Nat) (oo:Nat→Nat→Option Addr × Nat):Prop where mk ::
 box:wr.cell? ⟨Bs,1,none⟩=some (.slice A bs.length c)
 blks:BlksAt wr A bs bg
 ops:∀ i,i<bs.length→OpsAt wr (bg i).1 (rd_T50 bs (i:Int)).f0 (oo i)
/-- What goes out. -/
def opsV (bs:List S50) (oo:Nat→Nat→Option Addr × Nat) (p:Nat × Nat):Array Value:=#[opV (opOf bs p) (oo p.1 p.2)]
set_option maxRecDepth 100000 in
set_option maxHeartbeats 4000000 in
theorem ops1_in (n:Nat) (hn:1≤n) (l Bs:Nat) (A:Option Addr) (c:Nat) (bs:List S50) (bg:Nat→Option Addr × Nat) (oo:Nat→Nat→Option Addr × Nat) (hlen:bs.length≤1000000000000)
  (Kp:World→World→Prop) (hKt:∀ {A B C:World},Kp A B→Kp B C→Kp A C) (hKb:∀ {A B:World},Below A.heap.size A B→Kp A B)
  (J Jx:List (Nat × Nat)→World→Prop) (hJ:∀ s A B,J s A→Below A.heap.size A B→J s B)
  (hY:∀ pre x W,J pre W→pre.length<(plcs bs bs.length).length→YieldAt Fence.wide (n - 1) Tryz.prog l (opsV bs oo x) W fun e W' =>
   (e=.returned (.bool true)∧J (pre++[x]) W'∧Kp W W')∨(e=.returned (.bool false)∧Jx (pre++[x]) W'))
  (W:World) (hF:∀ wr,Kp W wr→OpsF wr Bs A c bs bg oo) (h0:J [] W) :
  CallsIn Fence.wide n Tryz.prog 97 #[.func (.yield l) #[] #[],.pointer (some ⟨Bs,0,none⟩)] W fun e W'=>(∃ v,e=.returned v) ∧
   ((∃ ys,ys=plcs bs bs.length∧J ys W')∨(∃ pre,(∃ rest,plcs bs bs.length=pre++rest)∧Jx pre W')):=by
 have hu43:=Tryz.underlying50
 have hu45:=Tryz.underlying45
 have hu41:=Tryz.underlying48
 have hu34:=Tryz.underlying24
 have hbox:=(hF W (hKb (Below.refl _ _))).box
 have HF:=Aside0.mk hF
 have HY:=Aside0.mk hY
 have HJ:=Aside0.mk hJ
 have HKT:=Aside0.mk @hKt
 have HKB:=Aside0.mk @hKb
 clear hF hY hJ hKt hKb
 refine callsIn_of_wp Tryz.func97 rfl trivial ?_ rfl
 simp only [Tryz.ntmps97,List.size_toArray,List.length_cons,List.length_nil,Nat.reduceAdd,Nat.reduceSub,Array.replicate_succ,Array.replicate_zero,List.push_toArray,List.append_toArray,List.nil_append,List.cons_append]
 gi_wp2
 clear hbox
 gi_loopw [10] (fun i wr=>∃ k:Nat,k≤bs.length∧i=.int .i64 (k:Int)∧Aside0 (J (plcs bs k) wr)∧Aside0 (Kp W wr))
  (fun i _=>bs.length - (intOf i).toNat)
 case atStart=>exact ⟨0,Nat.zero_le _,rfl,⟨h0⟩,⟨HKB.out (Below.refl _ _)⟩⟩
 case round =>
  obtain ⟨k,hk,rfl,HJs,HK⟩:=hrel
  by_cases hlt:k<bs.length
  ·have b1:decide ((k:Int)<(bs.length:Int))=true:=decide_eq_true (by omega)
   have HFr:=Aside0.mk (HF.out wr HK.out)
   obtain ⟨⟨ad,eA,k0,k1,k2,k3,k4⟩,_,hrow⟩:=HFr.out.blks k hlt
   have hLm:opLen bs k≤9223372036854775807:=hrow.2.1
   clear hrow
   have hLe:(rd_T50 bs (k:Int)).f0.length=opLen bs k:=rfl
   rw [hLe] at k0
   obtain ⟨L,hL⟩:∃ L,opLen bs k=L:=⟨_,rfl⟩
   obtain ⟨GA,GC,hG⟩:∃ GA GC,bg k=(GA,GC):=⟨_,_,rfl⟩
   have HPL:Aside0 (opLen bs k=L):=⟨hL⟩
   have HPG:Aside0 (bg k=(GA,GC)):=⟨hG⟩
   rw [hL,hG] at k0
   rw [hL] at hLm
   simp only at k0
   generalize (rd_T50 bs (k:Int)).f1=tm at k1 k2 k3 k4
   clear hLe hL hG
   subst eA
   gi_wp2_with fail
   have HB1:=Aside0.mk (below_alloc (Below.refl wr.heap.size wr) (.cells #[.slice GA L GC,.int .i64 tm.f0,.int .i64 tm.f1,.int .i64 tm.f2,.int .i64 tm.f3] 50))
   gi_loopw [17] (fun i wr=>∃ j:Nat,j≤L∧i=.int .i64 (j:Int)∧Aside0 (J (plcs bs k++rowP k j) wr)∧Aside0 (Kp W wr))
    (fun i _=>L - (intOf i).toNat)
   case atStart=>exact ⟨0,Nat.zero_le _,rfl,⟨by rw [rowP_zero,List.append_nil];exact HJ.out _ _ _ HJs.out HB1.out⟩,⟨HKT.out HK.out (HKB.out HB1.out)⟩⟩
   case round =>
    obtain ⟨j,hj,rfl,HJq,HKq⟩:=hrel
    by_cases hlq:j<L
    ·have b1:decide ((j:Int)<(L:Int))=true:=decide_eq_true (by omega)
     have hop:=(HF.out wr HKq.out).ops k hlt j (by show j<opLen bs k;rw [HPL.out];exact hlq)
     rw [HPG.out] at hop
     simp only at hop
     have HPX:Aside0 (rd_T45 (rd_T50 bs (k:Int)).f0 (j:Int)=opOf bs (k,j)):=⟨rfl⟩
     rw [HPX.out] at hop
     obtain ⟨⟨ad,eA,x0,x1,x2,x3,x4,x5⟩,_,_⟩:=hop
     have hyy:=HY.out (plcs bs k++rowP k j) (k,j)
     unfold opsV opV at hyy
     have HPS:Aside0 (plcs bs k++rowP k (j+1)=(plcs bs k++rowP k j)++[(k,j)]):=⟨by rw [rowP_succ,List.append_assoc]⟩
     have hpl:(plcs bs k++rowP k j).length<(plcs bs bs.length).length:=part_len hlt (by rw [HPL.out];exact hlq)
     have hrest:∃ rest,plcs bs bs.length=(plcs bs k++rowP k j)++[(k,j)]++rest:=by
      obtain ⟨rest,hr⟩:=part_prefix (bs:=bs) (k:=j+1) hlt (by rw [HPL.out];exact hlq)
      exact ⟨rest,by rw [hr,HPS.out]⟩
     have HRE:=Aside0.mk hrest
     clear hrest HPX
     simp only [] at hyy
     generalize opOf bs (k,j)=x at x0 x1 x2 x3 x4 x5 hyy
     generalize oo k j=g at x5 hyy
     obtain ⟨W1,hW1⟩:∃ W1,wr.alloc (.cells #[.int .i64 x.f0,.int .i64 x.f1,.int .i64 x.f2,.int .i64 x.f3,.int .i64 x.f4,.slice g.1 x.f5.length g.2] 45)=W1:=⟨_,rfl⟩
     have hb1:Below wr.heap.size wr W1:=by rw [← hW1];exact below_alloc (Below.refl _ _) _
     have hbx:=blk_new wr (.cells #[.int .i64 x.f0,.int .i64 x.f1,.int .i64 x.f2,.int .i64 x.f3,.int .i64 x.f4,.slice g.1 x.f5.length g.2] 45)
     rw [hW1] at hbx
     obtain ⟨fn,tmps,assign,body,hy,hR⟩:=hyy W1 (HJ.out _ _ _ HJq.out hb1) hpl
     rw [← hW1] at hy hR hbx hb1
     have HR:=Aside0.mk hR
     have HB2:=Aside0.mk hb1
     clear hW1 hR hb1 hyy hpl hbx
     subst eA
     gi_wp2
     refine HR.out.mono ?_
     rintro e W3 (⟨rfl,hJ3,hk3⟩|⟨rfl,hJx3⟩)
     ·have HK3:=Aside0.mk (HKT.out HKq.out (HKT.out (HKB.out HB2.out) hk3))
      have HJ3:=Aside0.mk hJ3
      clear hy hk3 hJ3 x0 x1 x2 x3 x4 x5
      gi_wp2
      go_roundw
      case rel=>exact ⟨j+1,by omega,by go_num,⟨by rw [HPS.out];exact HJ3.out⟩,HK3⟩
      case measure=>(simp [intOf];try omega)
     ·gi_wp2
      refine bodyPost_ret (results_none rfl _ _ _) rfl ?_
      exact ⟨⟨_,rfl⟩,.inr ⟨_,HRE.out,hJx3⟩⟩
    ·have b1:decide ((j:Int)<(L:Int))=false:=decide_eq_false (by omega)
     have hj' : j=L:=by omega
     gi_wp2
     go_roundw
     case rel=>exact ⟨k+1,by omega,by go_num,⟨by rw [plcs_succ,HPL.out,← hj'];exact HJq.out⟩,HKq⟩
     case measure=>(simp [intOf];try omega)
  ·have b1:decide ((k:Int)<(bs.length:Int))=false:=decide_eq_false (by omega)
   have hk' : k=bs.length:=by omega
   gi_wp2
   go_end0
   exact ⟨⟨_,rfl⟩,.inl ⟨_,by rw [hk'],HJs.out⟩⟩
set_option maxHeartbeats 2000000 in
/-- ops: one box;the function value captures it. -/
theorem ops_in (n:Nat) (p:Int) (A:Option Addr) (len cap:Nat) (w:World) :
  CallsIn Fence.wide n Tryz.prog 75 #[.agg #[.int .i64 p,.slice A len cap]] w fun e w'=>e=.returned (.func (.func 97) #[] #[.pointer (some ⟨w.heap.size,0,none⟩)])∧w'=w.alloc (.cells #[.int .i64 p,.slice A len cap] 24):=by
 have hu34:=Tryz.underlying24
 refine callsIn_of_wp Tryz.func75 rfl trivial ?_ rfl
 simp only [Tryz.ntmps75,List.size_toArray,List.length_cons,List.length_nil,Nat.reduceAdd,Nat.reduceSub,Array.replicate_succ,Array.replicate_zero,List.push_toArray,List.append_toArray,List.nil_append,List.cons_append]
 gi_wp2
 go_ret
 exact ⟨rfl,rfl⟩
/-- ops(f) hands back a value that stops as it should,whatever a round does,if it keeps what is read. -/
theorem ops_stops (n:Nat) (hn:1≤n) (Bs:Nat) (A:Option Addr) (c:Nat) (bs:List S50) (bg:Nat→Option Addr × Nat) (oo:Nat→Nat→Option Addr × Nat) (hlen:bs.length≤1000000000000) (Kp:World→World→Prop) (hKt:∀ {A B C:World},Kp A B→Kp B C→Kp A C) (hKb:∀ {A B:World},Below A.heap.size A B→Kp A B) (w:World)
  (hF:∀ W wr,Below w.heap.size w W→Kp W wr→OpsF wr Bs A c bs bg oo) :
  SeqStopsK Fence.wide n Tryz.prog 97 #[.pointer (some ⟨Bs,0,none⟩)] (opsV bs oo) Kp (fun ys=>ys=plcs bs bs.length) (fun pre=>∃ rest,plcs bs bs.length=pre++rest) (plcs bs bs.length).length w:=fun l J Jx W hW hJ _ hY h0 =>
 ops1_in n hn l Bs A c bs bg oo hlen Kp hKt hKb J Jx (fun s A B hj hk=>hJ s A B none hj ⟨hk.os,hk.tape,hk.output,hk.size,fun j hj _=>hk.block j hj⟩ (by simp)) hY W (fun wr hk=>hF W wr hW hk) h0
end Go.Proofs.YtnkgbnbbmcoiiaaGreat.S
namespace Go
open Go.RowKit Go.IM
set_option linter.unusedVariables false
/-! ### A range over a function whose body may make maps and hand them on: what must abide asks nothing of maps -/
def isBook:Obj→Bool
 | .loop _=>true
 | .deferred _=>true
 | _=>false
/-- What abides where memory grows,and where book-keeping at or beyond B turns. -/
structure BookFrom {β:Type} (B:Nat) (I:β→World→Prop):Prop where
 below:∀ (s:β) (X Y:World),I s X→Below X.heap.size X Y→I s Y
 book:∀ (s:β) (X:World) (l:Nat) (o o' : Obj),I s X→B≤l→X.heap[l]?=some o→isBook o=true→I s (X.putObj l o')
theorem BookFrom.al {β:Type} {B:Nat} {I:β→World→Prop} (h:BookFrom B I) {s:β} {X:World} {o:Obj} (hx:I s X):I s (X.alloc o):=h.below _ _ _ hx ((Below.refl _ X).alloc (Nat.le_refl _) o)
theorem BookFrom.and {β:Type} {B:Nat} {I J:β→World→Prop} (h:BookFrom B I) (k:BookFrom B J):BookFrom B (fun s W=>I s W∧J s W) :=
 ⟨fun s X Y hs hb=>⟨h.below s X Y hs.1 hb,k.below s X Y hs.2 hb⟩,fun s X l o o' hs hB ho hb=>⟨h.book s X l o o' hs.1 hB ho hb,k.book s X l o o' hs.2 hB ho hb⟩⟩
theorem BookFrom.pure {β:Type} (B:Nat) (p:β→Prop):BookFrom B (fun s (_:World)=>p s):=⟨fun _ _ _ h _=>h,fun _ _ _ _ _ h _ _ _=>h⟩
theorem BookFrom.ex {β γ:Type} {B:Nat} {I:γ→β→World→Prop} (h:∀ g,BookFrom B (I g)):BookFrom B (fun s W=>∃ g,I g s W) :=
 ⟨fun s X Y hs hb=>by obtain ⟨g,hg⟩:=hs;exact ⟨g,(h g).below s X Y hg hb⟩,fun s X l o o' hs hB ho hb=>by obtain ⟨g,hg⟩:=hs;exact ⟨g,(h g).book s X l o o' hg hB ho hb⟩⟩
theorem not_cells_of_book {o:Obj} (h:isBook o=true):o.isCells=false:=by cases o<;>first|rfl|cases h
/-- What lies where it lay,as cells. -/
theorem BookFrom.cells {β:Type} (B:Nat) (f:β→Nat) (g:β→Obj) (hg:∀ s,(g s).isCells=true):BookFrom B (fun s W=>W.heap[f s]?=some (g s)) :=
 ⟨fun s X Y hs hb=>(hb.block _ (Array.getElem?_eq_some_iff.1 hs).1).trans hs,fun s X l o o' hs hB ho hb=>(World.putObj_heap_other (fun e=>by
  subst e
  rw [hs] at ho
  cases ho
  have:=not_cells_of_book hb
  rw [hg] at this
  cases this)).trans hs⟩
theorem BookFrom.boxed {β:Type} (B:Nat) (b:Nat) (t:TypeId) (f:β→Value):BookFrom B (fun s W=>Boxed W b t (f s)):=BookFrom.cells B (fun _=>b) _ (fun _=>rfl)
theorem grown_put {W:World} {l:Nat} {o' : Obj} : W.grownBy (W.putObj l o') (some l):=grownBy_putObj' W l o'
theorem BookFrom.belowB {β:Type} {B S:Nat} {w:World} (hS:S≤B) (hw:S≤w.heap.size):BookFrom B (fun (_:β) W=>Below S w W) :=
 ⟨fun s X Y hs hb=>⟨hb.os.trans hs.os,hb.tape.trans hs.tape,hb.output.trans hs.output,Nat.le_trans hs.size hb.size,fun k hk=>(hb.block k (by have:=hs.size;omega)).trans (hs.block k hk)⟩,fun s X l o o' hs hB ho hb=>hs.grown grown_put (Nat.le_trans hw hs.size) (fun k e=>by cases e;omega)⟩
theorem BookFrom.ke {β:Type} {B lo hi:Nat} {w:World} : BookFrom B (fun (_:β) W=>KE lo hi w W) :=
 ⟨fun s X Y hs hb=>hs.trans (KE.of_below hb),fun s X l o o' hs hB ho hb=>hs.trans (KE.putObj X l o' ho (not_cells_of_book hb))⟩
theorem BookFrom.kc {β:Type} {B:Nat} {w:World} : BookFrom B (fun (_:β) W=>KC w W) :=
 ⟨fun s X Y hs hb=>hs.trans (KC.of_below hb),fun s X l o o' hs hB ho hb=>hs.trans (KC.of_grown grown_put (fun o2 h2=>by rw [ho] at h2;cases h2;exact not_cells_of_book hb))⟩
theorem IM.At.book {W:World} {b:Nat} {es:List (Int × Value)} (h:IM.At W b es) {l:Nat} {o:Obj} (o' : Obj) (ho:W.heap[l]?=some o) (hb:isBook o=true):IM.At (W.putObj l o') b es :=
 h.kept grown_put (fun e=>by
  have e' : b=l:=by injection e
  subst e'
  obtain ⟨en,ck,hm,_⟩:=h
  rw [hm] at ho
  cases ho
  cases hb)
theorem BookFrom.at {β:Type} (B:Nat) (f:β→Nat) (g:β→List (Int × Value)):BookFrom B (fun s W=>IM.At W (f s) (g s)) :=
 ⟨fun s X Y hs hb=>hs.below hb hs.lt,fun s X l o o' hs hB ho hb=>hs.book o' ho hb⟩
/-- The body's word: book-keeping at or beyond B lies as it lay. -/
structure KB (B:Nat) (W W' : World):Prop where
 size:W.heap.size≤W'.heap.size
 same:∀ (k:Nat) (o:Obj),B≤k→W.heap[k]?=some o→isBook o=true→W'.heap[k]?=some o
theorem KB.refl (B:Nat) (W:World):KB B W W:=⟨Nat.le_refl _,fun _ _ _ h _=>h⟩
theorem KB.trans {B:Nat} {X Y Z:World} (h:KB B X Y) (k:KB B Y Z):KB B X Z:=⟨Nat.le_trans h.size k.size,fun i o hB hi ho=>k.same i o hB (h.same i o hB hi ho) ho⟩
theorem KB.of_below {B:Nat} {X Y:World} (h:Below X.heap.size X Y):KB B X Y:=⟨h.size,fun i o _ hi _=>(h.block i (Array.getElem?_eq_some_iff.1 hi).1).trans hi⟩
theorem KB.of_grown {B:Nat} {X Y:World} {b:Nat} (hg:X.grownBy Y (some b)) (hb:∀ o,X.heap[b]?=some o→isBook o=false):KB B X Y :=
 ⟨hg.size,fun i o _ hi ho=>(hg.block i (Array.getElem?_eq_some_iff.1 hi).1 (fun e=>by cases e;rw [hb o hi] at ho;cases ho)).trans hi⟩
theorem KB.of_at {B:Nat} {X Y:World} {b:Nat} {es:List (Int × Value)} (hg:X.grownBy Y (some b)) (h:IM.At X b es):KB B X Y :=
 .of_grown hg (fun o ho=>by obtain ⟨en,ck,hm,_⟩:=h;rw [hm] at ho;cases ho;rfl)
theorem KB.setCell {B:Nat} (X:World) (p:Addr) (v:Value) {cs:Array Value} {t:TypeId} {f:Nat × Nat} (h:X.heap[p.block]?=some (.cells cs t f)):KB B X (X.setCell p v) :=
 ⟨(KeepsWalks.setCell X p v).size,fun i o _ hi ho=>(Below.heap_setCell X p v i (fun e=>by subst e;rw [h] at hi;cases hi;cases ho)).trans hi⟩
theorem BookFrom.kb {β:Type} {B S:Nat} {w:World} (hw:w.heap.size≤B):BookFrom B (fun (_:β) W=>KB S w W) :=
 ⟨fun s X Y hs hb=>hs.trans (KB.of_below hb),fun s X l o o' hs hB ho hb=>⟨by have:=hs.size;simp [World.putObj];omega,fun k o2 hk h2 h3=>(World.putObj_heap_other (fun e=>by have:=(Array.getElem?_eq_some_iff.1 h2).1;omega)).trans (hs.same k o2 hk h2 h3)⟩⟩
/-- How the body of a round may be left. -/
def ownPostB {α:Type} (B:Nat) (Kp:World→World→Prop) (I:List α→World→Prop) (Ix:Code→List α→World→Prop) (xs:List α) (W:World):Exit→Act→World→Prop
 | .normal,_,W'=>KB B W W'∧Kp W W'∧I xs W'
 | .ret,_,W'=>KB B W W'∧Ix .ret xs W'
 | .exit id,_,W'=>KB B W W'∧Ix (.exit id) xs W'
 | .goto t,_,W'=>KB B W W'∧Ix (.goto t) xs W'
 | .panic _,_,_=>False
 | .outgrown,_,_=>False
/-- A loop whose measure stands in no slot. -/
theorem wpIn_loop_ghostB {F:Fence} {n:Nat} {P:Program} {Q:Exit→Act→World→Prop} {a:Act} {w:World} {c:Code} (I:Nat→Act→World→Prop) (n₀:Nat) (h₀:I n₀ a w)
  (round:∀ k a w,I k a w→c.wpIn F n P (Exit.then (fun a' w'=>∃ j,j<k∧I j a' w') Q) a w):(Code.loop c).wpIn F n P Q a w:=by
 refine wpIn_loop (fun a w=>∃ k,I k a w) (fun a w=>leastOf fun k=>I k a w) ⟨n₀,h₀⟩ ?_
 intro a w h
 obtain ⟨h1,h2⟩:=leastOf_spec h
 refine Code.wpIn_mono (fun e a' w' he=>?_) (round _ a w h1)
 cases e with
 | normal =>
  obtain ⟨j,hj,hI⟩:=he
  exact ⟨⟨j,hI⟩,Nat.lt_of_le_of_lt ((leastOf_spec ⟨j,hI⟩).2 j hI) hj⟩
 | _=>exact he
/-- An iterator that does what it should for whatever abides where memory grows. -/
def SeqB {α:Type} (F:Fence) (n:Nat) (P:Program) (g:Nat) (lb:Array Value) (encs:α→Array Value) (Kp:World→World→Prop) (S Sp:List α→Prop) (Nx:List α→α→Prop) (w:World):Prop :=
 ∀ (l:Nat) (J Jx:List α→World→Prop) (W:World),Below w.heap.size w W→(∀ s A B,J s A→Below A.heap.size A B→J s B) →
  (∀ pre x W1,J pre W1→Nx pre x→YieldAt F (n - 1) P l (encs x) W1 fun e W' =>
   (e=.returned (.bool true)∧J (pre++[x]) W'∧Kp W1 W')∨(e=.returned (.bool false)∧Jx (pre++[x]) W')) →
  J [] W →
  CallsIn F n P g (#[.func (.yield l) #[] #[]]++lb) W fun e W'=>(∃ v,e=.returned v)∧((∃ xs,S xs∧J xs W')∨(∃ pre,Sp pre∧Jx pre W'))
theorem SeqB.inRound {α:Type} {F:Fence} {n:Nat} {P:Program} {g:Nat} {lb:Array Value} {encs:α→Array Value} {Kp:World→World→Prop} {S Sp:List α→Prop} {Nx:List α→α→Prop} {w₀:World} (l:Nat)
  (h:SeqB F n P g lb encs Kp S Sp Nx w₀):SeqB (F.inRound l) n P g lb encs Kp S Sp Nx w₀:=h
variable {F:Fence} {n:Nat} {P:Program}
/-- **(L4),WHERE THE BODY IS TOLD OF ITS OWN LOOP's RECORD** (a loop within it wants that). -/
theorem wpIn_rangeFunc_H {α:Type} {g:Operand} {ps:Array Tmp} {assign body:Code} {Q:Exit→Act→World→Prop} {a:Act} {w:World}
  (hro:F.round=none) (h1:1≤n) {gf:Nat} {lb:Array Value} (hg:a.eval g=.func (.func gf) #[] lb) (hFg:F.fn gf) (eg:∀ args w,(callFunc gf args).run P w=.ok (.enter gf args) w)
  {encs:α→Array Value} {Kp:World→World→Prop} {S Sp:List α→Prop} {Nx:List α→α→Prop} {w0:World} (hseq:SeqB F (n - 1) P gf lb encs Kp S Sp Nx w0)
  (hKt:∀ {A B C:World},Kp A B→Kp B C→Kp A C) (hKb:∀ (W:World) (l:Nat) (o o' : Obj),w.heap.size≤l→W.heap[l]?=some o→isBook o=true→Kp W (W.putObj l o')) (hb0:Below w0.heap.size w0 w) (hps:∀ x,(encs x).size=ps.size)
  (I:List α→World→Prop) (Ix:Code→List α→World→Prop) (hI:BookFrom w.heap.size I) (hIx:∀ c,BookFrom w.heap.size (Ix c)) (h0:I [] w) (Ax:α→Act→World→Prop) (hAx:∀ x a',BookFrom w.heap.size (fun (_:Unit) W=>Ax x a' W))
  (hassign:∀ (l:Nat) (pre:List α) (x:α) (W:World) (K:Act→World→Prop),I pre W→(∀ a' W',KB w.heap.size W W'→Kp W W'→I pre W'→Ax x a' W'→K a' W') →
   assign.wpIn (F.inRound l) (n - 1 - 1) P (Exit.then K (fun _ _ _=>False)) { tmps:=(ps.zip (encs x)).foldl (fun t (p,v)=>t.setIfInBounds p v) a.tmps,defers:=[] } W)
  (hbody:∀ (l:Nat) (pre:List α) (x:α) (a' : Act) (W:World),w.heap.size≤l→(∃ r,W.heap[l]?=some (.loop r))→I pre W→Ax x a' W→Nx pre x→body.wpIn (F.inRound l) (n - 1 - 1) P (ownPostB w.heap.size Kp I Ix (pre++[x]) W) a' W)
  (hdone:∀ (D:Nat) (xs:List α) (W:World),w.heap.size≤D→S xs→I xs W→W.heap[D]?=some (.deferred (some []))→Q .normal { a with defers:={ target:=.collected D,args:=#[] }::a.defers } W)
  (hstop:∀ (D:Nat) (c:Code) (pre:List α) (W:World),w.heap.size≤D→Sp pre→Ix c pre W→W.heap[D]?=some (.deferred (some []))→c.wpIn F n P Q { a with defers:={ target:=.collected D,args:=#[] }::a.defers } W) :
  (Code.rangeFunc g ps assign body).wpIn F n P Q a w:=by
 refine wpIn_rangeFunc ?_
 intro fn hfn
 rw [hro]
 obtain ⟨rec,hrec⟩:∃ rec:LoopState→Option Code→Loop,rec=fun st pe=>{ state:=st,pending:=pe,fn,tmps:=a.tmps,params:=ps,assign,body,defers:=w.heap.size }:=⟨_,rfl⟩
 obtain ⟨W1,hW1⟩:∃ W1,(w.alloc (.deferred (some []))).alloc (.loop (rec .ready none))=W1:=⟨_,rfl⟩
 have hL1:W1.heap[w.heap.size+1]?=some (.loop (rec .ready none)):=by
  rw [← hW1];have:=World.alloc_heap_new (w.alloc (.deferred (some []))) (.loop (rec .ready none));rwa [World.size_alloc] at this
 have hK1:W1.heap[w.heap.size]?=some (.deferred (some [])):=by
  rw [← hW1];exact (Below.heap_alloc _ _ _ (by simp)).trans (World.alloc_heap_new w _)
 have hI1:I [] W1:=by rw [← hW1];exact hI.al (hI.al h0)
 have hb1:Below w0.heap.size w0 W1:=by
  rw [← hW1];exact hb0.trans ((((Below.refl _ w).alloc (Nat.le_refl _) _).alloc (by simp) _).mono hb0.size)
 refine ⟨w.heap.size+1,[{ target:=.collected w.heap.size,args:=#[] }],W1,{ target:=.fn (.func gf) lb,args:=#[.func (.yield (w.heap.size+1)) #[] #[]] },W1,gf,
  #[.func (.yield (w.heap.size+1)) #[] #[]]++lb,W1,?_,?_,?_,?_,fun _=>h1,?_⟩
 ·rw [← hW1,hrec];exact run_enterLoop_outer _ _ _ _ _
 ·simp only [resolve,hg]
  simp [go_sem]
 ·intro f' hf';simp [Target.leads] at hf';subst hf';exact hFg
 ·simp [invoke,go_sem,eg]
 ·-- THE ITERATOR's CONTRACT,AT THE CALLER's INVARIANT WITH THE TWO FACTS OF BOOK-KEEPING BESIDE IT
  refine (hseq (w.heap.size+1)
   (fun pre W=>I pre W∧W.heap[w.heap.size+1]?=some (.loop (rec .ready none))∧W.heap[w.heap.size]?=some (.deferred (some [])))
   (fun pre W=>∃ c,Ix c pre W∧W.heap[w.heap.size+1]?=some (.loop (rec .done (some c)))∧W.heap[w.heap.size]?=some (.deferred (some [])))
   W1 hb1
   (fun s A B hs hb=>⟨hI.below _ _ _ hs.1 hb,(hb.block _ (Array.getElem?_eq_some_iff.1 hs.2.1).1).trans hs.2.1,(hb.block _ (Array.getElem?_eq_some_iff.1 hs.2.2).1).trans hs.2.2⟩)
   ?_ ⟨hI1,hL1,hK1⟩).mono ?_
  ·-- ONE ROUND
   rintro pre x W ⟨hi,hl,hk⟩ hlen
   have hlt:w.heap.size+1<W.heap.size:=(Array.getElem?_eq_some_iff.1 hl).1
   have hy:=run_yield (P:=P) (args:=encs x) hl (by rw [hrec];exact hps x)
   rw [hrec] at hy
   refine ⟨fn,_,assign,body,hy,roundIn_of_wpIn hfn (hassign _ pre x W _ hi ?_)⟩
   clear hy
   intro a' Wa hkfa hkpa hia hax
   -- THE ASSIGN CODE MAY HAVE LAID BLOCKS (a loop variable that an inner function captures is boxed): the two blocks of book-keeping lie as they lay
   replace hl:=hkfa.same _ _ (by omega) hl rfl
   replace hk:=hkfa.same _ _ (Nat.le_refl _) hk rfl
   replace hlt:w.heap.size+1<Wa.heap.size:=(Array.getElem?_eq_some_iff.1 hl).1
   replace hi:=hia
   clear hia
   revert hkpa hkfa
   generalize W=Wb
   intro hkfa hkpa
   obtain ⟨W,rfl⟩:∃ W,W=Wa:=⟨_,rfl⟩
   refine ⟨_,run_beginRound hl (by rw [hrec]),?_⟩
   have hl2:(W.putObj (w.heap.size+1) (.loop { rec .ready none with state:=.busy })).heap[w.heap.size+1]?=some (.loop { rec .ready none with state:=.busy }):=World.putObj_heap_same hlt
   have hk2:(W.putObj (w.heap.size+1) (.loop { rec .ready none with state:=.busy })).heap[w.heap.size]?=some (.deferred (some [])):=(World.putObj_heap_other (by omega)).trans hk
   have hw2:Kp W (W.putObj (w.heap.size+1) (.loop { rec .ready none with state:=.busy })):=hKb _ _ _ _ (by omega) hl rfl
   refine wpIn_mono (hbody _ pre x a' _ (by omega) ⟨_,hl2⟩ (hI.book _ _ _ _ _ hi (by omega) hl rfl) ((hAx x a').book () _ _ _ _ hax (by omega) hl rfl) hlen) ?_
   have fin:∀ (jump:Option Code) (W3:World),KB w.heap.size (W.putObj (w.heap.size+1) (.loop { rec .ready none with state:=.busy })) W3 →
     (Instr.endRound (w.heap.size+1) jump).run P W3=.ok (.bool jump.isNone) (W3.putObj (w.heap.size+1) (.loop (rec (if jump.isNone then .ready else .done) jump))) ∧
     W3.heap[w.heap.size+1]?=some (.loop { rec .ready none with state:=.busy }) ∧
     (W3.putObj (w.heap.size+1) (.loop (rec (if jump.isNone then .ready else .done) jump))).heap[w.heap.size+1]?=some (.loop (rec (if jump.isNone then .ready else .done) jump)) ∧
     (W3.putObj (w.heap.size+1) (.loop (rec (if jump.isNone then .ready else .done) jump))).heap[w.heap.size]?=some (.deferred (some [])):=fun jump W3 hk3=>by
    have hl3:=hk3.same _ _ (by omega) hl2 rfl
    have:=run_endRound (P:=P) jump hl3
    rw [hrec] at this ⊢
    exact ⟨this,by rw [hrec] at hl3;exact hl3,World.putObj_heap_same (Array.getElem?_eq_some_iff.1 hl3).1,(World.putObj_heap_other (by omega)).trans (hk3.same _ _ (Nat.le_refl _) hk2 rfl)⟩
   rintro e a3 W3 hp
   cases e with
   | normal =>
    obtain ⟨hk3,hkp3,hi3⟩:=hp
    obtain ⟨hr,hl3,hl4,hk4⟩:=fin none W3 hk3
    exact ⟨_,_,hr,.inl ⟨rfl,⟨hI.book _ _ _ _ _ hi3 (by omega) hl3 rfl,hl4,hk4⟩,hKt hkpa (hKt (hKt hw2 hkp3) (hKb _ _ _ _ (by omega) hl3 rfl))⟩⟩
   | ret =>
    obtain ⟨hk3,hi3⟩:=hp
    obtain ⟨hr,hl3,hl4,hk4⟩:=fin (some .ret) W3 hk3
    exact ⟨_,_,hr,.inr ⟨rfl,.ret,(hIx _).book _ _ _ _ _ hi3 (by omega) hl3 rfl,hl4,hk4⟩⟩
   | exit id =>
    obtain ⟨hk3,hi3⟩:=hp
    obtain ⟨hr,hl3,hl4,hk4⟩:=fin (some (.exit id)) W3 hk3
    exact ⟨_,_,hr,.inr ⟨rfl,.exit id,(hIx _).book _ _ _ _ _ hi3 (by omega) hl3 rfl,hl4,hk4⟩⟩
   | goto t =>
    obtain ⟨hk3,hi3⟩:=hp
    obtain ⟨hr,hl3,hl4,hk4⟩:=fin (some (.goto t)) W3 hk3
    exact ⟨_,_,hr,.inr ⟨rfl,.goto t,(hIx _).book _ _ _ _ _ hi3 (by omega) hl3 rfl,hl4,hk4⟩⟩
   | panic ch=>exact hp.elim
   | outgrown=>exact hp.elim
  ·-- BEHIND THE ITERATOR
   rintro e W2 ⟨⟨v,rfl⟩,(⟨xs,hS,hi,hl,hk⟩|⟨pre,hSp,c,hi,hl,hk⟩)⟩
   ·exact ⟨none,_,by have:=run_endLoop (P:=P) hl (by rw [hrec];simp);rw [hrec] at this;exact this,hdone _ xs _ (Nat.le_refl _) hS (hI.book _ _ _ _ _ hi (by omega) hl rfl) ((World.putObj_heap_other (by omega)).trans hk)⟩
   ·exact ⟨some c,_,by have:=run_endLoop (P:=P) hl (by rw [hrec];simp);rw [hrec] at this;exact this,hstop _ c pre _ (Nat.le_refl _) hSp ((hIx c).book _ _ _ _ _ hi (by omega) hl rfl) ((World.putObj_heap_other (by omega)).trans hk)⟩

/-- **(L4) WITHIN A ROUND OF LOOP l₀.** -/
theorem wpIn_rangeFunc_N {α:Type} {g:Operand} {ps:Array Tmp} {assign body:Code} {Q:Exit→Act→World→Prop} {a:Act} {w:World}
  {l₀:Nat} {r₀:Loop} (hro:F.round=some l₀) (hl₀:w.heap[l₀]?=some (.loop r₀)) (h1:1≤n) {gf:Nat} {lb:Array Value} (hg:a.eval g=.func (.func gf) #[] lb) (hFg:F.fn gf) (eg:∀ args w,(callFunc gf args).run P w=.ok (.enter gf args) w)
  {encs:α→Array Value} {Kp:World→World→Prop} {S Sp:List α→Prop} {Nx:List α→α→Prop} {w0:World} (hseq:SeqB F (n - 1) P gf lb encs Kp S Sp Nx w0)
  (hKt:∀ {A B C:World},Kp A B→Kp B C→Kp A C) (hKb:∀ (W:World) (l:Nat) (o o' : Obj),w.heap.size≤l→W.heap[l]?=some o→isBook o=true→Kp W (W.putObj l o')) (hb0:Below w0.heap.size w0 w) (hps:∀ x,(encs x).size=ps.size)
  (I:List α→World→Prop) (Ix:Code→List α→World→Prop) (hI:BookFrom w.heap.size I) (hIx:∀ c,BookFrom w.heap.size (Ix c)) (h0:I [] w) (Ax:α→Act→World→Prop) (hAx:∀ x a',BookFrom w.heap.size (fun (_:Unit) W=>Ax x a' W))
  (hassign:∀ (l:Nat) (pre:List α) (x:α) (W:World) (K:Act→World→Prop),I pre W→(∀ a' W',KB w.heap.size W W'→Kp W W'→I pre W'→Ax x a' W'→K a' W') →
   assign.wpIn (F.inRound l) (n - 1 - 1) P (Exit.then K (fun _ _ _=>False)) { tmps:=(ps.zip (encs x)).foldl (fun t (p,v)=>t.setIfInBounds p v) a.tmps,defers:=[] } W)
  (hbody:∀ (l:Nat) (pre:List α) (x:α) (a' : Act) (W:World),w.heap.size≤l→(∃ r,W.heap[l]?=some (.loop r))→I pre W→Ax x a' W→Nx pre x→body.wpIn (F.inRound l) (n - 1 - 1) P (ownPostB w.heap.size Kp I Ix (pre++[x]) W) a' W)
  (hdone:∀ (xs:List α) (W:World),S xs→I xs W→Q .normal a W)
  (hstop:∀ (c:Code) (pre:List α) (W:World),Sp pre→Ix c pre W→c.wpIn F n P Q a W) :
  (Code.rangeFunc g ps assign body).wpIn F n P Q a w:=by
 refine wpIn_rangeFunc ?_
 intro fn hfn
 rw [hro]
 obtain ⟨rec,hrec⟩:∃ rec:LoopState→Option Code→Loop,rec=fun st pe=>{ state:=st,pending:=pe,fn,tmps:=a.tmps,params:=ps,assign,body,defers:=r₀.defers }:=⟨_,rfl⟩
 obtain ⟨W1,hW1⟩:∃ W1,w.alloc (.loop (rec .ready none))=W1:=⟨_,rfl⟩
 have hL1:W1.heap[w.heap.size]?=some (.loop (rec .ready none)):=by rw [← hW1];exact World.alloc_heap_new w _
 have hI1:I [] W1:=by rw [← hW1];exact hI.al h0
 have hb1:Below w0.heap.size w0 W1:=by
  rw [← hW1];exact hb0.trans (((Below.refl _ w).alloc (Nat.le_refl _) _).mono hb0.size)
 refine ⟨w.heap.size,[],W1,{ target:=.fn (.func gf) lb,args:=#[.func (.yield w.heap.size) #[] #[]] },W1,gf,
  #[.func (.yield w.heap.size) #[] #[]]++lb,W1,?_,?_,?_,?_,fun _=>h1,?_⟩
 ·rw [← hW1,hrec];exact run_enterLoop_inner hl₀ _ _ _ _ _
 ·simp only [resolve,hg]
  simp [go_sem]
 ·intro f' hf';simp [Target.leads] at hf';subst hf';exact hFg
 ·simp [invoke,go_sem,eg]
 ·have hnw:∀ {A B:World} {row:Option Nat},(∀ r,row=some r→W1.heap.size≤r∧∃ o:Obj,A.heap[r]?=some o∧o.isWalk=true)→(∀ r,row=some r→w.heap.size≤r∧∃ o:Obj,A.heap[r]?=some o∧o.isCells=false) :=
   fun hr r e=>by obtain ⟨hB,o,ho,hw⟩:=hr r e;exact ⟨by rw [← hW1] at hB;simp at hB;omega,o,ho,Obj.not_cells_of_walk hw⟩
  refine (hseq w.heap.size
   (fun pre W=>I pre W∧W.heap[w.heap.size]?=some (.loop (rec .ready none)))
   (fun pre W=>∃ c,Ix c pre W∧W.heap[w.heap.size]?=some (.loop (rec .done (some c))))
   W1 hb1
   (fun s A B hs hb=>⟨hI.below _ _ _ hs.1 hb,(hb.block _ (Array.getElem?_eq_some_iff.1 hs.2).1).trans hs.2⟩)
   ?_ ⟨hI1,hL1⟩).mono ?_
  ·-- ONE ROUND
   rintro pre x W ⟨hi,hl⟩ hlen
   have hlt:w.heap.size<W.heap.size:=(Array.getElem?_eq_some_iff.1 hl).1
   have hy:=run_yield (P:=P) (args:=encs x) hl (by rw [hrec];exact hps x)
   rw [hrec] at hy
   refine ⟨fn,_,assign,body,hy,roundIn_of_wpIn hfn (hassign _ pre x W _ hi ?_)⟩
   clear hy
   intro a' Wa hkfa hkpa hia hax
   replace hl:=hkfa.same _ _ (Nat.le_refl _) hl rfl
   replace hlt:w.heap.size<Wa.heap.size:=(Array.getElem?_eq_some_iff.1 hl).1
   replace hi:=hia
   clear hia
   revert hkpa hkfa
   generalize W=Wb
   intro hkfa hkpa
   obtain ⟨W,rfl⟩:∃ W,W=Wa:=⟨_,rfl⟩
   refine ⟨_,run_beginRound hl (by rw [hrec]),?_⟩
   have hl2:(W.putObj w.heap.size (.loop { rec .ready none with state:=.busy })).heap[w.heap.size]?=some (.loop { rec .ready none with state:=.busy }):=World.putObj_heap_same hlt
   have hw2:Kp W (W.putObj w.heap.size (.loop { rec .ready none with state:=.busy })):=hKb _ _ _ _ (Nat.le_refl _) hl rfl
   refine wpIn_mono (hbody _ pre x a' _ (Nat.le_refl _) ⟨_,hl2⟩ (hI.book _ _ _ _ _ hi (Nat.le_refl _) hl rfl) ((hAx x a').book () _ _ _ _ hax (Nat.le_refl _) hl rfl) hlen) ?_
   have fin:∀ (jump:Option Code) (W3:World),KB w.heap.size (W.putObj w.heap.size (.loop { rec .ready none with state:=.busy })) W3 →
     (Instr.endRound w.heap.size jump).run P W3=.ok (.bool jump.isNone) (W3.putObj w.heap.size (.loop (rec (if jump.isNone then .ready else .done) jump))) ∧
     W3.heap[w.heap.size]?=some (.loop { rec .ready none with state:=.busy }) ∧
     (W3.putObj w.heap.size (.loop (rec (if jump.isNone then .ready else .done) jump))).heap[w.heap.size]?=some (.loop (rec (if jump.isNone then .ready else .done) jump)):=fun jump W3 hk3=>by
    have hl3:=hk3.same _ _ (Nat.le_refl _) hl2 rfl
    have:=run_endRound (P:=P) jump hl3
    rw [hrec] at this ⊢
    exact ⟨this,by rw [hrec] at hl3;exact hl3,World.putObj_heap_same (Array.getElem?_eq_some_iff.1 hl3).1⟩
   rintro e a3 W3 hp
   cases e with
   | normal =>
    obtain ⟨hk3,hkp3,hi3⟩:=hp
    obtain ⟨hr,hl3,hl4⟩:=fin none W3 hk3
    exact ⟨_,_,hr,.inl ⟨rfl,⟨hI.book _ _ _ _ _ hi3 (Nat.le_refl _) hl3 rfl,hl4⟩,hKt hkpa (hKt (hKt hw2 hkp3) (hKb _ _ _ _ (Nat.le_refl _) hl3 rfl))⟩⟩
   | ret =>
    obtain ⟨hk3,hi3⟩:=hp
    obtain ⟨hr,hl3,hl4⟩:=fin (some .ret) W3 hk3
    exact ⟨_,_,hr,.inr ⟨rfl,.ret,(hIx _).book _ _ _ _ _ hi3 (Nat.le_refl _) hl3 rfl,hl4⟩⟩
   | exit id =>
    obtain ⟨hk3,hi3⟩:=hp
    obtain ⟨hr,hl3,hl4⟩:=fin (some (.exit id)) W3 hk3
    exact ⟨_,_,hr,.inr ⟨rfl,.exit id,(hIx _).book _ _ _ _ _ hi3 (Nat.le_refl _) hl3 rfl,hl4⟩⟩
   | goto t =>
    obtain ⟨hk3,hi3⟩:=hp
    obtain ⟨hr,hl3,hl4⟩:=fin (some (.goto t)) W3 hk3
    exact ⟨_,_,hr,.inr ⟨rfl,.goto t,(hIx _).book _ _ _ _ _ hi3 (Nat.le_refl _) hl3 rfl,hl4⟩⟩
   | panic ch=>exact hp.elim
   | outgrown=>exact hp.elim
  ·-- BEHIND THE ITERATOR
   rintro e W2 ⟨⟨v,rfl⟩,(⟨xs,hS,hi,hl⟩|⟨pre,hSp,c,hi,hl⟩)⟩
   ·exact ⟨none,_,by have:=run_endLoop (P:=P) hl (by rw [hrec];simp);rw [hrec] at this;exact this,hdone xs _ hS (hI.book _ _ _ _ _ hi (Nat.le_refl _) hl rfl)⟩
   ·exact ⟨some c,_,by have:=run_endLoop (P:=P) hl (by rw [hrec];simp);rw [hrec] at this;exact this,hstop c pre _ hSp ((hIx c).book _ _ _ _ _ hi (Nat.le_refl _) hl rfl)⟩

end Go
