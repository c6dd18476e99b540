import Derived.Test.YtnkgbnbbmcoiiaaGreatObeh
import Derived.WideKeyRuns
import Derived.Test.YtnkgbnbbmcoiiaaGreatBk
import Derived.Test.YtnkgbnbbmcoiiaaGreatOkeys
import Derived.RangeFuncBound
import Derived.RangeFuncCalls
import Derived.Shelf.Abstract
import Derived.Shelf.RegionOpen
import Derived.WalkKit
import Derived.OwnWalkIn
import Derived.TacticsInMore
import Derived.LoopNIn
import Derived.LoopIn
import Derived.Outline
import Derived.Test.YtnkgbnbbmcoiiaaGreatOrop
import Derived.Test.YtnkgbnbbmcoiiaaGreatOrterm
namespace Go.Proofs.YtnkgbnbbmcoiiaaGreat.S
open Go.RowKit Go.IM Go.Proofs.YtnkgbnbbmcoiiaaGreatW.PrintWords Go.Proofs.YtnkgbnbbmcoiiaaGreatW.PrintLast Go.Proofs.YtnkgbnbbmcoiiaaGreatW.PrintMore
open Go.ChangeMaps (setBlock heap_setBlock_same heap_setBlock_other)
set_option linter.unusedVariables false
set_option linter.unusedSimpArgs false
/-! ### A set of pairs: map[[2]int]bool -/
def kv2 (q:Int × Int):Value:=.agg #[.int .i64 q.1,.int .i64 q.2]
theorem eqA68 (d:Nat) (w:World) (x y:Int × Int):(Op.equalIn (d+2) 68 (kv2 x) (kv2 y)).run Tryz.prog w=.ok (x.1 == y.1 && (x.2 == y.2)) w:=by
 obtain ⟨x0,x1⟩:=x
 obtain ⟨y0,y1⟩:=y
 unfold kv2
 have p0:∀ (a b:Int),(part 3 #[.int .i64 a,.int .i64 b] 0).run Tryz.prog w=.ok (.int .i64 a) w:=fun a b=>by go_simp
 have p1:∀ (a b:Int),(part 3 #[.int .i64 a,.int .i64 b] 1).run Tryz.prog w=.ok (.int .i64 b) w:=fun a b=>by go_simp
 have e:∀ (a b:Int),(Op.equalIn (d+1) 3 (.int .i64 a) (.int .i64 b)).run Tryz.prog w=.ok (a == b) w:=fun a b=>by go_simp
 have hs:(sizeOf 3).run Tryz.prog w=.ok 1 w:=by kernel_rfl
 rw [Op.equalIn]
 simp only [Sem.run_bind,run_underlying Tryz.underlying68,Result.andThen_ok,hs]
 by_cases h0:x0=y0<;>by_cases h1:x1=y1<;>simp [List.range',p0,p1,e,Sem.run_bind,Result.andThen_ok,h0,h1]
theorem eq86 (w:World) (x y:Int × Int):(Op.equal 68 (kv2 x) (kv2 y)).run Tryz.prog w=.ok (decide (x=y)) w:=by
 have h:=eqA68 9998 w x y
 have e:(x.1 == y.1 && (x.2 == y.2))=decide (x=y):=by
  obtain ⟨x0,x1⟩:=x
  obtain ⟨y0,y1⟩:=y
  by_cases h0:x0=y0<;>by_cases h1:x1=y1<;>simp [h0,h1]
 rw [e] at h
 exact h
theorem check86 (c:Bool) (w:World) (x:Int × Int):(Instr.checkKey c 10000 68 (kv2 x)).run Tryz.prog w=.ok () w:=by kernel_rfl
/-- The entries are the keys ks,each with true. -/
def KV2 (en:List MapEntry) (ks:List (Int × Int)):Prop:=en.map (fun e=>(e.key,e.val))=ks.map (fun q=>(kv2 q,Value.bool true))
theorem KV2.cons_inv {e:MapEntry} {en:List MapEntry} {ks:List (Int × Int)} (h:KV2 (e::en) ks):∃ q ks',ks=q::ks'∧e.key=kv2 q∧e.val=.bool true∧KV2 en ks':=by
 cases ks with
 | nil=>simp [KV2] at h
 | cons q ks =>
  simp only [KV2,List.map_cons,List.cons.injEq,Prod.mk.injEq] at h
  exact ⟨q,ks,rfl,h.1.1,h.1.2,h.2⟩
theorem find86 (w:World) (x:Int × Int):∀ (en:List MapEntry) (ks:List (Int × Int)) (i:Nat),KV2 en ks→(x∉ks∧(Instr.findAsking 68 (kv2 x) en i).run Tryz.prog w=.ok none w)∨∃ m,ks[m]?=some x∧(Instr.findAsking 68 (kv2 x) en i).run Tryz.prog w=.ok (some (i+m,.bool true)) w
 | [],ks,i,h=>by
  cases ks with
  | nil=>exact .inl ⟨by simp,by simp [Instr.findAsking]⟩
  | cons q ks=>simp [KV2] at h
 | e::en,ks,i,h=>by
  obtain ⟨q,ks',rfl,hk,hv,ht⟩:=h.cons_inv
  by_cases hq:x=q
  ·right
   refine ⟨0,by rw [hq];rfl,?_⟩
   simp [Instr.findAsking,hk,hv,eq86,hq,Result.andThen]
  ·have hr:(Instr.findAsking 68 (kv2 x) (e::en) i).run Tryz.prog w=(Instr.findAsking 68 (kv2 x) en (i+1)).run Tryz.prog w:=by
    simp [Instr.findAsking,hk,eq86,hq,Result.andThen]
   rw [hr]
   rcases find86 w x en ks' (i+1) ht with ⟨h1,h2⟩|⟨m,h1,h2⟩
   ·exact .inl ⟨by simp [hq,h1],h2⟩
   ·exact .inr ⟨m+1,by simpa using h1,by (have e1:i+1+m=i+(m+1):=by omega);rw [h2,e1]⟩
theorem findKey86 (w:World) (x:Int × Int) (en:List MapEntry):(Instr.findKey 68 (kv2 x) en).run Tryz.prog w=(Instr.findAsking 68 (kv2 x) en).run Tryz.prog w :=
 run_findKey_eq w (by kernel_rfl) (kv2 x) en
/-- Block b is a set of those pairs of which S tells. -/
def At2 (w:World) (b:Nat) (S:Int × Int→Prop):Prop:=∃ (en:Array MapEntry) (clock:Nat) (ks:List (Int × Int)),w.heap[b]?=some (.map en clock)∧KV2 en.toList ks∧∀ q,q∈ks↔S q
theorem At2.lt {w:World} {b:Nat} {S:Int × Int→Prop} (h:At2 w b S):b<w.heap.size:=by
 obtain ⟨en,clock,ks,hb,_⟩:=h
 exact (Array.getElem?_eq_some_iff.1 hb).1
theorem At2.below {w w' : World} {b B:Nat} {S:Int × Int→Prop} (h:At2 w b S) (hB:Below B w w') (hb:b<B):At2 w' b S:=by
 obtain ⟨en,clock,ks,hm,r⟩:=h
 exact ⟨en,clock,ks,(hB.block b hb).trans hm,r⟩
theorem At2.made (w:World):At2 (w.alloc (.map #[] 0)) w.heap.size (fun _=>False):=⟨#[],0,[],(MapKept.heap_alloc w _).1,rfl,fun q=>by simp⟩
theorem At2.alloc {w:World} {b:Nat} {S:Int × Int→Prop} (h:At2 w b S) (o:Obj):At2 (w.alloc o) b S:=h.below (below_alloc (Below.refl w.heap.size w) o) h.lt
theorem At2.imp {w:World} {b:Nat} {S T:Int × Int→Prop} (h:At2 w b S) (hs:∀ q,S q↔T q):At2 w b T:=by
 obtain ⟨en,clock,ks,hm,h1,h2⟩:=h
 exact ⟨en,clock,ks,hm,h1,fun q=>(h2 q).trans (hs q)⟩
theorem At2.setCell {w:World} {b:Nat} {S:Int × Int→Prop} (h:At2 w b S) {a:Addr} (ha:b≠a.block) (u:Value):At2 (w.setCell a u) b S:=by
 obtain ⟨en,clock,ks,hm,r⟩:=h
 exact ⟨en,clock,ks,by rw [Below.heap_setCell _ _ _ _ ha];exact hm,r⟩
theorem At2.look {w:World} {b:Nat} {S:Int × Int→Prop} (h:At2 w b S) (x:Int × Int) (r:Bool) (hr:r=true↔S x):(Instr.lookup 113 (.map (some b)) (kv2 x) false).run Tryz.prog w=.ok (.bool r) w:=by
 obtain ⟨en,clock,ks,hb,hkv,hs⟩:=h
 have hz:(zeroValue 4).run Tryz.prog w=.ok (.bool false) w:=by kernel_rfl
 rcases find86 w x en.toList ks 0 hkv with ⟨h1,h2⟩|⟨m,h1,h2⟩
 ·have:r=false:=by
   cases r with
   | false=>rfl
   | true=>exact absurd ((hs x).2 (hr.1 rfl)) h1
  subst this
  simp [Instr.lookup,run_underlying Tryz.underlying113,MapKept.run_getObj_map hb,Result.andThen,check86,findKey86,h2,hz]
 ·have:r=true:=hr.2 ((hs x).1 (List.mem_of_getElem? h1))
  subst this
  simp [Instr.lookup,run_underlying Tryz.underlying113,MapKept.run_getObj_map hb,Result.andThen,check86,findKey86,h2]
theorem At2.update {w:World} {b:Nat} {S:Int × Int→Prop} (h:At2 w b S) (x:Int × Int):∃ w',(Instr.mapUpdate 113 (.map (some b)) (kv2 x) (.bool true)).run Tryz.prog w=.ok () w'∧At2 w' b (fun q=>q=x∨S q)∧w.grownBy w' (some b):=by
 obtain ⟨en,clock,ks,hb,hkv,hs⟩:=h
 rcases find86 w x en.toList ks 0 hkv with ⟨h1,h2⟩|⟨m,h1,h2⟩
 ·refine ⟨setBlock w b (.map (en.push { key:=kv2 x,val:=.bool true,born:=clock }) (clock+1)),?_,⟨_,_,ks++[x],heap_setBlock_same hb _,?_,fun q=>?_⟩,grown_setBlock hb _⟩
  ·simp only [Instr.mapUpdate,Sem.run_bind,run_underlying Tryz.underlying113,MapKept.run_getObj_map hb,Result.andThen,check86,findKey86,h2,MapKept.run_setObj_map _ hb]
   rfl
  ·unfold KV2 at hkv ⊢
   rw [Array.toList_push,List.map_append,List.map_append,hkv]
   rfl
  ·rw [List.mem_append,List.mem_singleton,hs q]
   exact or_comm
 ·rw [Nat.zero_add] at h2
  have hml:m<ks.length:=(List.getElem?_eq_some_iff.1 h1).1
  have hel:en.toList.length=ks.length:=by
   have:=congrArg List.length hkv
   simpa using this
  have he:∃ e,en[m]?=some e∧e.key=kv2 x∧e.val=.bool true:=by
   have:=congrArg (·[m]?) hkv
   simp only [List.getElem?_map,h1,Option.map_some] at this
   have hlt:m<en.size:=by simpa using (show m<en.toList.length by omega)
   rw [← Array.getElem?_toList]
   cases hh:en.toList[m]? with
   | none=>rw [hh] at this;simp at this
   | some e =>
    rw [hh] at this
    simp at this
    exact ⟨e,rfl,this.1,this.2⟩
  obtain ⟨e,he,hek,hev⟩:=he
  have hst:(Instr.keyThatStays (kv2 x) (kv2 x)).run Tryz.prog w=.ok (kv2 x) w:=by
   have:Instr.sameBits 10000 (kv2 x) (kv2 x)=true:=by
    have e1:(10000:Nat)=9998+1+1:=rfl
    rw [e1]
    simp [Instr.sameBits,kv2]
   unfold Instr.keyThatStays
   rw [if_pos this]
   rfl
  refine ⟨setBlock w b (.map (en.modify m fun e=>{ e with key:=kv2 x,val:=.bool true }) clock),?_,⟨_,_,ks,heap_setBlock_same hb _,?_,fun q=>?_⟩,grown_setBlock hb _⟩
  ·simp only [Instr.mapUpdate,Sem.run_bind,run_underlying Tryz.underlying113,MapKept.run_getObj_map hb,Result.andThen,check86,findKey86,h2,he,Option.map_some,Option.getD_some,hek,hst,MapKept.run_setObj_map _ hb]
   rfl
  ·unfold KV2 at hkv ⊢
   rw [← hkv,Array.toList_modify]
   apply List.ext_getElem?
   intro i
   simp only [List.getElem?_map,List.getElem?_modify]
   by_cases hij:m=i
   ·subst hij
    rw [show en.toList[m]?=some e by rw [Array.getElem?_toList];exact he]
    simp [hek,hev]
   ·cases hh:en.toList[i]?<;>simp [hij]
  ·show q∈ks↔q=x∨S q
   rw [← hs q]
   constructor
   ·intro h;exact .inr h
   ·rintro (rfl|h)
    ·exact List.mem_of_getElem? h1
    ·exact h
section
variable {ops:Array Oper} {rest:List Oper} {o:Oper} {a:Act} {Q:Exit→Act→World→Prop} {w:World}
theorem wpl_look2 (hg:o.guard=none) (m x:Operand) (hop:o.op=Op.lookup 113 m x false) (b:Nat) (S:Int × Int→Prop) (hm:a.eval m=.map (some b)) (h:At2 w b S) (k:Int × Int) (hx:a.eval x=kv2 k) (r:Bool) (hr:r=true↔S k)
  (hQ:wpList Tryz.prog ops Q rest (a.put o.dst (.bool r)) w):wpList Tryz.prog ops Q (o::rest) a w:=by
 refine wpList_plain hg fun K' hK'=>?_
 unfold Oper.wp
 simp [execOp,hop,hm,hx,h.look k r hr,Result.andThen]
 exact hK' _ _ hQ
theorem wpl_upd2 (hg:o.guard=none) (m x v:Operand) (hop:o.op=Op.mapUpdate 113 m x v) (b:Nat) (S:Int × Int→Prop) (hm:a.eval m=.map (some b)) (h:At2 w b S) (k:Int × Int) (hx:a.eval x=kv2 k) (hv:a.eval v=.bool true)
  (hQ:∀ w',At2 w' b (fun q=>q=k∨S q)→w.grownBy w' (some b)→wpList Tryz.prog ops Q rest (a.put o.dst undef) w'):wpList Tryz.prog ops Q (o::rest) a w:=by
 refine wpList_plain hg fun K' hK'=>?_
 obtain ⟨w',hrun,h1,h2⟩:=h.update k
 unfold Oper.wp
 simp [execOp,hop,hm,hx,hv,hrun,Result.andThen]
 exact hK' _ _ (hQ w' h1 h2)
end
end Go.Proofs.YtnkgbnbbmcoiiaaGreat.S
namespace Go.Proofs.YtnkgbnbbmcoiiaaGreat.S
open Go.RowKit Go.Shelf Go.IM Go.Proofs.YtnkgbnbbmcoiiaaGreatW.PrintWords Go.Proofs.YtnkgbnbbmcoiiaaGreatW.PrintLast Go.Proofs.YtnkgbnbbmcoiiaaGreatW.PrintMore
set_option linter.unusedVariables false
attribute [local go_sem] Oper.semAt_some
/-- The operation at a place. -/
def opOf (bs:List S50) (p:Nat × Nat):S45:=rd_T45 (rd_T50 bs (p.1:Int)).f0 (p.2:Int)
def opLen (bs:List S50) (i:Nat):Nat:=(rd_T50 bs (i:Int)).f0.length
/-- The places of the first i blocks' operations. -/
def plcs (bs:List S50) (i:Nat):List (Nat × Nat):=(List.range i).flatMap fun j=>(List.range (opLen bs j)).map fun k=>(j,k)
def rowP (i k:Nat):List (Nat × Nat):=(List.range k).map fun j=>(i,j)
theorem rowP_zero (i:Nat):rowP i 0=[]:=rfl
theorem rowP_succ (i k:Nat):rowP i (k+1)=rowP i k++[(i,k)]:=by unfold rowP;rw [List.range_succ,List.map_append];rfl
theorem plcs_succ (bs:List S50) (i:Nat):plcs bs (i+1)=plcs bs i++rowP i (opLen bs i):=by
 unfold plcs rowP
 rw [List.range_succ,List.flatMap_append]
 simp
theorem plcs_prefix (bs:List S50):∀ m i,∃ rest,plcs bs (i+m)=plcs bs i++rest
 | 0,i=>⟨[],by simp⟩
 | m+1,i=>by
  obtain ⟨rest,h⟩:=plcs_prefix bs m i
  exact ⟨rest++rowP (i+m) (opLen bs (i+m)),by rw [← Nat.add_assoc,plcs_succ,h,List.append_assoc]⟩
theorem rowP_prefix (i:Nat):∀ m k,∃ rest,rowP i (k+m)=rowP i k++rest
 | 0,k=>⟨[],by simp⟩
 | m+1,k=>by
  obtain ⟨rest,h⟩:=rowP_prefix i m k
  exact ⟨rest++[(i,k+m)],by rw [← Nat.add_assoc,rowP_succ,h,List.append_assoc]⟩
theorem part_prefix {bs:List S50} {i k:Nat} (hi:i<bs.length) (hk:k≤opLen bs i):∃ rest,plcs bs bs.length=plcs bs i++rowP i k++rest:=by
 obtain ⟨m,hm⟩:∃ m,bs.length=(i+1)+m:=⟨bs.length - (i+1),by omega⟩
 obtain ⟨r1,h1⟩:=plcs_prefix bs m (i+1)
 obtain ⟨j,hj⟩:∃ j,opLen bs i=k+j:=⟨opLen bs i - k,by omega⟩
 obtain ⟨r2,h2⟩:=rowP_prefix i j k
 exact ⟨r2++r1,by rw [hm,h1,plcs_succ,hj,h2];simp⟩
theorem part_len {bs:List S50} {i k:Nat} (hi:i<bs.length) (hk:k<opLen bs i):(plcs bs i++rowP i k).length<(plcs bs bs.length).length:=by
 obtain ⟨rest,h⟩:=part_prefix hi (Nat.succ_le_of_lt hk)
 rw [h,rowP_succ]
 simp
theorem mem_plcs {bs:List S50} {i j k:Nat} : (j,k)∈plcs bs i↔j<i∧k<opLen bs j:=by
 unfold plcs
 simp [List.mem_flatMap,List.mem_range,List.mem_map,Prod.mk.injEq]
/-- What an iterator over a function's operations reads. -/
structure OpsF (wr:World) (Bs:Nat) (A:Option Addr) (c:Nat) (bs:List S50) (bg:Nat→Option Addr × Nat) (oo:Nat→Nat→Option Addr × Nat):Prop where mk ::
 box:wr.cell? ⟨Bs,1,none⟩=some (.slice A bs.length c)
 blks:BlksAt wr A bs bg
 ops:∀ i,i<bs.length→OpsAt wr (bg i).1 (rd_T50 bs (i:Int)).f0 (oo i)
/-- What goes out. -/
def opsV (bs:List S50) (oo:Nat→Nat→Option Addr × Nat) (p:Nat × Nat):Array Value:=#[opV (opOf bs p) (oo p.1 p.2)]
set_option maxRecDepth 100000 in
set_option maxHeartbeats 4000000 in
theorem ops1_in (n:Nat) (hn:1≤n) (l Bs:Nat) (A:Option Addr) (c:Nat) (bs:List S50) (bg:Nat→Option Addr × Nat) (oo:Nat→Nat→Option Addr × Nat) (hlen:bs.length≤1000000000000)
  (Kp:World→World→Prop) (hKt:∀ {A B C:World},Kp A B→Kp B C→Kp A C) (hKb:∀ {A B:World},Below A.heap.size A B→Kp A B)
  (J Jx:List (Nat × Nat)→World→Prop) (hJ:∀ s A B,J s A→Below A.heap.size A B→J s B)
  (hY:∀ pre x W,J pre W→pre.length<(plcs bs bs.length).length→YieldAt Fence.wide (n - 1) Tryz.prog l (opsV bs oo x) W fun e W' =>
   (e=.returned (.bool true)∧J (pre++[x]) W'∧Kp W W')∨(e=.returned (.bool false)∧Jx (pre++[x]) W'))
  (W:World) (hF:∀ wr,Kp W wr→OpsF wr Bs A c bs bg oo) (h0:J [] W) :
  CallsIn Fence.wide n Tryz.prog 97 #[.func (.yield l) #[] #[],.pointer (some ⟨Bs,0,none⟩)] W fun e W'=>(∃ v,e=.returned v) ∧
   ((∃ ys,ys=plcs bs bs.length∧J ys W')∨(∃ pre,(∃ rest,plcs bs bs.length=pre++rest)∧Jx pre W')):=by
 have hu43:=Tryz.underlying50
 have hu45:=Tryz.underlying45
 have hu41:=Tryz.underlying48
 have hu34:=Tryz.underlying24
 have hbox:=(hF W (hKb (Below.refl _ _))).box
 have HF:=ak_ hF
 have HY:=ak_ hY
 have HJ:=ak_ hJ
 have HKT:=ak_ @hKt
 have HKB:=ak_ @hKb
 clear hF hY hJ hKt hKb
 refine callsIn_of_wp Tryz.func97 rfl trivial ?_ rfl
 simp only [Tryz.ntmps97,List.size_toArray,List.length_cons,List.length_nil,Nat.reduceAdd,Nat.reduceSub,Array.replicate_succ,Array.replicate_zero,List.push_toArray,List.append_toArray,List.nil_append,List.cons_append]
 gi_wp2
 clear hbox
 gi_loopw [10] (fun i wr=>∃ k:Nat,k≤bs.length∧i=.int .i64 (k:Int)∧Aside0 (J (plcs bs k) wr)∧Aside0 (Kp W wr))
  (fun i _=>bs.length - (intOf i).toNat)
 case atStart=>exact ⟨0,Nat.zero_le _,rfl,⟨h0⟩,⟨HKB.out (Below.refl _ _)⟩⟩
 case round =>
  obtain ⟨k,hk,rfl,HJs,HK⟩:=hrel
  by_cases hlt:k<bs.length
  ·have b1:decide ((k:Int)<(bs.length:Int))=true:=decide_eq_true (by omega)
   have HFr:=ak_ (HF.out wr HK.out)
   obtain ⟨⟨ad,eA,k0,k1,k2,k3,k4⟩,_,hrow⟩:=HFr.out.blks k hlt
   have hLm:opLen bs k≤9223372036854775807:=hrow.2.1
   clear hrow
   have hLe:(rd_T50 bs (k:Int)).f0.length=opLen bs k:=rfl
   rw [hLe] at k0
   obtain ⟨L,hL⟩:∃ L,opLen bs k=L:=⟨_,rfl⟩
   obtain ⟨GA,GC,hG⟩:∃ GA GC,bg k=(GA,GC):=⟨_,_,rfl⟩
   have HPL:Aside0 (opLen bs k=L):=⟨hL⟩
   have HPG:Aside0 (bg k=(GA,GC)):=⟨hG⟩
   rw [hL,hG] at k0
   rw [hL] at hLm
   simp only at k0
   generalize (rd_T50 bs (k:Int)).f1=tm at k1 k2 k3 k4
   clear hLe hL hG
   subst eA
   gi_wp2_with fail
   have HB1:=ak_ (below_alloc (Below.refl wr.heap.size wr) (.cells #[.slice GA L GC,.int .i64 tm.f0,.int .i64 tm.f1,.int .i64 tm.f2,.int .i64 tm.f3] 50))
   gi_loopw [17] (fun i wr=>∃ j:Nat,j≤L∧i=.int .i64 (j:Int)∧Aside0 (J (plcs bs k++rowP k j) wr)∧Aside0 (Kp W wr))
    (fun i _=>L - (intOf i).toNat)
   case atStart=>exact ⟨0,Nat.zero_le _,rfl,⟨by rw [rowP_zero,List.append_nil];exact HJ.out _ _ _ HJs.out HB1.out⟩,⟨HKT.out HK.out (HKB.out HB1.out)⟩⟩
   case round =>
    obtain ⟨j,hj,rfl,HJq,HKq⟩:=hrel
    by_cases hlq:j<L
    ·have b1:decide ((j:Int)<(L:Int))=true:=decide_eq_true (by omega)
     have hop:=(HF.out wr HKq.out).ops k hlt j (by show j<opLen bs k;rw [HPL.out];exact hlq)
     rw [HPG.out] at hop
     simp only at hop
     have HPX:Aside0 (rd_T45 (rd_T50 bs (k:Int)).f0 (j:Int)=opOf bs (k,j)):=⟨rfl⟩
     rw [HPX.out] at hop
     obtain ⟨⟨ad,eA,x0,x1,x2,x3,x4,x5⟩,_,_⟩:=hop
     have hyy:=HY.out (plcs bs k++rowP k j) (k,j)
     unfold opsV opV at hyy
     have HPS:Aside0 (plcs bs k++rowP k (j+1)=(plcs bs k++rowP k j)++[(k,j)]):=⟨by rw [rowP_succ,List.append_assoc]⟩
     have hpl:(plcs bs k++rowP k j).length<(plcs bs bs.length).length:=part_len hlt (by rw [HPL.out];exact hlq)
     have hrest:∃ rest,plcs bs bs.length=(plcs bs k++rowP k j)++[(k,j)]++rest:=by
      obtain ⟨rest,hr⟩:=part_prefix (bs:=bs) (k:=j+1) hlt (by rw [HPL.out];exact hlq)
      exact ⟨rest,by rw [hr,HPS.out]⟩
     have HRE:=ak_ hrest
     clear hrest HPX
     simp only [] at hyy
     generalize opOf bs (k,j)=x at x0 x1 x2 x3 x4 x5 hyy
     generalize oo k j=g at x5 hyy
     obtain ⟨W1,hW1⟩:∃ W1,wr.alloc (.cells #[.int .i64 x.f0,.int .i64 x.f1,.int .i64 x.f2,.int .i64 x.f3,.int .i64 x.f4,.slice g.1 x.f5.length g.2] 45)=W1:=⟨_,rfl⟩
     have hb1:Below wr.heap.size wr W1:=by rw [← hW1];exact below_alloc (Below.refl _ _) _
     have hbx:=blk_new wr (.cells #[.int .i64 x.f0,.int .i64 x.f1,.int .i64 x.f2,.int .i64 x.f3,.int .i64 x.f4,.slice g.1 x.f5.length g.2] 45)
     rw [hW1] at hbx
     obtain ⟨fn,tmps,assign,body,hy,hR⟩:=hyy W1 (HJ.out _ _ _ HJq.out hb1) hpl
     rw [← hW1] at hy hR hbx hb1
     have HR:=ak_ hR
     have HB2:=ak_ hb1
     clear hW1 hR hb1 hyy hpl hbx
     subst eA
     gi_wp2
     refine HR.out.mono ?_
     rintro e W3 (⟨rfl,hJ3,hk3⟩|⟨rfl,hJx3⟩)
     ·have HK3:=ak_ (HKT.out HKq.out (HKT.out (HKB.out HB2.out) hk3))
      have HJ3:=ak_ hJ3
      clear hy hk3 hJ3 x0 x1 x2 x3 x4 x5
      gi_wp2
      go_roundw
      case rel=>exact ⟨j+1,by omega,by go_num,⟨by rw [HPS.out];exact HJ3.out⟩,HK3⟩
      case measure=>(simp [intOf];try omega)
     ·gi_wp2
      refine bodyPost_ret (results_none rfl _ _ _) rfl ?_
      exact ⟨⟨_,rfl⟩,.inr ⟨_,HRE.out,hJx3⟩⟩
    ·have b1:decide ((j:Int)<(L:Int))=false:=decide_eq_false (by omega)
     have hj' : j=L:=by omega
     gi_wp2
     go_roundw
     case rel=>exact ⟨k+1,by omega,by go_num,⟨by rw [plcs_succ,HPL.out,← hj'];exact HJq.out⟩,HKq⟩
     case measure=>(simp [intOf];try omega)
  ·have b1:decide ((k:Int)<(bs.length:Int))=false:=decide_eq_false (by omega)
   have hk' : k=bs.length:=by omega
   gi_wp2
   go_end0
   exact ⟨⟨_,rfl⟩,.inl ⟨_,by rw [hk'],HJs.out⟩⟩
set_option maxHeartbeats 2000000 in
/-- ops: one box;the function value captures it. -/
theorem ops_in (n:Nat) (p:Int) (A:Option Addr) (len cap:Nat) (w:World) :
  CallsIn Fence.wide n Tryz.prog 75 #[.agg #[.int .i64 p,.slice A len cap]] w fun e w'=>e=.returned (.func (.func 97) #[] #[.pointer (some ⟨w.heap.size,0,none⟩)])∧w'=w.alloc (.cells #[.int .i64 p,.slice A len cap] 24):=by
 have hu34:=Tryz.underlying24
 refine callsIn_of_wp Tryz.func75 rfl trivial ?_ rfl
 simp only [Tryz.ntmps75,List.size_toArray,List.length_cons,List.length_nil,Nat.reduceAdd,Nat.reduceSub,Array.replicate_succ,Array.replicate_zero,List.push_toArray,List.append_toArray,List.nil_append,List.cons_append]
 gi_wp2
 go_ret
 exact ⟨rfl,rfl⟩
/-- ops(f) hands back a value that stops as it should,whatever a round does,if it keeps what is read. -/
theorem ops_stops (n:Nat) (hn:1≤n) (Bs:Nat) (A:Option Addr) (c:Nat) (bs:List S50) (bg:Nat→Option Addr × Nat) (oo:Nat→Nat→Option Addr × Nat) (hlen:bs.length≤1000000000000) (Kp:World→World→Prop) (hKt:∀ {A B C:World},Kp A B→Kp B C→Kp A C) (hKb:∀ {A B:World},Below A.heap.size A B→Kp A B) (w:World)
  (hF:∀ W wr,Below w.heap.size w W→Kp W wr→OpsF wr Bs A c bs bg oo) :
  SeqStopsK Fence.wide n Tryz.prog 97 #[.pointer (some ⟨Bs,0,none⟩)] (opsV bs oo) Kp (fun ys=>ys=plcs bs bs.length) (fun pre=>∃ rest,plcs bs bs.length=pre++rest) (plcs bs bs.length).length w:=fun l J Jx W hW hJ _ hY h0 =>
 ops1_in n hn l Bs A c bs bg oo hlen Kp hKt hKb J Jx (fun s A B hj hk=>hJ s A B none hj ⟨hk.os,hk.tape,hk.output,hk.size,fun j hj _=>hk.block j hj⟩ (by simp)) hY W (fun wr hk=>hF W wr hW hk) h0
end Go.Proofs.YtnkgbnbbmcoiiaaGreat.S
namespace Go.Proofs.YtnkgbnbbmcoiiaaGreat.S
open Go.RowKit Go.Shelf Go.IM Go.Proofs.YtnkgbnbbmcoiiaaGreatW.PrintWords Go.Proofs.YtnkgbnbbmcoiiaaGreatW.PrintLast Go.Proofs.YtnkgbnbbmcoiiaaGreatW.PrintMore
set_option linter.unusedVariables false
attribute [local go_sem] Oper.semAt_some
/-- May an operation's Imm be so? -/
def imB (x:S45) (fn:Int):Bool:=if x.f0=2 then wi x.f4 1 14 else immB x.f0 x.f4 fn (shp x.f0).2.2.2.1
/-- Is an operation right? -/
def ropX (x:S45) (fn:Int):Bool:=ropB x.f0 x.f1 x.f2 x.f3 x.f4 x.f5 (imB x fn)
theorem known_eq (i:Int):word_Known.f i=some (wi i 1 14):=by
 unfold word_Known.f wi
 by_cases h:i ≥ 1
 ·rw [if_pos h]
  by_cases h2:i≤14<;>simp [h2]<;>omega
 ·rw [if_neg h]
  simp
  omega
theorem rightOpX_any (x:S45) (fn:Int) (A:Option Addr) (c:Nat) (w:World) (hC:Kd.C (Kd.int .i64) w A x.f5.length x.f5) (hc:x.f5.length≤c) :
  Calls Tryz.prog 76 #[.agg #[.int .i64 x.f0,.int .i64 x.f1,.int .i64 x.f2,.int .i64 x.f3,.int .i64 x.f4,.slice A x.f5.length c],.int .i64 fn] w fun e w'=>e=.returned (.bool (ropX x fn))∧Below w.heap.size w w' :=
 rightOp_any 1 x.f0 x.f1 x.f2 x.f3 x.f4 fn A c x.f5 (imB x fn) w hC hc (by
  rw [immediate_eq]
  unfold imB
  split
  ·rw [known_eq]
  ·rfl)
/-- Are a function's Terms right? -/
def termsR (bs:List S50):Bool:=bs.all fun x=>rtT x.f1.f0 x.f1.f1 x.f1.f2 x.f1.f3 (bs.length:Int)
/-- Is a function right? -/
def rightF (p:Int) (bs:List S50) (fn:Int):Bool :=
 wi (bs.length:Int) 1 4096 && (wi p 0 8 && (termsR bs && (decide ((plcs bs bs.length).length≤16384) && (plcs bs bs.length).all fun q=>ropX (opOf bs q) fn)))
/-- Right's three boxes. -/
def rW (w:World) (p:Int) (A:Option Addr) (n c:Nat) (fn:Int):World:=((w.alloc (.cells #[.int .i64 p,.slice A n c] 24)).alloc (.cells #[.int .i64 fn] 3)).alloc (.cells #[.bool false] 4)
theorem rW_box (w:World) (p:Int) (A:Option Addr) (n c:Nat) (fn:Int):Boxed (rW w p A n c fn) (w.heap.size+1+1) 4 (.bool false):=by
 have:=Boxed.new ((w.alloc (.cells #[.int .i64 p,.slice A n c] 24)).alloc (.cells #[.int .i64 fn] 3)) 4 (.bool false)
 rwa [World.size_alloc,World.size_alloc] at this
theorem rW_fn (w:World) (p:Int) (A:Option Addr) (n c:Nat) (fn:Int):Boxed (rW w p A n c fn) (w.heap.size+1) 3 (.int .i64 fn):=by
 have:=Boxed.new (w.alloc (.cells #[.int .i64 p,.slice A n c] 24)) 3 (.int .i64 fn)
 rw [World.size_alloc] at this
 exact this.alloc _
theorem rW_f (w:World) (p:Int) (A:Option Addr) (n c:Nat) (fn:Int):(rW w p A n c fn).heap[w.heap.size]?=some (.cells #[.int .i64 p,.slice A n c] 24 (0,0)) :=
 blk_alloc (blk_alloc (blk_new w (.cells #[.int .i64 p,.slice A n c] 24)) _) _
theorem rW_below (w:World) (p:Int) (A:Option Addr) (n c:Nat) (fn:Int):Below w.heap.size w (rW w p A n c fn):=below_alloc (below_alloc (below_alloc (Below.refl _ _) _) _) _
set_option maxHeartbeats 4000000 in
set_option maxRecDepth 100000 in
theorem right_few (p:Int) (A:Option Addr) (c:Nat) (bs:List S50) (fn:Int) (w:World) (h:wi (bs.length:Int) 1 4096=false) :
  Calls Tryz.prog 45 #[.agg #[.int .i64 p,.slice A bs.length c],.int .i64 fn] w fun e w'=>e=.returned (.bool false)∧Below w.heap.size w w':=by
 have hu34:=Tryz.underlying24
 have H:=ak_ h
 clear h
 go_enter Tryz.func45,Tryz.ntmps45
 go_wp2_with (go_at_call 71;refine (within_any _ _ _ _).mono ?_;rintro e w1 ⟨rfl,hb⟩;rw [H.out];have HB1:=ak_ (below_then (rW_below w p A bs.length c fn) (rW_below w p A bs.length c fn).size hb);have HX:=ak_ (blk_below (rW_box w p A bs.length c fn) hb);have c4:=Boxed.cell HX.out;have f4:=Boxed.frozen HX.out;clear hb)
 have e4:=(Boxed.set (.bool false) HX.out).cell
 refine bodyPost_ret (v:=.bool false) (by simp [results,Tryz.results45,go_sem,e4]) rfl ⟨rfl,?_⟩
 exact HB1.out.setCell (p:=⟨_,0,none⟩) (by show w.heap.size≤w.heap.size+1+1;omega) _
set_option maxHeartbeats 4000000 in
set_option maxRecDepth 100000 in
theorem right_par (p:Int) (A:Option Addr) (c:Nat) (bs:List S50) (fn:Int) (w:World) (h:wi (bs.length:Int) 1 4096=true) (h' : wi p 0 8=false) :
  Calls Tryz.prog 45 #[.agg #[.int .i64 p,.slice A bs.length c],.int .i64 fn] w fun e w'=>e=.returned (.bool false)∧Below w.heap.size w w':=by
 have hu34:=Tryz.underlying24
 have H:=ak_ h
 have H':=ak_ h'
 clear h h'
 go_enter Tryz.func45,Tryz.ntmps45
 go_wp2_with (first
  | (have hz:=HB1;clear hz;go_at_call 71;refine (within_any _ _ _ _).mono ?_;rintro e w2 ⟨rfl,hb⟩;rw [H'.out];have HB2:=ak_ (below_then HB1.out HB1.out.size hb);have HX2:=ak_ (blk_below HX.out hb);have c4:=Boxed.cell HX2.out;have f4:=Boxed.frozen HX2.out;clear hb)
  | (go_at_call 71;refine (within_any _ _ _ _).mono ?_;rintro e w1 ⟨rfl,hb⟩;rw [H.out];have HB1:=ak_ (below_then (rW_below w p A bs.length c fn) (rW_below w p A bs.length c fn).size hb);have HX:=ak_ (blk_below (rW_box w p A bs.length c fn) hb);have HF:=ak_ (blk_below (rW_f w p A bs.length c fn) hb);have c0:=bc_ HF 0;have c1:=bc_ HF 1;simp only [ga_,gb_,gc_] at c0 c1;clear hb))
 have e4:=(Boxed.set (.bool false) HX2.out).cell
 refine bodyPost_ret (v:=.bool false) (by simp [results,Tryz.results45,go_sem,e4]) rfl ⟨rfl,?_⟩
 exact HB2.out.setCell (p:=⟨_,0,none⟩) (by show w.heap.size≤w.heap.size+1+1;omega) _
set_option maxHeartbeats 4000000 in
set_option maxRecDepth 100000 in
theorem right_term (p:Int) (A:Option Addr) (c:Nat) (bs:List S50) (fn:Int) (w:World) (hC:Kd.C k50 w A bs.length bs) (h:wi (bs.length:Int) 1 4096=true) (h' : wi p 0 8=true) (ht:termsR bs=false) :
  Calls Tryz.prog 45 #[.agg #[.int .i64 p,.slice A bs.length c],.int .i64 fn] w fun e w'=>e=.returned (.bool false)∧Below w.heap.size w w':=by
 have hu34:=Tryz.underlying24
 have H:=ak_ h
 have H':=ak_ h'
 have HT:=ak_ ht
 have HC:=ak_ hC
 clear h h' ht hC
 go_enter Tryz.func45,Tryz.ntmps45
 go_wp2_with (first
  | (go_at_call 72;refine (containsB_any A c bs ⟨w.heap.size,0,none⟩ A bs.length c _ (Kd.C_below HC.out HB2.out) (blk_cell HF2.out 1)).mono ?_;rintro e w3 ⟨rfl,hb⟩;rw [show (bs.all fun x=>rtT x.f1.f0 x.f1.f1 x.f1.f2 x.f1.f3 ((bs.length:Nat):Int))=false from HT.out];have HB3:=ak_ (below_then HB2.out HB2.out.size hb);have HX3:=ak_ (blk_below HX2.out hb);have c4:=Boxed.cell HX3.out;have f4:=Boxed.frozen HX3.out;clear hb)
  | (have hz:=HB1;clear hz;go_at_call 71;refine (within_any _ _ _ _).mono ?_;rintro e w2 ⟨rfl,hb⟩;rw [H'.out];have HB2:=ak_ (below_then HB1.out HB1.out.size hb);have HX2:=ak_ (blk_below HX.out hb);have HF2:=ak_ (blk_below HF.out hb);clear c0 c1;have c0:=bc_ HF2 0;have c1:=bc_ HF2 1;simp only [ga_,gb_,gc_] at c0 c1;clear hb)
  | (go_at_call 71;refine (within_any _ _ _ _).mono ?_;rintro e w1 ⟨rfl,hb⟩;rw [H.out];have HB1:=ak_ (below_then (rW_below w p A bs.length c fn) (rW_below w p A bs.length c fn).size hb);have HX:=ak_ (blk_below (rW_box w p A bs.length c fn) hb);have HF:=ak_ (blk_below (rW_f w p A bs.length c fn) hb);have c0:=bc_ HF 0;have c1:=bc_ HF 1;simp only [ga_,gb_,gc_] at c0 c1;clear hb))
 have e4:=(Boxed.set (.bool false) HX3.out).cell
 refine bodyPost_ret (v:=.bool false) (by simp [results,Tryz.results45,go_sem,e4]) rfl ⟨rfl,?_⟩
 exact HB3.out.setCell (p:=⟨_,0,none⟩) (by show w.heap.size≤w.heap.size+1+1;omega) _
theorem opOf_far {bs:List S50} {q:Nat × Nat} (h:¬ (q.1<bs.length∧q.2<opLen bs q.1)):opOf bs q=z45:=by
 unfold opOf
 by_cases h1:q.1<bs.length
 ·have h2:¬ q.2<(rd_T50 bs (q.1:Int)).f0.length:=fun h2=>h ⟨h1,h2⟩
  unfold rd_T45
  rw [List.getD_eq_getElem?_getD,Int.toNat_natCast,List.getElem?_eq_none (by omega)]
  rfl
 ·have:rd_T50 bs (q.1:Int)=z50:=by
   unfold rd_T50
   rw [List.getD_eq_getElem?_getD,Int.toNat_natCast,List.getElem?_eq_none (by omega)]
   rfl
  rw [this]
  simp [rd_T45,z50]
/-- Whatever place: what goes out there reads as an operation. -/
theorem op_row {w:World} {bs:List S50} {bg:Nat→Option Addr × Nat} {oo:Nat→Nat→Option Addr × Nat} (ho:∀ i,i<bs.length→OpsAt w (bg i).1 (rd_T50 bs (i:Int)).f0 (oo i)) (q:Nat × Nat) :
  (opOf bs q).f5.length≤(oo q.1 q.2).2∧Kd.C (Kd.int .i64) w (oo q.1 q.2).1 (opOf bs q).f5.length (opOf bs q).f5:=by
 by_cases h:q.1<bs.length∧q.2<opLen bs q.1
 ·have:=ho q.1 h.1 q.2 h.2
  exact ⟨this.cap,this.row⟩
 ·rw [opOf_far h]
  exact ⟨Nat.zero_le _,rfl,by simp [z45],fun h=>absurd h (by simp [z45])⟩
set_option maxHeartbeats 8000000 in
set_option maxRecDepth 100000 in
theorem right_in (p:Int) (A:Option Addr) (c:Nat) (bs:List S50) (fn:Int) (w:World) (hC:Kd.C k50 w A bs.length bs) (h:wi (bs.length:Int) 1 4096=true) (h' : wi p 0 8=true) (ht:termsR bs=true) :
  CallsIn Fence.wide 5 Tryz.prog 45 #[.agg #[.int .i64 p,.slice A bs.length c],.int .i64 fn] w fun e w'=>e=.returned (.bool (decide ((plcs bs bs.length).length≤16384) && (plcs bs bs.length).all fun q=>ropX (opOf bs q) fn))∧Below w.heap.size w w':=by
 have hu34:=Tryz.underlying24
 have hlen:bs.length≤1000000000000:=by
  simp only [wi,decide_eq_true_eq] at h
  omega
 have H:=ak_ h
 have H':=ak_ h'
 have HT:=ak_ ht
 have HC:=ak_ hC
 have HLN:=ak_ hlen
 clear h h' ht hC hlen
 refine callsIn_of_wp_marks Tryz.func45 rfl trivial ?_ rfl
 simp only [Tryz.ntmps45,List.size_toArray,List.length_cons,List.length_nil,Nat.reduceAdd,Nat.reduceSub,Array.replicate_succ,Array.replicate_zero,List.push_toArray,List.append_toArray,List.nil_append,List.cons_append]
 gi_wp2_with (refine ⟨trivial,?_⟩;first
  | (gi_at_call 75;refine (ops_in _ _ _ _ _ _).mono ?_;rintro e w4 ⟨rfl,rfl⟩)
  | (gi_at_call 72;refine (callsIn_wide.2 (containsB_any A c bs ⟨w.heap.size,0,none⟩ A bs.length c _ (Kd.C_below HC.out HB2.out) (blk_cell HF2.out 1))).mono ?_;rintro e w3 ⟨rfl,hb⟩;rw [show (bs.all fun x=>rtT x.f1.f0 x.f1.f1 x.f1.f2 x.f1.f3 ((bs.length:Nat):Int))=true from HT.out];have HB3:=ak_ (below_then HB2.out HB2.out.size hb);have HX3:=ak_ (blk_below HX2.out hb);have HF3:=ak_ (blk_below HF2.out hb);have HN3:=ak_ (blk_below HN2.out hb);clear c0 c1;have HF4:=ak_ (blk_alloc HF3.out (.cells #[.int .i64 0] 3));have c0:=bc_ HF4 0;have c1:=bc_ HF4 1;simp only [ga_,gb_,gc_] at c0 c1;clear hb)
  | (have hz:=HB1;clear hz;gi_at_call 71;refine (callsIn_wide.2 (within_any _ _ _ _)).mono ?_;rintro e w2 ⟨rfl,hb⟩;rw [H'.out];have HB2:=ak_ (below_then HB1.out HB1.out.size hb);have HX2:=ak_ (blk_below HX.out hb);have HN2:=ak_ (blk_below HN.out hb);have HF2:=ak_ (blk_below HF.out hb);clear c0 c1;have c0:=bc_ HF2 0;have c1:=bc_ HF2 1;simp only [ga_,gb_,gc_] at c0 c1;clear hb)
  | (gi_at_call 71;refine (callsIn_wide.2 (within_any _ _ _ _)).mono ?_;rintro e w1 ⟨rfl,hb⟩;rw [H.out];have HB1:=ak_ (below_then (rW_below w p A bs.length c fn) (rW_below w p A bs.length c fn).size hb);have HX:=ak_ (blk_below (rW_box w p A bs.length c fn) hb);have HN:=ak_ (blk_below (rW_fn w p A bs.length c fn) hb);have HF:=ak_ (blk_below (rW_f w p A bs.length c fn) hb);have c0:=bc_ HF 0;have c1:=bc_ HF 1;simp only [ga_,gb_,gc_] at c0 c1;clear hb))
 clear c0 c1
 obtain ⟨S,hS⟩:∃ S,w.heap.size=S:=⟨_,rfl⟩
 obtain ⟨M,hM⟩:∃ M,w3.heap.size=M:=⟨_,rfl⟩
 obtain ⟨w5,hw5⟩:∃ w5,(w3.alloc (.cells #[.int .i64 0] 3)).alloc (.cells #[.int .i64 p,.slice A bs.length c] 24)=w5:=⟨_,rfl⟩
 have hSM:S+3≤M:=by have:=blk_lt HX3.out;omega
 have bR3:Boxed w3 (S+2) 4 (.bool false):=by rw [← hS];exact HX3.out
 have bN3:Boxed w3 (S+1) 3 (.int .i64 fn):=by rw [← hS];exact HN3.out
 have hz5:w5.heap.size=M+2:=by rw [← hw5,← hM];simp [World.size_alloc]
 have bR5:Boxed w5 (S+2) 4 (.bool false):=by rw [← hw5];exact (bR3.alloc _).alloc _
 have bN5:Boxed w5 (S+1) 3 (.int .i64 fn):=by rw [← hw5];exact (bN3.alloc _).alloc _
 have bC5:Boxed w5 M 3 (.int .i64 0):=by
  rw [← hw5]
  have:=Boxed.new w3 3 (.int .i64 0)
  rw [hM] at this
  exact this.alloc _
 have bF5:w5.heap[M+1]?=some (.cells #[.int .i64 p,.slice A bs.length c] 24 (0,0)):=by
  rw [← hw5]
  have:=blk_new (w3.alloc (.cells #[.int .i64 0] 3)) (.cells #[.int .i64 p,.slice A bs.length c] 24)
  rw [World.size_alloc,hM] at this
  exact this
 have hB5:Below S w w5:=by rw [← hw5,← hS];exact below_alloc (below_alloc HB3.out _) _
 obtain ⟨bg,hbg⟩:=blks_at HC.out
 obtain ⟨oo,hoo⟩:∃ oo:Nat→Nat→Option Addr × Nat,∀ i,i<bs.length→OpsAt w (bg i).1 (rd_T50 bs (i:Int)).f0 (oo i):=choice_ bs.length (fun i (og:Nat→Option Addr × Nat)=>OpsAt w (bg i).1 (rd_T50 bs (i:Int)).f0 og) (fun i hi=>ops_at (hbg i hi).row)
 have HBG:=ak_ hbg
 have HOO:=ak_ hoo
 have hst:=ops_stops 4 (by decide) (M+1) A c bs bg oo HLN.out (KE S (M+1)) (fun h k=>h.trans k) (fun h=>KE.of_below h) w5 (fun W wr hW hk=>by
  have hkc:KC w wr:=KE.kc (below_then (show Below w.heap.size w w5 by rw [hS];exact hB5) (show w.heap.size≤w5.heap.size by have:=hB5.size;omega) hW) (by omega) hk
  refine ⟨?_,HBG.out.kc hkc,fun i hi=>(HOO.out i hi).kc hkc⟩
  have h1:=hk.cells (M+1) _ (by omega) ((hW.block (M+1) (blk_lt bF5)).trans bF5) rfl
  have h2:=blk_cell h1 1
  simpa only [List.getElem?_toArray,List.getElem?_cons_zero,List.getElem?_cons_succ] using h2)
 simp only [hS,hM,Nat.add_assoc,Nat.reduceAdd]
 rw [hw5]
 clear hw5 HX3 HN3 HF4 HF3 HB3 bR3 bN3 hbg hoo HX2 HN2 HF2 HB2 HX HN HF HB1 HT HC H H'
 refine wpIn_rangeFunc_ownGA rfl (by decide) (gf:=97) (lb:=#[.pointer (some ⟨M+1,0,none⟩)]) rfl trivial (enters_of Tryz.func97 (by kernel_rfl) rfl)
  hst (fun h k=>h.trans k) (fun W b o o' hb ho hnc _=>KE.putObj W b o' ho hnc) (Below.refl _ _) (fun _=>rfl)
  (fun pre W=>(pre.length≤16384∧∀ q∈pre,ropX (opOf bs q) fn=true)∧Boxed W (S+1) 3 (.int .i64 fn)∧Boxed W (S+2) 4 (.bool false)∧Boxed W M 3 (.int .i64 (pre.length:Int))∧Below S w W)
  (fun cd pre W=>(cd=.ret∧(16384<pre.length∨∃ q∈pre,ropX (opOf bs q) fn=false))∧Boxed W (S+2) 4 (.bool false)∧Below S w W)
  ?hI ?hIx ⟨⟨by simp,by simp⟩,bN5,bR5,bC5,hB5⟩
  (fun x b=>{ tmps:=#[.agg #[.int .i64 p,.slice A bs.length c],.int .i64 fn,.pointer (some ⟨S,0,none⟩),.pointer (some ⟨S+1,0,none⟩),.pointer (some ⟨S+2,0,none⟩),.pointer (some ⟨M,0,none⟩),.pointer (some ⟨b,0,none⟩),
     .pointer (some ⟨S,1,none⟩),.slice A bs.length c,.int .i64 bs.length,.bool true,.bool false,.bool false,.pointer (some ⟨S,0,none⟩),.int .i64 p,.bool true,.bool false,.bool false,.pointer (some ⟨S,1,none⟩),.slice A bs.length c,
     .func (.func 73) #[] #[.pointer (some ⟨S,0,none⟩)],.bool false,.agg #[.int .i64 p,.slice A bs.length c],.func (.func 97) #[] #[.pointer (some ⟨M+1,0,none⟩)],opV (opOf bs x) (oo x.1 x.2),undef,undef,undef,undef,undef,undef,undef,undef,undef,undef],defers:=[] })
  (fun x=>.cells #[.int .i64 (opOf bs x).f0,.int .i64 (opOf bs x).f1,.int .i64 (opOf bs x).f2,.int .i64 (opOf bs x).f3,.int .i64 (opOf bs x).f4,.slice (oo x.1 x.2).1 (opOf bs x).f5.length (oo x.1 x.2).2] 45)
  (fun W o=>KE.of_below (below_alloc (Below.refl _ _) _)) ?assign ?body ?done ?stop
 case hI =>
  exact OwnFrom.and (ownFrom_pure _ _) (OwnFrom.and (Own.from (boxed_own (S+1) 3 fun _=>.int .i64 fn) _) (OwnFrom.and (Own.from (boxed_own (S+2) 4 fun _=>.bool false) _) (OwnFrom.and (Own.from (boxed_own M 3 fun pre:List (Nat × Nat)=>.int .i64 (pre.length:Int)) _) (ownFrom_below (by omega) (by omega)))))
 case hIx =>
  intro cd
  exact OwnFrom.and (ownFrom_pure _ _) (OwnFrom.and (Own.from (boxed_own (S+2) 4 fun _=>.bool false) _) (ownFrom_below (by omega) (by omega)))
 case assign =>
  intro lr x W KK hKK
  unfold opsV opV
  unfold opV at hKK
  generalize opOf bs x=y at hKK
  generalize oo x.1 x.2=g at hKK
  gi_wp2
  exact hKK
 case body =>
  rintro lr pre x W b ⟨⟨hn,hall⟩,hN,hR,hM',hB⟩ hlt hbM hbx
  have c0:=blk_cell hbx 0
  have c1:=blk_cell hbx 1
  have c2:=blk_cell hbx 2
  have c3:=blk_cell hbx 3
  have c4:=blk_cell hbx 4
  have c5:=blk_cell hbx 5
  simp only [ga_,gb_,gc_] at c0 c1 c2 c3 c4 c5
  have HBX:=ak_ hbx
  obtain ⟨hcap,hrow0⟩:=op_row HOO.out x
  have HROW:=ak_ hrow0
  have HCAP:=ak_ hcap
  have HPL:Aside0 (((pre++[x]).length:Nat)=pre.length+1):=⟨by simp⟩
  have HALL:=ak_ hall
  have HNN:=ak_ hn
  have cM:=hM'.cell
  have fM:=hM'.frozen
  have cN:=hN.cell
  have cR:=hR.cell
  have fR:=hR.frozen
  have HN:=ak_ hN
  have HR:=ak_ hR
  have HM:=ak_ hM'
  have HB:=ak_ hB
  clear hN hR hM' hB hbx hcap hrow0 hall hlt
  by_cases hq:pre.length=16384
  ·have HQ:Aside0 (16384<(pre++[x]).length):=⟨by have:=HPL.out;omega⟩
   have hz:(pre.length:Int)=16384:=by omega
   rw [hz] at cM HM
   clear hz hq hn
   gi_wp2_with (refine ⟨trivial,?_⟩)
   exact ⟨((KeepsOthers.setCell _ _ _).trans (KeepsOthers.setCell _ _ _)).from _,⟨rfl,.inl HQ.out⟩,Boxed.set _ (HR.out.other (by omega) _),(HB.out.setCell (p:=⟨M,0,none⟩) (by show S≤M;omega) _).setCell (p:=⟨S+2,0,none⟩) (by show S≤S+2;omega) _⟩
  ·have hz:(pre.length:Int)<16384:=by omega
   have hz0:0≤(pre.length:Int):=by omega
   have HQ:Aside0 ((pre++[x]).length≤16384):=⟨by have:=HPL.out;omega⟩
   have HZL:Aside0 (((pre++[x]).length:Int)=(pre.length:Int)+1):=⟨by have:=HPL.out;omega⟩
   generalize (pre.length:Int)=z at hz hz0 cM HM HZL
   have HM2:=ak_ (Boxed.set (.int .i64 (z+1)) HM.out)
   have hcall:=rightOpX_any (opOf bs x) fn (oo x.1 x.2).1 (oo x.1 x.2).2 (W.setCell ⟨M,0,none⟩ (.int .i64 (z+1))) (Kd.C_below HROW.out (by rw [hS];exact HB.out.setCell (p:=⟨M,0,none⟩) (by show S≤M;omega) _)) HCAP.out
   have HCL:=ak_ (callsIn_wide (n:=2) |>.2 hcall)
   clear hcall hn hq
   obtain ⟨rb,hrb⟩:∃ rb,ropX (opOf bs x) fn=rb:=⟨_,rfl⟩
   have HRB:=ak_ hrb
   rw [hrb] at HCL
   clear hrb
   unfold opV
   generalize opOf bs x=y at c0 c1 c2 c3 c4 c5 HCL ⊢
   generalize oo x.1 x.2=g at c5 HCL ⊢
   cases rb with
   | true =>
    gi_wp2_with (refine ⟨trivial,?_⟩;gi_at_call 76;refine (CallsIn.inRound lr HCL.out).mono ?_;rintro e w6 ⟨rfl,hb⟩;have HB6:=ak_ hb;clear hb)
    have e1:Boxed w6 (S+1) 3 (.int .i64 fn):=blk_below (HN.out.other (by omega) _) HB6.out
    have e2:Boxed w6 (S+2) 4 (.bool false):=blk_below (HR.out.other (by omega) _) HB6.out
    have e3:Boxed w6 M 3 (.int .i64 (z+1)):=blk_below HM2.out HB6.out
    refine ⟨((KeepsOthers.setCell _ _ _).from _).trans (KeepsFrom.of_grownBy (row:=none) (grown_of_below HB6.out none) (fun j e=>by cases e)),(KE.setCell _ _ _ ⟨by show S≤M;omega,by show M<M+1;omega⟩).trans (KE.of_below HB6.out),⟨HQ.out,fun q hq=>?_⟩,e1,e2,?_,?_⟩
    ·rcases List.mem_append.1 hq with hq|hq
     ·exact HALL.out q hq
     ·rw [List.mem_singleton.1 hq];exact HRB.out
    ·rw [HZL.out];exact e3
    ·exact below_then (HB.out.setCell (p:=⟨M,0,none⟩) (by show S≤M;omega) _) (by have:=HB.out.size;simp only [World.size_setCell];omega) HB6.out
   | false =>
    gi_wp2_with (refine ⟨trivial,?_⟩;gi_at_call 76;refine (CallsIn.inRound lr HCL.out).mono ?_;rintro e w6 ⟨rfl,hb⟩;have HB6:=ak_ hb;clear hb;have HR6:Aside0 (Boxed w6 (S+2) 4 (.bool false)):=⟨blk_below (HR.out.other (by omega) _) HB6.out⟩;clear cR fR;have cR:=HR6.out.cell;have fR:=HR6.out.frozen)
    refine ⟨(((KeepsOthers.setCell _ _ _).from _).trans (KeepsFrom.of_grownBy (row:=none) (grown_of_below HB6.out none) (fun j e=>by cases e))).trans ((KeepsOthers.setCell _ _ _).from _),⟨rfl,.inr ⟨x,by simp,HRB.out⟩⟩,HR6.out.set _,?_⟩
    exact (below_then (HB.out.setCell (p:=⟨M,0,none⟩) (by show S≤M;omega) _) (by have:=HB.out.size;simp only [World.size_setCell];omega) HB6.out).setCell (p:=⟨S+2,0,none⟩) (by show S≤S+2;omega) _
 case done =>
  rintro Dd ys W hDd rfl ⟨⟨hn,hall⟩,hN,hR,hM',hB⟩ hK
  have cR:=hR.cell
  have fR:=hR.frozen
  have HR:=ak_ hR
  have HB:=ak_ hB
  have HK:=ak_ hK
  have HV:Aside0 ((decide ((plcs bs bs.length).length≤16384) && (plcs bs bs.length).all fun q=>ropX (opOf bs q) fn)=true):=⟨by
   rw [decide_eq_true hn,Bool.true_and]
   exact List.all_eq_true.2 hall⟩
  clear hN hR hM' hB hK hn hall
  gi_wp2
  have hR' : Boxed (W.setCell ⟨S+2,0,none⟩ (.bool true)) (S+2) 4 (.bool true):=HR.out.set _
  have hK':=(KeepsOthers.setCell W ⟨S+2,0,none⟩ (.bool true)).same Dd _ HK.out rfl
  refine leavesM_marks [Dd] _ (by simp) (fun r hr=>by rw [List.mem_singleton.1 hr];exact hK') (fun W' hW'=>?_)
  have hcR:W'.cell? ⟨S+2,0,none⟩=some (.bool true):=(hW'.kc (fun r hr=>by rw [List.mem_singleton.1 hr];exact ⟨_,hK',rfl⟩)).cell hR'.cell
  refine ⟨.bool true,by simp [results,Tryz.results45,go_sem,hcR],by rw [HV.out],?_⟩
  rw [hS]
  exact (HB.out.setCell (p:=⟨S+2,0,none⟩) (by show S≤S+2;omega) _).trans (hW'.below (fun r hr=>by rw [List.mem_singleton.1 hr];omega))
 case stop =>
  rintro Dd cd pre W hDd ⟨rest,hrest⟩ ⟨⟨rfl,hbad⟩,hR,hB⟩ hK
  have cR:=hR.cell
  have HR:=ak_ hR
  have HB:=ak_ hB
  have HK:=ak_ hK
  have HV:Aside0 ((decide ((plcs bs bs.length).length≤16384) && (plcs bs bs.length).all fun q=>ropX (opOf bs q) fn)=false):=⟨by
   rw [hrest]
   rcases hbad with hbad|⟨q,hq,hf⟩
   ·rw [decide_eq_false (by rw [List.length_append];omega),Bool.false_and]
   ·rw [show ((pre++rest).all fun q=>ropX (opOf bs q) fn)=false from List.all_eq_false.2 ⟨q,List.mem_append_left _ hq,by simp [hf]⟩,Bool.and_false]⟩
  clear hR hB hK hbad hrest
  gi_wp2
  refine leavesM_marks [Dd] _ (by simp) (fun r hr=>by rw [List.mem_singleton.1 hr];exact HK.out) (fun W' hW'=>?_)
  have hcR:W'.cell? ⟨S+2,0,none⟩=some (.bool false):=(hW'.kc (fun r hr=>by rw [List.mem_singleton.1 hr];exact ⟨_,HK.out,rfl⟩)).cell HR.out.cell
  refine ⟨.bool false,by simp [results,Tryz.results45,go_sem,hcR],by rw [HV.out],?_⟩
  rw [hS]
  exact HB.out.trans (hW'.below (fun r hr=>by rw [List.mem_singleton.1 hr];omega))
/-- Right. -/
theorem right_any (p:Int) (A:Option Addr) (c:Nat) (bs:List S50) (fn:Int) (w:World) (hC:Kd.C k50 w A bs.length bs) :
  Calls Tryz.prog 45 #[.agg #[.int .i64 p,.slice A bs.length c],.int .i64 fn] w fun e w'=>e=.returned (.bool (rightF p bs fn))∧Below w.heap.size w w':=by
 unfold rightF
 cases h1:wi (bs.length:Int) 1 4096 with
 | false=>exact right_few p A c bs fn w h1
 | true =>
  cases h2:wi p 0 8 with
  | false=>exact right_par p A c bs fn w h1 h2
  | true =>
   cases h3:termsR bs with
   | false=>exact right_term p A c bs fn w hC h1 h2 h3
   | true =>
    simp only [Bool.true_and]
    exact callsIn_wide.1 (right_in p A c bs fn w hC h1 h2 h3)
end Go.Proofs.YtnkgbnbbmcoiiaaGreat.S
