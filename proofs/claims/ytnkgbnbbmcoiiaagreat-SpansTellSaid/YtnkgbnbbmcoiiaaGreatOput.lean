import Derived.Test.YtnkgbnbbmcoiiaaGreatBk
import Derived.Test.YtnkgbnbbmcoiiaaGreatOrep
import Derived.RangeFuncBound
import Derived.RangeFuncCalls
import Derived.Shelf.Abstract
import Derived.Shelf.RegionOpen
import Derived.WalkKit
import Derived.OwnWalkIn
import Derived.TacticsInMore
import Derived.LoopNIn
import Derived.LoopIn
import Derived.Outline
import Derived.Shelf.SlIterI.Nil
import Derived.Shelf.SlIterI.Sorted
import Derived.Test.YtnkgbnbbmcoiiaaGreatS0
import Derived.Test.YtnkgbnbbmcoiiaaGreatRfa
import Derived.Test.YtnkgbnbbmcoiiaaGreatOrop
import Derived.Test.YtnkgbnbbmcoiiaaGreatS4
namespace Go.Proofs.YtnkgbnbbmcoiiaaGreat.S
open Go.RowKit Go.IM Go.Proofs.YtnkgbnbbmcoiiaaGreatW.PrintWords Go.Proofs.YtnkgbnbbmcoiiaaGreatW.PrintLast Go.Proofs.YtnkgbnbbmcoiiaaGreatW.PrintMore
set_option linter.unusedVariables false
set_option linter.unusedSimpArgs false
/-- The blocks behind a Term. -/
def succT (t:S48):List Int:=if t.f0=2 then [t.f2,t.f3] else if t.f0=1 then [t.f2] else []
def succL (bs:List S50):List (List Int):=bs.map fun x=>succT x.f1
theorem info31s:(Tryz.prog.info? 31).map (fun i=>i.size)=some 1:=by kernel_rfl
/-- A row that is filled. -/
def filled (f:Nat→List Int) (n j:Nat):List (List Int):=(List.range j).map f++List.replicate (n - j) []
theorem filled_zero (f:Nat→List Int) (n:Nat):filled f n 0=List.replicate n []:=by simp [filled]
theorem filled_full (f:Nat→List Int) (n:Nat):filled f n n=(List.range n).map f:=by simp [filled]
theorem filled_length (f:Nat→List Int) {n j:Nat} (h:j≤n):(filled f n j).length=n:=by simp [filled];omega
theorem filled_set (f:Nat→List Int) {n j:Nat} (h:j<n):(filled f n j).set j (f j)=filled f n (j+1):=by
 unfold filled
 obtain ⟨m,hm⟩:∃ m,n - j=m+1:=⟨n - j - 1,by omega⟩
 have hm' : n - (j+1)=m:=by omega
 rw [hm,hm',List.range_succ,List.map_append,List.set_append_right _ _ (by simp)]
 simp [List.replicate_succ]
theorem filled_next (f:Nat→List Int) {n j:Nat} (h:j<n) (e:f j=[]):filled f n (j+1)=filled f n j:=by
 rw [← filled_set f h,e]
 unfold filled
 obtain ⟨m,hm⟩:∃ m,n - j=m+1:=⟨n - j - 1,by omega⟩
 rw [hm,List.set_append_right _ _ (by simp)]
 simp [List.replicate_succ]
theorem succL_filled (bs:List S50):filled (fun j:Nat=>succT (rd_T50 bs (j:Int)).f1) bs.length bs.length=succL bs:=by
 rw [filled_full]
 unfold succL
 apply List.ext_getElem (by simp)
 intro i h1 h2
 simp at h1 h2
 simp [rd43' h1]
set_option maxHeartbeats 8000000 in
set_option maxRecDepth 100000 in
theorem succ_any (p:Int) (A:Option Addr) (c:Nat) (bs:List S50) (w:World) (hC:Kd.C k50 w A bs.length bs) (hlen:bs.length≤4096) :
  Calls Tryz.prog 52 #[.agg #[.int .i64 p,.slice A bs.length c]] w fun e w'=>∃ v,e=.returned v∧Kd.R (Kd.slice 3 (Kd.int .i64)) 31 w' w.heap.size (fun _=>True) v (succL bs)∧Below w.heap.size w w':=by
 have hu34:=Tryz.underlying24
 have hu41:=Tryz.underlying48
 have hu43:=Tryz.underlying50
 have HC:=ak_ hC
 have HLN:=ak_ hlen
 have hsf:=succL_filled bs
 obtain ⟨f,hf⟩:∃ f:Nat→List Int,f=fun j:Nat=>succT (rd_T50 bs (j:Int)).f1:=⟨_,rfl⟩
 rw [← hf] at hsf
 have HSF:=ak_ hsf
 have HFF:=ak_ hf
 clear hC hsf hf hlen
 have HB0:=ak_ (below_alloc (Below.refl w.heap.size w) (.cells #[.int .i64 p,.slice A bs.length c] 24))
 go_enter Tryz.func52,Tryz.ntmps52
 go_wp2_with ((with_reducible refine gate_dst (N:=9) rfl ?_);refine Kd.R_make (Kd.slice 3 (Kd.int .i64)) w.heap.size 31 rfl (N:=9) rfl 35 _ _ rfl (bs.length:Int) rfl rfl Tryz.underlying35 (.slice none 0 0) 24 info31 rfl (by decide) (by decide) ([]:List Int) (ok:=fun _=>True) (okp:=fun _=>True) ⟨_,rfl,Kd.R_nil _ _ _ _ _⟩ (fun _ hk=>hk) trivial (by omega) (by have:=HLN.out;omega) HB0.out HB0.out.size ?_;intro v1 w1 hr1 hb1 hg1 hn1;have HR1:=ak_ hr1;have HB1:=ak_ hb1;have hf1:=blk_grown (blk_new w (.cells #[.int .i64 p,.slice A bs.length c] 24)) hg1 (by simp);have c1:=blk_cell hf1 1;simp only [ga_,gb_,gc_] at c1;clear hr1 hb1 hg1 hn1 hf1)
 clear c1
 simp only [Int.toNat_natCast] at HR1
 have hn0:0<bs.length∨bs.length=0:=by omega
 go_loopw [13] (fun i wr=>∃ j:Nat,j≤bs.length∧i=.int .i64 (j:Int)∧Aside0 (Kd.R (Kd.slice 3 (Kd.int .i64)) 31 wr w.heap.size (fun _=>True) v1 (filled f bs.length j))∧Aside0 (Below w.heap.size w wr)) (fun i _=>bs.length - (intOf i).toNat)
 case atStart=>exact ⟨0,Nat.zero_le _,rfl,⟨by rw [filled_zero];exact HR1.out⟩,HB1⟩
 case round =>
  obtain ⟨j,hj,rfl,HO,HB⟩:=hrel
  have hz:=HLN.out
  by_cases hlt:j<bs.length
  ·have b1:decide ((j:Int)<(bs.length:Int))=true:=decide_eq_true (by omega)
   obtain ⟨ad,A0,c0,eA,k0,k1,k2,k3,k4,_,_⟩:=at_T50 (Kd.C_below HC.out HB.out) (j:Int) (by omega) (by omega)
   simp only [Int.toNat_natCast] at k0 k1 k2 k3 k4
   have HFJ:Aside0 (f j=succT (rd_T50 bs (j:Int)).f1):=⟨by rw [HFF.out]⟩
   generalize rd_T50 bs (j:Int)=x at k0 k1 k2 k3 k4 HFJ
   generalize x.f0.length=L at k0
   generalize x.f1=t at k1 k2 k3 k4 HFJ
   subst eA
   obtain ⟨g,cap,hv,hg0,hglt,_⟩:=Kd.R_form HO.out (by rw [filled_length f hj];omega)
   rw [filled_length f hj] at hv
   subst hv
   obtain ⟨t0,t1,t2,t3⟩:=t
   unfold succT at HFJ
   simp only at k1 k2 k3 k4 HFJ
   by_cases h2:t0=2
   ·rw [if_pos h2] at HFJ
    have q2:(t0 == 2)=true:=beq_iff_eq.2 h2
    clear h2
    have HBX:=ak_ (below_alloc HB.out (.cells #[.slice A0 L c0,.int .i64 t0,.int .i64 t1,.int .i64 t2,.int .i64 t3] 50))
    go_wp2_with (first|((with_reducible refine gate_dst (N:=31) rfl ?_);refine Kd.R_lit (Kd.int .i64) _ 3 rfl (N:=31) rfl (xs:=([t2,t3]:List Int)) (inner:=[.int .i64 t2,.int .i64 t3]) (ok:=fun _=>True) (okp:=fun _=>True) ?hr ?hp (fun _ hk=>hk) trivial (Below.refl _ _) (Nat.le_refl _) (by simp) ?_;(case hr=>first|(go_simp;done)|(go_simp;rfl));(case hp=>exact (Reps.one (show Kd.M (Kd.int .i64) _ _ _ t2 [.int .i64 t2] from rfl) (Reps.one (show Kd.M (Kd.int .i64) _ _ _ t3 [.int .i64 t3] from rfl) (Reps.none _ _))));intro v2 w2 hr2 hb2 hg2 hn2;have HL2:=ak_ (Kd.R_mono (Kd.R_bound hr2) (ok':=fun k=>k≠g) (fun k hk e=>by have:=hk.2.1;simp only [World.size_alloc] at this;omega));have HR2:=ak_ (Kd.R_grown (Kd.R_alloc HO.out _) hg2 (fun _ _=>by simp));have HB2:=ak_ (below_then HBX.out HBX.out.size hb2);have HS2:=ak_ (below_size HBX.out);clear hr2 hb2 hg2 hn2)|(obtain ⟨ce,hcl,_,hcc,_⟩:=Kd.R_elem HR2.out ([]:List Int) (j:Int) (by omega) (by omega);refine Kd.R_store (Kd.slice 3 (Kd.int .i64)) w.heap.size rfl rfl 31 _ _ rfl 31 (g:=g) (n:=bs.length) (cap:=cap) (j:Int) 0 (filled f bs.length j) ([t2,t3]) v2 [v2] ce (fun _=>True) (fun k=>k≠g) rfl (by simp [Kd.slice]) rfl (by obtain ⟨Av,cv,rfl⟩:=Kd.R_slice HL2.out;rfl) info31s (by obtain ⟨Av,cv,rfl⟩:=Kd.R_slice HL2.out;intro q hq;rw [List.mem_singleton.1 hq];rfl) HR2.out (by omega) (by omega) hcl hcc (by simp [Kd.slice]) ?hM (fun k hk=>⟨trivial,hk⟩) HB2.out ?_;(case hM=>(rw [show ce.take 0++[v2]++ce.drop (0+[v2].length)=[v2] by rw [List.drop_eq_nil_of_le (by rw [hcl];simp [Kd.slice])];simp];exact ⟨v2,rfl,Kd.R_lower HL2.out (by have:=HS2.out;simp only [World.size_alloc] at this ⊢;omega)⟩));intro w3 hr3 hb3 hg3;have HR3:=ak_ hr3;have HB3:=ak_ hb3;clear hr3 hb3 hg3 hcl hcc))
    go_roundw
    case rel=>exact ⟨j+1,by omega,by go_num,⟨by rw [← filled_set f hlt,HFJ.out];have h:=HR3.out;rwa [Int.toNat_natCast] at h⟩,HB3⟩
    case measure=>simp [intOf];omega
   ·rw [if_neg h2] at HFJ
    have q2:(t0 == 2)=false:=beq_eq_false_iff_ne.2 h2
    clear h2
    by_cases h1:t0=1
    ·rw [if_pos h1] at HFJ
     have q1:(t0 == 1)=true:=beq_iff_eq.2 h1
     clear h1
     have HBX:=ak_ (below_alloc HB.out (.cells #[.slice A0 L c0,.int .i64 t0,.int .i64 t1,.int .i64 t2,.int .i64 t3] 50))
     go_wp2_with (first|((with_reducible refine gate_dst (N:=40) rfl ?_);refine Kd.R_lit (Kd.int .i64) _ 3 rfl (N:=40) rfl (xs:=([t2]:List Int)) (inner:=[.int .i64 t2]) (ok:=fun _=>True) (okp:=fun _=>True) ?hr ?hp (fun _ hk=>hk) trivial (Below.refl _ _) (Nat.le_refl _) (by simp) ?_;(case hr=>first|(go_simp;done)|(go_simp;rfl));(case hp=>exact (Reps.one (show Kd.M (Kd.int .i64) _ _ _ t2 [.int .i64 t2] from rfl) (Reps.none _ _)));intro v2 w2 hr2 hb2 hg2 hn2;have HL2:=ak_ (Kd.R_mono (Kd.R_bound hr2) (ok':=fun k=>k≠g) (fun k hk e=>by have:=hk.2.1;simp only [World.size_alloc] at this;omega));have HR2:=ak_ (Kd.R_grown (Kd.R_alloc HO.out _) hg2 (fun _ _=>by simp));have HB2:=ak_ (below_then HBX.out HBX.out.size hb2);have HS2:=ak_ (below_size HBX.out);clear hr2 hb2 hg2 hn2)|(obtain ⟨ce,hcl,_,hcc,_⟩:=Kd.R_elem HR2.out ([]:List Int) (j:Int) (by omega) (by omega);refine Kd.R_store (Kd.slice 3 (Kd.int .i64)) w.heap.size rfl rfl 31 _ _ rfl 31 (g:=g) (n:=bs.length) (cap:=cap) (j:Int) 0 (filled f bs.length j) ([t2]) v2 [v2] ce (fun _=>True) (fun k=>k≠g) rfl (by simp [Kd.slice]) rfl (by obtain ⟨Av,cv,rfl⟩:=Kd.R_slice HL2.out;rfl) info31s (by obtain ⟨Av,cv,rfl⟩:=Kd.R_slice HL2.out;intro q hq;rw [List.mem_singleton.1 hq];rfl) HR2.out (by omega) (by omega) hcl hcc (by simp [Kd.slice]) ?hM (fun k hk=>⟨trivial,hk⟩) HB2.out ?_;(case hM=>(rw [show ce.take 0++[v2]++ce.drop (0+[v2].length)=[v2] by rw [List.drop_eq_nil_of_le (by rw [hcl];simp [Kd.slice])];simp];exact ⟨v2,rfl,Kd.R_lower HL2.out (by have:=HS2.out;simp only [World.size_alloc] at this ⊢;omega)⟩));intro w3 hr3 hb3 hg3;have HR3:=ak_ hr3;have HB3:=ak_ hb3;clear hr3 hb3 hg3 hcl hcc))
     go_roundw
     case rel=>exact ⟨j+1,by omega,by go_num,⟨by rw [← filled_set f hlt,HFJ.out];have h:=HR3.out;rwa [Int.toNat_natCast] at h⟩,HB3⟩
     case measure=>simp [intOf];omega
    ·rw [if_neg h1] at HFJ
     have q1:(t0 == 1)=false:=beq_eq_false_iff_ne.2 h1
     clear h1
     have HBX:=ak_ (below_alloc HB.out (.cells #[.slice A0 L c0,.int .i64 t0,.int .i64 t1,.int .i64 t2,.int .i64 t3] 50))
     go_wp2_with fail
     go_roundw
     case rel=>exact ⟨j+1,by omega,by go_num,⟨by rw [filled_next f hlt HFJ.out];exact Kd.R_alloc HO.out _⟩,HBX⟩
     case measure=>simp [intOf];omega
  ·have b1:decide ((j:Int)<(bs.length:Int))=false:=decide_eq_false (by omega)
   obtain rfl:j=bs.length:=by omega
   go_wp2_with fail
   go_ret
   exact ⟨v1,rfl,by rw [← HSF.out];exact HO.out,HB.out⟩
end Go.Proofs.YtnkgbnbbmcoiiaaGreat.S
namespace Go.Proofs.YtnkgbnbbmcoiiaaGreat.S
open Go.RowKit Go.Shelf Go.IM Go.Proofs.YtnkgbnbbmcoiiaaGreatW.PrintWords Go.Proofs.YtnkgbnbbmcoiiaaGreatW.PrintLast Go.Proofs.YtnkgbnbbmcoiiaaGreatW.PrintMore
set_option linter.unusedVariables false
attribute [local go_sem] Oper.semAt_some
/-- The operation at a place. -/
def opOf (bs:List S50) (p:Nat × Nat):S45:=rd_T45 (rd_T50 bs (p.1:Int)).f0 (p.2:Int)
def opLen (bs:List S50) (i:Nat):Nat:=(rd_T50 bs (i:Int)).f0.length
/-- The places of the first i blocks' operations. -/
def plcs (bs:List S50) (i:Nat):List (Nat × Nat):=(List.range i).flatMap fun j=>(List.range (opLen bs j)).map fun k=>(j,k)
def rowP (i k:Nat):List (Nat × Nat):=(List.range k).map fun j=>(i,j)
theorem rowP_zero (i:Nat):rowP i 0=[]:=rfl
theorem rowP_succ (i k:Nat):rowP i (k+1)=rowP i k++[(i,k)]:=by unfold rowP;rw [List.range_succ,List.map_append];rfl
theorem plcs_succ (bs:List S50) (i:Nat):plcs bs (i+1)=plcs bs i++rowP i (opLen bs i):=by
 unfold plcs rowP
 rw [List.range_succ,List.flatMap_append]
 simp
theorem plcs_prefix (bs:List S50):∀ m i,∃ rest,plcs bs (i+m)=plcs bs i++rest
 | 0,i=>⟨[],by simp⟩
 | m+1,i=>by
  obtain ⟨rest,h⟩:=plcs_prefix bs m i
  exact ⟨rest++rowP (i+m) (opLen bs (i+m)),by rw [← Nat.add_assoc,plcs_succ,h,List.append_assoc]⟩
theorem rowP_prefix (i:Nat):∀ m k,∃ rest,rowP i (k+m)=rowP i k++rest
 | 0,k=>⟨[],by simp⟩
 | m+1,k=>by
  obtain ⟨rest,h⟩:=rowP_prefix i m k
  exact ⟨rest++[(i,k+m)],by rw [← Nat.add_assoc,rowP_succ,h,List.append_assoc]⟩
theorem part_prefix {bs:List S50} {i k:Nat} (hi:i<bs.length) (hk:k≤opLen bs i):∃ rest,plcs bs bs.length=plcs bs i++rowP i k++rest:=by
 obtain ⟨m,hm⟩:∃ m,bs.length=(i+1)+m:=⟨bs.length - (i+1),by omega⟩
 obtain ⟨r1,h1⟩:=plcs_prefix bs m (i+1)
 obtain ⟨j,hj⟩:∃ j,opLen bs i=k+j:=⟨opLen bs i - k,by omega⟩
 obtain ⟨r2,h2⟩:=rowP_prefix i j k
 exact ⟨r2++r1,by rw [hm,h1,plcs_succ,hj,h2];simp⟩
theorem part_len {bs:List S50} {i k:Nat} (hi:i<bs.length) (hk:k<opLen bs i):(plcs bs i++rowP i k).length<(plcs bs bs.length).length:=by
 obtain ⟨rest,h⟩:=part_prefix hi (Nat.succ_le_of_lt hk)
 rw [h,rowP_succ]
 simp
theorem mem_plcs {bs:List S50} {i j k:Nat} : (j,k)∈plcs bs i↔j<i∧k<opLen bs j:=by
 unfold plcs
 simp [List.mem_flatMap,List.mem_range,List.mem_map,Prod.mk.injEq]
/-- What an iterator over a function's operations reads. -/
structure OpsF (wr:World) (Bs:Nat) (A:Option Addr) (c:Nat) (bs:List S50) (bg:Nat→Option Addr × Nat) (oo:Nat→Nat→Option Addr × Nat):Prop where mk ::
 box:wr.cell? ⟨Bs,1,none⟩=some (.slice A bs.length c)
 blks:BlksAt wr A bs bg
 ops:∀ i,i<bs.length→OpsAt wr (bg i).1 (rd_T50 bs (i:Int)).f0 (oo i)
/-- What goes out. -/
def opsV (bs:List S50) (oo:Nat→Nat→Option Addr × Nat) (p:Nat × Nat):Array Value:=#[opV (opOf bs p) (oo p.1 p.2)]
set_option maxRecDepth 100000 in
set_option maxHeartbeats 4000000 in
theorem ops1_in (n:Nat) (hn:1≤n) (l Bs:Nat) (A:Option Addr) (c:Nat) (bs:List S50) (bg:Nat→Option Addr × Nat) (oo:Nat→Nat→Option Addr × Nat) (hlen:bs.length≤1000000000000)
  (Kp:World→World→Prop) (hKt:∀ {A B C:World},Kp A B→Kp B C→Kp A C) (hKb:∀ {A B:World},Below A.heap.size A B→Kp A B)
  (J Jx:List (Nat × Nat)→World→Prop) (hJ:∀ s A B,J s A→Below A.heap.size A B→J s B)
  (hY:∀ pre x W,J pre W→pre.length<(plcs bs bs.length).length→YieldAt Fence.wide (n - 1) Tryz.prog l (opsV bs oo x) W fun e W' =>
   (e=.returned (.bool true)∧J (pre++[x]) W'∧Kp W W')∨(e=.returned (.bool false)∧Jx (pre++[x]) W'))
  (W:World) (hF:∀ wr,Kp W wr→OpsF wr Bs A c bs bg oo) (h0:J [] W) :
  CallsIn Fence.wide n Tryz.prog 97 #[.func (.yield l) #[] #[],.pointer (some ⟨Bs,0,none⟩)] W fun e W'=>(∃ v,e=.returned v) ∧
   ((∃ ys,ys=plcs bs bs.length∧J ys W')∨(∃ pre,(∃ rest,plcs bs bs.length=pre++rest)∧Jx pre W')):=by
 have hu43:=Tryz.underlying50
 have hu45:=Tryz.underlying45
 have hu41:=Tryz.underlying48
 have hu34:=Tryz.underlying24
 have hbox:=(hF W (hKb (Below.refl _ _))).box
 have HF:=ak_ hF
 have HY:=ak_ hY
 have HJ:=ak_ hJ
 have HKT:=ak_ @hKt
 have HKB:=ak_ @hKb
 clear hF hY hJ hKt hKb
 refine callsIn_of_wp Tryz.func97 rfl trivial ?_ rfl
 simp only [Tryz.ntmps97,List.size_toArray,List.length_cons,List.length_nil,Nat.reduceAdd,Nat.reduceSub,Array.replicate_succ,Array.replicate_zero,List.push_toArray,List.append_toArray,List.nil_append,List.cons_append]
 gi_wp2
 clear hbox
 gi_loopw [10] (fun i wr=>∃ k:Nat,k≤bs.length∧i=.int .i64 (k:Int)∧Aside0 (J (plcs bs k) wr)∧Aside0 (Kp W wr))
  (fun i _=>bs.length - (intOf i).toNat)
 case atStart=>exact ⟨0,Nat.zero_le _,rfl,⟨h0⟩,⟨HKB.out (Below.refl _ _)⟩⟩
 case round =>
  obtain ⟨k,hk,rfl,HJs,HK⟩:=hrel
  by_cases hlt:k<bs.length
  ·have b1:decide ((k:Int)<(bs.length:Int))=true:=decide_eq_true (by omega)
   have HFr:=ak_ (HF.out wr HK.out)
   obtain ⟨⟨ad,eA,k0,k1,k2,k3,k4⟩,_,hrow⟩:=HFr.out.blks k hlt
   have hLm:opLen bs k≤9223372036854775807:=hrow.2.1
   clear hrow
   have hLe:(rd_T50 bs (k:Int)).f0.length=opLen bs k:=rfl
   rw [hLe] at k0
   obtain ⟨L,hL⟩:∃ L,opLen bs k=L:=⟨_,rfl⟩
   obtain ⟨GA,GC,hG⟩:∃ GA GC,bg k=(GA,GC):=⟨_,_,rfl⟩
   have HPL:Aside0 (opLen bs k=L):=⟨hL⟩
   have HPG:Aside0 (bg k=(GA,GC)):=⟨hG⟩
   rw [hL,hG] at k0
   rw [hL] at hLm
   simp only at k0
   generalize (rd_T50 bs (k:Int)).f1=tm at k1 k2 k3 k4
   clear hLe hL hG
   subst eA
   gi_wp2_with fail
   have HB1:=ak_ (below_alloc (Below.refl wr.heap.size wr) (.cells #[.slice GA L GC,.int .i64 tm.f0,.int .i64 tm.f1,.int .i64 tm.f2,.int .i64 tm.f3] 50))
   gi_loopw [17] (fun i wr=>∃ j:Nat,j≤L∧i=.int .i64 (j:Int)∧Aside0 (J (plcs bs k++rowP k j) wr)∧Aside0 (Kp W wr))
    (fun i _=>L - (intOf i).toNat)
   case atStart=>exact ⟨0,Nat.zero_le _,rfl,⟨by rw [rowP_zero,List.append_nil];exact HJ.out _ _ _ HJs.out HB1.out⟩,⟨HKT.out HK.out (HKB.out HB1.out)⟩⟩
   case round =>
    obtain ⟨j,hj,rfl,HJq,HKq⟩:=hrel
    by_cases hlq:j<L
    ·have b1:decide ((j:Int)<(L:Int))=true:=decide_eq_true (by omega)
     have hop:=(HF.out wr HKq.out).ops k hlt j (by show j<opLen bs k;rw [HPL.out];exact hlq)
     rw [HPG.out] at hop
     simp only at hop
     have HPX:Aside0 (rd_T45 (rd_T50 bs (k:Int)).f0 (j:Int)=opOf bs (k,j)):=⟨rfl⟩
     rw [HPX.out] at hop
     obtain ⟨⟨ad,eA,x0,x1,x2,x3,x4,x5⟩,_,_⟩:=hop
     have hyy:=HY.out (plcs bs k++rowP k j) (k,j)
     unfold opsV opV at hyy
     have HPS:Aside0 (plcs bs k++rowP k (j+1)=(plcs bs k++rowP k j)++[(k,j)]):=⟨by rw [rowP_succ,List.append_assoc]⟩
     have hpl:(plcs bs k++rowP k j).length<(plcs bs bs.length).length:=part_len hlt (by rw [HPL.out];exact hlq)
     have hrest:∃ rest,plcs bs bs.length=(plcs bs k++rowP k j)++[(k,j)]++rest:=by
      obtain ⟨rest,hr⟩:=part_prefix (bs:=bs) (k:=j+1) hlt (by rw [HPL.out];exact hlq)
      exact ⟨rest,by rw [hr,HPS.out]⟩
     have HRE:=ak_ hrest
     clear hrest HPX
     simp only [] at hyy
     generalize opOf bs (k,j)=x at x0 x1 x2 x3 x4 x5 hyy
     generalize oo k j=g at x5 hyy
     obtain ⟨W1,hW1⟩:∃ W1,wr.alloc (.cells #[.int .i64 x.f0,.int .i64 x.f1,.int .i64 x.f2,.int .i64 x.f3,.int .i64 x.f4,.slice g.1 x.f5.length g.2] 45)=W1:=⟨_,rfl⟩
     have hb1:Below wr.heap.size wr W1:=by rw [← hW1];exact below_alloc (Below.refl _ _) _
     have hbx:=blk_new wr (.cells #[.int .i64 x.f0,.int .i64 x.f1,.int .i64 x.f2,.int .i64 x.f3,.int .i64 x.f4,.slice g.1 x.f5.length g.2] 45)
     rw [hW1] at hbx
     obtain ⟨fn,tmps,assign,body,hy,hR⟩:=hyy W1 (HJ.out _ _ _ HJq.out hb1) hpl
     rw [← hW1] at hy hR hbx hb1
     have HR:=ak_ hR
     have HB2:=ak_ hb1
     clear hW1 hR hb1 hyy hpl hbx
     subst eA
     gi_wp2
     refine HR.out.mono ?_
     rintro e W3 (⟨rfl,hJ3,hk3⟩|⟨rfl,hJx3⟩)
     ·have HK3:=ak_ (HKT.out HKq.out (HKT.out (HKB.out HB2.out) hk3))
      have HJ3:=ak_ hJ3
      clear hy hk3 hJ3 x0 x1 x2 x3 x4 x5
      gi_wp2
      go_roundw
      case rel=>exact ⟨j+1,by omega,by go_num,⟨by rw [HPS.out];exact HJ3.out⟩,HK3⟩
      case measure=>(simp [intOf];try omega)
     ·gi_wp2
      refine bodyPost_ret (results_none rfl _ _ _) rfl ?_
      exact ⟨⟨_,rfl⟩,.inr ⟨_,HRE.out,hJx3⟩⟩
    ·have b1:decide ((j:Int)<(L:Int))=false:=decide_eq_false (by omega)
     have hj' : j=L:=by omega
     gi_wp2
     go_roundw
     case rel=>exact ⟨k+1,by omega,by go_num,⟨by rw [plcs_succ,HPL.out,← hj'];exact HJq.out⟩,HKq⟩
     case measure=>(simp [intOf];try omega)
  ·have b1:decide ((k:Int)<(bs.length:Int))=false:=decide_eq_false (by omega)
   have hk' : k=bs.length:=by omega
   gi_wp2
   go_end0
   exact ⟨⟨_,rfl⟩,.inl ⟨_,by rw [hk'],HJs.out⟩⟩
set_option maxHeartbeats 2000000 in
/-- ops: one box;the function value captures it. -/
theorem ops_in (n:Nat) (p:Int) (A:Option Addr) (len cap:Nat) (w:World) :
  CallsIn Fence.wide n Tryz.prog 75 #[.agg #[.int .i64 p,.slice A len cap]] w fun e w'=>e=.returned (.func (.func 97) #[] #[.pointer (some ⟨w.heap.size,0,none⟩)])∧w'=w.alloc (.cells #[.int .i64 p,.slice A len cap] 24):=by
 have hu34:=Tryz.underlying24
 refine callsIn_of_wp Tryz.func75 rfl trivial ?_ rfl
 simp only [Tryz.ntmps75,List.size_toArray,List.length_cons,List.length_nil,Nat.reduceAdd,Nat.reduceSub,Array.replicate_succ,Array.replicate_zero,List.push_toArray,List.append_toArray,List.nil_append,List.cons_append]
 gi_wp2
 go_ret
 exact ⟨rfl,rfl⟩
/-- ops(f) hands back a value that stops as it should,whatever a round does,if it keeps what is read. -/
theorem ops_stops (n:Nat) (hn:1≤n) (Bs:Nat) (A:Option Addr) (c:Nat) (bs:List S50) (bg:Nat→Option Addr × Nat) (oo:Nat→Nat→Option Addr × Nat) (hlen:bs.length≤1000000000000) (Kp:World→World→Prop) (hKt:∀ {A B C:World},Kp A B→Kp B C→Kp A C) (hKb:∀ {A B:World},Below A.heap.size A B→Kp A B) (w:World)
  (hF:∀ W wr,Below w.heap.size w W→Kp W wr→OpsF wr Bs A c bs bg oo) :
  SeqStopsK Fence.wide n Tryz.prog 97 #[.pointer (some ⟨Bs,0,none⟩)] (opsV bs oo) Kp (fun ys=>ys=plcs bs bs.length) (fun pre=>∃ rest,plcs bs bs.length=pre++rest) (plcs bs bs.length).length w:=fun l J Jx W hW hJ _ hY h0 =>
 ops1_in n hn l Bs A c bs bg oo hlen Kp hKt hKb J Jx (fun s A B hj hk=>hJ s A B none hj ⟨hk.os,hk.tape,hk.output,hk.size,fun j hj _=>hk.block j hj⟩ (by simp)) hY W (fun wr hk=>hF W wr hW hk) h0
end Go.Proofs.YtnkgbnbbmcoiiaaGreat.S
namespace Go.Proofs.YtnkgbnbbmcoiiaaGreat.S
open Go.RowKit Go.Shelf Go.Maps Go.Sort Go.Proofs.YtnkgbnbbmcoiiaaGreatW.PrintWords Go.Proofs.YtnkgbnbbmcoiiaaGreatW.PrintLast Go.Proofs.YtnkgbnbbmcoiiaaGreatW.PrintMore
set_option linter.unusedVariables false
attribute [local go_sem] Oper.semAt_some
def keysOf (es:List (Int × Value)):List Int:=es.map (·.1)
/-- slices.Sort's two contracts,at the fence that asks nothing. -/
theorem sortsK (m:Nat):AnyZI.SortsIn Tryz.prog Tryz.sorted52_ren Fence.wide m :=
  ⟨fun blk off cap ss W hH hblk hsz=>callsIn_wide.2 (Tryz.slices_Sort_int blk off cap ss W hH hblk hsz),
   fun p cap W=>callsIn_wide.2 (Tryz.slices_Sort_int_none p cap W)⟩
set_option maxRecDepth 100000 in
set_option maxHeartbeats 4000000 in
/-- The iterator of maps.Keys: every key once. -/
theorem keys83_in (n:Nat) (hn:1≤n) (l Bm b:Nat) (es:List (Int × Value)) (J:List Int→World→Prop)
  (hY:∀ pre x W,J pre W→pre.length<es.length→YieldAt Fence.wide (n - 1) Tryz.prog l #[encZ x] W fun e W'=>e=.returned (.bool true)∧J (pre++[x]) W'∧KeepsWalks W W')
  (W:World) (hJ:AbidesFrom W.heap.size J) (hm:W.cell? ⟨Bm,0,none⟩=some (.map (some b))) (hat:IM.At W b es) (h0:J [] W) :
  CallsIn Fence.wide n Tryz.prog 70 #[.func (.yield l) #[] #[],.pointer (some ⟨Bm,0,none⟩)] W fun e W'=>(∃ v,e=.returned v)∧∃ ss:List Int,ss.Perm (keysOf es)∧J ss W':=by
 refine callsIn_of_wp Tryz.func70 rfl trivial ?_ rfl
 simp only [Tryz.ntmps70,List.size_toArray,List.length_cons,List.length_nil,Nat.reduceAdd,Nat.reduceSub,Array.replicate_succ,Array.replicate_zero,List.push_toArray,List.append_toArray,List.nil_append,List.cons_append]
 gi_wp2_with (first
  | (gi_at_range;refine IM.wplIn_range _ rfl _ 57 rfl 3 52 Tryz.underlying57 b es rfl hat ?_;intro w0 hrg0 hg0 hs0;clear hs0)
  | gi_in)
 go_frame
 gi_loopw [3] (fun _ wr=>∃ (left:List (Int × Value)) (ss:List Int),Aside0 (IM.Rng wr b W.heap.size es left)∧Aside0 ((ss++keysOf left).Perm (keysOf es))∧Aside0 (J ss wr))
  (fun _ wr=>wr.rangeLeft b W.heap.size)
 case atStart=>exact ⟨es,[],⟨hrg0⟩,⟨List.Perm.refl _⟩,⟨hJ [] W w0 none h0 hg0 (fun r e=>by cases e)⟩⟩
 case round =>
  clear hrg0 hg0
  obtain ⟨left,ss,HR,HP,HJs⟩:=hrel
  gi_wp2_with (first
   | (gi_at_next;refine IM.wplIn_next (β:=Value) _ rfl _ rfl b W.heap.size es left rfl HR.out id (fun p _=>⟨p.2,rfl⟩) ?_ ?_)
   | gi_in)
  ·intro hl0
   subst hl0
   gi_wp2
   go_end0
   exact ⟨⟨_,rfl⟩,ss,by have:=HP.out;rwa [keysOf,List.map_nil,List.append_nil] at this,HJs.out⟩
  ·intro j x c w2 hj hrg2 hlt hg2 hs2 hen
   have hJ2:J ss w2:=hJ ss wr w2 (some W.heap.size) HJs.out hg2 (fun r e=>by cases e;exact ⟨Nat.le_refl _,HR.out.iter_walk⟩)
   have hpl:=HP.out.length_eq
   have hps:=IM.perm_step hj
   have hjl:=(List.getElem?_eq_some_iff.1 hj).1
   obtain ⟨fn,tmps,assign,body,hy,hRo⟩:=hY ss x w2 hJ2 (by simp only [keysOf,List.length_append,List.length_map] at hpl;omega)
   have HLT:=ak_ hlt
   have HRG2:=ak_ hrg2
   have HPS:=ak_ hps
   have HRo:=ak_ hRo
   clear hs2 hlt hrg2 hps hRo hj hpl hJ2 hg2 hjl
   gi_wp2
   refine HRo.out.mono ?_
   rintro e W3 ⟨rfl,hJ3,hk3⟩
   have hrg3:=HRG2.out.of_walks hk3
   have HRG3:=ak_ hrg3
   have HJ3:=ak_ hJ3
   clear hy hrg3 hJ3 hk3 hen
   gi_wp2
   go_roundw
   case rel=>exact ⟨left.eraseIdx j,ss++[x],HRG3,⟨by
    refine List.Perm.trans ?_ HP.out
    rw [List.append_assoc]
    exact List.Perm.append_left ss HPS.out⟩,HJ3⟩
   case measure=>rw [HRG3.out.left_eq,HR.out.left_eq];exact HLT.out
/-- maps.Keys: one box;the function value captures it. -/
theorem keys53_in (n:Nat) (mb:Option Nat) (w:World) :
  CallsIn Fence.wide n Tryz.prog 44 #[.map mb] w fun e w'=>e=.returned (.func (.func 70) #[] #[.pointer (some ⟨w.heap.size,0,none⟩)])∧w'=w.alloc (.cells #[.map mb] 57):=by
 refine callsIn_of_wp Tryz.func44 rfl trivial ?_ rfl
 simp only [Tryz.ntmps44,List.size_toArray,List.length_cons,List.length_nil,Nat.reduceAdd,Nat.reduceSub,Array.replicate_succ,Array.replicate_zero,List.push_toArray,List.append_toArray,List.nil_append,List.cons_append]
 gi_wp2
 go_ret
 exact ⟨rfl,rfl⟩
theorem keys53_any (mb:Option Nat) (w:World) :
  Calls Tryz.prog 44 #[.map mb] w fun e w'=>e=.returned (.func (.func 70) #[] #[.pointer (some ⟨w.heap.size,0,none⟩)])∧w'=w.alloc (.cells #[.map mb] 57):=(callsIn_wide (n:=1)).1 (keys53_in 1 mb w)
/-- slices.Sorted at what maps.Keys handed back: a row of the call's own,the keys,sorted. -/
theorem sorted53_any (Bm b:Nat) (es:List (Int × Value)) (w:World) (hm:w.cell? ⟨Bm,0,none⟩=some (.map (some b))) (hat:IM.At w b es) (hlen:es.length≤1000000000000) :
  Calls Tryz.prog 43 #[.func (.func 70) #[] #[.pointer (some ⟨Bm,0,none⟩)]] w fun e w'=>∃ v,e=.returned v∧w'.ownsRow w.heap.size 3 1 v es.length (nums .i64 ((keysOf es).mergeSort fun x y=>decide (x≤y)))∧Below w.heap.size w w':=by
 have hBm:Bm<w.heap.size:=World.block_lt_of_cell? w _ hm
 have hseq:SeqGives Fence.wide 2 Tryz.prog 70 #[.pointer (some ⟨Bm,0,none⟩)] encZ (fun ss=>ss.Perm (keysOf es)) es.length w:=fun l J W hW hJ hY h0 =>
  keys83_in 2 (by decide) l Bm b es J hY W hJ (pw_cell_below hW hm) (hat.below hW hat.lt) h0
 have cS:=AnyZI.sorted_in Tryz.sorted52 Fence.wide 5 trivial trivial trivial trivial rfl (by omega) (sortsK _) (enters_of Tryz.func64 (by kernel_rfl) rfl) 70 #[.pointer (some ⟨Bm,0,none⟩)] trivial (enters_of Tryz.func70 (by kernel_rfl) rfl) _ _ (by unfold maxLen;omega) (by omega) w hseq
 change CallsIn _ _ Tryz.prog 43 _ _ _ at cS
 refine (callsIn_wide.1 cS).mono ?_
 rintro e w' ⟨v,ss,rfl,hp,ho,_,hb⟩
 refine ⟨v,rfl,?_,hb⟩
 have e1:(ss.mergeSort fun x y=>decide (x≤y))=(keysOf es).mergeSort fun x y=>decide (x≤y):=mergeSort_of_perm_i hp
 have e2:ss.length=es.length:=by rw [hp.length_eq,keysOf,List.length_map]
 rw [e1,e2] at ho
 exact ho
set_option maxRecDepth 100000 in
set_option maxHeartbeats 4000000 in
/-- The iterator of maps.Keys: every key once. -/
theorem keys111_in (n:Nat) (hn:1≤n) (l Bm b:Nat) (es:List (Int × Value)) (J:List Int→World→Prop)
  (hY:∀ pre x W,J pre W→pre.length<es.length→YieldAt Fence.wide (n - 1) Tryz.prog l #[encZ x] W fun e W'=>e=.returned (.bool true)∧J (pre++[x]) W'∧KeepsWalks W W')
  (W:World) (hJ:AbidesFrom W.heap.size J) (hm:W.cell? ⟨Bm,0,none⟩=some (.map (some b))) (hat:IM.At W b es) (h0:J [] W) :
  CallsIn Fence.wide n Tryz.prog 108 #[.func (.yield l) #[] #[],.pointer (some ⟨Bm,0,none⟩)] W fun e W'=>(∃ v,e=.returned v)∧∃ ss:List Int,ss.Perm (keysOf es)∧J ss W':=by
 refine callsIn_of_wp Tryz.func108 rfl trivial ?_ rfl
 simp only [Tryz.ntmps108,List.size_toArray,List.length_cons,List.length_nil,Nat.reduceAdd,Nat.reduceSub,Array.replicate_succ,Array.replicate_zero,List.push_toArray,List.append_toArray,List.nil_append,List.cons_append]
 gi_wp2_with (first
  | (gi_at_range;refine IM.wplIn_range _ rfl _ 73 rfl 3 4 Tryz.underlying73 b es rfl hat ?_;intro w0 hrg0 hg0 hs0;clear hs0)
  | gi_in)
 go_frame
 gi_loopw [3] (fun _ wr=>∃ (left:List (Int × Value)) (ss:List Int),Aside0 (IM.Rng wr b W.heap.size es left)∧Aside0 ((ss++keysOf left).Perm (keysOf es))∧Aside0 (J ss wr))
  (fun _ wr=>wr.rangeLeft b W.heap.size)
 case atStart=>exact ⟨es,[],⟨hrg0⟩,⟨List.Perm.refl _⟩,⟨hJ [] W w0 none h0 hg0 (fun r e=>by cases e)⟩⟩
 case round =>
  clear hrg0 hg0
  obtain ⟨left,ss,HR,HP,HJs⟩:=hrel
  gi_wp2_with (first
   | (gi_at_next;refine IM.wplIn_next (β:=Value) _ rfl _ rfl b W.heap.size es left rfl HR.out id (fun p _=>⟨p.2,rfl⟩) ?_ ?_)
   | gi_in)
  ·intro hl0
   subst hl0
   gi_wp2
   go_end0
   exact ⟨⟨_,rfl⟩,ss,by have:=HP.out;rwa [keysOf,List.map_nil,List.append_nil] at this,HJs.out⟩
  ·intro j x c w2 hj hrg2 hlt hg2 hs2 hen
   have hJ2:J ss w2:=hJ ss wr w2 (some W.heap.size) HJs.out hg2 (fun r e=>by cases e;exact ⟨Nat.le_refl _,HR.out.iter_walk⟩)
   have hpl:=HP.out.length_eq
   have hps:=IM.perm_step hj
   have hjl:=(List.getElem?_eq_some_iff.1 hj).1
   obtain ⟨fn,tmps,assign,body,hy,hRo⟩:=hY ss x w2 hJ2 (by simp only [keysOf,List.length_append,List.length_map] at hpl;omega)
   have HLT:=ak_ hlt
   have HRG2:=ak_ hrg2
   have HPS:=ak_ hps
   have HRo:=ak_ hRo
   clear hs2 hlt hrg2 hps hRo hj hpl hJ2 hg2 hjl
   gi_wp2
   refine HRo.out.mono ?_
   rintro e W3 ⟨rfl,hJ3,hk3⟩
   have hrg3:=HRG2.out.of_walks hk3
   have HRG3:=ak_ hrg3
   have HJ3:=ak_ hJ3
   clear hy hrg3 hJ3 hk3 hen
   gi_wp2
   go_roundw
   case rel=>exact ⟨left.eraseIdx j,ss++[x],HRG3,⟨by
    refine List.Perm.trans ?_ HP.out
    rw [List.append_assoc]
    exact List.Perm.append_left ss HPS.out⟩,HJ3⟩
   case measure=>rw [HRG3.out.left_eq,HR.out.left_eq];exact HLT.out
/-- maps.Keys: one box;the function value captures it. -/
theorem keys87_in (n:Nat) (mb:Option Nat) (w:World) :
  CallsIn Fence.wide n Tryz.prog 83 #[.map mb] w fun e w'=>e=.returned (.func (.func 108) #[] #[.pointer (some ⟨w.heap.size,0,none⟩)])∧w'=w.alloc (.cells #[.map mb] 73):=by
 refine callsIn_of_wp Tryz.func83 rfl trivial ?_ rfl
 simp only [Tryz.ntmps83,List.size_toArray,List.length_cons,List.length_nil,Nat.reduceAdd,Nat.reduceSub,Array.replicate_succ,Array.replicate_zero,List.push_toArray,List.append_toArray,List.nil_append,List.cons_append]
 gi_wp2
 go_ret
 exact ⟨rfl,rfl⟩
theorem keys87_any (mb:Option Nat) (w:World) :
  Calls Tryz.prog 83 #[.map mb] w fun e w'=>e=.returned (.func (.func 108) #[] #[.pointer (some ⟨w.heap.size,0,none⟩)])∧w'=w.alloc (.cells #[.map mb] 73):=(callsIn_wide (n:=1)).1 (keys87_in 1 mb w)
/-- slices.Sorted at what maps.Keys handed back: a row of the call's own,the keys,sorted. -/
theorem sorted87_any (Bm b:Nat) (es:List (Int × Value)) (w:World) (hm:w.cell? ⟨Bm,0,none⟩=some (.map (some b))) (hat:IM.At w b es) (hlen:es.length≤1000000000000) :
  Calls Tryz.prog 43 #[.func (.func 108) #[] #[.pointer (some ⟨Bm,0,none⟩)]] w fun e w'=>∃ v,e=.returned v∧w'.ownsRow w.heap.size 3 1 v es.length (nums .i64 ((keysOf es).mergeSort fun x y=>decide (x≤y)))∧Below w.heap.size w w':=by
 have hBm:Bm<w.heap.size:=World.block_lt_of_cell? w _ hm
 have hseq:SeqGives Fence.wide 2 Tryz.prog 108 #[.pointer (some ⟨Bm,0,none⟩)] encZ (fun ss=>ss.Perm (keysOf es)) es.length w:=fun l J W hW hJ hY h0 =>
  keys111_in 2 (by decide) l Bm b es J hY W hJ (pw_cell_below hW hm) (hat.below hW hat.lt) h0
 have cS:=AnyZI.sorted_in Tryz.sorted52 Fence.wide 5 trivial trivial trivial trivial rfl (by omega) (sortsK _) (enters_of Tryz.func64 (by kernel_rfl) rfl) 108 #[.pointer (some ⟨Bm,0,none⟩)] trivial (enters_of Tryz.func108 (by kernel_rfl) rfl) _ _ (by unfold maxLen;omega) (by omega) w hseq
 change CallsIn _ _ Tryz.prog 43 _ _ _ at cS
 refine (callsIn_wide.1 cS).mono ?_
 rintro e w' ⟨v,ss,rfl,hp,ho,_,hb⟩
 refine ⟨v,rfl,?_,hb⟩
 have e1:(ss.mergeSort fun x y=>decide (x≤y))=(keysOf es).mergeSort fun x y=>decide (x≤y):=mergeSort_of_perm_i hp
 have e2:ss.length=es.length:=by rw [hp.length_eq,keysOf,List.length_map]
 rw [e1,e2] at ho
 exact ho
end Go.Proofs.YtnkgbnbbmcoiiaaGreat.S
namespace Go.Proofs.YtnkgbnbbmcoiiaaGreat.S
open Go.RowKit Go.IM Go.Proofs.YtnkgbnbbmcoiiaaGreatW.PrintWords Go.Proofs.YtnkgbnbbmcoiiaaGreatW.PrintLast Go.Proofs.YtnkgbnbbmcoiiaaGreatW.PrintMore
set_option linter.unusedVariables false
set_option linter.unusedSimpArgs false
/-! ### Sets of registers,as maps -/
/-- A map's keys are those of which P holds,each once;its values are true or false. -/
structure KS (es:List (Int × Value)) (P:Int→Prop):Prop where mk ::
 nodup:(keysOf es).Nodup
 mem:∀ r,r∈keysOf es↔P r
 bool:∀ p∈es,∃ c,p.2=Value.bool c
theorem KS.nil:KS [] (fun _=>False):=⟨List.nodup_nil,fun r=>by simp [keysOf],fun p h=>by cases h⟩
theorem KS.imp {es:List (Int × Value)} {P Q:Int→Prop} (h:KS es P) (hq:∀ r,P r↔Q r):KS es Q:=⟨h.nodup,fun r=>(h.mem r).trans (hq r),h.bool⟩
theorem keys_st (es:List (Int × Value)) (k:Int) (v:Value) (r:Int):r∈keysOf (st es k v)↔r=k∨r∈keysOf es:=by
 induction es with
 | nil=>simp [st,keysOf]
 | cons p es ih =>
  unfold st
  split
  ·rename_i h
   simp only [keysOf,List.map_cons,List.mem_cons]
   rw [h]
   constructor
   ·rintro (h|h);exact .inl h;exact .inr (.inr h)
   ·rintro (h|h|h);exact .inl h;exact .inl h;exact .inr h
  ·simp only [keysOf,List.map_cons,List.mem_cons] at ih ⊢
   rw [ih]
   constructor
   ·rintro (h|h|h);exact .inr (.inl h);exact .inl h;exact .inr (.inr h)
   ·rintro (h|h|h);exact .inr (.inl h);exact .inl h;exact .inr (.inr h)
theorem nodup_st {es:List (Int × Value)} (h:(keysOf es).Nodup) (k:Int) (v:Value):(keysOf (st es k v)).Nodup:=by
 induction es with
 | nil=>simp [st,keysOf]
 | cons p es ih =>
  simp only [keysOf,List.map_cons,List.nodup_cons] at h
  unfold st
  split
  ·rename_i e
   simp only [keysOf,List.map_cons,List.nodup_cons]
   rw [e]
   exact h
  ·rename_i e
   simp only [keysOf,List.map_cons,List.nodup_cons]
   refine ⟨fun hm=>?_,ih h.2⟩
   have:=(keys_st es k v p.1).1 hm
   rcases this with h1|h1
   ·exact e h1.symm
   ·exact h.1 h1
theorem bool_st {es:List (Int × Value)} (h:∀ p∈es,∃ c,p.2=Value.bool c) (k:Int) (b:Bool):∀ p∈st es k (.bool b),∃ c,p.2=Value.bool c:=by
 induction es with
 | nil=>intro p hp;simp [st] at hp;exact ⟨b,by rw [hp]⟩
 | cons q es ih =>
  intro p hp
  unfold st at hp
  split at hp
  ·rcases List.mem_cons.1 hp with rfl|hp
   ·exact ⟨b,rfl⟩
   ·exact h p (List.mem_cons_of_mem _ hp)
  ·rcases List.mem_cons.1 hp with rfl|hp
   ·exact h _ List.mem_cons_self
   ·exact ih (fun p hp=>h p (List.mem_cons_of_mem _ hp)) p hp
theorem KS.st {es:List (Int × Value)} {P:Int→Prop} (h:KS es P) (k:Int) (b:Bool):KS (IM.st es k (.bool b)) (fun r=>r=k∨P r) :=
 ⟨nodup_st h.nodup k _,fun r=>(keys_st es k _ r).trans (or_congr Iff.rfl (h.mem r)),bool_st h.bool k b⟩
theorem keys_dl {es:List (Int × Value)} (hn:(keysOf es).Nodup) (k r:Int):r∈keysOf (dl es k)↔r≠k∧r∈keysOf es:=by
 induction es with
 | nil=>simp [dl,keysOf]
 | cons p es ih =>
  simp only [keysOf,List.map_cons,List.nodup_cons] at hn
  unfold dl
  split
  ·rename_i e
   simp only [keysOf,List.map_cons,List.mem_cons]
   constructor
   ·intro hm
    refine ⟨fun e2=>?_,.inr hm⟩
    subst e2;rw [e] at hm
    exact hn.1 hm
   ·rintro ⟨h1,h2|h2⟩
    ·exact absurd (h2.trans e.symm) h1
    ·exact h2
  ·rename_i e
   simp only [keysOf,List.map_cons,List.mem_cons] at ih ⊢
   rw [ih hn.2]
   constructor
   ·rintro (h|⟨h1,h2⟩)
    ·exact ⟨fun e2=>e (e2▸h),.inl h⟩
    ·exact ⟨h1,.inr h2⟩
   ·rintro ⟨h1,h2|h2⟩
    ·exact .inl h2
    ·exact .inr ⟨h1,h2⟩
theorem dl_sub (es:List (Int × Value)) (k:Int):(dl es k).Sublist es:=by
 induction es with
 | nil=>exact List.Sublist.refl _
 | cons p es ih =>
  unfold dl
  split
  ·exact List.sublist_cons_self _ _
  ·exact ih.cons_cons _
theorem KS.dl {es:List (Int × Value)} {P:Int→Prop} (h:KS es P) (k:Int):KS (IM.dl es k) (fun r=>r≠k∧P r) :=
 ⟨h.nodup.sublist ((dl_sub es k).map _),fun r=>(keys_dl h.nodup k r).trans (and_congr Iff.rfl (h.mem r)),fun p hp=>h.bool p ((dl_sub es k).subset hp)⟩
theorem or3 {a b c:Prop} : a∨(b∨c)↔(b∨a)∨c:=by rw [← or_assoc,or_comm (a:=a)]
theorem grown_refl (w:World) (row:Option Nat):w.grownBy w row:=⟨rfl,rfl,rfl,Nat.le_refl _,fun _ _ _=>rfl⟩
theorem grown_then {w w1 w2:World} {row row' : Option Nat} (h:w.grownBy w1 row) (k:w1.grownBy w2 row') (hr:row'=row∨row'=none∨∃ r,row'=some r∧w.heap.size≤r):w.grownBy w2 row :=
 ⟨k.os.trans h.os,k.tape.trans h.tape,k.output.trans h.output,Nat.le_trans h.size k.size,fun i hi hne=>by
  refine (k.block i (Nat.lt_of_lt_of_le hi h.size) ?_).trans (h.block i hi hne)
  rcases hr with rfl|rfl|⟨r,rfl,hr⟩
  ·exact hne
  ·simp
  ·intro e;cases e;omega⟩
theorem grown_of_bel {w w1:World} (h:Below w.heap.size w w1) (row:Option Nat):w.grownBy w1 row:=⟨h.os,h.tape,h.output,h.size,fun i hi _=>h.block i hi⟩
/-- A step that wrote block b alone is below what lies at b or under. -/
theorem below_of_grown {w0 w w1:World} {b:Nat} (h:Below w0.heap.size w0 w) (hg:w.grownBy w1 (some b)) (hb:w0.heap.size≤b):Below w0.heap.size w0 w1 :=
 pw_below_grown h (some b) h.size hg (fun k e=>by cases e;exact hb)
theorem rd_mem {l:List Int} {j:Nat} (h:j<l.length):rd l (j:Int)=l[j]:=by
 unfold rd
 simp [List.getD_eq_getElem?_getD,h]
theorem take_rd {l:List Int} {j:Nat} (h:j<l.length):l.take (j+1)=l.take j++[rd l (j:Int)]:=by
 rw [rd_mem h,List.take_succ_eq_append_getElem h]
set_option maxHeartbeats 4000000 in
set_option maxRecDepth 100000 in
/-- put: some more registers in a set. -/
theorem put_any (b:Nat) (es:List (Int × Value)) (P:Int→Prop) (A:Option Addr) (c:Nat) (l:List Int) (w:World) (hat:At w b es) (hks:KS es P) (hC:Kd.C (Kd.int .i64) w A l.length l) :
  Calls Tryz.prog 86 #[.map (some b),.slice A l.length c] w fun e w'=>e=.returned (.tuple #[])∧∃ es',At w' b es'∧KS es' (fun r=>r∈l∨P r)∧w.grownBy w' (some b):=by
 have hn:l.length≤9223372036854775807:=hC.2.1
 have HC:=ak_ hC
 have hmu:=hat
 have HAT:=ak_ hat
 have HKS:=ak_ hks
 clear hat hks hC hmu
 go_enter Tryz.func86,Tryz.ntmps86
 go_wp2_with fail
 go_loopw [8] (fun i wr=>∃ (j:Nat) (es' : List (Int × Value)),j≤l.length∧i=.int .i64 (j:Int)∧Aside0 (At wr b es')∧Aside0 (KS es' (fun r=>r∈l.take j∨P r))∧Aside0 (w.grownBy wr (some b))∧Aside0 (KC w wr)) (fun i _=>l.length - (intOf i).toNat)
 case atStart=>exact ⟨0,es,Nat.zero_le _,rfl,HAT,⟨HKS.out.imp (fun r=>by simp)⟩,⟨grown_refl _ _⟩,⟨KC.refl _⟩⟩
 case round =>
  obtain ⟨j,es',hj,rfl,HA,HK,HG,HKC⟩:=hrel
  by_cases hlt:j<l.length
  ·have b1:decide ((j:Int)<(l.length:Int))=true:=decide_eq_true (by omega)
   obtain ⟨ad,eA,k0⟩:=Kd.at_int (Cint_kc HC.out HKC.out) (j:Int) (by omega) (by omega)
   simp only [Int.toNat_natCast] at k0
   have HT:=ak_ (take_rd hlt)
   generalize rd l (j:Int)=z at k0 HT
   subst eA
   go_wp2_with (at_mapUpdate;refine IM.wpl_update _ rfl _ _ _ 73 rfl 3 4 Tryz.underlying73 Tryz.underlying3 b _ rfl HA.out z rfl (.bool true) rfl ?_;intro w1 hm1 hg1 hs1;have HM1:=ak_ hm1;have HG1:=ak_ hg1;clear hs1 hm1 hg1)
   go_roundw
   case rel=>exact ⟨j+1,_,by omega,by go_num,HM1,⟨(HK.out.st z true).imp (fun r=>by rw [HT.out,List.mem_append,List.mem_singleton];exact or3)⟩,⟨grown_then HG.out HG1.out (.inl rfl)⟩,⟨HKC.out.trans (KC.of_grown HG1.out HA.out.no_cells)⟩⟩
   case measure=>simp [intOf];omega
  ·have b1:decide ((j:Int)<(l.length:Int))=false:=decide_eq_false (by omega)
   obtain rfl:j=l.length:=by omega
   have hk:=HK.out
   rw [List.take_length] at hk
   have HK2:=ak_ hk
   clear hk
   go_wp2_with fail
   go_end0
   exact ⟨rfl,_,HA.out,HK2.out,HG.out⟩
/-- A fact that simp does not look into. -/
structure Hid0 (p:Prop):Prop where mk::(out:p)
theorem wpl_next_any {P:Program} (w:World) {ops:Array Oper} {rest:List Oper} {o:Oper} {a:Act} {Q:Exit→Act→World→Prop} (hg:o.guard=none) (it:Operand) (hop:o.op=Op.next it false) (b r:Nat) (es left:List (Int × Value))
  (hit:a.eval it=.pointer (some ⟨r,0,none⟩)) (h:IM.Rng w b r es left) (hDone:Hid0 (left=[])→wpList P ops Q rest (a.put o.dst (.tuple #[.bool false])) w)
  (hMore:∀ (j:Nat) (k:Int) (c:Value) (w' : World),Hid0 (left[j]?=some (k,c))→IM.Rng w' b r es (left.eraseIdx j)→Hid0 (w'.rangeLeft b r<w.rangeLeft b r)→w.grownBy w' (some r) →
   (Instr.entry (.pointer (some ⟨r,0,none⟩))).run P w'=.ok (.tuple #[.int .i64 k,c]) w'→wpList P ops Q rest (a.put o.dst (.tuple #[.bool true,.int .i64 k,c])) w'):wpList P ops Q (o::rest) a w:=by
 refine IM.wpl_next (β:=Value) w hg it hop b r es left hit h id (fun p _=>⟨p.2,rfl⟩) (fun h0=>hDone ⟨h0⟩) ?_
 intro j k c w1 hj hr1 hlt hg1 hs1 hen
 exact hMore j k c w1 ⟨hj⟩ hr1 ⟨by rw [hr1.left_eq,h.left_eq];exact hlt⟩ hg1 hen
theorem KS.stv {es:List (Int × Value)} {P:Int→Prop} (h:KS es P) (k:Int) {v:Value} (hv:∃ c,v=Value.bool c):KS (IM.st es k v) (fun r=>r=k∨P r):=by
 obtain ⟨c,rfl⟩:=hv
 exact h.st k c
set_option maxHeartbeats 4000000 in
set_option maxRecDepth 100000 in
/-- maps.Copy: a set into another. -/
theorem copy_any (d s:Nat) (esd ess:List (Int × Value)) (P Q:Int→Prop) (w:World) (hne:d≠s) (hd:At w d esd) (hs:At w s ess) (hkd:KS esd P) (hks:KS ess Q) :
  Calls Tryz.prog 85 #[.map (some d),.map (some s)] w fun e w'=>e=.returned (.tuple #[])∧∃ es',At w' d es'∧KS es' (fun r=>Q r∨P r)∧w.grownBy w' (some d):=by
 have HD:=ak_ hd
 have HS:=ak_ hs
 have HKD:=ak_ hkd
 have HKS:=ak_ hks
 have HNE:=ak_ hne
 clear hd hs hkd hks hne
 go_enter Tryz.func85,Tryz.ntmps85
 go_wp2_with (at_range;refine IM.wpl_range _ rfl _ 73 rfl 3 4 Tryz.underlying73 s ess rfl HS.out ?_;intro w0 hrg0 hg0 hs0;have HR0:=ak_ hrg0;have HG0:=ak_ hg0;clear hs0 hrg0 hg0)
 go_frame
 have hdl:=HD.out.lt
 go_loopw [4] (fun _ wr=>∃ (left:List (Int × Value)) (ss:List Int) (es' : List (Int × Value)),Aside0 (IM.Rng wr s w.heap.size ess left)∧Aside0 ((ss++keysOf left).Perm (keysOf ess))∧Aside0 (∀ p∈left,∃ c,p.2=Value.bool c)∧Aside0 (At wr d es')∧Aside0 (KS es' (fun r=>r∈ss∨P r))∧Aside0 (w.grownBy wr (some d)))
  (fun _ wr=>wr.rangeLeft s w.heap.size)
 case atStart=>exact ⟨ess,[],esd,HR0,⟨List.Perm.refl _⟩,⟨HKS.out.bool⟩,⟨HD.out.kept HG0.out (by simp)⟩,⟨HKD.out.imp (fun r=>by simp)⟩,⟨grown_then (grown_refl w _) HG0.out (.inr (.inl rfl))⟩⟩
 case round =>
  obtain ⟨left,ss,es',HR,HP,HBL,HA,HK,HG⟩:=hrel
  clear HR0 HG0
  go_wp2_with (at_next;refine wpl_next_any _ rfl _ rfl s w.heap.size ess left rfl HR.out ?_ ?_)
  ·intro h0
   have HP2:Aside0 (ss.Perm (keysOf ess)):=⟨by have:=HP.out;rw [h0.out] at this;rwa [keysOf,List.map_nil,List.append_nil] at this⟩
   clear h0
   go_wp2_with fail
   go_end0
   exact ⟨rfl,es',HA.out,HK.out.imp (fun r=>by rw [HP2.out.mem_iff,HKS.out.mem]),HG.out⟩
  ·intro j k c w2 hj hrg2 hlt hg2 hen
   have HA2:=ak_ (HA.out.kept hg2 (by
    intro e
    injection e with e
    omega))
   have HG2:=ak_ (grown_then HG.out hg2 (.inr (.inr ⟨_,rfl,Nat.le_refl _⟩)))
   have HRG2:=ak_ hrg2
   have HLT:=ak_ hlt.out
   have HJ:=ak_ hj.out
   clear hrg2 hg2 hlt hj
   go_wp2_with (at_mapUpdate;refine IM.wpl_update _ rfl _ _ _ 73 rfl 3 4 Tryz.underlying73 Tryz.underlying3 d _ rfl HA2.out k rfl c rfl ?_;intro w3 hm3 hg3 hs3;have HM3:=ak_ hm3;have HG3:=ak_ hg3;clear hs3 hm3 hg3)
   have hr3:IM.Rng w3 s w.heap.size ess (left.eraseIdx j):=HRG2.out.kept HG3.out (fun e=>HNE.out (by injection e with e;exact e.symm)) (fun e=>by injection e with e;omega)
   go_frame
   go_roundw
   case rel=>exact ⟨left.eraseIdx j,ss++[k],_,⟨hr3⟩,⟨by
    refine List.Perm.trans ?_ HP.out
    rw [List.append_assoc]
    exact List.Perm.append_left ss (IM.perm_step HJ.out)⟩,⟨fun p hp=>HBL.out p ((List.eraseIdx_sublist _ _).subset hp)⟩,HM3,⟨(HK.out.stv k (HBL.out _ (List.mem_of_getElem? HJ.out))).imp (fun r=>by rw [List.mem_append,List.mem_singleton];exact or3)⟩,⟨grown_then HG2.out HG3.out (.inl rfl)⟩⟩
   case measure =>
    rw [hr3.left_eq]
    have:=HLT.out
    rw [HRG2.out.left_eq] at this
    exact this
/-- TermUses in closed form. -/
def tuseT (t:S48):List Int:=if t.f0=2∨t.f0=3 then [t.f1] else []
theorem termUses_any (t:S48) (w:World) :
  Calls Tryz.prog 40 #[.agg #[.int .i64 t.f0,.int .i64 t.f1,.int .i64 t.f2,.int .i64 t.f3]] w fun e w'=>∃ A c,e=.returned (.slice A (tuseT t).length c)∧Kd.C (Kd.int .i64) w' A (tuseT t).length (tuseT t)∧Below w.heap.size w w':=by
 refine (code_TermUses.calls t.f0 t.f1 t.f2 t.f3 (tuseT t) w (by
  unfold code_TermUses.f tuseT
  by_cases h2:t.f0=2
  ·simp [h2]
  ·by_cases h3:t.f0=3<;>simp [h2,h3])).mono ?_
 rintro e w' ⟨v,rfl,hr,hb⟩
 obtain ⟨A,c,rfl,_,hc⟩:=Kd.R_reads hr
 exact ⟨A,c,rfl,hc,hb⟩
/-- Uses and Sets in closed form. -/
def useX (x:S45):List Int:=(if (shp x.f0).2.1=true then [x.f2] else [])++(if (shp x.f0).2.2.1=true then [x.f3] else [])++(if x.f0=7 then x.f5 else [])
def setX (x:S45):Int:=if (shp x.f0).1=true then x.f1 else 0
theorem shp_is (k:Int) (h:(shp k).2.2.2.2=false):(shp k).2.1=false∧(shp k).2.2.1=false:=by
 unfold shp at h ⊢
 repeat' split at h
 all_goals first|(simp at h;done)|(rename_i h1 h2 h3 h4 h5 h6 h7;simp [h1,h2,h3,h4,h5,h6,h7])
theorem uses_eq (x:S45) (h:x.f5.length≤1000000000000):code_Uses.f 10 x.f0 x.f1 x.f2 x.f3 x.f4 x.f5=some (useX x):=by
 unfold code_Uses.f useX
 rw [shapeOf_eq]
 have hs:=shp_is x.f0
 generalize shp x.f0=s at hs ⊢
 obtain ⟨s1,s2,s3,s4,s5⟩:=s
 simp only [Option.bind_some]
 have q1:x.f5.length<17592186044416:=by omega
 have q2:1+x.f5.length<17592186044416:=by omega
 have q3:2+x.f5.length<17592186044416:=by omega
 by_cases h7:x.f0=7<;>cases s5<;>cases s2<;>cases s3<;>simp [code_Uses.j0,code_Uses.j1,code_Uses.j2,h7,q1,q2,q3] at hs ⊢<;>omega
theorem sets_eq (x:S45):code_Sets.f 10 x.f0 x.f1 x.f2 x.f3 x.f4 x.f5=some (setX x):=by
 unfold code_Sets.f setX
 rw [shapeOf_eq]
 simp only [Option.bind_some]
 split<;>rfl
