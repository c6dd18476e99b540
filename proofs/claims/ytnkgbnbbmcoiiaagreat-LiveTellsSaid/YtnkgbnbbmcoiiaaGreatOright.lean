import Derived.Test.YtnkgbnbbmcoiiaaGreatOkeys
import Derived.Test.YtnkgbnbbmcoiiaaGreatRfb
import Derived.RangeFuncBound
import Derived.RangeFuncCalls
import Derived.Shelf.Abstract
import Derived.Shelf.RegionOpen
import Derived.WalkKit
import Derived.OwnWalkIn
import Derived.TacticsInMore
import Derived.LoopNIn
import Derived.LoopIn
import Derived.Outline
import Derived.Test.YtnkgbnbbmcoiiaaGreatLimm
import Derived.Test.YtnkgbnbbmcoiiaaGreatOrop
import Derived.Test.YtnkgbnbbmcoiiaaGreatLv2
namespace Go.Proofs.YtnkgbnbbmcoiiaaGreat.S
open Go.RowKit Go.Shelf Go.IM Go.Proofs.YtnkgbnbbmcoiiaaGreatW.PrintWords Go.Proofs.YtnkgbnbbmcoiiaaGreatW.PrintLast Go.Proofs.YtnkgbnbbmcoiiaaGreatW.PrintMore
set_option linter.unusedVariables false
attribute [local go_sem] Oper.semAt_some
/-- The first k of n - 1,n - 2,.. -/
def downs (n k:Nat):List Nat:=(List.range k).map fun j=>n - 1 - j
theorem downs_length (n k:Nat):(downs n k).length=k:=by simp [downs]
theorem downs_succ (n k:Nat):downs n (k+1)=downs n k++[n - 1 - k]:=by unfold downs;rw [List.range_succ,List.map_append];rfl
/-- What bb's iterator reads. -/
structure bbF (wr:World) (Bs:Nat) (A:Option Addr) (c:Nat) (xs:List S50) (bg:Nat→Option Addr × Nat):Prop where mk ::
 box:wr.cell? ⟨Bs,0,none⟩=some (.slice A xs.length c)
 rows:BlksAt wr A xs bg
def bbV (xs:List S50) (bg:Nat→Option Addr × Nat) (i:Nat):Array Value:=#[.int .i64 (i:Int),blkV (rd_T50 xs (i:Int)) (bg i)]
set_option maxRecDepth 100000 in
set_option maxHeartbeats 4000000 in
theorem bb1_in (n:Nat) (hn:1≤n) (l Bs:Nat) (A:Option Addr) (c:Nat) (xs:List S50) (bg:Nat→Option Addr × Nat) (hlen:xs.length≤1000000000000)
  (Kp:World→World→Prop) (hKt:∀ {A B C:World},Kp A B→Kp B C→Kp A C) (hKb:∀ {A B:World},Below A.heap.size A B→Kp A B)
  (J Jx:List Nat→World→Prop) (hJ:∀ s A B,J s A→Below A.heap.size A B→J s B)
  (hY:∀ pre x W,J pre W→(∃ k,k<xs.length∧pre=downs xs.length k∧x=xs.length - 1 - k)→YieldAt Fence.wide (n - 1) Tryz.prog l (bbV xs bg x) W fun e W' =>
   (e=.returned (.bool true)∧J (pre++[x]) W'∧Kp W W')∨(e=.returned (.bool false)∧Jx (pre++[x]) W'))
  (W:World) (hF:∀ wr,Kp W wr→bbF wr Bs A c xs bg) (h0:J [] W) :
  CallsIn Fence.wide n Tryz.prog 106 #[.func (.yield l) #[] #[],.pointer (some ⟨Bs,0,none⟩)] W fun e W'=>(∃ v,e=.returned v) ∧
   ((∃ ys,ys=downs xs.length xs.length∧J ys W')∨(∃ pre,(∃ k,k<xs.length∧pre=downs xs.length (k+1))∧Jx pre W')):=by
 have hu43:=Tryz.underlying50
 have hu45:=Tryz.underlying45
 have hu41:=Tryz.underlying48
 have hbox:=(hF W (hKb (Below.refl _ _))).box
 have HF:=Aside0.mk hF
 have HY:=Aside0.mk hY
 have HJ:=Aside0.mk hJ
 have HKT:=Aside0.mk @hKt
 have HKB:=Aside0.mk @hKb
 clear hF hY hJ hKt hKb
 refine callsIn_of_wp Tryz.func106 rfl trivial ?_ rfl
 simp only [Tryz.ntmps106,List.size_toArray,List.length_cons,List.length_nil,Nat.reduceAdd,Nat.reduceSub,Array.replicate_succ,Array.replicate_zero,List.push_toArray,List.append_toArray,List.nil_append,List.cons_append]
 gi_wp2
 clear hbox
 gi_loopw [3] (fun i wr=>∃ k:Nat,k≤xs.length∧i=.int .i64 ((xs.length:Int) - 1 - (k:Int))∧Aside0 (J (downs xs.length k) wr)∧Aside0 (Kp W wr))
  (fun i _=>(intOf i+1).toNat)
 case atStart=>exact ⟨0,Nat.zero_le _,by first|go_num|(simp;done),⟨h0⟩,⟨HKB.out (Below.refl _ _)⟩⟩
 case round =>
  obtain ⟨k,hk,rfl,HJs,HK⟩:=hrel
  by_cases hlt:k<xs.length
  ·obtain ⟨j,hj⟩:∃ j:Nat,xs.length=k+j+1:=⟨xs.length - (k+1),by omega⟩
   have hz:((xs.length:Int) - 1 - (k:Int))=(j:Int):=by omega
   rw [hz]
   have b1:decide ((0:Int)≤(j:Int))=true:=decide_eq_true (by omega)
   have hjl:j<xs.length:=by omega
   have hzz:(j:Int)<(xs.length:Int):=by omega
   have HFr:=Aside0.mk (HF.out wr HK.out)
   have hbox:=HFr.out.box
   have hop:=HFr.out.rows j hjl
   obtain ⟨⟨ad,eA,k0,k1,k2,k3,k4⟩,_,_⟩:=hop
   obtain ⟨fn,tmps,assign,body,hy,hR⟩:=HY.out (downs xs.length k) j wr HJs.out ⟨k,hlt,rfl,by omega⟩
   have HDN:Aside0 (downs xs.length (k+1)=downs xs.length k++[j]):=⟨by rw [downs_succ,show xs.length - 1 - k=j by omega]⟩
   have HKL:Aside0 (k<xs.length):=⟨hlt⟩
   have HZJ:Aside0 ((xs.length:Int) - 1 - ((k+1:Nat):Int)=(j:Int) - 1):=⟨by omega⟩
   unfold bbV blkV at hy
   generalize rd_T50 xs (j:Int)=x at k0 k1 k2 k3 k4 hy
   generalize bg j=g at k0 k1 k2 k3 k4 hy
   have HR:=Aside0.mk hR
   clear hR hj hz hlt hk
   subst eA
   gi_wp2
   refine HR.out.mono ?_
   rintro e W3 (⟨rfl,hJ3,hk3⟩|⟨rfl,hJx3⟩)
   ·have HK3:=Aside0.mk (HKT.out HK.out hk3)
    have HJ3:=Aside0.mk hJ3
    clear hy hk3 hJ3 hbox k0 k1 k2 k3 k4
    gi_wp2
    go_roundw
    case rel=>exact ⟨k+1,HKL.out,by rw [HZJ.out],⟨by rw [HDN.out];exact HJ3.out⟩,HK3⟩
    case measure=>(simp [intOf];try omega)
   ·gi_wp2
    refine bodyPost_ret (results_none rfl _ _ _) rfl ?_
    exact ⟨⟨_,rfl⟩,.inr ⟨_,⟨k,HKL.out,HDN.out.symm⟩,hJx3⟩⟩
  ·obtain rfl:k=xs.length:=by omega
   have hz:((xs.length:Int) - 1 - (xs.length:Int))=-1:=by omega
   rw [hz]
   gi_wp2
   go_end0
   exact ⟨⟨_,rfl⟩,.inl ⟨_,rfl,HJs.out⟩⟩
theorem bb_seq (n:Nat) (hn:1≤n) (Bs:Nat) (A:Option Addr) (c:Nat) (xs:List S50) (bg:Nat→Option Addr × Nat) (hlen:xs.length≤1000000000000) (Kp:World→World→Prop) (hKt:∀ {A B C:World},Kp A B→Kp B C→Kp A C) (hKb:∀ {A B:World},Below A.heap.size A B→Kp A B) (w:World)
  (hF:∀ W wr,Below w.heap.size w W→Kp W wr→bbF wr Bs A c xs bg) :
  SeqB Fence.wide n Tryz.prog 106 #[.pointer (some ⟨Bs,0,none⟩)] (bbV xs bg) Kp (fun ys=>ys=downs xs.length xs.length) (fun pre=>∃ k,k<xs.length∧pre=downs xs.length (k+1)) (fun pre x=>∃ k,k<xs.length∧pre=downs xs.length k∧x=xs.length - 1 - k) w:=fun l J Jx W hW hJ hY h0 =>
 bb1_in n hn l Bs A c xs bg hlen Kp hKt hKb J Jx hJ hY W (fun wr hk=>hF W wr hW hk) h0
set_option maxHeartbeats 2000000 in
theorem bb_in (n:Nat) (A:Option Addr) (len cap:Nat) (w:World) :
  CallsIn Fence.wide n Tryz.prog 80 #[.slice A len cap] w fun e w'=>e=.returned (.func (.func 106) #[] #[.pointer (some ⟨w.heap.size,0,none⟩)])∧w'=w.alloc (.cells #[.slice A len cap] 22):=by
 refine callsIn_of_wp Tryz.func80 rfl trivial ?_ rfl
 simp only [Tryz.ntmps80,List.size_toArray,List.length_cons,List.length_nil,Nat.reduceAdd,Nat.reduceSub,Array.replicate_succ,Array.replicate_zero,List.push_toArray,List.append_toArray,List.nil_append,List.cons_append]
 gi_wp2
 go_ret
 exact ⟨rfl,rfl⟩
/-- What bo's iterator reads. -/
structure boF (wr:World) (Bs:Nat) (A:Option Addr) (c:Nat) (xs:List S45) (bg:Nat→Option Addr × Nat):Prop where mk ::
 box:wr.cell? ⟨Bs,0,none⟩=some (.slice A xs.length c)
 rows:OpsAt wr A xs bg
def boV (xs:List S45) (bg:Nat→Option Addr × Nat) (i:Nat):Array Value:=#[.int .i64 (i:Int),opV (rd_T45 xs (i:Int)) (bg i)]
set_option maxRecDepth 100000 in
set_option maxHeartbeats 4000000 in
theorem bo1_in (n:Nat) (hn:1≤n) (l Bs:Nat) (A:Option Addr) (c:Nat) (xs:List S45) (bg:Nat→Option Addr × Nat) (hlen:xs.length≤1000000000000)
  (Kp:World→World→Prop) (hKt:∀ {A B C:World},Kp A B→Kp B C→Kp A C) (hKb:∀ {A B:World},Below A.heap.size A B→Kp A B)
  (J Jx:List Nat→World→Prop) (hJ:∀ s A B,J s A→Below A.heap.size A B→J s B)
  (hY:∀ pre x W,J pre W→(∃ k,k<xs.length∧pre=downs xs.length k∧x=xs.length - 1 - k)→YieldAt Fence.wide (n - 1) Tryz.prog l (boV xs bg x) W fun e W' =>
   (e=.returned (.bool true)∧J (pre++[x]) W'∧Kp W W')∨(e=.returned (.bool false)∧Jx (pre++[x]) W'))
  (W:World) (hF:∀ wr,Kp W wr→boF wr Bs A c xs bg) (h0:J [] W) :
  CallsIn Fence.wide n Tryz.prog 107 #[.func (.yield l) #[] #[],.pointer (some ⟨Bs,0,none⟩)] W fun e W'=>(∃ v,e=.returned v) ∧
   ((∃ ys,ys=downs xs.length xs.length∧J ys W')∨(∃ pre,(∃ k,k<xs.length∧pre=downs xs.length (k+1))∧Jx pre W')):=by
 have hu43:=Tryz.underlying50
 have hu45:=Tryz.underlying45
 have hu41:=Tryz.underlying48
 have hbox:=(hF W (hKb (Below.refl _ _))).box
 have HF:=Aside0.mk hF
 have HY:=Aside0.mk hY
 have HJ:=Aside0.mk hJ
 have HKT:=Aside0.mk @hKt
 have HKB:=Aside0.mk @hKb
 clear hF hY hJ hKt hKb
 refine callsIn_of_wp Tryz.func107 rfl trivial ?_ rfl
 simp only [Tryz.ntmps107,List.size_toArray,List.length_cons,List.length_nil,Nat.reduceAdd,Nat.reduceSub,Array.replicate_succ,Array.replicate_zero,List.push_toArray,List.append_toArray,List.nil_append,List.cons_append]
 gi_wp2
 clear hbox
 gi_loopw [3] (fun i wr=>∃ k:Nat,k≤xs.length∧i=.int .i64 ((xs.length:Int) - 1 - (k:Int))∧Aside0 (J (downs xs.length k) wr)∧Aside0 (Kp W wr))
  (fun i _=>(intOf i+1).toNat)
 case atStart=>exact ⟨0,Nat.zero_le _,by first|go_num|(simp;done),⟨h0⟩,⟨HKB.out (Below.refl _ _)⟩⟩
 case round =>
  obtain ⟨k,hk,rfl,HJs,HK⟩:=hrel
  by_cases hlt:k<xs.length
  ·obtain ⟨j,hj⟩:∃ j:Nat,xs.length=k+j+1:=⟨xs.length - (k+1),by omega⟩
   have hz:((xs.length:Int) - 1 - (k:Int))=(j:Int):=by omega
   rw [hz]
   have b1:decide ((0:Int)≤(j:Int))=true:=decide_eq_true (by omega)
   have hjl:j<xs.length:=by omega
   have hzz:(j:Int)<(xs.length:Int):=by omega
   have HFr:=Aside0.mk (HF.out wr HK.out)
   have hbox:=HFr.out.box
   have hop:=HFr.out.rows j hjl
   obtain ⟨⟨ad,eA,k0,k1,k2,k3,k4,k5⟩,_,_⟩:=hop
   obtain ⟨fn,tmps,assign,body,hy,hR⟩:=HY.out (downs xs.length k) j wr HJs.out ⟨k,hlt,rfl,by omega⟩
   have HDN:Aside0 (downs xs.length (k+1)=downs xs.length k++[j]):=⟨by rw [downs_succ,show xs.length - 1 - k=j by omega]⟩
   have HKL:Aside0 (k<xs.length):=⟨hlt⟩
   have HZJ:Aside0 ((xs.length:Int) - 1 - ((k+1:Nat):Int)=(j:Int) - 1):=⟨by omega⟩
   unfold boV opV at hy
   generalize rd_T45 xs (j:Int)=x at k0 k1 k2 k3 k4 k5 hy
   generalize bg j=g at k0 k1 k2 k3 k4 k5 hy
   have HR:=Aside0.mk hR
   clear hR hj hz hlt hk
   subst eA
   gi_wp2
   refine HR.out.mono ?_
   rintro e W3 (⟨rfl,hJ3,hk3⟩|⟨rfl,hJx3⟩)
   ·have HK3:=Aside0.mk (HKT.out HK.out hk3)
    have HJ3:=Aside0.mk hJ3
    clear hy hk3 hJ3 hbox k0 k1 k2 k3 k4 k5
    gi_wp2
    go_roundw
    case rel=>exact ⟨k+1,HKL.out,by rw [HZJ.out],⟨by rw [HDN.out];exact HJ3.out⟩,HK3⟩
    case measure=>(simp [intOf];try omega)
   ·gi_wp2
    refine bodyPost_ret (results_none rfl _ _ _) rfl ?_
    exact ⟨⟨_,rfl⟩,.inr ⟨_,⟨k,HKL.out,HDN.out.symm⟩,hJx3⟩⟩
  ·obtain rfl:k=xs.length:=by omega
   have hz:((xs.length:Int) - 1 - (xs.length:Int))=-1:=by omega
   rw [hz]
   gi_wp2
   go_end0
   exact ⟨⟨_,rfl⟩,.inl ⟨_,rfl,HJs.out⟩⟩
theorem bo_seq (n:Nat) (hn:1≤n) (Bs:Nat) (A:Option Addr) (c:Nat) (xs:List S45) (bg:Nat→Option Addr × Nat) (hlen:xs.length≤1000000000000) (Kp:World→World→Prop) (hKt:∀ {A B C:World},Kp A B→Kp B C→Kp A C) (hKb:∀ {A B:World},Below A.heap.size A B→Kp A B) (w:World)
  (hF:∀ W wr,Below w.heap.size w W→Kp W wr→boF wr Bs A c xs bg) :
  SeqB Fence.wide n Tryz.prog 107 #[.pointer (some ⟨Bs,0,none⟩)] (boV xs bg) Kp (fun ys=>ys=downs xs.length xs.length) (fun pre=>∃ k,k<xs.length∧pre=downs xs.length (k+1)) (fun pre x=>∃ k,k<xs.length∧pre=downs xs.length k∧x=xs.length - 1 - k) w:=fun l J Jx W hW hJ hY h0 =>
 bo1_in n hn l Bs A c xs bg hlen Kp hKt hKb J Jx hJ hY W (fun wr hk=>hF W wr hW hk) h0
set_option maxHeartbeats 2000000 in
theorem bo_in (n:Nat) (A:Option Addr) (len cap:Nat) (w:World) :
  CallsIn Fence.wide n Tryz.prog 81 #[.slice A len cap] w fun e w'=>e=.returned (.func (.func 107) #[] #[.pointer (some ⟨w.heap.size,0,none⟩)])∧w'=w.alloc (.cells #[.slice A len cap] 46):=by
 refine callsIn_of_wp Tryz.func81 rfl trivial ?_ rfl
 simp only [Tryz.ntmps81,List.size_toArray,List.length_cons,List.length_nil,Nat.reduceAdd,Nat.reduceSub,Array.replicate_succ,Array.replicate_zero,List.push_toArray,List.append_toArray,List.nil_append,List.cons_append]
 gi_wp2
 go_ret
 exact ⟨rfl,rfl⟩
end Go.Proofs.YtnkgbnbbmcoiiaaGreat.S
namespace Go.Proofs.YtnkgbnbbmcoiiaaGreat.S
open Go.RowKit Go.Shelf Go.IM Go.Proofs.YtnkgbnbbmcoiiaaGreatW.PrintWords Go.Proofs.YtnkgbnbbmcoiiaaGreatW.PrintLast Go.Proofs.YtnkgbnbbmcoiiaaGreatW.PrintMore
set_option linter.unusedVariables false
attribute [local go_sem] Oper.semAt_some
/-- May an operation's Imm be so? -/
def imB (x:S45) (fn:Int):Bool:=if x.f0=2 then wi x.f4 1 14 else immB x.f0 x.f4 fn (shp x.f0).2.2.2.1
/-- Is an operation right? -/
def ropX (x:S45) (fn:Int):Bool:=ropB x.f0 x.f1 x.f2 x.f3 x.f4 x.f5 (imB x fn)
theorem known_eq (i:Int):word_Known.f i=some (wi i 1 14):=by
 unfold word_Known.f wi
 by_cases h:i ≥ 1
 ·rw [if_pos h]
  by_cases h2:i≤14<;>simp [h2]<;>omega
 ·rw [if_neg h]
  simp
  omega
theorem rightOpX_any (x:S45) (fn:Int) (A:Option Addr) (c:Nat) (w:World) (hC:Kd.C (Kd.int .i64) w A x.f5.length x.f5) (hc:x.f5.length≤c) :
  Calls Tryz.prog 76 #[.agg #[.int .i64 x.f0,.int .i64 x.f1,.int .i64 x.f2,.int .i64 x.f3,.int .i64 x.f4,.slice A x.f5.length c],.int .i64 fn] w fun e w'=>e=.returned (.bool (ropX x fn))∧Below w.heap.size w w' :=
 rightOp_any 1 x.f0 x.f1 x.f2 x.f3 x.f4 fn A c x.f5 (imB x fn) w hC hc (by
  rw [immediate_eq]
  unfold imB
  split
  ·rw [known_eq]
  ·rfl)
/-- Are a function's Terms right? -/
def termsR (bs:List S50):Bool:=bs.all fun x=>rtT x.f1.f0 x.f1.f1 x.f1.f2 x.f1.f3 (bs.length:Int)
/-- Is a function right? -/
def rightF (p:Int) (bs:List S50) (fn:Int):Bool :=
 wi (bs.length:Int) 1 4096 && (wi p 0 8 && (termsR bs && (decide ((plcs bs bs.length).length≤16384) && (plcs bs bs.length).all fun q=>ropX (opOf bs q) fn)))
/-- Right's three boxes. -/
def rW (w:World) (p:Int) (A:Option Addr) (n c:Nat) (fn:Int):World:=((w.alloc (.cells #[.int .i64 p,.slice A n c] 24)).alloc (.cells #[.int .i64 fn] 3)).alloc (.cells #[.bool false] 4)
theorem rW_box (w:World) (p:Int) (A:Option Addr) (n c:Nat) (fn:Int):Boxed (rW w p A n c fn) (w.heap.size+1+1) 4 (.bool false):=by
 have:=Boxed.new ((w.alloc (.cells #[.int .i64 p,.slice A n c] 24)).alloc (.cells #[.int .i64 fn] 3)) 4 (.bool false)
 rwa [World.size_alloc,World.size_alloc] at this
theorem rW_fn (w:World) (p:Int) (A:Option Addr) (n c:Nat) (fn:Int):Boxed (rW w p A n c fn) (w.heap.size+1) 3 (.int .i64 fn):=by
 have:=Boxed.new (w.alloc (.cells #[.int .i64 p,.slice A n c] 24)) 3 (.int .i64 fn)
 rw [World.size_alloc] at this
 exact this.alloc _
theorem rW_f (w:World) (p:Int) (A:Option Addr) (n c:Nat) (fn:Int):(rW w p A n c fn).heap[w.heap.size]?=some (.cells #[.int .i64 p,.slice A n c] 24 (0,0)) :=
 blk_alloc (blk_alloc (blk_new w (.cells #[.int .i64 p,.slice A n c] 24)) _) _
theorem rW_below (w:World) (p:Int) (A:Option Addr) (n c:Nat) (fn:Int):Below w.heap.size w (rW w p A n c fn):=below_alloc (below_alloc (below_alloc (Below.refl _ _) _) _) _
set_option maxHeartbeats 4000000 in
set_option maxRecDepth 100000 in
theorem right_few (p:Int) (A:Option Addr) (c:Nat) (bs:List S50) (fn:Int) (w:World) (h:wi (bs.length:Int) 1 4096=false) :
  Calls Tryz.prog 45 #[.agg #[.int .i64 p,.slice A bs.length c],.int .i64 fn] w fun e w'=>e=.returned (.bool false)∧Below w.heap.size w w':=by
 have hu34:=Tryz.underlying24
 have H:=Aside0.mk h
 clear h
 go_enter Tryz.func45,Tryz.ntmps45
 go_wp2_with (go_at_call 71;refine (within_any _ _ _ _).mono ?_;rintro e w1 ⟨rfl,hb⟩;rw [H.out];have HB1:=Aside0.mk (below_then (rW_below w p A bs.length c fn) (rW_below w p A bs.length c fn).size hb);have HX:=Aside0.mk (blk_below (rW_box w p A bs.length c fn) hb);have c4:=Boxed.cell HX.out;have f4:=Boxed.frozen HX.out;clear hb)
 have e4:=(Boxed.set (.bool false) HX.out).cell
 refine bodyPost_ret (v:=.bool false) (by simp [results,Tryz.results45,go_sem,e4]) rfl ⟨rfl,?_⟩
 exact HB1.out.setCell (p:=⟨_,0,none⟩) (by show w.heap.size≤w.heap.size+1+1;omega) _
set_option maxHeartbeats 4000000 in
set_option maxRecDepth 100000 in
theorem right_par (p:Int) (A:Option Addr) (c:Nat) (bs:List S50) (fn:Int) (w:World) (h:wi (bs.length:Int) 1 4096=true) (h' : wi p 0 8=false) :
  Calls Tryz.prog 45 #[.agg #[.int .i64 p,.slice A bs.length c],.int .i64 fn] w fun e w'=>e=.returned (.bool false)∧Below w.heap.size w w':=by
 have hu34:=Tryz.underlying24
 have H:=Aside0.mk h
 have H':=Aside0.mk h'
 clear h h'
 go_enter Tryz.func45,Tryz.ntmps45
 go_wp2_with (first
  | (have hz:=HB1;clear hz;go_at_call 71;refine (within_any _ _ _ _).mono ?_;rintro e w2 ⟨rfl,hb⟩;rw [H'.out];have HB2:=Aside0.mk (below_then HB1.out HB1.out.size hb);have HX2:=Aside0.mk (blk_below HX.out hb);have c4:=Boxed.cell HX2.out;have f4:=Boxed.frozen HX2.out;clear hb)
  | (go_at_call 71;refine (within_any _ _ _ _).mono ?_;rintro e w1 ⟨rfl,hb⟩;rw [H.out];have HB1:=Aside0.mk (below_then (rW_below w p A bs.length c fn) (rW_below w p A bs.length c fn).size hb);have HX:=Aside0.mk (blk_below (rW_box w p A bs.length c fn) hb);have HF:=Aside0.mk (blk_below (rW_f w p A bs.length c fn) hb);have c0:=blk_cell HF.out 0;have c1:=blk_cell HF.out 1;simp only [List.getElem?_toArray,List.getElem?_cons_zero,List.getElem?_cons_succ] at c0 c1;clear hb))
 have e4:=(Boxed.set (.bool false) HX2.out).cell
 refine bodyPost_ret (v:=.bool false) (by simp [results,Tryz.results45,go_sem,e4]) rfl ⟨rfl,?_⟩
 exact HB2.out.setCell (p:=⟨_,0,none⟩) (by show w.heap.size≤w.heap.size+1+1;omega) _
set_option maxHeartbeats 4000000 in
set_option maxRecDepth 100000 in
theorem right_term (p:Int) (A:Option Addr) (c:Nat) (bs:List S50) (fn:Int) (w:World) (hC:Kd.C k50 w A bs.length bs) (h:wi (bs.length:Int) 1 4096=true) (h' : wi p 0 8=true) (ht:termsR bs=false) :
  Calls Tryz.prog 45 #[.agg #[.int .i64 p,.slice A bs.length c],.int .i64 fn] w fun e w'=>e=.returned (.bool false)∧Below w.heap.size w w':=by
 have hu34:=Tryz.underlying24
 have H:=Aside0.mk h
 have H':=Aside0.mk h'
 have HT:=Aside0.mk ht
 have HC:=Aside0.mk hC
 clear h h' ht hC
 go_enter Tryz.func45,Tryz.ntmps45
 go_wp2_with (first
  | (go_at_call 72;refine (containsB_any A c bs ⟨w.heap.size,0,none⟩ A bs.length c _ (Kd.C_below HC.out HB2.out) (blk_cell HF2.out 1)).mono ?_;rintro e w3 ⟨rfl,hb⟩;rw [show (bs.all fun x=>rtT x.f1.f0 x.f1.f1 x.f1.f2 x.f1.f3 ((bs.length:Nat):Int))=false from HT.out];have HB3:=Aside0.mk (below_then HB2.out HB2.out.size hb);have HX3:=Aside0.mk (blk_below HX2.out hb);have c4:=Boxed.cell HX3.out;have f4:=Boxed.frozen HX3.out;clear hb)
  | (have hz:=HB1;clear hz;go_at_call 71;refine (within_any _ _ _ _).mono ?_;rintro e w2 ⟨rfl,hb⟩;rw [H'.out];have HB2:=Aside0.mk (below_then HB1.out HB1.out.size hb);have HX2:=Aside0.mk (blk_below HX.out hb);have HF2:=Aside0.mk (blk_below HF.out hb);clear c0 c1;have c0:=blk_cell HF2.out 0;have c1:=blk_cell HF2.out 1;simp only [List.getElem?_toArray,List.getElem?_cons_zero,List.getElem?_cons_succ] at c0 c1;clear hb)
  | (go_at_call 71;refine (within_any _ _ _ _).mono ?_;rintro e w1 ⟨rfl,hb⟩;rw [H.out];have HB1:=Aside0.mk (below_then (rW_below w p A bs.length c fn) (rW_below w p A bs.length c fn).size hb);have HX:=Aside0.mk (blk_below (rW_box w p A bs.length c fn) hb);have HF:=Aside0.mk (blk_below (rW_f w p A bs.length c fn) hb);have c0:=blk_cell HF.out 0;have c1:=blk_cell HF.out 1;simp only [List.getElem?_toArray,List.getElem?_cons_zero,List.getElem?_cons_succ] at c0 c1;clear hb))
 have e4:=(Boxed.set (.bool false) HX3.out).cell
 refine bodyPost_ret (v:=.bool false) (by simp [results,Tryz.results45,go_sem,e4]) rfl ⟨rfl,?_⟩
 exact HB3.out.setCell (p:=⟨_,0,none⟩) (by show w.heap.size≤w.heap.size+1+1;omega) _
theorem opOf_far {bs:List S50} {q:Nat × Nat} (h:¬ (q.1<bs.length∧q.2<opLen bs q.1)):opOf bs q=z45:=by
 unfold opOf
 by_cases h1:q.1<bs.length
 ·have h2:¬ q.2<(rd_T50 bs (q.1:Int)).f0.length:=fun h2=>h ⟨h1,h2⟩
  unfold rd_T45
  rw [List.getD_eq_getElem?_getD,Int.toNat_natCast,List.getElem?_eq_none (by omega)]
  rfl
 ·have:rd_T50 bs (q.1:Int)=z50:=by
   unfold rd_T50
   rw [List.getD_eq_getElem?_getD,Int.toNat_natCast,List.getElem?_eq_none (by omega)]
   rfl
  rw [this]
  simp [rd_T45,z50]
/-- Whatever place: what goes out there reads as an operation. -/
theorem op_row {w:World} {bs:List S50} {bg:Nat→Option Addr × Nat} {oo:Nat→Nat→Option Addr × Nat} (ho:∀ i,i<bs.length→OpsAt w (bg i).1 (rd_T50 bs (i:Int)).f0 (oo i)) (q:Nat × Nat) :
  (opOf bs q).f5.length≤(oo q.1 q.2).2∧Kd.C (Kd.int .i64) w (oo q.1 q.2).1 (opOf bs q).f5.length (opOf bs q).f5:=by
 by_cases h:q.1<bs.length∧q.2<opLen bs q.1
 ·have:=ho q.1 h.1 q.2 h.2
  exact ⟨this.cap,this.row⟩
 ·rw [opOf_far h]
  exact ⟨Nat.zero_le _,rfl,by simp [z45],fun h=>absurd h (by simp [z45])⟩
set_option maxHeartbeats 8000000 in
set_option maxRecDepth 100000 in
theorem right_in (p:Int) (A:Option Addr) (c:Nat) (bs:List S50) (fn:Int) (w:World) (hC:Kd.C k50 w A bs.length bs) (h:wi (bs.length:Int) 1 4096=true) (h' : wi p 0 8=true) (ht:termsR bs=true) :
  CallsIn Fence.wide 5 Tryz.prog 45 #[.agg #[.int .i64 p,.slice A bs.length c],.int .i64 fn] w fun e w'=>e=.returned (.bool (decide ((plcs bs bs.length).length≤16384) && (plcs bs bs.length).all fun q=>ropX (opOf bs q) fn))∧Below w.heap.size w w':=by
 have hu34:=Tryz.underlying24
 have hlen:bs.length≤1000000000000:=by
  simp only [wi,decide_eq_true_eq] at h
  omega
 have H:=Aside0.mk h
 have H':=Aside0.mk h'
 have HT:=Aside0.mk ht
 have HC:=Aside0.mk hC
 have HLN:=Aside0.mk hlen
 clear h h' ht hC hlen
 refine callsIn_of_wp_marks Tryz.func45 rfl trivial ?_ rfl
 simp only [Tryz.ntmps45,List.size_toArray,List.length_cons,List.length_nil,Nat.reduceAdd,Nat.reduceSub,Array.replicate_succ,Array.replicate_zero,List.push_toArray,List.append_toArray,List.nil_append,List.cons_append]
 gi_wp2_with (refine ⟨trivial,?_⟩;first
  | (gi_at_call 75;refine (ops_in _ _ _ _ _ _).mono ?_;rintro e w4 ⟨rfl,rfl⟩)
  | (gi_at_call 72;refine (callsIn_wide.2 (containsB_any A c bs ⟨w.heap.size,0,none⟩ A bs.length c _ (Kd.C_below HC.out HB2.out) (blk_cell HF2.out 1))).mono ?_;rintro e w3 ⟨rfl,hb⟩;rw [show (bs.all fun x=>rtT x.f1.f0 x.f1.f1 x.f1.f2 x.f1.f3 ((bs.length:Nat):Int))=true from HT.out];have HB3:=Aside0.mk (below_then HB2.out HB2.out.size hb);have HX3:=Aside0.mk (blk_below HX2.out hb);have HF3:=Aside0.mk (blk_below HF2.out hb);have HN3:=Aside0.mk (blk_below HN2.out hb);clear c0 c1;have HF4:=Aside0.mk (blk_alloc HF3.out (.cells #[.int .i64 0] 3));have c0:=blk_cell HF4.out 0;have c1:=blk_cell HF4.out 1;simp only [List.getElem?_toArray,List.getElem?_cons_zero,List.getElem?_cons_succ] at c0 c1;clear hb)
  | (have hz:=HB1;clear hz;gi_at_call 71;refine (callsIn_wide.2 (within_any _ _ _ _)).mono ?_;rintro e w2 ⟨rfl,hb⟩;rw [H'.out];have HB2:=Aside0.mk (below_then HB1.out HB1.out.size hb);have HX2:=Aside0.mk (blk_below HX.out hb);have HN2:=Aside0.mk (blk_below HN.out hb);have HF2:=Aside0.mk (blk_below HF.out hb);clear c0 c1;have c0:=blk_cell HF2.out 0;have c1:=blk_cell HF2.out 1;simp only [List.getElem?_toArray,List.getElem?_cons_zero,List.getElem?_cons_succ] at c0 c1;clear hb)
  | (gi_at_call 71;refine (callsIn_wide.2 (within_any _ _ _ _)).mono ?_;rintro e w1 ⟨rfl,hb⟩;rw [H.out];have HB1:=Aside0.mk (below_then (rW_below w p A bs.length c fn) (rW_below w p A bs.length c fn).size hb);have HX:=Aside0.mk (blk_below (rW_box w p A bs.length c fn) hb);have HN:=Aside0.mk (blk_below (rW_fn w p A bs.length c fn) hb);have HF:=Aside0.mk (blk_below (rW_f w p A bs.length c fn) hb);have c0:=blk_cell HF.out 0;have c1:=blk_cell HF.out 1;simp only [List.getElem?_toArray,List.getElem?_cons_zero,List.getElem?_cons_succ] at c0 c1;clear hb))
 clear c0 c1
 obtain ⟨S,hS⟩:∃ S,w.heap.size=S:=⟨_,rfl⟩
 obtain ⟨M,hM⟩:∃ M,w3.heap.size=M:=⟨_,rfl⟩
 obtain ⟨w5,hw5⟩:∃ w5,(w3.alloc (.cells #[.int .i64 0] 3)).alloc (.cells #[.int .i64 p,.slice A bs.length c] 24)=w5:=⟨_,rfl⟩
 have hSM:S+3≤M:=by have:=blk_lt HX3.out;omega
 have bR3:Boxed w3 (S+2) 4 (.bool false):=by rw [← hS];exact HX3.out
 have bN3:Boxed w3 (S+1) 3 (.int .i64 fn):=by rw [← hS];exact HN3.out
 have hz5:w5.heap.size=M+2:=by rw [← hw5,← hM];simp [World.size_alloc]
 have bR5:Boxed w5 (S+2) 4 (.bool false):=by rw [← hw5];exact (bR3.alloc _).alloc _
 have bN5:Boxed w5 (S+1) 3 (.int .i64 fn):=by rw [← hw5];exact (bN3.alloc _).alloc _
 have bC5:Boxed w5 M 3 (.int .i64 0):=by
  rw [← hw5]
  have:=Boxed.new w3 3 (.int .i64 0)
  rw [hM] at this
  exact this.alloc _
 have bF5:w5.heap[M+1]?=some (.cells #[.int .i64 p,.slice A bs.length c] 24 (0,0)):=by
  rw [← hw5]
  have:=blk_new (w3.alloc (.cells #[.int .i64 0] 3)) (.cells #[.int .i64 p,.slice A bs.length c] 24)
  rw [World.size_alloc,hM] at this
  exact this
 have hB5:Below S w w5:=by rw [← hw5,← hS];exact below_alloc (below_alloc HB3.out _) _
 obtain ⟨bg,hbg⟩:=blks_at HC.out
 obtain ⟨oo,hoo⟩:∃ oo:Nat→Nat→Option Addr × Nat,∀ i,i<bs.length→OpsAt w (bg i).1 (rd_T50 bs (i:Int)).f0 (oo i):=choice_ bs.length (fun i (og:Nat→Option Addr × Nat)=>OpsAt w (bg i).1 (rd_T50 bs (i:Int)).f0 og) (fun i hi=>ops_at (hbg i hi).row)
 have HBG:=Aside0.mk hbg
 have HOO:=Aside0.mk hoo
 have hst:=ops_stops 4 (by decide) (M+1) A c bs bg oo HLN.out (KE S (M+1)) (fun h k=>h.trans k) (fun h=>KE.of_below h) w5 (fun W wr hW hk=>by
  have hkc:KC w wr:=KE.kc (below_then (show Below w.heap.size w w5 by rw [hS];exact hB5) (show w.heap.size≤w5.heap.size by have:=hB5.size;omega) hW) (by omega) hk
  refine ⟨?_,HBG.out.kc hkc,fun i hi=>(HOO.out i hi).kc hkc⟩
  have h1:=hk.cells (M+1) _ (by omega) ((hW.block (M+1) (blk_lt bF5)).trans bF5) rfl
  have h2:=blk_cell h1 1
  simpa only [List.getElem?_toArray,List.getElem?_cons_zero,List.getElem?_cons_succ] using h2)
 simp only [hS,hM,Nat.add_assoc,Nat.reduceAdd]
 rw [hw5]
 clear hw5 HX3 HN3 HF4 HF3 HB3 bR3 bN3 hbg hoo HX2 HN2 HF2 HB2 HX HN HF HB1 HT HC H H'
 refine wpIn_rangeFunc_ownGA rfl (by decide) (gf:=97) (lb:=#[.pointer (some ⟨M+1,0,none⟩)]) rfl trivial (enters_of Tryz.func97 (by kernel_rfl) rfl)
  hst (fun h k=>h.trans k) (fun W b o o' hb ho hnc _=>KE.putObj W b o' ho hnc) (Below.refl _ _) (fun _=>rfl)
  (fun pre W=>(pre.length≤16384∧∀ q∈pre,ropX (opOf bs q) fn=true)∧Boxed W (S+1) 3 (.int .i64 fn)∧Boxed W (S+2) 4 (.bool false)∧Boxed W M 3 (.int .i64 (pre.length:Int))∧Below S w W)
  (fun cd pre W=>(cd=.ret∧(16384<pre.length∨∃ q∈pre,ropX (opOf bs q) fn=false))∧Boxed W (S+2) 4 (.bool false)∧Below S w W)
  ?hI ?hIx ⟨⟨by simp,by simp⟩,bN5,bR5,bC5,hB5⟩
  (fun x b=>{ tmps:=#[.agg #[.int .i64 p,.slice A bs.length c],.int .i64 fn,.pointer (some ⟨S,0,none⟩),.pointer (some ⟨S+1,0,none⟩),.pointer (some ⟨S+2,0,none⟩),.pointer (some ⟨M,0,none⟩),.pointer (some ⟨b,0,none⟩),
     .pointer (some ⟨S,1,none⟩),.slice A bs.length c,.int .i64 bs.length,.bool true,.bool false,.bool false,.pointer (some ⟨S,0,none⟩),.int .i64 p,.bool true,.bool false,.bool false,.pointer (some ⟨S,1,none⟩),.slice A bs.length c,
     .func (.func 73) #[] #[.pointer (some ⟨S,0,none⟩)],.bool false,.agg #[.int .i64 p,.slice A bs.length c],.func (.func 97) #[] #[.pointer (some ⟨M+1,0,none⟩)],opV (opOf bs x) (oo x.1 x.2),undef,undef,undef,undef,undef,undef,undef,undef,undef,undef],defers:=[] })
  (fun x=>.cells #[.int .i64 (opOf bs x).f0,.int .i64 (opOf bs x).f1,.int .i64 (opOf bs x).f2,.int .i64 (opOf bs x).f3,.int .i64 (opOf bs x).f4,.slice (oo x.1 x.2).1 (opOf bs x).f5.length (oo x.1 x.2).2] 45)
  (fun W o=>KE.of_below (below_alloc (Below.refl _ _) _)) ?assign ?body ?done ?stop
 case hI =>
  exact OwnFrom.and (ownFrom_pure _ _) (OwnFrom.and (Own.from (boxed_own (S+1) 3 fun _=>.int .i64 fn) _) (OwnFrom.and (Own.from (boxed_own (S+2) 4 fun _=>.bool false) _) (OwnFrom.and (Own.from (boxed_own M 3 fun pre:List (Nat × Nat)=>.int .i64 (pre.length:Int)) _) (ownFrom_below (by omega) (by omega)))))
 case hIx =>
  intro cd
  exact OwnFrom.and (ownFrom_pure _ _) (OwnFrom.and (Own.from (boxed_own (S+2) 4 fun _=>.bool false) _) (ownFrom_below (by omega) (by omega)))
 case assign =>
  intro lr x W KK hKK
  unfold opsV opV
  unfold opV at hKK
  generalize opOf bs x=y at hKK
  generalize oo x.1 x.2=g at hKK
  gi_wp2
  exact hKK
 case body =>
  rintro lr pre x W b ⟨⟨hn,hall⟩,hN,hR,hM',hB⟩ hlt hbM hbx
  have c0:=blk_cell hbx 0
  have c1:=blk_cell hbx 1
  have c2:=blk_cell hbx 2
  have c3:=blk_cell hbx 3
  have c4:=blk_cell hbx 4
  have c5:=blk_cell hbx 5
  simp only [List.getElem?_toArray,List.getElem?_cons_zero,List.getElem?_cons_succ] at c0 c1 c2 c3 c4 c5
  have HBX:=Aside0.mk hbx
  obtain ⟨hcap,hrow0⟩:=op_row HOO.out x
  have HROW:=Aside0.mk hrow0
  have HCAP:=Aside0.mk hcap
  have HPL:Aside0 (((pre++[x]).length:Nat)=pre.length+1):=⟨by simp⟩
  have HALL:=Aside0.mk hall
  have HNN:=Aside0.mk hn
  have cM:=hM'.cell
  have fM:=hM'.frozen
  have cN:=hN.cell
  have cR:=hR.cell
  have fR:=hR.frozen
  have HN:=Aside0.mk hN
  have HR:=Aside0.mk hR
  have HM:=Aside0.mk hM'
  have HB:=Aside0.mk hB
  clear hN hR hM' hB hbx hcap hrow0 hall hlt
  by_cases hq:pre.length=16384
  ·have HQ:Aside0 (16384<(pre++[x]).length):=⟨by have:=HPL.out;omega⟩
   have hz:(pre.length:Int)=16384:=by omega
   rw [hz] at cM HM
   clear hz hq hn
   gi_wp2_with (refine ⟨trivial,?_⟩)
   exact ⟨((KeepsOthers.setCell _ _ _).trans (KeepsOthers.setCell _ _ _)).from _,⟨rfl,.inl HQ.out⟩,Boxed.set _ (HR.out.other (by omega) _),(HB.out.setCell (p:=⟨M,0,none⟩) (by show S≤M;omega) _).setCell (p:=⟨S+2,0,none⟩) (by show S≤S+2;omega) _⟩
  ·have hz:(pre.length:Int)<16384:=by omega
   have hz0:0≤(pre.length:Int):=by omega
   have HQ:Aside0 ((pre++[x]).length≤16384):=⟨by have:=HPL.out;omega⟩
   have HZL:Aside0 (((pre++[x]).length:Int)=(pre.length:Int)+1):=⟨by have:=HPL.out;omega⟩
   generalize (pre.length:Int)=z at hz hz0 cM HM HZL
   have HM2:=Aside0.mk (Boxed.set (.int .i64 (z+1)) HM.out)
   have hcall:=rightOpX_any (opOf bs x) fn (oo x.1 x.2).1 (oo x.1 x.2).2 (W.setCell ⟨M,0,none⟩ (.int .i64 (z+1))) (Kd.C_below HROW.out (by rw [hS];exact HB.out.setCell (p:=⟨M,0,none⟩) (by show S≤M;omega) _)) HCAP.out
   have HCL:=Aside0.mk (callsIn_wide (n:=2) |>.2 hcall)
   clear hcall hn hq
   obtain ⟨rb,hrb⟩:∃ rb,ropX (opOf bs x) fn=rb:=⟨_,rfl⟩
   have HRB:=Aside0.mk hrb
   rw [hrb] at HCL
   clear hrb
   unfold opV
   generalize opOf bs x=y at c0 c1 c2 c3 c4 c5 HCL ⊢
   generalize oo x.1 x.2=g at c5 HCL ⊢
   cases rb with
   | true =>
    gi_wp2_with (refine ⟨trivial,?_⟩;gi_at_call 76;refine (CallsIn.inRound lr HCL.out).mono ?_;rintro e w6 ⟨rfl,hb⟩;have HB6:=Aside0.mk hb;clear hb)
    have e1:Boxed w6 (S+1) 3 (.int .i64 fn):=blk_below (HN.out.other (by omega) _) HB6.out
    have e2:Boxed w6 (S+2) 4 (.bool false):=blk_below (HR.out.other (by omega) _) HB6.out
    have e3:Boxed w6 M 3 (.int .i64 (z+1)):=blk_below HM2.out HB6.out
    refine ⟨((KeepsOthers.setCell _ _ _).from _).trans (KeepsFrom.of_grownBy (row:=none) (grown_of_below HB6.out none) (fun j e=>by cases e)),(KE.setCell _ _ _ ⟨by show S≤M;omega,by show M<M+1;omega⟩).trans (KE.of_below HB6.out),⟨HQ.out,fun q hq=>?_⟩,e1,e2,?_,?_⟩
    ·rcases List.mem_append.1 hq with hq|hq
     ·exact HALL.out q hq
     ·rw [List.mem_singleton.1 hq];exact HRB.out
    ·rw [HZL.out];exact e3
    ·exact below_then (HB.out.setCell (p:=⟨M,0,none⟩) (by show S≤M;omega) _) (by have:=HB.out.size;simp only [World.size_setCell];omega) HB6.out
   | false =>
    gi_wp2_with (refine ⟨trivial,?_⟩;gi_at_call 76;refine (CallsIn.inRound lr HCL.out).mono ?_;rintro e w6 ⟨rfl,hb⟩;have HB6:=Aside0.mk hb;clear hb;have HR6:Aside0 (Boxed w6 (S+2) 4 (.bool false)):=⟨blk_below (HR.out.other (by omega) _) HB6.out⟩;clear cR fR;have cR:=HR6.out.cell;have fR:=HR6.out.frozen)
    refine ⟨(((KeepsOthers.setCell _ _ _).from _).trans (KeepsFrom.of_grownBy (row:=none) (grown_of_below HB6.out none) (fun j e=>by cases e))).trans ((KeepsOthers.setCell _ _ _).from _),⟨rfl,.inr ⟨x,by simp,HRB.out⟩⟩,HR6.out.set _,?_⟩
    exact (below_then (HB.out.setCell (p:=⟨M,0,none⟩) (by show S≤M;omega) _) (by have:=HB.out.size;simp only [World.size_setCell];omega) HB6.out).setCell (p:=⟨S+2,0,none⟩) (by show S≤S+2;omega) _
 case done =>
  rintro Dd ys W hDd rfl ⟨⟨hn,hall⟩,hN,hR,hM',hB⟩ hK
  have cR:=hR.cell
  have fR:=hR.frozen
  have HR:=Aside0.mk hR
  have HB:=Aside0.mk hB
  have HK:=Aside0.mk hK
  have HV:Aside0 ((decide ((plcs bs bs.length).length≤16384) && (plcs bs bs.length).all fun q=>ropX (opOf bs q) fn)=true):=⟨by
   rw [decide_eq_true hn,Bool.true_and]
   exact List.all_eq_true.2 hall⟩
  clear hN hR hM' hB hK hn hall
  gi_wp2
  have hR' : Boxed (W.setCell ⟨S+2,0,none⟩ (.bool true)) (S+2) 4 (.bool true):=HR.out.set _
  have hK':=(KeepsOthers.setCell W ⟨S+2,0,none⟩ (.bool true)).same Dd _ HK.out rfl
  refine leavesM_marks [Dd] _ (by simp) (fun r hr=>by rw [List.mem_singleton.1 hr];exact hK') (fun W' hW'=>?_)
  have hcR:W'.cell? ⟨S+2,0,none⟩=some (.bool true):=(hW'.kc (fun r hr=>by rw [List.mem_singleton.1 hr];exact ⟨_,hK',rfl⟩)).cell hR'.cell
  refine ⟨.bool true,by simp [results,Tryz.results45,go_sem,hcR],by rw [HV.out],?_⟩
  rw [hS]
  exact (HB.out.setCell (p:=⟨S+2,0,none⟩) (by show S≤S+2;omega) _).trans (hW'.below (fun r hr=>by rw [List.mem_singleton.1 hr];omega))
 case stop =>
  rintro Dd cd pre W hDd ⟨rest,hrest⟩ ⟨⟨rfl,hbad⟩,hR,hB⟩ hK
  have cR:=hR.cell
  have HR:=Aside0.mk hR
  have HB:=Aside0.mk hB
  have HK:=Aside0.mk hK
  have HV:Aside0 ((decide ((plcs bs bs.length).length≤16384) && (plcs bs bs.length).all fun q=>ropX (opOf bs q) fn)=false):=⟨by
   rw [hrest]
   rcases hbad with hbad|⟨q,hq,hf⟩
   ·rw [decide_eq_false (by rw [List.length_append];omega),Bool.false_and]
   ·rw [show ((pre++rest).all fun q=>ropX (opOf bs q) fn)=false from List.all_eq_false.2 ⟨q,List.mem_append_left _ hq,by simp [hf]⟩,Bool.and_false]⟩
  clear hR hB hK hbad hrest
  gi_wp2
  refine leavesM_marks [Dd] _ (by simp) (fun r hr=>by rw [List.mem_singleton.1 hr];exact HK.out) (fun W' hW'=>?_)
  have hcR:W'.cell? ⟨S+2,0,none⟩=some (.bool false):=(hW'.kc (fun r hr=>by rw [List.mem_singleton.1 hr];exact ⟨_,HK.out,rfl⟩)).cell HR.out.cell
  refine ⟨.bool false,by simp [results,Tryz.results45,go_sem,hcR],by rw [HV.out],?_⟩
  rw [hS]
  exact HB.out.trans (hW'.below (fun r hr=>by rw [List.mem_singleton.1 hr];omega))
/-- Right. -/
theorem right_any (p:Int) (A:Option Addr) (c:Nat) (bs:List S50) (fn:Int) (w:World) (hC:Kd.C k50 w A bs.length bs) :
  Calls Tryz.prog 45 #[.agg #[.int .i64 p,.slice A bs.length c],.int .i64 fn] w fun e w'=>e=.returned (.bool (rightF p bs fn))∧Below w.heap.size w w':=by
 unfold rightF
 cases h1:wi (bs.length:Int) 1 4096 with
 | false=>exact right_few p A c bs fn w h1
 | true =>
  cases h2:wi p 0 8 with
  | false=>exact right_par p A c bs fn w h1 h2
  | true =>
   cases h3:termsR bs with
   | false=>exact right_term p A c bs fn w hC h1 h2 h3
   | true =>
    simp only [Bool.true_and]
    exact callsIn_wide.1 (right_in p A c bs fn w hC h1 h2 h3)
end Go.Proofs.YtnkgbnbbmcoiiaaGreat.S
