import Derived.Test.YtnkgbnbbmcoiiaaGreatBk
import Derived.Test.YtnkgbnbbmcoiiaaGreatOsets
import Derived.Test.YtnkgbnbbmcoiiaaGreatOback
import Derived.Test.YtnkgbnbbmcoiiaaGreatOright
import Derived.Test.YtnkgbnbbmcoiiaaGreatS8
import Derived.Test.YtnkgbnbbmcoiiaaGreatS7
import Derived.Test.YtnkgbnbbmcoiiaaGreatObeh
import Derived.Test.YtnkgbnbbmcoiiaaGreatOapp
import Derived.Test.YtnkgbnbbmcoiiaaGreatOrterm
import Derived.Test.YtnkgbnbbmcoiiaaGreatS5
import Derived.Test.YtnkgbnbbmcoiiaaGreatS4
import Derived.Test.YtnkgbnbbmcoiiaaGreatS6
import Derived.Test.YtnkgbnbbmcoiiaaGreatRows
import Derived.WalkKit
import Derived.ProofKit
import Derived.OpenShut
import Derived.ChangeOld
import Derived.Below
import Derived.Deep.Slices
namespace Go.Proofs.YtnkgbnbbmcoiiaaGreat.S
open Go.RowKit Go.IM Go.Proofs.YtnkgbnbbmcoiiaaGreatW.PrintWords Go.Proofs.YtnkgbnbbmcoiiaaGreatW.PrintLast Go.Proofs.YtnkgbnbbmcoiiaaGreatW.PrintMore
set_option linter.unusedVariables false
set_option linter.unusedSimpArgs false
set_option maxHeartbeats 4000000 in
set_option maxRecDepth 100000 in
theorem sets_bad (p:Int) (A:Option Addr) (c:Nat) (bs:List S50) (w:World) (hC:Kd.C k50 w A bs.length bs) (hR:rightF p bs 256=false) :
  Calls Tryz.prog 49 #[.agg #[.int .i64 p,.slice A bs.length c]] w fun e w'=>e=.returned (.tuple #[.slice none 0 0,.bool false])∧Below w.heap.size w w':=by
 have HR:=ak_ hR
 have HC:=ak_ hC
 have HB0:=ak_ (below_alloc (Below.refl w.heap.size w) (.cells #[.int .i64 p,.slice A bs.length c] 24))
 have hu34:=Tryz.underlying24
 clear hC hR
 go_enter Tryz.func49,Tryz.ntmps49
 go_wp2_with (go_at_call 45;refine (right_any p A c bs 256 _ (Kd.C_below HC.out HB0.out)).mono ?_;rintro e w1 ⟨rfl,hb⟩;rw [HR.out];have HB1:=ak_ (below_then HB0.out HB0.out.size hb);clear hb)
 refine bodyPost_ret (v:=.tuple #[.slice none 0 0,.bool false]) (by simp [results,Tryz.results49,go_sem]) rfl ⟨rfl,HB1.out⟩
/-- The sets of a right function. -/
theorem sets_ok (p:Int) (A:Option Addr) (c:Nat) (bs:List S50) (w:World) (hC:Kd.C k50 w A bs.length bs) (hR:rightF p bs 256=true) :
  Calls Tryz.prog 49 #[.agg #[.int .i64 p,.slice A bs.length c]] w (SetsP bs w):=callsIn_wide.1 (sets_in p A c bs w hC hR)
open Classical in
/-- The registers that are live at a place. -/
noncomputable def liveRow (bs:List S50) (i k:Nat):List Int:=((List.range 4096).map fun j:Nat=>(j:Int)+1).filter fun r=>decide (Lv.At (gOf bs) r i k)
theorem regs_rise (n:Nat):((List.range n).map fun j:Nat=>(j:Int)+1).Pairwise (·<·):=by
 rw [List.pairwise_map]
 exact List.pairwise_lt_range.imp (fun h=>by omega)
theorem liveRow_rise (bs:List S50) (i k:Nat):Rise (liveRow bs i k):=(regs_rise 4096).sublist List.filter_sublist
theorem mem_regs {n:Nat} {r:Int} : r∈((List.range n).map fun j:Nat=>(j:Int)+1)↔1≤r∧r≤(n:Int):=by
 simp only [List.mem_map,List.mem_range]
 constructor
 ·rintro ⟨j,h1,rfl⟩;omega
 ·rintro ⟨h1,h2⟩;exact ⟨(r - 1).toNat,by omega,by omega⟩
open Classical in
theorem mem_liveRow {p:Int} {bs:List S50} {fn:Int} (h:RightP p bs fn) {i k:Nat} {r:Int} : r∈liveRow bs i k↔Lv.At (gOf bs) r i k:=by
 unfold liveRow
 rw [List.mem_filter,mem_regs]
 exact ⟨fun h=>of_decide_eq_true h.2,fun ha=>⟨by have:=h.at_reg ha;omega,decide_eq_true ha⟩⟩
theorem liveRow_eq {p:Int} {bs:List S50} {fn:Int} (h:RightP p bs fn) {i k:Nat} {zs:List Int} (hz:Rise zs) (hm:∀ r,r∈zs↔Lv.At (gOf bs) r i k):zs=liveRow bs i k :=
 Lv.rise_ext hz (liveRow_rise bs i k) (fun r=>(hm r).trans (mem_liveRow h).symm)
/-- In,in closed form. -/
noncomputable def inL (bs:List S50):List (List Int):=(List.range bs.length).map fun i=>liveRow bs i 0
theorem KS.len {es:List (Int × Value)} {bs:List S50} {p fn:Int} {i k:Nat} (h:KS es (fun r=>Lv.At (gOf bs) r i k)) (hr:RightP p bs fn):es.length≤4096:=h.sz.regs (fun r ha=>hr.at_reg ha)
set_option maxHeartbeats 4000000 in
set_option maxRecDepth 100000 in
theorem in_ok (p:Int) (A:Option Addr) (c:Nat) (bs:List S50) (w:World) (hC:Kd.C k50 w A bs.length bs) (hR:rightF p bs 256=true) :
  Calls Tryz.prog 20 #[.agg #[.int .i64 p,.slice A bs.length c]] w fun e w'=>∃ v,e=.returned v∧Kd.R (Kd.slice 3 (Kd.int .i64)) 31 w' w.heap.size (fun _=>True) v (inL bs)∧Below w.heap.size w w':=by
 have RP:=ak_ (rightF_iff hR)
 have HR:=ak_ hR
 have HC:=ak_ hC
 have HB0:=ak_ (below_alloc (Below.refl w.heap.size w) (.cells #[.int .i64 p,.slice A bs.length c] 24))
 have hu34:=Tryz.underlying24
 have hlen:=RP.out.len
 clear hC hR
 obtain ⟨fi,hfi⟩:∃ fi:Nat→List Int,fi=fun i=>liveRow bs i 0:=⟨_,rfl⟩
 have HFI:=ak_ hfi
 have hin:inL bs=(List.range bs.length).map fi:=by rw [hfi];rfl
 rw [hin]
 clear hfi hin
 go_enter Tryz.func20,Tryz.ntmps20
 go_wp2_with (go_at_call 49;refine (sets_ok p A c bs _ (Kd.C_below HC.out HB0.out) HR.out).mono ?_;rintro e w1 ⟨A1,rfl,hm,hb⟩;have HM:=ak_ hm;have HB1:=ak_ (below_then HB0.out HB0.out.size hb);clear hb hm)
 go_loopw [5,15] (fun v i wr=>∃ j:Nat,j≤bs.length∧i=.int .i64 (j:Int)∧Aside0 (Kd.R (Kd.slice 3 (Kd.int .i64)) 31 wr w1.heap.size (fun _=>True) v ((List.range j).map fi))∧Aside0 (Below w1.heap.size w1 wr)) (fun _ i _=>bs.length - (intOf i).toNat)
 case atStart=>exact ⟨0,Nat.zero_le _,rfl,⟨Kd.R_nil _ _ _ _ _⟩,⟨Below.refl _ _⟩⟩
 case round =>
  obtain ⟨j,hj,rfl,HO,HB⟩:=hrel
  by_cases hlt:j<bs.length
  ·have b1:decide ((j:Int)<(bs.length:Int))=true:=decide_eq_true (by omega)
   obtain ⟨adm,b,es,eM,hcm,hat,hks⟩:=(HM.out.below HB.out) j hlt
   have HAT:=ak_ hat
   have HKS:=ak_ hks
   have HEL:=ak_ (hks.len RP.out)
   clear hat hks
   subst eM
   have HTS:Aside0 ((List.range (j+1)).map fi=(List.range j).map fi++[fi j]):=⟨by rw [List.range_succ,List.map_append];rfl⟩
   have HFJ:Aside0 (liveRow bs j 0=fi j):=⟨by rw [HFI.out]⟩
   have HL:Aside0 (((List.range j).map fi).length≤4096):=⟨by simp;omega⟩
   generalize (List.range j).map fi=out at HO HTS HL
   go_wp2_with (first
    | (go_at_call 50;refine (row_any b es _ _ HAT.out HKS.out (by have:=HEL.out;omega)).mono ?_;rintro e w2 ⟨v2,zs,rfl,hr2,hrise,hmem,hb2⟩;have HR2:=ak_ hr2;have HZ2:=ak_ (liveRow_eq RP.out hrise hmem);have HB2:=ak_ hb2;obtain ⟨A2,c2,rfl⟩:=Kd.R_slice hr2;clear hr2 hrise hmem hb2)
    | (at_builtin;refine Kd.R_append (Kd.slice 3 (Kd.int .i64)) (w0:=w1) w1.heap.size rfl _ _ 35 31 (.slice none 0 0) 24 rfl Tryz.underlying35 info31 rfl (by decide) (by decide) _ out zs [.slice A2 zs.length c2] (fun _=>True) (fun k=>wr.heap.size≤k) rfl rfl ⟨_,rfl,Kd.R_lower (Kd.R_mono (Kd.R_bound HR2.out) (fun k hk=>hk.2.1)) HB.out.size⟩ (fun k hk=>⟨trivial,fun e=>by have:=Kd.R_lt HO.out k e.symm;omega⟩) (fun _ _=>trivial) (Kd.R_below HO.out HB2.out) (below_then HB.out HB.out.size HB2.out) (by have:=HB.out.size;have:=HB2.out.size;omega) (by have:=HL.out;omega) ?_;intro v3 w3 ho3 hb3 hg3 hat3;have HO3:=ak_ ho3;have HB3:=ak_ hb3;have HG3:=ak_ hg3;clear ho3 hb3 hg3 hat3))
   go_roundw
   case rel =>
    refine ⟨j+1,by omega,by go_num,⟨by rw [HTS.out,← HFJ.out,← HZ2.out];exact HO3.out⟩,HB3⟩
   case measure=>simp [intOf];omega
  ·have b1:decide ((j:Int)<(bs.length:Int))=false:=decide_eq_false (by omega)
   obtain rfl:j=bs.length:=by omega
   go_wp2_with fail
   go_ret
   exact ⟨_,rfl,Kd.R_lower HO.out HB1.out.size,below_then HB1.out HB1.out.size HB.out⟩
end Go.Proofs.YtnkgbnbbmcoiiaaGreat.S
namespace Go.Proofs.YtnkgbnbbmcoiiaaGreat.S
open Go.RowKit Go.IM Go.Proofs.YtnkgbnbbmcoiiaaGreatW.PrintWords Go.Proofs.YtnkgbnbbmcoiiaaGreatW.PrintLast Go.Proofs.YtnkgbnbbmcoiiaaGreatW.PrintMore
set_option linter.unusedVariables false
set_option linter.unusedSimpArgs false
/-! ### spans.Number -/
/-- Where block j starts. -/
def pos (bs:List S50) (j:Nat):Nat:=(plcs bs j).length+j
theorem num_inc {j n:Nat} (h:j<n) (hn:n≤4096):wrap64 ((j:Int)+1)=((j+1:Nat):Int):=by
 unfold wrap64
 omega
end Go.Proofs.YtnkgbnbbmcoiiaaGreat.S
namespace Go.Proofs.YtnkgbnbbmcoiiaaGreat.S
open Go.RowKit Go.IM Go.Proofs.YtnkgbnbbmcoiiaaGreatW.PrintWords Go.Proofs.YtnkgbnbbmcoiiaaGreatW.PrintLast Go.Proofs.YtnkgbnbbmcoiiaaGreatW.PrintMore
set_option linter.unusedVariables false
/-! ### The greatest of some numbers -/
/-- m is the greatest of those of which P tells,or 0. -/
structure MaxOf (P:Nat→Prop) (m:Nat):Prop where mk ::
 le:∀ x,P x→x≤m
 is:m=0∨P m
theorem MaxOf.zero:MaxOf (fun _=>False) 0:=⟨fun _ h=>h.elim,.inl rfl⟩
theorem MaxOf.imp {P Q:Nat→Prop} {m:Nat} (h:MaxOf P m) (hq:∀ x,P x↔Q x):MaxOf Q m:=⟨fun x hx=>h.le x ((hq x).2 hx),h.is.imp id (hq m).1⟩
theorem MaxOf.add {P:Nat→Prop} {m:Nat} (h:MaxOf P m) (a:Nat):MaxOf (fun x=>x=a∨P x) (max m a):=by
 by_cases hlt:m<a
 ·rw [Nat.max_eq_right (Nat.le_of_lt hlt)]
  exact ⟨fun x hx=>by
   rcases hx with rfl|hx
   ·exact Nat.le_refl _
   ·have:=h.le x hx;omega,.inr (.inl rfl)⟩
 ·rw [Nat.max_eq_left (Nat.le_of_not_lt hlt)]
  exact ⟨fun x hx=>by
   rcases hx with rfl|hx
   ·omega
   ·exact h.le x hx,h.is.imp id .inr⟩
theorem MaxOf.uniq {P:Nat→Prop} {m n:Nat} (h:MaxOf P m) (k:MaxOf P n):m=n:=by
 have h1:m≤n:=by
  rcases h.is with e|e
  ·omega
  ·exact k.le m e
 have h2:n≤m:=by
  rcases k.is with e|e
  ·omega
  ·exact h.le n e
 omega
/-- The sizes of the rows ahead of block n. -/
def Sizes (bs:List S50) (n x:Nat):Prop:=∃ i k,i<n∧k≤opLen bs i∧x=(liveRow bs i k).length
/-- Those of block i,at places 1 to k,and at its two ends. -/
def SizesTo (bs:List S50) (i k x:Nat):Prop:=x=(liveRow bs i 0).length∨x=(liveRow bs i (opLen bs i)).length∨∃ q,q<k∧x=(liveRow bs i (q+1)).length
theorem sizes_succ (bs:List S50) (i x:Nat):(SizesTo bs i (opLen bs i) x∨Sizes bs i x)↔Sizes bs (i+1) x:=by
 constructor
 ·rintro ((h|h|⟨q,hq,h⟩)|⟨j,k,hj,hk,h⟩)
  ·exact ⟨i,0,Nat.lt_succ_self i,Nat.zero_le _,h⟩
  ·exact ⟨i,_,Nat.lt_succ_self i,Nat.le_refl _,h⟩
  ·exact ⟨i,q+1,Nat.lt_succ_self i,hq,h⟩
  ·exact ⟨j,k,Nat.lt_succ_of_lt hj,hk,h⟩
 ·rintro ⟨j,k,hj,hk,h⟩
  by_cases e:j=i
  ·subst e
   left
   by_cases e0:k=0
   ·subst e0;exact .inl h
   ·refine .inr (.inr ⟨k - 1,by omega,?_⟩)
    rw [Nat.sub_add_cancel (Nat.pos_of_ne_zero e0)];exact h
  ·exact .inr ⟨j,k,by omega,hk,h⟩
theorem sizesTo_zero (bs:List S50) (i y:Nat):SizesTo bs i 0 y↔(y=(liveRow bs i (opLen bs i)).length∨y=(liveRow bs i 0).length):=by
 constructor
 ·rintro (h|h|⟨q,hq,_⟩)
  ·exact .inr h
  ·exact .inl h
  ·exact absurd hq (Nat.not_lt_zero _)
 ·rintro (h|h)
  ·exact .inr (.inl h)
  ·exact .inl h
theorem sizesTo_succ (bs:List S50) (i k y:Nat):SizesTo bs i (k+1) y↔(y=(liveRow bs i (k+1)).length∨SizesTo bs i k y):=by
 constructor
 ·rintro (h|h|⟨q,hq,h⟩)
  ·exact .inr (.inl h)
  ·exact .inr (.inr (.inl h))
  ·by_cases e:q=k
   ·subst e;exact .inl h
   ·exact .inr (.inr (.inr ⟨q,by omega,h⟩))
 ·rintro (h|h|h|⟨q,hq,h⟩)
  ·exact .inr (.inr ⟨k,Nat.lt_succ_self k,h⟩)
  ·exact .inl h
  ·exact .inr (.inl h)
  ·exact .inr (.inr ⟨q,by omega,h⟩)
theorem liveRow_nodup (bs:List S50) (i k:Nat):(liveRow bs i k).Nodup:=(liveRow_rise bs i k).imp (fun h=>by omega)
theorem liveRow_sz {p:Int} {bs:List S50} {fn:Int} (h:RightP p bs fn) (i k:Nat):Lv.Sz (fun r=>Lv.At (gOf bs) r i k) (liveRow bs i k).length:=⟨_,liveRow_nodup bs i k,fun r=>mem_liveRow h,rfl⟩
theorem liveRow_le {p:Int} {bs:List S50} {fn:Int} (h:RightP p bs fn) (i k:Nat):(liveRow bs i k).length≤4096:=(liveRow_sz h i k).regs (fun r ha=>h.at_reg ha)
end Go.Proofs.YtnkgbnbbmcoiiaaGreat.S
namespace Go.Proofs.YtnkgbnbbmcoiiaaGreat.S
open Go.RowKit Go.Proofs.YtnkgbnbbmcoiiaaGreatW.PrintWords Go.Proofs.YtnkgbnbbmcoiiaaGreatW.PrintLast Go.Proofs.YtnkgbnbbmcoiiaaGreatW.PrintMore
set_option linter.unusedVariables false
set_option linter.unusedSimpArgs false
/-! ### few answers always -/
/-- From some fuel on,one answer. -/
def Tt {α:Type} (g:Nat→Option α):Prop:=∃ k0 r,∀ k,k0≤k→g k=some r
theorem Tt.succ {α β:Type} {g:Nat→Option α} {h:Nat→Option β} (f:α→β) (hg:Tt g) (hs:∀ k r,g k=some r→h (k+1)=some (f r)):Tt h:=by
 obtain ⟨k0,r,h0⟩:=hg
 refine ⟨k0+1,f r,fun k hk=>?_⟩
 obtain ⟨k',rfl⟩:∃ k',k=k'+1:=⟨k - 1,by omega⟩
 exact hs k' r (h0 k' (by omega))
theorem Tt.now {α:Type} {h:Nat→Option α} (r:α) (hs:∀ k,h (k+1)=some r):Tt h :=
 ⟨1,r,fun k hk=>by
  obtain ⟨k',rfl⟩:∃ k',k=k'+1:=⟨k - 1,by omega⟩
  exact hs k'⟩
theorem few_in (p:Int) (bs:List S50) (j:Nat) (hj:j<bs.length) (hj1:j<100) (hn:∀ x3,Tt (fun k=>swagelaw14_Few.l0 k x3 ((j+1:Nat):Int) p bs)):∀ (m q:Nat),q+m=301→∀ x3,Tt (fun k=>swagelaw14_Few.l1 k x3 (j:Int) (q:Int) p bs)
 | 0,q,hm,x3=>by
   have h3:Tt (fun k=>swagelaw14_Few.j3 k x3 (j:Int) (q:Int) false p bs):=(hn x3).succ id (fun k r h=>by
    rw [swagelaw14_Few.j3,if_neg (by decide),num_inc hj1 (by decide)];exact h)
   refine h3.succ id (fun k r h=>?_)
   rw [swagelaw14_Few.l1,if_pos (Int.natCast_nonneg j),if_pos (Int.ofNat_lt.2 hj)]
   have e:decide ((q:Int)<300)=false:=decide_eq_false (by omega)
   rw [e]
   split<;>exact h
 | m+1,q,hm,x3=>by
   have h3:Tt (fun k=>swagelaw14_Few.j3 k x3 (j:Int) (q:Int) false p bs):=(hn x3).succ id (fun k r h=>by
    rw [swagelaw14_Few.j3,if_neg (by decide),num_inc hj1 (by decide)];exact h)
   by_cases hq:(q:Int)<((rd_T50 bs (j:Int)).f0.length:Int)
   ·by_cases hq3:(q:Int)<300
    ·have e:decide ((q:Int)<300)=true:=decide_eq_true hq3
     have hj3:Tt (fun k=>swagelaw14_Few.j3 k x3 (j:Int) (q:Int) true p bs):=by
      by_cases ha:((rd_T45 (rd_T50 bs (j:Int)).f0 (q:Int)).f5.length:Int) > 20
      ·exact Tt.now false (fun k=>by
        rw [swagelaw14_Few.j3,if_pos rfl,if_pos (Int.natCast_nonneg j),if_pos (Int.ofNat_lt.2 hj),if_pos (Int.natCast_nonneg q),if_pos hq,if_pos ha])
      ·exact (few_in p bs j hj hj1 hn m (q+1) (by omega) x3).succ id (fun k r h=>by
        rw [swagelaw14_Few.j3,if_pos rfl,if_pos (Int.natCast_nonneg j),if_pos (Int.ofNat_lt.2 hj),if_pos (Int.natCast_nonneg q),if_pos hq,if_neg ha,num_inc (n:=300) (by omega) (by decide)]
        exact h)
     refine hj3.succ id (fun k r h=>?_)
     rw [swagelaw14_Few.l1,if_pos (Int.natCast_nonneg j),if_pos (Int.ofNat_lt.2 hj),if_pos hq,e]
     exact h
    ·refine h3.succ id (fun k r h=>?_)
     rw [swagelaw14_Few.l1,if_pos (Int.natCast_nonneg j),if_pos (Int.ofNat_lt.2 hj),if_pos hq,decide_eq_false hq3]
     exact h
   ·refine h3.succ id (fun k r h=>?_)
    rw [swagelaw14_Few.l1,if_pos (Int.natCast_nonneg j),if_pos (Int.ofNat_lt.2 hj),if_neg hq]
    exact h
theorem few_end (p:Int) (bs:List S50) (x3:Int) (x4:Int):Tt (fun k=>swagelaw14_Few.j1 k x3 x4 false p bs):=by
 by_cases h:(bs.length:Int)≤40
 ·exact Tt.now (decide (x3≤250)) (fun k=>by rw [swagelaw14_Few.j1,if_neg (by decide),if_pos h])
 ·exact Tt.now false (fun k=>by rw [swagelaw14_Few.j1,if_neg (by decide),if_neg h])
theorem few_out (p:Int) (bs:List S50):∀ (m j:Nat),j+m=101→∀ x3,Tt (fun k=>swagelaw14_Few.l0 k x3 (j:Int) p bs)
 | 0,j,hm,x3=>by
   refine (few_end p bs x3 (j:Int)).succ id (fun k r h=>?_)
   have e:decide ((j:Int)<100)=false:=decide_eq_false (by omega)
   rw [swagelaw14_Few.l0,e]
   split<;>exact h
 | m+1,j,hm,x3=>by
   by_cases hj:j<bs.length
   ·by_cases h1:j<100
    ·have e:decide ((j:Int)<100)=true:=decide_eq_true (by omega)
     have hi:=few_in p bs j hj h1 (fun x=>few_out p bs m (j+1) (by omega) x) 301 0 (by decide) (wrap64 (x3+((rd_T50 bs (j:Int)).f0.length:Int)))
     have h2:Tt (fun k=>swagelaw14_Few.j1 k x3 (j:Int) true p bs):=hi.succ id (fun k r h=>by
      rw [swagelaw14_Few.j1,if_pos rfl,if_pos (Int.natCast_nonneg j),if_pos (Int.ofNat_lt.2 hj)]
      exact h)
     refine h2.succ id (fun k r h=>?_)
     rw [swagelaw14_Few.l0,if_pos (Int.ofNat_lt.2 hj),e]
     exact h
    ·have e:decide ((j:Int)<100)=false:=decide_eq_false (by omega)
     refine (few_end p bs x3 (j:Int)).succ id (fun k r h=>?_)
     rw [swagelaw14_Few.l0,e]
     split<;>exact h
   ·refine (few_end p bs x3 (j:Int)).succ id (fun k r h=>?_)
    rw [swagelaw14_Few.l0,if_neg (by omega)]
    exact h
theorem few_total (p:Int) (bs:List S50):Tt (fun k=>swagelaw14_Few.f k p bs):=few_out p bs 101 0 (by decide) 0
end Go.Proofs.YtnkgbnbbmcoiiaaGreat.S
namespace Go.Proofs.YtnkgbnbbmcoiiaaGreat.S
open Go.RowKit Go.IM Go.Proofs.YtnkgbnbbmcoiiaaGreatW.PrintWords Go.Proofs.YtnkgbnbbmcoiiaaGreatW.PrintLast Go.Proofs.YtnkgbnbbmcoiiaaGreatW.PrintMore
set_option linter.unusedVariables false
set_option linter.unusedSimpArgs false
/-- What is live behind a block. -/
def OutP (bs:List S50) (i:Nat) (r:Int):Prop:=∃ j:Nat,(j:Int)∈succT (rd_T50 bs (i:Int)).f1∧Lv.At (gOf bs) r j 0
open Classical in
noncomputable def outRow (bs:List S50) (i:Nat):List Int:=((List.range 4096).map fun j:Nat=>(j:Int)+1).filter fun r=>decide (OutP bs i r)
theorem outRow_rise (bs:List S50) (i:Nat):Rise (outRow bs i):=(regs_rise 4096).sublist List.filter_sublist
open Classical in
theorem mem_outRow {p:Int} {bs:List S50} {fn:Int} (h:RightP p bs fn) {i:Nat} {r:Int} : r∈outRow bs i↔OutP bs i r:=by
 unfold outRow
 rw [List.mem_filter,mem_regs]
 exact ⟨fun h=>of_decide_eq_true h.2,fun ha=>⟨by obtain ⟨j,_,ha⟩:=ha;have:=h.at_reg ha;omega,decide_eq_true ha⟩⟩
theorem outRow_eq {p:Int} {bs:List S50} {fn:Int} (h:RightP p bs fn) {i:Nat} {zs:List Int} (hz:Rise zs) (hm:∀ r,r∈zs↔OutP bs i r):zs=outRow bs i :=
 Lv.rise_ext hz (outRow_rise bs i) (fun r=>(hm r).trans (mem_outRow h).symm)
noncomputable def outL (bs:List S50):List (List Int):=(List.range bs.length).map fun i=>outRow bs i
set_option maxHeartbeats 4000000 in
set_option maxRecDepth 100000 in
theorem out_ok (p:Int) (A:Option Addr) (c:Nat) (bs:List S50) (w:World) (hC:Kd.C k50 w A bs.length bs) (hR:rightF p bs 256=true) :
  Calls Tryz.prog 23 #[.agg #[.int .i64 p,.slice A bs.length c]] w fun e w'=>∃ v,e=.returned v∧Kd.R (Kd.slice 3 (Kd.int .i64)) 31 w' w.heap.size (fun _=>True) v (outL bs)∧Below w.heap.size w w':=by
 have RP:=ak_ (rightF_iff hR)
 have HR:=ak_ hR
 have HC:=ak_ hC
 have HB0:=ak_ (below_alloc (Below.refl w.heap.size w) (.cells #[.int .i64 p,.slice A bs.length c] 24))
 have HF0:=ak_ (blk_new w (.cells #[.int .i64 p,.slice A bs.length c] 24))
 have hu34:=Tryz.underlying24
 have hlen:=RP.out.len
 clear hC hR
 obtain ⟨fi,hfi⟩:∃ fi:Nat→List Int,fi=fun i=>outRow bs i:=⟨_,rfl⟩
 have HFI:=ak_ hfi
 have hin:outL bs=(List.range bs.length).map fi:=by rw [hfi];rfl
 rw [hin]
 clear hfi hin
 have hsl:=succL_length bs
 go_enter Tryz.func23,Tryz.ntmps23
 go_wp2_with (first
  | (go_at_call 49;refine (sets_ok p A c bs _ (Kd.C_below HC.out HB0.out) HR.out).mono ?_;rintro e w1 ⟨A1,rfl,hm,hb⟩;have HM1:=ak_ hm;have HB1:=ak_ (below_then HB0.out HB0.out.size hb);have HF1:=ak_ (blk_below HF0.out hb);have c0:=bc_ HF1 0;have c1:=bc_ HF1 1;simp only [ga_,gb_,gc_] at c0 c1;clear hb hm)
  | (go_at_call 52;refine (succ_any p A c bs _ (Kd.C_below HC.out HB1.out) RP.out.len.2).mono ?_;rintro e w2 ⟨v2,rfl,hr2,hb⟩;obtain ⟨A2,c2',rfl,_,hC2⟩:=Kd.R_reads hr2;have HC2:=ak_ hC2;have HM:=ak_ (HM1.out.below hb);have HB2:=ak_ (below_then HB1.out HB1.out.size hb);clear hb hr2 hC2))
 clear c0 c1
 go_loopw [5,18] (fun v i wr=>∃ j:Nat,j≤bs.length∧i=.int .i64 (j:Int)∧Aside0 (Kd.R (Kd.slice 3 (Kd.int .i64)) 31 wr w2.heap.size (fun _=>True) v ((List.range j).map fi))∧Aside0 (Below w2.heap.size w2 wr)) (fun _ i _=>bs.length - (intOf i).toNat)
 case atStart=>exact ⟨0,Nat.zero_le _,rfl,⟨Kd.R_nil _ _ _ _ _⟩,⟨Below.refl _ _⟩⟩
 case round =>
  obtain ⟨j,hj,rfl,HO,HB⟩:=hrel
  by_cases hlt:j<bs.length
  ·have b1:decide ((j:Int)<((succL bs).length:Int))=true:=decide_eq_true (by omega)
   have hlt2:j<(succL bs).length:=by omega
   obtain ⟨ad2,A0,cb,eA2,sE,hcb,hCr⟩:=at_L1 (Kd.C_below HC2.out HB.out) (j:Int) (by omega) (by omega)
   rw [Int.toNat_natCast] at sE
   have HCR:=ak_ hCr
   have HSL:=ak_ (succL_at hlt)
   have HSC:=ak_ (RP.out.succ hlt)
   have HMW:=ak_ (HM.out.below HB.out)
   clear hCr hcb
   have HTS:Aside0 ((List.range (j+1)).map fi=(List.range j).map fi++[fi j]):=⟨by rw [List.range_succ,List.map_append];rfl⟩
   have HFJ:Aside0 (outRow bs j=fi j):=⟨by rw [HFI.out]⟩
   have HL:Aside0 (((List.range j).map fi).length≤4096):=⟨by simp;omega⟩
   generalize (List.range j).map fi=out at HO HTS HL
   subst eA2
   go_wp2_with (first
    | (go_at_call 53;refine (ends_any A1 bs.length bs.length _ A0 cb (rd_L1 (succL bs) (j:Int)) _ (by omega) HMW.out HCR.out (by rw [HSL.out];exact HSC.out)).mono ?_;rintro e w3 ⟨m,es,rfl,ha,hk,_,hb⟩;have HA3:=ak_ ha;have HK3:=ak_ hk;rw [HSL.out] at HK3;have HE3:Aside0 (es.length≤4096):=⟨HK3.out.sz.regs (fun r ⟨j',_,h⟩=>RP.out.at_reg h)⟩;have HB3:=ak_ hb;clear ha hk hb)
    | (go_at_call 50;refine (row_any m es _ _ HA3.out HK3.out (by have:=HE3.out;omega)).mono ?_;rintro e w4 ⟨v4,zs,rfl,hr4,hrise,hmem,hb4⟩;have HR4:=ak_ (Kd.R_lower hr4 HB3.out.size);have HZ4:=ak_ (outRow_eq RP.out hrise hmem);have HB4:=ak_ (below_then HB3.out HB3.out.size hb4);obtain ⟨A4,c4,rfl⟩:=Kd.R_slice hr4;clear hr4 hrise hmem hb4)
    | (at_builtin;refine Kd.R_append (Kd.slice 3 (Kd.int .i64)) (w0:=w2) w2.heap.size rfl _ _ 35 31 (.slice none 0 0) 24 rfl Tryz.underlying35 info31 rfl (by decide) (by decide) _ out zs [.slice A4 zs.length c4] (fun _=>True) (fun k=>wr.heap.size≤k) rfl rfl ⟨_,rfl,Kd.R_lower (Kd.R_mono (Kd.R_bound HR4.out) (fun k hk=>hk.2.1)) HB.out.size⟩ (fun k hk=>⟨trivial,fun e=>by have:=Kd.R_lt HO.out k e.symm;omega⟩) (fun _ _=>trivial) (Kd.R_below HO.out HB4.out) (below_then HB.out HB.out.size HB4.out) (by have:=HB.out.size;have:=HB4.out.size;omega) (by have:=HL.out;omega) ?_;intro v5 w5 ho5 hb5 hg5 hat5;have HO5:=ak_ ho5;have HB5:=ak_ hb5;clear ho5 hb5 hg5 hat5))
   go_roundw
   case rel=>exact ⟨j+1,by omega,by go_num,⟨by rw [HTS.out,← HFJ.out,← HZ4.out];exact HO5.out⟩,HB5⟩
   case measure=>simp [intOf];omega
  ·have b1:decide ((j:Int)<((succL bs).length:Int))=false:=decide_eq_false (by omega)
   have hlt2:¬ j<(succL bs).length:=by omega
   obtain rfl:j=bs.length:=by omega
   go_wp2_with fail
   go_ret
   exact ⟨_,rfl,Kd.R_lower HO.out HB2.out.size,below_then HB2.out HB2.out.size HB.out⟩
end Go.Proofs.YtnkgbnbbmcoiiaaGreat.S
namespace Go.Proofs.YtnkgbnbbmcoiiaaGreat.S
open Go.RowKit Go.IM Go.RelRegion Go.Proofs.YtnkgbnbbmcoiiaaGreatW.PrintWords Go.Proofs.YtnkgbnbbmcoiiaaGreatW.PrintLast Go.Proofs.YtnkgbnbbmcoiiaaGreatW.PrintMore
set_option linter.unusedVariables false
set_option linter.unusedSimpArgs false
/-! ### spans.Of -/
theorem C_of_blk {k:IntKind} {W:World} {g:Nat} {t:TypeId} (xs:List Int) (h:W.heap[g]?=some (.cells (xs.map (Value.int k)).toArray t (0,0))) (hl:xs.length≤9223372036854775807):Kd.C (Kd.int k) W (some ⟨g,0,none⟩) xs.length xs :=
 Kd.C_of_reads (enc:=Value.int k) (d:=(0:Int)) (h1:=fun _=>rfl) ⟨rfl,hl,fun _=>⟨_,rfl,fun j hj=>by
  have:=blk_cell h j
  have e:(⟨g,0,none⟩:Addr).add j=⟨g,j,none⟩:=add_plain g j
  rw [e,this]
  simp [List.getD_eq_getElem?_getD,hj]⟩⟩
/-- A row of one number,new. -/
theorem C_one (W:World) (x:Int):Kd.C (Kd.int .i64) (W.alloc (.cells #[.int .i64 x] 3)) (some ⟨W.heap.size,0,none⟩) 1 [x]:=C_of_blk (k:=.i64) (t:=3) [x] (blk_new W (.cells #[.int .i64 x] 3)) (by simp)
/-- What region 4's calls give. -/
def R4 (li lo:List (List Int)) (k:Nat) (vs:List Value) (w:World):Prop :=
 if k=1 then ∃ A c,vs=[.slice A li.length c]∧Kd.C (Kd.slice 3 (Kd.int .i64)) w A li.length li
 else if k=3 then ∃ A c,vs=[.slice A lo.length c]∧Kd.C (Kd.slice 3 (Kd.int .i64)) w A lo.length lo else True
theorem R4.below {li lo:List (List Int)} {k:Nat} {vs:List Value} {w w' : World} (h:R4 li lo k vs w) (hb:Below w.heap.size w w'):R4 li lo k vs w':=by
 unfold R4 at h ⊢
 split at h
 ·obtain ⟨A,c,e,hc⟩:=h
  rename_i h1
  rw [if_pos h1]
  exact ⟨A,c,e,Kd.C_below hc hb⟩
 ·rename_i h1
  rw [if_neg h1]
  split at h
  ·obtain ⟨A,c,e,hc⟩:=h
   rename_i h2
   rw [if_pos h2]
   exact ⟨A,c,e,Kd.C_below hc hb⟩
  ·rename_i h2
   rw [if_neg h2]
   trivial
/-- What a drawn region's call that reads tells. -/
def RT (l:List Int) (K:Nat) (k:Nat) (vs:List Value) (w:World):Prop:=k=K→∃ A c,vs=[.slice A l.length c]∧Kd.C (Kd.int .i64) w A l.length l
theorem RT.below {l:List Int} {K k:Nat} {vs:List Value} {w w' : World} (h:RT l K k vs w) (hb:Below w.heap.size w w'):RT l K k vs w':=fun e=>by
 obtain ⟨A,c,e1,h1⟩:=h e
 exact ⟨A,c,e1,Kd.C_below h1 hb⟩
theorem wr3 {z k:Nat} (hz:z≤20480) (hk:k≤16384):wrap64 ((z:Int)+(k:Int))=(z:Int)+(k:Int)∧wrap64 ((z:Int)+(k:Int)+1)=(z:Int)+(k:Int)+1∧wrap64 ((k:Int)+1)=(k:Int)+1:=by
 refine ⟨?_,?_,?_⟩<;>(unfold wrap64;omega)
theorem WS.key {es:List (Int × Value)} {P:Int→Int→Prop} (h:WS es P) {k:Int} (hk:k∈keysOf es):∃ a b,lk es k=some (spV k a b)∧SpanOf P k a b:=by
 cases hl:lk es k with
 | none=>exact absurd hk (lk_none.1 hl)
 | some v =>
  obtain ⟨a,b,rfl,hs⟩:=h.yes k v hl
  exact ⟨a,b,rfl,hs⟩
theorem num_cast (k:Nat):Value.int .i64 ((k:Int)+1)=Value.int .i64 ((k+1:Nat):Int):=by rw [Int.natCast_succ]
theorem num_meas {n j:Nat} (h:j<n):n - (intOf (.int .i64 ((j:Int)+1))).toNat<n - (intOf (.int .i64 (j:Int))).toNat:=by
 have e1:(intOf (.int .i64 ((j:Int)+1))).toNat=j+1:=by
  show ((j:Int)+1).toNat=j+1
  omega
 have e2:(intOf (.int .i64 (j:Int))).toNat=j:=by simp [intOf]
 rw [e1,e2]
 omega
theorem row_cell {w:World} {A:Option Addr} {n:Nat} {L:List (List Int)} (h:Kd.C (Kd.slice 3 (Kd.int .i64)) w A n L) {j:Nat} (hj:j<n) {l:List Int} (hl:rd_L1 L (j:Int)=l) :
  ∃ ad A0 c0,A=some ad∧w.cell? (ad.add j)=some (.slice A0 l.length c0)∧l.length≤c0∧Kd.C (Kd.int .i64) w A0 l.length l:=by
 subst hl
 obtain ⟨ad,A0,c0,e,h1,h2,h3⟩:=at_L1 h (j:Int) (by omega) (by omega)
 rw [Int.toNat_natCast] at h1
 exact ⟨ad,A0,c0,e,h1,h2,h3⟩
end Go.Proofs.YtnkgbnbbmcoiiaaGreat.S
namespace Go.Proofs.YtnkgbnbbmcoiiaaGreat.S
open Go.RowKit Go.IM Go.Proofs.YtnkgbnbbmcoiiaaGreatW.PrintWords Go.Proofs.YtnkgbnbbmcoiiaaGreatW.PrintLast Go.Proofs.YtnkgbnbbmcoiiaaGreatW.PrintMore
set_option linter.unusedVariables false
set_option linter.unusedSimpArgs false
/-! ### spans.Calls -/
theorem part_le {p:Int} {bs:List S50} (h:RightP p bs 256) {j k:Nat} (hj:j<bs.length) (hk:k≤opLen bs j):(plcs bs j++rowP j k).length≤16384:=by
 obtain ⟨rest,hr⟩:=part_prefix hj hk
 have h1:=congrArg List.length hr
 have h2:=h.few
 rw [List.length_append] at h1
 omega
/-! ### The function of swagelaw25.small -/
def bsS:List S50:=[⟨[⟨1,1,0,0,4,[]⟩,⟨9,0,1,0,0,[]⟩],⟨3,1,0,0⟩⟩]
theorem sm_right:rightF 0 bsS 256=true:=by decide +kernel
theorem sm_u1:useX (opOf bsS (0,1))=[1]:=by decide +kernel
theorem sm_s1:setX (opOf bsS (0,1))=0:=by decide +kernel
theorem sm_t:tuseT (rd_T50 bsS ((0:Nat):Int)).f1=[1]:=by decide +kernel
theorem sm_succ:succT (rd_T50 bsS ((0:Nat):Int)).f1=[]:=by decide +kernel
/-! ### swagelaw25.small -/
theorem C0 (w:World):Kd.C (Kd.int .i64) w none 0 ([]:List Int):=⟨rfl,by decide,fun h=>absurd h (by decide)⟩
/-! ### What is dead,plain -/
theorem index_l0 (l:List Int) (x:Int) (hl:l.length≤4096):∀ m j k,j+m=l.length→m<k→∃ r,slices_Index_int_int.l0 k l x (l.length:Int) (j:Int)=some r∧(0≤r↔x∈l.drop j)
 | m,j,0,hm,hk=>absurd hk (Nat.not_lt_zero _)
 | 0,j,k+1,hm,hk=>by
  refine ⟨-1,by rw [slices_Index_int_int.l0,if_neg (by omega)],?_⟩
  rw [List.drop_eq_nil_of_le (by omega)]
  simp
 | m+1,j,k+1,hm,hk=>by
  have hj:j<l.length:=by omega
  rw [slices_Index_int_int.l0,if_pos (by omega),if_pos (Int.natCast_nonneg j),if_pos (by omega),rd_mem hj,List.drop_eq_getElem_cons hj]
  by_cases e:x=l[j]
  ·rw [if_pos e]
   exact ⟨(j:Int),rfl,⟨fun _=>by rw [e];exact List.mem_cons_self,fun _=>Int.natCast_nonneg j⟩⟩
  ·rw [if_neg e,num_inc hj hl]
   obtain ⟨r,h1,h2⟩:=index_l0 l x hl m (j+1) k (by omega) (by omega)
   exact ⟨r,h1,h2.trans ⟨fun h=>List.mem_cons_of_mem _ h,fun h=>by
    rcases List.mem_cons.1 h with h|h
    ·exact absurd h e
    ·exact h⟩⟩
theorem contains_f (l:List Int) (x:Int) (hl:l.length≤4096) {k:Nat} (hk:l.length<k):slices_Contains_int_int.f k l x=some (decide (x∈l)):=by
 obtain ⟨r,h1,h2⟩:=index_l0 l x hl l.length 0 k (Nat.zero_add _) hk
 have h1' : slices_Index_int_int.f k l x=some r:=h1
 unfold slices_Contains_int_int.f
 rw [h1',Option.bind_some,List.drop_zero] at *
 congr 1
 exact decide_eq_decide.2 h2
theorem contains_any (A:Option Addr) (c:Nat) (l:List Int) (x:Int) (w:World) (hC:Kd.C (Kd.int .i64) w A l.length l) (hc:l.length≤c) (hl:l.length≤4096) :
  Calls Tryz.prog 59 #[.slice A l.length c,.int .i64 x] w fun e w'=>e=.returned (.bool (decide (x∈l)))∧Below w.heap.size w w':=by
 refine (slices_Contains_int_int.calls (l.length+1) A c l x _ w hC hc (contains_f l x hl (Nat.lt_succ_self _))).mono ?_
 rintro e w' ⟨rfl,hd⟩
 exact ⟨rfl,hd.below⟩
/-- Pure,in closed form. -/
def pureX (x:S45):Bool:=decide (x.f0=1) || decide (x.f0=3) || (decide (x.f0=2) && !decide (x.f4∈([4,5,9,10]:List Int)))
theorem pure_f (x:S45):code_Pure.f 20 x.f0 x.f1 x.f2 x.f3 x.f4 x.f5=some (pureX x):=by
 have hj:∀ b:Bool,b=(decide (x.f0=1) || decide (x.f0=3))→code_Pure.j0 20 x.f0 b x.f0 x.f1 x.f2 x.f3 x.f4 x.f5=some (pureX x):=by
  rintro b rfl
  rw [code_Pure.j0]
  unfold pureX
  cases hb:(decide (x.f0=1) || decide (x.f0=3)) with
  | true=>rfl
  | false =>
   by_cases h2:x.f0=2
   ·rw [if_neg (by simp),if_pos h2,contains_f _ _ (by decide) (by decide),Option.bind_some]
    simp [h2]
   ·rw [if_neg (by simp),if_neg h2]
    simp [h2]
 unfold code_Pure.f
 by_cases h1:x.f0=1
 ·rw [if_pos h1]
  exact hj _ (by simp [h1])
 ·rw [if_neg h1]
  refine hj _ ?_
  rw [decide_eq_false h1,Bool.false_or]
  by_cases h3:x.f0=3<;>simp [h3]
theorem pure_any (x:S45) (A:Option Addr) (c:Nat) (w:World) (hC:Kd.C (Kd.int .i64) w A x.f5.length x.f5) (hc:x.f5.length≤c) :
  Calls Tryz.prog 58 #[.agg #[.int .i64 x.f0,.int .i64 x.f1,.int .i64 x.f2,.int .i64 x.f3,.int .i64 x.f4,.slice A x.f5.length c]] w fun e w'=>e=.returned (.bool (pureX x))∧Below w.heap.size w w' :=
 code_Pure.calls 20 x.f0 x.f1 x.f2 x.f3 x.f4 A c x.f5 (pureX x) w hC hc (pure_f x)
/-- Is the operation at a place dead? -/
noncomputable def deadB (bs:List S50) (q:Nat × Nat):Bool:=pureX (opOf bs q) && !decide ((opOf bs q).f1∈liveRow bs q.1 (q.2+1))
/-- The dead places among some. -/
noncomputable def deadP (bs:List S50) (qs:List (Nat × Nat)):List (Nat × Nat):=qs.filter (deadB bs)
theorem deadP_snoc (bs:List S50) (qs:List (Nat × Nat)) (q:Nat × Nat):deadP bs (qs++[q])=if deadB bs q=true then deadP bs qs++[q] else deadP bs qs:=by
 unfold deadP
 rw [List.filter_append]
 by_cases h:deadB bs q=true<;>simp [h]
theorem deadP_len (bs:List S50) (qs:List (Nat × Nat)):(deadP bs qs).length≤qs.length:=List.length_filter_le _ _
/-- Pairs of numbers,as cells. -/
def prC (q:Nat × Nat):List Value:=[.int .i64 (q.1:Int),.int .i64 (q.2:Int)]
def prCs (qs:List (Nat × Nat)):List Value:=qs.flatMap prC
theorem prCs_snoc (qs:List (Nat × Nat)) (q:Nat × Nat):prCs (qs++[q])=prCs qs++prC q:=by simp [prCs]
end Go.Proofs.YtnkgbnbbmcoiiaaGreat.S
namespace Go.Proofs.YtnkgbnbbmcoiiaaGreat.S
open Go.RowKit Go.Proofs.YtnkgbnbbmcoiiaaGreatW.PrintWords Go.Proofs.YtnkgbnbbmcoiiaaGreatW.PrintLast Go.Proofs.YtnkgbnbbmcoiiaaGreatW.PrintMore
set_option linter.unusedVariables false
set_option linter.unusedSimpArgs false
/-! ### few answers always,the registers -/
/-- What came in fits into memory. -/
structure Room (bs:List S50):Prop where mk ::
 blks:bs.length≤4611686018427387904
 ops:∀ j:Nat,(rd_T50 bs (j:Int)).f0.length≤4611686018427387904
 args:∀ j q:Nat,(rd_T45 (rd_T50 bs (j:Int)).f0 (q:Int)).f5.length<17592186044416
theorem inc62 {j n:Nat} (h:j<n) (hn:n≤4611686018427387904):wrap64 ((j:Int)+1)=((j+1:Nat):Int):=by
 unfold wrap64
 omega
theorem Tt.bind {α β:Type} {g:Nat→Option α} {F:Nat→α→Option β} (hg:Tt g) (hF:∀ r,(∃ k,g k=some r)→Tt (fun k=>F k r)):Tt (fun k=>(g k).bind (F k)):=by
 obtain ⟨k0,r,h0⟩:=hg
 obtain ⟨k1,s,h1⟩:=hF r ⟨k0,h0 k0 (Nat.le_refl _)⟩
 refine ⟨max k0 k1,s,fun k hk=>?_⟩
 show (g k).bind (F k)=some s
 rw [h0 k (by omega),Option.bind_some]
 exact h1 k (by omega)
theorem Tt.up {α:Type} {g:Nat→Option α} {h:Nat→Option α} (hg:Tt g) (hs:∀ k,h (k+1)=g k):Tt h:=by
 obtain ⟨k0,r,h0⟩:=hg
 refine ⟨k0+1,r,fun k hk=>?_⟩
 obtain ⟨k',rfl⟩:∃ k',k=k'+1:=⟨k - 1,by omega⟩
 rw [hs]
 exact h0 k' (by omega)
theorem Tt.const {α:Type} (r:α):Tt (fun _=>some r):=⟨0,r,fun _ _=>rfl⟩
theorem ruses_tt (a b c d e:Int) (l:List Int) (hl:l.length<17592186044416):∃ r:List Int,r.length≤2+l.length∧∀ k,swageref14_Uses.f (k+3) a b c d e l=some r:=by
 have j1:∀ (x:Int),∃ r:List Int,r.length≤2+l.length∧∀ k (y:Bool),y=(x == 3 || x == 4 || x == 9)→swageref14_Uses.j1 (k+1) x y a b c d e l=some r:=by
  intro x
  by_cases hy:(x == 3 || x == 4 || x == 9)=true
  ·exact ⟨[c],by simp only [List.length_cons,List.length_nil];omega,fun k y e=>by subst e;rw [swageref14_Uses.j1,if_pos hy]⟩
  ·by_cases h7:x=7
   ·refine ⟨l,by omega,fun k y e=>?_⟩
    subst e
    rw [swageref14_Uses.j1,if_neg hy,if_pos h7,Option.bind_some,if_pos (by simpa using hl),List.nil_append]
   ·refine ⟨[],by simp,fun k y e=>?_⟩
    subst e
    rw [swageref14_Uses.j1,if_neg hy,if_neg h7]
 have j0:∃ r:List Int,r.length≤2+l.length∧∀ k (y:Bool),y=(a == 2 || a == 5)→swageref14_Uses.j0 (k+2) a y a b c d e l=some r:=by
  by_cases hy:(a == 2 || a == 5)=true
  ·exact ⟨[c,d],by simp only [List.length_cons,List.length_nil];omega,fun k y e=>by subst e;rw [swageref14_Uses.j0,if_pos hy]⟩
  ·obtain ⟨r,hr,h⟩:=j1 a
   refine ⟨r,hr,fun k y e=>?_⟩
   subst e
   rw [swageref14_Uses.j0,if_neg hy]
   by_cases h3:a=3
   ·rw [if_pos h3];exact h k _ (by simp [h3])
   ·by_cases h4:a=4
    ·rw [if_neg h3,if_pos h4];exact h k _ (by simp [h4])
    ·rw [if_neg h3,if_neg h4]
     refine h k _ ?_
     rw [beq_eq_false_iff_ne.2 h3,beq_eq_false_iff_ne.2 h4];rfl
 obtain ⟨r,hr,h⟩:=j0
 refine ⟨r,hr,fun k=>?_⟩
 unfold swageref14_Uses.f
 by_cases h2:a=2
 ·rw [if_pos h2];exact h (k+1) _ (by simp [h2])
 ·rw [if_neg h2];refine h (k+1) _ ?_
  rw [beq_eq_false_iff_ne.2 h2];rfl
theorem rsets_some (a b c d e:Int) (l:List Int):∃ r,swageref14_Sets.f a b c d e l=some r:=by
 unfold swageref14_Sets.f
 split
 ·exact ⟨_,rfl⟩
 ·split
  ·exact ⟨_,rfl⟩
  ·split<;>exact ⟨_,rfl⟩
theorem rtuses_some (a b c d:Int):∃ r:List Int,r.length≤1∧swageref14_TermUses.f a b c d=some r:=by
 unfold swageref14_TermUses.f
 split
 ·exact ⟨[b],by simp,rfl⟩
 ·split
  ·exact ⟨[b],by simp,rfl⟩
  ·exact ⟨[],by simp,rfl⟩
theorem regs3 (p:Int) (bs:List S50) (j:Nat) (hj:j<bs.length) (hb:bs.length≤4611686018427387904) (l:List Int) (hl:l.length≤4611686018427387904) (hn:∀ x3,Tt (fun k=>swageref14_Regs.l0 k x3 ((j+1:Nat):Int) p bs)):∀ (m q:Nat),q+m=l.length→∀ x3,Tt (fun k=>swageref14_Regs.l3 k x3 (j:Int) l (q:Int) p bs)
 | 0,q,hm,x3=>(hn x3).up (fun k=>by
   rw [swageref14_Regs.l3,if_neg (by omega),inc62 hj hb])
 | m+1,q,hm,x3=>(regs3 p bs j hj hb l hl hn m (q+1) (by omega) (mx x3 (rd l (q:Int)))).up (fun k=>by
   rw [swageref14_Regs.l3,if_pos (by omega),if_pos (Int.natCast_nonneg q),inc62 (n:=l.length) (by omega) hl])
theorem regs2 (p:Int) (bs:List S50) (j i:Nat) (n:Nat) (hi:i<n) (hb:n≤4611686018427387904) (l:List Int) (hl:l.length≤4611686018427387904) (hn:∀ x3,Tt (fun k=>swageref14_Regs.l1 k x3 (j:Int) ((i+1:Nat):Int) p bs)):∀ (m q:Nat),q+m=l.length→∀ x3,Tt (fun k=>swageref14_Regs.l2 k x3 (j:Int) (i:Int) l (q:Int) p bs)
 | 0,q,hm,x3=>(hn x3).up (fun k=>by
   rw [swageref14_Regs.l2,if_neg (by omega),inc62 hi hb])
 | m+1,q,hm,x3=>(regs2 p bs j i n hi hb l hl hn m (q+1) (by omega) (mx x3 (rd l (q:Int)))).up (fun k=>by
   rw [swageref14_Regs.l2,if_pos (by omega),if_pos (Int.natCast_nonneg q),inc62 (n:=l.length) (by omega) hl])
theorem regs1 (p:Int) (bs:List S50) (h:Room bs) (j:Nat) (hj:j<bs.length) (hn:∀ x3,Tt (fun k=>swageref14_Regs.l0 k x3 ((j+1:Nat):Int) p bs)):∀ (m q:Nat),q+m=(rd_T50 bs (j:Int)).f0.length→∀ x3,Tt (fun k=>swageref14_Regs.l1 k x3 (j:Int) (q:Int) p bs)
 | 0,q,hm,x3=>by
   obtain ⟨r,hr,e⟩:=rtuses_some (rd_T50 bs (j:Int)).f1.f0 (rd_T50 bs (j:Int)).f1.f1 (rd_T50 bs (j:Int)).f1.f2 (rd_T50 bs (j:Int)).f1.f3
   refine (regs3 p bs j hj h.blks r (by omega) hn r.length 0 (Nat.zero_add _) x3).up (fun k=>?_)
   rw [swageref14_Regs.l1,if_pos (Int.natCast_nonneg j),if_pos (Int.ofNat_lt.2 hj),if_neg (by omega),e,Option.bind_some]
   rfl
 | m+1,q,hm,x3=>by
   obtain ⟨s,es⟩:=rsets_some (rd_T45 (rd_T50 bs (j:Int)).f0 (q:Int)).f0 (rd_T45 (rd_T50 bs (j:Int)).f0 (q:Int)).f1 (rd_T45 (rd_T50 bs (j:Int)).f0 (q:Int)).f2 (rd_T45 (rd_T50 bs (j:Int)).f0 (q:Int)).f3 (rd_T45 (rd_T50 bs (j:Int)).f0 (q:Int)).f4 (rd_T45 (rd_T50 bs (j:Int)).f0 (q:Int)).f5
   have ha:=h.args j q
   obtain ⟨r,hr,e⟩:=ruses_tt (rd_T45 (rd_T50 bs (j:Int)).f0 (q:Int)).f0 (rd_T45 (rd_T50 bs (j:Int)).f0 (q:Int)).f1 (rd_T45 (rd_T50 bs (j:Int)).f0 (q:Int)).f2 (rd_T45 (rd_T50 bs (j:Int)).f0 (q:Int)).f3 (rd_T45 (rd_T50 bs (j:Int)).f0 (q:Int)).f4 (rd_T45 (rd_T50 bs (j:Int)).f0 (q:Int)).f5 ha
   obtain ⟨k0,v,h0⟩:=regs2 p bs j q (rd_T50 bs (j:Int)).f0.length (by omega) (h.ops j) r (by omega) (fun x=>regs1 p bs h j hj hn m (q+1) (by omega) x) r.length 0 (Nat.zero_add _) (mx x3 s)
   refine ⟨k0+4,v,fun k hk=>?_⟩
   obtain ⟨k',rfl⟩:∃ k',k=k'+4:=⟨k - 4,by omega⟩
   show swageref14_Regs.l1 (k'+3+1) x3 (j:Int) (q:Int) p bs=some v
   rw [swageref14_Regs.l1,if_pos (Int.natCast_nonneg j),if_pos (Int.ofNat_lt.2 hj),if_pos (by omega),if_pos (Int.natCast_nonneg q),es,Option.bind_some,e k',Option.bind_some]
   exact h0 (k'+3) (by omega)
theorem regs0 (p:Int) (bs:List S50) (h:Room bs):∀ (m j:Nat),j+m=bs.length→∀ x3,Tt (fun k=>swageref14_Regs.l0 k x3 (j:Int) p bs)
 | 0,j,hm,x3=>Tt.now x3 (fun k=>by rw [swageref14_Regs.l0,if_neg (by omega)])
 | m+1,j,hm,x3=>(regs1 p bs h j (by omega) (fun x=>regs0 p bs h m (j+1) (by omega) x) (rd_T50 bs (j:Int)).f0.length 0 (Nat.zero_add _) x3).up (fun k=>by
   rw [swageref14_Regs.l0,if_pos (by omega)]
   rfl)
theorem regs_total (p:Int) (bs:List S50) (h:Room bs):Tt (fun k=>swageref14_Regs.f k p bs):=regs0 p bs h bs.length 0 (Nat.zero_add _) (mx p 0)
theorem few25_total (p:Int) (bs:List S50) (h:Room bs):Tt (fun k=>swagelaw25_few.f k p bs):=by
 refine Tt.bind (F:=fun k t203=>(if t203=true then (if (bs.length:Int)≤12 then ((swageref14_Regs.f k p bs).bind fun t204=>(some (decide (t204≤40)))) else (some false)) else (some false))) (few_total p bs) (fun r _=>?_)
 by_cases hr:r=true
 ·simp only [hr,if_true]
  by_cases hb:(bs.length:Int)≤12
  ·simp only [if_pos hb]
   exact Tt.bind (F:=fun k t204=>some (decide (t204≤40))) (regs_total p bs h) (fun r _=>Tt.const _)
  ·simp only [if_neg hb];exact Tt.const _
 ·simp only [if_neg hr];exact Tt.const _
theorem few17_total (p:Int) (bs:List S50) (h:Room bs):Tt (fun k=>swagelaw17_few.f k p bs):=few25_total p bs h
end Go.Proofs.YtnkgbnbbmcoiiaaGreat.S
namespace Go.Proofs.YtnkgbnbbmcoiiaaGreat
open Go.ChangeShapes Go.WideShapes Go.ChangeAt Go.RowKit Go.Deep Go.Proofs.YtnkgbnbbmcoiiaaGreatW.PrintWords
set_option linter.unusedVariables false
set_option maxRecDepth 100000
/-! ### A function that came in -/
theorem Tryz.ownNoneF:ownKnob Tryz.prog.godebug=none:=by kernel_rfl
theorem Tryz.laidOutF:laidOutB Tryz.prog=true:=by kernel_rfl
def I64f (n:Int):Prop:=-9223372036854775808≤n∧n≤9223372036854775807
theorem cells3f:Tryz.prog.cellsOf 3=1:=by kernel_rfl
theorem opIw:OpensW Tryz.prog (Kd.int .i64) 3 I64f:=(OpensW.int Tryz.underlying3).imp (fun _ h=>i64_wf h)
theorem bytes3f:Tryz.prog.bytesOf 3=8:=by kernel_rfl
theorem bytes45f:Tryz.prog.bytesOf 45=64:=by kernel_rfl
theorem bytes43f:Tryz.prog.bytesOf 50=56:=by kernel_rfl
/-- A row of numbers. -/
theorem op28w:OpensW Tryz.prog (Kd.slice 3 (Kd.int .i64)) 31 (fun l=>l.length<17592186044416) :=
 (OpensW.slice Tryz.underlying31 (by kernel_rfl) opIw).imp (fun l h=>by
  have h1:=h.1
  rw [bytes3f] at h1
  have:reachBytes=140737488351232:=rfl
  omega)
/-- An operation. -/
theorem op45w:OpensW Tryz.prog S.k45 45 (fun x=>x.f5.length<17592186044416) :=
 OpensW.struct Tryz.underlying45 (by kernel_rfl)
  (FOpensW.cons opIw cells3f (FOpensW.cons opIw cells3f (FOpensW.cons opIw cells3f (FOpensW.cons opIw cells3f (FOpensW.cons opIw cells3f (FOpensW.last op28w (by kernel_rfl)) (by decide)) (by decide)) (by decide)) (by decide)) (by decide))
  (fun p=>⟨p.1,p.2.1,p.2.2.1,p.2.2.2.1,p.2.2.2.2.1,p.2.2.2.2.2⟩) (fun _=>rfl) (fun _ h=>h.2.2.2.2.2)
theorem op41w:OpensW Tryz.prog S.k48 48 (fun _=>True) :=
 OpensW.struct Tryz.underlying48 (by kernel_rfl)
  (FOpensW.cons opIw cells3f (FOpensW.cons opIw cells3f (FOpensW.cons opIw cells3f (FOpensW.last opIw cells3f) (by decide)) (by decide)) (by decide))
  (fun p=>⟨p.1,p.2.1,p.2.2.1,p.2.2.2⟩) (fun _=>rfl) (fun _ h=>trivial)
def kFn:Kd (Int × List S.S50):=Kd.iso (Kd.pair (Kd.int .i64) (Kd.slice 50 S.k50)) (fun x=>x)
theorem room_of {bs:List S.S50} (h:bs.length≤4611686018427387904∧∀ x∈bs,x.f0.length≤4611686018427387904∧∀ y∈x.f0,y.f5.length<17592186044416):S.Room bs:=by
 have hb:∀ j:Nat,(S.rd_T50 bs (j:Int)).f0.length≤4611686018427387904∧∀ y∈(S.rd_T50 bs (j:Int)).f0,y.f5.length<17592186044416:=fun j=>by
  by_cases hj:j<bs.length
  ·rw [S.rd43' hj];exact h.2 _ (List.getElem_mem _)
  ·have e:S.rd_T50 bs (j:Int)=S.z50:=by
    unfold S.rd_T50
    rw [Int.toNat_natCast,List.getD_eq_getElem?_getD,List.getElem?_eq_none (by omega)]
    rfl
   rw [e]
   exact ⟨by decide,fun y hy=>by cases hy⟩
 refine ⟨h.1,fun j=>(hb j).1,fun j q=>?_⟩
 by_cases hq:q<(S.rd_T50 bs (j:Int)).f0.length
 ·rw [S.rd45' hq];exact (hb j).2 _ (List.getElem_mem _)
 ·have e:S.rd_T45 (S.rd_T50 bs (j:Int)).f0 (q:Int)=S.z45:=by
   unfold S.rd_T45
   rw [Int.toNat_natCast,List.getD_eq_getElem?_getD,List.getElem?_eq_none (by omega)]
   rfl
  rw [e]
  decide
section
variable {H:Type} {enc:TypeId × Value→H} {w:World} {base:Nat} {held:Bool}
end
end Go.Proofs.YtnkgbnbbmcoiiaaGreat
namespace Go.Proofs.YtnkgbnbbmcoiiaaGreat
open Go.ChangeShapes Go.WideShapes Go.ChangeAt Go.RowKit Go.Deep Go.Proofs.YtnkgbnbbmcoiiaaGreatW.PrintWords
set_option linter.unusedVariables false
set_option maxRecDepth 100000
/-! ### A function that came in: how many operations a block may hold -/
theorem op39z:OpensW Tryz.prog (Kd.slice 45 S.k45) 46 (fun l=>l.length≤2199023255552∧∀ x∈l,x.f5.length<17592186044416) :=
 (OpensW.slice Tryz.underlying46 (by kernel_rfl) op45w).imp (fun l h=>by
  have h1:=h.1
  rw [bytes45f] at h1
  have:reachBytes=140737488351232:=rfl
  exact ⟨by omega,h.2⟩)
theorem op43z:OpensW Tryz.prog S.k50 50 (fun x=>x.f0.length≤2199023255552∧∀ y∈x.f0,y.f5.length<17592186044416) :=
 OpensW.struct Tryz.underlying50 (by kernel_rfl)
  (FOpensW.cons op39z (by kernel_rfl) (FOpensW.last op41w (by kernel_rfl)) (by decide))
  (fun p=>⟨p.1,p.2⟩) (fun _=>rfl) (fun _ h=>h.1)
theorem op32z:OpensW Tryz.prog (Kd.slice 50 S.k50) 22 (fun l=>l.length≤4611686018427387904∧∀ x∈l,x.f0.length≤2199023255552∧∀ y∈x.f0,y.f5.length<17592186044416) :=
 (OpensW.slice Tryz.underlying22 (by kernel_rfl) op43z).imp (fun l h=>by
  have h1:=h.1
  rw [bytes43f] at h1
  have:reachBytes=140737488351232:=rfl
  exact ⟨by omega,h.2⟩)
/-- What came in fits,block by block. -/
def Big (bs:List S.S50):Prop:=∀ j:Nat,(S.rd_T50 bs (j:Int)).f0.length≤2199023255552
theorem big_of {bs:List S.S50} (h:∀ x∈bs,x.f0.length≤2199023255552):Big bs:=fun j=>by
 by_cases hj:j<bs.length
 ·rw [S.rd43' hj];exact h _ (List.getElem_mem _)
 ·have e:S.rd_T50 bs (j:Int)=S.z50:=by
   unfold S.rd_T50
   rw [Int.toNat_natCast,List.getD_eq_getElem?_getD,List.getElem?_eq_none (by omega)]
   rfl
  rw [e]
  decide
theorem op34z:OpensW Tryz.prog kFn 24 (fun x=>I64f x.1∧S.Room x.2∧Big x.2) :=
 OpensW.struct Tryz.underlying24 (by kernel_rfl)
  (FOpensW.cons opIw cells3f (FOpensW.last op32z (by kernel_rfl)) (by decide))
  (fun p=>p) (fun _=>rfl) (fun _ h=>⟨h.1,room_of ⟨h.2.1,fun x hx=>⟨Nat.le_trans (h.2.2 x hx).1 (by decide),(h.2.2 x hx).2⟩⟩,big_of fun x hx=>(h.2.2 x hx).1⟩)
section
variable {H:Type} {enc:TypeId × Value→H} {w:World} {base:Nat} {held:Bool}
/-- A function that came in. -/
theorem open_funcz {spare:Nat→Bool} {r:Reach} {b0:Nat} {v:Value} {d:DataW H} {p:List MemPlace} (hv:Value.okWide Tryz.prog w r b0 24 v) (h:DataW.Trod enc Tryz.prog w base spare held 24 v d p) (hw:∀ n∈d.weights Tryz.prog 24,n≤reachBytes) :
  ∃ (n:Int) (A:Option Addr) (c:Nat) (l:List S.S50),v=.agg #[.int .i64 n,.slice A l.length c]∧Kd.C S.k50 w A l.length l∧l.length≤c∧S.Room l∧Big l:=by
 obtain ⟨⟨n,l⟩,cs,rfl,hk,hg⟩:=OpensW.agg op34z Tryz.underlying24 hv h hw
 obtain ⟨_,_,rfl,rfl,⟨A,c,rfl,hl,hc⟩⟩:=hk
 exact ⟨n,A,c,l,rfl,hc,hl,hg.2.1,hg.2.2⟩
end
end Go.Proofs.YtnkgbnbbmcoiiaaGreat
