import Derived.Test.YtnkgbnbbmcoiiaaGreatBk
import Derived.Test.YtnkgbnbbmcoiiaaGreatOsets
import Derived.Test.YtnkgbnbbmcoiiaaGreatOback
import Derived.Test.YtnkgbnbbmcoiiaaGreatOora
import Derived.Test.YtnkgbnbbmcoiiaaGreatS8
import Derived.Test.YtnkgbnbbmcoiiaaGreatS7
import Derived.Test.YtnkgbnbbmcoiiaaGreatS6
import Derived.Test.YtnkgbnbbmcoiiaaGreatRows
import Derived.WalkKit
import Derived.ProofKit
import Derived.OpenShut
import Derived.ChangeOld
import Derived.Below
import Derived.Test.YtnkgbnbbmcoiiaaGreatRfa
import Derived.Deep.Slices
namespace Go.Proofs.YtnkgbnbbmcoiiaaGreat.S
open Go.RowKit Go.IM Go.Proofs.YtnkgbnbbmcoiiaaGreatW.PrintWords Go.Proofs.YtnkgbnbbmcoiiaaGreatW.PrintLast Go.Proofs.YtnkgbnbbmcoiiaaGreatW.PrintMore
set_option linter.unusedVariables false
set_option linter.unusedSimpArgs false
/-- The sets of a right function. -/
theorem sets_ok (p:Int) (A:Option Addr) (c:Nat) (bs:List S50) (w:World) (hC:Kd.C k50 w A bs.length bs) (hR:rightF p bs 256=true) :
  Calls Tryz.prog 49 #[.agg #[.int .i64 p,.slice A bs.length c]] w (SetsP bs w):=callsIn_wide.1 (sets_in p A c bs w hC hR)
open Classical in
/-- The registers that are live at a place. -/
noncomputable def liveRow (bs:List S50) (i k:Nat):List Int:=((List.range 4096).map fun j:Nat=>(j:Int)+1).filter fun r=>decide (Lv.At (gOf bs) r i k)
theorem regs_rise (n:Nat):((List.range n).map fun j:Nat=>(j:Int)+1).Pairwise (·<·):=by
 rw [List.pairwise_map]
 exact List.pairwise_lt_range.imp (fun h=>by omega)
theorem liveRow_rise (bs:List S50) (i k:Nat):Rise (liveRow bs i k):=(regs_rise 4096).sublist List.filter_sublist
theorem mem_regs {n:Nat} {r:Int} : r∈((List.range n).map fun j:Nat=>(j:Int)+1)↔1≤r∧r≤(n:Int):=by
 simp only [List.mem_map,List.mem_range]
 constructor
 ·rintro ⟨j,h1,rfl⟩;omega
 ·rintro ⟨h1,h2⟩;exact ⟨(r - 1).toNat,by omega,by omega⟩
open Classical in
theorem mem_liveRow {p:Int} {bs:List S50} {fn:Int} (h:RightP p bs fn) {i k:Nat} {r:Int} : r∈liveRow bs i k↔Lv.At (gOf bs) r i k:=by
 unfold liveRow
 rw [List.mem_filter,mem_regs]
 exact ⟨fun h=>of_decide_eq_true h.2,fun ha=>⟨by have:=h.at_reg ha;omega,decide_eq_true ha⟩⟩
theorem liveRow_eq {p:Int} {bs:List S50} {fn:Int} (h:RightP p bs fn) {i k:Nat} {zs:List Int} (hz:Rise zs) (hm:∀ r,r∈zs↔Lv.At (gOf bs) r i k):zs=liveRow bs i k :=
 Lv.rise_ext hz (liveRow_rise bs i k) (fun r=>(hm r).trans (mem_liveRow h).symm)
/-- In,in closed form. -/
noncomputable def inL (bs:List S50):List (List Int):=(List.range bs.length).map fun i=>liveRow bs i 0
theorem KS.len {es:List (Int × Value)} {bs:List S50} {p fn:Int} {i k:Nat} (h:KS es (fun r=>Lv.At (gOf bs) r i k)) (hr:RightP p bs fn):es.length≤4096:=h.sz.regs (fun r ha=>hr.at_reg ha)
set_option maxHeartbeats 4000000 in
set_option maxRecDepth 100000 in
theorem in_ok (p:Int) (A:Option Addr) (c:Nat) (bs:List S50) (w:World) (hC:Kd.C k50 w A bs.length bs) (hR:rightF p bs 256=true) :
  Calls Tryz.prog 20 #[.agg #[.int .i64 p,.slice A bs.length c]] w fun e w'=>∃ v,e=.returned v∧Kd.R (Kd.slice 3 (Kd.int .i64)) 31 w' w.heap.size (fun _=>True) v (inL bs)∧Below w.heap.size w w':=by
 have RP:=ak_ (rightF_iff hR)
 have HR:=ak_ hR
 have HC:=ak_ hC
 have HB0:=ak_ (below_alloc (Below.refl w.heap.size w) (.cells #[.int .i64 p,.slice A bs.length c] 24))
 have hu34:=Tryz.underlying24
 have hlen:=RP.out.len
 clear hC hR
 obtain ⟨fi,hfi⟩:∃ fi:Nat→List Int,fi=fun i=>liveRow bs i 0:=⟨_,rfl⟩
 have HFI:=ak_ hfi
 have hin:inL bs=(List.range bs.length).map fi:=by rw [hfi];rfl
 rw [hin]
 clear hfi hin
 go_enter Tryz.func20,Tryz.ntmps20
 go_wp2_with (go_at_call 49;refine (sets_ok p A c bs _ (Kd.C_below HC.out HB0.out) HR.out).mono ?_;rintro e w1 ⟨A1,rfl,hm,hb⟩;have HM:=ak_ hm;have HB1:=ak_ (below_then HB0.out HB0.out.size hb);clear hb hm)
 go_loopw [5,15] (fun v i wr=>∃ j:Nat,j≤bs.length∧i=.int .i64 (j:Int)∧Aside0 (Kd.R (Kd.slice 3 (Kd.int .i64)) 31 wr w1.heap.size (fun _=>True) v ((List.range j).map fi))∧Aside0 (Below w1.heap.size w1 wr)) (fun _ i _=>bs.length - (intOf i).toNat)
 case atStart=>exact ⟨0,Nat.zero_le _,rfl,⟨Kd.R_nil _ _ _ _ _⟩,⟨Below.refl _ _⟩⟩
 case round =>
  obtain ⟨j,hj,rfl,HO,HB⟩:=hrel
  by_cases hlt:j<bs.length
  ·have b1:decide ((j:Int)<(bs.length:Int))=true:=decide_eq_true (by omega)
   obtain ⟨adm,b,es,eM,hcm,hat,hks⟩:=(HM.out.below HB.out) j hlt
   have HAT:=ak_ hat
   have HKS:=ak_ hks
   have HEL:=ak_ (hks.len RP.out)
   clear hat hks
   subst eM
   have HTS:Aside0 ((List.range (j+1)).map fi=(List.range j).map fi++[fi j]):=⟨by rw [List.range_succ,List.map_append];rfl⟩
   have HFJ:Aside0 (liveRow bs j 0=fi j):=⟨by rw [HFI.out]⟩
   have HL:Aside0 (((List.range j).map fi).length≤4096):=⟨by simp;omega⟩
   generalize (List.range j).map fi=out at HO HTS HL
   go_wp2_with (first
    | (go_at_call 50;refine (row_any b es _ _ HAT.out HKS.out (by have:=HEL.out;omega)).mono ?_;rintro e w2 ⟨v2,zs,rfl,hr2,hrise,hmem,hb2⟩;have HR2:=ak_ hr2;have HZ2:=ak_ (liveRow_eq RP.out hrise hmem);have HB2:=ak_ hb2;obtain ⟨A2,c2,rfl⟩:=Kd.R_slice hr2;clear hr2 hrise hmem hb2)
    | (at_builtin;refine Kd.R_append (Kd.slice 3 (Kd.int .i64)) (w0:=w1) w1.heap.size rfl _ _ 35 31 (.slice none 0 0) 24 rfl Tryz.underlying35 info31 rfl (by decide) (by decide) _ out zs [.slice A2 zs.length c2] (fun _=>True) (fun k=>wr.heap.size≤k) rfl rfl ⟨_,rfl,Kd.R_lower (Kd.R_mono (Kd.R_bound HR2.out) (fun k hk=>hk.2.1)) HB.out.size⟩ (fun k hk=>⟨trivial,fun e=>by have:=Kd.R_lt HO.out k e.symm;omega⟩) (fun _ _=>trivial) (Kd.R_below HO.out HB2.out) (below_then HB.out HB.out.size HB2.out) (by have:=HB.out.size;have:=HB2.out.size;omega) (by have:=HL.out;omega) ?_;intro v3 w3 ho3 hb3 hg3 hat3;have HO3:=ak_ ho3;have HB3:=ak_ hb3;have HG3:=ak_ hg3;clear ho3 hb3 hg3 hat3))
   go_roundw
   case rel =>
    refine ⟨j+1,by omega,by go_num,⟨by rw [HTS.out,← HFJ.out,← HZ2.out];exact HO3.out⟩,HB3⟩
   case measure=>simp [intOf];omega
  ·have b1:decide ((j:Int)<(bs.length:Int))=false:=decide_eq_false (by omega)
   obtain rfl:j=bs.length:=by omega
   go_wp2_with fail
   go_ret
   exact ⟨_,rfl,Kd.R_lower HO.out HB1.out.size,below_then HB1.out HB1.out.size HB.out⟩
end Go.Proofs.YtnkgbnbbmcoiiaaGreat.S
namespace Go.Proofs.YtnkgbnbbmcoiiaaGreat.S
open Go.RowKit Go.IM Go.Proofs.YtnkgbnbbmcoiiaaGreatW.PrintWords Go.Proofs.YtnkgbnbbmcoiiaaGreatW.PrintLast Go.Proofs.YtnkgbnbbmcoiiaaGreatW.PrintMore
set_option linter.unusedVariables false
/-! ### The greatest of some numbers -/
/-- m is the greatest of those of which P tells,or 0. -/
structure MaxOf (P:Nat→Prop) (m:Nat):Prop where mk ::
 le:∀ x,P x→x≤m
 is:m=0∨P m
theorem MaxOf.zero:MaxOf (fun _=>False) 0:=⟨fun _ h=>h.elim,.inl rfl⟩
theorem MaxOf.imp {P Q:Nat→Prop} {m:Nat} (h:MaxOf P m) (hq:∀ x,P x↔Q x):MaxOf Q m:=⟨fun x hx=>h.le x ((hq x).2 hx),h.is.imp id (hq m).1⟩
theorem MaxOf.add {P:Nat→Prop} {m:Nat} (h:MaxOf P m) (a:Nat):MaxOf (fun x=>x=a∨P x) (max m a):=by
 by_cases hlt:m<a
 ·rw [Nat.max_eq_right (Nat.le_of_lt hlt)]
  exact ⟨fun x hx=>by
   rcases hx with rfl|hx
   ·exact Nat.le_refl _
   ·have:=h.le x hx;omega,.inr (.inl rfl)⟩
 ·rw [Nat.max_eq_left (Nat.le_of_not_lt hlt)]
  exact ⟨fun x hx=>by
   rcases hx with rfl|hx
   ·omega
   ·exact h.le x hx,h.is.imp id .inr⟩
theorem MaxOf.uniq {P:Nat→Prop} {m n:Nat} (h:MaxOf P m) (k:MaxOf P n):m=n:=by
 have h1:m≤n:=by
  rcases h.is with e|e
  ·omega
  ·exact k.le m e
 have h2:n≤m:=by
  rcases k.is with e|e
  ·omega
  ·exact h.le n e
 omega
/-- The sizes of the rows ahead of block n. -/
def Sizes (bs:List S50) (n x:Nat):Prop:=∃ i k,i<n∧k≤opLen bs i∧x=(liveRow bs i k).length
theorem liveRow_nodup (bs:List S50) (i k:Nat):(liveRow bs i k).Nodup:=(liveRow_rise bs i k).imp (fun h=>by omega)
theorem liveRow_sz {p:Int} {bs:List S50} {fn:Int} (h:RightP p bs fn) (i k:Nat):Lv.Sz (fun r=>Lv.At (gOf bs) r i k) (liveRow bs i k).length:=⟨_,liveRow_nodup bs i k,fun r=>mem_liveRow h,rfl⟩
theorem liveRow_le {p:Int} {bs:List S50} {fn:Int} (h:RightP p bs fn) (i k:Nat):(liveRow bs i k).length≤4096:=(liveRow_sz h i k).regs (fun r ha=>h.at_reg ha)
end Go.Proofs.YtnkgbnbbmcoiiaaGreat.S
namespace Go.Proofs.YtnkgbnbbmcoiiaaGreat.S
open Go.RowKit Go.IM Go.Proofs.YtnkgbnbbmcoiiaaGreatW.PrintWords Go.Proofs.YtnkgbnbbmcoiiaaGreatW.PrintLast Go.Proofs.YtnkgbnbbmcoiiaaGreatW.PrintMore
set_option linter.unusedVariables false
set_option linter.unusedSimpArgs false
/-! ### spans.Number -/
/-- Where block j starts. -/
def pos (bs:List S50) (j:Nat):Nat:=(plcs bs j).length+j
def numL (bs:List S50):List Int:=(List.range (bs.length+1)).map fun j=>(pos bs j:Int)
theorem pos_zero (bs:List S50):pos bs 0=0:=by simp [pos,plcs]
theorem pos_succ (bs:List S50) (j:Nat):pos bs (j+1)=pos bs j+opLen bs j+1:=by
 unfold pos
 rw [plcs_succ,List.length_append,rowP,List.length_map,List.length_range]
 omega
theorem pos_mono (bs:List S50) {i j:Nat} (h:i≤j):pos bs i≤pos bs j:=by
 induction j with
 | zero =>
  obtain rfl:i=0:=by omega
  exact Nat.le_refl _
 | succ j ih =>
  by_cases e:i=j+1
  ·subst e;exact Nat.le_refl _
  ·have:=ih (by omega)
   rw [pos_succ];omega
theorem pos_le {p:Int} {bs:List S50} {fn:Int} (h:RightP p bs fn) {j:Nat} (hj:j≤bs.length):pos bs j≤20480:=by
 have h1:=pos_mono bs hj
 have h2:=h.few
 have h3:=h.len.2
 unfold pos at h1 ⊢
 omega
theorem numL_length (bs:List S50):(numL bs).length=bs.length+1:=by simp [numL]
theorem rd_num (bs:List S50) {j:Nat} (h:j≤bs.length):rd (numL bs) (j:Int)=(pos bs j:Int):=by
 unfold rd numL
 have hj:j<bs.length+1:=by omega
 simp [List.getD_eq_getElem?_getD,hj]
theorem num_step {a b c:Nat} (hs:c=a+b+1) (hc:c≤20480):wrap64 ((wrap64 ((a:Int)+(b:Int)))+1)=(c:Int):=by
 subst hs
 unfold wrap64
 omega
theorem num_inc {j n:Nat} (h:j<n) (hn:n≤4096):wrap64 ((j:Int)+1)=((j+1:Nat):Int):=by
 unfold wrap64
 omega
def numT (bs:List S50) (j:Nat):List Int:=(List.range (j+1)).map fun j=>(pos bs j:Int)
theorem numT_length (bs:List S50) (j:Nat):(numT bs j).length=j+1:=by simp [numT]
theorem numT_rd (bs:List S50) (j:Nat):rd (numT bs j) (j:Int)=(pos bs j:Int):=by
 unfold rd numT
 simp [List.getD_eq_getElem?_getD]
theorem numT_succ (bs:List S50) (j:Nat):numT bs (j+1)=numT bs j++[(pos bs (j+1):Int)]:=by
 unfold numT
 rw [List.range_succ (n:=j+1),List.map_append]
 rfl
theorem num_loop {p:Int} {bs:List S50} {fn:Int} (h:RightP p bs fn):∀ (m j k:Nat),j+m=bs.length→m<k→spans_Number.l0 k (numT bs j) bs (bs.length:Int) (j:Int)=some (numL bs)
 | m,j,0,hm,hk=>absurd hk (Nat.not_lt_zero _)
 | m,j,k+1,hm,hk=>by
  have hl:=h.len.2
  rw [spans_Number.l0]
  by_cases e:m=0
  ·have e2:j=bs.length:=by omega
   subst e2
   rw [if_neg (Int.lt_irrefl _)]
   rfl
  ·have hj:j<bs.length:=by omega
   have hp:=pos_le h (j:=j+1) hj
   have hw:=num_step (pos_succ bs j) hp
   have hw1:=num_inc hj hl
   have hi:(j:Int)<(bs.length:Int):=Int.ofNat_lt.2 hj
   have h3:(j:Int)<((numT bs j).length:Int):=by rw [numT_length];exact Int.ofNat_lt.2 (Nat.lt_succ_self _)
   have h4:(numT bs j).length<17592186044416:=by rw [numT_length];omega
   rw [if_pos hi,if_pos (Int.natCast_nonneg _),if_pos hi,if_pos h3,if_pos h4,numT_rd]
   have hw' : wrap64 ((wrap64 ((pos bs j:Int)+((rd_T50 bs (j:Int)).f0.length:Int)))+1)=(pos bs (j+1):Int):=hw
   rw [hw',hw1,← numT_succ]
   exact num_loop h (m - 1) (j+1) k (by omega) (by omega)
theorem numf_of (k:Nat) (p:Int) (bs:List S50) (b:Bool) (h:code_Right.f p bs 256=some b) (hb:b=true):spans_Number.f k p bs=spans_Number.l0 k [0] bs (bs.length:Int) 0:=by
 subst hb
 unfold spans_Number.f
 rw [h,Option.bind_some,if_pos rfl]
theorem num0 (bs:List S50):numT bs 0=[0]:=by
 simp [numT,pos_zero]
theorem number_f {p:Int} {bs:List S50} (hR:rightF p bs 256=true):spans_Number.f (bs.length+1) p bs=some (numL bs):=by
 rw [numf_of _ p bs _ (code_Right.f.eq_1 p bs 256) hR,← num0 bs]
 exact num_loop (rightF_iff hR) bs.length 0 (bs.length+1) (Nat.zero_add _) (Nat.lt_succ_self _)
theorem number_ok (p:Int) (A:Option Addr) (c:Nat) (bs:List S50) (w:World) (hC:Kd.C k50 w A bs.length bs) (hc:bs.length≤c) (hR:rightF p bs 256=true) :
  Calls Tryz.prog 11 #[.agg #[.int .i64 p,.slice A bs.length c]] w fun e w'=>∃ ad c1,e=.returned (.slice (some ad) (numL bs).length c1)∧Kd.C (Kd.int .i64) w' (some ad) (numL bs).length (numL bs)∧Below w.heap.size w w':=by
 refine (spans_Number.calls (bs.length+1) p A c bs (numL bs) w hC hc (number_f hR)).mono ?_
 rintro e w' ⟨v,rfl,hr,hb⟩
 obtain ⟨A1,c1,rfl,_,hC1⟩:=Kd.R_reads hr
 obtain ⟨ad,rfl,_⟩:=hC1.2.2 (by rw [numL_length];omega)
 exact ⟨ad,c1,rfl,hC1,hb⟩
set_option maxHeartbeats 4000000 in
set_option maxRecDepth 100000 in
theorem number_bad (p:Int) (A:Option Addr) (c:Nat) (bs:List S50) (w:World) (hC:Kd.C k50 w A bs.length bs) (hR:rightF p bs 256=false) :
  Calls Tryz.prog 11 #[.agg #[.int .i64 p,.slice A bs.length c]] w fun e w'=>e=.returned (.slice none 0 0)∧Below w.heap.size w w':=by
 have HR:=ak_ hR
 have HC:=ak_ hC
 have HB0:=ak_ (below_alloc (Below.refl w.heap.size w) (.cells #[.int .i64 p,.slice A bs.length c] 24))
 have hu34:=Tryz.underlying24
 clear hC hR
 go_enter Tryz.func11,Tryz.ntmps11
 go_wp2_with (go_at_call 45;refine (right_any p A c bs 256 _ (Kd.C_below HC.out HB0.out)).mono ?_;rintro e w1 ⟨rfl,hb⟩;rw [HR.out];have HB1:=ak_ (below_then HB0.out HB0.out.size hb);clear hb)
 go_ret
 exact ⟨rfl,HB1.out⟩
end Go.Proofs.YtnkgbnbbmcoiiaaGreat.S
namespace Go.Proofs.YtnkgbnbbmcoiiaaGreat.S
open Go.RowKit Go.Proofs.YtnkgbnbbmcoiiaaGreatW.PrintWords Go.Proofs.YtnkgbnbbmcoiiaaGreatW.PrintLast Go.Proofs.YtnkgbnbbmcoiiaaGreatW.PrintMore
set_option linter.unusedVariables false
set_option linter.unusedSimpArgs false
/-! ### few answers always -/
/-- From some fuel on,one answer. -/
def Tt {α:Type} (g:Nat→Option α):Prop:=∃ k0 r,∀ k,k0≤k→g k=some r
theorem Tt.succ {α β:Type} {g:Nat→Option α} {h:Nat→Option β} (f:α→β) (hg:Tt g) (hs:∀ k r,g k=some r→h (k+1)=some (f r)):Tt h:=by
 obtain ⟨k0,r,h0⟩:=hg
 refine ⟨k0+1,f r,fun k hk=>?_⟩
 obtain ⟨k',rfl⟩:∃ k',k=k'+1:=⟨k - 1,by omega⟩
 exact hs k' r (h0 k' (by omega))
theorem Tt.now {α:Type} {h:Nat→Option α} (r:α) (hs:∀ k,h (k+1)=some r):Tt h :=
 ⟨1,r,fun k hk=>by
  obtain ⟨k',rfl⟩:∃ k',k=k'+1:=⟨k - 1,by omega⟩
  exact hs k'⟩
theorem few_in (p:Int) (bs:List S50) (j:Nat) (hj:j<bs.length) (hj1:j<100) (hn:∀ x3,Tt (fun k=>swagelaw14_Few.l0 k x3 ((j+1:Nat):Int) p bs)):∀ (m q:Nat),q+m=301→∀ x3,Tt (fun k=>swagelaw14_Few.l1 k x3 (j:Int) (q:Int) p bs)
 | 0,q,hm,x3=>by
   have h3:Tt (fun k=>swagelaw14_Few.j3 k x3 (j:Int) (q:Int) false p bs):=(hn x3).succ id (fun k r h=>by
    rw [swagelaw14_Few.j3,if_neg (by decide),num_inc hj1 (by decide)];exact h)
   refine h3.succ id (fun k r h=>?_)
   rw [swagelaw14_Few.l1,if_pos (Int.natCast_nonneg j),if_pos (Int.ofNat_lt.2 hj)]
   have e:decide ((q:Int)<300)=false:=decide_eq_false (by omega)
   rw [e]
   split<;>exact h
 | m+1,q,hm,x3=>by
   have h3:Tt (fun k=>swagelaw14_Few.j3 k x3 (j:Int) (q:Int) false p bs):=(hn x3).succ id (fun k r h=>by
    rw [swagelaw14_Few.j3,if_neg (by decide),num_inc hj1 (by decide)];exact h)
   by_cases hq:(q:Int)<((rd_T50 bs (j:Int)).f0.length:Int)
   ·by_cases hq3:(q:Int)<300
    ·have e:decide ((q:Int)<300)=true:=decide_eq_true hq3
     have hj3:Tt (fun k=>swagelaw14_Few.j3 k x3 (j:Int) (q:Int) true p bs):=by
      by_cases ha:((rd_T45 (rd_T50 bs (j:Int)).f0 (q:Int)).f5.length:Int) > 20
      ·exact Tt.now false (fun k=>by
        rw [swagelaw14_Few.j3,if_pos rfl,if_pos (Int.natCast_nonneg j),if_pos (Int.ofNat_lt.2 hj),if_pos (Int.natCast_nonneg q),if_pos hq,if_pos ha])
      ·exact (few_in p bs j hj hj1 hn m (q+1) (by omega) x3).succ id (fun k r h=>by
        rw [swagelaw14_Few.j3,if_pos rfl,if_pos (Int.natCast_nonneg j),if_pos (Int.ofNat_lt.2 hj),if_pos (Int.natCast_nonneg q),if_pos hq,if_neg ha,num_inc (n:=300) (by omega) (by decide)]
        exact h)
     refine hj3.succ id (fun k r h=>?_)
     rw [swagelaw14_Few.l1,if_pos (Int.natCast_nonneg j),if_pos (Int.ofNat_lt.2 hj),if_pos hq,e]
     exact h
    ·refine h3.succ id (fun k r h=>?_)
     rw [swagelaw14_Few.l1,if_pos (Int.natCast_nonneg j),if_pos (Int.ofNat_lt.2 hj),if_pos hq,decide_eq_false hq3]
     exact h
   ·refine h3.succ id (fun k r h=>?_)
    rw [swagelaw14_Few.l1,if_pos (Int.natCast_nonneg j),if_pos (Int.ofNat_lt.2 hj),if_neg hq]
    exact h
theorem few_end (p:Int) (bs:List S50) (x3:Int) (x4:Int):Tt (fun k=>swagelaw14_Few.j1 k x3 x4 false p bs):=by
 by_cases h:(bs.length:Int)≤40
 ·exact Tt.now (decide (x3≤250)) (fun k=>by rw [swagelaw14_Few.j1,if_neg (by decide),if_pos h])
 ·exact Tt.now false (fun k=>by rw [swagelaw14_Few.j1,if_neg (by decide),if_neg h])
theorem few_out (p:Int) (bs:List S50):∀ (m j:Nat),j+m=101→∀ x3,Tt (fun k=>swagelaw14_Few.l0 k x3 (j:Int) p bs)
 | 0,j,hm,x3=>by
   refine (few_end p bs x3 (j:Int)).succ id (fun k r h=>?_)
   have e:decide ((j:Int)<100)=false:=decide_eq_false (by omega)
   rw [swagelaw14_Few.l0,e]
   split<;>exact h
 | m+1,j,hm,x3=>by
   by_cases hj:j<bs.length
   ·by_cases h1:j<100
    ·have e:decide ((j:Int)<100)=true:=decide_eq_true (by omega)
     have hi:=few_in p bs j hj h1 (fun x=>few_out p bs m (j+1) (by omega) x) 301 0 (by decide) (wrap64 (x3+((rd_T50 bs (j:Int)).f0.length:Int)))
     have h2:Tt (fun k=>swagelaw14_Few.j1 k x3 (j:Int) true p bs):=hi.succ id (fun k r h=>by
      rw [swagelaw14_Few.j1,if_pos rfl,if_pos (Int.natCast_nonneg j),if_pos (Int.ofNat_lt.2 hj)]
      exact h)
     refine h2.succ id (fun k r h=>?_)
     rw [swagelaw14_Few.l0,if_pos (Int.ofNat_lt.2 hj),e]
     exact h
    ·have e:decide ((j:Int)<100)=false:=decide_eq_false (by omega)
     refine (few_end p bs x3 (j:Int)).succ id (fun k r h=>?_)
     rw [swagelaw14_Few.l0,e]
     split<;>exact h
   ·refine (few_end p bs x3 (j:Int)).succ id (fun k r h=>?_)
    rw [swagelaw14_Few.l0,if_neg (by omega)]
    exact h
theorem few_total (p:Int) (bs:List S50):Tt (fun k=>swagelaw14_Few.f k p bs):=few_out p bs 101 0 (by decide) 0
end Go.Proofs.YtnkgbnbbmcoiiaaGreat.S
namespace Go.Proofs.YtnkgbnbbmcoiiaaGreat.S
open Go.RowKit Go.IM Go.Proofs.YtnkgbnbbmcoiiaaGreatW.PrintWords Go.Proofs.YtnkgbnbbmcoiiaaGreatW.PrintLast Go.Proofs.YtnkgbnbbmcoiiaaGreatW.PrintMore
set_option linter.unusedVariables false
set_option linter.unusedSimpArgs false
/-- What is live behind a block. -/
def OutP (bs:List S50) (i:Nat) (r:Int):Prop:=∃ j:Nat,(j:Int)∈succT (rd_T50 bs (i:Int)).f1∧Lv.At (gOf bs) r j 0
open Classical in
noncomputable def outRow (bs:List S50) (i:Nat):List Int:=((List.range 4096).map fun j:Nat=>(j:Int)+1).filter fun r=>decide (OutP bs i r)
theorem outRow_rise (bs:List S50) (i:Nat):Rise (outRow bs i):=(regs_rise 4096).sublist List.filter_sublist
open Classical in
theorem mem_outRow {p:Int} {bs:List S50} {fn:Int} (h:RightP p bs fn) {i:Nat} {r:Int} : r∈outRow bs i↔OutP bs i r:=by
 unfold outRow
 rw [List.mem_filter,mem_regs]
 exact ⟨fun h=>of_decide_eq_true h.2,fun ha=>⟨by obtain ⟨j,_,ha⟩:=ha;have:=h.at_reg ha;omega,decide_eq_true ha⟩⟩
theorem outRow_eq {p:Int} {bs:List S50} {fn:Int} (h:RightP p bs fn) {i:Nat} {zs:List Int} (hz:Rise zs) (hm:∀ r,r∈zs↔OutP bs i r):zs=outRow bs i :=
 Lv.rise_ext hz (outRow_rise bs i) (fun r=>(hm r).trans (mem_outRow h).symm)
noncomputable def outL (bs:List S50):List (List Int):=(List.range bs.length).map fun i=>outRow bs i
set_option maxHeartbeats 4000000 in
set_option maxRecDepth 100000 in
theorem out_ok (p:Int) (A:Option Addr) (c:Nat) (bs:List S50) (w:World) (hC:Kd.C k50 w A bs.length bs) (hR:rightF p bs 256=true) :
  Calls Tryz.prog 23 #[.agg #[.int .i64 p,.slice A bs.length c]] w fun e w'=>∃ v,e=.returned v∧Kd.R (Kd.slice 3 (Kd.int .i64)) 31 w' w.heap.size (fun _=>True) v (outL bs)∧Below w.heap.size w w':=by
 have RP:=ak_ (rightF_iff hR)
 have HR:=ak_ hR
 have HC:=ak_ hC
 have HB0:=ak_ (below_alloc (Below.refl w.heap.size w) (.cells #[.int .i64 p,.slice A bs.length c] 24))
 have HF0:=ak_ (blk_new w (.cells #[.int .i64 p,.slice A bs.length c] 24))
 have hu34:=Tryz.underlying24
 have hlen:=RP.out.len
 clear hC hR
 obtain ⟨fi,hfi⟩:∃ fi:Nat→List Int,fi=fun i=>outRow bs i:=⟨_,rfl⟩
 have HFI:=ak_ hfi
 have hin:outL bs=(List.range bs.length).map fi:=by rw [hfi];rfl
 rw [hin]
 clear hfi hin
 have hsl:=succL_length bs
 go_enter Tryz.func23,Tryz.ntmps23
 go_wp2_with (first
  | (go_at_call 49;refine (sets_ok p A c bs _ (Kd.C_below HC.out HB0.out) HR.out).mono ?_;rintro e w1 ⟨A1,rfl,hm,hb⟩;have HM1:=ak_ hm;have HB1:=ak_ (below_then HB0.out HB0.out.size hb);have HF1:=ak_ (blk_below HF0.out hb);have c0:=bc_ HF1 0;have c1:=bc_ HF1 1;simp only [ga_,gb_,gc_] at c0 c1;clear hb hm)
  | (go_at_call 52;refine (succ_any p A c bs _ (Kd.C_below HC.out HB1.out) RP.out.len.2).mono ?_;rintro e w2 ⟨v2,rfl,hr2,hb⟩;obtain ⟨A2,c2',rfl,_,hC2⟩:=Kd.R_reads hr2;have HC2:=ak_ hC2;have HM:=ak_ (HM1.out.below hb);have HB2:=ak_ (below_then HB1.out HB1.out.size hb);clear hb hr2 hC2))
 clear c0 c1
 go_loopw [5,18] (fun v i wr=>∃ j:Nat,j≤bs.length∧i=.int .i64 (j:Int)∧Aside0 (Kd.R (Kd.slice 3 (Kd.int .i64)) 31 wr w2.heap.size (fun _=>True) v ((List.range j).map fi))∧Aside0 (Below w2.heap.size w2 wr)) (fun _ i _=>bs.length - (intOf i).toNat)
 case atStart=>exact ⟨0,Nat.zero_le _,rfl,⟨Kd.R_nil _ _ _ _ _⟩,⟨Below.refl _ _⟩⟩
 case round =>
  obtain ⟨j,hj,rfl,HO,HB⟩:=hrel
  by_cases hlt:j<bs.length
  ·have b1:decide ((j:Int)<((succL bs).length:Int))=true:=decide_eq_true (by omega)
   have hlt2:j<(succL bs).length:=by omega
   obtain ⟨ad2,A0,cb,eA2,sE,hcb,hCr⟩:=at_L1 (Kd.C_below HC2.out HB.out) (j:Int) (by omega) (by omega)
   rw [Int.toNat_natCast] at sE
   have HCR:=ak_ hCr
   have HSL:=ak_ (succL_at hlt)
   have HSC:=ak_ (RP.out.succ hlt)
   have HMW:=ak_ (HM.out.below HB.out)
   clear hCr hcb
   have HTS:Aside0 ((List.range (j+1)).map fi=(List.range j).map fi++[fi j]):=⟨by rw [List.range_succ,List.map_append];rfl⟩
   have HFJ:Aside0 (outRow bs j=fi j):=⟨by rw [HFI.out]⟩
   have HL:Aside0 (((List.range j).map fi).length≤4096):=⟨by simp;omega⟩
   generalize (List.range j).map fi=out at HO HTS HL
   subst eA2
   go_wp2_with (first
    | (go_at_call 53;refine (ends_any A1 bs.length bs.length _ A0 cb (rd_L1 (succL bs) (j:Int)) _ (by omega) HMW.out HCR.out (by rw [HSL.out];exact HSC.out)).mono ?_;rintro e w3 ⟨m,es,rfl,ha,hk,_,hb⟩;have HA3:=ak_ ha;have HK3:=ak_ hk;rw [HSL.out] at HK3;have HE3:Aside0 (es.length≤4096):=⟨HK3.out.sz.regs (fun r ⟨j',_,h⟩=>RP.out.at_reg h)⟩;have HB3:=ak_ hb;clear ha hk hb)
    | (go_at_call 50;refine (row_any m es _ _ HA3.out HK3.out (by have:=HE3.out;omega)).mono ?_;rintro e w4 ⟨v4,zs,rfl,hr4,hrise,hmem,hb4⟩;have HR4:=ak_ (Kd.R_lower hr4 HB3.out.size);have HZ4:=ak_ (outRow_eq RP.out hrise hmem);have HB4:=ak_ (below_then HB3.out HB3.out.size hb4);obtain ⟨A4,c4,rfl⟩:=Kd.R_slice hr4;clear hr4 hrise hmem hb4)
    | (at_builtin;refine Kd.R_append (Kd.slice 3 (Kd.int .i64)) (w0:=w2) w2.heap.size rfl _ _ 35 31 (.slice none 0 0) 24 rfl Tryz.underlying35 info31 rfl (by decide) (by decide) _ out zs [.slice A4 zs.length c4] (fun _=>True) (fun k=>wr.heap.size≤k) rfl rfl ⟨_,rfl,Kd.R_lower (Kd.R_mono (Kd.R_bound HR4.out) (fun k hk=>hk.2.1)) HB.out.size⟩ (fun k hk=>⟨trivial,fun e=>by have:=Kd.R_lt HO.out k e.symm;omega⟩) (fun _ _=>trivial) (Kd.R_below HO.out HB4.out) (below_then HB.out HB.out.size HB4.out) (by have:=HB.out.size;have:=HB4.out.size;omega) (by have:=HL.out;omega) ?_;intro v5 w5 ho5 hb5 hg5 hat5;have HO5:=ak_ ho5;have HB5:=ak_ hb5;clear ho5 hb5 hg5 hat5))
   go_roundw
   case rel=>exact ⟨j+1,by omega,by go_num,⟨by rw [HTS.out,← HFJ.out,← HZ4.out];exact HO5.out⟩,HB5⟩
   case measure=>simp [intOf];omega
  ·have b1:decide ((j:Int)<((succL bs).length:Int))=false:=decide_eq_false (by omega)
   have hlt2:¬ j<(succL bs).length:=by omega
   obtain rfl:j=bs.length:=by omega
   go_wp2_with fail
   go_ret
   exact ⟨_,rfl,Kd.R_lower HO.out HB2.out.size,below_then HB2.out HB2.out.size HB.out⟩
end Go.Proofs.YtnkgbnbbmcoiiaaGreat.S
namespace Go.Proofs.YtnkgbnbbmcoiiaaGreat.S
open Go.RowKit Go.Shelf Go.IM Go.Proofs.YtnkgbnbbmcoiiaaGreatW.PrintWords Go.Proofs.YtnkgbnbbmcoiiaaGreatW.PrintLast Go.Proofs.YtnkgbnbbmcoiiaaGreatW.PrintMore
set_option linter.unusedVariables false
set_option linter.unusedSimpArgs false
attribute [local go_sem] Oper.semAt_some
/-- What the loud of 'behind(in,code.Succ(f)[block],b.Term)' tell. -/
def R60 (bs:List S50) (x B:Nat) (k:Nat) (vs:List Value) (w' : World):Prop :=
 if k=2 then ∃ A2 c2,vs=[.slice A2 (succL bs).length c2]∧Kd.C (Kd.slice 3 (Kd.int .i64)) w' A2 (succL bs).length (succL bs)
 else if k=4 then ∃ ad A0 cb,vs=[.pointer (some ad)]∧w'.cell? ad=some (.slice A0 (rd_L1 (succL bs) (x:Int)).length cb)∧Kd.C (Kd.int .i64) w' A0 (rd_L1 (succL bs) (x:Int)).length (rd_L1 (succL bs) (x:Int))
 else if k=5 then ∃ A0 cb,vs=[.slice A0 (rd_L1 (succL bs) (x:Int)).length cb]∧Kd.C (Kd.int .i64) w' A0 (rd_L1 (succL bs) (x:Int)).length (rd_L1 (succL bs) (x:Int))
 else if k=8 then ∃ m es,vs=[.map (some m)]∧At w' m es∧KS es (Lv.Bk (gOf bs) (fun i r=>Lv.At (gOf bs) r i 0) x 0)∧B≤m
 else if k=9 then ∃ q,vs=[.pointer (some ⟨q,0,none⟩)]∧Boxed w' q 73 (.map none)∧B≤q else True
theorem R60.below {bs:List S50} {x B k:Nat} {vs:List Value} {w' w2:World} (h:R60 bs x B k vs w') (hb:Below w'.heap.size w' w2):R60 bs x B k vs w2:=by
 unfold R60 at h ⊢
 repeat' split at h
 ·rename_i h1
  rw [if_pos h1]
  obtain ⟨A2,c2,e,h⟩:=h
  exact ⟨A2,c2,e,Kd.C_below h hb⟩
 ·rename_i h1 h2
  rw [if_neg h1,if_pos h2]
  obtain ⟨ad,A0,cb,e,hc,h⟩:=h
  exact ⟨ad,A0,cb,e,pw_cell_below hb hc,Kd.C_below h hb⟩
 ·rename_i h1 h2 h3
  rw [if_neg h1,if_neg h2,if_pos h3]
  obtain ⟨A0,cb,e,h⟩:=h
  exact ⟨A0,cb,e,Kd.C_below h hb⟩
 ·rename_i h1 h2 h3 h4
  rw [if_neg h1,if_neg h2,if_neg h3,if_pos h4]
  obtain ⟨m,es,e,ha,hk,hm⟩:=h
  exact ⟨m,es,e,ha.below hb ha.lt,hk,hm⟩
 ·rename_i h1 h2 h3 h4 h5
  rw [if_neg h1,if_neg h2,if_neg h3,if_neg h4,if_pos h5]
  obtain ⟨q,e,hq,hm⟩:=h
  exact ⟨q,e,blk_below hq hb,hm⟩
 ·rename_i h1 h2 h3 h4 h5
  rw [if_neg h1,if_neg h2,if_neg h3,if_neg h4,if_neg h5]
  trivial
def R7 (zs:List Int) (B:Nat) (pa:Addr) (k:Nat) (vs:List Value) (w' : World):Prop:=if k=3 then ∃ A4 c4,vs=[.slice A4 zs.length c4]∧Kd.R (Kd.int .i64) 3 w' B (fun _=>True) (.slice A4 zs.length c4) zs else if k=4 then vs=[.pointer (some pa)] else True
theorem R7.below {zs:List Int} {B k:Nat} {pa:Addr} {vs:List Value} {a b:World} (h:R7 zs B pa k vs a) (hb:Below a.heap.size a b):R7 zs B pa k vs b:=by
 unfold R7 at h ⊢
 split at h
 ·rename_i hd
  rw [if_pos hd]
  obtain ⟨A4,c4,e,hr⟩:=h
  exact ⟨A4,c4,e,Kd.R_below hr hb⟩
 ·rename_i hd
  rw [if_neg hd]
  exact h
end Go.Proofs.YtnkgbnbbmcoiiaaGreat.S
namespace Go.Proofs.YtnkgbnbbmcoiiaaGreat.S
open Go.RowKit Go.Proofs.YtnkgbnbbmcoiiaaGreatW.PrintWords Go.Proofs.YtnkgbnbbmcoiiaaGreatW.PrintLast Go.Proofs.YtnkgbnbbmcoiiaaGreatW.PrintMore
set_option linter.unusedVariables false
set_option linter.unusedSimpArgs false
/-! ### few answers always,the registers -/
/-- What came in fits into memory. -/
structure Room (bs:List S50):Prop where mk ::
 blks:bs.length≤4611686018427387904
 ops:∀ j:Nat,(rd_T50 bs (j:Int)).f0.length≤4611686018427387904
 args:∀ j q:Nat,(rd_T45 (rd_T50 bs (j:Int)).f0 (q:Int)).f5.length<17592186044416
theorem inc62 {j n:Nat} (h:j<n) (hn:n≤4611686018427387904):wrap64 ((j:Int)+1)=((j+1:Nat):Int):=by
 unfold wrap64
 omega
theorem Tt.bind {α β:Type} {g:Nat→Option α} {F:Nat→α→Option β} (hg:Tt g) (hF:∀ r,(∃ k,g k=some r)→Tt (fun k=>F k r)):Tt (fun k=>(g k).bind (F k)):=by
 obtain ⟨k0,r,h0⟩:=hg
 obtain ⟨k1,s,h1⟩:=hF r ⟨k0,h0 k0 (Nat.le_refl _)⟩
 refine ⟨max k0 k1,s,fun k hk=>?_⟩
 show (g k).bind (F k)=some s
 rw [h0 k (by omega),Option.bind_some]
 exact h1 k (by omega)
theorem Tt.up {α:Type} {g:Nat→Option α} {h:Nat→Option α} (hg:Tt g) (hs:∀ k,h (k+1)=g k):Tt h:=by
 obtain ⟨k0,r,h0⟩:=hg
 refine ⟨k0+1,r,fun k hk=>?_⟩
 obtain ⟨k',rfl⟩:∃ k',k=k'+1:=⟨k - 1,by omega⟩
 rw [hs]
 exact h0 k' (by omega)
theorem Tt.const {α:Type} (r:α):Tt (fun _=>some r):=⟨0,r,fun _ _=>rfl⟩
theorem ruses_tt (a b c d e:Int) (l:List Int) (hl:l.length<17592186044416):∃ r:List Int,r.length≤2+l.length∧∀ k,swageref14_Uses.f (k+3) a b c d e l=some r:=by
 have j1:∀ (x:Int),∃ r:List Int,r.length≤2+l.length∧∀ k (y:Bool),y=(x == 3 || x == 4 || x == 9)→swageref14_Uses.j1 (k+1) x y a b c d e l=some r:=by
  intro x
  by_cases hy:(x == 3 || x == 4 || x == 9)=true
  ·exact ⟨[c],by simp only [List.length_cons,List.length_nil];omega,fun k y e=>by subst e;rw [swageref14_Uses.j1,if_pos hy]⟩
  ·by_cases h7:x=7
   ·refine ⟨l,by omega,fun k y e=>?_⟩
    subst e
    rw [swageref14_Uses.j1,if_neg hy,if_pos h7,Option.bind_some,if_pos (by simpa using hl),List.nil_append]
   ·refine ⟨[],by simp,fun k y e=>?_⟩
    subst e
    rw [swageref14_Uses.j1,if_neg hy,if_neg h7]
 have j0:∃ r:List Int,r.length≤2+l.length∧∀ k (y:Bool),y=(a == 2 || a == 5)→swageref14_Uses.j0 (k+2) a y a b c d e l=some r:=by
  by_cases hy:(a == 2 || a == 5)=true
  ·exact ⟨[c,d],by simp only [List.length_cons,List.length_nil];omega,fun k y e=>by subst e;rw [swageref14_Uses.j0,if_pos hy]⟩
  ·obtain ⟨r,hr,h⟩:=j1 a
   refine ⟨r,hr,fun k y e=>?_⟩
   subst e
   rw [swageref14_Uses.j0,if_neg hy]
   by_cases h3:a=3
   ·rw [if_pos h3];exact h k _ (by simp [h3])
   ·by_cases h4:a=4
    ·rw [if_neg h3,if_pos h4];exact h k _ (by simp [h4])
    ·rw [if_neg h3,if_neg h4]
     refine h k _ ?_
     rw [beq_eq_false_iff_ne.2 h3,beq_eq_false_iff_ne.2 h4];rfl
 obtain ⟨r,hr,h⟩:=j0
 refine ⟨r,hr,fun k=>?_⟩
 unfold swageref14_Uses.f
 by_cases h2:a=2
 ·rw [if_pos h2];exact h (k+1) _ (by simp [h2])
 ·rw [if_neg h2];refine h (k+1) _ ?_
  rw [beq_eq_false_iff_ne.2 h2];rfl
theorem rsets_some (a b c d e:Int) (l:List Int):∃ r,swageref14_Sets.f a b c d e l=some r:=by
 unfold swageref14_Sets.f
 split
 ·exact ⟨_,rfl⟩
 ·split
  ·exact ⟨_,rfl⟩
  ·split<;>exact ⟨_,rfl⟩
theorem rtuses_some (a b c d:Int):∃ r:List Int,r.length≤1∧swageref14_TermUses.f a b c d=some r:=by
 unfold swageref14_TermUses.f
 split
 ·exact ⟨[b],by simp,rfl⟩
 ·split
  ·exact ⟨[b],by simp,rfl⟩
  ·exact ⟨[],by simp,rfl⟩
theorem regs3 (p:Int) (bs:List S50) (j:Nat) (hj:j<bs.length) (hb:bs.length≤4611686018427387904) (l:List Int) (hl:l.length≤4611686018427387904) (hn:∀ x3,Tt (fun k=>swageref14_Regs.l0 k x3 ((j+1:Nat):Int) p bs)):∀ (m q:Nat),q+m=l.length→∀ x3,Tt (fun k=>swageref14_Regs.l3 k x3 (j:Int) l (q:Int) p bs)
 | 0,q,hm,x3=>(hn x3).up (fun k=>by
   rw [swageref14_Regs.l3,if_neg (by omega),inc62 hj hb])
 | m+1,q,hm,x3=>(regs3 p bs j hj hb l hl hn m (q+1) (by omega) (mx x3 (rd l (q:Int)))).up (fun k=>by
   rw [swageref14_Regs.l3,if_pos (by omega),if_pos (Int.natCast_nonneg q),inc62 (n:=l.length) (by omega) hl])
theorem regs2 (p:Int) (bs:List S50) (j i:Nat) (n:Nat) (hi:i<n) (hb:n≤4611686018427387904) (l:List Int) (hl:l.length≤4611686018427387904) (hn:∀ x3,Tt (fun k=>swageref14_Regs.l1 k x3 (j:Int) ((i+1:Nat):Int) p bs)):∀ (m q:Nat),q+m=l.length→∀ x3,Tt (fun k=>swageref14_Regs.l2 k x3 (j:Int) (i:Int) l (q:Int) p bs)
 | 0,q,hm,x3=>(hn x3).up (fun k=>by
   rw [swageref14_Regs.l2,if_neg (by omega),inc62 hi hb])
 | m+1,q,hm,x3=>(regs2 p bs j i n hi hb l hl hn m (q+1) (by omega) (mx x3 (rd l (q:Int)))).up (fun k=>by
   rw [swageref14_Regs.l2,if_pos (by omega),if_pos (Int.natCast_nonneg q),inc62 (n:=l.length) (by omega) hl])
theorem regs1 (p:Int) (bs:List S50) (h:Room bs) (j:Nat) (hj:j<bs.length) (hn:∀ x3,Tt (fun k=>swageref14_Regs.l0 k x3 ((j+1:Nat):Int) p bs)):∀ (m q:Nat),q+m=(rd_T50 bs (j:Int)).f0.length→∀ x3,Tt (fun k=>swageref14_Regs.l1 k x3 (j:Int) (q:Int) p bs)
 | 0,q,hm,x3=>by
   obtain ⟨r,hr,e⟩:=rtuses_some (rd_T50 bs (j:Int)).f1.f0 (rd_T50 bs (j:Int)).f1.f1 (rd_T50 bs (j:Int)).f1.f2 (rd_T50 bs (j:Int)).f1.f3
   refine (regs3 p bs j hj h.blks r (by omega) hn r.length 0 (Nat.zero_add _) x3).up (fun k=>?_)
   rw [swageref14_Regs.l1,if_pos (Int.natCast_nonneg j),if_pos (Int.ofNat_lt.2 hj),if_neg (by omega),e,Option.bind_some]
   rfl
 | m+1,q,hm,x3=>by
   obtain ⟨s,es⟩:=rsets_some (rd_T45 (rd_T50 bs (j:Int)).f0 (q:Int)).f0 (rd_T45 (rd_T50 bs (j:Int)).f0 (q:Int)).f1 (rd_T45 (rd_T50 bs (j:Int)).f0 (q:Int)).f2 (rd_T45 (rd_T50 bs (j:Int)).f0 (q:Int)).f3 (rd_T45 (rd_T50 bs (j:Int)).f0 (q:Int)).f4 (rd_T45 (rd_T50 bs (j:Int)).f0 (q:Int)).f5
   have ha:=h.args j q
   obtain ⟨r,hr,e⟩:=ruses_tt (rd_T45 (rd_T50 bs (j:Int)).f0 (q:Int)).f0 (rd_T45 (rd_T50 bs (j:Int)).f0 (q:Int)).f1 (rd_T45 (rd_T50 bs (j:Int)).f0 (q:Int)).f2 (rd_T45 (rd_T50 bs (j:Int)).f0 (q:Int)).f3 (rd_T45 (rd_T50 bs (j:Int)).f0 (q:Int)).f4 (rd_T45 (rd_T50 bs (j:Int)).f0 (q:Int)).f5 ha
   obtain ⟨k0,v,h0⟩:=regs2 p bs j q (rd_T50 bs (j:Int)).f0.length (by omega) (h.ops j) r (by omega) (fun x=>regs1 p bs h j hj hn m (q+1) (by omega) x) r.length 0 (Nat.zero_add _) (mx x3 s)
   refine ⟨k0+4,v,fun k hk=>?_⟩
   obtain ⟨k',rfl⟩:∃ k',k=k'+4:=⟨k - 4,by omega⟩
   show swageref14_Regs.l1 (k'+3+1) x3 (j:Int) (q:Int) p bs=some v
   rw [swageref14_Regs.l1,if_pos (Int.natCast_nonneg j),if_pos (Int.ofNat_lt.2 hj),if_pos (by omega),if_pos (Int.natCast_nonneg q),es,Option.bind_some,e k',Option.bind_some]
   exact h0 (k'+3) (by omega)
theorem regs0 (p:Int) (bs:List S50) (h:Room bs):∀ (m j:Nat),j+m=bs.length→∀ x3,Tt (fun k=>swageref14_Regs.l0 k x3 (j:Int) p bs)
 | 0,j,hm,x3=>Tt.now x3 (fun k=>by rw [swageref14_Regs.l0,if_neg (by omega)])
 | m+1,j,hm,x3=>(regs1 p bs h j (by omega) (fun x=>regs0 p bs h m (j+1) (by omega) x) (rd_T50 bs (j:Int)).f0.length 0 (Nat.zero_add _) x3).up (fun k=>by
   rw [swageref14_Regs.l0,if_pos (by omega)]
   rfl)
theorem regs_total (p:Int) (bs:List S50) (h:Room bs):Tt (fun k=>swageref14_Regs.f k p bs):=regs0 p bs h bs.length 0 (Nat.zero_add _) (mx p 0)
theorem few25_total (p:Int) (bs:List S50) (h:Room bs):Tt (fun k=>swagelaw25_few.f k p bs):=by
 refine Tt.bind (F:=fun k t203=>(if t203=true then (if (bs.length:Int)≤12 then ((swageref14_Regs.f k p bs).bind fun t204=>(some (decide (t204≤40)))) else (some false)) else (some false))) (few_total p bs) (fun r _=>?_)
 by_cases hr:r=true
 ·simp only [hr,if_true]
  by_cases hb:(bs.length:Int)≤12
  ·simp only [if_pos hb]
   exact Tt.bind (F:=fun k t204=>some (decide (t204≤40))) (regs_total p bs h) (fun r _=>Tt.const _)
  ·simp only [if_neg hb];exact Tt.const _
 ·simp only [if_neg hr];exact Tt.const _
end Go.Proofs.YtnkgbnbbmcoiiaaGreat.S
namespace Go.Proofs.YtnkgbnbbmcoiiaaGreat
open Go.ChangeShapes Go.WideShapes Go.ChangeAt Go.RowKit Go.Deep Go.Proofs.YtnkgbnbbmcoiiaaGreatW.PrintWords
set_option linter.unusedVariables false
set_option maxRecDepth 100000
/-! ### A function that came in -/
theorem Tryz.ownNoneF:ownKnob Tryz.prog.godebug=none:=by kernel_rfl
theorem Tryz.laidOutF:laidOutB Tryz.prog=true:=by kernel_rfl
def I64f (n:Int):Prop:=-9223372036854775808≤n∧n≤9223372036854775807
theorem cells3f:Tryz.prog.cellsOf 3=1:=by kernel_rfl
theorem opIw:OpensW Tryz.prog (Kd.int .i64) 3 I64f:=(OpensW.int Tryz.underlying3).imp (fun _ h=>i64_wf h)
theorem bytes3f:Tryz.prog.bytesOf 3=8:=by kernel_rfl
theorem bytes45f:Tryz.prog.bytesOf 45=64:=by kernel_rfl
theorem bytes43f:Tryz.prog.bytesOf 50=56:=by kernel_rfl
/-- A row of numbers. -/
theorem op28w:OpensW Tryz.prog (Kd.slice 3 (Kd.int .i64)) 31 (fun l=>l.length<17592186044416) :=
 (OpensW.slice Tryz.underlying31 (by kernel_rfl) opIw).imp (fun l h=>by
  have h1:=h.1
  rw [bytes3f] at h1
  have:reachBytes=140737488351232:=rfl
  omega)
/-- An operation. -/
theorem op45w:OpensW Tryz.prog S.k45 45 (fun x=>x.f5.length<17592186044416) :=
 OpensW.struct Tryz.underlying45 (by kernel_rfl)
  (FOpensW.cons opIw cells3f (FOpensW.cons opIw cells3f (FOpensW.cons opIw cells3f (FOpensW.cons opIw cells3f (FOpensW.cons opIw cells3f (FOpensW.last op28w (by kernel_rfl)) (by decide)) (by decide)) (by decide)) (by decide)) (by decide))
  (fun p=>⟨p.1,p.2.1,p.2.2.1,p.2.2.2.1,p.2.2.2.2.1,p.2.2.2.2.2⟩) (fun _=>rfl) (fun _ h=>h.2.2.2.2.2)
theorem op41w:OpensW Tryz.prog S.k48 48 (fun _=>True) :=
 OpensW.struct Tryz.underlying48 (by kernel_rfl)
  (FOpensW.cons opIw cells3f (FOpensW.cons opIw cells3f (FOpensW.cons opIw cells3f (FOpensW.last opIw cells3f) (by decide)) (by decide)) (by decide))
  (fun p=>⟨p.1,p.2.1,p.2.2.1,p.2.2.2⟩) (fun _=>rfl) (fun _ h=>trivial)
def kFn:Kd (Int × List S.S50):=Kd.iso (Kd.pair (Kd.int .i64) (Kd.slice 50 S.k50)) (fun x=>x)
theorem room_of {bs:List S.S50} (h:bs.length≤4611686018427387904∧∀ x∈bs,x.f0.length≤4611686018427387904∧∀ y∈x.f0,y.f5.length<17592186044416):S.Room bs:=by
 have hb:∀ j:Nat,(S.rd_T50 bs (j:Int)).f0.length≤4611686018427387904∧∀ y∈(S.rd_T50 bs (j:Int)).f0,y.f5.length<17592186044416:=fun j=>by
  by_cases hj:j<bs.length
  ·rw [S.rd43' hj];exact h.2 _ (List.getElem_mem _)
  ·have e:S.rd_T50 bs (j:Int)=S.z50:=by
    unfold S.rd_T50
    rw [Int.toNat_natCast,List.getD_eq_getElem?_getD,List.getElem?_eq_none (by omega)]
    rfl
   rw [e]
   exact ⟨by decide,fun y hy=>by cases hy⟩
 refine ⟨h.1,fun j=>(hb j).1,fun j q=>?_⟩
 by_cases hq:q<(S.rd_T50 bs (j:Int)).f0.length
 ·rw [S.rd45' hq];exact (hb j).2 _ (List.getElem_mem _)
 ·have e:S.rd_T45 (S.rd_T50 bs (j:Int)).f0 (q:Int)=S.z45:=by
   unfold S.rd_T45
   rw [Int.toNat_natCast,List.getD_eq_getElem?_getD,List.getElem?_eq_none (by omega)]
   rfl
  rw [e]
  decide
section
variable {H:Type} {enc:TypeId × Value→H} {w:World} {base:Nat} {held:Bool}
end
end Go.Proofs.YtnkgbnbbmcoiiaaGreat
namespace Go.Proofs.YtnkgbnbbmcoiiaaGreat
open Go.ChangeShapes Go.WideShapes Go.ChangeAt Go.RowKit Go.Deep Go.Proofs.YtnkgbnbbmcoiiaaGreatW.PrintWords
set_option linter.unusedVariables false
set_option maxRecDepth 100000
/-! ### A function that came in: how many operations a block may hold -/
theorem op39z:OpensW Tryz.prog (Kd.slice 45 S.k45) 46 (fun l=>l.length≤2199023255552∧∀ x∈l,x.f5.length<17592186044416) :=
 (OpensW.slice Tryz.underlying46 (by kernel_rfl) op45w).imp (fun l h=>by
  have h1:=h.1
  rw [bytes45f] at h1
  have:reachBytes=140737488351232:=rfl
  exact ⟨by omega,h.2⟩)
theorem op43z:OpensW Tryz.prog S.k50 50 (fun x=>x.f0.length≤2199023255552∧∀ y∈x.f0,y.f5.length<17592186044416) :=
 OpensW.struct Tryz.underlying50 (by kernel_rfl)
  (FOpensW.cons op39z (by kernel_rfl) (FOpensW.last op41w (by kernel_rfl)) (by decide))
  (fun p=>⟨p.1,p.2⟩) (fun _=>rfl) (fun _ h=>h.1)
theorem op32z:OpensW Tryz.prog (Kd.slice 50 S.k50) 22 (fun l=>l.length≤4611686018427387904∧∀ x∈l,x.f0.length≤2199023255552∧∀ y∈x.f0,y.f5.length<17592186044416) :=
 (OpensW.slice Tryz.underlying22 (by kernel_rfl) op43z).imp (fun l h=>by
  have h1:=h.1
  rw [bytes43f] at h1
  have:reachBytes=140737488351232:=rfl
  exact ⟨by omega,h.2⟩)
/-- What came in fits,block by block. -/
def Big (bs:List S.S50):Prop:=∀ j:Nat,(S.rd_T50 bs (j:Int)).f0.length≤2199023255552
theorem big_of {bs:List S.S50} (h:∀ x∈bs,x.f0.length≤2199023255552):Big bs:=fun j=>by
 by_cases hj:j<bs.length
 ·rw [S.rd43' hj];exact h _ (List.getElem_mem _)
 ·have e:S.rd_T50 bs (j:Int)=S.z50:=by
   unfold S.rd_T50
   rw [Int.toNat_natCast,List.getD_eq_getElem?_getD,List.getElem?_eq_none (by omega)]
   rfl
  rw [e]
  decide
theorem op34z:OpensW Tryz.prog kFn 24 (fun x=>I64f x.1∧S.Room x.2∧Big x.2) :=
 OpensW.struct Tryz.underlying24 (by kernel_rfl)
  (FOpensW.cons opIw cells3f (FOpensW.last op32z (by kernel_rfl)) (by decide))
  (fun p=>p) (fun _=>rfl) (fun _ h=>⟨h.1,room_of ⟨h.2.1,fun x hx=>⟨Nat.le_trans (h.2.2 x hx).1 (by decide),(h.2.2 x hx).2⟩⟩,big_of fun x hx=>(h.2.2 x hx).1⟩)
section
variable {H:Type} {enc:TypeId × Value→H} {w:World} {base:Nat} {held:Bool}
/-- A function that came in. -/
theorem open_funcz {spare:Nat→Bool} {r:Reach} {b0:Nat} {v:Value} {d:DataW H} {p:List MemPlace} (hv:Value.okWide Tryz.prog w r b0 24 v) (h:DataW.Trod enc Tryz.prog w base spare held 24 v d p) (hw:∀ n∈d.weights Tryz.prog 24,n≤reachBytes) :
  ∃ (n:Int) (A:Option Addr) (c:Nat) (l:List S.S50),v=.agg #[.int .i64 n,.slice A l.length c]∧Kd.C S.k50 w A l.length l∧l.length≤c∧S.Room l∧Big l:=by
 obtain ⟨⟨n,l⟩,cs,rfl,hk,hg⟩:=OpensW.agg op34z Tryz.underlying24 hv h hw
 obtain ⟨_,_,rfl,rfl,⟨A,c,rfl,hl,hc⟩⟩:=hk
 exact ⟨n,A,c,l,rfl,hc,hl,hg.2.1,hg.2.2⟩
end
end Go.Proofs.YtnkgbnbbmcoiiaaGreat
