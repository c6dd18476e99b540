import Derived.Test.YtnkgbnbbmcoiiaaGreatBk
import Derived.Test.YtnkgbnbbmcoiiaaGreatOput
import Derived.Test.YtnkgbnbbmcoiiaaGreatOrop
import Derived.Test.YtnkgbnbbmcoiiaaGreatRfa
namespace Go.Proofs.YtnkgbnbbmcoiiaaGreat.S
open Go.RowKit Go.IM Go.Proofs.YtnkgbnbbmcoiiaaGreatW.PrintWords Go.Proofs.YtnkgbnbbmcoiiaaGreatW.PrintLast Go.Proofs.YtnkgbnbbmcoiiaaGreatW.PrintMore
set_option linter.unusedVariables false
set_option linter.unusedSimpArgs false
theorem uses_any (x:S45) (A:Option Addr) (c:Nat) (w:World) (hx:x.f5.length≤1000000000000) (hC:Kd.C (Kd.int .i64) w A x.f5.length x.f5) (hc:x.f5.length≤c) :
  Calls Tryz.prog 41 #[.agg #[.int .i64 x.f0,.int .i64 x.f1,.int .i64 x.f2,.int .i64 x.f3,.int .i64 x.f4,.slice A x.f5.length c]] w fun e w'=>∃ A' c',e=.returned (.slice A' (useX x).length c')∧Kd.C (Kd.int .i64) w' A' (useX x).length (useX x)∧Below w.heap.size w w':=by
 refine (code_Uses.calls 10 x.f0 x.f1 x.f2 x.f3 x.f4 A c x.f5 (useX x) w hC hc (uses_eq x hx)).mono ?_
 rintro e w' ⟨v,rfl,hr,hb⟩
 obtain ⟨A,c,rfl,_,hc⟩:=Kd.R_reads hr
 exact ⟨A,c,rfl,hc,hb⟩
theorem sets1_any (x:S45) (A:Option Addr) (c:Nat) (w:World) (hC:Kd.C (Kd.int .i64) w A x.f5.length x.f5) (hc:x.f5.length≤c) :
  Calls Tryz.prog 42 #[.agg #[.int .i64 x.f0,.int .i64 x.f1,.int .i64 x.f2,.int .i64 x.f3,.int .i64 x.f4,.slice A x.f5.length c]] w fun e w'=>e=.returned (.int .i64 (setX x))∧Below w.heap.size w w' :=
 code_Sets.calls 10 x.f0 x.f1 x.f2 x.f3 x.f4 A c x.f5 (setX x) w hC hc (sets_eq x)
set_option maxHeartbeats 4000000 in
set_option maxRecDepth 100000 in
/-- over: backwards over an operation. -/
theorem over_any (b:Nat) (es:List (Int × Value)) (P:Int→Prop) (x:S45) (A:Option Addr) (c:Nat) (w:World) (hx:x.f5.length≤1000000000000) (hat:At w b es) (hks:KS es P) (hC:Kd.C (Kd.int .i64) w A x.f5.length x.f5) (hc:x.f5.length≤c) :
  Calls Tryz.prog 82 #[.map (some b),.agg #[.int .i64 x.f0,.int .i64 x.f1,.int .i64 x.f2,.int .i64 x.f3,.int .i64 x.f4,.slice A x.f5.length c]] w fun e w'=>e=.returned (.tuple #[])∧∃ es',At w' b es'∧KS es' (fun r=>r∈useX x∨(r≠setX x∧P r))∧w.grownBy w' (some b):=by
 have hu45:=Tryz.underlying45
 have HC:=ak_ hC
 have HCC:=ak_ hc
 have HXL:=ak_ hx
 have HAT:=ak_ hat
 have HKS:=ak_ hks
 have hbl:=hat.lt
 have HS1:=fun w hC=>sets1_any x A c w hC hc
 have HU1:=fun w hC=>uses_any x A c w hx hC hc
 clear hC hc hx hat hks
 have HXB:=ak_ (blk_new w (.cells #[.int .i64 x.f0,.int .i64 x.f1,.int .i64 x.f2,.int .i64 x.f3,.int .i64 x.f4,.slice A x.f5.length c] 45))
 have HB0:=ak_ (below_alloc (Below.refl w.heap.size w) (.cells #[.int .i64 x.f0,.int .i64 x.f1,.int .i64 x.f2,.int .i64 x.f3,.int .i64 x.f4,.slice A x.f5.length c] 45))
 go_enter Tryz.func82,Tryz.ntmps82
 go_wp2_with (first
  | (go_at_call 42;refine (HS1 _ (Kd.C_below HC.out HB0.out)).mono ?_;rintro e w1 ⟨rfl,hb⟩;have HB1:=ak_ (below_then HB0.out HB0.out.size hb);have HX1:=ak_ (blk_below HXB.out hb);clear hb)
  | (at_delete;refine IM.wpl_delete _ rfl _ _ 73 3 rfl 4 Tryz.underlying73 Tryz.underlying3 b _ rfl (HAT.out.below HB1.out hbl) (setX x) rfl ?_;intro w2 hm2 hg2 hs2;have HM2:=ak_ hm2;have HG2:=ak_ (grown_then (grown_of_bel HB1.out (some b)) hg2 (.inl rfl));have HKC2:=ak_ ((KC.of_below HB1.out).trans (KC.of_grown hg2 (HAT.out.below HB1.out hbl).no_cells));have HX2:=ak_ (blk_grown HX1.out hg2 (by simp;omega));have c0:=bc_ HX2 0;have c1:=bc_ HX2 1;have c2:=bc_ HX2 2;have c3:=bc_ HX2 3;have c4:=bc_ HX2 4;have c5:=bc_ HX2 5;simp only [ga_,gb_,gc_] at c0 c1 c2 c3 c4 c5;clear hm2 hg2 hs2)
  | (go_at_call 41;refine (HU1 _ (Cint_kc HC.out HKC2.out)).mono ?_;rintro e w3 ⟨A3,c3',rfl,hC3,hb⟩;have HC3:=ak_ hC3;have HM3:=ak_ (HM2.out.below hb HM2.out.lt);have HG3:=ak_ (grown_then HG2.out (grown_of_bel hb none) (.inr (.inl rfl)));clear hb hC3)
  | (go_at_call 86;refine (put_any b _ _ A3 c3' (useX x) _ HM3.out (HKS.out.dl (setX x)) HC3.out).mono ?_;rintro e w4 ⟨rfl,es4,ha4,hk4,hg4⟩;have HA4:=ak_ ha4;have HK4:=ak_ hk4;have HG4:=ak_ (grown_then HG3.out hg4 (.inl rfl));clear ha4 hk4 hg4))
 go_end0
 exact ⟨rfl,es4,HA4.out,HK4.out,HG4.out⟩
/-- A row of n sets: I i r: is r in set i? -/
def MapsAt (w:World) (A:Option Addr) (n:Nat) (I:Nat→Int→Prop):Prop:=∀ i,i<n→∃ ad b es,A=some ad∧w.cell? (ad.add i)=some (.map (some b))∧At w b es∧KS es (I i)
theorem MapsAt.below {w w' : World} {A:Option Addr} {n:Nat} {I:Nat→Int→Prop} (h:MapsAt w A n I) (hb:Below w.heap.size w w'):MapsAt w' A n I:=fun i hi=>by
 obtain ⟨ad,b,es,e,hc,ha,hk⟩:=h i hi
 exact ⟨ad,b,es,e,pw_cell_below hb hc,ha.below hb ha.lt,hk⟩
theorem MapsAt.imp {w:World} {A:Option Addr} {n:Nat} {I I' : Nat→Int→Prop} (h:MapsAt w A n I) (hi:∀ i,i<n→∀ r,I i r↔I' i r):MapsAt w A n I':=fun i hlt=>by
 obtain ⟨ad,b,es,e,hc,ha,hk⟩:=h i hlt
 exact ⟨ad,b,es,e,hc,ha,hk.imp (hi i hlt)⟩
set_option maxHeartbeats 4000000 in
set_option maxRecDepth 100000 in
/-- ends: what is in the sets of some blocks,in a new set. -/
theorem ends_any (A:Option Addr) (n c:Nat) (I:Nat→Int→Prop) (B:Option Addr) (cb:Nat) (l:List Int) (w:World) (hn:n≤1000000000000) (hm:MapsAt w A n I) (hC:Kd.C (Kd.int .i64) w B l.length l) (hl:∀ t∈l,0≤t∧t<n) :
  Calls Tryz.prog 53 #[.slice A n c,.slice B l.length cb] w fun e w'=>∃ m es,e=.returned (.map (some m))∧At w' m es∧KS es (fun r=>∃ j:Nat,(j:Int)∈l∧I j r)∧w.heap.size≤m∧Below w.heap.size w w':=by
 have hln:l.length≤9223372036854775807:=hC.2.1
 have HC:=ak_ hC
 have HM:=ak_ hm
 have HL:=ak_ hl
 have HNN:=ak_ hn
 have hmm:=@run_makeMap Tryz.prog
 clear hC hm hl hn
 go_enter Tryz.func53,Tryz.ntmps53
 go_wp2_with fail
 clear hmm
 go_loopw [11] (fun i wr=>∃ (j:Nat) (es' : List (Int × Value)),j≤l.length∧i=.int .i64 (j:Int)∧Aside0 (At wr w.heap.size es')∧Aside0 (KS es' (fun r=>∃ j' : Nat,(j' : Int)∈l.take j∧I j' r))∧Aside0 (Below w.heap.size w wr)) (fun i _=>l.length - (intOf i).toNat)
 case atStart=>exact ⟨0,[],Nat.zero_le _,rfl,⟨At.made w⟩,⟨KS.nil.imp (fun r=>by simp)⟩,⟨below_alloc (Below.refl _ _) _⟩⟩
 case round =>
  obtain ⟨j,es',hj,rfl,HA,HK,HB⟩:=hrel
  by_cases hlt:j<l.length
  ·have b1:decide ((j:Int)<(l.length:Int))=true:=decide_eq_true (by omega)
   obtain ⟨ad,eA,k0⟩:=Kd.at_int (Kd.C_below HC.out HB.out) (j:Int) (by omega) (by omega)
   simp only [Int.toNat_natCast] at k0
   obtain ⟨t,ht⟩:∃ t:Nat,rd l (j:Int)=(t:Int)∧t<n:=by
    have:=HL.out (rd l (j:Int)) (by rw [rd_mem hlt];exact List.getElem_mem hlt)
    exact ⟨(rd l (j:Int)).toNat,by omega,by omega⟩
   obtain ⟨adm,b,es,eM,hcm,hat,hks⟩:=(HM.out.below HB.out) t ht.2
   have hbl:b<w.heap.size:=by
    obtain ⟨adm',b',es2,eM',hcm',hat',_⟩:=HM.out t ht.2
    rw [eM] at eM'
    cases eM'
    have:=pw_cell_below HB.out hcm'
    rw [hcm] at this
    cases this
    exact hat'.lt
   have HT:=ak_ (take_rd hlt)
   rw [ht.1] at k0 HT
   have q1:(0:Int)≤(t:Int):=by omega
   have q2:(t:Int)<(n:Int):=by omega
   have hnn:=HNN.out
   have HATS:=ak_ hat
   have HKSS:=ak_ hks
   clear ht hat hks
   subst eA eM
   go_wp2_with (go_at_call 85;refine (copy_any w.heap.size b es' es _ (I t) _ (by omega) HA.out HATS.out HK.out HKSS.out).mono ?_;rintro e w1 ⟨rfl,es2,ha2,hk2,hg2⟩;have HA2:=ak_ ha2;have HK2:=ak_ hk2;have HG2:=ak_ hg2;clear ha2 hk2 hg2)
   go_roundw
   case rel=>exact ⟨j+1,es2,by omega,by go_num,HA2,⟨HK2.out.imp (fun r=>by
    rw [HT.out]
    simp only [List.mem_append,List.mem_singleton]
    constructor
    ·rintro (h|⟨j',h1,h2⟩)
     ·exact ⟨t,.inr rfl,h⟩
     ·exact ⟨j',.inl h1,h2⟩
    ·rintro ⟨j',h1|h1,h2⟩
     ·exact .inr ⟨j',h1,h2⟩
     ·obtain rfl:j'=t:=by omega
      exact .inl h2)⟩,⟨below_of_grown HB.out HG2.out (Nat.le_refl _)⟩⟩
   case measure=>simp [intOf];omega
  ·have b1:decide ((j:Int)<(l.length:Int))=false:=decide_eq_false (by omega)
   obtain rfl:j=l.length:=by omega
   have hk:=HK.out
   rw [List.take_length] at hk
   have HK2:=ak_ hk
   clear hk
   go_wp2_with fail
   go_ret
   exact ⟨w.heap.size,es',rfl,HA.out,HK2.out,Nat.le_refl _,HB.out⟩
set_option maxHeartbeats 4000000 in
set_option maxRecDepth 100000 in
/-- behind: what is live behind a block's operations,in a new set. -/
theorem behind_any (A:Option Addr) (n c:Nat) (I:Nat→Int→Prop) (B:Option Addr) (cb:Nat) (l:List Int) (t:S48) (w:World) (hn:n≤1000000000000) (hm:MapsAt w A n I) (hC:Kd.C (Kd.int .i64) w B l.length l) (hl:∀ t∈l,0≤t∧t<n) :
  Calls Tryz.prog 57 #[.slice A n c,.slice B l.length cb,.agg #[.int .i64 t.f0,.int .i64 t.f1,.int .i64 t.f2,.int .i64 t.f3]] w fun e w'=>∃ m es,e=.returned (.map (some m))∧At w' m es∧KS es (fun r=>r∈tuseT t∨∃ j:Nat,(j:Int)∈l∧I j r)∧w.heap.size≤m∧Below w.heap.size w w':=by
 have hu41:=Tryz.underlying48
 have HB0:=ak_ (below_alloc (Below.refl w.heap.size w) (.cells #[.int .i64 t.f0,.int .i64 t.f1,.int .i64 t.f2,.int .i64 t.f3] 48))
 have HXB:=ak_ (blk_new w (.cells #[.int .i64 t.f0,.int .i64 t.f1,.int .i64 t.f2,.int .i64 t.f3] 48))
 have hends:=ends_any A n c I B cb l (w.alloc (.cells #[.int .i64 t.f0,.int .i64 t.f1,.int .i64 t.f2,.int .i64 t.f3] 48)) hn (hm.below HB0.out) (Kd.C_below hC HB0.out) hl
 have HE:=ak_ hends
 clear hm hC hl hends
 go_enter Tryz.func57,Tryz.ntmps57
 go_wp2_with (first
  | (go_at_call 53;refine HE.out.mono ?_;rintro e w1 ⟨m,es,rfl,ha,hk,hms,hb⟩;have HB1:=ak_ (below_then HB0.out HB0.out.size hb);have HX1:=ak_ (blk_below HXB.out hb);have HA1:=ak_ ha;have HK1:=ak_ hk;have HMS:=ak_ (Nat.le_trans HB0.out.size hms);have c0:=bc_ HX1 0;have c1:=bc_ HX1 1;have c2:=bc_ HX1 2;have c3:=bc_ HX1 3;simp only [ga_,gb_,gc_] at c0 c1 c2 c3;clear hb ha hk hms)
  | (go_at_call 40;refine (termUses_any t _).mono ?_;rintro e w2 ⟨A2,c2',rfl,hC2,hb⟩;have HC2:=ak_ hC2;have HA2:=ak_ (HA1.out.below hb HA1.out.lt);have HB2:=ak_ (below_then HB1.out HB1.out.size hb);clear hC2 hb)
  | (go_at_call 86;refine (put_any m es _ A2 c2' (tuseT t) _ HA2.out HK1.out HC2.out).mono ?_;rintro e w3 ⟨rfl,es3,ha3,hk3,hg3⟩;have HA3:=ak_ ha3;have HK3:=ak_ hk3;have HB3:=ak_ (below_of_grown HB2.out hg3 HMS.out);clear ha3 hk3 hg3))
 go_ret
 exact ⟨m,es3,rfl,HA3.out,HK3.out,HMS.out,HB3.out⟩
/-- A strictly rising row. -/
def Rise (l:List Int):Prop:=l.Pairwise (·<·)
theorem rise_sort {l:List Int} (h:l.Nodup):Rise (l.mergeSort fun x y=>decide (x≤y)):=by
 have h1:(l.mergeSort fun x y=>decide (x≤y)).Pairwise (fun a b=>(decide (a≤b))=true):=List.pairwise_mergeSort (fun a b c h1 h2=>by simp only [decide_eq_true_eq] at *;omega) (fun a b=>by simp only [Bool.or_eq_true,decide_eq_true_eq];omega) l
 have h2:(l.mergeSort fun x y=>decide (x≤y)).Nodup:=(List.mergeSort_perm l _).nodup_iff.2 h
 unfold Rise
 refine (h1.and h2).imp ?_
 rintro a b ⟨h1,h2⟩
 simp only [decide_eq_true_eq] at h1
 have:a≠b:=h2
 omega
set_option maxHeartbeats 4000000 in
set_option maxRecDepth 100000 in
/-- row: a set,rising. -/
theorem row_any (b:Nat) (es:List (Int × Value)) (P:Int→Prop) (w:World) (hat:At w b es) (hks:KS es P) (hlen:es.length≤1000000000000) :
  Calls Tryz.prog 50 #[.map (some b)] w fun e w'=>∃ v zs,e=.returned v∧Kd.R (Kd.int .i64) 3 w' w.heap.size (fun _=>True) v zs∧Rise zs∧(∀ r,r∈zs↔P r)∧Below w.heap.size w w':=by
 have HAT:=ak_ hat
 have HKS:=ak_ hks
 have HL:=ak_ hlen
 clear hat hks hlen
 go_enter Tryz.func50,Tryz.ntmps50
 go_wp2_with (first
  | (go_at_call 83;refine (keys87_any _ _).mono ?_;rintro e w1 ⟨rfl,rfl⟩)
  | (go_at_call 43;refine (sorted87_any w.heap.size b es _ (blk_cell (blk_new w (.cells #[.map (some b)] 73)) 0) (HAT.out.alloc _) HL.out).mono ?_;rintro e w2 ⟨v2,rfl,ho,hb⟩;have HO:=ak_ ho;have HB2:=ak_ (below_then (below_alloc (Below.refl w.heap.size w) (.cells #[.map (some b)] 73)) (by simp [World.size_alloc]) hb);clear ho hb))
 go_ret
 have hl:((keysOf es).mergeSort fun x y=>decide (x≤y)).length=es.length:=by rw [List.length_mergeSort,keysOf,List.length_map]
 have ho:=HO.out
 rw [← hl] at ho
 refine ⟨v2,(keysOf es).mergeSort fun x y=>decide (x≤y),rfl,?_,rise_sort HKS.out.nodup,fun r=>by rw [List.mem_mergeSort];exact HKS.out.mem r,HB2.out⟩
 exact Kd.R_lower (Kd.R_of_own ho (fun _ _=>trivial)) (by simp [World.size_alloc])
/-! ### spans.wide: a map from registers to spans -/
theorem zero26 (w:World):(zeroValue 52).run Tryz.prog w=.ok (.agg #[.int .i64 0,.int .i64 0,.int .i64 0]) w:=by kernel_rfl
def spV (r a b:Int):Value:=.agg #[.int .i64 r,.int .i64 a,.int .i64 b]
/-- The span of the places p at which P k p. -/
structure SpanOf (P:Int→Int→Prop) (k a b:Int):Prop where mk ::
 lo:P k a
 hi:P k b
 all:∀ p,P k p→a≤p∧p≤b
/-- The map's entries are the spans of the points P. -/
structure WS (es:List (Int × Value)) (P:Int→Int→Prop):Prop where mk ::
 nodup:(keysOf es).Nodup
 no:∀ k,lk es k=none→∀ p,¬ P k p
 yes:∀ k v,lk es k=some v→∃ a b,v=spV k a b∧SpanOf P k a b
theorem SpanOf.uniq {P:Int→Int→Prop} {k a b a' b' : Int} (h:SpanOf P k a b) (h' : SpanOf P k a' b'):a=a'∧b=b':=by
 have h1:=h.all _ h'.lo;have h2:=h.all _ h'.hi;have h3:=h'.all _ h.lo;have h4:=h'.all _ h.hi
 omega
theorem WS.nil:WS [] (fun _ _=>False):=⟨List.nodup_nil,fun k _ p h=>h,fun k v h=>by simp [lk] at h⟩
theorem WS.imp {es:List (Int × Value)} {P Q:Int→Int→Prop} (h:WS es P) (hq:∀ r p,P r p↔Q r p):WS es Q :=
 ⟨h.nodup,fun k hk p hp=>h.no k hk p ((hq k p).2 hp),fun k v hv=>by
  obtain ⟨a,b,e,h1⟩:=h.yes k v hv
  exact ⟨a,b,e,(hq _ _).1 h1.lo,(hq _ _).1 h1.hi,fun p hp=>h1.all p ((hq _ _).2 hp)⟩⟩
theorem lk_st (es:List (Int × Value)) (k:Int) (v:Value) (r:Int):lk (st es k v) r=if r=k then some v else lk es r:=by
 induction es with
 | nil=>simp [st,lk]
 | cons p es ih =>
  unfold st
  split
  ·rename_i h
   by_cases hr:r=k
   ·rw [if_pos hr,lk,if_pos hr]
   ·have hp:¬ r=p.1:=fun e=>hr (e.trans h.symm)
    rw [if_neg hr,lk,if_neg hr,lk,if_neg hp]
  ·rename_i h
   by_cases hr:r=p.1
   ·have hk:¬ r=k:=fun e=>h (e▸hr)
    rw [if_neg hk,lk,if_pos hr,lk,if_pos hr]
   ·rw [lk,if_neg hr,ih,lk,if_neg hr]
theorem lk_none {es:List (Int × Value)} {k:Int} : lk es k=none↔k∉keysOf es:=by
 induction es with
 | nil=>simp [lk,keysOf]
 | cons p es ih =>
  simp only [keysOf,List.map_cons,List.mem_cons,not_or] at ih ⊢
  unfold lk
  split
  ·rename_i h
   simp [h]
  ·rename_i h
   rw [ih]
   exact ⟨fun h2=>⟨h,h2⟩,fun h2=>h2.2⟩
/-- What a put writes at one register. -/
def putV (o:Option Value) (k place:Int):Value :=
 match o with
 | some (.agg #[.int .i64 r,.int .i64 a,.int .i64 b])=>spV r (min a place) (max b place)
 | _=>spV k (min place place) (max place place)
theorem WS.put {es:List (Int × Value)} {P:Int→Int→Prop} (h:WS es P) (k place:Int):WS (IM.st es k (putV (lk es k) k place)) (fun r p=>(r=k∧p=place)∨P r p):=by
 refine ⟨nodup_st h.nodup k _,fun r hr p hp=>?_,fun r v hr=>?_⟩
 ·rw [lk_st] at hr
  split at hr
  ·cases hr
  ·rename_i hne
   rcases hp with ⟨e,_⟩|hp
   ·exact hne e
   ·exact h.no r hr p hp
 ·rw [lk_st] at hr
  split at hr
  ·rename_i e
   subst e
   injection hr with hr
   subst hr
   cases hl:lk es r with
   | none =>
    refine ⟨place,place,?_,⟨.inl ⟨rfl,rfl⟩,.inl ⟨rfl,rfl⟩,fun p hp=>?_⟩⟩
    ·simp [putV]
    ·rcases hp with ⟨_,rfl⟩|hp
     ·omega
     ·exact absurd hp (h.no r hl p)
   | some v =>
    obtain ⟨a,b,rfl,hs⟩:=h.yes r v hl
    refine ⟨min a place,max b place,rfl,⟨?_,?_,fun p hp=>?_⟩⟩
    ·by_cases hle:a≤place
     ·rw [Int.min_eq_left hle];exact .inr hs.lo
     ·rw [Int.min_eq_right (by omega)];exact .inl ⟨rfl,rfl⟩
    ·by_cases hle:b≤place
     ·rw [Int.max_eq_right hle];exact .inl ⟨rfl,rfl⟩
     ·rw [Int.max_eq_left (by omega)];exact .inr hs.hi
    ·rcases hp with ⟨_,rfl⟩|hp
     ·omega
     ·have:=hs.all p hp;omega
  ·rename_i hne
   obtain ⟨a,b,e,hs⟩:=h.yes r v hr
   refine ⟨a,b,e,.inr hs.lo,.inr hs.hi,fun p hp=>?_⟩
   rcases hp with ⟨e2,_⟩|hp
   ·exact absurd e2 hne
   ·exact hs.all p hp
set_option maxHeartbeats 4000000 in
set_option maxRecDepth 100000 in
/-- put: a place for some registers. -/
theorem wput_any (b:Nat) (es:List (Int × Value)) (P:Int→Int→Prop) (pl:Int) (A:Option Addr) (c:Nat) (l:List Int) (w:World) (hat:At w b es) (hks:WS es P) (hC:Kd.C (Kd.int .i64) w A l.length l) :
  Calls Tryz.prog 39 #[.map (some b),.int .i64 pl,.slice A l.length c] w fun e w'=>e=.returned (.tuple #[])∧∃ es',At w' b es'∧WS es' (fun r p=>(r∈l∧p=pl)∨P r p)∧w.grownBy w' (some b):=by
 have hu26:=Tryz.underlying52
 have hn:l.length≤9223372036854775807:=hC.2.1
 have HC:=ak_ hC
 have HAT:=ak_ hat
 have HKS:=ak_ hks
 clear hat hks hC
 go_enter Tryz.func39,Tryz.ntmps39
 go_wp2_with fail
 go_loopw [12] (fun i wr=>∃ (j:Nat) (es' : List (Int × Value)),j≤l.length∧i=.int .i64 (j:Int)∧Aside0 (At wr b es')∧Aside0 (WS es' (fun r p=>(r∈l.take j∧p=pl)∨P r p))∧Aside0 (w.grownBy wr (some b))∧Aside0 (KC w wr)) (fun i _=>l.length - (intOf i).toNat)
 case atStart=>exact ⟨0,es,Nat.zero_le _,rfl,HAT,⟨HKS.out.imp (fun r p=>by simp)⟩,⟨grown_refl _ _⟩,⟨KC.refl _⟩⟩
 case round =>
  obtain ⟨j,es',hj,rfl,HA,HK,HG,HKC⟩:=hrel
  by_cases hlt:j<l.length
  ·have b1:decide ((j:Int)<(l.length:Int))=true:=decide_eq_true (by omega)
   obtain ⟨ad,eA,k0⟩:=Kd.at_int (Cint_kc HC.out HKC.out) (j:Int) (by omega) (by omega)
   simp only [Int.toNat_natCast] at k0
   have HT:=ak_ (take_rd hlt)
   generalize rd l (j:Int)=z at k0 HT
   subst eA
   have HP:Aside0 (WS (IM.st es' z (putV (lk es' z) z pl)) (fun r p=>(r∈l.take (j+1)∧p=pl)∨P r p)):=⟨(HK.out.put z pl).imp (fun r p=>by
    rw [HT.out,List.mem_append,List.mem_singleton]
    constructor
    ·rintro (⟨rfl,rfl⟩|⟨h,rfl⟩|h)
     ·exact .inl ⟨.inr rfl,rfl⟩
     ·exact .inl ⟨.inl h,rfl⟩
     ·exact .inr h
    ·rintro (⟨h|rfl,rfl⟩|h)
     ·exact .inr (.inl ⟨h,rfl⟩)
     ·exact .inl ⟨rfl,rfl⟩
     ·exact .inr (.inr h))⟩
   have hblt:=HA.out.lt
   cases hl:lk es' z with
   | none =>
    have HL:=ak_ hl
    rw [hl] at HP
    have eP:putV none z pl=spV z pl pl:=by simp [putV]
    rw [eP] at HP
    clear hl eP
    go_wp2_with (first
     | (at_lookup;refine IM.wpl_lookup _ rfl _ _ 57 true rfl 3 52 Tryz.underlying57 Tryz.underlying3 _ (zero26 _) b _ rfl HA.out z rfl ?_;rw [HL.out];simp only [Option.getD_none,Option.isSome_none,if_true])
     | (at_mapUpdate;refine IM.wpl_update _ rfl _ _ _ 57 rfl 3 52 Tryz.underlying57 Tryz.underlying3 b _ rfl (HA.out.alloc _) z rfl (spV z pl pl) rfl ?_;intro w1 hm1 hg1 hs1;have HM1:=ak_ hm1;have HG1:=ak_ hg1;clear hs1 hm1 hg1))
    try go_frame
    go_roundw
    case rel=>exact ⟨j+1,_,by omega,by go_num,HM1,HP,⟨grown_then (grown_then HG.out (World.grownBy_alloc wr _ none) (.inr (.inl rfl))) HG1.out (.inl rfl)⟩,⟨(HKC.out.trans (KC.of_below (below_alloc (Below.refl _ _) _))).trans (KC.of_grown HG1.out (HA.out.alloc _).no_cells)⟩⟩
    case measure=>simp [intOf];omega
   | some v =>
    obtain ⟨a0,b0,rfl,hs⟩:=HK.out.yes z v hl
    have HL:Aside0 (lk es' z=some (.agg #[.int .i64 z,.int .i64 a0,.int .i64 b0])):=⟨hl⟩
    rw [hl] at HP
    have eP:putV (some (spV z a0 b0)) z pl=spV z (min a0 pl) (max b0 pl):=rfl
    rw [eP] at HP
    clear hl eP hs
    go_wp2_with (first
     | (at_lookup;refine IM.wpl_lookup _ rfl _ _ 57 true rfl 3 52 Tryz.underlying57 Tryz.underlying3 _ (zero26 _) b _ rfl HA.out z rfl ?_;rw [HL.out];simp only [Option.getD_some,Option.isSome_some,if_true])
     | (at_mapUpdate;refine IM.wpl_update _ rfl _ _ _ 57 rfl 3 52 Tryz.underlying57 Tryz.underlying3 b _ rfl (HA.out.alloc _) z rfl (spV z (min a0 pl) (max b0 pl)) rfl ?_;intro w1 hm1 hg1 hs1;have HM1:=ak_ hm1;have HG1:=ak_ hg1;clear hs1 hm1 hg1))
    try go_frame
    go_roundw
    case rel=>exact ⟨j+1,_,by omega,by go_num,HM1,HP,⟨grown_then (grown_then HG.out (World.grownBy_alloc wr _ none) (.inr (.inl rfl))) HG1.out (.inl rfl)⟩,⟨(HKC.out.trans (KC.of_below (below_alloc (Below.refl _ _) _))).trans (KC.of_grown HG1.out (HA.out.alloc _).no_cells)⟩⟩
    case measure=>simp [intOf];omega
  ·have b1:decide ((j:Int)<(l.length:Int))=false:=decide_eq_false (by omega)
   obtain rfl:j=l.length:=by omega
   have hk:=HK.out
   rw [List.take_length] at hk
   have HK2:=ak_ hk
   clear hk
   go_wp2_with fail
   go_end0
   exact ⟨rfl,_,HA.out,HK2.out,HG.out⟩
end Go.Proofs.YtnkgbnbbmcoiiaaGreat.S
namespace Go.Proofs.YtnkgbnbbmcoiiaaGreat.S
open Go.RowKit Go.Shelf Go.IM Go.Proofs.YtnkgbnbbmcoiiaaGreatW.PrintWords Go.Proofs.YtnkgbnbbmcoiiaaGreatW.PrintLast Go.Proofs.YtnkgbnbbmcoiiaaGreatW.PrintMore
set_option linter.unusedVariables false
attribute [local go_sem] Oper.semAt_some
/-- May an operation's Imm be so? -/
def imB (x:S45) (fn:Int):Bool:=if x.f0=2 then wi x.f4 1 14 else immB x.f0 x.f4 fn (shp x.f0).2.2.2.1
/-- Is an operation right? -/
def ropX (x:S45) (fn:Int):Bool:=ropB x.f0 x.f1 x.f2 x.f3 x.f4 x.f5 (imB x fn)
theorem known_eq (i:Int):word_Known.f i=some (wi i 1 14):=by
 unfold word_Known.f wi
 by_cases h:i ≥ 1
 ·rw [if_pos h]
  by_cases h2:i≤14<;>simp [h2]<;>omega
 ·rw [if_neg h]
  simp
  omega
theorem rightOpX_any (x:S45) (fn:Int) (A:Option Addr) (c:Nat) (w:World) (hC:Kd.C (Kd.int .i64) w A x.f5.length x.f5) (hc:x.f5.length≤c) :
  Calls Tryz.prog 76 #[.agg #[.int .i64 x.f0,.int .i64 x.f1,.int .i64 x.f2,.int .i64 x.f3,.int .i64 x.f4,.slice A x.f5.length c],.int .i64 fn] w fun e w'=>e=.returned (.bool (ropX x fn))∧Below w.heap.size w w' :=
 rightOp_any 1 x.f0 x.f1 x.f2 x.f3 x.f4 fn A c x.f5 (imB x fn) w hC hc (by
  rw [immediate_eq]
  unfold imB
  split
  ·rw [known_eq]
  ·rfl)
/-- Are a function's Terms right? -/
def termsR (bs:List S50):Bool:=bs.all fun x=>rtT x.f1.f0 x.f1.f1 x.f1.f2 x.f1.f3 (bs.length:Int)
/-- Is a function right? -/
def rightF (p:Int) (bs:List S50) (fn:Int):Bool :=
 wi (bs.length:Int) 1 4096 && (wi p 0 8 && (termsR bs && (decide ((plcs bs bs.length).length≤16384) && (plcs bs bs.length).all fun q=>ropX (opOf bs q) fn)))
/-- Right's three boxes. -/
def rW (w:World) (p:Int) (A:Option Addr) (n c:Nat) (fn:Int):World:=((w.alloc (.cells #[.int .i64 p,.slice A n c] 24)).alloc (.cells #[.int .i64 fn] 3)).alloc (.cells #[.bool false] 4)
theorem rW_box (w:World) (p:Int) (A:Option Addr) (n c:Nat) (fn:Int):Boxed (rW w p A n c fn) (w.heap.size+1+1) 4 (.bool false):=by
 have:=Boxed.new ((w.alloc (.cells #[.int .i64 p,.slice A n c] 24)).alloc (.cells #[.int .i64 fn] 3)) 4 (.bool false)
 rwa [World.size_alloc,World.size_alloc] at this
theorem rW_fn (w:World) (p:Int) (A:Option Addr) (n c:Nat) (fn:Int):Boxed (rW w p A n c fn) (w.heap.size+1) 3 (.int .i64 fn):=by
 have:=Boxed.new (w.alloc (.cells #[.int .i64 p,.slice A n c] 24)) 3 (.int .i64 fn)
 rw [World.size_alloc] at this
 exact this.alloc _
theorem rW_f (w:World) (p:Int) (A:Option Addr) (n c:Nat) (fn:Int):(rW w p A n c fn).heap[w.heap.size]?=some (.cells #[.int .i64 p,.slice A n c] 24 (0,0)) :=
 blk_alloc (blk_alloc (blk_new w (.cells #[.int .i64 p,.slice A n c] 24)) _) _
theorem rW_below (w:World) (p:Int) (A:Option Addr) (n c:Nat) (fn:Int):Below w.heap.size w (rW w p A n c fn):=below_alloc (below_alloc (below_alloc (Below.refl _ _) _) _) _
set_option maxHeartbeats 4000000 in
set_option maxRecDepth 100000 in
theorem right_few (p:Int) (A:Option Addr) (c:Nat) (bs:List S50) (fn:Int) (w:World) (h:wi (bs.length:Int) 1 4096=false) :
  Calls Tryz.prog 45 #[.agg #[.int .i64 p,.slice A bs.length c],.int .i64 fn] w fun e w'=>e=.returned (.bool false)∧Below w.heap.size w w':=by
 have hu34:=Tryz.underlying24
 have H:=ak_ h
 clear h
 go_enter Tryz.func45,Tryz.ntmps45
 go_wp2_with (go_at_call 71;refine (within_any _ _ _ _).mono ?_;rintro e w1 ⟨rfl,hb⟩;rw [H.out];have HB1:=ak_ (below_then (rW_below w p A bs.length c fn) (rW_below w p A bs.length c fn).size hb);have HX:=ak_ (blk_below (rW_box w p A bs.length c fn) hb);have c4:=Boxed.cell HX.out;have f4:=Boxed.frozen HX.out;clear hb)
 have e4:=(Boxed.set (.bool false) HX.out).cell
 refine bodyPost_ret (v:=.bool false) (by simp [results,Tryz.results45,go_sem,e4]) rfl ⟨rfl,?_⟩
 exact HB1.out.setCell (p:=⟨_,0,none⟩) (by show w.heap.size≤w.heap.size+1+1;omega) _
set_option maxHeartbeats 4000000 in
set_option maxRecDepth 100000 in
theorem right_par (p:Int) (A:Option Addr) (c:Nat) (bs:List S50) (fn:Int) (w:World) (h:wi (bs.length:Int) 1 4096=true) (h' : wi p 0 8=false) :
  Calls Tryz.prog 45 #[.agg #[.int .i64 p,.slice A bs.length c],.int .i64 fn] w fun e w'=>e=.returned (.bool false)∧Below w.heap.size w w':=by
 have hu34:=Tryz.underlying24
 have H:=ak_ h
 have H':=ak_ h'
 clear h h'
 go_enter Tryz.func45,Tryz.ntmps45
 go_wp2_with (first
  | (have hz:=HB1;clear hz;go_at_call 71;refine (within_any _ _ _ _).mono ?_;rintro e w2 ⟨rfl,hb⟩;rw [H'.out];have HB2:=ak_ (below_then HB1.out HB1.out.size hb);have HX2:=ak_ (blk_below HX.out hb);have c4:=Boxed.cell HX2.out;have f4:=Boxed.frozen HX2.out;clear hb)
  | (go_at_call 71;refine (within_any _ _ _ _).mono ?_;rintro e w1 ⟨rfl,hb⟩;rw [H.out];have HB1:=ak_ (below_then (rW_below w p A bs.length c fn) (rW_below w p A bs.length c fn).size hb);have HX:=ak_ (blk_below (rW_box w p A bs.length c fn) hb);have HF:=ak_ (blk_below (rW_f w p A bs.length c fn) hb);have c0:=bc_ HF 0;have c1:=bc_ HF 1;simp only [ga_,gb_,gc_] at c0 c1;clear hb))
 have e4:=(Boxed.set (.bool false) HX2.out).cell
 refine bodyPost_ret (v:=.bool false) (by simp [results,Tryz.results45,go_sem,e4]) rfl ⟨rfl,?_⟩
 exact HB2.out.setCell (p:=⟨_,0,none⟩) (by show w.heap.size≤w.heap.size+1+1;omega) _
set_option maxHeartbeats 4000000 in
set_option maxRecDepth 100000 in
theorem right_term (p:Int) (A:Option Addr) (c:Nat) (bs:List S50) (fn:Int) (w:World) (hC:Kd.C k50 w A bs.length bs) (h:wi (bs.length:Int) 1 4096=true) (h' : wi p 0 8=true) (ht:termsR bs=false) :
  Calls Tryz.prog 45 #[.agg #[.int .i64 p,.slice A bs.length c],.int .i64 fn] w fun e w'=>e=.returned (.bool false)∧Below w.heap.size w w':=by
 have hu34:=Tryz.underlying24
 have H:=ak_ h
 have H':=ak_ h'
 have HT:=ak_ ht
 have HC:=ak_ hC
 clear h h' ht hC
 go_enter Tryz.func45,Tryz.ntmps45
 go_wp2_with (first
  | (go_at_call 72;refine (containsB_any A c bs ⟨w.heap.size,0,none⟩ A bs.length c _ (Kd.C_below HC.out HB2.out) (blk_cell HF2.out 1)).mono ?_;rintro e w3 ⟨rfl,hb⟩;rw [show (bs.all fun x=>rtT x.f1.f0 x.f1.f1 x.f1.f2 x.f1.f3 ((bs.length:Nat):Int))=false from HT.out];have HB3:=ak_ (below_then HB2.out HB2.out.size hb);have HX3:=ak_ (blk_below HX2.out hb);have c4:=Boxed.cell HX3.out;have f4:=Boxed.frozen HX3.out;clear hb)
  | (have hz:=HB1;clear hz;go_at_call 71;refine (within_any _ _ _ _).mono ?_;rintro e w2 ⟨rfl,hb⟩;rw [H'.out];have HB2:=ak_ (below_then HB1.out HB1.out.size hb);have HX2:=ak_ (blk_below HX.out hb);have HF2:=ak_ (blk_below HF.out hb);clear c0 c1;have c0:=bc_ HF2 0;have c1:=bc_ HF2 1;simp only [ga_,gb_,gc_] at c0 c1;clear hb)
  | (go_at_call 71;refine (within_any _ _ _ _).mono ?_;rintro e w1 ⟨rfl,hb⟩;rw [H.out];have HB1:=ak_ (below_then (rW_below w p A bs.length c fn) (rW_below w p A bs.length c fn).size hb);have HX:=ak_ (blk_below (rW_box w p A bs.length c fn) hb);have HF:=ak_ (blk_below (rW_f w p A bs.length c fn) hb);have c0:=bc_ HF 0;have c1:=bc_ HF 1;simp only [ga_,gb_,gc_] at c0 c1;clear hb))
 have e4:=(Boxed.set (.bool false) HX3.out).cell
 refine bodyPost_ret (v:=.bool false) (by simp [results,Tryz.results45,go_sem,e4]) rfl ⟨rfl,?_⟩
 exact HB3.out.setCell (p:=⟨_,0,none⟩) (by show w.heap.size≤w.heap.size+1+1;omega) _
theorem opOf_far {bs:List S50} {q:Nat × Nat} (h:¬ (q.1<bs.length∧q.2<opLen bs q.1)):opOf bs q=z45:=by
 unfold opOf
 by_cases h1:q.1<bs.length
 ·have h2:¬ q.2<(rd_T50 bs (q.1:Int)).f0.length:=fun h2=>h ⟨h1,h2⟩
  unfold rd_T45
  rw [List.getD_eq_getElem?_getD,Int.toNat_natCast,List.getElem?_eq_none (by omega)]
  rfl
 ·have:rd_T50 bs (q.1:Int)=z50:=by
   unfold rd_T50
   rw [List.getD_eq_getElem?_getD,Int.toNat_natCast,List.getElem?_eq_none (by omega)]
   rfl
  rw [this]
  simp [rd_T45,z50]
/-- Whatever place: what goes out there reads as an operation. -/
theorem op_row {w:World} {bs:List S50} {bg:Nat→Option Addr × Nat} {oo:Nat→Nat→Option Addr × Nat} (ho:∀ i,i<bs.length→OpsAt w (bg i).1 (rd_T50 bs (i:Int)).f0 (oo i)) (q:Nat × Nat) :
  (opOf bs q).f5.length≤(oo q.1 q.2).2∧Kd.C (Kd.int .i64) w (oo q.1 q.2).1 (opOf bs q).f5.length (opOf bs q).f5:=by
 by_cases h:q.1<bs.length∧q.2<opLen bs q.1
 ·have:=ho q.1 h.1 q.2 h.2
  exact ⟨this.cap,this.row⟩
 ·rw [opOf_far h]
  exact ⟨Nat.zero_le _,rfl,by simp [z45],fun h=>absurd h (by simp [z45])⟩
set_option maxHeartbeats 8000000 in
set_option maxRecDepth 100000 in
theorem right_in (p:Int) (A:Option Addr) (c:Nat) (bs:List S50) (fn:Int) (w:World) (hC:Kd.C k50 w A bs.length bs) (h:wi (bs.length:Int) 1 4096=true) (h' : wi p 0 8=true) (ht:termsR bs=true) :
  CallsIn Fence.wide 5 Tryz.prog 45 #[.agg #[.int .i64 p,.slice A bs.length c],.int .i64 fn] w fun e w'=>e=.returned (.bool (decide ((plcs bs bs.length).length≤16384) && (plcs bs bs.length).all fun q=>ropX (opOf bs q) fn))∧Below w.heap.size w w':=by
 have hu34:=Tryz.underlying24
 have hlen:bs.length≤1000000000000:=by
  simp only [wi,decide_eq_true_eq] at h
  omega
 have H:=ak_ h
 have H':=ak_ h'
 have HT:=ak_ ht
 have HC:=ak_ hC
 have HLN:=ak_ hlen
 clear h h' ht hC hlen
 refine callsIn_of_wp_marks Tryz.func45 rfl trivial ?_ rfl
 simp only [Tryz.ntmps45,List.size_toArray,List.length_cons,List.length_nil,Nat.reduceAdd,Nat.reduceSub,Array.replicate_succ,Array.replicate_zero,List.push_toArray,List.append_toArray,List.nil_append,List.cons_append]
 gi_wp2_with (refine ⟨trivial,?_⟩;first
  | (gi_at_call 75;refine (ops_in _ _ _ _ _ _).mono ?_;rintro e w4 ⟨rfl,rfl⟩)
  | (gi_at_call 72;refine (callsIn_wide.2 (containsB_any A c bs ⟨w.heap.size,0,none⟩ A bs.length c _ (Kd.C_below HC.out HB2.out) (blk_cell HF2.out 1))).mono ?_;rintro e w3 ⟨rfl,hb⟩;rw [show (bs.all fun x=>rtT x.f1.f0 x.f1.f1 x.f1.f2 x.f1.f3 ((bs.length:Nat):Int))=true from HT.out];have HB3:=ak_ (below_then HB2.out HB2.out.size hb);have HX3:=ak_ (blk_below HX2.out hb);have HF3:=ak_ (blk_below HF2.out hb);have HN3:=ak_ (blk_below HN2.out hb);clear c0 c1;have HF4:=ak_ (blk_alloc HF3.out (.cells #[.int .i64 0] 3));have c0:=bc_ HF4 0;have c1:=bc_ HF4 1;simp only [ga_,gb_,gc_] at c0 c1;clear hb)
  | (have hz:=HB1;clear hz;gi_at_call 71;refine (callsIn_wide.2 (within_any _ _ _ _)).mono ?_;rintro e w2 ⟨rfl,hb⟩;rw [H'.out];have HB2:=ak_ (below_then HB1.out HB1.out.size hb);have HX2:=ak_ (blk_below HX.out hb);have HN2:=ak_ (blk_below HN.out hb);have HF2:=ak_ (blk_below HF.out hb);clear c0 c1;have c0:=bc_ HF2 0;have c1:=bc_ HF2 1;simp only [ga_,gb_,gc_] at c0 c1;clear hb)
  | (gi_at_call 71;refine (callsIn_wide.2 (within_any _ _ _ _)).mono ?_;rintro e w1 ⟨rfl,hb⟩;rw [H.out];have HB1:=ak_ (below_then (rW_below w p A bs.length c fn) (rW_below w p A bs.length c fn).size hb);have HX:=ak_ (blk_below (rW_box w p A bs.length c fn) hb);have HN:=ak_ (blk_below (rW_fn w p A bs.length c fn) hb);have HF:=ak_ (blk_below (rW_f w p A bs.length c fn) hb);have c0:=bc_ HF 0;have c1:=bc_ HF 1;simp only [ga_,gb_,gc_] at c0 c1;clear hb))
 clear c0 c1
 obtain ⟨S,hS⟩:∃ S,w.heap.size=S:=⟨_,rfl⟩
 obtain ⟨M,hM⟩:∃ M,w3.heap.size=M:=⟨_,rfl⟩
 obtain ⟨w5,hw5⟩:∃ w5,(w3.alloc (.cells #[.int .i64 0] 3)).alloc (.cells #[.int .i64 p,.slice A bs.length c] 24)=w5:=⟨_,rfl⟩
 have hSM:S+3≤M:=by have:=blk_lt HX3.out;omega
 have bR3:Boxed w3 (S+2) 4 (.bool false):=by rw [← hS];exact HX3.out
 have bN3:Boxed w3 (S+1) 3 (.int .i64 fn):=by rw [← hS];exact HN3.out
 have hz5:w5.heap.size=M+2:=by rw [← hw5,← hM];simp [World.size_alloc]
 have bR5:Boxed w5 (S+2) 4 (.bool false):=by rw [← hw5];exact (bR3.alloc _).alloc _
 have bN5:Boxed w5 (S+1) 3 (.int .i64 fn):=by rw [← hw5];exact (bN3.alloc _).alloc _
 have bC5:Boxed w5 M 3 (.int .i64 0):=by
  rw [← hw5]
  have:=Boxed.new w3 3 (.int .i64 0)
  rw [hM] at this
  exact this.alloc _
 have bF5:w5.heap[M+1]?=some (.cells #[.int .i64 p,.slice A bs.length c] 24 (0,0)):=by
  rw [← hw5]
  have:=blk_new (w3.alloc (.cells #[.int .i64 0] 3)) (.cells #[.int .i64 p,.slice A bs.length c] 24)
  rw [World.size_alloc,hM] at this
  exact this
 have hB5:Below S w w5:=by rw [← hw5,← hS];exact below_alloc (below_alloc HB3.out _) _
 obtain ⟨bg,hbg⟩:=blks_at HC.out
 obtain ⟨oo,hoo⟩:∃ oo:Nat→Nat→Option Addr × Nat,∀ i,i<bs.length→OpsAt w (bg i).1 (rd_T50 bs (i:Int)).f0 (oo i):=choice_ bs.length (fun i (og:Nat→Option Addr × Nat)=>OpsAt w (bg i).1 (rd_T50 bs (i:Int)).f0 og) (fun i hi=>ops_at (hbg i hi).row)
 have HBG:=ak_ hbg
 have HOO:=ak_ hoo
 have hst:=ops_stops 4 (by decide) (M+1) A c bs bg oo HLN.out (KE S (M+1)) (fun h k=>h.trans k) (fun h=>KE.of_below h) w5 (fun W wr hW hk=>by
  have hkc:KC w wr:=KE.kc (below_then (show Below w.heap.size w w5 by rw [hS];exact hB5) (show w.heap.size≤w5.heap.size by have:=hB5.size;omega) hW) (by omega) hk
  refine ⟨?_,HBG.out.kc hkc,fun i hi=>(HOO.out i hi).kc hkc⟩
  have h1:=hk.cells (M+1) _ (by omega) ((hW.block (M+1) (blk_lt bF5)).trans bF5) rfl
  have h2:=blk_cell h1 1
  simpa only [List.getElem?_toArray,List.getElem?_cons_zero,List.getElem?_cons_succ] using h2)
 simp only [hS,hM,Nat.add_assoc,Nat.reduceAdd]
 rw [hw5]
 clear hw5 HX3 HN3 HF4 HF3 HB3 bR3 bN3 hbg hoo HX2 HN2 HF2 HB2 HX HN HF HB1 HT HC H H'
 refine wpIn_rangeFunc_ownGA rfl (by decide) (gf:=97) (lb:=#[.pointer (some ⟨M+1,0,none⟩)]) rfl trivial (enters_of Tryz.func97 (by kernel_rfl) rfl)
  hst (fun h k=>h.trans k) (fun W b o o' hb ho hnc _=>KE.putObj W b o' ho hnc) (Below.refl _ _) (fun _=>rfl)
  (fun pre W=>(pre.length≤16384∧∀ q∈pre,ropX (opOf bs q) fn=true)∧Boxed W (S+1) 3 (.int .i64 fn)∧Boxed W (S+2) 4 (.bool false)∧Boxed W M 3 (.int .i64 (pre.length:Int))∧Below S w W)
  (fun cd pre W=>(cd=.ret∧(16384<pre.length∨∃ q∈pre,ropX (opOf bs q) fn=false))∧Boxed W (S+2) 4 (.bool false)∧Below S w W)
  ?hI ?hIx ⟨⟨by simp,by simp⟩,bN5,bR5,bC5,hB5⟩
  (fun x b=>{ tmps:=#[.agg #[.int .i64 p,.slice A bs.length c],.int .i64 fn,.pointer (some ⟨S,0,none⟩),.pointer (some ⟨S+1,0,none⟩),.pointer (some ⟨S+2,0,none⟩),.pointer (some ⟨M,0,none⟩),.pointer (some ⟨b,0,none⟩),
     .pointer (some ⟨S,1,none⟩),.slice A bs.length c,.int .i64 bs.length,.bool true,.bool false,.bool false,.pointer (some ⟨S,0,none⟩),.int .i64 p,.bool true,.bool false,.bool false,.pointer (some ⟨S,1,none⟩),.slice A bs.length c,
     .func (.func 73) #[] #[.pointer (some ⟨S,0,none⟩)],.bool false,.agg #[.int .i64 p,.slice A bs.length c],.func (.func 97) #[] #[.pointer (some ⟨M+1,0,none⟩)],opV (opOf bs x) (oo x.1 x.2),undef,undef,undef,undef,undef,undef,undef,undef,undef,undef],defers:=[] })
  (fun x=>.cells #[.int .i64 (opOf bs x).f0,.int .i64 (opOf bs x).f1,.int .i64 (opOf bs x).f2,.int .i64 (opOf bs x).f3,.int .i64 (opOf bs x).f4,.slice (oo x.1 x.2).1 (opOf bs x).f5.length (oo x.1 x.2).2] 45)
  (fun W o=>KE.of_below (below_alloc (Below.refl _ _) _)) ?assign ?body ?done ?stop
 case hI =>
  exact OwnFrom.and (ownFrom_pure _ _) (OwnFrom.and (Own.from (boxed_own (S+1) 3 fun _=>.int .i64 fn) _) (OwnFrom.and (Own.from (boxed_own (S+2) 4 fun _=>.bool false) _) (OwnFrom.and (Own.from (boxed_own M 3 fun pre:List (Nat × Nat)=>.int .i64 (pre.length:Int)) _) (ownFrom_below (by omega) (by omega)))))
 case hIx =>
  intro cd
  exact OwnFrom.and (ownFrom_pure _ _) (OwnFrom.and (Own.from (boxed_own (S+2) 4 fun _=>.bool false) _) (ownFrom_below (by omega) (by omega)))
 case assign =>
  intro lr x W KK hKK
  unfold opsV opV
  unfold opV at hKK
  generalize opOf bs x=y at hKK
  generalize oo x.1 x.2=g at hKK
  gi_wp2
  exact hKK
 case body =>
  rintro lr pre x W b ⟨⟨hn,hall⟩,hN,hR,hM',hB⟩ hlt hbM hbx
  have c0:=blk_cell hbx 0
  have c1:=blk_cell hbx 1
  have c2:=blk_cell hbx 2
  have c3:=blk_cell hbx 3
  have c4:=blk_cell hbx 4
  have c5:=blk_cell hbx 5
  simp only [ga_,gb_,gc_] at c0 c1 c2 c3 c4 c5
  have HBX:=ak_ hbx
  obtain ⟨hcap,hrow0⟩:=op_row HOO.out x
  have HROW:=ak_ hrow0
  have HCAP:=ak_ hcap
  have HPL:Aside0 (((pre++[x]).length:Nat)=pre.length+1):=⟨by simp⟩
  have HALL:=ak_ hall
  have HNN:=ak_ hn
  have cM:=hM'.cell
  have fM:=hM'.frozen
  have cN:=hN.cell
  have cR:=hR.cell
  have fR:=hR.frozen
  have HN:=ak_ hN
  have HR:=ak_ hR
  have HM:=ak_ hM'
  have HB:=ak_ hB
  clear hN hR hM' hB hbx hcap hrow0 hall hlt
  by_cases hq:pre.length=16384
  ·have HQ:Aside0 (16384<(pre++[x]).length):=⟨by have:=HPL.out;omega⟩
   have hz:(pre.length:Int)=16384:=by omega
   rw [hz] at cM HM
   clear hz hq hn
   gi_wp2_with (refine ⟨trivial,?_⟩)
   exact ⟨((KeepsOthers.setCell _ _ _).trans (KeepsOthers.setCell _ _ _)).from _,⟨rfl,.inl HQ.out⟩,Boxed.set _ (HR.out.other (by omega) _),(HB.out.setCell (p:=⟨M,0,none⟩) (by show S≤M;omega) _).setCell (p:=⟨S+2,0,none⟩) (by show S≤S+2;omega) _⟩
  ·have hz:(pre.length:Int)<16384:=by omega
   have hz0:0≤(pre.length:Int):=by omega
   have HQ:Aside0 ((pre++[x]).length≤16384):=⟨by have:=HPL.out;omega⟩
   have HZL:Aside0 (((pre++[x]).length:Int)=(pre.length:Int)+1):=⟨by have:=HPL.out;omega⟩
   generalize (pre.length:Int)=z at hz hz0 cM HM HZL
   have HM2:=ak_ (Boxed.set (.int .i64 (z+1)) HM.out)
   have hcall:=rightOpX_any (opOf bs x) fn (oo x.1 x.2).1 (oo x.1 x.2).2 (W.setCell ⟨M,0,none⟩ (.int .i64 (z+1))) (Kd.C_below HROW.out (by rw [hS];exact HB.out.setCell (p:=⟨M,0,none⟩) (by show S≤M;omega) _)) HCAP.out
   have HCL:=ak_ (callsIn_wide (n:=2) |>.2 hcall)
   clear hcall hn hq
   obtain ⟨rb,hrb⟩:∃ rb,ropX (opOf bs x) fn=rb:=⟨_,rfl⟩
   have HRB:=ak_ hrb
   rw [hrb] at HCL
   clear hrb
   unfold opV
   generalize opOf bs x=y at c0 c1 c2 c3 c4 c5 HCL ⊢
   generalize oo x.1 x.2=g at c5 HCL ⊢
   cases rb with
   | true =>
    gi_wp2_with (refine ⟨trivial,?_⟩;gi_at_call 76;refine (CallsIn.inRound lr HCL.out).mono ?_;rintro e w6 ⟨rfl,hb⟩;have HB6:=ak_ hb;clear hb)
    have e1:Boxed w6 (S+1) 3 (.int .i64 fn):=blk_below (HN.out.other (by omega) _) HB6.out
    have e2:Boxed w6 (S+2) 4 (.bool false):=blk_below (HR.out.other (by omega) _) HB6.out
    have e3:Boxed w6 M 3 (.int .i64 (z+1)):=blk_below HM2.out HB6.out
    refine ⟨((KeepsOthers.setCell _ _ _).from _).trans (KeepsFrom.of_grownBy (row:=none) (grown_of_below HB6.out none) (fun j e=>by cases e)),(KE.setCell _ _ _ ⟨by show S≤M;omega,by show M<M+1;omega⟩).trans (KE.of_below HB6.out),⟨HQ.out,fun q hq=>?_⟩,e1,e2,?_,?_⟩
    ·rcases List.mem_append.1 hq with hq|hq
     ·exact HALL.out q hq
     ·rw [List.mem_singleton.1 hq];exact HRB.out
    ·rw [HZL.out];exact e3
    ·exact below_then (HB.out.setCell (p:=⟨M,0,none⟩) (by show S≤M;omega) _) (by have:=HB.out.size;simp only [World.size_setCell];omega) HB6.out
   | false =>
    gi_wp2_with (refine ⟨trivial,?_⟩;gi_at_call 76;refine (CallsIn.inRound lr HCL.out).mono ?_;rintro e w6 ⟨rfl,hb⟩;have HB6:=ak_ hb;clear hb;have HR6:Aside0 (Boxed w6 (S+2) 4 (.bool false)):=⟨blk_below (HR.out.other (by omega) _) HB6.out⟩;clear cR fR;have cR:=HR6.out.cell;have fR:=HR6.out.frozen)
    refine ⟨(((KeepsOthers.setCell _ _ _).from _).trans (KeepsFrom.of_grownBy (row:=none) (grown_of_below HB6.out none) (fun j e=>by cases e))).trans ((KeepsOthers.setCell _ _ _).from _),⟨rfl,.inr ⟨x,by simp,HRB.out⟩⟩,HR6.out.set _,?_⟩
    exact (below_then (HB.out.setCell (p:=⟨M,0,none⟩) (by show S≤M;omega) _) (by have:=HB.out.size;simp only [World.size_setCell];omega) HB6.out).setCell (p:=⟨S+2,0,none⟩) (by show S≤S+2;omega) _
 case done =>
  rintro Dd ys W hDd rfl ⟨⟨hn,hall⟩,hN,hR,hM',hB⟩ hK
  have cR:=hR.cell
  have fR:=hR.frozen
  have HR:=ak_ hR
  have HB:=ak_ hB
  have HK:=ak_ hK
  have HV:Aside0 ((decide ((plcs bs bs.length).length≤16384) && (plcs bs bs.length).all fun q=>ropX (opOf bs q) fn)=true):=⟨by
   rw [decide_eq_true hn,Bool.true_and]
   exact List.all_eq_true.2 hall⟩
  clear hN hR hM' hB hK hn hall
  gi_wp2
  have hR' : Boxed (W.setCell ⟨S+2,0,none⟩ (.bool true)) (S+2) 4 (.bool true):=HR.out.set _
  have hK':=(KeepsOthers.setCell W ⟨S+2,0,none⟩ (.bool true)).same Dd _ HK.out rfl
  refine leavesM_marks [Dd] _ (by simp) (fun r hr=>by rw [List.mem_singleton.1 hr];exact hK') (fun W' hW'=>?_)
  have hcR:W'.cell? ⟨S+2,0,none⟩=some (.bool true):=(hW'.kc (fun r hr=>by rw [List.mem_singleton.1 hr];exact ⟨_,hK',rfl⟩)).cell hR'.cell
  refine ⟨.bool true,by simp [results,Tryz.results45,go_sem,hcR],by rw [HV.out],?_⟩
  rw [hS]
  exact (HB.out.setCell (p:=⟨S+2,0,none⟩) (by show S≤S+2;omega) _).trans (hW'.below (fun r hr=>by rw [List.mem_singleton.1 hr];omega))
 case stop =>
  rintro Dd cd pre W hDd ⟨rest,hrest⟩ ⟨⟨rfl,hbad⟩,hR,hB⟩ hK
  have cR:=hR.cell
  have HR:=ak_ hR
  have HB:=ak_ hB
  have HK:=ak_ hK
  have HV:Aside0 ((decide ((plcs bs bs.length).length≤16384) && (plcs bs bs.length).all fun q=>ropX (opOf bs q) fn)=false):=⟨by
   rw [hrest]
   rcases hbad with hbad|⟨q,hq,hf⟩
   ·rw [decide_eq_false (by rw [List.length_append];omega),Bool.false_and]
   ·rw [show ((pre++rest).all fun q=>ropX (opOf bs q) fn)=false from List.all_eq_false.2 ⟨q,List.mem_append_left _ hq,by simp [hf]⟩,Bool.and_false]⟩
  clear hR hB hK hbad hrest
  gi_wp2
  refine leavesM_marks [Dd] _ (by simp) (fun r hr=>by rw [List.mem_singleton.1 hr];exact HK.out) (fun W' hW'=>?_)
  have hcR:W'.cell? ⟨S+2,0,none⟩=some (.bool false):=(hW'.kc (fun r hr=>by rw [List.mem_singleton.1 hr];exact ⟨_,HK.out,rfl⟩)).cell HR.out.cell
  refine ⟨.bool false,by simp [results,Tryz.results45,go_sem,hcR],by rw [HV.out],?_⟩
  rw [hS]
  exact HB.out.trans (hW'.below (fun r hr=>by rw [List.mem_singleton.1 hr];omega))
/-- Right. -/
theorem right_any (p:Int) (A:Option Addr) (c:Nat) (bs:List S50) (fn:Int) (w:World) (hC:Kd.C k50 w A bs.length bs) :
  Calls Tryz.prog 45 #[.agg #[.int .i64 p,.slice A bs.length c],.int .i64 fn] w fun e w'=>e=.returned (.bool (rightF p bs fn))∧Below w.heap.size w w':=by
 unfold rightF
 cases h1:wi (bs.length:Int) 1 4096 with
 | false=>exact right_few p A c bs fn w h1
 | true =>
  cases h2:wi p 0 8 with
  | false=>exact right_par p A c bs fn w h1 h2
  | true =>
   cases h3:termsR bs with
   | false=>exact right_term p A c bs fn w hC h1 h2 h3
   | true =>
    simp only [Bool.true_and]
    exact callsIn_wide.1 (right_in p A c bs fn w hC h1 h2 h3)
end Go.Proofs.YtnkgbnbbmcoiiaaGreat.S
namespace Go.Proofs.YtnkgbnbbmcoiiaaGreat.S
open Go.RowKit Go.Proofs.YtnkgbnbbmcoiiaaGreatW.PrintWords Go.Proofs.YtnkgbnbbmcoiiaaGreatW.PrintLast Go.Proofs.YtnkgbnbbmcoiiaaGreatW.PrintMore
set_option linter.unusedVariables false
def code_Right.f (p:Int) (bs:List S50) (fn:Int):Option Bool:=some (rightF p bs fn)
theorem code_Right.calls (p:Int) (A:Option Addr) (c:Nat) (bs:List S50) (fn:Int) (r:Bool) (w:World) (hC:Kd.C k50 w A bs.length bs) (hc:bs.length≤c) (h:code_Right.f p bs fn=some r) :
  Calls Tryz.prog 45 #[.agg #[.int .i64 p,.slice A bs.length c],.int .i64 fn] w fun e w'=>e=.returned (.bool r)∧Below w.heap.size w w':=by
 injection h with h
 subst h
 exact right_any p A c bs fn w hC
