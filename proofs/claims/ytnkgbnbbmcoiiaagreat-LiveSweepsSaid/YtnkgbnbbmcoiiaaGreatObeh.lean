import Derived.Test.YtnkgbnbbmcoiiaaGreatOkeys
import Derived.Test.YtnkgbnbbmcoiiaaGreatBk
import Derived.Test.YtnkgbnbbmcoiiaaGreatOrop
import Derived.Test.YtnkgbnbbmcoiiaaGreatS4
namespace Go.Proofs.YtnkgbnbbmcoiiaaGreat.S
open Go.RowKit Go.IM Go.Proofs.YtnkgbnbbmcoiiaaGreatW.PrintWords Go.Proofs.YtnkgbnbbmcoiiaaGreatW.PrintLast Go.Proofs.YtnkgbnbbmcoiiaaGreatW.PrintMore
set_option linter.unusedVariables false
set_option linter.unusedSimpArgs false
/-! ### Sets of registers,as maps -/
/-- A map's keys are those of which P holds,each once;its values are true or false. -/
structure KS (es:List (Int × Value)) (P:Int→Prop):Prop where mk ::
 nodup:(keysOf es).Nodup
 mem:∀ r,r∈keysOf es↔P r
 bool:∀ p∈es,∃ c,p.2=Value.bool c
theorem KS.nil:KS [] (fun _=>False):=⟨List.nodup_nil,fun r=>by simp [keysOf],fun p h=>by cases h⟩
theorem KS.imp {es:List (Int × Value)} {P Q:Int→Prop} (h:KS es P) (hq:∀ r,P r↔Q r):KS es Q:=⟨h.nodup,fun r=>(h.mem r).trans (hq r),h.bool⟩
theorem keys_st (es:List (Int × Value)) (k:Int) (v:Value) (r:Int):r∈keysOf (st es k v)↔r=k∨r∈keysOf es:=by
 induction es with
 | nil=>simp [st,keysOf]
 | cons p es ih =>
  unfold st
  split
  ·rename_i h
   simp only [keysOf,List.map_cons,List.mem_cons]
   rw [h]
   constructor
   ·rintro (h|h);exact .inl h;exact .inr (.inr h)
   ·rintro (h|h|h);exact .inl h;exact .inl h;exact .inr h
  ·simp only [keysOf,List.map_cons,List.mem_cons] at ih ⊢
   rw [ih]
   constructor
   ·rintro (h|h|h);exact .inr (.inl h);exact .inl h;exact .inr (.inr h)
   ·rintro (h|h|h);exact .inr (.inl h);exact .inl h;exact .inr (.inr h)
theorem nodup_st {es:List (Int × Value)} (h:(keysOf es).Nodup) (k:Int) (v:Value):(keysOf (st es k v)).Nodup:=by
 induction es with
 | nil=>simp [st,keysOf]
 | cons p es ih =>
  simp only [keysOf,List.map_cons,List.nodup_cons] at h
  unfold st
  split
  ·rename_i e
   simp only [keysOf,List.map_cons,List.nodup_cons]
   rw [e]
   exact h
  ·rename_i e
   simp only [keysOf,List.map_cons,List.nodup_cons]
   refine ⟨fun hm=>?_,ih h.2⟩
   have:=(keys_st es k v p.1).1 hm
   rcases this with h1|h1
   ·exact e h1.symm
   ·exact h.1 h1
theorem bool_st {es:List (Int × Value)} (h:∀ p∈es,∃ c,p.2=Value.bool c) (k:Int) (b:Bool):∀ p∈st es k (.bool b),∃ c,p.2=Value.bool c:=by
 induction es with
 | nil=>intro p hp;simp [st] at hp;exact ⟨b,by rw [hp]⟩
 | cons q es ih =>
  intro p hp
  unfold st at hp
  split at hp
  ·rcases List.mem_cons.1 hp with rfl|hp
   ·exact ⟨b,rfl⟩
   ·exact h p (List.mem_cons_of_mem _ hp)
  ·rcases List.mem_cons.1 hp with rfl|hp
   ·exact h _ List.mem_cons_self
   ·exact ih (fun p hp=>h p (List.mem_cons_of_mem _ hp)) p hp
theorem KS.st {es:List (Int × Value)} {P:Int→Prop} (h:KS es P) (k:Int) (b:Bool):KS (IM.st es k (.bool b)) (fun r=>r=k∨P r) :=
 ⟨nodup_st h.nodup k _,fun r=>(keys_st es k _ r).trans (or_congr Iff.rfl (h.mem r)),bool_st h.bool k b⟩
theorem keys_dl {es:List (Int × Value)} (hn:(keysOf es).Nodup) (k r:Int):r∈keysOf (dl es k)↔r≠k∧r∈keysOf es:=by
 induction es with
 | nil=>simp [dl,keysOf]
 | cons p es ih =>
  simp only [keysOf,List.map_cons,List.nodup_cons] at hn
  unfold dl
  split
  ·rename_i e
   simp only [keysOf,List.map_cons,List.mem_cons]
   constructor
   ·intro hm
    refine ⟨fun e2=>?_,.inr hm⟩
    subst e2;rw [e] at hm
    exact hn.1 hm
   ·rintro ⟨h1,h2|h2⟩
    ·exact absurd (h2.trans e.symm) h1
    ·exact h2
  ·rename_i e
   simp only [keysOf,List.map_cons,List.mem_cons] at ih ⊢
   rw [ih hn.2]
   constructor
   ·rintro (h|⟨h1,h2⟩)
    ·exact ⟨fun e2=>e (e2▸h),.inl h⟩
    ·exact ⟨h1,.inr h2⟩
   ·rintro ⟨h1,h2|h2⟩
    ·exact .inl h2
    ·exact .inr ⟨h1,h2⟩
theorem dl_sub (es:List (Int × Value)) (k:Int):(dl es k).Sublist es:=by
 induction es with
 | nil=>exact List.Sublist.refl _
 | cons p es ih =>
  unfold dl
  split
  ·exact List.sublist_cons_self _ _
  ·exact ih.cons_cons _
theorem KS.dl {es:List (Int × Value)} {P:Int→Prop} (h:KS es P) (k:Int):KS (IM.dl es k) (fun r=>r≠k∧P r) :=
 ⟨h.nodup.sublist ((dl_sub es k).map _),fun r=>(keys_dl h.nodup k r).trans (and_congr Iff.rfl (h.mem r)),fun p hp=>h.bool p ((dl_sub es k).subset hp)⟩
/-- The blocks behind a Term. -/
def succT (t:S48):List Int:=if t.f0=2 then [t.f2,t.f3] else if t.f0=1 then [t.f2] else []
def succL (bs:List S50):List (List Int):=bs.map fun x=>succT x.f1
theorem info31s:(Tryz.prog.info? 31).map (fun i=>i.size)=some 1:=by kernel_rfl
/-- A row that is filled. -/
def filled (f:Nat→List Int) (n j:Nat):List (List Int):=(List.range j).map f++List.replicate (n - j) []
theorem filled_zero (f:Nat→List Int) (n:Nat):filled f n 0=List.replicate n []:=by simp [filled]
theorem filled_full (f:Nat→List Int) (n:Nat):filled f n n=(List.range n).map f:=by simp [filled]
theorem filled_length (f:Nat→List Int) {n j:Nat} (h:j≤n):(filled f n j).length=n:=by simp [filled];omega
theorem filled_set (f:Nat→List Int) {n j:Nat} (h:j<n):(filled f n j).set j (f j)=filled f n (j+1):=by
 unfold filled
 obtain ⟨m,hm⟩:∃ m,n - j=m+1:=⟨n - j - 1,by omega⟩
 have hm' : n - (j+1)=m:=by omega
 rw [hm,hm',List.range_succ,List.map_append,List.set_append_right _ _ (by simp)]
 simp [List.replicate_succ]
theorem filled_next (f:Nat→List Int) {n j:Nat} (h:j<n) (e:f j=[]):filled f n (j+1)=filled f n j:=by
 rw [← filled_set f h,e]
 unfold filled
 obtain ⟨m,hm⟩:∃ m,n - j=m+1:=⟨n - j - 1,by omega⟩
 rw [hm,List.set_append_right _ _ (by simp)]
 simp [List.replicate_succ]
theorem succL_filled (bs:List S50):filled (fun j:Nat=>succT (rd_T50 bs (j:Int)).f1) bs.length bs.length=succL bs:=by
 rw [filled_full]
 unfold succL
 apply List.ext_getElem (by simp)
 intro i h1 h2
 simp at h1 h2
 simp [rd43' h1]
set_option maxHeartbeats 8000000 in
set_option maxRecDepth 100000 in
theorem succ_any (p:Int) (A:Option Addr) (c:Nat) (bs:List S50) (w:World) (hC:Kd.C k50 w A bs.length bs) (hlen:bs.length≤4096) :
  Calls Tryz.prog 52 #[.agg #[.int .i64 p,.slice A bs.length c]] w fun e w'=>∃ v,e=.returned v∧Kd.R (Kd.slice 3 (Kd.int .i64)) 31 w' w.heap.size (fun _=>True) v (succL bs)∧Below w.heap.size w w':=by
 have hu34:=Tryz.underlying24
 have hu41:=Tryz.underlying48
 have hu43:=Tryz.underlying50
 have HC:=ak_ hC
 have HLN:=ak_ hlen
 have hsf:=succL_filled bs
 obtain ⟨f,hf⟩:∃ f:Nat→List Int,f=fun j:Nat=>succT (rd_T50 bs (j:Int)).f1:=⟨_,rfl⟩
 rw [← hf] at hsf
 have HSF:=ak_ hsf
 have HFF:=ak_ hf
 clear hC hsf hf hlen
 have HB0:=ak_ (below_alloc (Below.refl w.heap.size w) (.cells #[.int .i64 p,.slice A bs.length c] 24))
 go_enter Tryz.func52,Tryz.ntmps52
 go_wp2_with ((with_reducible refine gate_dst (N:=9) rfl ?_);refine Kd.R_make (Kd.slice 3 (Kd.int .i64)) w.heap.size 31 rfl (N:=9) rfl 35 _ _ rfl (bs.length:Int) rfl rfl Tryz.underlying35 (.slice none 0 0) 24 info31 rfl (by decide) (by decide) ([]:List Int) (ok:=fun _=>True) (okp:=fun _=>True) ⟨_,rfl,Kd.R_nil _ _ _ _ _⟩ (fun _ hk=>hk) trivial (by omega) (by have:=HLN.out;omega) HB0.out HB0.out.size ?_;intro v1 w1 hr1 hb1 hg1 hn1;have HR1:=ak_ hr1;have HB1:=ak_ hb1;have hf1:=blk_grown (blk_new w (.cells #[.int .i64 p,.slice A bs.length c] 24)) hg1 (by simp);have c1:=blk_cell hf1 1;simp only [ga_,gb_,gc_] at c1;clear hr1 hb1 hg1 hn1 hf1)
 clear c1
 simp only [Int.toNat_natCast] at HR1
 have hn0:0<bs.length∨bs.length=0:=by omega
 go_loopw [13] (fun i wr=>∃ j:Nat,j≤bs.length∧i=.int .i64 (j:Int)∧Aside0 (Kd.R (Kd.slice 3 (Kd.int .i64)) 31 wr w.heap.size (fun _=>True) v1 (filled f bs.length j))∧Aside0 (Below w.heap.size w wr)) (fun i _=>bs.length - (intOf i).toNat)
 case atStart=>exact ⟨0,Nat.zero_le _,rfl,⟨by rw [filled_zero];exact HR1.out⟩,HB1⟩
 case round =>
  obtain ⟨j,hj,rfl,HO,HB⟩:=hrel
  have hz:=HLN.out
  by_cases hlt:j<bs.length
  ·have b1:decide ((j:Int)<(bs.length:Int))=true:=decide_eq_true (by omega)
   obtain ⟨ad,A0,c0,eA,k0,k1,k2,k3,k4,_,_⟩:=at_T50 (Kd.C_below HC.out HB.out) (j:Int) (by omega) (by omega)
   simp only [Int.toNat_natCast] at k0 k1 k2 k3 k4
   have HFJ:Aside0 (f j=succT (rd_T50 bs (j:Int)).f1):=⟨by rw [HFF.out]⟩
   generalize rd_T50 bs (j:Int)=x at k0 k1 k2 k3 k4 HFJ
   generalize x.f0.length=L at k0
   generalize x.f1=t at k1 k2 k3 k4 HFJ
   subst eA
   obtain ⟨g,cap,hv,hg0,hglt,_⟩:=Kd.R_form HO.out (by rw [filled_length f hj];omega)
   rw [filled_length f hj] at hv
   subst hv
   obtain ⟨t0,t1,t2,t3⟩:=t
   unfold succT at HFJ
   simp only at k1 k2 k3 k4 HFJ
   by_cases h2:t0=2
   ·rw [if_pos h2] at HFJ
    have q2:(t0 == 2)=true:=beq_iff_eq.2 h2
    clear h2
    have HBX:=ak_ (below_alloc HB.out (.cells #[.slice A0 L c0,.int .i64 t0,.int .i64 t1,.int .i64 t2,.int .i64 t3] 50))
    go_wp2_with (first|((with_reducible refine gate_dst (N:=31) rfl ?_);refine Kd.R_lit (Kd.int .i64) _ 3 rfl (N:=31) rfl (xs:=([t2,t3]:List Int)) (inner:=[.int .i64 t2,.int .i64 t3]) (ok:=fun _=>True) (okp:=fun _=>True) ?hr ?hp (fun _ hk=>hk) trivial (Below.refl _ _) (Nat.le_refl _) (by simp) ?_;(case hr=>first|(go_simp;done)|(go_simp;rfl));(case hp=>exact (Reps.one (show Kd.M (Kd.int .i64) _ _ _ t2 [.int .i64 t2] from rfl) (Reps.one (show Kd.M (Kd.int .i64) _ _ _ t3 [.int .i64 t3] from rfl) (Reps.none _ _))));intro v2 w2 hr2 hb2 hg2 hn2;have HL2:=ak_ (Kd.R_mono (Kd.R_bound hr2) (ok':=fun k=>k≠g) (fun k hk e=>by have:=hk.2.1;simp only [World.size_alloc] at this;omega));have HR2:=ak_ (Kd.R_grown (Kd.R_alloc HO.out _) hg2 (fun _ _=>by simp));have HB2:=ak_ (below_then HBX.out HBX.out.size hb2);have HS2:=ak_ (below_size HBX.out);clear hr2 hb2 hg2 hn2)|(obtain ⟨ce,hcl,_,hcc,_⟩:=Kd.R_elem HR2.out ([]:List Int) (j:Int) (by omega) (by omega);refine Kd.R_store (Kd.slice 3 (Kd.int .i64)) w.heap.size rfl rfl 31 _ _ rfl 31 (g:=g) (n:=bs.length) (cap:=cap) (j:Int) 0 (filled f bs.length j) ([t2,t3]) v2 [v2] ce (fun _=>True) (fun k=>k≠g) rfl (by simp [Kd.slice]) rfl (by obtain ⟨Av,cv,rfl⟩:=Kd.R_slice HL2.out;rfl) info31s (by obtain ⟨Av,cv,rfl⟩:=Kd.R_slice HL2.out;intro q hq;rw [List.mem_singleton.1 hq];rfl) HR2.out (by omega) (by omega) hcl hcc (by simp [Kd.slice]) ?hM (fun k hk=>⟨trivial,hk⟩) HB2.out ?_;(case hM=>(rw [show ce.take 0++[v2]++ce.drop (0+[v2].length)=[v2] by rw [List.drop_eq_nil_of_le (by rw [hcl];simp [Kd.slice])];simp];exact ⟨v2,rfl,Kd.R_lower HL2.out (by have:=HS2.out;simp only [World.size_alloc] at this ⊢;omega)⟩));intro w3 hr3 hb3 hg3;have HR3:=ak_ hr3;have HB3:=ak_ hb3;clear hr3 hb3 hg3 hcl hcc))
    go_roundw
    case rel=>exact ⟨j+1,by omega,by go_num,⟨by rw [← filled_set f hlt,HFJ.out];have h:=HR3.out;rwa [Int.toNat_natCast] at h⟩,HB3⟩
    case measure=>simp [intOf];omega
   ·rw [if_neg h2] at HFJ
    have q2:(t0 == 2)=false:=beq_eq_false_iff_ne.2 h2
    clear h2
    by_cases h1:t0=1
    ·rw [if_pos h1] at HFJ
     have q1:(t0 == 1)=true:=beq_iff_eq.2 h1
     clear h1
     have HBX:=ak_ (below_alloc HB.out (.cells #[.slice A0 L c0,.int .i64 t0,.int .i64 t1,.int .i64 t2,.int .i64 t3] 50))
     go_wp2_with (first|((with_reducible refine gate_dst (N:=40) rfl ?_);refine Kd.R_lit (Kd.int .i64) _ 3 rfl (N:=40) rfl (xs:=([t2]:List Int)) (inner:=[.int .i64 t2]) (ok:=fun _=>True) (okp:=fun _=>True) ?hr ?hp (fun _ hk=>hk) trivial (Below.refl _ _) (Nat.le_refl _) (by simp) ?_;(case hr=>first|(go_simp;done)|(go_simp;rfl));(case hp=>exact (Reps.one (show Kd.M (Kd.int .i64) _ _ _ t2 [.int .i64 t2] from rfl) (Reps.none _ _)));intro v2 w2 hr2 hb2 hg2 hn2;have HL2:=ak_ (Kd.R_mono (Kd.R_bound hr2) (ok':=fun k=>k≠g) (fun k hk e=>by have:=hk.2.1;simp only [World.size_alloc] at this;omega));have HR2:=ak_ (Kd.R_grown (Kd.R_alloc HO.out _) hg2 (fun _ _=>by simp));have HB2:=ak_ (below_then HBX.out HBX.out.size hb2);have HS2:=ak_ (below_size HBX.out);clear hr2 hb2 hg2 hn2)|(obtain ⟨ce,hcl,_,hcc,_⟩:=Kd.R_elem HR2.out ([]:List Int) (j:Int) (by omega) (by omega);refine Kd.R_store (Kd.slice 3 (Kd.int .i64)) w.heap.size rfl rfl 31 _ _ rfl 31 (g:=g) (n:=bs.length) (cap:=cap) (j:Int) 0 (filled f bs.length j) ([t2]) v2 [v2] ce (fun _=>True) (fun k=>k≠g) rfl (by simp [Kd.slice]) rfl (by obtain ⟨Av,cv,rfl⟩:=Kd.R_slice HL2.out;rfl) info31s (by obtain ⟨Av,cv,rfl⟩:=Kd.R_slice HL2.out;intro q hq;rw [List.mem_singleton.1 hq];rfl) HR2.out (by omega) (by omega) hcl hcc (by simp [Kd.slice]) ?hM (fun k hk=>⟨trivial,hk⟩) HB2.out ?_;(case hM=>(rw [show ce.take 0++[v2]++ce.drop (0+[v2].length)=[v2] by rw [List.drop_eq_nil_of_le (by rw [hcl];simp [Kd.slice])];simp];exact ⟨v2,rfl,Kd.R_lower HL2.out (by have:=HS2.out;simp only [World.size_alloc] at this ⊢;omega)⟩));intro w3 hr3 hb3 hg3;have HR3:=ak_ hr3;have HB3:=ak_ hb3;clear hr3 hb3 hg3 hcl hcc))
     go_roundw
     case rel=>exact ⟨j+1,by omega,by go_num,⟨by rw [← filled_set f hlt,HFJ.out];have h:=HR3.out;rwa [Int.toNat_natCast] at h⟩,HB3⟩
     case measure=>simp [intOf];omega
    ·rw [if_neg h1] at HFJ
     have q1:(t0 == 1)=false:=beq_eq_false_iff_ne.2 h1
     clear h1
     have HBX:=ak_ (below_alloc HB.out (.cells #[.slice A0 L c0,.int .i64 t0,.int .i64 t1,.int .i64 t2,.int .i64 t3] 50))
     go_wp2_with fail
     go_roundw
     case rel=>exact ⟨j+1,by omega,by go_num,⟨by rw [filled_next f hlt HFJ.out];exact Kd.R_alloc HO.out _⟩,HBX⟩
     case measure=>simp [intOf];omega
  ·have b1:decide ((j:Int)<(bs.length:Int))=false:=decide_eq_false (by omega)
   obtain rfl:j=bs.length:=by omega
   go_wp2_with fail
   go_ret
   exact ⟨v1,rfl,by rw [← HSF.out];exact HO.out,HB.out⟩
theorem or3 {a b c:Prop} : a∨(b∨c)↔(b∨a)∨c:=by rw [← or_assoc,or_comm (a:=a)]
theorem grown_refl (w:World) (row:Option Nat):w.grownBy w row:=⟨rfl,rfl,rfl,Nat.le_refl _,fun _ _ _=>rfl⟩
theorem grown_then {w w1 w2:World} {row row' : Option Nat} (h:w.grownBy w1 row) (k:w1.grownBy w2 row') (hr:row'=row∨row'=none∨∃ r,row'=some r∧w.heap.size≤r):w.grownBy w2 row :=
 ⟨k.os.trans h.os,k.tape.trans h.tape,k.output.trans h.output,Nat.le_trans h.size k.size,fun i hi hne=>by
  refine (k.block i (Nat.lt_of_lt_of_le hi h.size) ?_).trans (h.block i hi hne)
  rcases hr with rfl|rfl|⟨r,rfl,hr⟩
  ·exact hne
  ·simp
  ·intro e;cases e;omega⟩
theorem grown_of_bel {w w1:World} (h:Below w.heap.size w w1) (row:Option Nat):w.grownBy w1 row:=⟨h.os,h.tape,h.output,h.size,fun i hi _=>h.block i hi⟩
/-- A step that wrote block b alone is below what lies at b or under. -/
theorem below_of_grown {w0 w w1:World} {b:Nat} (h:Below w0.heap.size w0 w) (hg:w.grownBy w1 (some b)) (hb:w0.heap.size≤b):Below w0.heap.size w0 w1 :=
 pw_below_grown h (some b) h.size hg (fun k e=>by cases e;exact hb)
theorem rd_mem {l:List Int} {j:Nat} (h:j<l.length):rd l (j:Int)=l[j]:=by
 unfold rd
 simp [List.getD_eq_getElem?_getD,h]
theorem take_rd {l:List Int} {j:Nat} (h:j<l.length):l.take (j+1)=l.take j++[rd l (j:Int)]:=by
 rw [rd_mem h,List.take_succ_eq_append_getElem h]
set_option maxHeartbeats 4000000 in
set_option maxRecDepth 100000 in
/-- put: some more registers in a set. -/
theorem put_any (b:Nat) (es:List (Int × Value)) (P:Int→Prop) (A:Option Addr) (c:Nat) (l:List Int) (w:World) (hat:At w b es) (hks:KS es P) (hC:Kd.C (Kd.int .i64) w A l.length l) :
  Calls Tryz.prog 86 #[.map (some b),.slice A l.length c] w fun e w'=>e=.returned (.tuple #[])∧∃ es',At w' b es'∧KS es' (fun r=>r∈l∨P r)∧w.grownBy w' (some b):=by
 have hn:l.length≤9223372036854775807:=hC.2.1
 have HC:=ak_ hC
 have hmu:=hat
 have HAT:=ak_ hat
 have HKS:=ak_ hks
 clear hat hks hC hmu
 go_enter Tryz.func86,Tryz.ntmps86
 go_wp2_with fail
 go_loopw [8] (fun i wr=>∃ (j:Nat) (es' : List (Int × Value)),j≤l.length∧i=.int .i64 (j:Int)∧Aside0 (At wr b es')∧Aside0 (KS es' (fun r=>r∈l.take j∨P r))∧Aside0 (w.grownBy wr (some b))∧Aside0 (KC w wr)) (fun i _=>l.length - (intOf i).toNat)
 case atStart=>exact ⟨0,es,Nat.zero_le _,rfl,HAT,⟨HKS.out.imp (fun r=>by simp)⟩,⟨grown_refl _ _⟩,⟨KC.refl _⟩⟩
 case round =>
  obtain ⟨j,es',hj,rfl,HA,HK,HG,HKC⟩:=hrel
  by_cases hlt:j<l.length
  ·have b1:decide ((j:Int)<(l.length:Int))=true:=decide_eq_true (by omega)
   obtain ⟨ad,eA,k0⟩:=Kd.at_int (Cint_kc HC.out HKC.out) (j:Int) (by omega) (by omega)
   simp only [Int.toNat_natCast] at k0
   have HT:=ak_ (take_rd hlt)
   generalize rd l (j:Int)=z at k0 HT
   subst eA
   go_wp2_with (at_mapUpdate;refine IM.wpl_update _ rfl _ _ _ 73 rfl 3 4 Tryz.underlying73 Tryz.underlying3 b _ rfl HA.out z rfl (.bool true) rfl ?_;intro w1 hm1 hg1 hs1;have HM1:=ak_ hm1;have HG1:=ak_ hg1;clear hs1 hm1 hg1)
   go_roundw
   case rel=>exact ⟨j+1,_,by omega,by go_num,HM1,⟨(HK.out.st z true).imp (fun r=>by rw [HT.out,List.mem_append,List.mem_singleton];exact or3)⟩,⟨grown_then HG.out HG1.out (.inl rfl)⟩,⟨HKC.out.trans (KC.of_grown HG1.out HA.out.no_cells)⟩⟩
   case measure=>simp [intOf];omega
  ·have b1:decide ((j:Int)<(l.length:Int))=false:=decide_eq_false (by omega)
   obtain rfl:j=l.length:=by omega
   have hk:=HK.out
   rw [List.take_length] at hk
   have HK2:=ak_ hk
   clear hk
   go_wp2_with fail
   go_end0
   exact ⟨rfl,_,HA.out,HK2.out,HG.out⟩
/-- A fact that simp does not look into. -/
structure Hid0 (p:Prop):Prop where mk::(out:p)
theorem wpl_next_any {P:Program} (w:World) {ops:Array Oper} {rest:List Oper} {o:Oper} {a:Act} {Q:Exit→Act→World→Prop} (hg:o.guard=none) (it:Operand) (hop:o.op=Op.next it false) (b r:Nat) (es left:List (Int × Value))
  (hit:a.eval it=.pointer (some ⟨r,0,none⟩)) (h:IM.Rng w b r es left) (hDone:Hid0 (left=[])→wpList P ops Q rest (a.put o.dst (.tuple #[.bool false])) w)
  (hMore:∀ (j:Nat) (k:Int) (c:Value) (w' : World),Hid0 (left[j]?=some (k,c))→IM.Rng w' b r es (left.eraseIdx j)→Hid0 (w'.rangeLeft b r<w.rangeLeft b r)→w.grownBy w' (some r) →
   (Instr.entry (.pointer (some ⟨r,0,none⟩))).run P w'=.ok (.tuple #[.int .i64 k,c]) w'→wpList P ops Q rest (a.put o.dst (.tuple #[.bool true,.int .i64 k,c])) w'):wpList P ops Q (o::rest) a w:=by
 refine IM.wpl_next (β:=Value) w hg it hop b r es left hit h id (fun p _=>⟨p.2,rfl⟩) (fun h0=>hDone ⟨h0⟩) ?_
 intro j k c w1 hj hr1 hlt hg1 hs1 hen
 exact hMore j k c w1 ⟨hj⟩ hr1 ⟨by rw [hr1.left_eq,h.left_eq];exact hlt⟩ hg1 hen
theorem KS.stv {es:List (Int × Value)} {P:Int→Prop} (h:KS es P) (k:Int) {v:Value} (hv:∃ c,v=Value.bool c):KS (IM.st es k v) (fun r=>r=k∨P r):=by
 obtain ⟨c,rfl⟩:=hv
 exact h.st k c
set_option maxHeartbeats 4000000 in
set_option maxRecDepth 100000 in
/-- maps.Copy: a set into another. -/
theorem copy_any (d s:Nat) (esd ess:List (Int × Value)) (P Q:Int→Prop) (w:World) (hne:d≠s) (hd:At w d esd) (hs:At w s ess) (hkd:KS esd P) (hks:KS ess Q) :
  Calls Tryz.prog 85 #[.map (some d),.map (some s)] w fun e w'=>e=.returned (.tuple #[])∧∃ es',At w' d es'∧KS es' (fun r=>Q r∨P r)∧w.grownBy w' (some d):=by
 have HD:=ak_ hd
 have HS:=ak_ hs
 have HKD:=ak_ hkd
 have HKS:=ak_ hks
 have HNE:=ak_ hne
 clear hd hs hkd hks hne
 go_enter Tryz.func85,Tryz.ntmps85
 go_wp2_with (at_range;refine IM.wpl_range _ rfl _ 73 rfl 3 4 Tryz.underlying73 s ess rfl HS.out ?_;intro w0 hrg0 hg0 hs0;have HR0:=ak_ hrg0;have HG0:=ak_ hg0;clear hs0 hrg0 hg0)
 go_frame
 have hdl:=HD.out.lt
 go_loopw [4] (fun _ wr=>∃ (left:List (Int × Value)) (ss:List Int) (es' : List (Int × Value)),Aside0 (IM.Rng wr s w.heap.size ess left)∧Aside0 ((ss++keysOf left).Perm (keysOf ess))∧Aside0 (∀ p∈left,∃ c,p.2=Value.bool c)∧Aside0 (At wr d es')∧Aside0 (KS es' (fun r=>r∈ss∨P r))∧Aside0 (w.grownBy wr (some d)))
  (fun _ wr=>wr.rangeLeft s w.heap.size)
 case atStart=>exact ⟨ess,[],esd,HR0,⟨List.Perm.refl _⟩,⟨HKS.out.bool⟩,⟨HD.out.kept HG0.out (by simp)⟩,⟨HKD.out.imp (fun r=>by simp)⟩,⟨grown_then (grown_refl w _) HG0.out (.inr (.inl rfl))⟩⟩
 case round =>
  obtain ⟨left,ss,es',HR,HP,HBL,HA,HK,HG⟩:=hrel
  clear HR0 HG0
  go_wp2_with (at_next;refine wpl_next_any _ rfl _ rfl s w.heap.size ess left rfl HR.out ?_ ?_)
  ·intro h0
   have HP2:Aside0 (ss.Perm (keysOf ess)):=⟨by have:=HP.out;rw [h0.out] at this;rwa [keysOf,List.map_nil,List.append_nil] at this⟩
   clear h0
   go_wp2_with fail
   go_end0
   exact ⟨rfl,es',HA.out,HK.out.imp (fun r=>by rw [HP2.out.mem_iff,HKS.out.mem]),HG.out⟩
  ·intro j k c w2 hj hrg2 hlt hg2 hen
   have HA2:=ak_ (HA.out.kept hg2 (by
    intro e
    injection e with e
    omega))
   have HG2:=ak_ (grown_then HG.out hg2 (.inr (.inr ⟨_,rfl,Nat.le_refl _⟩)))
   have HRG2:=ak_ hrg2
   have HLT:=ak_ hlt.out
   have HJ:=ak_ hj.out
   clear hrg2 hg2 hlt hj
   go_wp2_with (at_mapUpdate;refine IM.wpl_update _ rfl _ _ _ 73 rfl 3 4 Tryz.underlying73 Tryz.underlying3 d _ rfl HA2.out k rfl c rfl ?_;intro w3 hm3 hg3 hs3;have HM3:=ak_ hm3;have HG3:=ak_ hg3;clear hs3 hm3 hg3)
   have hr3:IM.Rng w3 s w.heap.size ess (left.eraseIdx j):=HRG2.out.kept HG3.out (fun e=>HNE.out (by injection e with e;exact e.symm)) (fun e=>by injection e with e;omega)
   go_frame
   go_roundw
   case rel=>exact ⟨left.eraseIdx j,ss++[k],_,⟨hr3⟩,⟨by
    refine List.Perm.trans ?_ HP.out
    rw [List.append_assoc]
    exact List.Perm.append_left ss (IM.perm_step HJ.out)⟩,⟨fun p hp=>HBL.out p ((List.eraseIdx_sublist _ _).subset hp)⟩,HM3,⟨(HK.out.stv k (HBL.out _ (List.mem_of_getElem? HJ.out))).imp (fun r=>by rw [List.mem_append,List.mem_singleton];exact or3)⟩,⟨grown_then HG2.out HG3.out (.inl rfl)⟩⟩
   case measure =>
    rw [hr3.left_eq]
    have:=HLT.out
    rw [HRG2.out.left_eq] at this
    exact this
/-- TermUses in closed form. -/
def tuseT (t:S48):List Int:=if t.f0=2∨t.f0=3 then [t.f1] else []
theorem termUses_any (t:S48) (w:World) :
  Calls Tryz.prog 40 #[.agg #[.int .i64 t.f0,.int .i64 t.f1,.int .i64 t.f2,.int .i64 t.f3]] w fun e w'=>∃ A c,e=.returned (.slice A (tuseT t).length c)∧Kd.C (Kd.int .i64) w' A (tuseT t).length (tuseT t)∧Below w.heap.size w w':=by
 refine (code_TermUses.calls t.f0 t.f1 t.f2 t.f3 (tuseT t) w (by
  unfold code_TermUses.f tuseT
  by_cases h2:t.f0=2
  ·simp [h2]
  ·by_cases h3:t.f0=3<;>simp [h2,h3])).mono ?_
 rintro e w' ⟨v,rfl,hr,hb⟩
 obtain ⟨A,c,rfl,_,hc⟩:=Kd.R_reads hr
 exact ⟨A,c,rfl,hc,hb⟩
/-- Uses and Sets in closed form. -/
def useX (x:S45):List Int:=(if (shp x.f0).2.1=true then [x.f2] else [])++(if (shp x.f0).2.2.1=true then [x.f3] else [])++(if x.f0=7 then x.f5 else [])
def setX (x:S45):Int:=if (shp x.f0).1=true then x.f1 else 0
theorem shp_is (k:Int) (h:(shp k).2.2.2.2=false):(shp k).2.1=false∧(shp k).2.2.1=false:=by
 unfold shp at h ⊢
 repeat' split at h
 all_goals first|(simp at h;done)|(rename_i h1 h2 h3 h4 h5 h6 h7;simp [h1,h2,h3,h4,h5,h6,h7])
theorem uses_eq (x:S45) (h:x.f5.length≤1000000000000):code_Uses.f 10 x.f0 x.f1 x.f2 x.f3 x.f4 x.f5=some (useX x):=by
 unfold code_Uses.f useX
 rw [shapeOf_eq]
 have hs:=shp_is x.f0
 generalize shp x.f0=s at hs ⊢
 obtain ⟨s1,s2,s3,s4,s5⟩:=s
 simp only [Option.bind_some]
 have q1:x.f5.length<17592186044416:=by omega
 have q2:1+x.f5.length<17592186044416:=by omega
 have q3:2+x.f5.length<17592186044416:=by omega
 by_cases h7:x.f0=7<;>cases s5<;>cases s2<;>cases s3<;>simp [code_Uses.j0,code_Uses.j1,code_Uses.j2,h7,q1,q2,q3] at hs ⊢<;>omega
theorem sets_eq (x:S45):code_Sets.f 10 x.f0 x.f1 x.f2 x.f3 x.f4 x.f5=some (setX x):=by
 unfold code_Sets.f setX
 rw [shapeOf_eq]
 simp only [Option.bind_some]
 split<;>rfl
/-! ### spans.wide: a map from registers to spans -/
def spV (r a b:Int):Value:=.agg #[.int .i64 r,.int .i64 a,.int .i64 b]
/-- The span of the places p at which P k p. -/
structure SpanOf (P:Int→Int→Prop) (k a b:Int):Prop where mk ::
 lo:P k a
 hi:P k b
 all:∀ p,P k p→a≤p∧p≤b
/-- The map's entries are the spans of the points P. -/
structure WS (es:List (Int × Value)) (P:Int→Int→Prop):Prop where mk ::
 nodup:(keysOf es).Nodup
 no:∀ k,lk es k=none→∀ p,¬ P k p
 yes:∀ k v,lk es k=some v→∃ a b,v=spV k a b∧SpanOf P k a b
theorem SpanOf.uniq {P:Int→Int→Prop} {k a b a' b' : Int} (h:SpanOf P k a b) (h' : SpanOf P k a' b'):a=a'∧b=b':=by
 have h1:=h.all _ h'.lo;have h2:=h.all _ h'.hi;have h3:=h'.all _ h.lo;have h4:=h'.all _ h.hi
 omega
theorem WS.nil:WS [] (fun _ _=>False):=⟨List.nodup_nil,fun k _ p h=>h,fun k v h=>by simp [lk] at h⟩
theorem WS.imp {es:List (Int × Value)} {P Q:Int→Int→Prop} (h:WS es P) (hq:∀ r p,P r p↔Q r p):WS es Q :=
 ⟨h.nodup,fun k hk p hp=>h.no k hk p ((hq k p).2 hp),fun k v hv=>by
  obtain ⟨a,b,e,h1⟩:=h.yes k v hv
  exact ⟨a,b,e,(hq _ _).1 h1.lo,(hq _ _).1 h1.hi,fun p hp=>h1.all p ((hq _ _).2 hp)⟩⟩
theorem lk_st (es:List (Int × Value)) (k:Int) (v:Value) (r:Int):lk (st es k v) r=if r=k then some v else lk es r:=by
 induction es with
 | nil=>simp [st,lk]
 | cons p es ih =>
  unfold st
  split
  ·rename_i h
   by_cases hr:r=k
   ·rw [if_pos hr,lk,if_pos hr]
   ·have hp:¬ r=p.1:=fun e=>hr (e.trans h.symm)
    rw [if_neg hr,lk,if_neg hr,lk,if_neg hp]
  ·rename_i h
   by_cases hr:r=p.1
   ·have hk:¬ r=k:=fun e=>h (e▸hr)
    rw [if_neg hk,lk,if_pos hr,lk,if_pos hr]
   ·rw [lk,if_neg hr,ih,lk,if_neg hr]
theorem lk_none {es:List (Int × Value)} {k:Int} : lk es k=none↔k∉keysOf es:=by
 induction es with
 | nil=>simp [lk,keysOf]
 | cons p es ih =>
  simp only [keysOf,List.map_cons,List.mem_cons,not_or] at ih ⊢
  unfold lk
  split
  ·rename_i h
   simp [h]
  ·rename_i h
   rw [ih]
   exact ⟨fun h2=>⟨h,h2⟩,fun h2=>h2.2⟩
/-- What a put writes at one register. -/
def putV (o:Option Value) (k place:Int):Value :=
 match o with
 | some (.agg #[.int .i64 r,.int .i64 a,.int .i64 b])=>spV r (min a place) (max b place)
 | _=>spV k (min place place) (max place place)
theorem WS.put {es:List (Int × Value)} {P:Int→Int→Prop} (h:WS es P) (k place:Int):WS (IM.st es k (putV (lk es k) k place)) (fun r p=>(r=k∧p=place)∨P r p):=by
 refine ⟨nodup_st h.nodup k _,fun r hr p hp=>?_,fun r v hr=>?_⟩
 ·rw [lk_st] at hr
  split at hr
  ·cases hr
  ·rename_i hne
   rcases hp with ⟨e,_⟩|hp
   ·exact hne e
   ·exact h.no r hr p hp
 ·rw [lk_st] at hr
  split at hr
  ·rename_i e
   subst e
   injection hr with hr
   subst hr
   cases hl:lk es r with
   | none =>
    refine ⟨place,place,?_,⟨.inl ⟨rfl,rfl⟩,.inl ⟨rfl,rfl⟩,fun p hp=>?_⟩⟩
    ·simp [putV]
    ·rcases hp with ⟨_,rfl⟩|hp
     ·omega
     ·exact absurd hp (h.no r hl p)
   | some v =>
    obtain ⟨a,b,rfl,hs⟩:=h.yes r v hl
    refine ⟨min a place,max b place,rfl,⟨?_,?_,fun p hp=>?_⟩⟩
    ·by_cases hle:a≤place
     ·rw [Int.min_eq_left hle];exact .inr hs.lo
     ·rw [Int.min_eq_right (by omega)];exact .inl ⟨rfl,rfl⟩
    ·by_cases hle:b≤place
     ·rw [Int.max_eq_right hle];exact .inl ⟨rfl,rfl⟩
     ·rw [Int.max_eq_left (by omega)];exact .inr hs.hi
    ·rcases hp with ⟨_,rfl⟩|hp
     ·omega
     ·have:=hs.all p hp;omega
  ·rename_i hne
   obtain ⟨a,b,e,hs⟩:=h.yes r v hr
   refine ⟨a,b,e,.inr hs.lo,.inr hs.hi,fun p hp=>?_⟩
   rcases hp with ⟨e2,_⟩|hp
   ·exact absurd e2 hne
   ·exact hs.all p hp
theorem uses_any (x:S45) (A:Option Addr) (c:Nat) (w:World) (hx:x.f5.length≤1000000000000) (hC:Kd.C (Kd.int .i64) w A x.f5.length x.f5) (hc:x.f5.length≤c) :
  Calls Tryz.prog 41 #[.agg #[.int .i64 x.f0,.int .i64 x.f1,.int .i64 x.f2,.int .i64 x.f3,.int .i64 x.f4,.slice A x.f5.length c]] w fun e w'=>∃ A' c',e=.returned (.slice A' (useX x).length c')∧Kd.C (Kd.int .i64) w' A' (useX x).length (useX x)∧Below w.heap.size w w':=by
 refine (code_Uses.calls 10 x.f0 x.f1 x.f2 x.f3 x.f4 A c x.f5 (useX x) w hC hc (uses_eq x hx)).mono ?_
 rintro e w' ⟨v,rfl,hr,hb⟩
 obtain ⟨A,c,rfl,_,hc⟩:=Kd.R_reads hr
 exact ⟨A,c,rfl,hc,hb⟩
theorem sets1_any (x:S45) (A:Option Addr) (c:Nat) (w:World) (hC:Kd.C (Kd.int .i64) w A x.f5.length x.f5) (hc:x.f5.length≤c) :
  Calls Tryz.prog 42 #[.agg #[.int .i64 x.f0,.int .i64 x.f1,.int .i64 x.f2,.int .i64 x.f3,.int .i64 x.f4,.slice A x.f5.length c]] w fun e w'=>e=.returned (.int .i64 (setX x))∧Below w.heap.size w w' :=
 code_Sets.calls 10 x.f0 x.f1 x.f2 x.f3 x.f4 A c x.f5 (setX x) w hC hc (sets_eq x)
set_option maxHeartbeats 4000000 in
set_option maxRecDepth 100000 in
/-- over: backwards over an operation. -/
theorem over_any (b:Nat) (es:List (Int × Value)) (P:Int→Prop) (x:S45) (A:Option Addr) (c:Nat) (w:World) (hx:x.f5.length≤1000000000000) (hat:At w b es) (hks:KS es P) (hC:Kd.C (Kd.int .i64) w A x.f5.length x.f5) (hc:x.f5.length≤c) :
  Calls Tryz.prog 82 #[.map (some b),.agg #[.int .i64 x.f0,.int .i64 x.f1,.int .i64 x.f2,.int .i64 x.f3,.int .i64 x.f4,.slice A x.f5.length c]] w fun e w'=>e=.returned (.tuple #[])∧∃ es',At w' b es'∧KS es' (fun r=>r∈useX x∨(r≠setX x∧P r))∧w.grownBy w' (some b):=by
 have hu45:=Tryz.underlying45
 have HC:=ak_ hC
 have HCC:=ak_ hc
 have HXL:=ak_ hx
 have HAT:=ak_ hat
 have HKS:=ak_ hks
 have hbl:=hat.lt
 have HS1:=fun w hC=>sets1_any x A c w hC hc
 have HU1:=fun w hC=>uses_any x A c w hx hC hc
 clear hC hc hx hat hks
 have HXB:=ak_ (blk_new w (.cells #[.int .i64 x.f0,.int .i64 x.f1,.int .i64 x.f2,.int .i64 x.f3,.int .i64 x.f4,.slice A x.f5.length c] 45))
 have HB0:=ak_ (below_alloc (Below.refl w.heap.size w) (.cells #[.int .i64 x.f0,.int .i64 x.f1,.int .i64 x.f2,.int .i64 x.f3,.int .i64 x.f4,.slice A x.f5.length c] 45))
 go_enter Tryz.func82,Tryz.ntmps82
 go_wp2_with (first
  | (go_at_call 42;refine (HS1 _ (Kd.C_below HC.out HB0.out)).mono ?_;rintro e w1 ⟨rfl,hb⟩;have HB1:=ak_ (below_then HB0.out HB0.out.size hb);have HX1:=ak_ (blk_below HXB.out hb);clear hb)
  | (at_delete;refine IM.wpl_delete _ rfl _ _ 73 3 rfl 4 Tryz.underlying73 Tryz.underlying3 b _ rfl (HAT.out.below HB1.out hbl) (setX x) rfl ?_;intro w2 hm2 hg2 hs2;have HM2:=ak_ hm2;have HG2:=ak_ (grown_then (grown_of_bel HB1.out (some b)) hg2 (.inl rfl));have HKC2:=ak_ ((KC.of_below HB1.out).trans (KC.of_grown hg2 (HAT.out.below HB1.out hbl).no_cells));have HX2:=ak_ (blk_grown HX1.out hg2 (by simp;omega));have c0:=bc_ HX2 0;have c1:=bc_ HX2 1;have c2:=bc_ HX2 2;have c3:=bc_ HX2 3;have c4:=bc_ HX2 4;have c5:=bc_ HX2 5;simp only [ga_,gb_,gc_] at c0 c1 c2 c3 c4 c5;clear hm2 hg2 hs2)
  | (go_at_call 41;refine (HU1 _ (Cint_kc HC.out HKC2.out)).mono ?_;rintro e w3 ⟨A3,c3',rfl,hC3,hb⟩;have HC3:=ak_ hC3;have HM3:=ak_ (HM2.out.below hb HM2.out.lt);have HG3:=ak_ (grown_then HG2.out (grown_of_bel hb none) (.inr (.inl rfl)));clear hb hC3)
  | (go_at_call 86;refine (put_any b _ _ A3 c3' (useX x) _ HM3.out (HKS.out.dl (setX x)) HC3.out).mono ?_;rintro e w4 ⟨rfl,es4,ha4,hk4,hg4⟩;have HA4:=ak_ ha4;have HK4:=ak_ hk4;have HG4:=ak_ (grown_then HG3.out hg4 (.inl rfl));clear ha4 hk4 hg4))
 go_end0
 exact ⟨rfl,es4,HA4.out,HK4.out,HG4.out⟩
/-- A row of n sets: I i r: is r in set i? -/
def MapsAt (w:World) (A:Option Addr) (n:Nat) (I:Nat→Int→Prop):Prop:=∀ i,i<n→∃ ad b es,A=some ad∧w.cell? (ad.add i)=some (.map (some b))∧At w b es∧KS es (I i)
theorem MapsAt.below {w w' : World} {A:Option Addr} {n:Nat} {I:Nat→Int→Prop} (h:MapsAt w A n I) (hb:Below w.heap.size w w'):MapsAt w' A n I:=fun i hi=>by
 obtain ⟨ad,b,es,e,hc,ha,hk⟩:=h i hi
 exact ⟨ad,b,es,e,pw_cell_below hb hc,ha.below hb ha.lt,hk⟩
theorem MapsAt.imp {w:World} {A:Option Addr} {n:Nat} {I I' : Nat→Int→Prop} (h:MapsAt w A n I) (hi:∀ i,i<n→∀ r,I i r↔I' i r):MapsAt w A n I':=fun i hlt=>by
 obtain ⟨ad,b,es,e,hc,ha,hk⟩:=h i hlt
 exact ⟨ad,b,es,e,hc,ha,hk.imp (hi i hlt)⟩
set_option maxHeartbeats 4000000 in
set_option maxRecDepth 100000 in
/-- ends: what is in the sets of some blocks,in a new set. -/
theorem ends_any (A:Option Addr) (n c:Nat) (I:Nat→Int→Prop) (B:Option Addr) (cb:Nat) (l:List Int) (w:World) (hn:n≤1000000000000) (hm:MapsAt w A n I) (hC:Kd.C (Kd.int .i64) w B l.length l) (hl:∀ t∈l,0≤t∧t<n) :
  Calls Tryz.prog 53 #[.slice A n c,.slice B l.length cb] w fun e w'=>∃ m es,e=.returned (.map (some m))∧At w' m es∧KS es (fun r=>∃ j:Nat,(j:Int)∈l∧I j r)∧w.heap.size≤m∧Below w.heap.size w w':=by
 have hln:l.length≤9223372036854775807:=hC.2.1
 have HC:=ak_ hC
 have HM:=ak_ hm
 have HL:=ak_ hl
 have HNN:=ak_ hn
 have hmm:=@run_makeMap Tryz.prog
 clear hC hm hl hn
 go_enter Tryz.func53,Tryz.ntmps53
 go_wp2_with fail
 clear hmm
 go_loopw [11] (fun i wr=>∃ (j:Nat) (es' : List (Int × Value)),j≤l.length∧i=.int .i64 (j:Int)∧Aside0 (At wr w.heap.size es')∧Aside0 (KS es' (fun r=>∃ j' : Nat,(j' : Int)∈l.take j∧I j' r))∧Aside0 (Below w.heap.size w wr)) (fun i _=>l.length - (intOf i).toNat)
 case atStart=>exact ⟨0,[],Nat.zero_le _,rfl,⟨At.made w⟩,⟨KS.nil.imp (fun r=>by simp)⟩,⟨below_alloc (Below.refl _ _) _⟩⟩
 case round =>
  obtain ⟨j,es',hj,rfl,HA,HK,HB⟩:=hrel
  by_cases hlt:j<l.length
  ·have b1:decide ((j:Int)<(l.length:Int))=true:=decide_eq_true (by omega)
   obtain ⟨ad,eA,k0⟩:=Kd.at_int (Kd.C_below HC.out HB.out) (j:Int) (by omega) (by omega)
   simp only [Int.toNat_natCast] at k0
   obtain ⟨t,ht⟩:∃ t:Nat,rd l (j:Int)=(t:Int)∧t<n:=by
    have:=HL.out (rd l (j:Int)) (by rw [rd_mem hlt];exact List.getElem_mem hlt)
    exact ⟨(rd l (j:Int)).toNat,by omega,by omega⟩
   obtain ⟨adm,b,es,eM,hcm,hat,hks⟩:=(HM.out.below HB.out) t ht.2
   have hbl:b<w.heap.size:=by
    obtain ⟨adm',b',es2,eM',hcm',hat',_⟩:=HM.out t ht.2
    rw [eM] at eM'
    cases eM'
    have:=pw_cell_below HB.out hcm'
    rw [hcm] at this
    cases this
    exact hat'.lt
   have HT:=ak_ (take_rd hlt)
   rw [ht.1] at k0 HT
   have q1:(0:Int)≤(t:Int):=by omega
   have q2:(t:Int)<(n:Int):=by omega
   have hnn:=HNN.out
   have HATS:=ak_ hat
   have HKSS:=ak_ hks
   clear ht hat hks
   subst eA eM
   go_wp2_with (go_at_call 85;refine (copy_any w.heap.size b es' es _ (I t) _ (by omega) HA.out HATS.out HK.out HKSS.out).mono ?_;rintro e w1 ⟨rfl,es2,ha2,hk2,hg2⟩;have HA2:=ak_ ha2;have HK2:=ak_ hk2;have HG2:=ak_ hg2;clear ha2 hk2 hg2)
   go_roundw
   case rel=>exact ⟨j+1,es2,by omega,by go_num,HA2,⟨HK2.out.imp (fun r=>by
    rw [HT.out]
    simp only [List.mem_append,List.mem_singleton]
    constructor
    ·rintro (h|⟨j',h1,h2⟩)
     ·exact ⟨t,.inr rfl,h⟩
     ·exact ⟨j',.inl h1,h2⟩
    ·rintro ⟨j',h1|h1,h2⟩
     ·exact .inr ⟨j',h1,h2⟩
     ·obtain rfl:j'=t:=by omega
      exact .inl h2)⟩,⟨below_of_grown HB.out HG2.out (Nat.le_refl _)⟩⟩
   case measure=>simp [intOf];omega
  ·have b1:decide ((j:Int)<(l.length:Int))=false:=decide_eq_false (by omega)
   obtain rfl:j=l.length:=by omega
   have hk:=HK.out
   rw [List.take_length] at hk
   have HK2:=ak_ hk
   clear hk
   go_wp2_with fail
   go_ret
   exact ⟨w.heap.size,es',rfl,HA.out,HK2.out,Nat.le_refl _,HB.out⟩
set_option maxHeartbeats 4000000 in
set_option maxRecDepth 100000 in
/-- behind: what is live behind a block's operations,in a new set. -/
theorem behind_any (A:Option Addr) (n c:Nat) (I:Nat→Int→Prop) (B:Option Addr) (cb:Nat) (l:List Int) (t:S48) (w:World) (hn:n≤1000000000000) (hm:MapsAt w A n I) (hC:Kd.C (Kd.int .i64) w B l.length l) (hl:∀ t∈l,0≤t∧t<n) :
  Calls Tryz.prog 57 #[.slice A n c,.slice B l.length cb,.agg #[.int .i64 t.f0,.int .i64 t.f1,.int .i64 t.f2,.int .i64 t.f3]] w fun e w'=>∃ m es,e=.returned (.map (some m))∧At w' m es∧KS es (fun r=>r∈tuseT t∨∃ j:Nat,(j:Int)∈l∧I j r)∧w.heap.size≤m∧Below w.heap.size w w':=by
 have hu41:=Tryz.underlying48
 have HB0:=ak_ (below_alloc (Below.refl w.heap.size w) (.cells #[.int .i64 t.f0,.int .i64 t.f1,.int .i64 t.f2,.int .i64 t.f3] 48))
 have HXB:=ak_ (blk_new w (.cells #[.int .i64 t.f0,.int .i64 t.f1,.int .i64 t.f2,.int .i64 t.f3] 48))
 have hends:=ends_any A n c I B cb l (w.alloc (.cells #[.int .i64 t.f0,.int .i64 t.f1,.int .i64 t.f2,.int .i64 t.f3] 48)) hn (hm.below HB0.out) (Kd.C_below hC HB0.out) hl
 have HE:=ak_ hends
 clear hm hC hl hends
 go_enter Tryz.func57,Tryz.ntmps57
 go_wp2_with (first
  | (go_at_call 53;refine HE.out.mono ?_;rintro e w1 ⟨m,es,rfl,ha,hk,hms,hb⟩;have HB1:=ak_ (below_then HB0.out HB0.out.size hb);have HX1:=ak_ (blk_below HXB.out hb);have HA1:=ak_ ha;have HK1:=ak_ hk;have HMS:=ak_ (Nat.le_trans HB0.out.size hms);have c0:=bc_ HX1 0;have c1:=bc_ HX1 1;have c2:=bc_ HX1 2;have c3:=bc_ HX1 3;simp only [ga_,gb_,gc_] at c0 c1 c2 c3;clear hb ha hk hms)
  | (go_at_call 40;refine (termUses_any t _).mono ?_;rintro e w2 ⟨A2,c2',rfl,hC2,hb⟩;have HC2:=ak_ hC2;have HA2:=ak_ (HA1.out.below hb HA1.out.lt);have HB2:=ak_ (below_then HB1.out HB1.out.size hb);clear hC2 hb)
  | (go_at_call 86;refine (put_any m es _ A2 c2' (tuseT t) _ HA2.out HK1.out HC2.out).mono ?_;rintro e w3 ⟨rfl,es3,ha3,hk3,hg3⟩;have HA3:=ak_ ha3;have HK3:=ak_ hk3;have HB3:=ak_ (below_of_grown HB2.out hg3 HMS.out);clear ha3 hk3 hg3))
 go_ret
 exact ⟨m,es3,rfl,HA3.out,HK3.out,HMS.out,HB3.out⟩
/-- A strictly rising row. -/
def Rise (l:List Int):Prop:=l.Pairwise (·<·)
theorem rise_sort {l:List Int} (h:l.Nodup):Rise (l.mergeSort fun x y=>decide (x≤y)):=by
 have h1:(l.mergeSort fun x y=>decide (x≤y)).Pairwise (fun a b=>(decide (a≤b))=true):=List.pairwise_mergeSort (fun a b c h1 h2=>by simp only [decide_eq_true_eq] at *;omega) (fun a b=>by simp only [Bool.or_eq_true,decide_eq_true_eq];omega) l
 have h2:(l.mergeSort fun x y=>decide (x≤y)).Nodup:=(List.mergeSort_perm l _).nodup_iff.2 h
 unfold Rise
 refine (h1.and h2).imp ?_
 rintro a b ⟨h1,h2⟩
 simp only [decide_eq_true_eq] at h1
 have:a≠b:=h2
 omega
set_option maxHeartbeats 4000000 in
set_option maxRecDepth 100000 in
/-- row: a set,rising. -/
theorem row_any (b:Nat) (es:List (Int × Value)) (P:Int→Prop) (w:World) (hat:At w b es) (hks:KS es P) (hlen:es.length≤1000000000000) :
  Calls Tryz.prog 50 #[.map (some b)] w fun e w'=>∃ v zs,e=.returned v∧Kd.R (Kd.int .i64) 3 w' w.heap.size (fun _=>True) v zs∧Rise zs∧(∀ r,r∈zs↔P r)∧Below w.heap.size w w':=by
 have HAT:=ak_ hat
 have HKS:=ak_ hks
 have HL:=ak_ hlen
 clear hat hks hlen
 go_enter Tryz.func50,Tryz.ntmps50
 go_wp2_with (first
  | (go_at_call 83;refine (keys87_any _ _).mono ?_;rintro e w1 ⟨rfl,rfl⟩)
  | (go_at_call 43;refine (sorted87_any w.heap.size b es _ (blk_cell (blk_new w (.cells #[.map (some b)] 73)) 0) (HAT.out.alloc _) HL.out).mono ?_;rintro e w2 ⟨v2,rfl,ho,hb⟩;have HO:=ak_ ho;have HB2:=ak_ (below_then (below_alloc (Below.refl w.heap.size w) (.cells #[.map (some b)] 73)) (by simp [World.size_alloc]) hb);clear ho hb))
 go_ret
 have hl:((keysOf es).mergeSort fun x y=>decide (x≤y)).length=es.length:=by rw [List.length_mergeSort,keysOf,List.length_map]
 have ho:=HO.out
 rw [← hl] at ho
 refine ⟨v2,(keysOf es).mergeSort fun x y=>decide (x≤y),rfl,?_,rise_sort HKS.out.nodup,fun r=>by rw [List.mem_mergeSort];exact HKS.out.mem r,HB2.out⟩
 exact Kd.R_lower (Kd.R_of_own ho (fun _ _=>trivial)) (by simp [World.size_alloc])
