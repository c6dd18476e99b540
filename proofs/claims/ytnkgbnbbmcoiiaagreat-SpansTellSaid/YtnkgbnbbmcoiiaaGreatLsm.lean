import Derived.Test.YtnkgbnbbmcoiiaaGreatBk
import Derived.Test.YtnkgbnbbmcoiiaaGreatRfz
import Derived.Test.YtnkgbnbbmcoiiaaGreatOora
import Derived.Test.YtnkgbnbbmcoiiaaGreatReli
import Derived.Test.YtnkgbnbbmcoiiaaGreatRfa
import Derived.Test.YtnkgbnbbmcoiiaaGreatOput
import Derived.Test.YtnkgbnbbmcoiiaaGreatS8
namespace Go.Proofs.YtnkgbnbbmcoiiaaGreat.S
open Go.RowKit Go.IM Go.RelRegion Go.Proofs.YtnkgbnbbmcoiiaaGreatW.PrintWords Go.Proofs.YtnkgbnbbmcoiiaaGreatW.PrintLast Go.Proofs.YtnkgbnbbmcoiiaaGreatW.PrintMore
set_option linter.unusedVariables false
set_option linter.unusedSimpArgs false
/-! ### spans.Of -/
/-- The points of one operation. -/
def Op1 (bs:List S50) (i k:Nat) (r q:Int):Prop:=(r∈useX (opOf bs (i,k))∧q=(pos bs i:Int)+(k:Int))∨(setX (opOf bs (i,k))≠0∧r=setX (opOf bs (i,k))∧q=(pos bs i:Int)+(k:Int)+1)
/-- .. of a block. -/
def Blk1 (bs:List S50) (i:Nat) (r q:Int):Prop:=(r∈liveRow bs i 0∧q=(pos bs i:Int))∨(r∈outRow bs i∧q=(pos bs (i+1):Int))∨(r∈tuseT (rd_T50 bs (i:Int)).f1∧q=(pos bs (i+1):Int) - 1)∨∃ k,k<opLen bs i∧Op1 bs i k r q
/-- .. of the parameters and the first n blocks. -/
def Pts (p:Int) (bs:List S50) (n:Nat) (r q:Int):Prop:=(q=0∧1≤r∧r≤p)∨∃ i,i<n∧Blk1 bs i r q
theorem C50_kc {w w' : World} {A:Option Addr} {n:Nat} {l:List (List Int)} (h:Kd.C (Kd.slice 3 (Kd.int .i64)) w A n l) (hk:KC w w'):Kd.C (Kd.slice 3 (Kd.int .i64)) w' A n l:=by
 obtain ⟨h1,h2,h3⟩:=h
 refine ⟨h1,h2,fun hn=>?_⟩
 obtain ⟨ad,e,hc⟩:=h3 hn
 refine ⟨ad,e,fun j p hj=>?_⟩
 obtain ⟨c,hl,hk',hu⟩:=hc j p hj
 obtain ⟨A0,c0,rfl,l0,g0⟩:=hk'
 exact ⟨_,hl,⟨A0,c0,rfl,l0,Cint_kc g0 hk⟩,fun i u hi=>hk.cell (hu i u hi)⟩
theorem rd_inL {bs:List S50} {j:Nat} (h:j<bs.length):rd_L1 (inL bs) (j:Int)=liveRow bs j 0:=by
 unfold rd_L1 inL
 simp [List.getD_eq_getElem?_getD,h]
theorem rd_outL {bs:List S50} {j:Nat} (h:j<bs.length):rd_L1 (outL bs) (j:Int)=outRow bs j:=by
 unfold rd_L1 outL
 simp [List.getD_eq_getElem?_getD,h]
theorem inL_length (bs:List S50):(inL bs).length=bs.length:=by simp [inL]
theorem outL_length (bs:List S50):(outL bs).length=bs.length:=by simp [outL]
theorem eq28nil (a:Addr) (n c:Nat) (w:World):Sem.run Tryz.prog (binOp .eql 31 (.slice (some a) n c) (.slice none 0 0)) w=.ok (.bool false) w:=by kernel_rfl
theorem C_of_blk {k:IntKind} {W:World} {g:Nat} {t:TypeId} (xs:List Int) (h:W.heap[g]?=some (.cells (xs.map (Value.int k)).toArray t (0,0))) (hl:xs.length≤9223372036854775807):Kd.C (Kd.int k) W (some ⟨g,0,none⟩) xs.length xs :=
 Kd.C_of_reads (enc:=Value.int k) (d:=(0:Int)) (h1:=fun _=>rfl) ⟨rfl,hl,fun _=>⟨_,rfl,fun j hj=>by
  have:=blk_cell h j
  have e:(⟨g,0,none⟩:Addr).add j=⟨g,j,none⟩:=add_plain g j
  rw [e,this]
  simp [List.getD_eq_getElem?_getD,hj]⟩⟩
/-- A row of one number,new. -/
theorem C_one (W:World) (x:Int):Kd.C (Kd.int .i64) (W.alloc (.cells #[.int .i64 x] 3)) (some ⟨W.heap.size,0,none⟩) 1 [x]:=C_of_blk (k:=.i64) (t:=3) [x] (blk_new W (.cells #[.int .i64 x] 3)) (by simp)
/-- What region 4's calls give. -/
def R4 (li lo:List (List Int)) (k:Nat) (vs:List Value) (w:World):Prop :=
 if k=1 then ∃ A c,vs=[.slice A li.length c]∧Kd.C (Kd.slice 3 (Kd.int .i64)) w A li.length li
 else if k=3 then ∃ A c,vs=[.slice A lo.length c]∧Kd.C (Kd.slice 3 (Kd.int .i64)) w A lo.length lo else True
theorem R4.below {li lo:List (List Int)} {k:Nat} {vs:List Value} {w w' : World} (h:R4 li lo k vs w) (hb:Below w.heap.size w w'):R4 li lo k vs w':=by
 unfold R4 at h ⊢
 split at h
 ·obtain ⟨A,c,e,hc⟩:=h
  rename_i h1
  rw [if_pos h1]
  exact ⟨A,c,e,Kd.C_below hc hb⟩
 ·rename_i h1
  rw [if_neg h1]
  split at h
  ·obtain ⟨A,c,e,hc⟩:=h
   rename_i h2
   rw [if_pos h2]
   exact ⟨A,c,e,Kd.C_below hc hb⟩
  ·rename_i h2
   rw [if_neg h2]
   trivial
/-- What a drawn region's call that reads tells. -/
def RT (l:List Int) (K:Nat) (k:Nat) (vs:List Value) (w:World):Prop:=k=K→∃ A c,vs=[.slice A l.length c]∧Kd.C (Kd.int .i64) w A l.length l
theorem RT.below {l:List Int} {K k:Nat} {vs:List Value} {w w' : World} (h:RT l K k vs w) (hb:Below w.heap.size w w'):RT l K k vs w':=fun e=>by
 obtain ⟨A,c,e1,h1⟩:=h e
 exact ⟨A,c,e1,Kd.C_below h1 hb⟩
/-- The points up to a block's operations. -/
def PtT (p:Int) (bs:List S50) (j:Nat) (r q:Int):Prop:=(r∈tuseT (rd_T50 bs (j:Int)).f1∧q=(pos bs (j+1):Int) - 1)∨(r∈outRow bs j∧q=(pos bs (j+1):Int))∨(r∈liveRow bs j 0∧q=(pos bs j:Int))∨Pts p bs j r q
theorem pts_succ {p:Int} {bs:List S50} {j:Nat} {r q:Int} : (∃ k,k<opLen bs j∧Op1 bs j k r q)∨PtT p bs j r q↔Pts p bs (j+1) r q:=by
 unfold PtT Pts Blk1
 constructor
 ·rintro (h|h|h|h|h|⟨i,hi,h⟩)
  ·exact .inr ⟨j,Nat.lt_succ_self _,.inr (.inr (.inr h))⟩
  ·exact .inr ⟨j,Nat.lt_succ_self _,.inr (.inr (.inl h))⟩
  ·exact .inr ⟨j,Nat.lt_succ_self _,.inr (.inl h)⟩
  ·exact .inr ⟨j,Nat.lt_succ_self _,.inl h⟩
  ·exact .inl h
  ·exact .inr ⟨i,Nat.lt_succ_of_lt hi,h⟩
 ·rintro (h|⟨i,hi,h⟩)
  ·exact .inr (.inr (.inr (.inr (.inl h))))
  ·by_cases e:i=j
   ·subst e
    rcases h with h|h|h|h
    ·exact .inr (.inr (.inr (.inl h)))
    ·exact .inr (.inr (.inl h))
    ·exact .inr (.inl h)
    ·exact .inl h
   ·exact .inr (.inr (.inr (.inr (.inr ⟨i,by omega,h⟩))))
theorem wr3 {z k:Nat} (hz:z≤20480) (hk:k≤16384):wrap64 ((z:Int)+(k:Int))=(z:Int)+(k:Int)∧wrap64 ((z:Int)+(k:Int)+1)=(z:Int)+(k:Int)+1∧wrap64 ((k:Int)+1)=(k:Int)+1:=by
 refine ⟨?_,?_,?_⟩<;>(unfold wrap64;omega)
/-- The spans of the points P,registers rising. -/
structure OfQ (P:Int→Int→Prop) (out:List S52):Prop where mk ::
 rise:Rise (out.map (·.f0))
 span:∀ x∈out,SpanOf P x.f0 x.f1 x.f2
 all:∀ r q,P r q→∃ x∈out,x.f0=r
def spk (es:List (Int × Value)) (k:Int):S52 :=
 match lk es k with
 | some (.agg #[.int .i64 r,.int .i64 a,.int .i64 b])=>⟨r,a,b⟩
 | _=>⟨k,0,0⟩
theorem spk_eq {es:List (Int × Value)} {k a b:Int} (h:lk es k=some (spV k a b)):spk es k=⟨k,a,b⟩:=by
 unfold spk
 rw [h]
 rfl
theorem WS.key {es:List (Int × Value)} {P:Int→Int→Prop} (h:WS es P) {k:Int} (hk:k∈keysOf es):∃ a b,lk es k=some (spV k a b)∧SpanOf P k a b:=by
 cases hl:lk es k with
 | none=>exact absurd hk (lk_none.1 hl)
 | some v =>
  obtain ⟨a,b,rfl,hs⟩:=h.yes k v hl
  exact ⟨a,b,rfl,hs⟩
theorem WS.ofQ {es:List (Int × Value)} {P:Int→Int→Prop} (h:WS es P) {ks:List Int} (hr:Rise ks) (hm:∀ k,k∈ks↔k∈keysOf es):OfQ P (ks.map (spk es)):=by
 have hf:∀ k∈ks,(spk es k).f0=k:=fun k hk=>by
  obtain ⟨a,b,e,_⟩:=h.key ((hm k).1 hk)
  rw [spk_eq e]
 refine ⟨?_,fun x hx=>?_,fun r q hp=>?_⟩
 ·have:(ks.map (spk es)).map (·.f0)=ks:=by
   rw [List.map_map]
   exact (List.map_congr_left (fun k hk=>hf k hk)).trans (List.map_id ks)
  rw [this]
  exact hr
 ·obtain ⟨k,hk,rfl⟩:=List.mem_map.1 hx
  obtain ⟨a,b,e,hs⟩:=h.key ((hm k).1 hk)
  rw [spk_eq e]
  exact hs
 ·have hk:r∈keysOf es:=by
   cases hl:lk es r with
   | none=>exact absurd hp (h.no r hl q)
   | some v=>
    by_cases hk:r∈keysOf es
    ·exact hk
    ·rw [lk_none.2 hk] at hl;cases hl
  exact ⟨spk es r,List.mem_map.2 ⟨r,(hm r).2 hk,rfl⟩,hf r ((hm r).2 hk)⟩
theorem pts_reg {p:Int} {bs:List S50} (h:RightP p bs 256) {n:Nat} (hn:n≤bs.length) {r q:Int} (hp:Pts p bs n r q):1≤r∧r≤4096:=by
 rcases hp with ⟨_,h1,h2⟩|⟨i,hi,⟨hr,_⟩|⟨hr,_⟩|⟨hr,_⟩|⟨k,hk,⟨hr,_⟩|⟨h0,hr,_⟩⟩⟩
 ·have:=h.par.2;omega
 ·exact h.at_reg ((mem_liveRow h).1 hr)
 ·unfold outRow at hr
  rw [List.mem_filter,mem_regs] at hr
  exact hr.1
 ·exact h.tuse (by omega) r hr
 ·exact (h.opA (i,k)).1 r hr
 ·have:=ropX_set (h.op i k (by omega) hk)
  rw [← hr] at this
  rcases this with h1|h1
  ·exact absurd (hr.symm.trans h1) h0
  ·exact h1
theorem ws_len {p:Int} {bs:List S50} (h:RightP p bs 256) {n:Nat} (hn:n≤bs.length) {es:List (Int × Value)} (hw:WS es (Pts p bs n)):es.length≤4096:=by
 have:=Lv.regs_le hw.nodup (fun r hr=>by
  obtain ⟨a,b,_,hs⟩:=hw.key hr
  exact pts_reg h hn hs.lo)
 rwa [keysOf,List.length_map] at this
theorem info52' : (Tryz.prog.info? 52).map (fun i=>(i.zero,i.size,i.bytes))=some (some (.agg #[.int .i64 0,.int .i64 0,.int .i64 0]),3,24):=by kernel_rfl
theorem num_cast (k:Nat):Value.int .i64 ((k:Int)+1)=Value.int .i64 ((k+1:Nat):Int):=by rw [Int.natCast_succ]
theorem num_meas {n j:Nat} (h:j<n):n - (intOf (.int .i64 ((j:Int)+1))).toNat<n - (intOf (.int .i64 (j:Int))).toNat:=by
 have e1:(intOf (.int .i64 ((j:Int)+1))).toNat=j+1:=by
  show ((j:Int)+1).toNat=j+1
  omega
 have e2:(intOf (.int .i64 (j:Int))).toNat=j:=by simp [intOf]
 rw [e1,e2]
 omega
/-- One operation more. -/
theorem ops_succ {bs:List S50} {j k:Nat} {Q:Int→Int→Prop} {r q:Int} : Op1 bs j k r q∨((∃ k',k'<k∧Op1 bs j k' r q)∨Q r q)↔(∃ k',k'<k+1∧Op1 bs j k' r q)∨Q r q:=by
 constructor
 ·rintro (h|⟨k',hk,h⟩|h)
  ·exact .inl ⟨k,Nat.lt_succ_self _,h⟩
  ·exact .inl ⟨k',Nat.lt_succ_of_lt hk,h⟩
  ·exact .inr h
 ·rintro (⟨k',hk,h⟩|h)
  ·by_cases e:k'=k
   ·subst e;exact .inl h
   ·exact .inr (.inl ⟨k',by omega,h⟩)
  ·exact .inr (.inr h)
theorem num_cell {w:World} {bs:List S50} {adn:Addr} {n:Nat} (h:Kd.C (Kd.int .i64) w (some adn) n (numL bs)) (hn:n=bs.length+1) {j:Nat} (hj:j≤bs.length):w.cell? (adn.add j)=some (.int .i64 (pos bs j:Int)):=by
 obtain ⟨ad,e,h1⟩:=Kd.at_int h (j:Int) (by omega) (by omega)
 cases e
 rw [rd_num bs hj,Int.toNat_natCast] at h1
 exact h1
theorem row_cell {w:World} {A:Option Addr} {n:Nat} {L:List (List Int)} (h:Kd.C (Kd.slice 3 (Kd.int .i64)) w A n L) {j:Nat} (hj:j<n) {l:List Int} (hl:rd_L1 L (j:Int)=l) :
  ∃ ad A0 c0,A=some ad∧w.cell? (ad.add j)=some (.slice A0 l.length c0)∧l.length≤c0∧Kd.C (Kd.int .i64) w A0 l.length l:=by
 subst hl
 obtain ⟨ad,A0,c0,e,h1,h2,h3⟩:=at_L1 h (j:Int) (by omega) (by omega)
 rw [Int.toNat_natCast] at h1
 exact ⟨ad,A0,c0,e,h1,h2,h3⟩
set_option maxHeartbeats 8000000 in
set_option maxRecDepth 100000 in
theorem of_ok (p:Int) (A:Option Addr) (c:Nat) (bs:List S50) (w:World) (hC:Kd.C k50 w A bs.length bs) (hc:bs.length≤c) (hR:rightF p bs 256=true) :
  Calls Tryz.prog 9 #[.agg #[.int .i64 p,.slice A bs.length c]] w fun e w'=>∃ v out,e=.returned v∧Kd.R k52 52 w' w.heap.size (fun _=>True) v out∧OfQ (Pts p bs bs.length) out∧Below w.heap.size w w':=by
 have hu34:=Tryz.underlying24
 have hu43:=Tryz.underlying50
 have hu41:=Tryz.underlying48
 have hu45:=Tryz.underlying45
 have hmm:=@run_makeMap Tryz.prog
 have RP:=ak_ (rightF_iff hR)
 have HR:=ak_ hR
 have HC:=ak_ hC
 have HCc:=ak_ hc
 have HB0:=ak_ (below_alloc (Below.refl w.heap.size w) (.cells #[.int .i64 p,.slice A bs.length c] 24))
 have HF0:=ak_ (blk_new w (.cells #[.int .i64 p,.slice A bs.length c] 24))
 clear hC hR hc
 go_enter Tryz.func9,Tryz.ntmps9
 go_wp2_with (go_at_call 11;refine (number_ok p A c bs _ (Kd.C_below HC.out HB0.out) HCc.out HR.out).mono ?_;rintro e w1 ⟨adn,cn,rfl,hcn,hb⟩;have HN1:=ak_ hcn;have HB1:=ak_ (below_then HB0.out HB0.out.size hb);have HF1:=ak_ (blk_below HF0.out hb);have c0:=bc_ HF1 0;have c1:=bc_ HF1 1;simp only [ga_,gb_,gc_] at c0 c1;have hnil:=eq28nil adn (numL bs).length cn w1;clear hb hcn)
 have hw1:w.heap.size≤w1.heap.size:=HB1.out.size
 have HLN:Aside0 ((numL bs).length=bs.length+1):=⟨numL_length bs⟩
 refine wp_region_rel 4 (fun k=>if k=1 then some [] else if k=3 then some [1] else none) (fun k=>[k]) (R4 (inL bs) (outL bs)) (fun w'=>Below w1.heap.size w1 w') (fun a b=>Below a.heap.size a b) (by kernel_rfl) (by kernel_rfl) (below_drew (Below.refl _ _)) (fun a b h k=>below_then h h.size k) (fun _ _ _ _ h hb=>h.below hb) ?_
 simp only [List.take_succ_cons,List.take_zero,List.drop_succ_cons,List.drop_zero]
 iterate 4 (first|(refine relQ_loud rfl ?_)|(apply relQ_step rfl;apply Exists.intro;constructor;(focus (intro w' hw';have c0:=pw_cell_below hw' c0;have c1:=pw_cell_below hw' c1;unfold Yl;go_wp2_with fail;exact ⟨rfl,_,rfl,rfl,Below.refl _ _⟩));(try simp only [Act.put,pa_,pb_,pc_])))
 refine relQ_nil (fun xx=>?_)
 repeat (refine relL_quiet rfl ?_)
 refine relL_loud rfl (fun w' hw' _=>?_) ?_
 ·unfold Yl
  go_wp2_with (go_at_call 20;refine (in_ok p A c bs _ (Kd.C_below HC.out (below_then HB1.out HB1.out.size hw')) HR.out).mono ?_;rintro e w2 ⟨v,rfl,hr,hb⟩;obtain ⟨A2,c2,rfl,_,hC2⟩:=Kd.R_reads hr)
  refine ⟨rfl,_,rfl,hb,?_⟩
  unfold R4
  rw [if_pos rfl]
  exact ⟨A2,c2,by simp,hC2⟩
 (try simp only [Act.put,pa_,pb_,pc_])
 repeat (refine relL_quiet rfl ?_)
 refine relL_loud rfl (fun w' hw' _=>?_) ?_
 ·unfold Yl
  go_wp2_with (go_at_call 23;refine (out_ok p A c bs _ (Kd.C_below HC.out (below_then HB1.out HB1.out.size hw')) HR.out).mono ?_;rintro e w2 ⟨v,rfl,hr,hb⟩;obtain ⟨A2,c2,rfl,_,hC2⟩:=Kd.R_reads hr)
  refine ⟨rfl,_,rfl,hb,?_⟩
  unfold R4
  rw [if_neg (by decide),if_pos rfl]
  exact ⟨A2,c2,by simp,hC2⟩
 (try simp only [Act.put,pa_,pb_,pc_])
 refine relL_nil (fun w' hw' hRR=>?_)
 have r1:=hRR 1 (by decide) rfl
 have r3:=hRR 3 (by decide) rfl
 unfold R4 at r1 r3
 rw [if_pos rfl] at r1
 rw [if_neg (by decide),if_pos rfl] at r3
 obtain ⟨Ai,ci,e1,hCi⟩:=r1
 obtain ⟨Ao,co,e3,hCo⟩:=r3
 have e1:xx 1=.slice Ai (inL bs).length ci:=by simpa using e1
 have e3:xx 3=.slice Ao (outL bs).length co:=by simpa using e3
 rw [e1,e3,inL_length,outL_length]
 rw [inL_length] at hCi
 rw [outL_length] at hCo
 have HCI:=ak_ hCi
 have HCO:=ak_ hCo
 have HBw:=ak_ (below_then HB1.out HB1.out.size hw')
 have HNw:=ak_ (Kd.C_below HN1.out hw')
 have HFw:=ak_ (blk_below HF1.out hw')
 have c0:=bc_ HFw 0
 have c1:=bc_ HFw 1
 simp only [ga_,gb_,gc_] at c0 c1
 have c0:=pw_cell_below (below_alloc (Below.refl w'.heap.size w') (.map #[] 0)) c0
 have c1:=pw_cell_below (below_alloc (Below.refl w'.heap.size w') (.map #[] 0)) c1
 have HAM:=ak_ (At.made w')
 have HKM:Aside0 (KC w' (w'.alloc (.map #[] 0))):=⟨KC.of_below (below_alloc (Below.refl _ _) _)⟩
 have HBM:=ak_ (below_alloc HBw.out (.map #[] 0))
 have HWM:Aside0 (w.heap.size≤w'.heap.size):=⟨HBw.out.size⟩
 have hp8:=RP.out.par
 clear hRR hw' hCi hCo e1 e3 HB1 HN1 HF1 hnil
 go_wp2_with fail
 clear c0 c1
 -- the parameters
 go_loopw [27] (fun i wr=>∃ (j:Nat) (es:List (Int × Value)),(j:Int)≤p∧i=.int .i64 (j:Int)∧Aside0 (At wr w'.heap.size es)∧Aside0 (WS es (fun r q=>q=0∧1≤r∧r≤(j:Int)))∧Aside0 (Below w.heap.size w wr)∧Aside0 (KC w' wr)) (fun i _=>p.toNat - (intOf i).toNat)
 case atStart=>exact ⟨0,[],hp8.1,rfl,HAM,⟨WS.nil.imp (fun r q=>by constructor;exact False.elim;rintro ⟨_,h1,h2⟩;omega)⟩,HBM,HKM⟩
 case round =>
  obtain ⟨j,es,hj,rfl,HA,HK,HB,HKC⟩:=hrel
  clear HAM HKM HBM
  by_cases hlt:(j:Int)<p
  ·have b1:decide ((j:Int)<p)=true:=decide_eq_true hlt
   have hw1:wrap64 ((j:Int)+1)=(j:Int)+1:=by unfold wrap64;omega
   have HP:∀ es',WS es' (fun r q=>(r∈[(j:Int)+1]∧q=0)∨(q=0∧1≤r∧r≤(j:Int)))→WS es' (fun r q=>q=0∧1≤r∧r≤((j+1:Nat):Int)):=fun es' h=>h.imp (fun r q=>by
    rw [List.mem_singleton]
    constructor
    ·rintro (⟨rfl,rfl⟩|⟨rfl,h1,h2⟩)<;>exact ⟨rfl,by omega,by omega⟩
    ·rintro ⟨rfl,h1,h2⟩
     by_cases e:r=(j:Int)+1
     ·exact .inl ⟨e,rfl⟩
     ·exact .inr ⟨rfl,h1,by omega⟩)
   have HP:=ak_ HP
   go_wp2_with (go_at_call 39;refine (wput_any w'.heap.size es _ 0 (some ⟨wr.heap.size,0,none⟩) 1 [(j:Int)+1] _ (HA.out.alloc _) HK.out (C_one wr _)).mono ?_;rintro e w2 ⟨rfl,es2,ha,hk,hg⟩;have HA2:=ak_ ha;have HK2:=ak_ (HP.out _ hk);have HB2:=ak_ (below_of_grown (below_alloc HB.out _) hg HWM.out);have HKC2:=ak_ ((HKC.out.trans (KC.of_below (below_alloc (Below.refl _ _) _))).trans (KC.of_grown hg (HA.out.alloc _).no_cells));clear ha hk hg)
   go_roundw
   case rel=>exact ⟨j+1,es2,by omega,by go_num,HA2,HK2,HB2,HKC2⟩
   case measure=>simp [intOf];omega
  ·have b1:decide ((j:Int)<p)=false:=decide_eq_false hlt
   have ej:(j:Int)=p:=by omega
   rw [ej] at HK
   clear hj hlt ej
   have c1:=HKC.out.cell (blk_cell HFw.out 1)
   try simp only [ga_,gb_,gc_] at c1
   go_wp2_with fail
   clear c1
   -- the blocks
   go_loopw [39] (fun i wr=>∃ (j:Nat) (es:List (Int × Value)),j≤bs.length∧i=.int .i64 (j:Int)∧Aside0 (At wr w'.heap.size es)∧Aside0 (WS es (Pts p bs j))∧Aside0 (Below w.heap.size w wr)∧Aside0 (KC w' wr)) (fun i _=>bs.length - (intOf i).toNat)
   case atStart=>exact ⟨0,es,Nat.zero_le _,rfl,HA,⟨HK.out.imp (fun r q=>⟨fun h=>.inl h,fun h=>h.elim id (fun ⟨i,hi,_⟩=>absurd hi (Nat.not_lt_zero _))⟩)⟩,HB,HKC⟩
   case round =>
    clear HA HK HB HKC b1
    obtain ⟨j,es,hj,rfl,HA,HK,HB,HKC⟩:=hrel
    by_cases hlt:j<bs.length
    ·have b1:decide ((j:Int)<(bs.length:Int))=true:=decide_eq_true (by omega)
     have hw1:wrap64 ((j:Int)+1)=(j:Int)+1:=by unfold wrap64;have:=RP.out.len.2;omega
     have hn0:j<(numL bs).length:=by rw [HLN.out];omega
     have hn1:j+1<(numL bs).length:=by rw [HLN.out];omega
     obtain ⟨ad,A5,c5,eA,h0,h1,h2,h3,h4,l5,g5⟩:=at_T50 (Kd.C_below HC.out HB.out) (j:Int) (by omega) (by omega)
     simp only [Int.toNat_natCast] at h0 h1 h2 h3 h4
     subst eA
     obtain ⟨adi,A0,k0,eI,hi0,hi1,hi2⟩:=row_cell (C50_kc HCI.out HKC.out) hlt (rd_inL hlt)
     obtain ⟨ado,A9,k9,eO,ho0,ho1,ho2⟩:=row_cell (C50_kc HCO.out HKC.out) hlt (rd_outL hlt)
     subst eI eO
     have hN0:=num_cell (Cint_kc HNw.out HKC.out) HLN.out (j:=j) hj
     have hN1:=num_cell (Cint_kc HNw.out HKC.out) HLN.out (j:=j+1) hlt
     have hz2:=pos_le RP.out (j:=j+1) hlt
     obtain ⟨z0,hz0⟩:∃ z:Nat,z=pos bs j:=⟨_,rfl⟩
     obtain ⟨z1,hz1⟩:∃ z:Nat,z=pos bs (j+1):=⟨_,rfl⟩
     rw [← hz0] at hN0
     rw [← hz1] at hN1 hz2
     have HZ0:=ak_ hz0
     have HZL:Aside0 (z0≤20480):=⟨by rw [hz0];exact pos_le RP.out hj⟩
     have HZ1:=ak_ hz1
     have hw2:wrap64 ((z1:Int) - 1)=(z1:Int) - 1:=by unfold wrap64;omega
     have HW2:=ak_ hw2
     have HZ2:=ak_ hz2
     clear hz0 hz1 hz2 hw2
     go_wp2_with fail
     obtain ⟨W2,hW2⟩:∃ W2,wr.alloc (Obj.cells #[.slice A5 (rd_T50 bs (j:Int)).f0.length c5,.int .i64 (rd_T50 bs (j:Int)).f1.f0,.int .i64 (rd_T50 bs (j:Int)).f1.f1,.int .i64 (rd_T50 bs (j:Int)).f1.f2,.int .i64 (rd_T50 bs (j:Int)).f1.f3] 50)=W2:=⟨_,rfl⟩
     have HK2:Aside0 (KC wr W2):=⟨by rw [← hW2];exact KC.of_below (below_alloc (Below.refl _ _) _)⟩
     have HB2:Aside0 (Below w.heap.size w W2):=⟨by rw [← hW2];exact below_alloc HB.out _⟩
     have HA2:Aside0 (At W2 w'.heap.size es):=⟨by rw [← hW2];exact HA.out.alloc _⟩
     have HX2:Aside0 (W2.heap[wr.heap.size]?=some (.cells #[.slice A5 (rd_T50 bs (j:Int)).f0.length c5,.int .i64 (rd_T50 bs (j:Int)).f1.f0,.int .i64 (rd_T50 bs (j:Int)).f1.f1,.int .i64 (rd_T50 bs (j:Int)).f1.f2,.int .i64 (rd_T50 bs (j:Int)).f1.f3] 50 (0,0))):=⟨by rw [← hW2];exact blk_new wr _⟩
     rw [hW2]
     have HI0:=ak_ (HK2.out.cell hi0)
     have HI2:=ak_ (Cint_kc hi2 HK2.out)
     have HO0:=ak_ (HK2.out.cell ho0)
     have HO2:=ak_ (Cint_kc ho2 HK2.out)
     have HN0:=ak_ (HK2.out.cell hN0)
     have HN1:=ak_ (HK2.out.cell hN1)
     have HG5:=ak_ (C45_kc g5 HK2.out)
     have HKC2:=ak_ (HKC.out.trans HK2.out)
     generalize wr.heap.size=g at HX2 ⊢
     clear hW2 hi0 hi1 hi2 ho0 ho1 ho2 hN0 hN1 h0 h1 h2 h3 h4 g5 HA HB HKC
     have n0:=HN0.out
     have i0:=HI0.out
     refine wp_region_rel 9 (fun _=>none) (fun _=>[]) (fun _ _ _=>True) (fun wq=>Below W2.heap.size W2 wq) (fun a b=>Below a.heap.size a b) (by kernel_rfl) (by kernel_rfl) (below_drew (Below.refl _ _)) (fun a b h k=>below_then h h.size k) (fun _ _ _ _ h _=>h) ?_
     simp only [List.take_succ_cons,List.take_zero,List.drop_succ_cons,List.drop_zero]
     iterate 9 (apply relQ_step rfl;apply Exists.intro;constructor;(focus (intro wq hwq;have n0:=pw_cell_below hwq n0;have i0:=pw_cell_below hwq i0;unfold Yl;go_wp2_with fail;exact ⟨rfl,_,rfl,rfl,Below.refl _ _⟩));(try simp only [Act.put,pa_,pb_,pc_]))
     refine relQ_nil (fun xx=>?_)
     repeat (refine relL_quiet rfl ?_)
     refine relL_nil (fun w3 hw3 _=>?_)
     clear n0 i0
     have HW3:=ak_ hw3
     clear hw3
     go_wp2_with (go_at_call 39;refine (wput_any w'.heap.size es _ (z0:Int) A0 k0 (liveRow bs j 0) _ (HA2.out.below HW3.out HA2.out.lt) HK.out (Kd.C_below HI2.out HW3.out)).mono ?_;rintro e w4 ⟨rfl,es4,ha,hk,hg⟩;have HA4:=ak_ ha;have HK4:=ak_ hk;have HB4:=ak_ (below_of_grown (below_then HB2.out HB2.out.size HW3.out) hg HWM.out);have HKC4:=ak_ ((KC.of_below HW3.out).trans (KC.of_grown hg (HA2.out.below HW3.out HA2.out.lt).no_cells));clear ha hk hg)
     -- region 15
     have n1:w4.cell? ⟨adn.block,adn.off+(j+1),none⟩=some (.int .i64 (z1:Int)):=HKC4.out.cell HN1.out
     have o0:=HKC4.out.cell HO0.out
     have HO4:=ak_ (Cint_kc HO2.out HKC4.out)
     refine wp_region_rel 10 (fun _=>none) (fun _=>[]) (fun _ _ _=>True) (fun wq=>Below w4.heap.size w4 wq) (fun a b=>Below a.heap.size a b) (by kernel_rfl) (by kernel_rfl) (below_drew (Below.refl _ _)) (fun a b h k=>below_then h h.size k) (fun _ _ _ _ h _=>h) ?_
     simp only [List.take_succ_cons,List.take_zero,List.drop_succ_cons,List.drop_zero]
     iterate 10 (apply relQ_step rfl;apply Exists.intro;constructor;(focus (intro wq hwq;have n1:=pw_cell_below hwq n1;have o0:=pw_cell_below hwq o0;unfold Yl;go_wp2_with fail;exact ⟨rfl,_,rfl,rfl,Below.refl _ _⟩));(try simp only [Act.put,pa_,pb_,pc_]))
     refine relQ_nil (fun xx=>?_)
     repeat (refine relL_quiet rfl ?_)
     refine relL_nil (fun w5 hw5 _=>?_)
     clear n1 o0
     have HW5:=ak_ hw5
     clear hw5
     go_wp2_with (go_at_call 39;refine (wput_any w'.heap.size es4 _ (z1:Int) A9 k9 (outRow bs j) _ (HA4.out.below HW5.out HA4.out.lt) HK4.out (Kd.C_below HO4.out HW5.out)).mono ?_;rintro e w6 ⟨rfl,es6,ha,hk,hg⟩;have HA6:=ak_ ha;have HK6:=ak_ hk;have HB6:=ak_ (below_of_grown (below_then HB4.out HB4.out.size HW5.out) hg HWM.out);have HKC6:=ak_ ((HKC4.out.trans (KC.of_below HW5.out)).trans (KC.of_grown hg (HA4.out.below HW5.out HA4.out.lt).no_cells));clear ha hk hg)
     -- region 16
     have n1:w6.cell? ⟨adn.block,adn.off+(j+1),none⟩=some (.int .i64 (z1:Int)):=HKC6.out.cell HN1.out
     have b1':=HKC6.out.cell (blk_cell HX2.out 1)
     have b2':=HKC6.out.cell (blk_cell HX2.out 2)
     have b3':=HKC6.out.cell (blk_cell HX2.out 3)
     have b4':=HKC6.out.cell (blk_cell HX2.out 4)
     have hw2:=HW2.out
     refine wp_region_rel 10 (fun k=>if k=9 then some [] else none) (fun k=>[k]) (RT (tuseT (rd_T50 bs (j:Int)).f1) 9) (fun wq=>Below w6.heap.size w6 wq) (fun a b=>Below a.heap.size a b) (by kernel_rfl) (by kernel_rfl) (below_drew (Below.refl _ _)) (fun a b h k=>below_then h h.size k) (fun _ _ _ _ h hb=>h.below hb) ?_
     simp only [List.take_succ_cons,List.take_zero,List.drop_succ_cons,List.drop_zero]
     iterate 10 (first|(refine relQ_loud rfl ?_)|(apply relQ_step rfl;apply Exists.intro;constructor;(focus (intro wq hwq;have n1:=pw_cell_below hwq n1;have b1':=pw_cell_below hwq b1';have b2':=pw_cell_below hwq b2';have b3':=pw_cell_below hwq b3';have b4':=pw_cell_below hwq b4';unfold Yl;go_wp2_with fail;exact ⟨rfl,_,rfl,rfl,Below.refl _ _⟩));(try simp only [Act.put,pa_,pb_,pc_])))
     simp only [hw1,hw2]
     refine relQ_nil (fun xx=>?_)
     repeat (refine relL_quiet rfl ?_)
     refine relL_loud rfl (fun wq hwq _=>?_) ?_
     ·unfold Yl
      go_wp2_with (go_at_call 40;refine (termUses_any (rd_T50 bs (j:Int)).f1 _).mono ?_;rintro e w7 ⟨A7,c7,rfl,hC7,hb⟩)
      refine ⟨rfl,_,rfl,hb,?_⟩
      unfold RT
      intro _
      exact ⟨A7,c7,by simp,hC7⟩
     (try simp only [Act.put,pa_,pb_,pc_])
     refine relL_nil (fun w7 hw7 hRR=>?_)
     have r9:=hRR 9 (by decide) rfl
     unfold RT at r9
     obtain ⟨A7,c7,e7,hC7⟩:=r9 rfl
     clear r9
     have e7:xx 9=.slice A7 (tuseT (rd_T50 bs (j:Int)).f1).length c7:=by simpa using e7
     rw [e7]
     have HW7:=ak_ hw7
     have HC7:=ak_ hC7
     clear hRR hw7 hC7 e7 n1 b1' b2' b3' b4'
     go_wp2_with (go_at_call 39;refine (wput_any w'.heap.size es6 _ ((z1:Int) - 1) A7 c7 (tuseT (rd_T50 bs (j:Int)).f1) _ (HA6.out.below HW7.out HA6.out.lt) HK6.out HC7.out).mono ?_;rintro e w8 ⟨rfl,es8,ha,hk,hg⟩;have HA8:=ak_ ha;have HK8:=ak_ hk;have HB8:=ak_ (below_of_grown (below_then HB6.out HB6.out.size HW7.out) hg HWM.out);have HKC8:=ak_ ((HKC6.out.trans (KC.of_below HW7.out)).trans (KC.of_grown hg (HA6.out.below HW7.out HA6.out.lt).no_cells));have b0':=HKC8.out.cell (blk_cell HX2.out 0);clear ha hk hg)
     -- the operations
     have HKT:Aside0 (WS es8 (PtT p bs j)):=⟨HK8.out.imp (fun r q=>by rw [HZ0.out,HZ1.out];exact Iff.rfl)⟩
     have HXL:Aside0 ((rd_T50 bs (j:Int)).f0.length≤16384):=⟨RP.out.opLen_le j⟩
     have HOP:Aside0 (∀ k:Nat,opOf bs (j,k)=rd_T45 (rd_T50 bs (j:Int)).f0 (k:Int)):=⟨fun k=>rfl⟩
     have HOL:Aside0 (opLen bs j=(rd_T50 bs (j:Int)).f0.length):=⟨rfl⟩
     clear HK8 HA6 HK6 HB6 HKC6 HA4 HK4 HB4 HKC4 HW3 HW5 HW7 HC7 HA2 HB2 HK2
     generalize (rd_T50 bs (j:Int)).f0=xs at HX2 HG5 HXL HOP HOL l5 b0' ⊢
     go_loopw [79] (fun i wr=>∃ (k:Nat) (es:List (Int × Value)),k≤xs.length∧i=.int .i64 (k:Int)∧Aside0 (At wr w'.heap.size es)∧Aside0 (WS es (fun r q=>(∃ k',k'<k∧Op1 bs j k' r q)∨PtT p bs j r q))∧Aside0 (Below w.heap.size w wr)∧Aside0 (KC W2 wr)) (fun i _=>xs.length - (intOf i).toNat)
     case atStart=>exact ⟨0,es8,Nat.zero_le _,rfl,HA8,⟨HKT.out.imp (fun r q=>⟨fun h=>.inr h,fun h=>h.elim (fun ⟨k',hk,_⟩=>absurd hk (Nat.not_lt_zero _)) id⟩)⟩,HB8,HKC8⟩
     case round =>
      clear HA8 HKT HB8 HKC8 b0' b1
      obtain ⟨k,es,hk,rfl,HA,HK,HB,HKC⟩:=hrel
      by_cases hlk:k<xs.length
      ·have b2:decide ((k:Int)<(xs.length:Int))=true:=decide_eq_true (Int.ofNat_lt.2 hlk)
       have HWK:=ak_ (wr3 HZL.out (Nat.le_trans (Nat.le_of_lt hlk) HXL.out))
       have HX8:Aside0 ((rd_T45 xs (k:Int)).f5.length≤1000000000000):=⟨by
        have:=(RP.out.opA (j,k)).2
        rw [HOP.out] at this
        exact Nat.le_trans this (by decide)⟩
       have HPO:Aside0 (∀ (Q:Int→Int→Prop) (r q:Int),((r∈useX (rd_T45 xs (k:Int))∧q=(z0:Int)+(k:Int))∨(setX (rd_T45 xs (k:Int))≠0∧r=setX (rd_T45 xs (k:Int))∧q=(z0:Int)+(k:Int)+1))∨((∃ k',k'<k∧Op1 bs j k' r q)∨Q r q)↔(∃ k',k'<k+1∧Op1 bs j k' r q)∨Q r q):=⟨fun Q r q=>by
        rw [← ops_succ,HZ0.out,← HOP.out k]
        exact Iff.rfl⟩
       obtain ⟨adk,A6,c6,eA,x0,x1,x2,x3,x4,x5,x6,x7⟩:=at_T45 (C45_kc HG5.out HKC.out) (k:Int) (Int.natCast_nonneg k) (Int.ofNat_lt.2 hlk)
       simp only [Int.toNat_natCast] at x0 x1 x2 x3 x4 x5
       subst eA
       generalize rd_T45 xs (k:Int)=x at x0 x1 x2 x3 x4 x5 x6 x7 HX8 HPO
       have n0:=HKC.out.cell HN0.out
       go_wp2_with fail
       obtain ⟨W9,hW9⟩:∃ W9,wr.alloc (Obj.cells #[.int .i64 x.f0,.int .i64 x.f1,.int .i64 x.f2,.int .i64 x.f3,.int .i64 x.f4,.slice A6 x.f5.length c6] 45)=W9:=⟨_,rfl⟩
       have HK9:Aside0 (KC wr W9):=⟨by rw [← hW9];exact KC.of_below (below_alloc (Below.refl _ _) _)⟩
       have HB9:Aside0 (Below w.heap.size w W9):=⟨by rw [← hW9];exact below_alloc HB.out _⟩
       have HA9:Aside0 (At W9 w'.heap.size es):=⟨by rw [← hW9];exact HA.out.alloc _⟩
       have HX9:Aside0 (W9.heap[wr.heap.size]?=some (.cells #[.int .i64 x.f0,.int .i64 x.f1,.int .i64 x.f2,.int .i64 x.f3,.int .i64 x.f4,.slice A6 x.f5.length c6] 45 (0,0))):=⟨by rw [← hW9];exact blk_new wr _⟩
       rw [hW9]
       have HC9:=ak_ (Cint_kc x7 HK9.out)
       have HKC9:=ak_ (HKC.out.trans HK9.out)
       generalize wr.heap.size=gx at HX9 ⊢
       clear hW9 x0 x1 x2 x3 x4 x5 x7 n0 HA HB HKC HK9
       have n0:=HKC9.out.cell HN0.out
       have y0:=bc_ HX9 0
       have y1:=bc_ HX9 1
       have y2:=bc_ HX9 2
       have y3:=bc_ HX9 3
       have y4:=bc_ HX9 4
       have y5:=bc_ HX9 5
       try simp only [ga_,gb_,gc_] at y0 y1 y2 y3 y4 y5
       have hw3:=HWK.out.1
       refine wp_region_rel 9 (fun k=>if k=8 then some [] else none) (fun k=>[k]) (RT (useX x) 8) (fun wq=>Below W9.heap.size W9 wq) (fun a b=>Below a.heap.size a b) (by kernel_rfl) (by kernel_rfl) (below_drew (Below.refl _ _)) (fun a b h k=>below_then h h.size k) (fun _ _ _ _ h hb=>h.below hb) ?_
       simp only [List.take_succ_cons,List.take_zero,List.drop_succ_cons,List.drop_zero]
       iterate 9 (first|(refine relQ_loud rfl ?_)|(apply relQ_step rfl;apply Exists.intro;constructor;(focus (intro wq hwq;have n0:=pw_cell_below hwq n0;have y0:=pw_cell_below hwq y0;have y1:=pw_cell_below hwq y1;have y2:=pw_cell_below hwq y2;have y3:=pw_cell_below hwq y3;have y4:=pw_cell_below hwq y4;have y5:=pw_cell_below hwq y5;unfold Yl;go_wp2_with fail;exact ⟨rfl,_,rfl,rfl,Below.refl _ _⟩));(try simp only [Act.put,pa_,pb_,pc_])))
       simp only [hw3]
       refine relQ_nil (fun xx=>?_)
       repeat (refine relL_quiet rfl ?_)
       refine relL_loud rfl (fun wq hwq _=>?_) ?_
       ·unfold Yl
        go_wp2_with (go_at_call 41;refine (uses_any x A6 c6 _ HX8.out (Kd.C_below HC9.out hwq) x6).mono ?_;rintro e w10 ⟨A10,c10,rfl,hC10,hb⟩)
        refine ⟨rfl,_,rfl,hb,?_⟩
        unfold RT
        intro _
        exact ⟨A10,c10,by simp,hC10⟩
       (try simp only [Act.put,pa_,pb_,pc_])
       refine relL_nil (fun w10 hw10 hRR=>?_)
       have r8:=hRR 8 (by decide) rfl
       unfold RT at r8
       obtain ⟨A10,c10,e10,hC10⟩:=r8 rfl
       clear r8
       have e10:xx 8=.slice A10 (useX x).length c10:=by simpa using e10
       rw [e10]
       have HW10:=ak_ hw10
       have HC10:=ak_ hC10
       clear hRR hw10 hC10 e10 n0 y0 y1 y2 y3 y4 y5
       by_cases hs:setX x=0
       ·have b3:decide (setX x=0)=true:=decide_eq_true hs
        go_wp2_with (first
         | (go_at_call 39;refine (wput_any w'.heap.size es _ ((z0:Int)+(k:Int)) A10 c10 (useX x) _ (HA9.out.below HW10.out HA9.out.lt) HK.out HC10.out).mono ?_;rintro e w12 ⟨rfl,es12,ha,hk12,hg⟩;have HA12:=ak_ ha;have HK12:=ak_ hk12;have HB12:=ak_ (below_of_grown (below_then HB9.out HB9.out.size HW10.out) hg HWM.out);have HKC12:=ak_ ((KC.of_below HW10.out).trans (KC.of_grown hg (HA9.out.below HW10.out HA9.out.lt).no_cells));have y0:=HKC12.out.cell (blk_cell HX9.out 0);have y1:=HKC12.out.cell (blk_cell HX9.out 1);have y2:=HKC12.out.cell (blk_cell HX9.out 2);have y3:=HKC12.out.cell (blk_cell HX9.out 3);have y4:=HKC12.out.cell (blk_cell HX9.out 4);have y5:=HKC12.out.cell (blk_cell HX9.out 5);clear ha hk12 hg)
         | (go_at_call 42;refine (sets1_any x A6 c6 _ (Cint_kc HC9.out HKC12.out) x6).mono ?_;rintro e w13 ⟨rfl,hb⟩;have HA13:=ak_ (HA12.out.below hb HA12.out.lt);have HB13:=ak_ (below_then HB12.out HB12.out.size hb);have HKC13:=ak_ (HKC12.out.trans (KC.of_below hb));have hw5:=HWK.out.2.2;clear hb))
        have HKF:Aside0 (WS es12 (fun r q=>(∃ k',k'<k+1∧Op1 bs j k' r q)∨PtT p bs j r q)):=⟨HK12.out.imp (fun r q=>by
         rw [← HPO.out]
         constructor
         ·rintro (h|h)
          ·exact .inl (.inl h)
          ·exact .inr h
         ·rintro ((h|h)|h)
          ·exact .inl h
          ·exact absurd hs h.1
          ·exact .inr h)⟩
        go_roundw
        case rel=>exact ⟨k+1,es12,hlk,by first|(rw [HWK.out.2.2];exact num_cast k)|(with_reducible exact num_cast k),HA13,HKF,HB13,⟨HKC9.out.trans HKC13.out⟩⟩
        case measure=>first|(rw [HWK.out.2.2];exact num_meas hlk)|(with_reducible exact num_meas hlk)
       ·have b3:decide (setX x=0)=false:=decide_eq_false hs
        go_wp2_with (first
         | (go_at_call 39;have _h:=HA13.out;refine (wput_any w'.heap.size es12 _ ((z0:Int)+(k:Int)+1) (some ⟨w13.heap.size,0,none⟩) 1 [setX x] _ (HA13.out.alloc _) HK12.out (C_one w13 _)).mono ?_;rintro e w14 ⟨rfl,es14,ha,hk14,hg⟩;have HA14:=ak_ ha;have HK14:=ak_ hk14;have HB14:=ak_ (below_of_grown (below_alloc HB13.out _) hg HWM.out);have HKC14:=ak_ ((HKC13.out.trans (KC.of_below (below_alloc (Below.refl _ _) _))).trans (KC.of_grown hg (HA13.out.alloc _).no_cells));clear ha hk14 hg)
         | (go_at_call 39;refine (wput_any w'.heap.size es _ ((z0:Int)+(k:Int)) A10 c10 (useX x) _ (HA9.out.below HW10.out HA9.out.lt) HK.out HC10.out).mono ?_;rintro e w12 ⟨rfl,es12,ha,hk12,hg⟩;have HA12:=ak_ ha;have HK12:=ak_ hk12;have HB12:=ak_ (below_of_grown (below_then HB9.out HB9.out.size HW10.out) hg HWM.out);have HKC12:=ak_ ((KC.of_below HW10.out).trans (KC.of_grown hg (HA9.out.below HW10.out HA9.out.lt).no_cells));have y0:=HKC12.out.cell (blk_cell HX9.out 0);have y1:=HKC12.out.cell (blk_cell HX9.out 1);have y2:=HKC12.out.cell (blk_cell HX9.out 2);have y3:=HKC12.out.cell (blk_cell HX9.out 3);have y4:=HKC12.out.cell (blk_cell HX9.out 4);have y5:=HKC12.out.cell (blk_cell HX9.out 5);clear ha hk12 hg)
         | (go_at_call 42;refine (sets1_any x A6 c6 _ (Cint_kc HC9.out HKC12.out) x6).mono ?_;rintro e w13 ⟨rfl,hb⟩;have HA13:=ak_ (HA12.out.below hb HA12.out.lt);have HB13:=ak_ (below_then HB12.out HB12.out.size hb);have HKC13:=ak_ (HKC12.out.trans (KC.of_below hb));have hw4:=HWK.out.2.1;have hw5:=HWK.out.2.2;have n0:=(HKC9.out.trans HKC13.out).cell HN0.out;clear hb))
        have HKF:Aside0 (WS es14 (fun r q=>(∃ k',k'<k+1∧Op1 bs j k' r q)∨PtT p bs j r q)):=⟨HK14.out.imp (fun r q=>by
         rw [← HPO.out,List.mem_singleton]
         constructor
         ·rintro (h|h|h)
          ·exact .inl (.inr ⟨hs,h⟩)
          ·exact .inl (.inl h)
          ·exact .inr h
         ·rintro ((h|h)|h)
          ·exact .inr (.inl h)
          ·exact .inl h.2
          ·exact .inr (.inr h))⟩
        go_roundw
        case rel=>exact ⟨k+1,es14,hlk,by first|(rw [HWK.out.2.2];exact num_cast k)|(with_reducible exact num_cast k),HA14,HKF,HB14,⟨HKC9.out.trans HKC14.out⟩⟩
        case measure=>first|(rw [HWK.out.2.2];exact num_meas hlk)|(with_reducible exact num_meas hlk)
      ·have b2:decide ((k:Int)<(xs.length:Int))=false:=decide_eq_false (fun h=>hlk (Int.ofNat_lt.1 h))
       have ek:k=xs.length:=Nat.le_antisymm hk (Nat.le_of_not_lt hlk)
       have HKF:Aside0 (WS es (Pts p bs (j+1))):=⟨HK.out.imp (fun r q=>by rw [ek,← HOL.out];exact pts_succ)⟩
       clear ek
       go_wp2_with fail
       go_roundw
       case rel=>exact ⟨j+1,es,hlt,by go_num,HA,HKF,HB,⟨HKC2.out.trans HKC.out⟩⟩
       case measure=>first|(rw [hw1];exact num_meas hlt)|(with_reducible exact num_meas hlt)
    ·have b1:decide ((j:Int)<(bs.length:Int))=false:=decide_eq_false (by omega)
     obtain rfl:j=bs.length:=by omega
     have HEL:=ak_ (ws_len RP.out (Nat.le_refl _) HK.out)
     obtain ⟨ks,hks⟩:∃ ks,ks=(keysOf es).mergeSort fun x y=>decide (x≤y):=⟨_,rfl⟩
     have HSO:=ak_ hks
     have HKR:Aside0 (Rise ks):=⟨by rw [hks];exact rise_sort HK.out.nodup⟩
     have HKM:Aside0 (∀ k,k∈ks↔k∈keysOf es):=⟨fun k=>by rw [hks];exact List.mem_mergeSort⟩
     have HKL:Aside0 (ks.length=es.length):=⟨by rw [hks,List.length_mergeSort,keysOf,List.length_map]⟩
     have HKB:Aside0 (ks.length≤4096):=⟨by rw [HKL.out];exact HEL.out⟩
     clear hks
     go_wp2_with (first
      | (go_at_call 44;refine (keys53_any _ _).mono ?_;rintro e w20 ⟨rfl,rfl⟩)
      | (go_at_call 43;refine (sorted53_any wr.heap.size w'.heap.size es _ (blk_cell (blk_new wr (.cells #[.map (some w'.heap.size)] 57)) 0) (HA.out.alloc _) (Nat.le_trans HEL.out (by decide))).mono ?_;rintro e w21 ⟨v21,rfl,ho,hb⟩;rw [← HSO.out,← HKL.out] at ho;obtain ⟨Ak,ck,rfl,_,hCk⟩:=Kd.R_reads (show Kd.R (Kd.int .i64) 3 w21 _ (fun _=>True) v21 ks from Kd.R_of_own ho (fun _ _=>trivial));have HCK:=ak_ hCk;have HA21:=ak_ ((HA.out.alloc _).below hb (HA.out.alloc _).lt);have HB21:=ak_ (below_then (below_alloc HB.out (.cells #[.map (some w'.heap.size)] 57)) (below_alloc HB.out (.cells #[.map (some w'.heap.size)] 57)).size hb);clear ho hb hCk))
     have HKF:=HK
     clear HA HB HKC HK
     go_loopw [13,115] (fun v i wr=>∃ n:Nat,n≤ks.length∧i=.int .i64 (n:Int)∧Aside0 (Kd.R k52 52 wr w21.heap.size (fun _=>True) v ((ks.take n).map (spk es)))∧Aside0 (Below w21.heap.size w21 wr)) (fun _ i _=>ks.length - (intOf i).toNat)
     case atStart=>exact ⟨0,Nat.zero_le _,rfl,⟨Kd.R_nil _ _ _ _ _⟩,⟨Below.refl _ _⟩⟩
     case round =>
      obtain ⟨n,hn,rfl,HO,HB⟩:=hrel
      by_cases hlt:n<ks.length
      ·have b1:decide ((n:Int)<(ks.length:Int))=true:=decide_eq_true (Int.ofNat_lt.2 hlt)
       have hw1:wrap64 ((n:Int)+1)=(n:Int)+1:=(wr3 (z:=0) (by decide) (Nat.le_trans (Nat.le_of_lt hlt) (Nat.le_trans HKB.out (by decide)))).2.2
       obtain ⟨adk,eA,k0⟩:=Kd.at_int (Kd.C_below HCK.out HB.out) (n:Int) (Int.natCast_nonneg n) (Int.ofNat_lt.2 hlt)
       simp only [Int.toNat_natCast] at k0
       obtain ⟨a,b,hl,hs⟩:=HKF.out.key ((HKM.out (rd ks (n:Int))).1 (by rw [rd_mem hlt];exact List.getElem_mem hlt))
       have HTS:Aside0 ((ks.take (n+1)).map (spk es)=(ks.take n).map (spk es)++[⟨rd ks (n:Int),a,b⟩]):=⟨by rw [take_rd hlt,List.map_append,List.map_cons,List.map_nil,spk_eq hl]⟩
       have HLK:Aside0 (lk es (rd ks (n:Int))=some (.agg #[.int .i64 (rd ks (n:Int)),.int .i64 a,.int .i64 b])):=⟨hl⟩
       have HL:Aside0 (((ks.take n).map (spk es)).length≤4096):=⟨by rw [List.length_map,List.length_take];exact Nat.le_trans (Nat.min_le_right _ _) HKB.out⟩
       have HAr:=ak_ (HA21.out.below HB.out HA21.out.lt)
       clear hl hs
       generalize rd ks (n:Int)=z at k0 HTS HLK
       subst eA
       generalize (ks.take n).map (spk es)=out at HO HTS HL
       go_wp2_with (first
        | (at_lookup;refine IM.wpl_lookup _ rfl _ _ 57 false rfl 3 52 Tryz.underlying57 Tryz.underlying3 _ (zero26 _) w'.heap.size _ rfl HAr.out z rfl ?_;rw [HLK.out];simp only [Bool.false_eq_true,if_false,Option.getD_some])
        | (at_builtin;refine Kd.R_append k52 (w0:=w21) w21.heap.size rfl _ _ 28 52 (.agg #[.int .i64 0,.int .i64 0,.int .i64 0]) 24 rfl Tryz.underlying28 info52' rfl (by decide) (by decide) u13 out ⟨z,a,b⟩ [.int .i64 z,.int .i64 a,.int .i64 b] (fun _=>True) (fun _=>False) rfl rfl (k52_mkM _ _ _ _) (fun _ hk=>hk.elim) (fun _ _=>trivial) HO.out HB.out HB.out.size (by have:=HL.out;omega) ?_;intro v1 w5 ho5 hb5 hg5 hat5;have HO5:=ak_ ho5;have HB5:=ak_ hb5;clear ho5 hb5 hg5 hat5))
       go_roundw
       case rel=>exact ⟨n+1,hlt,by first|(rw [hw1];exact num_cast n)|(with_reducible exact num_cast n),⟨by rw [HTS.out];exact HO5.out⟩,HB5⟩
       case measure=>first|(rw [hw1];exact num_meas hlt)|(with_reducible exact num_meas hlt)
      ·have b1:decide ((n:Int)<(ks.length:Int))=false:=decide_eq_false (fun h=>hlt (Int.ofNat_lt.1 h))
       have en:n=ks.length:=Nat.le_antisymm hn (Nat.le_of_not_lt hlt)
       have HF:Aside0 (Kd.R k52 52 wr w21.heap.size (fun _=>True) _ (ks.map (spk es))):=⟨by have:=HO.out;rwa [en,List.take_length] at this⟩
       clear en HO
       go_wp2_with fail
       go_ret
       exact ⟨_,_,rfl,Kd.R_lower HF.out HB21.out.size,HKF.out.ofQ HKR.out HKM.out,below_then HB21.out HB21.out.size HB.out⟩
set_option maxHeartbeats 4000000 in
set_option maxRecDepth 100000 in
theorem of_bad (p:Int) (A:Option Addr) (c:Nat) (bs:List S50) (w:World) (hC:Kd.C k50 w A bs.length bs) (hR:rightF p bs 256=false) :
  Calls Tryz.prog 9 #[.agg #[.int .i64 p,.slice A bs.length c]] w fun e w'=>e=.returned (.slice none 0 0)∧Below w.heap.size w w':=by
 have HR:=ak_ hR
 have HC:=ak_ hC
 have HB0:=ak_ (below_alloc (Below.refl w.heap.size w) (.cells #[.int .i64 p,.slice A bs.length c] 24))
 have hu34:=Tryz.underlying24
 have hnil:∀ W,Sem.run Tryz.prog (binOp .eql 31 (.slice none 0 0) (.slice none 0 0)) W=.ok (.bool true) W:=fun W=>by kernel_rfl
 clear hC hR
 go_enter Tryz.func9,Tryz.ntmps9
 go_wp2_with (go_at_call 11;refine (number_bad p A c bs _ (Kd.C_below HC.out HB0.out) HR.out).mono ?_;rintro e w1 ⟨rfl,hb⟩;have HB1:=ak_ (below_then HB0.out HB0.out.size hb);clear hb)
 go_ret
 exact ⟨rfl,HB1.out⟩
/-! ### live.Most -/
theorem max2_nat (ats:Array TypeId) (ty:TypeId) (a b:Nat):Builtin.max_ ats ty #[.int .i64 (a:Int),.int .i64 (b:Int)]=pure (.int .i64 ((max a b:Nat):Int)):=by
 rw [max_two,max2_int,pure_bind]
 congr 2
 split<;>omega
theorem max3_nat (ats:Array TypeId) (ty:TypeId) (a b c:Nat):Builtin.max_ ats ty #[.int .i64 (a:Int),.int .i64 (b:Int),.int .i64 (c:Int)]=pure (.int .i64 ((max (max a b) c:Nat):Int)):=by
 rw [max_three,max2_int,pure_bind,max2_int,pure_bind]
 congr 2
 split<;>split<;>omega
/-- What the loud of 'max(most,len(s),len(behind(in,code.Succ(f)[i],b.Term)))' tell. -/
def RMo (bs:List S50) (x a:Nat) (k:Nat) (vs:List Value) (w' : World):Prop :=
 if k=5 then ∃ A2 c2,vs=[.slice A2 (succL bs).length c2]∧Kd.C (Kd.slice 3 (Kd.int .i64)) w' A2 (succL bs).length (succL bs)
 else if k=7 then ∃ ad A0 cb,vs=[.pointer (some ad)]∧w'.cell? ad=some (.slice A0 (rd_L1 (succL bs) (x:Int)).length cb)∧Kd.C (Kd.int .i64) w' A0 (rd_L1 (succL bs) (x:Int)).length (rd_L1 (succL bs) (x:Int))
 else if k=8 then ∃ A0 cb,vs=[.slice A0 (rd_L1 (succL bs) (x:Int)).length cb]∧Kd.C (Kd.int .i64) w' A0 (rd_L1 (succL bs) (x:Int)).length (rd_L1 (succL bs) (x:Int))
 else if k=15 then ∃ m es,vs=[.map (some m)]∧At w' m es∧es.length=a
 else if k=16 then vs=[.int .i64 (a:Int)] else True
theorem RMo.below {bs:List S50} {x a k:Nat} {vs:List Value} {w' w2:World} (h:RMo bs x a k vs w') (hb:Below w'.heap.size w' w2):RMo bs x a k vs w2:=by
 unfold RMo at h ⊢
 repeat' split at h
 ·rename_i h1
  rw [if_pos h1]
  obtain ⟨A2,c2,e,h⟩:=h
  exact ⟨A2,c2,e,Kd.C_below h hb⟩
 ·rename_i h1 h2
  rw [if_neg h1,if_pos h2]
  obtain ⟨ad,A0,cb,e,hc,h⟩:=h
  exact ⟨ad,A0,cb,e,pw_cell_below hb hc,Kd.C_below h hb⟩
 ·rename_i h1 h2 h3
  rw [if_neg h1,if_neg h2,if_pos h3]
  obtain ⟨A0,cb,e,h⟩:=h
  exact ⟨A0,cb,e,Kd.C_below h hb⟩
 ·rename_i h1 h2 h3 h4
  rw [if_neg h1,if_neg h2,if_neg h3,if_pos h4]
  obtain ⟨m,es,e,ha,hk⟩:=h
  exact ⟨m,es,e,ha.below hb ha.lt,hk⟩
 ·rename_i h1 h2 h3 h4 h5
  rw [if_neg h1,if_neg h2,if_neg h3,if_neg h4,if_pos h5]
  exact h
 ·rename_i h1 h2 h3 h4 h5
  rw [if_neg h1,if_neg h2,if_neg h3,if_neg h4,if_neg h5]
  trivial
attribute [local go_sem] max2_nat max3_nat
end Go.Proofs.YtnkgbnbbmcoiiaaGreat.S
namespace Go.Proofs.YtnkgbnbbmcoiiaaGreat.S
open Go.RowKit Go.IM Go.RelRegion Go.Proofs.YtnkgbnbbmcoiiaaGreatW.PrintWords Go.Proofs.YtnkgbnbbmcoiiaaGreatW.PrintLast Go.Proofs.YtnkgbnbbmcoiiaaGreatW.PrintMore
set_option linter.unusedVariables false
set_option linter.unusedSimpArgs false
/-! ### live.Most,its answer named -/
theorem MaxOf.ex {P:Nat→Prop} : ∀ B,(∀ x,P x→x≤B)→∃ m,MaxOf P m
 | 0,h=>⟨0,fun x hx=>h x hx,.inl rfl⟩
 | B+1,h=>by
  by_cases e:P (B+1)
  ·exact ⟨B+1,fun x hx=>h x hx,.inr e⟩
  ·exact MaxOf.ex B (fun x hx=>by
    have:=h x hx
    by_cases e2:x=B+1
    ·subst e2;exact absurd hx e
    ·omega)
end Go.Proofs.YtnkgbnbbmcoiiaaGreat.S
namespace Go.Proofs.YtnkgbnbbmcoiiaaGreat.S
open Go.RowKit Go.IM Go.Proofs.YtnkgbnbbmcoiiaaGreatW.PrintWords Go.Proofs.YtnkgbnbbmcoiiaaGreatW.PrintLast Go.Proofs.YtnkgbnbbmcoiiaaGreatW.PrintMore
set_option linter.unusedVariables false
set_option linter.unusedSimpArgs false
/-! ### The function of swagelaw25.small -/
def bsS:List S50:=[⟨[⟨1,1,0,0,4,[]⟩,⟨9,0,1,0,0,[]⟩],⟨3,1,0,0⟩⟩]
theorem sm_right:rightF 0 bsS 256=true:=by decide +kernel
theorem sm_u0:useX (opOf bsS (0,0))=[]:=by decide +kernel
theorem sm_u1:useX (opOf bsS (0,1))=[1]:=by decide +kernel
theorem sm_s0:setX (opOf bsS (0,0))=1:=by decide +kernel
theorem sm_s1:setX (opOf bsS (0,1))=0:=by decide +kernel
theorem sm_len:opLen bsS 0=2:=rfl
theorem sm_t:tuseT (rd_T50 bsS ((0:Nat):Int)).f1=[1]:=by decide +kernel
theorem sm_succ:succT (rd_T50 bsS ((0:Nat):Int)).f1=[]:=by decide +kernel
theorem sm_p0:pos bsS 0=0:=by decide +kernel
theorem sm_p1:pos bsS 1=3:=by decide +kernel
theorem sm_num:numL bsS=[0,3]:=by decide +kernel
theorem sm_bk {r:Int} : ¬ Lv.Bk (gOf bsS) (fun _ _=>False) 0 2 r:=by
 intro h
 have e0:(gOf bsS).use 0 ((gOf bsS).len 0 - 1 - 1)=[]:=sm_u0
 have e1:(gOf bsS).use 0 ((gOf bsS).len 0 - 1 - 0)=[1]:=sm_u1
 have e2:(gOf bsS).set 0 ((gOf bsS).len 0 - 1 - 1)=1:=sm_s0
 have e3:(gOf bsS).tuse 0=[1]:=sm_t
 rcases h with h|⟨h1,h⟩
 ·rw [e0] at h;cases h
 ·rw [e2] at h1
  rcases h with h|⟨_,h⟩
  ·rw [e1,List.mem_singleton] at h;exact h1 h
  ·rcases h with h|⟨j,_,h⟩
   ·rw [e3,List.mem_singleton] at h;exact h1 h
   ·exact h
theorem sm_at {r:Int} : ¬ Lv.At (gOf bsS) r 0 0:=fun h=>by
 have hw:=(rightF_iff sm_right).wf
 exact sm_bk (Lv.Bk.complete hw (fun i hi r hb=>by
  have:i=0:=by
   have:i<1:=hi
   omega
  subst this
  exact sm_bk hb) h (show 0<1 by decide) (Nat.zero_le _))
theorem sm_pts {r q:Int} : Pts 0 bsS bsS.length r q↔r=1∧(q=1∨q=2):=by
 have RP:=rightF_iff sm_right
 constructor
 ·rintro (⟨_,h1,h2⟩|⟨i,hi,h⟩)
  ·omega
  ·have e:i=0:=by
    have:i<1:=hi
    omega
   subst e
   rcases h with ⟨h,_⟩|⟨h,_⟩|⟨h,hq⟩|⟨k,hk,h⟩
   ·exact absurd ((mem_liveRow RP).1 h) sm_at
   ·obtain ⟨j,hj,_⟩:=(mem_outRow RP).1 h
    rw [sm_succ] at hj
    cases hj
   ·rw [sm_t,List.mem_singleton] at h
    rw [show (0:Nat)+1=1 from rfl,sm_p1] at hq
    exact ⟨h,by omega⟩
   ·rw [sm_len] at hk
    have hk2:k=0∨k=1:=by omega
    rcases hk2 with rfl|rfl
    ·rcases h with ⟨h,_⟩|⟨_,h,hq⟩
     ·rw [sm_u0] at h;cases h
     ·rw [sm_s0] at h
      rw [sm_p0] at hq
      exact ⟨h,by omega⟩
    ·rcases h with ⟨h,hq⟩|⟨h0,_⟩
     ·rw [sm_u1,List.mem_singleton] at h
      rw [sm_p0] at hq
      exact ⟨h,by omega⟩
     ·exact absurd sm_s1 h0
 ·rintro ⟨rfl,rfl|rfl⟩
  ·refine .inr ⟨0,by decide,.inr (.inr (.inr ⟨0,by decide,.inr ⟨?_,?_,?_⟩⟩))⟩
   ·rw [sm_s0];decide
   ·rw [sm_s0]
   ·rw [sm_p0];rfl
  ·refine .inr ⟨0,by decide,.inr (.inr (.inl ⟨?_,?_⟩))⟩
   ·rw [sm_t];exact List.mem_singleton.2 rfl
   ·rw [show (0:Nat)+1=1 from rfl,sm_p1];rfl
theorem sm_of {out:List S52} (h:OfQ (Pts 0 bsS bsS.length) out):out=[⟨1,1,2⟩]:=by
 have hx:∀ x∈out,x=⟨1,1,2⟩:=fun x hx=>by
  obtain ⟨r,a,b⟩:=x
  have hs:=h.span _ hx
  obtain ⟨e,h1⟩:=sm_pts.1 hs.lo
  obtain ⟨_,h2⟩:=sm_pts.1 hs.hi
  have h3:=hs.all 1 (sm_pts.2 ⟨e,.inl rfl⟩)
  have h4:=hs.all 2 (sm_pts.2 ⟨e,.inr rfl⟩)
  simp only at e h1 h2 h3 h4
  have ea:a=1:=by omega
  have eb:b=2:=by omega
  rw [e,ea,eb]
 obtain ⟨x,hx1,_⟩:=h.all 1 1 (sm_pts.2 ⟨rfl,.inl rfl⟩)
 have hr:=h.rise
 cases out with
 | nil=>cases hx1
 | cons y ys =>
  cases ys with
  | nil=>rw [hx y List.mem_cons_self]
  | cons z zs =>
   have e1:=hx y List.mem_cons_self
   have e2:=hx z (List.mem_cons_of_mem _ List.mem_cons_self)
   subst e1 e2
   have:=List.rel_of_pairwise_cons hr (show (1:Int)∈_ from List.mem_cons_self)
   simp at this
theorem srt1:srt [1]=[1]:=by
 unfold srt
 simp
theorem sm_most:spans_Most.f 5 [⟨1,1,2⟩]=some 1:=by
 have e:spans_At.f [⟨1,1,2⟩] 1=some [1]:=by
  unfold spans_At.f
  rw [if_pos (by decide)]
  have:ats [⟨1,1,2⟩] 1=[1]:=by decide +kernel
  rw [this,srt1]
 unfold spans_Most.f spans_Most.l0
 rw [if_pos (by decide),if_pos (by decide),if_pos (by decide)]
 have e1:(rd_T52 [⟨1,1,2⟩] 0).f1=1:=rfl
 rw [e1,e,Option.bind_some]
 decide +kernel
theorem sm_at2:spans_At.f [⟨1,1,2⟩] 2=some [1]:=by
 unfold spans_At.f
 rw [if_pos (by decide)]
 have:ats [⟨1,1,2⟩] 2=[1]:=by decide +kernel
 rw [this,srt1]
