import Derived.Test.YtnkgbnbbmcoiiaaGreatBk
import Derived.Test.YtnkgbnbbmcoiiaaGreatRfz
namespace Go.Proofs.YtnkgbnbbmcoiiaaGreat.S
open Go.RowKit Go.Shelf Go.IM Go.Proofs.YtnkgbnbbmcoiiaaGreatW.PrintWords Go.Proofs.YtnkgbnbbmcoiiaaGreatW.PrintLast Go.Proofs.YtnkgbnbbmcoiiaaGreatW.PrintMore
set_option linter.unusedVariables false
set_option linter.unusedSimpArgs false
attribute [local go_sem] Oper.semAt_some
/-- A row that is filled from its end. -/
def fillD (f:Nat→List Int) (n m:Nat):List (List Int):=(List.range n).map fun i=>if n - m≤i then f i else []
theorem fillD_zero (f:Nat→List Int) (n:Nat):fillD f n 0=List.replicate n []:=by
 unfold fillD
 apply List.ext_getElem (by simp)
 intro i h1 h2
 simp at h1 ⊢
 omega
theorem fillD_full (f:Nat→List Int) (n:Nat):fillD f n n=(List.range n).map f:=by
 unfold fillD
 apply List.map_congr_left
 intro i _
 rw [if_pos (by omega)]
theorem fillD_set (f:Nat→List Int) {n m:Nat} (h:m<n):(fillD f n m).set (n - 1 - m) (f (n - 1 - m))=fillD f n (m+1):=by
 unfold fillD
 apply List.ext_getElem (by simp)
 intro i h1 h2
 simp only [List.getElem_set,List.getElem_map,List.getElem_range]
 split
 ·rename_i e
  rw [if_pos (by omega),e]
 ·rename_i e
  by_cases h3:n - m≤i
  ·rw [if_pos h3,if_pos (by omega)]
  ·rw [if_neg h3,if_neg (by omega)]
theorem R_book {α:Type} {d:Kd α} {e:Nat} {W:World} {base:Nat} {ok:Nat→Prop} {v:Value} {xs:List α} (h:d.R e W base ok v xs) {l:Nat} {o:Obj} (o' : Obj) (ho:W.heap[l]?=some o) (hb:isBook o=true):d.R e (W.putObj l o') base ok v xs :=
 Kd.R_mono (Kd.R_move (Kd.R_bound h) (fun k hk=>World.putObj_heap_other (fun e=>by
  subst e
  obtain ⟨_,_,_,q,_,cells,hc⟩:=hk
  rw [hc] at ho
  cases ho
  cases hb))) (fun _ hk=>hk.1)
theorem bookR {β α:Type} {B:Nat} {d:Kd α} {e base:Nat} {ok:Nat→Prop} {v:Value} (f:β→List α):BookFrom B (fun s W=>d.R e W base ok v (f s)) :=
 ⟨fun s X Y hs hb=>Kd.R_below hs hb,fun s X l o o' hs hB ho hb=>R_book hs o' ho hb⟩
theorem R_made {W:World} {base m:Nat} (hb:base≤W.heap.size) (hm:m≤281474976710656):Kd.R (Kd.slice 3 (Kd.int .i64)) 31 (W.alloc (.cells (madeCells #[.slice none 0 0] m) 31)) base (fun _=>True) (.slice (some ⟨W.heap.size,0,none⟩) m m) (List.replicate m []):=by
 refine ⟨fun _ _=>trivial,(madeCells #[.slice none 0 0] m).toList,?_,?_⟩
 ·have h2:=World.ownsRow_lit (base:=base) (e:=31) (size:=1) W (madeCells #[.slice none 0 0] m) m hb (by unfold maxLen;omega) (by simp [size_madeCells])
  show (W.alloc _).ownsRow base 31 1 _ (List.replicate m ([]:List Int)).length _
  rw [List.length_replicate]
  exact h2
 ·have:=Kd.reps_made (R:=(Kd.slice 3 (Kd.int .i64)).M (W.alloc (.cells (madeCells #[.slice none 0 0] m) 31)) base (fun k=>True∧some k≠(Value.slice (some ⟨W.heap.size,0,none⟩) m m).ownBlock)) (z:=.slice none 0 0) (size:=1) (z0:=([]:List Int)) rfl (by decide) ⟨_,rfl,Kd.R_nil _ _ _ _ _⟩ m
  rw [Nat.mul_one] at this
  exact this
/-- After,in closed form. -/
noncomputable def afterL (bs:List S50) (x:Nat):List (List Int):=(List.range (opLen bs x)).map fun k=>liveRow bs x (k+1)
/-- What the loud of 'behind(in,code.Succ(f)[block],b.Term)' tell. -/
def R60 (bs:List S50) (x B:Nat) (k:Nat) (vs:List Value) (w' : World):Prop :=
 if k=2 then ∃ A2 c2,vs=[.slice A2 (succL bs).length c2]∧Kd.C (Kd.slice 3 (Kd.int .i64)) w' A2 (succL bs).length (succL bs)
 else if k=4 then ∃ ad A0 cb,vs=[.pointer (some ad)]∧w'.cell? ad=some (.slice A0 (rd_L1 (succL bs) (x:Int)).length cb)∧Kd.C (Kd.int .i64) w' A0 (rd_L1 (succL bs) (x:Int)).length (rd_L1 (succL bs) (x:Int))
 else if k=5 then ∃ A0 cb,vs=[.slice A0 (rd_L1 (succL bs) (x:Int)).length cb]∧Kd.C (Kd.int .i64) w' A0 (rd_L1 (succL bs) (x:Int)).length (rd_L1 (succL bs) (x:Int))
 else if k=8 then ∃ m es,vs=[.map (some m)]∧At w' m es∧KS es (Lv.Bk (gOf bs) (fun i r=>Lv.At (gOf bs) r i 0) x 0)∧B≤m
 else if k=9 then ∃ q,vs=[.pointer (some ⟨q,0,none⟩)]∧Boxed w' q 73 (.map none)∧B≤q else True
theorem R60.below {bs:List S50} {x B k:Nat} {vs:List Value} {w' w2:World} (h:R60 bs x B k vs w') (hb:Below w'.heap.size w' w2):R60 bs x B k vs w2:=by
 unfold R60 at h ⊢
 repeat' split at h
 ·rename_i h1
  rw [if_pos h1]
  obtain ⟨A2,c2,e,h⟩:=h
  exact ⟨A2,c2,e,Kd.C_below h hb⟩
 ·rename_i h1 h2
  rw [if_neg h1,if_pos h2]
  obtain ⟨ad,A0,cb,e,hc,h⟩:=h
  exact ⟨ad,A0,cb,e,pw_cell_below hb hc,Kd.C_below h hb⟩
 ·rename_i h1 h2 h3
  rw [if_neg h1,if_neg h2,if_pos h3]
  obtain ⟨A0,cb,e,h⟩:=h
  exact ⟨A0,cb,e,Kd.C_below h hb⟩
 ·rename_i h1 h2 h3 h4
  rw [if_neg h1,if_neg h2,if_neg h3,if_pos h4]
  obtain ⟨m,es,e,ha,hk,hm⟩:=h
  exact ⟨m,es,e,ha.below hb ha.lt,hk,hm⟩
 ·rename_i h1 h2 h3 h4 h5
  rw [if_neg h1,if_neg h2,if_neg h3,if_neg h4,if_pos h5]
  obtain ⟨q,e,hq,hm⟩:=h
  exact ⟨q,e,blk_below hq hb,hm⟩
 ·rename_i h1 h2 h3 h4 h5
  rw [if_neg h1,if_neg h2,if_neg h3,if_neg h4,if_neg h5]
  trivial
def R7 (zs:List Int) (B:Nat) (pa:Addr) (k:Nat) (vs:List Value) (w' : World):Prop:=if k=3 then ∃ A4 c4,vs=[.slice A4 zs.length c4]∧Kd.R (Kd.int .i64) 3 w' B (fun _=>True) (.slice A4 zs.length c4) zs else if k=4 then vs=[.pointer (some pa)] else True
theorem R7.below {zs:List Int} {B k:Nat} {pa:Addr} {vs:List Value} {a b:World} (h:R7 zs B pa k vs a) (hb:Below a.heap.size a b):R7 zs B pa k vs b:=by
 unfold R7 at h ⊢
 split at h
 ·rename_i hd
  rw [if_pos hd]
  obtain ⟨A4,c4,e,hr⟩:=h
  exact ⟨A4,c4,e,Kd.R_below hr hb⟩
 ·rename_i hd
  rw [if_neg hd]
  exact h
def AfterP (bs:List S50) (x:Nat) (w:World) (e:Ending) (w' : World):Prop:=∃ v,e=.returned v∧Kd.R (Kd.slice 3 (Kd.int .i64)) 31 w' w.heap.size (fun _=>True) v (afterL bs x)∧Below w.heap.size w w'
set_option maxHeartbeats 8000000 in
set_option maxRecDepth 100000 in
theorem after_in (p:Int) (A:Option Addr) (c:Nat) (bs:List S50) (fn:Int) (A1:Option Addr) (x:Nat) (w:World) (hC:Kd.C k50 w A bs.length bs) (hRP:RightP p bs fn) (hM:MapsAt w A1 bs.length (fun i r=>Lv.At (gOf bs) r i 0)) (hxn:x<bs.length) :
  CallsIn Fence.wide 6 Tryz.prog 56 #[.agg #[.int .i64 p,.slice A bs.length c],.slice A1 bs.length bs.length,.int .i64 (x:Int)] w (AfterP bs x w):=by
 have hu34:=Tryz.underlying24
 have hu43:=Tryz.underlying50
 have RP:=ak_ hRP
 have HC:=ak_ hC
 have HM:=ak_ hM
 have hlen:=hRP.len
 have hLm:=hRP.opLen_le x
 have HF0:=ak_ (blk_new w (.cells #[.int .i64 p,.slice A bs.length c] 24))
 have HB0:=ak_ (below_alloc (Below.refl w.heap.size w) (.cells #[.int .i64 p,.slice A bs.length c] 24))
 obtain ⟨bg,hbg⟩:=blks_at hC
 have HBG:=ak_ hbg
 have hAt:=hbg x hxn
 have sX:=hAt.out
 have hopsC:=hAt.row
 have HOC:=ak_ hopsC
 clear hC hRP hM hbg hAt hopsC
 have hLl:(rd_T50 bs (x:Int)).f0.length=opLen bs x:=rfl
 obtain ⟨ad,eA,k0,k1,k2,k3,k4⟩:=sX
 subst eA
 have q1:(0:Int)≤(x:Int):=by omega
 have q2:(x:Int)<(bs.length:Int):=by omega
 have k0:=pw_cell_below HB0.out k0
 have k1:=pw_cell_below HB0.out k1
 have k2:=pw_cell_below HB0.out k2
 have k3:=pw_cell_below HB0.out k3
 have k4:=pw_cell_below HB0.out k4
 refine callsIn_of_wp_marks Tryz.func56 rfl trivial ?_ rfl
 simp only [Tryz.ntmps56,List.size_toArray,List.length_cons,List.length_nil,Nat.reduceAdd,Nat.reduceSub,Array.replicate_succ,Array.replicate_zero,List.push_toArray,List.append_toArray,List.nil_append,List.cons_append]
 gi_wp2_with (gi_at_make;refine wplIn_makeW _ rfl _ _ 35 rfl 31 (.slice none 0 0) 1 24 Tryz.underlying35 info31 (by decide) (opLen bs x) rfl rfl (by omega) ?_)
 obtain ⟨S,hS⟩:∃ S,w.heap.size=S:=⟨_,rfl⟩
 obtain ⟨w5,hw5⟩:∃ w5,(((w.alloc (.cells #[.int .i64 p,.slice (some ad) bs.length c] 24)).alloc (.cells #[.slice (bg x).1 (opLen bs x) (bg x).2,.int .i64 (rd_T50 bs (x:Int)).f1.f0,.int .i64 (rd_T50 bs (x:Int)).f1.f1,.int .i64 (rd_T50 bs (x:Int)).f1.f2,.int .i64 (rd_T50 bs (x:Int)).f1.f3] 50)).alloc (.cells (madeCells #[.slice none 0 0] (opLen bs x)) 31)).alloc (.cells #[.slice (some ⟨S+2,0,none⟩) (opLen bs x) (opLen bs x)] 35)=w5:=⟨_,rfl⟩
 have hz5:w5.heap.size=S+4:=by rw [← hw5,← hS];simp [World.size_alloc]
 have HF5:Aside0 (w5.heap[S]?=some (.cells #[.int .i64 p,.slice (some ad) bs.length c] 24 (0,0))):=⟨by rw [← hw5,← hS];exact blk_alloc (blk_alloc (blk_alloc HF0.out _) _) _⟩
 have HX5:Aside0 (w5.heap[S+1]?=some (.cells #[.slice (bg x).1 (opLen bs x) (bg x).2,.int .i64 (rd_T50 bs (x:Int)).f1.f0,.int .i64 (rd_T50 bs (x:Int)).f1.f1,.int .i64 (rd_T50 bs (x:Int)).f1.f2,.int .i64 (rd_T50 bs (x:Int)).f1.f3] 50 (0,0))):=⟨by
  rw [← hw5]
  have:=blk_new (w.alloc (.cells #[.int .i64 p,.slice (some ad) bs.length c] 24)) (.cells #[.slice (bg x).1 (opLen bs x) (bg x).2,.int .i64 (rd_T50 bs (x:Int)).f1.f0,.int .i64 (rd_T50 bs (x:Int)).f1.f1,.int .i64 (rd_T50 bs (x:Int)).f1.f2,.int .i64 (rd_T50 bs (x:Int)).f1.f3] 50)
  rw [World.size_alloc,hS] at this
  exact blk_alloc (blk_alloc this _) _⟩
 have HO5:Aside0 (Kd.R (Kd.slice 3 (Kd.int .i64)) 31 w5 S (fun _=>True) (.slice (some ⟨S+2,0,none⟩) (opLen bs x) (opLen bs x)) (List.replicate (opLen bs x) [])):=⟨by
  rw [← hw5]
  have:=R_made (W:=(w.alloc (.cells #[.int .i64 p,.slice (some ad) bs.length c] 24)).alloc (.cells #[.slice (bg x).1 (opLen bs x) (bg x).2,.int .i64 (rd_T50 bs (x:Int)).f1.f0,.int .i64 (rd_T50 bs (x:Int)).f1.f1,.int .i64 (rd_T50 bs (x:Int)).f1.f2,.int .i64 (rd_T50 bs (x:Int)).f1.f3] 50)) (base:=S) (m:=opLen bs x) (by simp [World.size_alloc,hS];omega) (by omega)
  rw [World.size_alloc,World.size_alloc,hS] at this
  exact Kd.R_alloc this _⟩
 have HOB5:Aside0 (Boxed w5 (S+3) 35 (.slice (some ⟨S+2,0,none⟩) (opLen bs x) (opLen bs x))):=⟨by
  rw [← hw5]
  have:=Boxed.new (((w.alloc (.cells #[.int .i64 p,.slice (some ad) bs.length c] 24)).alloc (.cells #[.slice (bg x).1 (opLen bs x) (bg x).2,.int .i64 (rd_T50 bs (x:Int)).f1.f0,.int .i64 (rd_T50 bs (x:Int)).f1.f1,.int .i64 (rd_T50 bs (x:Int)).f1.f2,.int .i64 (rd_T50 bs (x:Int)).f1.f3] 50)).alloc (.cells (madeCells #[.slice none 0 0] (opLen bs x)) 31)) 35 (.slice (some ⟨S+2,0,none⟩) (opLen bs x) (opLen bs x))
  rwa [World.size_alloc,World.size_alloc,World.size_alloc,hS] at this⟩
 have HB5:Aside0 (Below w.heap.size w w5):=⟨by rw [← hw5];exact below_alloc (below_alloc (below_alloc (below_alloc (Below.refl _ _) _) _) _) _⟩
 simp only [hS,Nat.add_assoc,Nat.reduceAdd]
 rw [hw5]
 clear hw5 HF0 HB0 k0 k1 k2 k3 k4
 have sF0:=bc_ HF5 0
 have sF1:=bc_ HF5 1
 have sB0:=bc_ HX5 0
 have sB1:=bc_ HX5 1
 have sB2:=bc_ HX5 2
 have sB3:=bc_ HX5 3
 have sB4:=bc_ HX5 4
 simp only [ga_,gb_,gc_] at sF0 sF1 sB0 sB1 sB2 sB3 sB4
 have HSL:=ak_ (succL_at hxn)
 have HSC:=ak_ (RP.out.succ hxn)
 have hsll:=succL_length bs
 refine RelRegion.wpIn_region_rel (ro:=none) (K0:=?_) 10 (fun k=>if k=2 then some [] else if k=4 then some [2] else if k=5 then some [4] else if k=8 then some [5] else if k=9 then some [] else none) (fun k=>[k]) (R60 bs x w5.heap.size) (fun w'=>Below w5.heap.size w5 w') (fun a b=>Below a.heap.size a b) (by kernel_rfl) (by kernel_rfl) (by kernel_rfl) (below_drew (Below.refl _ _)) (fun a b h k=>below_then h h.size k) (fun _ _ _ _ h hb=>h.below hb) ?_ ?_
 case refine_1=>exact fun a w6=>∃ m es q A2 c2 ad2 A0 cb,a={ tmps:=#[.agg #[.int .i64 p,.slice (some ad) bs.length c],.slice A1 bs.length bs.length,.int .i64 (x:Int),.pointer (some ⟨S,0,none⟩),undef,undef,.slice none 0 0,.pointer (some ⟨S+1,0,none⟩),.pointer (some ⟨S+3,0,none⟩),.pointer (some ⟨q,0,none⟩),undef,undef,.pointer (some ⟨S,1,none⟩),.slice (some ad) bs.length c,.int .i64 (x:Int),.pointer (some (ad.add (x*5))),.agg #[.slice (bg x).1 (opLen bs x) (bg x).2,.int .i64 (rd_T50 bs (x:Int)).f1.f0,.int .i64 (rd_T50 bs (x:Int)).f1.f1,.int .i64 (rd_T50 bs (x:Int)).f1.f2,.int .i64 (rd_T50 bs (x:Int)).f1.f3],.pointer (some ⟨S+1,0,none⟩),.slice (bg x).1 (opLen bs x) (bg x).2,.int .i64 (opLen bs x:Int),.slice (some ⟨S+2,0,none⟩) (opLen bs x) (opLen bs x),.slice A1 bs.length bs.length,.agg #[.int .i64 p,.slice (some ad) bs.length c],.slice A2 (succL bs).length c2,.int .i64 (x:Int),.pointer (some ad2),.slice A0 (rd_L1 (succL bs) (x:Int)).length cb,.pointer (some ⟨S+1,1,none⟩),.agg #[.int .i64 (rd_T50 bs (x:Int)).f1.f0,.int .i64 (rd_T50 bs (x:Int)).f1.f1,.int .i64 (rd_T50 bs (x:Int)).f1.f2,.int .i64 (rd_T50 bs (x:Int)).f1.f3],.map (some m),undef,undef,undef,undef,undef,undef,undef,undef,undef,undef,undef,undef,undef,undef],defers:=[] }∧At w6 m es∧KS es (Lv.Bk (gOf bs) (fun i r=>Lv.At (gOf bs) r i 0) x 0)∧Boxed w6 q 73 (.map (some m))∧w5.heap.size≤m∧w5.heap.size≤q∧Below w5.heap.size w5 w6
 ·simp only [List.take_succ_cons,List.take_zero,List.drop_succ_cons,List.drop_zero]
  iterate 10 (first|(refine RelRegion.relQ_loud rfl ?_)|(apply RelRegion.relQ_step rfl;apply Exists.intro;constructor;(focus (intro w' hw';have sF0:=pw_cell_below hw' sF0;have sF1:=pw_cell_below hw' sF1;have sB1:=pw_cell_below hw' sB1;have sB2:=pw_cell_below hw' sB2;have sB3:=pw_cell_below hw' sB3;have sB4:=pw_cell_below hw' sB4;unfold RelRegion.Yl;go_wp2_with fail;exact ⟨rfl,_,rfl,rfl,Below.refl _ _⟩));(try simp only [Act.put,pa_,pb_,pc_])))
  refine RelRegion.relQ_nil (fun xx=>?_)
  repeat (refine RelRegion.relL_quiet rfl ?_)
  refine RelRegion.relL_loud rfl (fun w' hw' _=>?_) ?_
  ·unfold RelRegion.Yl
   go_wp2_with (go_at_call 52;refine (succ_any p (some ad) c bs _ (Kd.C_below HC.out (below_then HB5.out HB5.out.size hw')) RP.out.len.2).mono ?_;rintro e w6 ⟨v2,rfl,hr2,hb⟩)
   obtain ⟨A2,c2,rfl,_,hC2⟩:=Kd.R_reads hr2
   refine ⟨rfl,_,rfl,hb,?_⟩
   unfold R60
   rw [if_pos rfl]
   exact ⟨A2,c2,by simp,hC2⟩
  (try simp only [Act.put,pa_,pb_,pc_])
  repeat (refine RelRegion.relL_quiet rfl ?_)
  refine RelRegion.relL_loud rfl (fun w' hw' hR=>?_) ?_
  ·have r2:=hR 2 (by simp)
   unfold R60 at r2
   rw [if_pos rfl] at r2
   obtain ⟨A2,c2,e2,hC2⟩:=r2
   have e2:xx 2=.slice A2 (succL bs).length c2:=by simpa using e2
   rw [e2]
   obtain ⟨ad2,A0,cb,eA2,sE,hcb,hCr⟩:=at_L1 hC2 (x:Int) (by omega) (by omega)
   rw [Int.toNat_natCast] at sE
   subst eA2
   have q3:(x:Int)<((succL bs).length:Int):=by omega
   have HCR:=ak_ hCr
   clear hCr hcb hC2
   unfold RelRegion.Yl
   go_wp2_with fail
   refine ⟨rfl,_,rfl,Below.refl _ _,?_⟩
   unfold R60
   rw [if_neg (by decide),if_pos rfl]
   exact ⟨ad2.add x,A0,cb,by simp,sE,HCR.out⟩
  (try simp only [Act.put,pa_,pb_,pc_])
  refine RelRegion.relL_loud rfl (fun w' hw' hR=>?_) ?_
  ·have r4:=hR 4 (by simp)
   unfold R60 at r4
   rw [if_neg (by decide),if_pos rfl] at r4
   obtain ⟨adx,A0,cb,e4,sE,hCr⟩:=r4
   have e4:xx 4=.pointer (some adx):=by simpa using e4
   rw [e4]
   have HCR:=ak_ hCr
   clear hCr
   unfold RelRegion.Yl
   go_wp2_with fail
   refine ⟨rfl,_,rfl,Below.refl _ _,?_⟩
   unfold R60
   rw [if_neg (by decide),if_neg (by decide),if_pos rfl]
   exact ⟨A0,cb,by simp,HCR.out⟩
  (try simp only [Act.put,pa_,pb_,pc_])
  repeat (refine RelRegion.relL_quiet rfl ?_)
  refine RelRegion.relL_loud rfl (fun w' hw' hR=>?_) ?_
  ·have r5:=hR 5 (by simp)
   unfold R60 at r5
   rw [if_neg (by decide),if_neg (by decide),if_pos rfl] at r5
   obtain ⟨A0,cb,e5,hCr⟩:=r5
   have e5:xx 5=.slice A0 (rd_L1 (succL bs) (x:Int)).length cb:=by simpa using e5
   rw [e5]
   have hb61:=behind_any A1 bs.length bs.length (fun i r=>Lv.At (gOf bs) r i 0) A0 cb (rd_L1 (succL bs) (x:Int)) (rd_T50 bs (x:Int)).f1 w' (by omega) (HM.out.below (below_then HB5.out HB5.out.size hw')) hCr (by rw [HSL.out];exact HSC.out)
   have HB61:=ak_ hb61
   clear hb61 hCr
   unfold RelRegion.Yl
   go_wp2_with (go_at_call 57;refine HB61.out.mono ?_;rintro e w6 ⟨m,es,rfl,ha,hk,hms,hb⟩)
   refine ⟨rfl,_,rfl,hb,?_⟩
   unfold R60
   rw [if_neg (by decide),if_neg (by decide),if_neg (by decide),if_pos rfl]
   exact ⟨m,es,by simp,ha,by rw [HSL.out] at hk;exact hk,Nat.le_trans hw'.size hms⟩
  (try simp only [Act.put,pa_,pb_,pc_])
  refine RelRegion.relL_loud rfl (fun w' hw' _=>?_) ?_
  ·unfold RelRegion.Yl
   go_wp2_with fail
   refine ⟨rfl,_,rfl,below_alloc (Below.refl _ _) _,?_⟩
   unfold R60
   rw [if_neg (by decide),if_neg (by decide),if_neg (by decide),if_neg (by decide),if_pos rfl]
   exact ⟨w'.heap.size,by simp,Boxed.new w' 73 (.map none),hw'.size⟩
  (try simp only [Act.put,pa_,pb_,pc_])
  refine RelRegion.relL_nil (fun w' hw' hR=>?_)
  have r2:=hR 2 (by decide) rfl
  have r4:=hR 4 (by decide) rfl
  have r5:=hR 5 (by decide) rfl
  have r8:=hR 8 (by decide) rfl
  have r9:=hR 9 (by decide) rfl
  unfold R60 at r2 r4 r5 r8 r9
  rw [if_pos rfl] at r2
  rw [if_neg (by decide),if_pos rfl] at r4
  rw [if_neg (by decide),if_neg (by decide),if_pos rfl] at r5
  rw [if_neg (by decide),if_neg (by decide),if_neg (by decide),if_pos rfl] at r8
  rw [if_neg (by decide),if_neg (by decide),if_neg (by decide),if_neg (by decide),if_pos rfl] at r9
  obtain ⟨A2,c2,e2,_⟩:=r2
  obtain ⟨ad2,_,_,e4,_,_⟩:=r4
  obtain ⟨A0,cb,e5,_⟩:=r5
  obtain ⟨m,es,e8,ha,hk,hm⟩:=r8
  obtain ⟨q,e9,hq,hqm⟩:=r9
  have e2:xx 2=.slice A2 (succL bs).length c2:=by simpa using e2
  have e4:xx 4=.pointer (some ad2):=by simpa using e4
  have e5:xx 5=.slice A0 (rd_L1 (succL bs) (x:Int)).length cb:=by simpa using e5
  have e8:xx 8=.map (some m):=by simpa using e8
  have e9:xx 9=.pointer (some ⟨q,0,none⟩):=by simpa using e9
  rw [e2,e4,e5,e8,e9]
  have cq:=hq.cell
  have fq:=hq.frozen
  have HQ:=ak_ hq
  have HA:=ak_ ha
  have HKS:=ak_ hk
  have HW:=ak_ hw'
  clear hq ha hk hw' hR e2 e4 e5 e8 e9
  go_wp2_with fail
  exact ⟨m,es,q,⟨rfl,rfl⟩,HA.out.setCell (a:=⟨q,0,none⟩) (fun e=>HA.out.not_cells HQ.out e.symm) _,HKS.out,HQ.out.set _,by omega,by omega,by have h:=HW.out.setCell (p:=⟨q,0,none⟩) hqm (.map (some m));rwa [hz5] at h⟩
 ·rintro a w6 ⟨m,es,q,A2,c2,ad2,A0,cb,rfl,ha,hk,hq,hm,hqm,hb⟩
  have HA6:=ak_ ha
  have HK6:=ak_ hk
  have HQ6:=ak_ hq
  have HM6:=ak_ hm
  have HQM:=ak_ hqm
  have HB6:=ak_ hb
  have HX6:=ak_ (blk_below HX5.out hb)
  have HO6:=ak_ (Kd.R_below HO5.out hb)
  have HOB6:=ak_ (blk_below HOB5.out hb)
  have HBw6:=ak_ (below_then HB5.out HB5.out.size hb)
  have sB0:=bc_ HX6 0
  simp only [ga_,gb_,gc_] at sB0
  clear ha hk hq hm hqm hb sF0 sF1 sB1 sB2 sB3 sB4 hsll
  gi_wp2_with (refine ⟨trivial,?_⟩;gi_at_call 81;refine (bo_in _ _ _ _ _).mono ?_;rintro e w7 ⟨rfl,rfl⟩)
  obtain ⟨w7,hw7⟩:∃ w7,w6.alloc (.cells #[.slice (bg x).1 (opLen bs x) (bg x).2] 46)=w7:=⟨_,rfl⟩
  obtain ⟨Y,hY⟩:∃ Y,w6.heap.size=Y:=⟨_,rfl⟩
  have hz7:w7.heap.size=Y+1:=by rw [← hw7,← hY];simp [World.size_alloc]
  have hY5:S+4≤Y:=by have:=HB6.out.size;omega
  have hb67:Below w6.heap.size w6 w7:=by rw [← hw7];exact below_alloc (Below.refl _ _) _
  have HA7:=ak_ (HA6.out.below hb67 HA6.out.lt)
  have HQ7:Aside0 (Boxed w7 q 73 (.map (some m))):=⟨blk_below HQ6.out hb67⟩
  have HO7:=ak_ (Kd.R_below HO6.out hb67)
  have HOB7:Aside0 (Boxed w7 (S+3) 35 (.slice (some ⟨S+2,0,none⟩) (opLen bs x) (opLen bs x))):=⟨blk_below HOB6.out hb67⟩
  have HB7:Aside0 (Below S w w7):=⟨by rw [← hS];exact below_then HBw6.out HBw6.out.size hb67⟩
  have HY7:Aside0 (w7.heap[Y]?=some (.cells #[.slice (bg x).1 (opLen bs x) (bg x).2] 46 (0,0))):=⟨by rw [← hw7,← hY];exact blk_new _ _⟩
  have hqY:q<Y:=by rw [← hY];exact HQ6.out.lt
  have hmY:m<Y:=by rw [← hY];exact HA6.out.lt
  rw [hY,hw7]
  clear hw7 hb67 sB0
  obtain ⟨og,hog⟩:=ops_at HOC.out
  have HOG:=ak_ hog
  have hst2:=bo_seq 5 (by decide) Y (bg x).1 (bg x).2 (rd_T50 bs (x:Int)).f0 og (by rw [hLl];omega) (KE (S+2) (S+3)) (fun h k=>h.trans k) (fun h=>KE.of_below h) w7 (fun Wa wr2 hW hk=>by
   have hkc:KC w wr2:=KE.kc (below_then (show Below w.heap.size w w7 by rw [hS];exact HB7.out) (show w.heap.size≤w7.heap.size by have:=HB7.out.size;omega) hW) (by omega) hk
   refine ⟨?_,HOG.out.kc hkc⟩
   have h1:=hk.cells Y _ (by omega) ((hW.block Y (blk_lt HY7.out)).trans HY7.out) rfl
   have h2:=blk_cell h1 0
   rw [hLl]
   simpa only [List.getElem?_toArray,List.getElem?_cons_zero,List.getElem?_cons_succ] using h2)
  clear hog
  obtain ⟨f,hf⟩:∃ f:Nat→List Int,f=fun k=>liveRow bs x (k+1):=⟨_,rfl⟩
  have HF:=ak_ hf
  clear hf
  refine wpIn_rangeFunc_H rfl (by decide) (gf:=107) (lb:=#[.pointer (some ⟨Y,0,none⟩)]) rfl trivial (enters_of Tryz.func107 (by kernel_rfl) rfl)
   hst2 (fun h k=>h.trans k) (fun Wa l o o' hl ho hb=>KE.putObj Wa l o' ho (not_cells_of_book hb)) (Below.refl _ _) (fun _=>rfl)
   (fun pre2 W2=>∃ es2,At W2 m es2∧KS es2 (Lv.Bk (gOf bs) (fun i r=>Lv.At (gOf bs) r i 0) x pre2.length)∧Boxed W2 q 73 (.map (some m))∧Boxed W2 (S+3) 35 (.slice (some ⟨S+2,0,none⟩) (opLen bs x) (opLen bs x)) ∧
    Kd.R (Kd.slice 3 (Kd.int .i64)) 31 W2 S (fun _=>True) (.slice (some ⟨S+2,0,none⟩) (opLen bs x) (opLen bs x)) (fillD f (opLen bs x) pre2.length)∧Below S w W2)
   (fun _ _ _=>False) ?hI2 (fun _=>BookFrom.pure _ _) ⟨es,HA7.out,HK6.out,HQ7.out,HOB7.out,by rw [List.length_nil,fillD_zero];exact HO7.out,HB7.out⟩
   (fun y a' W2=>∃ b2,a'={ tmps:=#[.agg #[.int .i64 p,.slice (some ad) bs.length c],.slice A1 bs.length bs.length,.int .i64 (x:Int),.pointer (some ⟨S,0,none⟩),undef,undef,.slice none 0 0,.pointer (some ⟨S+1,0,none⟩),.pointer (some ⟨S+3,0,none⟩),.pointer (some ⟨q,0,none⟩),.int .i64 (y:Int),.pointer (some ⟨b2,0,none⟩),.pointer (some ⟨S,1,none⟩),.slice (some ad) bs.length c,.int .i64 (x:Int),.pointer (some (ad.add (x*5))),.agg #[.slice (bg x).1 (opLen bs x) (bg x).2,.int .i64 (rd_T50 bs (x:Int)).f1.f0,.int .i64 (rd_T50 bs (x:Int)).f1.f1,.int .i64 (rd_T50 bs (x:Int)).f1.f2,.int .i64 (rd_T50 bs (x:Int)).f1.f3],.pointer (some ⟨S+1,0,none⟩),.slice (bg x).1 (opLen bs x) (bg x).2,.int .i64 (opLen bs x:Int),.slice (some ⟨S+2,0,none⟩) (opLen bs x) (opLen bs x),.slice A1 bs.length bs.length,.agg #[.int .i64 p,.slice (some ad) bs.length c],.slice A2 (succL bs).length c2,.int .i64 (x:Int),.pointer (some ad2),.slice A0 (rd_L1 (succL bs) (x:Int)).length cb,.pointer (some ⟨S+1,1,none⟩),.agg #[.int .i64 (rd_T50 bs (x:Int)).f1.f0,.int .i64 (rd_T50 bs (x:Int)).f1.f1,.int .i64 (rd_T50 bs (x:Int)).f1.f2,.int .i64 (rd_T50 bs (x:Int)).f1.f3],.map (some m),.pointer (some ⟨S+1,0,none⟩),.slice (bg x).1 (opLen bs x) (bg x).2,.func (.func 107) #[] #[.pointer (some ⟨Y,0,none⟩)],.int .i64 (y:Int),opV (rd_T45 (rd_T50 bs (x:Int)).f0 (y:Int)) (og y),undef,undef,undef,undef,undef,undef,undef,undef,undef],defers:=[] }∧W2.heap[b2]?=some (.cells #[.int .i64 (rd_T45 (rd_T50 bs (x:Int)).f0 (y:Int)).f0,.int .i64 (rd_T45 (rd_T50 bs (x:Int)).f0 (y:Int)).f1,.int .i64 (rd_T45 (rd_T50 bs (x:Int)).f0 (y:Int)).f2,.int .i64 (rd_T45 (rd_T50 bs (x:Int)).f0 (y:Int)).f3,.int .i64 (rd_T45 (rd_T50 bs (x:Int)).f0 (y:Int)).f4,.slice (og y).1 (rd_T45 (rd_T50 bs (x:Int)).f0 (y:Int)).f5.length (og y).2] 45 (0,0)))
   ?hAx2 ?assign2 ?body2 ?done2 ?stop2
  case hI2 =>
   exact BookFrom.ex fun es2=>(BookFrom.at _ (fun _=>m) (fun _=>es2)).and ((BookFrom.pure _ _).and ((BookFrom.boxed _ q 73 _).and ((BookFrom.boxed _ (S+3) 35 _).and ((bookR _).and (BookFrom.belowB (by omega) (by omega))))))
  case hAx2 =>
   intro y a'
   exact BookFrom.ex fun b=>(BookFrom.pure _ _).and (BookFrom.cells _ (fun _=>b) _ (fun _=>rfl))
  case assign2 =>
   intro lr2 pre2 y W2 KK hI1 hKK
   unfold boV opV
   unfold opV at hKK
   generalize rd_T45 (rd_T50 bs (x:Int)).f0 (y:Int)=z at hKK
   generalize og y=g at hKK
   have HI1:=ak_ hI1
   have HKK:=ak_ hKK
   clear hI1 hKK
   gi_wp2
   refine HKK.out _ _ (KB.of_below (below_alloc (Below.refl _ _) _)) (KE.of_below (below_alloc (Below.refl _ _) _)) ?_ ⟨W2.heap.size,rfl,blk_new _ _⟩
   obtain ⟨es2,h1,h2,h3,h4,h5,h6⟩:=HI1.out
   exact ⟨es2,h1.alloc _,h2,h3.alloc _,h4.alloc _,Kd.R_alloc h5 _,h6.alloc (by have:=h6.size;omega) _⟩
  case body2 =>
   rintro lr2 pre2 y a' W2 _ _ ⟨es2,h1,h2,h3,h4,h5,h6⟩ ⟨b2,rfl,hb2⟩ ⟨k2,hk2,hpre2,hy2⟩
   rw [hLl] at hk2 hy2
   have hyl:y<opLen bs x:=by omega
   have hop:=RP.out.opA (x,y)
   have hop2:=(HOG.out y (by rw [hLl];exact hyl))
   have hXY:rd_T45 (rd_T50 bs (x:Int)).f0 (y:Int)=opOf bs (x,y):=rfl
   rw [hXY] at hb2 hop2
   rw [hXY]
   have hpl:pre2.length=k2:=by rw [hpre2,downs_length]
   rw [hpl] at h2 h5
   have HPL2:Aside0 ((pre2++[y]).length=k2+1):=⟨by rw [List.length_append,hpl,List.length_singleton]⟩
   have HSTEP:Aside0 (∀ r,(r∈useX (opOf bs (x,y))∨(r≠setX (opOf bs (x,y))∧Lv.Bk (gOf bs) (fun i r=>Lv.At (gOf bs) r i 0) x k2 r))↔Lv.Bk (gOf bs) (fun i r=>Lv.At (gOf bs) r i 0) x (k2+1) r):=⟨fun r=>by
    subst hy2
    rfl⟩
   have hAT2:∀ r,Lv.Bk (gOf bs) (fun i r=>Lv.At (gOf bs) r i 0) x k2 r↔Lv.At (gOf bs) r x (y+1):=fun r=>by
    have:=Lv.bk_at (g:=gOf bs) (I:=fun i r=>Lv.At (gOf bs) r i 0) RP.out.wf (fun _ _ _=>Iff.rfl) x hxn k2 (Nat.le_of_lt hk2) r
    rwa [show (gOf bs).len x - k2=y+1 by show opLen bs x - k2=y+1;omega] at this
   have HAT2:=ak_ hAT2
   have hFY:f y=liveRow bs x (y+1):=by rw [HF.out]
   have HFY:=ak_ hFY
   have HFS:Aside0 ((fillD f (opLen bs x) k2).set y (f y)=fillD f (opLen bs x) (k2+1)):=⟨by have:=fillD_set f hk2;rwa [← hy2] at this⟩
   have hes:es2.length≤4096:=h2.sz.regs (fun r h=>RP.out.at_reg ((hAT2 r).1 h))
   have hlen8:=hop.2
   have HROW:=ak_ hop2.row
   have hcapp:=hop2.cap
   have hNB:b2≠S+2:=fun e=>by
    obtain ⟨cells,hc⟩:=Kd.R_typed h5 (S+2) (by simp [Value.ownBlock])
    rw [e,hc] at hb2
    cases hb2
   have hqT:q≠S+2:=by have:=HQM.out;omega
   have sO:=h4.cell
   have sq:=h3.cell
   have q3:(0:Int)≤(y:Int):=by omega
   have q4:(y:Int)<(opLen bs x:Int):=by omega
   have HA2:=ak_ h1
   have HK2:=ak_ h2
   have HQ2:=ak_ h3
   have HOB2:=ak_ h4
   have HO2:=ak_ h5
   have HB2:=ak_ h6
   have HX2:=ak_ hb2
   have hS2:S≤W2.heap.size:=by have:=h6.size;omega
   clear h1 h2 h3 h4 h5 h6 hb2 hop hop2 hXY hpl hpre2 hAT2 hFY hy2
   unfold opV
   gi_wp2
   refine RelRegion.wpIn_region_rel (ro:=some lr2) (K0:=?_) 5 (fun k=>if k=3∨k=4 then some [] else none) (fun k=>[k]) (R7 (f y) W2.heap.size ⟨S+2,y,none⟩) (fun w'=>Below W2.heap.size W2 w') (fun a b=>Below a.heap.size a b) (by kernel_rfl) (by kernel_rfl) (by kernel_rfl) (below_drew (Below.refl _ _)) (fun a b h k=>below_then h h.size k) (fun _ _ _ _ h hb=>h.below hb) ?_ ?_
   case refine_1=>exact fun a w8=>∃ A4 c4,a={ tmps:=#[.agg #[.int .i64 p,.slice (some ad) bs.length c],.slice A1 bs.length bs.length,.int .i64 (x:Int),.pointer (some ⟨S,0,none⟩),undef,undef,.slice none 0 0,.pointer (some ⟨S+1,0,none⟩),.pointer (some ⟨S+3,0,none⟩),.pointer (some ⟨q,0,none⟩),.int .i64 (y:Int),.pointer (some ⟨b2,0,none⟩),.pointer (some ⟨S,1,none⟩),.slice (some ad) bs.length c,.int .i64 (x:Int),.pointer (some (ad.add (x*5))),.agg #[.slice (bg x).1 (opLen bs x) (bg x).2,.int .i64 (rd_T50 bs (x:Int)).f1.f0,.int .i64 (rd_T50 bs (x:Int)).f1.f1,.int .i64 (rd_T50 bs (x:Int)).f1.f2,.int .i64 (rd_T50 bs (x:Int)).f1.f3],.pointer (some ⟨S+1,0,none⟩),.slice (bg x).1 (opLen bs x) (bg x).2,.int .i64 (opLen bs x:Int),.slice (some ⟨S+2,0,none⟩) (opLen bs x) (opLen bs x),.slice A1 bs.length bs.length,.agg #[.int .i64 p,.slice (some ad) bs.length c],.slice A2 (succL bs).length c2,.int .i64 (x:Int),.pointer (some ad2),.slice A0 (rd_L1 (succL bs) (x:Int)).length cb,.pointer (some ⟨S+1,1,none⟩),.agg #[.int .i64 (rd_T50 bs (x:Int)).f1.f0,.int .i64 (rd_T50 bs (x:Int)).f1.f1,.int .i64 (rd_T50 bs (x:Int)).f1.f2,.int .i64 (rd_T50 bs (x:Int)).f1.f3],.map (some m),.pointer (some ⟨S+1,0,none⟩),.slice (bg x).1 (opLen bs x) (bg x).2,.func (.func 107) #[] #[.pointer (some ⟨Y,0,none⟩)],.int .i64 (y:Int),.agg #[.int .i64 (opOf bs (x,y)).f0,.int .i64 (opOf bs (x,y)).f1,.int .i64 (opOf bs (x,y)).f2,.int .i64 (opOf bs (x,y)).f3,.int .i64 (opOf bs (x,y)).f4,.slice (og y).1 (opOf bs (x,y)).f5.length (og y).2],.slice (some ⟨S+2,0,none⟩) (opLen bs x) (opLen bs x),.int .i64 (y:Int),.map (some m),.slice A4 (f y).length c4,.pointer (some ⟨S+2,y,none⟩),undef,undef,undef,undef],defers:=[] }∧Kd.R (Kd.slice 3 (Kd.int .i64)) 31 w8 S (fun _=>True) (.slice (some ⟨S+2,0,none⟩) (opLen bs x) (opLen bs x)) (fillD f (opLen bs x) (k2+1))∧W2.grownBy w8 (some (S+2))∧Below S w w8
   ·simp only [List.take_succ_cons,List.take_zero,List.drop_succ_cons,List.drop_zero]
    iterate 5 (first|(refine RelRegion.relQ_loud rfl ?_)|(apply RelRegion.relQ_step rfl;apply Exists.intro;constructor;(focus (intro w' hw';have sO:=pw_cell_below hw' sO;have sq:=pw_cell_below hw' sq;unfold RelRegion.Yl;go_wp2_with fail;exact ⟨rfl,_,rfl,rfl,Below.refl _ _⟩));(try simp only [Act.put,pa_,pb_,pc_])))
    refine RelRegion.relQ_nil (fun xx=>?_)
    repeat (refine RelRegion.relL_quiet rfl ?_)
    refine RelRegion.relL_loud rfl (fun w' hw' _=>?_) ?_
    ·unfold RelRegion.Yl
     go_wp2_with (go_at_call 50;refine (row_any m es2 _ _ (HA2.out.below hw' HA2.out.lt) HK2.out (by omega)).mono ?_;rintro e w9 ⟨v9,zs,rfl,hr9,hrise,hmem,hb9⟩)
     have hz:zs=f y:=by rw [HFY.out];exact liveRow_eq RP.out hrise (fun r=>(hmem r).trans (HAT2.out r))
     subst hz
     obtain ⟨A9,c9,rfl⟩:=Kd.R_slice hr9
     refine ⟨rfl,_,rfl,hb9,?_⟩
     unfold R7
     rw [if_pos rfl]
     exact ⟨A9,c9,by simp,Kd.R_lower hr9 hw'.size⟩
    (try simp only [Act.put,pa_,pb_,pc_])
    refine RelRegion.relL_loud rfl (fun w' hw' _=>?_) ?_
    ·unfold RelRegion.Yl
     go_wp2_with fail
     refine ⟨rfl,_,rfl,Below.refl _ _,?_⟩
     unfold R7
     rw [if_neg (by decide),if_pos rfl]
     simp
    (try simp only [Act.put,pa_,pb_,pc_])
    refine RelRegion.relL_nil (fun w' hw' hR=>?_)
    have r3:=hR 3 (by decide) rfl
    have r4:=hR 4 (by decide) rfl
    unfold R7 at r3 r4
    rw [if_pos rfl] at r3
    rw [if_neg (by decide),if_pos rfl] at r4
    obtain ⟨A9,c9,e3,hr9⟩:=r3
    have e3:xx 3=.slice A9 (f y).length c9:=by simpa using e3
    have e4:xx 4=.pointer (some ⟨S+2,y,none⟩):=by simpa using r4
    rw [e3,e4]
    have HO8:=ak_ (Kd.R_below HO2.out hw')
    have HBw8:=ak_ (HB2.out.trans (hw'.mono hS2))
    have HS8:Aside0 (S+4≤W2.heap.size):=⟨by have:=HOB2.out.lt;omega⟩
    have HR9:=ak_ (Kd.R_mono (Kd.R_bound hr9) (ok':=fun k=>k≠S+2) (fun k hk e=>by have:=hk.2.1;have:=HS8.out;omega))
    have HW8:=ak_ hw'
    clear hr9 hw' hR e3 e4 r4
    go_wp2_with (obtain ⟨ce,hcl,_,hcc,_⟩:=Kd.R_elem HO8.out ([]:List Int) (y:Int) (by omega) (by omega);refine Kd.R_store (Kd.slice 3 (Kd.int .i64)) (w0:=w) S rfl rfl 31 _ _ rfl 31 (g:=S+2) (n:=opLen bs x) (cap:=opLen bs x) (y:Int) 0 (fillD f (opLen bs x) k2) (f y) (.slice A9 (f y).length c9) [.slice A9 (f y).length c9] ce (fun _=>True) (fun k=>k≠S+2) rfl (by simp [Kd.slice]) rfl rfl info31s (by intro q hq;rw [List.mem_singleton.1 hq];rfl) HO8.out (by omega) (by omega) hcl hcc (by simp [Kd.slice]) ?hM (fun k hk=>⟨trivial,hk⟩) HBw8.out ?_;(case hM=>(rw [show ce.take 0++[Value.slice A9 (f y).length c9]++ce.drop (0+[Value.slice A9 (f y).length c9].length)=[.slice A9 (f y).length c9] by rw [List.drop_eq_nil_of_le (by rw [hcl];simp [Kd.slice])];simp];exact ⟨_,rfl,Kd.R_lower HR9.out hS2⟩));intro w10 hr10 hb10 hg10;have HR10:=ak_ hr10;have HB10:=ak_ hb10;have HG10:=ak_ hg10;clear hr10 hb10 hg10 hcl hcc)
    refine ⟨by have h:=HR10.out;rw [Int.toNat_natCast,HFS.out] at h;exact h,?_,HB10.out⟩
    exact grown_then (grown_of_bel HW8.out (some (S+2))) HG10.out (.inl rfl)
   ·rintro a w8 ⟨A4,c4,rfl,hR8,hg8,hB8⟩
    have HA8:=ak_ (HA2.out.kept hg8 (fun e=>by have e' : m=S+2:=(by injection e);have:=HM6.out;omega))
    have HQ8:Aside0 (Boxed w8 q 73 (.map (some m))):=⟨HQ2.out.kept hg8 (fun e=>hqT (by injection e))⟩
    have HOB8:Aside0 (Boxed w8 (S+3) 35 (.slice (some ⟨S+2,0,none⟩) (opLen bs x) (opLen bs x))):=⟨HOB2.out.kept hg8 (fun e=>by have e' : S+3=S+2:=(by injection e);omega)⟩
    have hX8:=blk_grown HX2.out hg8 (fun e=>hNB (by injection e))
    have HR8:=ak_ hR8
    have HB8:=ak_ hB8
    have HKE8:=ak_ (KE.of_grown (lo:=S+2) (hi:=S+3) hg8 (.inl ⟨by omega,by omega⟩))
    have HKB8:=ak_ (KB.of_grown (B:=w7.heap.size) hg8 (fun o ho=>by obtain ⟨cells,hc⟩:=Kd.R_typed HO2.out (S+2) (by simp [Value.ownBlock]);rw [hc] at ho;cases ho;rfl))
    have hrow8:=Cint_kc HROW.out (KE.kc (show Below w.heap.size w w from Below.refl _ _) (show w.heap.size≤w.heap.size from Nat.le_refl _) (show KE w.heap.size w8.heap.size w w8 from ⟨by have:=HB8.out.size;omega,fun k o hx hk _=>(HB8.out.block k (by have:=(Array.getElem?_eq_some_iff.1 hk).1;omega)).trans hk⟩))
    have c0:=blk_cell hX8 0
    have c1:=blk_cell hX8 1
    have c2:=blk_cell hX8 2
    have c3:=blk_cell hX8 3
    have c4:=blk_cell hX8 4
    have c5:=blk_cell hX8 5
    simp only [ga_,gb_,gc_] at c0 c1 c2 c3 c4 c5
    have sq:=HQ8.out.cell
    have hov:=over_any m es2 _ (opOf bs (x,y)) (og y).1 (og y).2 w8 (by omega) HA8.out HK2.out hrow8 hcapp
    have HOV:=ak_ hov
    clear hov hrow8 hX8 hR8 hg8 hB8
    gi_wp2_with (refine ⟨trivial,?_⟩;gi_at_call 82;refine (CallsIn.inRound lr2 (callsIn_wide.2 HOV.out)).mono ?_;rintro e W3 ⟨rfl,es3,ha3,hk3,hg3⟩;have HA3:=ak_ ha3;have HK3:=ak_ hk3;have HG3:=ak_ hg3;clear ha3 hk3 hg3)
    have hmS:S≤m:=by have:=HM6.out;omega
    refine ⟨HKB8.out.trans (KB.of_at HG3.out HA8.out),HKE8.out.trans (KE.of_kc (KC.of_grown HG3.out HA8.out.no_cells)),es3,HA3.out,by rw [HPL2.out];exact HK3.out.imp HSTEP.out,HQ8.out.kept HG3.out (fun e=>HA8.out.not_cells HQ8.out (by injection e)),HOB8.out.kept HG3.out (fun e=>HA8.out.not_cells HOB8.out (by injection e)),?_,?_⟩
    ·rw [HPL2.out]
     exact Kd.R_mono (Kd.R_grown (Kd.R_mono (Kd.R_bound HR8.out) (ok':=fun k=>k≠m) (fun k hk e=>by
      obtain ⟨_,_,_,qq,_,cells,hc⟩:=hk
      exact HA8.out.not_cells hc e)) HG3.out (fun k hk e=>hk (by injection e))) (fun _ _=>trivial)
    ·exact pw_below_grown HB8.out (some m) (by have:=HB8.out.size;omega) HG3.out (fun k e=>by cases e;exact hmS)
  case done2 =>
   rintro D xs2 W2 hD rfl ⟨es2,h1,h2,h3,h4,h5,h6⟩ hK
   rw [downs_length,hLl,fillD_full] at h5
   have sO:=h4.cell
   have HO2:=ak_ h5
   have HB2:=ak_ h6
   have HD:=ak_ hK
   clear h1 h2 h3 h4 h5 h6 hK
   gi_wp2
   refine leavesM_marks [D] _ (by simp) (fun r hr=>by rw [List.mem_singleton.1 hr];exact HD.out) (fun W' hW'=>?_)
   have hne:∀ k,k≠D→W'.heap[k]?=W2.heap[k]?:=fun k hk=>hW'.same k (fun hm=>hk (List.mem_singleton.1 hm))
   refine ⟨.slice (some ⟨S+2,0,none⟩) (opLen bs x) (opLen bs x),by simp [results,Tryz.results56,go_sem],_,rfl,?_,?_⟩
   ·rw [hS]
    have hfin:(List.range (opLen bs x)).map f=afterL bs x:=by rw [HF.out];rfl
    rw [hfin] at HO2
    exact Kd.R_mono (Kd.R_move (Kd.R_bound HO2.out) (fun k hk=>hne k (fun e=>by
     subst e
     obtain ⟨_,_,_,qq,_,cells,hc⟩:=hk
     rw [HD.out] at hc
     cases hc))) (fun _ hk=>hk.1)
   ·rw [hS]
    exact HB2.out.trans (hW'.below (fun r hr=>by rw [List.mem_singleton.1 hr];omega))
  case stop2 =>
   rintro D cd pre2 W2 hD hpre hF hK
   exact hF.elim
end Go.Proofs.YtnkgbnbbmcoiiaaGreat.S
namespace Go.Proofs.YtnkgbnbbmcoiiaaGreat.S
open Go.RowKit Go.IM Go.Proofs.YtnkgbnbbmcoiiaaGreatW.PrintWords Go.Proofs.YtnkgbnbbmcoiiaaGreatW.PrintLast Go.Proofs.YtnkgbnbbmcoiiaaGreatW.PrintMore
set_option linter.unusedVariables false
set_option linter.unusedSimpArgs false
theorem after_any (p:Int) (A:Option Addr) (c:Nat) (bs:List S50) (fn:Int) (A1:Option Addr) (x:Nat) (w:World) (hC:Kd.C k50 w A bs.length bs) (hRP:RightP p bs fn) (hM:MapsAt w A1 bs.length (fun i r=>Lv.At (gOf bs) r i 0)) (hxn:x<bs.length) :
  Calls Tryz.prog 56 #[.agg #[.int .i64 p,.slice A bs.length c],.slice A1 bs.length bs.length,.int .i64 (x:Int)] w (AfterP bs x w):=callsIn_wide.1 (after_in p A c bs fn A1 x w hC hRP hM hxn)
set_option maxHeartbeats 4000000 in
set_option maxRecDepth 100000 in
theorem After_ok (p:Int) (A:Option Addr) (c:Nat) (bs:List S50) (x:Nat) (w:World) (hC:Kd.C k50 w A bs.length bs) (hR:rightF p bs 256=true) (hx:x<bs.length) :
  Calls Tryz.prog 25 #[.agg #[.int .i64 p,.slice A bs.length c],.int .i64 (x:Int)] w fun e w'=>∃ v,e=.returned v∧Kd.R (Kd.slice 3 (Kd.int .i64)) 31 w' w.heap.size (fun _=>True) v (afterL bs x)∧Below w.heap.size w w':=by
 have RP:=ak_ (rightF_iff hR)
 have HR:=ak_ hR
 have HC:=ak_ hC
 have HB0:=ak_ (below_alloc (Below.refl w.heap.size w) (.cells #[.int .i64 p,.slice A bs.length c] 24))
 have HF0:=ak_ (blk_new w (.cells #[.int .i64 p,.slice A bs.length c] 24))
 have hu34:=Tryz.underlying24
 clear hC hR
 have h0:¬ ((x:Int)<0):=by omega
 have b1:decide ((x:Int)<0)=false:=decide_eq_false h0
 have h2:¬ (bs.length:Int)≤(x:Int):=by omega
 have h2' : ¬ bs.length≤x:=by omega
 have b2:decide ((bs.length:Int)≤(x:Int))=false:=decide_eq_false h2
 have b2' : decide (bs.length≤x)=false:=decide_eq_false h2'
 go_enter Tryz.func25,Tryz.ntmps25
 go_wp2_with (first
  | (go_at_call 49;refine (sets_ok p A c bs _ (Kd.C_below HC.out HB0.out) HR.out).mono ?_;rintro e w1 ⟨A1,rfl,hm,hb⟩;have HM1:=ak_ hm;have HB1:=ak_ (below_then HB0.out HB0.out.size hb);have HF1:=ak_ (blk_below HF0.out hb);have c0:=bc_ HF1 0;have c1:=bc_ HF1 1;simp only [ga_,gb_,gc_] at c0 c1;clear hb hm)
  | (go_at_call 56;refine (after_any p A c bs 256 A1 x _ (Kd.C_below HC.out HB1.out) RP.out HM1.out hx).mono ?_;rintro e w2 ⟨v2,rfl,hr,hb⟩;have HR2:=ak_ hr;have HB2:=ak_ (below_then HB1.out HB1.out.size hb);clear hr hb))
 go_ret
 exact ⟨_,rfl,Kd.R_lower HR2.out HB1.out.size,HB2.out⟩
