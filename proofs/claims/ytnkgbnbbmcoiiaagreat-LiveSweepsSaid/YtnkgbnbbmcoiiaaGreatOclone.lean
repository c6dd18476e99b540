import Derived.Test.YtnkgbnbbmcoiiaaGreatOkeys
import Derived.Test.YtnkgbnbbmcoiiaaGreatRfz
import Derived.Test.YtnkgbnbbmcoiiaaGreatBk
import Derived.Test.YtnkgbnbbmcoiiaaGreatOapp
import Derived.ArgAppend
namespace Go.Proofs.YtnkgbnbbmcoiiaaGreat.S
open Go.RowKit Go.IM Go.Proofs.YtnkgbnbbmcoiiaaGreatW.PrintWords Go.Proofs.YtnkgbnbbmcoiiaaGreatW.PrintLast Go.Proofs.YtnkgbnbbmcoiiaaGreatW.PrintMore
set_option linter.unusedVariables false
/-! ### What keeps all cells but those of some blocks;what holds whatever those blocks hold -/
def KP (X:Nat→Prop) (w w' : World):Prop:=w.heap.size≤w'.heap.size∧∀ (k:Nat) (o:Obj),¬ X k→w.heap[k]?=some o→o.isCells=true→w'.heap[k]?=some o
theorem KP.refl (X:Nat→Prop) (w:World):KP X w w:=⟨Nat.le_refl _,fun _ _ _ h _=>h⟩
theorem KP.trans {X:Nat→Prop} {a b c:World} (h:KP X a b) (k:KP X b c):KP X a c:=⟨Nat.le_trans h.1 k.1,fun i o hx hi ho=>k.2 i o hx (h.2 i o hx hi ho) ho⟩
theorem KP.of_kc {X:Nat→Prop} {a b:World} (h:KC a b):KP X a b:=⟨h.size,fun k o _ hk ho=>h.cells k o hk ho⟩
theorem KP.of_below {X:Nat→Prop} {a b:World} (h:Below a.heap.size a b):KP X a b:=.of_kc (.of_below h)
theorem KP.mono {X Y:Nat→Prop} {a b:World} (h:KP X a b) (hs:∀ k,X k→Y k):KP Y a b:=⟨h.1,fun k o hx hk ho=>h.2 k o (fun hX=>hx (hs k hX)) hk ho⟩
theorem KP.setCell {X:Nat→Prop} (a:World) (p:Addr) (v:Value) (hp:X p.block):KP X a (a.setCell p v) :=
 ⟨(KeepsWalks.setCell a p v).size,fun k o hx hk _=>(Below.heap_setCell a p v k (fun e=>hx (by rw [e];exact hp))).trans hk⟩
/-- A row that lay ahead,and does still at W. -/
theorem KP.kc {X:Nat→Prop} {w W B:World} (hb:Below w.heap.size w W) (hx:∀ k,k<w.heap.size→¬ X k) (h:KP X W B):KC w B :=
 ⟨Nat.le_trans hb.size h.1,fun k o hk ho=>by
  have hlt:=(Array.getElem?_eq_some_iff.1 hk).1
  exact h.2 k o (hx k hlt) ((hb.block k hlt).trans hk) ho⟩
def St (X:Nat→Prop) (w:World) (φ:World→Prop):Prop:=∀ w',KP X w w'→φ w'
theorem St.now {X:Nat→Prop} {w:World} {φ:World→Prop} (h:St X w φ):φ w:=h w (KP.refl _ _)
theorem St.step {X:Nat→Prop} {w w' : World} {φ:World→Prop} (h:St X w φ) (hk:KP X w w'):St X w' φ:=fun w2 h2=>h w2 (hk.trans h2)
theorem St.mono {X Y:Nat→Prop} {w:World} {φ:World→Prop} (h:St Y w φ) (hs:∀ k,X k→Y k):St X w φ:=fun w2 h2=>h w2 (h2.mono hs)
theorem St.imp {X:Nat→Prop} {w:World} {φ ψ:World→Prop} (h:St X w φ) (hi:∀ w',φ w'→ψ w'):St X w ψ:=fun w2 h2=>hi w2 (h w2 h2)
/-- The n-th of rows of one length,one behind the other. -/
theorem flat_get {α:Type} (f:Nat→List α) (s:Nat) (hs:∀ i,(f i).length=s):∀ (n i j:Nat),i<n→j<s→((List.range n).flatMap f)[i*s+j]?=(f i)[j]?
 | 0,i,j,hi,hj=>absurd hi (Nat.not_lt_zero _)
 | n+1,i,j,hi,hj=>by
  have hlen:∀ m,((List.range m).flatMap f).length=m*s:=fun m=>by
   induction m with
   | zero=>simp
   | succ m ih=>rw [List.range_succ,List.flatMap_append,List.length_append,ih];simp [hs,Nat.succ_mul]
  rw [List.range_succ,List.flatMap_append]
  by_cases e:i=n
  ·subst e
   rw [List.getElem?_append_right (by rw [hlen];omega),hlen,Nat.add_sub_cancel_left]
   simp
  ·have hin:i<n:=by omega
   have:i*s+j<n*s:=by
    have:(i+1)*s≤n*s:=Nat.mul_le_mul_right _ hin
    rw [Nat.succ_mul] at this
    omega
   rw [List.getElem?_append_left (by rw [hlen];exact this)]
   exact flat_get f s hs n i j hin hj
theorem flat_len {α:Type} (f:Nat→List α) (s:Nat) (hs:∀ i,(f i).length=s) (m:Nat):((List.range m).flatMap f).length=m*s:=by
 induction m with
 | zero=>simp
 | succ m ih=>rw [List.range_succ,List.flatMap_append,List.length_append,ih];simp [hs,Nat.succ_mul]
/-- The cells of an operation,of a block,whose inner row lies at g. -/
def opC (x:S45) (g:Option Addr × Nat):List Value:=[.int .i64 x.f0,.int .i64 x.f1,.int .i64 x.f2,.int .i64 x.f3,.int .i64 x.f4,.slice g.1 x.f5.length g.2]
def blkC' (x:S50) (g:Option Addr × Nat):List Value:=[.slice g.1 x.f0.length g.2,.int .i64 x.f1.f0,.int .i64 x.f1.f1,.int .i64 x.f1.f2,.int .i64 x.f1.f3]
/-- A row of operations in an own block: its inner rows hold whatever X holds. -/
structure OR (X:Nat→Prop) (w:World) (g:Nat) (xs:List S45) (og:Nat→Option Addr × Nat) (cs:Array Value):Prop where mk ::
 blk:w.heap[g]?=some (.cells cs 45 (0,0))
 el:∀ k,k<xs.length→(∀ j u,(opC (rd_T45 xs (k:Int)) (og k))[j]?=some u→cs[k*6+j]?=some u)∧(rd_T45 xs (k:Int)).f5.length≤(og k).2∧St X w (fun w'=>Kd.C (Kd.int .i64) w' (og k).1 (rd_T45 xs (k:Int)).f5.length (rd_T45 xs (k:Int)).f5)
/-- A row of operations that holds whatever X holds,its inner rows where they are. -/
def OpsS (X:Nat→Prop) (w:World) (A:Option Addr) (xs:List S45):Prop:=∃ og,St X w (fun w'=>OpsAt w' A xs og)
theorem OpsS.step {X:Nat→Prop} {w w' : World} {A:Option Addr} {xs:List S45} (h:OpsS X w A xs) (hk:KP X w w'):OpsS X w' A xs:=by
 obtain ⟨og,h⟩:=h
 exact ⟨og,h.step hk⟩
theorem OpsS.mono {X Y:Nat→Prop} {w:World} {A:Option Addr} {xs:List S45} (h:OpsS Y w A xs) (hs:∀ k,X k→Y k):OpsS X w A xs:=by
 obtain ⟨og,h⟩:=h
 exact ⟨og,h.mono hs⟩
theorem ops_C {w:World} {A:Option Addr} {xs:List S45} {og:Nat→Option Addr × Nat} (h:OpsAt w A xs og) (hl:xs.length≤9223372036854775807):Kd.C k45 w A xs.length xs:=by
 refine ⟨rfl,hl,fun h0=>?_⟩
 obtain ⟨ad,e,_⟩:=(h 0 h0).out
 refine ⟨ad,e,fun k x hk=>?_⟩
 have hlt:=(List.getElem?_eq_some_iff.1 hk).1
 have hx:rd_T45 xs (k:Int)=x:=by rw [rd45' hlt];exact (List.getElem?_eq_some_iff.1 hk).2
 obtain ⟨⟨ad',e',h0,h1,h2,h3,h4,h5⟩,h6,h7⟩:=h k hlt
 cases e.symm.trans e'
 rw [hx] at h0 h1 h2 h3 h4 h5 h6 h7
 refine ⟨_,rfl,k45_mk w x h6 h7,fun i u hu=>?_⟩
 have hi:i<6:=(List.getElem?_eq_some_iff.1 hu).1
 have e2:k*k45.sz+i=k*6+i:=rfl
 rw [e2]
 have hi2:i=0∨i=1∨i=2∨i=3∨i=4∨i=5:=by omega
 rcases hi2 with rfl|rfl|rfl|rfl|rfl|rfl<;>(simp at hu;subst hu)
 ·exact h0
 ·rw [add_field _ _ 1 (by omega)];exact h1
 ·rw [add_field _ _ 2 (by omega)];exact h2
 ·rw [add_field _ _ 3 (by omega)];exact h3
 ·rw [add_field _ _ 4 (by omega)];exact h4
 ·rw [add_field _ _ 5 (by omega)];exact h5
theorem OpsS.nowC {X:Nat→Prop} {w:World} {A:Option Addr} {xs:List S45} (h:OpsS X w A xs) (hl:xs.length≤9223372036854775807):Kd.C k45 w A xs.length xs:=by
 obtain ⟨og,h⟩:=h
 exact ops_C h.now hl
theorem OpsS.old {X:Nat→Prop} {w0 w:World} {A:Option Addr} {l:List S45} (h:Kd.C k45 w0 A l.length l) (hb:Below w0.heap.size w0 w) (hx:∀ k,k<w0.heap.size→¬ X k):OpsS X w A l:=by
 obtain ⟨og,ho⟩:=ops_at h
 exact ⟨og,fun w2 h2=>ho.kc (h2.kc hb hx)⟩
theorem OpsS.nil {X:Nat→Prop} {w:World} {A:Option Addr} {xs:List S45} (h:xs.length=0):OpsS X w A xs:=⟨fun _=>(none,0),fun w' _ k hk=>by omega⟩
/-- A row of blocks in an own block. -/
structure BR (X:Nat→Prop) (w:World) (g:Nat) (bs:List S50) (bg:Nat→Option Addr × Nat) (cs:Array Value):Prop where mk ::
 blk:w.heap[g]?=some (.cells cs 50 (0,0))
 el:∀ i,i<bs.length→(∀ j u,(blkC' (rd_T50 bs (i:Int)) (bg i))[j]?=some u→cs[i*5+j]?=some u)∧(rd_T50 bs (i:Int)).f0.length≤(bg i).2∧(rd_T50 bs (i:Int)).f0.length≤9223372036854775807∧OpsS X w (bg i).1 (rd_T50 bs (i:Int)).f0
theorem OR.C {X:Nat→Prop} {w:World} {g:Nat} {xs:List S45} {og:Nat→Option Addr × Nat} {cs:Array Value} (h:OR X w g xs og cs) (hl:xs.length≤9223372036854775807):Kd.C k45 w (some ⟨g,0,none⟩) xs.length xs:=by
 refine ⟨rfl,hl,fun _=>⟨_,rfl,fun k x hk=>?_⟩⟩
 have hlt:=(List.getElem?_eq_some_iff.1 hk).1
 have hx:rd_T45 xs (k:Int)=x:=by rw [rd45' hlt];exact (List.getElem?_eq_some_iff.1 hk).2
 obtain ⟨h1,h2,h3⟩:=h.el k hlt
 rw [hx] at h1 h2 h3
 refine ⟨_,rfl,k45_mk w x h2 h3.now,fun i u hu=>?_⟩
 have:=h1 i u hu
 have e:k*k45.sz+i=k*6+i:=rfl
 rw [e,Addr.add_lit,Nat.zero_add]
 exact (blk_cell h.blk _).trans this
theorem OR.stS {X Y:Nat→Prop} {w:World} {g:Nat} {xs:List S45} {og:Nat→Option Addr × Nat} {cs:Array Value} (h:OR X w g xs og cs) (hy:¬ Y g) (hs:∀ k,Y k→X k):OpsS Y w (some ⟨g,0,none⟩) xs:=⟨og,fun w2 h2 k hk=>by
 have hb:=h2.2 g _ hy h.blk rfl
 obtain ⟨h1,h3,h4⟩:=h.el k hk
 have hcell:∀ j u,(opC (rd_T45 xs (k:Int)) (og k))[j]?=some u→w2.cell? ⟨g,k*6+j,none⟩=some u:=fun j u hu=>(blk_cell hb _).trans (h1 j u hu)
 refine ⟨⟨⟨g,0,none⟩,rfl,?_,?_,?_,?_,?_,?_⟩,h3,(h4.mono hs) w2 h2⟩<;>(simp only [Addr.add_lit,Nat.zero_add])
 ·exact hcell 0 _ rfl
 ·exact hcell 1 _ rfl
 ·exact hcell 2 _ rfl
 ·exact hcell 3 _ rfl
 ·exact hcell 4 _ rfl
 ·exact hcell 5 _ rfl⟩
theorem OR.step {X:Nat→Prop} {w w' : World} {g:Nat} {xs:List S45} {og:Nat→Option Addr × Nat} {cs:Array Value} (h:OR X w g xs og cs) (hk:KP X w w') (hg:w'.heap[g]?=w.heap[g]?):OR X w' g xs og cs :=
 ⟨hg.trans h.blk,fun k hlt=>⟨(h.el k hlt).1,(h.el k hlt).2.1,(h.el k hlt).2.2.step hk⟩⟩
theorem BR.step {X:Nat→Prop} {w w' : World} {g:Nat} {bs:List S50} {bg:Nat→Option Addr × Nat} {cs:Array Value} (h:BR X w g bs bg cs) (hk:KP X w w') (hg:w'.heap[g]?=w.heap[g]?):BR X w' g bs bg cs :=
 ⟨hg.trans h.blk,fun k hlt=>⟨(h.el k hlt).1,(h.el k hlt).2.1,(h.el k hlt).2.2.1,(h.el k hlt).2.2.2.step hk⟩⟩
theorem BR.C {X:Nat→Prop} {w:World} {g:Nat} {bs:List S50} {bg:Nat→Option Addr × Nat} {cs:Array Value} (h:BR X w g bs bg cs) (hl:bs.length≤9223372036854775807):Kd.C k50 w (some ⟨g,0,none⟩) bs.length bs:=by
 refine ⟨rfl,hl,fun _=>⟨_,rfl,fun k x hk=>?_⟩⟩
 have hlt:=(List.getElem?_eq_some_iff.1 hk).1
 have hx:rd_T50 bs (k:Int)=x:=by rw [rd43' hlt];exact (List.getElem?_eq_some_iff.1 hk).2
 obtain ⟨h1,h2,h4,h3⟩:=h.el k hlt
 rw [hx] at h1 h2 h3 h4
 refine ⟨_,rfl,k50_mk w x h2 (h3.nowC h4),fun i u hu=>?_⟩
 have:=h1 i u hu
 have e:k*k50.sz+i=k*5+i:=rfl
 rw [e,Addr.add_lit,Nat.zero_add]
 exact (blk_cell h.blk _).trans this
theorem blks_C {w:World} {A:Option Addr} {bs:List S50} {bg:Nat→Option Addr × Nat} (h:BlksAt w A bs bg) (hl:bs.length≤9223372036854775807):Kd.C k50 w A bs.length bs:=by
 refine ⟨rfl,hl,fun h0=>?_⟩
 obtain ⟨ad,e,_⟩:=(h 0 h0).out
 refine ⟨ad,e,fun k x hk=>?_⟩
 have hlt:=(List.getElem?_eq_some_iff.1 hk).1
 have hx:rd_T50 bs (k:Int)=x:=by rw [rd43' hlt];exact (List.getElem?_eq_some_iff.1 hk).2
 obtain ⟨⟨ad',e',h0,h1,h2,h3,h4⟩,h6,h7⟩:=h k hlt
 cases e.symm.trans e'
 rw [hx] at h0 h1 h2 h3 h4 h6 h7
 refine ⟨_,rfl,k50_mk w x h6 h7,fun i u hu=>?_⟩
 have hi:i<5:=(List.getElem?_eq_some_iff.1 hu).1
 have e2:k*k50.sz+i=k*5+i:=rfl
 rw [e2]
 have hi2:i=0∨i=1∨i=2∨i=3∨i=4:=by omega
 rcases hi2 with rfl|rfl|rfl|rfl|rfl<;>(simp at hu;subst hu)
 ·exact h0
 ·rw [add_field _ _ 1 (by omega)];exact h1
 ·rw [add_field _ _ 2 (by omega)];exact h2
 ·rw [add_field _ _ 3 (by omega)];exact h3
 ·rw [add_field _ _ 4 (by omega)];exact h4
/-- A function's blocks,all rows where they are. -/
def DeepAt (w:World) (A:Option Addr) (bs:List S50) (bg:Nat→Option Addr × Nat) (og:Nat→Nat→Option Addr × Nat):Prop:=BlksAt w A bs bg∧∀ i,i<bs.length→OpsAt w (bg i).1 (rd_T50 bs (i:Int)).f0 (og i)
theorem deep_of {w:World} {A:Option Addr} {bs:List S50} (h:Kd.C k50 w A bs.length bs):∃ bg og,DeepAt w A bs bg og:=by
 obtain ⟨bg,hb⟩:=blks_at h
 have key:∀ i,i<bs.length→∃ og:Nat→Option Addr × Nat,OpsAt w (bg i).1 (rd_T50 bs (i:Int)).f0 og:=fun i hi=>ops_at (hb i hi).row
 obtain ⟨og,ho⟩:=@choice_ (Nat→Option Addr × Nat) ⟨fun _=>(none,0)⟩ bs.length (fun i og=>OpsAt w (bg i).1 (rd_T50 bs (i:Int)).f0 og) key
 exact ⟨bg,og,hb,ho⟩
theorem DeepAt.kc {w w' : World} {A:Option Addr} {bs:List S50} {bg:Nat→Option Addr × Nat} {og:Nat→Nat→Option Addr × Nat} (h:DeepAt w A bs bg og) (hk:KC w w'):DeepAt w' A bs bg og:=⟨h.1.kc hk,fun i hi=>(h.2 i hi).kc hk⟩
theorem BR.deep {X Y:Nat→Prop} {w:World} {g:Nat} {bs:List S50} {bg:Nat→Option Addr × Nat} {cs:Array Value} (h:BR X w g bs bg cs) (hy:¬ Y g) (hs:∀ k,Y k→X k):∃ og,St Y w (fun w'=>DeepAt w' (some ⟨g,0,none⟩) bs bg og):=by
 have key:∀ i,i<bs.length→∃ og:Nat→Option Addr × Nat,St Y w (fun w'=>OpsAt w' (bg i).1 (rd_T50 bs (i:Int)).f0 og):=fun i hi=>by
  obtain ⟨og,ho⟩:=(h.el i hi).2.2.2
  exact ⟨og,ho.mono hs⟩
 obtain ⟨og,ho⟩:=@choice_ (Nat→Option Addr × Nat) ⟨fun _=>(none,0)⟩ bs.length (fun i og=>St Y w (fun w'=>OpsAt w' (bg i).1 (rd_T50 bs (i:Int)).f0 og)) key
 refine ⟨og,fun w2 h2=>⟨fun k hk=>?_,fun i hi=>ho i hi w2 h2⟩⟩
 have hb:=h2.2 g _ hy h.blk rfl
 obtain ⟨h1,h3,h4,_⟩:=h.el k hk
 have hcell:∀ j u,(blkC' (rd_T50 bs (k:Int)) (bg k))[j]?=some u→w2.cell? ⟨g,k*5+j,none⟩=some u:=fun j u hu=>(blk_cell hb _).trans (h1 j u hu)
 refine ⟨⟨⟨g,0,none⟩,rfl,?_,?_,?_,?_,?_⟩,h3,ops_C (ho k hk w2 h2) h4⟩<;>(simp only [Addr.add_lit,Nat.zero_add])
 ·exact hcell 0 _ rfl
 ·exact hcell 1 _ rfl
 ·exact hcell 2 _ rfl
 ·exact hcell 3 _ rfl
 ·exact hcell 4 _ rfl
/-- An operation's inner row is put elsewhere. -/
theorem OR.put {X:Nat→Prop} {w:World} {g:Nat} {xs:List S45} {og:Nat→Option Addr × Nat} {cs:Array Value} (h:OR X w g xs og cs) {k:Nat} (hk:k<xs.length) (hx:X g) {A:Option Addr} {c:Nat} (hc:(rd_T45 xs (k:Int)).f5.length≤c) (hst:St X w (fun w'=>Kd.C (Kd.int .i64) w' A (rd_T45 xs (k:Int)).f5.length (rd_T45 xs (k:Int)).f5)) :
  OR X (w.setCell ⟨g,k*6+5,none⟩ (.slice A (rd_T45 xs (k:Int)).f5.length c)) g xs (fun q=>if q=k then (A,c) else og q) (cs.setIfInBounds (k*6+5) (.slice A (rd_T45 xs (k:Int)).f5.length c)):=by
 refine ⟨blk_set h.blk _ _,fun q hq=>?_⟩
 obtain ⟨h1,h2,h3⟩:=h.el q hq
 have hkp:=KP.setCell (X:=X) w ⟨g,k*6+5,none⟩ (.slice A (rd_T45 xs (k:Int)).f5.length c) hx
 by_cases e:q=k
 ·subst e
  simp only [if_pos]
  refine ⟨fun j u hu=>?_,hc,hst.step hkp⟩
  have hj6:j<6:=by
   have:=(List.getElem?_eq_some_iff.1 hu).1
   simpa [opC] using this
  by_cases e5:j=5
  ·subst e5
   simp [opC] at hu
   subst hu
   rw [Array.getElem?_setIfInBounds_self_of_lt]
   have:=h1 5 _ rfl
   exact (Array.getElem?_eq_some_iff.1 this).1
  ·rw [Array.getElem?_setIfInBounds_ne (by omega)]
   refine h1 j u ?_
   rw [← hu]
   unfold opC
   have hj:j=0∨j=1∨j=2∨j=3∨j=4:=by omega
   rcases hj with rfl|rfl|rfl|rfl|rfl<;>rfl
 ·simp only [if_neg e]
  refine ⟨fun j u hu=>?_,h2,h3.step hkp⟩
  have hj6:j<6:=by
   have:=(List.getElem?_eq_some_iff.1 hu).1
   simpa [opC] using this
  rw [Array.getElem?_setIfInBounds_ne (by omega)]
  exact h1 j u hu
/-- A block's row of operations is put elsewhere,and is another one. -/
theorem BR.put {X:Nat→Prop} {w:World} {g:Nat} {bs:List S50} {bg:Nat→Option Addr × Nat} {cs:Array Value} (h:BR X w g bs bg cs) {k:Nat} (hk:k<bs.length) (hx:X g) (xs:List S45) {A:Option Addr} {c:Nat} (hc:xs.length≤c) (hm:xs.length≤9223372036854775807) (hst:OpsS X w A xs) :
  BR X (w.setCell ⟨g,k*5,none⟩ (.slice A xs.length c)) g (bs.set k ⟨xs,(rd_T50 bs (k:Int)).f1⟩) (fun q=>if q=k then (A,c) else bg q) (cs.setIfInBounds (k*5) (.slice A xs.length c)):=by
 refine ⟨blk_set h.blk _ _,fun q hq=>?_⟩
 rw [List.length_set] at hq
 obtain ⟨h1,h2,h4,h3⟩:=h.el q hq
 have hkp:=KP.setCell (X:=X) w ⟨g,k*5,none⟩ (.slice A xs.length c) hx
 by_cases e:q=k
 ·subst e
  have er:rd_T50 (bs.set q ⟨xs,(rd_T50 bs (q:Int)).f1⟩) (q:Int)=⟨xs,(rd_T50 bs (q:Int)).f1⟩:=by
   rw [rd43' (by rw [List.length_set];exact hq),List.getElem_set_self]
  rw [er]
  simp only [if_pos]
  refine ⟨fun j u hu=>?_,hc,hm,hst.step hkp⟩
  have hj5:j<5:=by
   have:=(List.getElem?_eq_some_iff.1 hu).1
   simpa [blkC'] using this
  by_cases e5:j=0
  ·subst e5
   simp [blkC'] at hu
   subst hu
   rw [Nat.add_zero,Array.getElem?_setIfInBounds_self_of_lt]
   have:=h1 0 _ rfl
   rw [Nat.add_zero] at this
   exact (Array.getElem?_eq_some_iff.1 this).1
  ·rw [Array.getElem?_setIfInBounds_ne (by omega)]
   refine h1 j u ?_
   rw [← hu]
   unfold blkC'
   have hj:j=1∨j=2∨j=3∨j=4:=by omega
   rcases hj with rfl|rfl|rfl|rfl<;>rfl
 ·have er:rd_T50 (bs.set k ⟨xs,(rd_T50 bs (k:Int)).f1⟩) (q:Int)=rd_T50 bs (q:Int):=by
   rw [rd43' (by rw [List.length_set];exact hq),rd43' hq,List.getElem_set_ne (fun h=>e h.symm)]
  rw [er]
  simp only [if_neg e]
  refine ⟨fun j u hu=>?_,h2,h4,h3.step hkp⟩
  have hj5:j<5:=by
   have:=(List.getElem?_eq_some_iff.1 hu).1
   simpa [blkC'] using this
  rw [Array.getElem?_setIfInBounds_ne (by omega)]
  exact h1 j u hu
end Go.Proofs.YtnkgbnbbmcoiiaaGreat.S
namespace Go.Proofs.YtnkgbnbbmcoiiaaGreat.S
open Go.RowKit Go.IM Go.Proofs.YtnkgbnbbmcoiiaaGreatW.PrintWords Go.Proofs.YtnkgbnbbmcoiiaaGreatW.PrintLast Go.Proofs.YtnkgbnbbmcoiiaaGreatW.PrintMore
set_option linter.unusedVariables false
set_option linter.unusedSimpArgs false
/-! ### slices.Clone at rows of numbers,operations,blocks -/
/-- What a row tells of a new block. -/
def NewRow (W0:World) (w1:World) (e:TypeId) (m:Nat) (news:List Value) (A1:Option Addr):Prop:=0<m→∃ (g1:Nat) (cur:Array Value),A1=some ⟨g1,0,none⟩∧W0.heap.size≤g1∧w1.heap[g1]?=some (.cells cur e (0,0))∧∀ (j:Nat) (u:Value),news[j]?=some u→cur[j]?=some u
section
variable {ops:Array Oper} {rest:List Oper} {o:Oper} {a:Act} {Q:Exit→Act→World→Prop}
theorem app_fresh {W:World} (hgd:o.guard=none) (s x:Operand) (t e:TypeId) (ho:o.op=.call { callee:=.builtin .append,args:=#[s,x],argTypes:=#[t,t] })
  (ht:Tryz.prog.underlying t=some (.slice e)) (z:Value) (size bytes:Nat) (hinfo:(Tryz.prog.info? e).map (fun i=>(i.zero,i.size,i.bytes))=some (some z,size,bytes)) (hz:z.cells.size=size) (hs0:0<size)
  (g:Nat) (hg:W.heap[g]?=some (.cells #[] e (0,0))) (hs:a.eval s=.slice (some ⟨g,0,none⟩) 0 0) (ad:Addr) (m c:Nat) (news:List Value) (hx:a.eval x=.slice (some ad) m c) (hn:news.length=m*size)
  (hc:∀ j u,news[j]?=some u→W.cell? (ad.add j)=some u) (h1c:∀ u∈news,u.oneCell'=true) (hl1:m≤1000000000000) (hl:m*bytes≤140737488355328)
  (h:∀ A1 c1 w1,m≤c1→NewRow W w1 e m news A1→Below W.heap.size W w1→wpList Tryz.prog ops Q rest (a.put o.dst (.slice A1 m c1)) w1):wpList Tryz.prog ops Q (o::rest) a W:=by
 obtain ⟨i0,hi,hzz⟩:=Option.map_eq_some_iff.1 hinfo
 simp only [Prod.mk.injEq] at hzz
 obtain ⟨hz0,hz1,hz2⟩:=hzz
 refine wpList_append_arg W hgd s x t ho e i0 z size bytes ht hi hz0 hz1 hz2 hz hs0 g 0 0 0 [] hs (by simp) (by simp) ad m c news hx hn hc h1c (fun h j hj=>?_) (by simp only [maxLen];omega) (by rw [Nat.zero_add];exact hl) (fun h0=>?_) (fun h0 v1 w1 hown hgr=>?_)
 ·obtain rfl:m=0:=by omega
  rw [hn,Nat.zero_mul] at hj
  exact absurd hj (Nat.not_lt_zero _)
 ·obtain rfl:m=0:=by omega
  obtain rfl:news=[]:=List.eq_nil_of_length_eq_zero (by rw [hn,Nat.zero_mul])
  exact h _ 0 W (Nat.zero_le _) (fun h=>absurd h (Nat.lt_irrefl _)) (Below.refl _ _)
 ·rw [Nat.zero_add,List.nil_append] at hown
  have hb:Below W.heap.size W w1:=⟨hgr.os,hgr.tape,hgr.output,hgr.size,fun i hi=>hgr.block i hi (by simp)⟩
  rcases hown.2 with ⟨_,h1⟩|⟨g1,cap,cur,rfl,h2,h3,h4,h5,h6,h7⟩
  ·omega
  ·refine h _ _ w1 h4 (fun _=>⟨g1,cur,rfl,h2,h3,fun j u hu=>?_⟩) hb
   have hj:j<m*size:=by
    have:=(List.getElem?_eq_some_iff.1 hu).1
    omega
   rw [← h7,List.getElem?_take_of_lt hj,Array.getElem?_toList] at hu
   exact hu
end
theorem info45c:(Tryz.prog.info? 45).map (fun i=>(i.zero,i.size,i.bytes))=some (some (.agg #[.int .i64 0,.int .i64 0,.int .i64 0,.int .i64 0,.int .i64 0,.slice none 0 0]),6,64):=by kernel_rfl
theorem info50c:(Tryz.prog.info? 50).map (fun i=>(i.zero,i.size,i.bytes))=some (some (.agg #[.slice none 0 0,.int .i64 0,.int .i64 0,.int .i64 0,.int .i64 0]),5,56):=by kernel_rfl
theorem eqnil28 (a:Addr) (n c:Nat) (w:World):Sem.run Tryz.prog (binOp .eql 31 (.slice (some a) n c) (.slice none 0 0)) w=.ok (.bool false) w:=by kernel_rfl
theorem eqnil28n (n c:Nat) (w:World):Sem.run Tryz.prog (binOp .eql 31 (.slice none n c) (.slice none 0 0)) w=.ok (.bool true) w:=by kernel_rfl
set_option maxHeartbeats 2000000 in
set_option maxRecDepth 100000 in
theorem clone92 (A:Option Addr) (n c:Nat) (news:List Value) (w:World) (hn:news.length=n*1) (h1c:∀ u∈news,u.oneCell'=true) (hl:n≤1000000000) (hc:0<n→∃ ad,A=some ad∧∀ j u,news[j]?=some u→w.cell? (ad.add j)=some u) :
  Calls Tryz.prog 90 #[.slice A n c] w fun e w'=>∃ A1 c1,e=.returned (.slice A1 n c1)∧n≤c1∧NewRow w w' 3 n news A1∧Below w.heap.size w w':=by
 have HN:=ak_ hn
 have H1:=ak_ h1c
 have HC:=ak_ hc
 have HL:=ak_ hl
 clear hn h1c hc hl
 rcases A with _|ad
 ·have h0:n=0:=by
   rcases Nat.eq_zero_or_pos n with h|h
   ·exact h
   ·obtain ⟨_,h2,_⟩:=HC.out h
    cases h2
  subst h0
  have hnil:=eqnil28n 0 c w
  go_enter Tryz.func90,Tryz.ntmps90
  go_wp2_with fail
  go_ret
  exact ⟨none,0,rfl,Nat.le_refl _,fun h=>absurd h (Nat.lt_irrefl _),Below.refl _ _⟩
 ·have hnil:=eqnil28 ad n c w
  have hbA:=below_alloc (Below.refl w.heap.size w) (.cells #[] 3)
  have HBA:=ak_ hbA
  have HCC:Aside0 (∀ j u,news[j]?=some u→(w.alloc (.cells #[] 3)).cell? (ad.add j)=some u):=⟨fun j u hu=>by
   rcases Nat.eq_zero_or_pos n with h|h
   ·have:=(List.getElem?_eq_some_iff.1 hu).1
    rw [HN.out,h,Nat.zero_mul] at this
    exact absurd this (Nat.not_lt_zero _)
   ·obtain ⟨ad',e,h2⟩:=HC.out h
    cases e
    exact pw_cell_below HBA.out (h2 j u hu)⟩
  clear hbA
  go_enter Tryz.func90,Tryz.ntmps90
  go_wp2_with (at_builtin;refine app_fresh (W:=w.alloc (.cells #[] 3)) rfl _ _ 31 3 rfl Tryz.underlying31 (.int .i64 0) 1 8 info3' rfl (by decide) w.heap.size (blk_new w (.cells #[] 3)) rfl ad n c news rfl HN.out HCC.out H1.out (by have:=HL.out;omega) (by have:=HL.out;omega) ?_;intro A1 c1 w1 hle hnr hb;have HLE:=ak_ hle;have HNR:=ak_ hnr;have HB1:=ak_ hb;clear hle hnr hb)
  go_ret
  refine ⟨A1,c1,rfl,HLE.out,fun h=>?_,below_then HBA.out HBA.out.size HB1.out⟩
  obtain ⟨g1,cur,e,h1,h2⟩:=HNR.out h
  exact ⟨g1,cur,e,Nat.le_trans HBA.out.size h1,h2⟩
theorem eqnil39 (a:Addr) (n c:Nat) (w:World):Sem.run Tryz.prog (binOp .eql 46 (.slice (some a) n c) (.slice none 0 0)) w=.ok (.bool false) w:=by kernel_rfl
theorem eqnil39n (n c:Nat) (w:World):Sem.run Tryz.prog (binOp .eql 46 (.slice none n c) (.slice none 0 0)) w=.ok (.bool true) w:=by kernel_rfl
set_option maxHeartbeats 2000000 in
set_option maxRecDepth 100000 in
theorem clone91 (A:Option Addr) (n c:Nat) (news:List Value) (w:World) (hn:news.length=n*6) (h1c:∀ u∈news,u.oneCell'=true) (hl:n≤1000000000) (hc:0<n→∃ ad,A=some ad∧∀ j u,news[j]?=some u→w.cell? (ad.add j)=some u) :
  Calls Tryz.prog 89 #[.slice A n c] w fun e w'=>∃ A1 c1,e=.returned (.slice A1 n c1)∧n≤c1∧NewRow w w' 45 n news A1∧Below w.heap.size w w':=by
 have HN:=ak_ hn
 have H1:=ak_ h1c
 have HC:=ak_ hc
 have HL:=ak_ hl
 clear hn h1c hc hl
 rcases A with _|ad
 ·have h0:n=0:=by
   rcases Nat.eq_zero_or_pos n with h|h
   ·exact h
   ·obtain ⟨_,h2,_⟩:=HC.out h
    cases h2
  subst h0
  have hnil:=eqnil39n 0 c w
  go_enter Tryz.func89,Tryz.ntmps89
  go_wp2_with fail
  go_ret
  exact ⟨none,0,rfl,Nat.le_refl _,fun h=>absurd h (Nat.lt_irrefl _),Below.refl _ _⟩
 ·have hnil:=eqnil39 ad n c w
  have hbA:=below_alloc (Below.refl w.heap.size w) (.cells #[] 45)
  have HBA:=ak_ hbA
  have HCC:Aside0 (∀ j u,news[j]?=some u→(w.alloc (.cells #[] 45)).cell? (ad.add j)=some u):=⟨fun j u hu=>by
   rcases Nat.eq_zero_or_pos n with h|h
   ·have:=(List.getElem?_eq_some_iff.1 hu).1
    rw [HN.out,h,Nat.zero_mul] at this
    exact absurd this (Nat.not_lt_zero _)
   ·obtain ⟨ad',e,h2⟩:=HC.out h
    cases e
    exact pw_cell_below HBA.out (h2 j u hu)⟩
  clear hbA
  go_enter Tryz.func89,Tryz.ntmps89
  go_wp2_with (at_builtin;refine app_fresh (W:=w.alloc (.cells #[] 45)) rfl _ _ 46 45 rfl Tryz.underlying46 (.agg #[.int .i64 0,.int .i64 0,.int .i64 0,.int .i64 0,.int .i64 0,.slice none 0 0]) 6 64 info45c rfl (by decide) w.heap.size (blk_new w (.cells #[] 45)) rfl ad n c news rfl HN.out HCC.out H1.out (by have:=HL.out;omega) (by have:=HL.out;omega) ?_;intro A1 c1 w1 hle hnr hb;have HLE:=ak_ hle;have HNR:=ak_ hnr;have HB1:=ak_ hb;clear hle hnr hb)
  go_ret
  refine ⟨A1,c1,rfl,HLE.out,fun h=>?_,below_then HBA.out HBA.out.size HB1.out⟩
  obtain ⟨g1,cur,e,h1,h2⟩:=HNR.out h
  exact ⟨g1,cur,e,Nat.le_trans HBA.out.size h1,h2⟩
theorem eqnil32 (a:Addr) (n c:Nat) (w:World):Sem.run Tryz.prog (binOp .eql 22 (.slice (some a) n c) (.slice none 0 0)) w=.ok (.bool false) w:=by kernel_rfl
theorem eqnil32n (n c:Nat) (w:World):Sem.run Tryz.prog (binOp .eql 22 (.slice none n c) (.slice none 0 0)) w=.ok (.bool true) w:=by kernel_rfl
set_option maxHeartbeats 2000000 in
set_option maxRecDepth 100000 in
theorem clone90 (A:Option Addr) (n c:Nat) (news:List Value) (w:World) (hn:news.length=n*5) (h1c:∀ u∈news,u.oneCell'=true) (hl:n≤1000000000) (hc:0<n→∃ ad,A=some ad∧∀ j u,news[j]?=some u→w.cell? (ad.add j)=some u) :
  Calls Tryz.prog 88 #[.slice A n c] w fun e w'=>∃ A1 c1,e=.returned (.slice A1 n c1)∧n≤c1∧NewRow w w' 50 n news A1∧Below w.heap.size w w':=by
 have HN:=ak_ hn
 have H1:=ak_ h1c
 have HC:=ak_ hc
 have HL:=ak_ hl
 clear hn h1c hc hl
 rcases A with _|ad
 ·have h0:n=0:=by
   rcases Nat.eq_zero_or_pos n with h|h
   ·exact h
   ·obtain ⟨_,h2,_⟩:=HC.out h
    cases h2
  subst h0
  have hnil:=eqnil32n 0 c w
  go_enter Tryz.func88,Tryz.ntmps88
  go_wp2_with fail
  go_ret
  exact ⟨none,0,rfl,Nat.le_refl _,fun h=>absurd h (Nat.lt_irrefl _),Below.refl _ _⟩
 ·have hnil:=eqnil32 ad n c w
  have hbA:=below_alloc (Below.refl w.heap.size w) (.cells #[] 50)
  have HBA:=ak_ hbA
  have HCC:Aside0 (∀ j u,news[j]?=some u→(w.alloc (.cells #[] 50)).cell? (ad.add j)=some u):=⟨fun j u hu=>by
   rcases Nat.eq_zero_or_pos n with h|h
   ·have:=(List.getElem?_eq_some_iff.1 hu).1
    rw [HN.out,h,Nat.zero_mul] at this
    exact absurd this (Nat.not_lt_zero _)
   ·obtain ⟨ad',e,h2⟩:=HC.out h
    cases e
    exact pw_cell_below HBA.out (h2 j u hu)⟩
  clear hbA
  go_enter Tryz.func88,Tryz.ntmps88
  go_wp2_with (at_builtin;refine app_fresh (W:=w.alloc (.cells #[] 50)) rfl _ _ 22 50 rfl Tryz.underlying22 (.agg #[.slice none 0 0,.int .i64 0,.int .i64 0,.int .i64 0,.int .i64 0]) 5 56 info50c rfl (by decide) w.heap.size (blk_new w (.cells #[] 50)) rfl ad n c news rfl HN.out HCC.out H1.out (by have:=HL.out;omega) (by have:=HL.out;omega) ?_;intro A1 c1 w1 hle hnr hb;have HLE:=ak_ hle;have HNR:=ak_ hnr;have HB1:=ak_ hb;clear hle hnr hb)
  go_ret
  refine ⟨A1,c1,rfl,HLE.out,fun h=>?_,below_then HBA.out HBA.out.size HB1.out⟩
  obtain ⟨g1,cur,e,h1,h2⟩:=HNR.out h
  exact ⟨g1,cur,e,Nat.le_trans HBA.out.size h1,h2⟩
/-- slices.Clone of a row of numbers. -/
theorem clone_int (A:Option Addr) (c:Nat) (l:List Int) (w:World) (hC:Kd.C (Kd.int .i64) w A l.length l) (hl:l.length≤1000000000) :
  Calls Tryz.prog 90 #[.slice A l.length c] w fun e w'=>∃ A1 c1,e=.returned (.slice A1 l.length c1)∧l.length≤c1∧(∀ X:Nat→Prop,(∀ k,w.heap.size≤k→¬ X k)→St X w' (fun w2=>Kd.C (Kd.int .i64) w2 A1 l.length l))∧Below w.heap.size w w':=by
 refine (clone92 A l.length c (nums .i64 l) w (by simp [nums]) (nums_one l) hl (fun h=>?_)).mono ?_
 ·obtain ⟨ad,e,hc⟩:=(Kd.reads_of_C (enc:=Value.int .i64) (d:=(0:Int)) (h1:=fun _=>rfl) hC).2.2 h
  exact ⟨ad,e,nums_cells hc⟩
 ·rintro e w' ⟨A1,c1,rfl,hle,hnr,hb⟩
  refine ⟨A1,c1,rfl,hle,fun X hX w2 h2=>⟨rfl,by omega,fun h=>?_⟩,hb⟩
  obtain ⟨g1,cur,rfl,hg,hbk,hcur⟩:=hnr h
  have hbk2:=h2.2 g1 _ (hX g1 hg) hbk rfl
  refine ⟨_,rfl,fun j p hj=>⟨[.int .i64 p],rfl,rfl,fun i u hu=>?_⟩⟩
  obtain rfl:i=0:=by
   have:=(List.getElem?_eq_some_iff.1 hu).1
   simp at this
   omega
  simp at hu
  subst hu
  have e2:j*(Kd.int .i64).sz+0=j:=Nat.mul_one j
  rw [e2,Addr.add_lit,Nat.zero_add]
  refine (blk_cell hbk2 j).trans (hcur j _ ?_)
  simp [nums,hj]
/-- slices.Clone of a row of operations: the inner rows stay where they are. -/
theorem clone_ops (A:Option Addr) (c:Nat) (xs:List S45) (og:Nat→Option Addr × Nat) (w:World) (h:OpsAt w A xs og) (hl:xs.length≤1000000000) :
  Calls Tryz.prog 89 #[.slice A xs.length c] w fun e w'=>∃ A1 c1,e=.returned (.slice A1 xs.length c1)∧xs.length≤c1∧NewRow w w' 45 xs.length ((List.range xs.length).flatMap fun k:Nat=>opC (rd_T45 xs (k:Int)) (og k)) A1∧Below w.heap.size w w':=by
 refine clone91 A xs.length c _ w (flat_len _ 6 (fun i=>rfl) _) (fun u hu=>?_) hl (fun h0=>?_)
 ·obtain ⟨k,_,hk⟩:=List.mem_flatMap.1 hu
  simp only [opC,List.mem_cons,List.not_mem_nil,or_false] at hk
  rcases hk with rfl|rfl|rfl|rfl|rfl|rfl<;>rfl
 ·obtain ⟨ad,e,_⟩:=(h 0 h0).out
  refine ⟨ad,e,fun j u hu=>?_⟩
  have hj:=(List.getElem?_eq_some_iff.1 hu).1
  rw [flat_len _ 6 (fun i=>rfl)] at hj
  have hj2:j / 6<xs.length:=Nat.div_lt_of_lt_mul (by omega)
  have hjm:j % 6<6:=Nat.mod_lt _ (by decide)
  have ej:j / 6*6+j % 6=j:=Nat.div_add_mod' j 6
  rw [← ej,flat_get (fun k:Nat=>opC (rd_T45 xs (k:Int)) (og k)) 6 (fun i=>rfl) xs.length (j / 6) (j % 6) hj2 hjm] at hu
  obtain ⟨ad',e',h0,h1,h2,h3,h4,h5⟩:=(h (j / 6) hj2).out
  cases e.symm.trans e'
  rw [← ej]
  generalize j / 6=q at *
  generalize j % 6=r at *
  have hr:r=0∨r=1∨r=2∨r=3∨r=4∨r=5:=by omega
  rcases hr with rfl|rfl|rfl|rfl|rfl|rfl<;>(simp [opC] at hu;subst hu)
  ·exact h0
  ·rw [add_field _ _ 1 (by omega)];exact h1
  ·rw [add_field _ _ 2 (by omega)];exact h2
  ·rw [add_field _ _ 3 (by omega)];exact h3
  ·rw [add_field _ _ 4 (by omega)];exact h4
  ·rw [add_field _ _ 5 (by omega)];exact h5
theorem clone_blks (A:Option Addr) (c:Nat) (bs:List S50) (bg:Nat→Option Addr × Nat) (w:World) (h:BlksAt w A bs bg) (hl:bs.length≤1000000000) :
  Calls Tryz.prog 88 #[.slice A bs.length c] w fun e w'=>∃ A1 c1,e=.returned (.slice A1 bs.length c1)∧bs.length≤c1∧NewRow w w' 50 bs.length ((List.range bs.length).flatMap fun k:Nat=>blkC' (rd_T50 bs (k:Int)) (bg k)) A1∧Below w.heap.size w w':=by
 refine clone90 A bs.length c _ w (flat_len _ 5 (fun i=>rfl) _) (fun u hu=>?_) hl (fun h0=>?_)
 ·obtain ⟨k,_,hk⟩:=List.mem_flatMap.1 hu
  simp only [blkC',List.mem_cons,List.not_mem_nil,or_false] at hk
  rcases hk with rfl|rfl|rfl|rfl|rfl<;>rfl
 ·obtain ⟨ad,e,_⟩:=(h 0 h0).out
  refine ⟨ad,e,fun j u hu=>?_⟩
  have hj:=(List.getElem?_eq_some_iff.1 hu).1
  rw [flat_len _ 5 (fun i=>rfl)] at hj
  have hj2:j / 5<bs.length:=Nat.div_lt_of_lt_mul (by omega)
  have hjm:j % 5<5:=Nat.mod_lt _ (by decide)
  have ej:j / 5*5+j % 5=j:=Nat.div_add_mod' j 5
  rw [← ej,flat_get (fun k:Nat=>blkC' (rd_T50 bs (k:Int)) (bg k)) 5 (fun i=>rfl) bs.length (j / 5) (j % 5) hj2 hjm] at hu
  obtain ⟨ad',e',h0,h1,h2,h3,h4⟩:=(h (j / 5) hj2).out
  cases e.symm.trans e'
  rw [← ej]
  generalize j / 5=q at *
  generalize j % 5=r at *
  have hr:r=0∨r=1∨r=2∨r=3∨r=4:=by omega
  rcases hr with rfl|rfl|rfl|rfl|rfl<;>(simp [blkC'] at hu;subst hu)
  ·exact h0
  ·rw [add_field _ _ 1 (by omega)];exact h1
  ·rw [add_field _ _ 2 (by omega)];exact h2
  ·rw [add_field _ _ 3 (by omega)];exact h3
  ·rw [add_field _ _ 4 (by omega)];exact h4
end Go.Proofs.YtnkgbnbbmcoiiaaGreat.S
