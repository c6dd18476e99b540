import Derived.Test.YtnkgbnbbmcoiiaaGreatWWords
namespace Go.Proofs.YtnkgbnbbmcoiiaaGreatW.PrintWords
open Go.RowKit
set_option linter.unusedVariables false
/-! ### What keeps all blocks but those of one type -/
def TX (t:TypeId) (w w' : World):Prop:=w.heap.size≤w'.heap.size∧∀ i,i<w.heap.size→(∀ cs f,w.heap[i]?≠some (.cells cs t f))→w'.heap[i]?=w.heap[i]?
theorem TX.refl (t:TypeId) (w:World):TX t w w:=⟨Nat.le_refl _,fun _ _ _=>rfl⟩
theorem TX.trans {t:TypeId} {a b c:World} (h:TX t a b) (k:TX t b c):TX t a c :=
 ⟨Nat.le_trans h.1 k.1,fun i hi hn=>by
  have e:=h.2 i hi hn
  rw [k.2 i (Nat.lt_of_lt_of_le hi h.1) (fun cs f=>by rw [e];exact hn cs f),e]⟩
theorem TX.of_below {t:TypeId} {w w' : World} (h:Below w.heap.size w w'):TX t w w':=⟨h.size,fun i hi _=>h.block i hi⟩
theorem TX.of_append {t:TypeId} {W w1:World} {base size n:Nat} {v:Value} {xs:List Value} (ho:W.ownsRow base t size v n xs) (hg:W.grownBy w1 v.ownBlock):TX t W w1 :=
 ⟨hg.size,fun i hi hn=>hg.block i hi (fun e=>by
  obtain ⟨cs,hc⟩:=own_typed ho i e.symm
  exact hn _ _ hc)⟩
theorem TX.blk {t t' : TypeId} {w w' : World} {g:Nat} {cs:Array Value} {f:Nat × Nat} (h:TX t w w') (hx:w.heap[g]?=some (.cells cs t' f)) (hne:t'≠t):w'.heap[g]?=some (.cells cs t' f):=by
 rw [h.2 g (blk_lt hx) (fun cs' f' e=>by rw [hx] at e;injection e with e;injection e with _ e2 _;exact hne e2)]
 exact hx
theorem TX.R {α:Type} {d:Kd α} {e:Nat} {t:TypeId} {w w' : World} {base:Nat} {ok:Nat→Prop} {v:Value} {xs:List α} (h:TX t w w') (hr:d.R e w base ok v xs) (hne:∀ q∈e::d.E,q≠t):d.R e w' base (fun _=>True) v xs:=by
 refine Kd.R_mono (Kd.R_move (Kd.R_bound hr) (fun k hk=>?_)) (fun _ _=>trivial)
 obtain ⟨_,_,hlt,q,hq,cs,hc⟩:=hk
 exact h.2 k hlt (fun cs' f' e2=>by
  rw [hc] at e2
  injection e2 with e2
  injection e2 with _ e3 _
  exact hne q hq e3)
end Go.Proofs.YtnkgbnbbmcoiiaaGreatW.PrintWords
namespace Go.Proofs.YtnkgbnbbmcoiiaaGreat.S
open Go.RowKit Go.Proofs.YtnkgbnbbmcoiiaaGreatW.PrintWords
/-! ### What a world's blocks keep: steps that the texts take often -/
theorem bk_ {P Q:Prop} (x:Aside0 Q) (h:Q→P:=by intro h;(with_reducible repeat (first|refine blk_drewN ?_ _|refine blk_drew ?_|refine blk_alloc ?_ _));exact h):P:=h x.out
theorem bl_ {P Q:Prop} (x:Aside0 Q) (h:Q→P:=by intro h;repeat (first|(with_reducible first|exact h|apply below_alloc|apply pw_below_drewN|apply below_drew1|refine below_set ?_ (Aside0.out (by with_reducible assumption)))|exact h)):P:=h x.out
theorem ck_ {w:World} {g:Nat} {t:TypeId} {cs:Array Value} {v:Value} (x:Aside0 (w.heap[g]?=some (.cells cs t (0,0)))) (i:Nat) (h:cs[i]?=some v:=by rfl):w.cell? ⟨g,i,none⟩=some v:=(blk_cell x.out i).trans h
theorem ak_ {P:Prop} (h:P):Aside0 P:=⟨h⟩
theorem fz_ {w:World} {g:Nat} {t:TypeId} {cs:Array Value} (x:Aside0 (w.heap[g]?=some (.cells cs t (0,0)))) (i:Nat):w.frozen? ⟨g,i,none⟩=false:=blk_frozen x.out i
theorem bc_ {w:World} {g:Nat} {t:TypeId} {cs:Array Value} (x:Aside0 (w.heap[g]?=some (.cells cs t (0,0)))) (i:Nat):w.cell? ⟨g,i,none⟩=cs[i]?:=blk_cell x.out i
theorem ga_ {α:Type} {l:List α} {i:Nat} : l.toArray[i]?=l[i]?:=List.getElem?_toArray
theorem gb_ {α:Type} {a:α} {l:List α} : (a::l)[0]?=some a:=List.getElem?_cons_zero
theorem gc_ {α:Type} {a:α} {l:List α} {i:Nat} : (a::l)[i+1]?=l[i]?:=List.getElem?_cons_succ
theorem pa_ {α:Type} {l:List α} {i:Nat} {a:α} : l.toArray.setIfInBounds i a=(l.set i a).toArray:=List.setIfInBounds_toArray _ _ _
theorem pb_ {α:Type} {x a:α} {l:List α} : (x::l).set 0 a=a::l:=List.set_cons_zero
theorem pc_ {α:Type} {x a:α} {l:List α} {i:Nat} : (x::l).set (i+1) a=x::l.set i a:=List.set_cons_succ
theorem cl_ {w w' : World} {a:Addr} {v:Value} (x:Aside0 (Below w.heap.size w w')) (h:w.cell? a=some v):w'.cell? a=some v:=(x.out.cell (World.block_lt_of_cell? w _ h)).trans h
