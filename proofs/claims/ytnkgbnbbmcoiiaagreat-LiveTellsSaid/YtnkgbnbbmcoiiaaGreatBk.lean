import Derived.Test.YtnkgbnbbmcoiiaaGreatWWords
namespace Go.Proofs.YtnkgbnbbmcoiiaaGreat.S
open Go.RowKit Go.Proofs.YtnkgbnbbmcoiiaaGreatW.PrintWords
/-! ### What a world's blocks keep: steps that the texts take often -/
theorem bk_ {P Q:Prop} (x:Aside0 Q) (h:Q→P:=by intro h;(with_reducible repeat (first|refine blk_drewN ?_ _|refine blk_drew ?_|refine blk_alloc ?_ _));exact h):P:=h x.out
theorem bl_ {P Q:Prop} (x:Aside0 Q) (h:Q→P:=by intro h;repeat (first|(with_reducible first|exact h|apply below_alloc|apply pw_below_drewN|apply below_drew1|refine below_set ?_ (Aside0.out (by with_reducible assumption)))|exact h)):P:=h x.out
theorem ck_ {w:World} {g:Nat} {t:TypeId} {cs:Array Value} {v:Value} (x:Aside0 (w.heap[g]?=some (.cells cs t (0,0)))) (i:Nat) (h:cs[i]?=some v:=by rfl):w.cell? ⟨g,i,none⟩=some v:=(blk_cell x.out i).trans h
theorem cl_ {w w' : World} {a:Addr} {v:Value} (x:Aside0 (Below w.heap.size w w')) (h:w.cell? a=some v):w'.cell? a=some v:=(x.out.cell (World.block_lt_of_cell? w _ h)).trans h
end Go.Proofs.YtnkgbnbbmcoiiaaGreat.S
