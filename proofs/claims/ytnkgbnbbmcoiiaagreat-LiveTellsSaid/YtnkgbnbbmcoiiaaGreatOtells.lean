import Derived.Test.YtnkgbnbbmcoiiaaGreatOsweep
import Derived.Test.YtnkgbnbbmcoiiaaGreatRf
import Derived.Test.YtnkgbnbbmcoiiaaGreatOsame14
import Derived.Test.YtnkgbnbbmcoiiaaGreatLv2
import Derived.Test.YtnkgbnbbmcoiiaaGreatS8
import Derived.Test.YtnkgbnbbmcoiiaaGreatOdead
import Derived.Test.YtnkgbnbbmcoiiaaGreatOapp
import Derived.Test.YtnkgbnbbmcoiiaaGreatOright
namespace Go.Proofs.YtnkgbnbbmcoiiaaGreat.S
open Go.RowKit Go.IM Go.RelRegion Go.Proofs.YtnkgbnbbmcoiiaaGreatW.PrintWords Go.Proofs.YtnkgbnbbmcoiiaaGreatW.PrintLast Go.Proofs.YtnkgbnbbmcoiiaaGreatW.PrintMore
set_option linter.unusedVariables false
set_option linter.unusedSimpArgs false
/-! ### swageref05.Pairs at equal rows;swagelaw17.small -/
theorem eqA68' (d:Nat) (w:World) (x0 x1 y0 y1:Int):(Op.equalIn (d+2) 68 (.agg #[.int .i64 x0,.int .i64 x1]) (.agg #[.int .i64 y0,.int .i64 y1])).run Tryz.prog w=.ok (x0 == y0 && (x1 == y1)) w:=eqA68 d w (x0,x1) (y0,y1)
section
attribute [local go_sem high] eqA68'
set_option maxHeartbeats 4000000 in
set_option maxRecDepth 100000 in
theorem pairs_same (A:Option Addr) (c:Nat) (A' : Option Addr) (c' : Nat) (ds:List (Nat × Nat)) (w:World) (h:PrAt w A ds) (h' : PrAt w A' ds) (hl:ds.length≤16384) :
  Calls Tryz.prog 29 #[.slice A ds.length c,.slice A' ds.length c'] w fun e w'=>e=.returned (.bool true)∧Below w.heap.size w w':=by
 have hu86:=Tryz.underlying68
 have H:=Aside0.mk h
 have H':=Aside0.mk h'
 clear h h'
 go_enter Tryz.func29,Tryz.ntmps29
 go_wp2_with fail
 go_loopw [5] (fun i wr=>∃ j:Nat,j≤ds.length∧i=.int .i64 (j:Int)∧Aside0 (Below w.heap.size w wr)) (fun i _=>ds.length - (intOf i).toNat)
 case atStart=>exact ⟨0,Nat.zero_le _,rfl,⟨Below.refl _ _⟩⟩
 case round =>
  obtain ⟨j,hj,rfl,HB⟩:=hrel
  by_cases hlt:j<ds.length
  ·have b1:decide ((j:Int)<(ds.length:Int))=true:=decide_eq_true (by omega)
   have hw1:wrap64 ((j:Int)+1)=(j:Int)+1:=(wr3 (z:=0) (by decide) (by omega)).2.2
   obtain ⟨ad,eA,k0,k1⟩:=(H.out.below HB.out) j hlt
   obtain ⟨ad',eA',m0,m1⟩:=(H'.out.below HB.out) j hlt
   subst eA eA'
   generalize ds[j]=q at k0 k1 m0 m1
   go_wp2_with fail
   refine wp_region_rel 9 (fun _=>none) (fun _=>[]) (fun _ _ _=>True) (fun wq=>Below wr.heap.size wr wq) (fun a b=>Below a.heap.size a b) (by kernel_rfl) (by kernel_rfl) (below_drew (Below.refl _ _)) (fun a b h k=>below_then h h.size k) (fun _ _ _ _ h _=>h) ?_
   simp only [List.take_succ_cons,List.take_zero,List.drop_succ_cons,List.drop_zero]
   iterate 9 (apply relQ_step rfl;apply Exists.intro;constructor;(focus (intro wq hwq;have k0:=pw_cell_below hwq k0;have k1:=pw_cell_below hwq k1;have m0:=pw_cell_below hwq m0;have m1:=pw_cell_below hwq m1;unfold Yl;go_wp2_with fail;exact ⟨rfl,_,rfl,rfl,Below.refl _ _⟩));(try simp only [Act.put,List.setIfInBounds_toArray,List.set_cons_zero,List.set_cons_succ]))
   refine relQ_nil (fun xx=>?_)
   repeat (refine relL_quiet rfl ?_)
   refine relL_nil (fun w13 hw13 _=>?_)
   have HB13:=Aside0.mk (below_then HB.out HB.out.size hw13)
   clear k0 k1 m0 m1 hw13
   go_wp2_with fail
   go_roundw
   case rel=>exact ⟨j+1,hlt,by first|(rw [hw1];exact num_cast j)|(with_reducible exact num_cast j),HB13⟩
   case measure=>first|(rw [hw1];exact num_meas hlt)|(with_reducible exact num_meas hlt)
  ·have b1:decide ((j:Int)<(ds.length:Int))=false:=decide_eq_false (by omega)
   go_wp2_with fail
   go_ret
   exact ⟨rfl,HB.out⟩
end
theorem opsTC {W:World} {g:Nat} (h:W.heap[g]?=some (.cells #[.int .i64 1,.int .i64 1,.int .i64 0,.int .i64 0,.int .i64 4,.slice none 0 0,.int .i64 1,.int .i64 2,.int .i64 0,.int .i64 0,.int .i64 5,.slice none 0 0,.int .i64 9,.int .i64 0,.int .i64 1,.int .i64 0,.int .i64 0,.slice none 0 0] 45 (0,0))):Kd.C k45 W (some ⟨g,0,none⟩) 3 [⟨1,1,0,0,4,[]⟩,⟨1,2,0,0,5,[]⟩,⟨9,0,1,0,0,[]⟩]:=by
 refine ⟨rfl,by decide,fun _=>⟨_,rfl,fun j p hj=>?_⟩⟩
 have hcell:∀ n,W.cell? ⟨g,n,none⟩=_:=fun n=>blk_cell h n
 match j,hj with
 | 0,hj =>
  cases hj
  refine ⟨_,rfl,k45_mk W ⟨1,1,0,0,4,[]⟩ (c5:=0) (Nat.le_refl _) (C0 W),fun i u hi=>?_⟩
  match i,hi with
  | 0,hi=>cases hi;exact hcell 0
  | 1,hi=>cases hi;exact hcell 1
  | 2,hi=>cases hi;exact hcell 2
  | 3,hi=>cases hi;exact hcell 3
  | 4,hi=>cases hi;exact hcell 4
  | 5,hi=>cases hi;exact hcell 5
  | i+6,hi=>simp at hi
 | 1,hj =>
  cases hj
  refine ⟨_,rfl,k45_mk W ⟨1,2,0,0,5,[]⟩ (c5:=0) (Nat.le_refl _) (C0 W),fun i u hi=>?_⟩
  match i,hi with
  | 0,hi=>cases hi;exact hcell 6
  | 1,hi=>cases hi;exact hcell 7
  | 2,hi=>cases hi;exact hcell 8
  | 3,hi=>cases hi;exact hcell 9
  | 4,hi=>cases hi;exact hcell 10
  | 5,hi=>cases hi;exact hcell 11
  | i+6,hi=>simp at hi
 | 2,hj =>
  cases hj
  refine ⟨_,rfl,k45_mk W ⟨9,0,1,0,0,[]⟩ (c5:=0) (Nat.le_refl _) (C0 W),fun i u hi=>?_⟩
  match i,hi with
  | 0,hi=>cases hi;exact hcell 12
  | 1,hi=>cases hi;exact hcell 13
  | 2,hi=>cases hi;exact hcell 14
  | 3,hi=>cases hi;exact hcell 15
  | 4,hi=>cases hi;exact hcell 16
  | 5,hi=>cases hi;exact hcell 17
  | i+6,hi=>simp at hi
 | j+3,hj=>simp at hj
theorem blkTC {W:World} {g g' : Nat} (h:W.heap[g]?=some (.cells #[.int .i64 1,.int .i64 1,.int .i64 0,.int .i64 0,.int .i64 4,.slice none 0 0,.int .i64 1,.int .i64 2,.int .i64 0,.int .i64 0,.int .i64 5,.slice none 0 0,.int .i64 9,.int .i64 0,.int .i64 1,.int .i64 0,.int .i64 0,.slice none 0 0] 45 (0,0))) (h' : W.heap[g']?=some (.cells #[.slice (some ⟨g,0,none⟩) 3 3,.int .i64 3,.int .i64 1,.int .i64 0,.int .i64 0] 50 (0,0))):Kd.C k50 W (some ⟨g',0,none⟩) 1 bsT:=by
 refine ⟨rfl,by decide,fun _=>⟨_,rfl,fun j p hj=>?_⟩⟩
 have hcell:∀ n,W.cell? ⟨g',n,none⟩=_:=fun n=>blk_cell h' n
 match j,hj with
 | 0,hj =>
  cases hj
  refine ⟨_,rfl,k50_mk W ⟨[⟨1,1,0,0,4,[]⟩,⟨1,2,0,0,5,[]⟩,⟨9,0,1,0,0,[]⟩],⟨3,1,0,0⟩⟩ (c0:=3) (Nat.le_refl _) (opsTC h),fun i u hi=>?_⟩
  match i,hi with
  | 0,hi=>cases hi;exact hcell 0
  | 1,hi=>cases hi;exact hcell 1
  | 2,hi=>cases hi;exact hcell 2
  | 3,hi=>cases hi;exact hcell 3
  | 4,hi=>cases hi;exact hcell 4
  | i+5,hi=>simp at hi
 | j+1,hj=>simp [bsT] at hj
theorem rows_same1:swageref06_Rows.f 9 [[1],[1],[1]] [[1],[1],[1]]=some true:=by decide +kernel
theorem rows_same2:swageref06_Rows.f 9 [[]] [[]]=some true:=by decide +kernel
/-- A literal of slices,as rows. -/
theorem litRows {W:World} {g:Nat} {gs:List Tri} {L:List (List Int)} (h:W.heap[g]?=some (.cells (encs slv gs).toArray 31 (0,0))) (ht:Tells .i64 W gs L) (hl:gs.length≤1000):Kd.C (Kd.slice 3 (Kd.int .i64)) W (some ⟨g,0,none⟩) L.length L:=by
 have hr:ReadsOf slv zt W (some ⟨g,0,none⟩) gs.length gs:=⟨rfl,by omega,fun _=>⟨_,rfl,fun j hj=>by
  rw [Addr.add_lit,Nat.zero_add]
  refine (blk_cell h j).trans ?_
  simp [encs,List.getD_eq_getElem?_getD,hj]⟩⟩
 rw [ht.len] at hr
 exact tells_C hr ht
set_option maxHeartbeats 8000000 in
set_option maxRecDepth 100000 in
theorem small17_walk (w:World):Calls Tryz.prog 18 #[] w fun e w'=>e=.returned (.bool true)∧Below w.heap.size w w':=by
 have hu34:=Tryz.underlying24
 have hu43:=Tryz.underlying50
 have hu45:=Tryz.underlying45
 have hu41:=Tryz.underlying48
 have hu86:=Tryz.underlying68
 go_enter Tryz.func18,Tryz.ntmps18
 go_wp2_with fail
 have x0:=blk_alloc (blk_alloc (blk_new w (.cells #[.int .i64 1,.int .i64 1,.int .i64 0,.int .i64 0,.int .i64 4,.slice none 0 0,.int .i64 1,.int .i64 2,.int .i64 0,.int .i64 0,.int .i64 5,.slice none 0 0,.int .i64 9,.int .i64 0,.int .i64 1,.int .i64 0,.int .i64 0,.slice none 0 0] 45)) (.cells #[.slice (some ⟨w.heap.size,0,none⟩) 3 3,.int .i64 3,.int .i64 1,.int .i64 0,.int .i64 0] 50)) (.cells #[.int .i64 0,.slice (some ⟨w.heap.size+1,0,none⟩) 1 1] 24)
 have x1:=blk_alloc (blk_new (w.alloc (.cells #[.int .i64 1,.int .i64 1,.int .i64 0,.int .i64 0,.int .i64 4,.slice none 0 0,.int .i64 1,.int .i64 2,.int .i64 0,.int .i64 0,.int .i64 5,.slice none 0 0,.int .i64 9,.int .i64 0,.int .i64 1,.int .i64 0,.int .i64 0,.slice none 0 0] 45)) (.cells #[.slice (some ⟨w.heap.size,0,none⟩) 3 3,.int .i64 3,.int .i64 1,.int .i64 0,.int .i64 0] 50)) (.cells #[.int .i64 0,.slice (some ⟨w.heap.size+1,0,none⟩) 1 1] 24)
 have x2:=blk_new ((w.alloc (.cells #[.int .i64 1,.int .i64 1,.int .i64 0,.int .i64 0,.int .i64 4,.slice none 0 0,.int .i64 1,.int .i64 2,.int .i64 0,.int .i64 0,.int .i64 5,.slice none 0 0,.int .i64 9,.int .i64 0,.int .i64 1,.int .i64 0,.int .i64 0,.slice none 0 0] 45)).alloc (.cells #[.slice (some ⟨w.heap.size,0,none⟩) 3 3,.int .i64 3,.int .i64 1,.int .i64 0,.int .i64 0] 50)) (.cells #[.int .i64 0,.slice (some ⟨w.heap.size+1,0,none⟩) 1 1] 24)
 rw [World.size_alloc] at x1
 rw [World.size_alloc,World.size_alloc] at x2
 have hb3:=below_alloc (below_alloc (below_alloc (Below.refl w.heap.size w) (.cells #[.int .i64 1,.int .i64 1,.int .i64 0,.int .i64 0,.int .i64 4,.slice none 0 0,.int .i64 1,.int .i64 2,.int .i64 0,.int .i64 0,.int .i64 5,.slice none 0 0,.int .i64 9,.int .i64 0,.int .i64 1,.int .i64 0,.int .i64 0,.slice none 0 0] 45)) (.cells #[.slice (some ⟨w.heap.size,0,none⟩) 3 3,.int .i64 3,.int .i64 1,.int .i64 0,.int .i64 0] 50)) (.cells #[.int .i64 0,.slice (some ⟨w.heap.size+1,0,none⟩) 1 1] 24)
 generalize ((w.alloc (.cells #[.int .i64 1,.int .i64 1,.int .i64 0,.int .i64 0,.int .i64 4,.slice none 0 0,.int .i64 1,.int .i64 2,.int .i64 0,.int .i64 0,.int .i64 5,.slice none 0 0,.int .i64 9,.int .i64 0,.int .i64 1,.int .i64 0,.int .i64 0,.slice none 0 0] 45)).alloc (.cells #[.slice (some ⟨w.heap.size,0,none⟩) 3 3,.int .i64 3,.int .i64 1,.int .i64 0,.int .i64 0] 50)).alloc (.cells #[.int .i64 0,.slice (some ⟨w.heap.size+1,0,none⟩) 1 1] 24)=W3 at x0 x1 x2 hb3 ⊢
 have hC3:=blkTC x0 x1
 have HX3:=Aside0.mk x2
 have HC3:=Aside0.mk hC3
 have HB3:=Aside0.mk hb3
 clear x0 x1 x2 hC3 hb3
 refine (sweep_ok 0 (some ⟨w.heap.size+1,0,none⟩) 1 bsT _ HC3.out t_right).mono ?_
 rintro e w4 ⟨A4,c4,sw,rfl,hle,hsw,hCs,hb⟩
 obtain rfl:=t_sweep hsw
 have e1:bsS.length=1:=rfl
 rw [e1] at hle hCs ⊢
 have hbA:=below_then hb hb.size (below_alloc (Below.refl w4.heap.size w4) (.cells #[.int .i64 0,.slice A4 1 c4] 24))
 have HS5:=Aside0.mk (Kd.C_below hCs (below_alloc (Below.refl w4.heap.size w4) (.cells #[.int .i64 0,.slice A4 1 c4] 24)))
 have HY5:=Aside0.mk (blk_new w4 (.cells #[.int .i64 0,.slice A4 1 c4] 24))
 have HC5:=Aside0.mk (Kd.C_below HC3.out hbA)
 have HX5:=Aside0.mk (blk_below HX3.out hbA)
 have HB5:=Aside0.mk (below_then HB3.out HB3.out.size hbA)
 clear HC3
 clear HX3
 clear HB3
 have c0:=blk_cell HX5.out 0
 have c1:=blk_cell HX5.out 1
 have d0:=blk_cell HY5.out 0
 have d1:=blk_cell HY5.out 1
 simp only [List.getElem?_toArray,List.getElem?_cons_zero,List.getElem?_cons_succ] at c0 c1 d0 d1
 clear hb hbA hCs hle hsw e1
 go_wp2_with fail
 generalize w4.alloc (.cells #[.int .i64 0,.slice A4 1 c4] 24)=W5 at HC5 HX5 HB5 HS5 HY5 c0 c1 d0 d1 ⊢
 refine (After_ok 0 (some ⟨w.heap.size+1,0,none⟩) 1 bsT 0 _ HC5.out t_right (by decide)).mono ?_
 rintro e w6 ⟨v6,rfl,hr,hb⟩
 rw [t_after] at hr
 obtain ⟨Aa,ca,rfl,ka,hCa⟩:=Kd.R_reads hr
 have HCA:=Aside0.mk hCa
 have HKA:=Aside0.mk ka
 have HC6:=Aside0.mk (Kd.C_below HC5.out hb)
 have HX6:=Aside0.mk (blk_below HX5.out hb)
 have HB6:=Aside0.mk (below_then HB5.out HB5.out.size hb)
 have HS6:=Aside0.mk (Kd.C_below HS5.out hb)
 have HY6:=Aside0.mk (blk_below HY5.out hb)
 clear HC5
 clear HX5
 clear HB5
 clear HS5
 clear HY5
 clear c0 c1 d0 d1
 clear hr hb hCa ka
 go_wp2_with fail
 have hb1:=below_alloc (Below.refl w6.heap.size w6) (.cells #[.int .i64 1] 3)
 have hb2:=below_alloc (Below.refl (w6.alloc (.cells #[.int .i64 1] 3)).heap.size (w6.alloc (.cells #[.int .i64 1] 3))) (.cells #[.int .i64 1] 3)
 have hb3:=below_alloc (Below.refl ((w6.alloc (.cells #[.int .i64 1] 3)).alloc (.cells #[.int .i64 1] 3)).heap.size ((w6.alloc (.cells #[.int .i64 1] 3)).alloc (.cells #[.int .i64 1] 3))) (.cells #[.int .i64 1] 3)
 have hl1:=Tells.one (c:=1) (C_one w6 1) (by decide)
 have hl2:=Tells.one (c:=1) (C_one (w6.alloc (.cells #[.int .i64 1] 3)) 1) (by decide)
 have hl3:=Tells.one (c:=1) (C_one ((w6.alloc (.cells #[.int .i64 1] 3)).alloc (.cells #[.int .i64 1] 3)) 1) (by decide)
 have ht:=((hl1.below hb2).append hl2).below hb3
 have ht:=ht.append hl3
 simp only [World.size_alloc] at ht
 have hbw:=below_then (below_then hb1 hb1.size hb2) (below_then hb1 hb1.size hb2).size hb3
 have hsz7:(((w6.alloc (.cells #[.int .i64 1] 3)).alloc (.cells #[.int .i64 1] 3)).alloc (.cells #[.int .i64 1] 3)).heap.size=w6.heap.size+1+1+1:=by rw [World.size_alloc,World.size_alloc,World.size_alloc]
 generalize ((w6.alloc (.cells #[.int .i64 1] 3)).alloc (.cells #[.int .i64 1] 3)).alloc (.cells #[.int .i64 1] 3)=W7 at ht hbw hsz7 ⊢
 have hb8:=below_alloc (Below.refl W7.heap.size W7) (.cells #[.slice (some ⟨w6.heap.size,0,none⟩) 1 1,.slice (some ⟨w6.heap.size+1,0,none⟩) 1 1,.slice (some ⟨w6.heap.size+1+1,0,none⟩) 1 1] 31)
 have hbw8:=below_then hbw hbw.size hb8
 have hL:Kd.C (Kd.slice 3 (Kd.int .i64)) (W7.alloc (.cells #[.slice (some ⟨w6.heap.size,0,none⟩) 1 1,.slice (some ⟨w6.heap.size+1,0,none⟩) 1 1,.slice (some ⟨w6.heap.size+1+1,0,none⟩) 1 1] 31)) (some ⟨W7.heap.size,0,none⟩) 3 [[1],[1],[1]]:=litRows (gs:=[(some ⟨w6.heap.size,0,none⟩,1,1),(some ⟨w6.heap.size+1,0,none⟩,1,1),(some ⟨w6.heap.size+1+1,0,none⟩,1,1)]) (blk_new W7 _) (ht.below hb8) (by simp)
 rw [hsz7] at hL
 refine (swageref06_Rows.calls 9 Aa ca [[1],[1],[1]] (some ⟨w6.heap.size+1+1+1,0,none⟩) 3 [[1],[1],[1]] true _ (Kd.C_below HCA.out hbw8) HKA.out hL (by decide) rows_same1).mono ?_
 rintro e w9 ⟨rfl,hd⟩
 have hb9:=below_then hbw8 hbw8.size hd.below
 have HC9:=Aside0.mk (Kd.C_below HC6.out hb9)
 have HX9:=Aside0.mk (blk_below HX6.out hb9)
 have HB9:=Aside0.mk (below_then HB6.out HB6.out.size hb9)
 have HS9:=Aside0.mk (Kd.C_below HS6.out hb9)
 have HY9:=Aside0.mk (blk_below HY6.out hb9)
 clear HC6
 clear HX6
 clear HB6
 clear HS6
 clear HY6
 have c0:=blk_cell HX9.out 0
 have c1:=blk_cell HX9.out 1
 have d0:=blk_cell HY9.out 0
 have d1:=blk_cell HY9.out 1
 simp only [List.getElem?_toArray,List.getElem?_cons_zero,List.getElem?_cons_succ] at c0 c1 d0 d1
 clear hb1 hb2 hb3 hl1 hl2 hl3 ht hbw hsz7 hb8 hbw8 hL hd hb9 HCA HKA
 go_wp2_with fail
 refine (dead_ok 0 (some ⟨w.heap.size+1,0,none⟩) 1 bsT _ HC9.out t_right).mono ?_
 rintro e w10 ⟨v10,rfl,ho,hb⟩
 have hdt:deadP bsT (plcs bsT bsT.length)=[(0,1)]:=t_dead
 rw [hdt] at ho
 obtain ⟨Dd,cd,rfl⟩:=own_slice ho
 have HPA:=Aside0.mk (PrAt.of_own ho)
 have HC10:=Aside0.mk (Kd.C_below HC9.out hb)
 have HX10:=Aside0.mk (blk_below HX9.out hb)
 have HB10:=Aside0.mk (below_then HB9.out HB9.out.size hb)
 have HS10:=Aside0.mk (Kd.C_below HS9.out hb)
 have HY10:=Aside0.mk (blk_below HY9.out hb)
 clear HC9
 clear HX9
 clear HB9
 clear HS9
 clear HY9
 clear c0 c1 d0 d1
 clear ho hb hdt
 go_wp2_with fail
 have hbA:=below_alloc (Below.refl w10.heap.size w10) (.cells #[.int .i64 0,.int .i64 1] 68)
 have hPL:PrAt (w10.alloc (.cells #[.int .i64 0,.int .i64 1] 68)) (some ⟨w10.heap.size,0,none⟩) [(0,1)]:=fun j hj=>by
  obtain rfl:j=0:=by simp at hj;omega
  exact ⟨_,rfl,by rw [Addr.add_lit];exact blk_cell (blk_new w10 (.cells #[.int .i64 0,.int .i64 1] 68)) 0,by simp only [Addr.add_lit];exact blk_cell (blk_new w10 (.cells #[.int .i64 0,.int .i64 1] 68)) 1⟩
 refine (pairs_same Dd cd (some ⟨w10.heap.size,0,none⟩) 1 [(0,1)] _ (HPA.out.below hbA) hPL (by decide)).mono ?_
 rintro e w11 ⟨rfl,hb⟩
 have hb11:=below_then hbA hbA.size hb
 have HC11:=Aside0.mk (Kd.C_below HC10.out hb11)
 have HX11:=Aside0.mk (blk_below HX10.out hb11)
 have HB11:=Aside0.mk (below_then HB10.out HB10.out.size hb11)
 have HS11:=Aside0.mk (Kd.C_below HS10.out hb11)
 have HY11:=Aside0.mk (blk_below HY10.out hb11)
 clear HC10
 clear HX10
 clear HB10
 clear HS10
 clear HY10
 have c0:=blk_cell HX11.out 0
 have c1:=blk_cell HX11.out 1
 have d0:=blk_cell HY11.out 0
 have d1:=blk_cell HY11.out 1
 simp only [List.getElem?_toArray,List.getElem?_cons_zero,List.getElem?_cons_succ] at c0 c1 d0 d1
 obtain ⟨ads,A5,c5,eS,k0,_⟩:=at_T50 HS11.out 0 (by decide) (by decide)
 have el:(rd_T50 bsS 0).f0.length=2:=rfl
 rw [el] at k0
 subst eS
 have k0:w11.cell? ads=some (.slice A5 2 c5):=by simpa [Addr.add] using k0
 clear hbA hPL hb hb11 HPA el
 go_wp2_with fail
 refine (most_ok 0 (some ⟨w.heap.size+1,0,none⟩) 1 bsT _ HC11.out t_right).mono ?_
 rintro e w12 ⟨m,rfl,hm,hb⟩
 obtain rfl:=t_most hm
 have HC12:=Aside0.mk (Kd.C_below HC11.out hb)
 have HX12:=Aside0.mk (blk_below HX11.out hb)
 have HB12:=Aside0.mk (below_then HB11.out HB11.out.size hb)
 have HS12:=Aside0.mk (Kd.C_below HS11.out hb)
 have HY12:=Aside0.mk (blk_below HY11.out hb)
 clear HC11
 clear HX11
 clear HB11
 clear HS11
 clear HY11
 clear c0 c1 d0 d1
 have c0:=blk_cell HX12.out 0
 have c1:=blk_cell HX12.out 1
 have d0:=blk_cell HY12.out 0
 have d1:=blk_cell HY12.out 1
 simp only [List.getElem?_toArray,List.getElem?_cons_zero,List.getElem?_cons_succ] at c0 c1 d0 d1
 clear hm hb k0
 go_wp2_with fail
 refine (in_ok 0 (some ⟨w.heap.size+1,0,none⟩) 1 bsT _ HC12.out t_right).mono ?_
 rintro e w13 ⟨v13,rfl,hr,hb⟩
 rw [t_in] at hr
 obtain ⟨Ai,ci,rfl,ki,hCi⟩:=Kd.R_reads hr
 have HC13:=Aside0.mk (Kd.C_below HC12.out hb)
 have HX13:=Aside0.mk (blk_below HX12.out hb)
 have HB13:=Aside0.mk (below_then HB12.out HB12.out.size hb)
 have HS13:=Aside0.mk (Kd.C_below HS12.out hb)
 have HY13:=Aside0.mk (blk_below HY12.out hb)
 clear HC12
 clear HX12
 clear HB12
 clear HS12
 clear HY12
 clear c0 c1 d0 d1
 have HCI:=Aside0.mk hCi
 have HKI:=Aside0.mk ki
 clear hr hb hCi ki
 go_wp2_with fail
 have hbA:=below_alloc (Below.refl w13.heap.size w13) (.cells #[.slice none 0 0] 31)
 have hL:Kd.C (Kd.slice 3 (Kd.int .i64)) (w13.alloc (.cells #[.slice none 0 0] 31)) (some ⟨w13.heap.size,0,none⟩) 1 [[]]:=litRows (gs:=[(none,0,0)]) (blk_new w13 _) (Tells.one (C0 _) (by decide)) (by decide)
 refine (swageref06_Rows.calls 9 Ai ci [[]] (some ⟨w13.heap.size,0,none⟩) 1 [[]] true _ (Kd.C_below HCI.out hbA) HKI.out hL (by decide) rows_same2).mono ?_
 rintro e w14 ⟨rfl,hd⟩
 have hb14:=below_then hbA hbA.size hd.below
 have HC14:=Aside0.mk (Kd.C_below HC13.out hb14)
 have HX14:=Aside0.mk (blk_below HX13.out hb14)
 have HB14:=Aside0.mk (below_then HB13.out HB13.out.size hb14)
 have HS14:=Aside0.mk (Kd.C_below HS13.out hb14)
 have HY14:=Aside0.mk (blk_below HY13.out hb14)
 clear HC13
 clear HX13
 clear HB13
 clear HS13
 clear HY13
 have c0:=blk_cell HX14.out 0
 have c1:=blk_cell HX14.out 1
 have d0:=blk_cell HY14.out 0
 have d1:=blk_cell HY14.out 1
 simp only [List.getElem?_toArray,List.getElem?_cons_zero,List.getElem?_cons_succ] at c0 c1 d0 d1
 clear hbA hL hd hb14 HCI HKI
 go_wp2_with fail
 refine (out_ok 0 (some ⟨w.heap.size+1,0,none⟩) 1 bsT _ HC14.out t_right).mono ?_
 rintro e w15 ⟨v15,rfl,hr,hb⟩
 rw [t_out] at hr
 obtain ⟨Ao,co,rfl,ko,hCo⟩:=Kd.R_reads hr
 have HC15:=Aside0.mk (Kd.C_below HC14.out hb)
 have HX15:=Aside0.mk (blk_below HX14.out hb)
 have HB15:=Aside0.mk (below_then HB14.out HB14.out.size hb)
 have HS15:=Aside0.mk (Kd.C_below HS14.out hb)
 have HY15:=Aside0.mk (blk_below HY14.out hb)
 clear HC14
 clear HX14
 clear HB14
 clear HS14
 clear HY14
 clear c0 c1 d0 d1
 have HCO:=Aside0.mk hCo
 have HKO:=Aside0.mk ko
 clear hr hb hCo ko
 go_wp2_with fail
 have hbA:=below_alloc (Below.refl w15.heap.size w15) (.cells #[.slice none 0 0] 31)
 have hL:Kd.C (Kd.slice 3 (Kd.int .i64)) (w15.alloc (.cells #[.slice none 0 0] 31)) (some ⟨w15.heap.size,0,none⟩) 1 [[]]:=litRows (gs:=[(none,0,0)]) (blk_new w15 _) (Tells.one (C0 _) (by decide)) (by decide)
 refine (swageref06_Rows.calls 9 Ao co [[]] (some ⟨w15.heap.size,0,none⟩) 1 [[]] true _ (Kd.C_below HCO.out hbA) HKO.out hL (by decide) rows_same2).mono ?_
 rintro e w16 ⟨rfl,hd⟩
 have hb16:=below_then hbA hbA.size hd.below
 have HC16:=Aside0.mk (Kd.C_below HC15.out hb16)
 have HX16:=Aside0.mk (blk_below HX15.out hb16)
 have HB16:=Aside0.mk (below_then HB15.out HB15.out.size hb16)
 have HS16:=Aside0.mk (Kd.C_below HS15.out hb16)
 have HY16:=Aside0.mk (blk_below HY15.out hb16)
 clear HC15
 clear HX15
 clear HB15
 clear HS15
 clear HY15
 clear hbA hL hd hb16 HCO HKO
 go_wp2_with fail
 go_ret
 exact ⟨rfl,HB16.out⟩
end Go.Proofs.YtnkgbnbbmcoiiaaGreat.S
namespace Go.Proofs.YtnkgbnbbmcoiiaaGreat.S
open Go.RowKit Go.IM Go.RelRegion Go.Proofs.YtnkgbnbbmcoiiaaGreatW.PrintWords Go.Proofs.YtnkgbnbbmcoiiaaGreatW.PrintLast Go.Proofs.YtnkgbnbbmcoiiaaGreatW.PrintMore
set_option linter.unusedVariables false
set_option linter.unusedSimpArgs false
/-! ### swagelaw17.LiveTells -/
def lv4E:Nat→Option (List Nat)
 | 2=>some []
 | 3=>some [2]
 | 4=>some [3]
 | 5=>some [4]
 | 6=>some [4,5]
 | 7=>some [4]
 | 8=>some [4,7]
 | 9=>some [4,6,8]
 | 10=>some [4,9]
 | 11=>some [10]
 | 12=>some [11]
 | 13=>some [11]
 | 14=>some [11,12,13]
 | 15=>some [11]
 | 16=>some [11]
 | 17=>some [11,15,16]
 | 18=>some [11,14,17]
 | 19=>some [11,18]
 | 20=>some [19]
 | _=>none
def lv4T (p x:Int) (A:Option Addr) (n c:Nat):Nat→Value
 | 3=>.bool true
 | 4=>.bool true
 | 5=>.agg #[.int .i64 p,.slice A n c]
 | 7=>.agg #[.int .i64 p,.slice A n c]
 | 9=>.bool true
 | 10=>.bool true
 | 11=>.bool true
 | 12=>.agg #[.int .i64 p,.slice A n c]
 | 13=>.int .i64 x
 | 15=>.agg #[.int .i64 p,.slice A n c]
 | 16=>.int .i64 x
 | 18=>.bool true
 | 19=>.bool true
 | 20=>.bool true
 | _=>undef
def lv4L (L1 L2 L3:List (List Int)):Nat→Option (List (List Int))
 | 2=>some L1
 | 6=>some L2
 | 8=>some L2
 | 14=>some L3
 | 17=>some L3
 | _=>none
/-- What the loud of LiveTells' great test tell. -/
def RT4 (T:Nat→Value) (LL:Nat→Option (List (List Int))) (k:Nat) (vs:List Value) (w' : World):Prop :=
 (∀ l,LL k=some l→∃ A c,vs=[.slice A l.length c]∧l.length≤c∧Kd.C (Kd.slice 3 (Kd.int .i64)) w' A l.length l)∧(LL k=none→vs=[T k])
theorem RT4.below {T:Nat→Value} {LL:Nat→Option (List (List Int))} {k:Nat} {vs:List Value} {w' w2:World} (h:RT4 T LL k vs w') (hb:Below w'.heap.size w' w2):RT4 T LL k vs w2 :=
 ⟨fun l hl=>by
  obtain ⟨A,c,e,h1,h2⟩:=h.1 l hl
  exact ⟨A,c,e,h1,Kd.C_below h2 hb⟩,h.2⟩
theorem RT4.val {T:Nat→Value} {LL:Nat→Option (List (List Int))} {k:Nat} {x:Nat→Value} {w' : World} (h:RT4 T LL k ([k].map x) w') (hn:LL k=none):x k=T k:=by
 have:=h.2 hn
 simpa using this
theorem RT4.row {T:Nat→Value} {LL:Nat→Option (List (List Int))} {k:Nat} {x:Nat→Value} {w' : World} {l:List (List Int)} (h:RT4 T LL k ([k].map x) w') (hl:LL k=some l):∃ A c,x k=.slice A l.length c∧l.length≤c∧Kd.C (Kd.slice 3 (Kd.int .i64)) w' A l.length l:=by
 obtain ⟨A,c,e,h1,h2⟩:=h.1 l hl
 exact ⟨A,c,by simpa using e,h1,h2⟩
theorem RT4.mk' {T:Nat→Value} {LL:Nat→Option (List (List Int))} {k:Nat} {x:Nat→Value} {v:Value} {w' : World} (h:v=T k) (hn:LL k=none):RT4 T LL k ([k].map fun e=>if e=k then v else x e) w' :=
 ⟨(fun l hl=>by rw [hn] at hl;cases hl),fun _=>by rw [h];simp⟩
theorem RT4.mkrow {T:Nat→Value} {LL:Nat→Option (List (List Int))} {k:Nat} {x:Nat→Value} {w' : World} {l:List (List Int)} {A:Option Addr} {c:Nat} (hl:LL k=some l) (h1:l.length≤c) (h2:Kd.C (Kd.slice 3 (Kd.int .i64)) w' A l.length l):RT4 T LL k ([k].map fun e=>if e=k then .slice A l.length c else x e) w':=by
 refine ⟨fun l' hl'=>?_,fun hn=>?_⟩
 ·rw [hl] at hl'
  injection hl' with hl'
  subst hl'
  exact ⟨A,c,by simp,h1,h2⟩
 ·rw [hn] at hl
  cases hl
set_option maxHeartbeats 16000000 in
set_option maxRecDepth 100000 in
theorem tells_few (p:Int) (A:Option Addr) (c:Nat) (bs:List S50) (x:Int) (w:World) (k:Nat) (hC:Kd.C k50 w A bs.length bs) (hc:bs.length≤c) (hf:swagelaw17_few.f k p bs=some false) :
  Calls Tryz.prog 4 #[.agg #[.int .i64 p,.slice A bs.length c],.int .i64 x] w fun e w'=>e=.returned (.bool true)∧Below w.heap.size w w':=by
 have hu24:=Tryz.underlying24
 have HF:=Aside0.mk hf
 have HC:=Aside0.mk hC
 have HCc:=Aside0.mk hc
 have HB0:=Aside0.mk (below_alloc (Below.refl w.heap.size w) (.cells #[.int .i64 p,.slice A bs.length c] 24))
 have HF0:=Aside0.mk (blk_new w (.cells #[.int .i64 p,.slice A bs.length c] 24))
 clear hC hf hc
 go_enter Tryz.func4,Tryz.ntmps4
 go_wp2_with (first
  | (go_at_call 18;refine (small17_walk _).mono ?_;rintro e w1 ⟨rfl,hb⟩;have HB1:=Aside0.mk (below_then HB0.out HB0.out.size hb);have HF1:=Aside0.mk (blk_below HF0.out hb);have c0:=blk_cell HF1.out 0;have c1:=blk_cell HF1.out 1;simp only [List.getElem?_toArray,List.getElem?_cons_zero,List.getElem?_cons_succ] at c0 c1;clear hb)
  | (go_at_call 19;refine (swagelaw17_few.calls k p A c bs false _ (Kd.C_below HC.out HB1.out) HCc.out HF.out).mono ?_;rintro e w2 ⟨rfl,hb⟩;have HB2:=Aside0.mk (below_then HB1.out HB1.out.size hb);have HF2:=Aside0.mk (blk_below HF1.out hb);clear c0 c1;have c0:=blk_cell HF2.out 0;have c1:=blk_cell HF2.out 1;simp only [List.getElem?_toArray,List.getElem?_cons_zero,List.getElem?_cons_succ] at c0 c1;clear hb))
 go_ret
 exact ⟨rfl,HB2.out⟩
set_option maxHeartbeats 16000000 in
set_option maxRecDepth 100000 in
theorem tells_walk (p:Int) (A:Option Addr) (c:Nat) (bs:List S50) (x:Int) (w:World) (k:Nat) (hC:Kd.C k50 w A bs.length bs) (hc:bs.length≤c) (hf:swagelaw17_few.f k p bs=some true)
  (L1 L2 L3:List (List Int)) (m:Int) (hS1:Short L1) (hS2:Short L2) (hS3:Short L3) (q8:∀ w',Kd.C k50 w' A bs.length bs→Calls Tryz.prog 8 #[.agg #[.int .i64 p,.slice A bs.length c]] w' fun e w2=>∃ A' c',e=.returned (.agg #[.int .i64 p,.slice A' bs.length c'])∧bs.length≤c'∧Kd.C k50 w2 A' bs.length bs∧Below w'.heap.size w' w2) (q20:∀ w',Kd.C k50 w' A bs.length bs→Calls Tryz.prog 20 #[.agg #[.int .i64 p,.slice A bs.length c]] w' fun e w2=>∃ v,e=.returned v∧Kd.R (Kd.slice 3 (Kd.int .i64)) 31 w2 w'.heap.size (fun _=>True) v L1∧Below w'.heap.size w' w2) (q22:∀ w',Kd.C k50 w' A bs.length bs→Calls Tryz.prog 22 #[.agg #[.int .i64 p,.slice A bs.length c]] w' (Told w' L1)) (q23:∀ w',Kd.C k50 w' A bs.length bs→Calls Tryz.prog 23 #[.agg #[.int .i64 p,.slice A bs.length c]] w' (Told w' L2)) (q24:∀ w',Kd.C k50 w' A bs.length bs→Calls Tryz.prog 24 #[.agg #[.int .i64 p,.slice A bs.length c]] w' (Told w' L2)) (q25:∀ w',Kd.C k50 w' A bs.length bs→Calls Tryz.prog 25 #[.agg #[.int .i64 p,.slice A bs.length c],.int .i64 x] w' (Told w' L3)) (q26:∀ w',Kd.C k50 w' A bs.length bs→Calls Tryz.prog 26 #[.agg #[.int .i64 p,.slice A bs.length c],.int .i64 x] w' (Told w' L3)) (q27:∀ w',Kd.C k50 w' A bs.length bs→Calls Tryz.prog 27 #[.agg #[.int .i64 p,.slice A bs.length c]] w' fun e w2=>e=.returned (.int .i64 m)∧Below w'.heap.size w' w2) (q28:∀ w',Kd.C k50 w' A bs.length bs→Calls Tryz.prog 28 #[.agg #[.int .i64 p,.slice A bs.length c]] w' fun e w2=>e=.returned (.int .i64 m)∧Below w'.heap.size w' w2) (q17:∀ A' c' w',Kd.C k50 w' A bs.length bs→Kd.C k50 w' A' bs.length bs→bs.length≤c'→Calls Tryz.prog 17 #[.agg #[.int .i64 p,.slice A bs.length c],.agg #[.int .i64 p,.slice A' bs.length c']] w' fun e w2=>e=.returned (.bool true)∧Below w'.heap.size w' w2) :
  Calls Tryz.prog 4 #[.agg #[.int .i64 p,.slice A bs.length c],.int .i64 x] w fun e w'=>e=.returned (.bool true)∧Below w.heap.size w w':=by
 have hu24:=Tryz.underlying24
 have HF:=Aside0.mk hf
 have HC:=Aside0.mk hC
 have HCc:=Aside0.mk hc
 have HB0:=Aside0.mk (below_alloc (Below.refl w.heap.size w) (.cells #[.int .i64 p,.slice A bs.length c] 24))
 have HF0:=Aside0.mk (blk_new w (.cells #[.int .i64 p,.slice A bs.length c] 24))
 have Q8:=Aside0.mk q8
 have Q20:=Aside0.mk q20
 have Q22:=Aside0.mk q22
 have Q23:=Aside0.mk q23
 have Q24:=Aside0.mk q24
 have Q25:=Aside0.mk q25
 have Q26:=Aside0.mk q26
 have Q27:=Aside0.mk q27
 have Q28:=Aside0.mk q28
 have Q17:=Aside0.mk q17
 have HS1:=Aside0.mk hS1
 have HS2:=Aside0.mk hS2
 have HS3L:=Aside0.mk hS3
 clear hC hf hc hS1 hS2 hS3 q8 q20 q22 q23 q24 q25 q26 q27 q28 q17
 go_enter Tryz.func4,Tryz.ntmps4
 go_wp2_with (first
  | (go_at_call 18;refine (small17_walk _).mono ?_;rintro e w1 ⟨rfl,hb⟩;have HB1:=Aside0.mk (below_then HB0.out HB0.out.size hb);have HF1:=Aside0.mk (blk_below HF0.out hb);have c0:=blk_cell HF1.out 0;have c1:=blk_cell HF1.out 1;simp only [List.getElem?_toArray,List.getElem?_cons_zero,List.getElem?_cons_succ] at c0 c1;clear hb)
  | (go_at_call 19;refine (swagelaw17_few.calls k p A c bs true _ (Kd.C_below HC.out HB1.out) HCc.out HF.out).mono ?_;rintro e w2 ⟨rfl,hb⟩;have HB2:=Aside0.mk (below_then HB1.out HB1.out.size hb);have HF2:=Aside0.mk (blk_below HF1.out hb);clear c0 c1;have c0:=blk_cell HF2.out 0;have c1:=blk_cell HF2.out 1;simp only [List.getElem?_toArray,List.getElem?_cons_zero,List.getElem?_cons_succ] at c0 c1;clear hb)
  | (go_at_call 8;refine (Q8.out _ (Kd.C_below HC.out HB2.out)).mono ?_;rintro e w3 ⟨As,cs,rfl,hcs,hCs,hb⟩;have HS3:=Aside0.mk hCs;have HCS:=Aside0.mk hcs;clear hcs hCs;have HB3:=Aside0.mk (below_then HB2.out HB2.out.size hb);have HF3:=Aside0.mk (blk_below HF2.out hb);clear c0 c1;have HFA3:=Aside0.mk (blk_below HF3.out (below_alloc (Below.refl w3.heap.size w3) (.cells #[.int .i64 p,.slice As bs.length cs] 24)));have c0:=blk_cell HFA3.out 0;have c1:=blk_cell HFA3.out 1;simp only [List.getElem?_toArray,List.getElem?_cons_zero,List.getElem?_cons_succ] at c0 c1;clear hb)
  | (go_at_call 20;refine (Q20.out _ (Kd.C_below HC.out (below_alloc HB3.out _))).mono ?_;rintro e w4 ⟨v4,rfl,hr,hb⟩;have HR4:=Aside0.mk hr;have HBw4:=Aside0.mk hb;clear c0 c1 hr hb))
 obtain ⟨W3,hW3⟩:∃ W3,w3.alloc (.cells #[.int .i64 p,.slice As bs.length cs] 24)=W3:=⟨_,rfl⟩
 have hbA:=below_alloc (Below.refl w3.heap.size w3) (.cells #[.int .i64 p,.slice As bs.length cs] 24)
 have hX3:=blk_new w3 (.cells #[.int .i64 p,.slice As bs.length cs] 24)
 have hr4:=HR4.out
 have hb4:=HBw4.out
 rw [hW3] at hbA hX3 hr4 hb4
 clear HR4 HBw4 hW3
 obtain ⟨gs,hgs⟩:∃ gs,w3.heap.size=gs:=⟨_,rfl⟩
 have HF3A:=Aside0.mk (blk_below HF3.out hbA)
 have HB3A:=Aside0.mk (below_then HB3.out HB3.out.size hbA)
 have HS3A:=Aside0.mk (Kd.C_below HS3.out hbA)
 rw [hgs] at hX3 ⊢
 have HX3:=Aside0.mk hX3
 clear hbA hX3 hgs
 have HB4:=Aside0.mk (below_then HB3A.out HB3A.out.size hb4)
 have HB43:=Aside0.mk hb4
 have HF4:=Aside0.mk (blk_below HF3A.out hb4)
 have HX4:=Aside0.mk (blk_below HX3.out hb4)
 have HS4:=Aside0.mk (Kd.C_below HS3A.out hb4)
 obtain ⟨Ai,ci,rfl⟩:=Kd.R_slice hr4
 have HCI:=Aside0.mk (Kd.R_reads' hr4).2.2
 have HCIl:=Aside0.mk (Kd.R_reads' hr4).2.1
 obtain ⟨len,hlen,hjk⟩:=jk_of_R HS1.out.2 hr4
 have HLEN:=Aside0.mk hlen
 have HJ4:=Aside0.mk hjk
 clear hlen hjk hr4 hb4
 have c0:=blk_cell HF4.out 0
 have c1:=blk_cell HF4.out 1
 simp only [List.getElem?_toArray,List.getElem?_cons_zero,List.getElem?_cons_succ] at c0 c1
 refine wp_region_rel 21 lv4E (fun k=>[k]) (RT4 (lv4T p x A bs.length c) (lv4L L1 L2 L3)) (fun w'=>Below w4.heap.size w4 w') (fun a b=>Below a.heap.size a b) (by kernel_rfl) (by kernel_rfl) (below_drew (Below.refl _ _)) (fun a b h k=>below_then h h.size k) (fun _ _ _ _ h hb=>h.below hb) ?_
 simp only [List.take_succ_cons,List.take_zero,List.drop_succ_cons,List.drop_zero]
 iterate 21 (first|(refine relQ_loud rfl ?_)|(apply relQ_step rfl;apply Exists.intro;constructor;(focus (intro w' hw';have c0:=pw_cell_below hw' c0;have c1:=pw_cell_below hw' c1;unfold Yl;go_wp2_with fail;exact ⟨rfl,_,rfl,rfl,Below.refl _ _⟩));(try simp only [Act.put,List.setIfInBounds_toArray,List.set_cons_zero,List.set_cons_succ])))
 refine relQ_nil (fun xx=>?_)
 repeat (refine relL_quiet rfl ?_)
 refine relL_loud rfl (fun w' hw' hR=>?_) ?_
 ·have c0:=pw_cell_below hw' c0;have c1:=pw_cell_below hw' c1
  clear hR
  unfold Yl
  go_wp2_with (go_at_call 22;refine (Q22.out _ (Kd.C_below HC.out (below_then HB4.out HB4.out.size hw'))).mono ?_;rintro e w6 ⟨A6,c6,rfl,hl6,hC6,hb⟩)
  exact ⟨rfl,_,rfl,hb,RT4.mkrow rfl hl6 hC6⟩
 (try simp only [Act.put,List.setIfInBounds_toArray,List.set_cons_zero,List.set_cons_succ])
 refine relL_loud rfl (fun w' hw' hR=>?_) ?_
 ·have c0:=pw_cell_below hw' c0;have c1:=pw_cell_below hw' c1
  obtain ⟨A2,c2,e2,hl2,hC2⟩:=RT4.row (hR 2 (by simp [lv4E])) rfl
  rw [e2]
  clear e2
  clear hR
  unfold Yl
  go_wp2_with (go_at_call 21;refine (rows_told Ai ci A2 c2 _ _ HS1.out (Kd.C_below HCI.out hw') HCIl.out hC2 hl2).mono ?_;rintro e w6 ⟨rfl,hb⟩)
  exact ⟨rfl,_,rfl,hb,RT4.mk' rfl rfl⟩
 (try simp only [Act.put,List.setIfInBounds_toArray,List.set_cons_zero,List.set_cons_succ])
 refine relL_loud rfl (fun w' hw' hR=>?_) ?_
 ·have c0:=pw_cell_below hw' c0;have c1:=pw_cell_below hw' c1
  have e3:xx 3=.bool true:=RT4.val (hR 3 (by simp [lv4E])) rfl
  rw [e3]
  clear e3
  clear hR
  unfold Yl
  go_wp2_with (fail)
  exact ⟨rfl,_,rfl,Below.refl _ _,RT4.mk' rfl rfl⟩
 (try simp only [Act.put,List.setIfInBounds_toArray,List.set_cons_zero,List.set_cons_succ])
 refine relL_loud rfl (fun w' hw' hR=>?_) ?_
 ·have c0:=pw_cell_below hw' c0;have c1:=pw_cell_below hw' c1
  have e4:xx 4=.bool true:=RT4.val (hR 4 (by simp [lv4E])) rfl
  rw [e4]
  clear e4
  clear hR
  unfold Yl
  go_wp2_with (fail)
  exact ⟨rfl,_,rfl,Below.refl _ _,RT4.mk' rfl rfl⟩
 (try simp only [Act.put,List.setIfInBounds_toArray,List.set_cons_zero,List.set_cons_succ])
 refine relL_loud rfl (fun w' hw' hR=>?_) ?_
 ·have c0:=pw_cell_below hw' c0;have c1:=pw_cell_below hw' c1
  have e4:xx 4=.bool true:=RT4.val (hR 4 (by simp [lv4E])) rfl
  have e5:xx 5=.agg #[.int .i64 p,.slice A bs.length c]:=RT4.val (hR 5 (by simp [lv4E])) rfl
  rw [e4,e5]
  clear e4 e5
  clear hR
  unfold Yl
  go_wp2_with (go_at_call 23;refine (Q23.out _ (Kd.C_below HC.out (below_then HB4.out HB4.out.size hw'))).mono ?_;rintro e w6 ⟨A6,c6,rfl,hl6,hC6,hb⟩)
  exact ⟨rfl,_,rfl,hb,RT4.mkrow rfl hl6 hC6⟩
 (try simp only [Act.put,List.setIfInBounds_toArray,List.set_cons_zero,List.set_cons_succ])
 refine relL_loud rfl (fun w' hw' hR=>?_) ?_
 ·have c0:=pw_cell_below hw' c0;have c1:=pw_cell_below hw' c1
  have e4:xx 4=.bool true:=RT4.val (hR 4 (by simp [lv4E])) rfl
  rw [e4]
  clear e4
  clear hR
  unfold Yl
  go_wp2_with (fail)
  exact ⟨rfl,_,rfl,Below.refl _ _,RT4.mk' rfl rfl⟩
 (try simp only [Act.put,List.setIfInBounds_toArray,List.set_cons_zero,List.set_cons_succ])
 refine relL_loud rfl (fun w' hw' hR=>?_) ?_
 ·have c0:=pw_cell_below hw' c0;have c1:=pw_cell_below hw' c1
  have e4:xx 4=.bool true:=RT4.val (hR 4 (by simp [lv4E])) rfl
  have e7:xx 7=.agg #[.int .i64 p,.slice A bs.length c]:=RT4.val (hR 7 (by simp [lv4E])) rfl
  rw [e4,e7]
  clear e4 e7
  clear hR
  unfold Yl
  go_wp2_with (go_at_call 24;refine (Q24.out _ (Kd.C_below HC.out (below_then HB4.out HB4.out.size hw'))).mono ?_;rintro e w6 ⟨A6,c6,rfl,hl6,hC6,hb⟩)
  exact ⟨rfl,_,rfl,hb,RT4.mkrow rfl hl6 hC6⟩
 (try simp only [Act.put,List.setIfInBounds_toArray,List.set_cons_zero,List.set_cons_succ])
 refine relL_loud rfl (fun w' hw' hR=>?_) ?_
 ·have c0:=pw_cell_below hw' c0;have c1:=pw_cell_below hw' c1
  have e4:xx 4=.bool true:=RT4.val (hR 4 (by simp [lv4E])) rfl
  obtain ⟨A6,c6,e6,hl6,hC6⟩:=RT4.row (hR 6 (by simp [lv4E])) rfl
  obtain ⟨A8,c8,e8,hl8,hC8⟩:=RT4.row (hR 8 (by simp [lv4E])) rfl
  rw [e4,e6,e8]
  clear e4 e6 e8
  clear hR
  unfold Yl
  go_wp2_with (go_at_call 21;refine (rows_told A6 c6 A8 c8 _ _ HS2.out hC6 hl6 hC8 hl8).mono ?_;rintro e w6 ⟨rfl,hb⟩)
  exact ⟨rfl,_,rfl,hb,RT4.mk' rfl rfl⟩
 (try simp only [Act.put,List.setIfInBounds_toArray,List.set_cons_zero,List.set_cons_succ])
 refine relL_loud rfl (fun w' hw' hR=>?_) ?_
 ·have c0:=pw_cell_below hw' c0;have c1:=pw_cell_below hw' c1
  have e4:xx 4=.bool true:=RT4.val (hR 4 (by simp [lv4E])) rfl
  have e9:xx 9=.bool true:=RT4.val (hR 9 (by simp [lv4E])) rfl
  rw [e4,e9]
  clear e4 e9
  clear hR
  unfold Yl
  go_wp2_with (fail)
  exact ⟨rfl,_,rfl,Below.refl _ _,RT4.mk' rfl rfl⟩
 (try simp only [Act.put,List.setIfInBounds_toArray,List.set_cons_zero,List.set_cons_succ])
 refine relL_loud rfl (fun w' hw' hR=>?_) ?_
 ·have c0:=pw_cell_below hw' c0;have c1:=pw_cell_below hw' c1
  have e10:xx 10=.bool true:=RT4.val (hR 10 (by simp [lv4E])) rfl
  rw [e10]
  clear e10
  clear hR
  unfold Yl
  go_wp2_with (fail)
  exact ⟨rfl,_,rfl,Below.refl _ _,RT4.mk' rfl rfl⟩
 (try simp only [Act.put,List.setIfInBounds_toArray,List.set_cons_zero,List.set_cons_succ])
 refine relL_loud rfl (fun w' hw' hR=>?_) ?_
 ·have c0:=pw_cell_below hw' c0;have c1:=pw_cell_below hw' c1
  have e11:xx 11=.bool true:=RT4.val (hR 11 (by simp [lv4E])) rfl
  rw [e11]
  clear e11
  clear hR
  unfold Yl
  go_wp2_with (fail)
  exact ⟨rfl,_,rfl,Below.refl _ _,RT4.mk' rfl rfl⟩
 (try simp only [Act.put,List.setIfInBounds_toArray,List.set_cons_zero,List.set_cons_succ])
 refine relL_loud rfl (fun w' hw' hR=>?_) ?_
 ·have c0:=pw_cell_below hw' c0;have c1:=pw_cell_below hw' c1
  have e11:xx 11=.bool true:=RT4.val (hR 11 (by simp [lv4E])) rfl
  rw [e11]
  clear e11
  clear hR
  unfold Yl
  go_wp2_with (fail)
  exact ⟨rfl,_,rfl,Below.refl _ _,RT4.mk' rfl rfl⟩
 (try simp only [Act.put,List.setIfInBounds_toArray,List.set_cons_zero,List.set_cons_succ])
 refine relL_loud rfl (fun w' hw' hR=>?_) ?_
 ·have c0:=pw_cell_below hw' c0;have c1:=pw_cell_below hw' c1
  have e11:xx 11=.bool true:=RT4.val (hR 11 (by simp [lv4E])) rfl
  have e12:xx 12=.agg #[.int .i64 p,.slice A bs.length c]:=RT4.val (hR 12 (by simp [lv4E])) rfl
  have e13:xx 13=.int .i64 x:=RT4.val (hR 13 (by simp [lv4E])) rfl
  rw [e11,e12,e13]
  clear e11 e12 e13
  clear hR
  unfold Yl
  go_wp2_with (go_at_call 25;refine (Q25.out _ (Kd.C_below HC.out (below_then HB4.out HB4.out.size hw'))).mono ?_;rintro e w6 ⟨A6,c6,rfl,hl6,hC6,hb⟩)
  exact ⟨rfl,_,rfl,hb,RT4.mkrow rfl hl6 hC6⟩
 (try simp only [Act.put,List.setIfInBounds_toArray,List.set_cons_zero,List.set_cons_succ])
 refine relL_loud rfl (fun w' hw' hR=>?_) ?_
 ·have c0:=pw_cell_below hw' c0;have c1:=pw_cell_below hw' c1
  have e11:xx 11=.bool true:=RT4.val (hR 11 (by simp [lv4E])) rfl
  rw [e11]
  clear e11
  clear hR
  unfold Yl
  go_wp2_with (fail)
  exact ⟨rfl,_,rfl,Below.refl _ _,RT4.mk' rfl rfl⟩
 (try simp only [Act.put,List.setIfInBounds_toArray,List.set_cons_zero,List.set_cons_succ])
 refine relL_loud rfl (fun w' hw' hR=>?_) ?_
 ·have c0:=pw_cell_below hw' c0;have c1:=pw_cell_below hw' c1
  have e11:xx 11=.bool true:=RT4.val (hR 11 (by simp [lv4E])) rfl
  rw [e11]
  clear e11
  clear hR
  unfold Yl
  go_wp2_with (fail)
  exact ⟨rfl,_,rfl,Below.refl _ _,RT4.mk' rfl rfl⟩
 (try simp only [Act.put,List.setIfInBounds_toArray,List.set_cons_zero,List.set_cons_succ])
 refine relL_loud rfl (fun w' hw' hR=>?_) ?_
 ·have c0:=pw_cell_below hw' c0;have c1:=pw_cell_below hw' c1
  have e11:xx 11=.bool true:=RT4.val (hR 11 (by simp [lv4E])) rfl
  have e15:xx 15=.agg #[.int .i64 p,.slice A bs.length c]:=RT4.val (hR 15 (by simp [lv4E])) rfl
  have e16:xx 16=.int .i64 x:=RT4.val (hR 16 (by simp [lv4E])) rfl
  rw [e11,e15,e16]
  clear e11 e15 e16
  clear hR
  unfold Yl
  go_wp2_with (go_at_call 26;refine (Q26.out _ (Kd.C_below HC.out (below_then HB4.out HB4.out.size hw'))).mono ?_;rintro e w6 ⟨A6,c6,rfl,hl6,hC6,hb⟩)
  exact ⟨rfl,_,rfl,hb,RT4.mkrow rfl hl6 hC6⟩
 (try simp only [Act.put,List.setIfInBounds_toArray,List.set_cons_zero,List.set_cons_succ])
 refine relL_loud rfl (fun w' hw' hR=>?_) ?_
 ·have c0:=pw_cell_below hw' c0;have c1:=pw_cell_below hw' c1
  have e11:xx 11=.bool true:=RT4.val (hR 11 (by simp [lv4E])) rfl
  obtain ⟨A14,c14,e14,hl14,hC14⟩:=RT4.row (hR 14 (by simp [lv4E])) rfl
  obtain ⟨A17,c17,e17,hl17,hC17⟩:=RT4.row (hR 17 (by simp [lv4E])) rfl
  rw [e11,e14,e17]
  clear e11 e14 e17
  clear hR
  unfold Yl
  go_wp2_with (go_at_call 21;refine (rows_told A14 c14 A17 c17 _ _ HS3L.out hC14 hl14 hC17 hl17).mono ?_;rintro e w6 ⟨rfl,hb⟩)
  exact ⟨rfl,_,rfl,hb,RT4.mk' rfl rfl⟩
 (try simp only [Act.put,List.setIfInBounds_toArray,List.set_cons_zero,List.set_cons_succ])
 refine relL_loud rfl (fun w' hw' hR=>?_) ?_
 ·have c0:=pw_cell_below hw' c0;have c1:=pw_cell_below hw' c1
  have e11:xx 11=.bool true:=RT4.val (hR 11 (by simp [lv4E])) rfl
  have e18:xx 18=.bool true:=RT4.val (hR 18 (by simp [lv4E])) rfl
  rw [e11,e18]
  clear e11 e18
  clear hR
  unfold Yl
  go_wp2_with (fail)
  exact ⟨rfl,_,rfl,Below.refl _ _,RT4.mk' rfl rfl⟩
 (try simp only [Act.put,List.setIfInBounds_toArray,List.set_cons_zero,List.set_cons_succ])
 refine relL_loud rfl (fun w' hw' hR=>?_) ?_
 ·have c0:=pw_cell_below hw' c0;have c1:=pw_cell_below hw' c1
  have e19:xx 19=.bool true:=RT4.val (hR 19 (by simp [lv4E])) rfl
  rw [e19]
  clear e19
  clear hR
  unfold Yl
  go_wp2_with (fail)
  exact ⟨rfl,_,rfl,Below.refl _ _,RT4.mk' rfl rfl⟩
 (try simp only [Act.put,List.setIfInBounds_toArray,List.set_cons_zero,List.set_cons_succ])
 refine relL_nil (fun w6 hw6 hRR=>?_)
 have e20:xx 20=.bool true:=RT4.val (hRR 20 (by decide) rfl) rfl
 rw [e20]
 have HB63:=Aside0.mk (below_then HB43.out HB43.out.size hw6)
 have HJ6:=Aside0.mk (HJ4.out.below hw6)
 have HN1:=Aside0.mk HS1.out.1
 clear c0 c1 hRR e20 hw6
 clear HCI HCIl Q22 Q23 Q24 Q25 Q26 Q20 Q8 HS2 HS3L HJ4
 clear HS1
 generalize L1.length=n1 at HJ6 HN1 ⊢
 go_wp2_with fail
 go_loopw [10] (fun i wr=>∃ j:Nat,j≤n1∧i=.int .i64 (j:Int)∧Aside0 (Jk W3.heap.size n1 len Ai wr)∧Aside0 (Below W3.heap.size W3 wr)) (fun i _=>n1 - (intOf i).toNat)
 case atStart=>exact ⟨0,Nat.zero_le _,rfl,HJ6,HB63⟩
 case round =>
  obtain ⟨j,hj,rfl,HJ,HB⟩:=hrel
  by_cases hlt:j<n1
  ·have b1:decide ((j:Int)<(n1:Int))=true:=decide_eq_true (Int.ofNat_lt.2 hlt)
   have hw1:wrap64 ((j:Int)+1)=(j:Int)+1:=inc63 hlt (Nat.le_trans HN1.out (by decide))
   go_wp2_with fail
   go_loopw [11] (fun i wi=>∃ q:Nat,q≤len j∧i=.int .i64 (q:Int)∧Aside0 (Jk W3.heap.size n1 len Ai wi)∧Aside0 (Below W3.heap.size W3 wi)) (fun i _=>len j - (intOf i).toNat)
   case atStart=>exact ⟨0,Nat.zero_le _,rfl,HJ,HB⟩
   case round =>
    obtain ⟨q,hq,rfl,HJ2,HB2i⟩:=hrel
    obtain ⟨g,cur,Aj,cj,eA,hg,hh,hcur,hle,hk⟩:=HJ2.out j hlt
    have hx0:=blk_cell hh j
    rw [hcur] at hx0
    have HLE:=Aside0.mk (HLEN.out j)
    subst eA
    by_cases hlq:q<len j
    ·have b2:decide ((q:Int)<((len j:Nat):Int))=true:=decide_eq_true (Int.ofNat_lt.2 hlq)
     have hw2:wrap64 ((q:Int)+1)=(q:Int)+1:=inc63 hlq (Nat.le_trans HLE.out (by decide))
     obtain ⟨gi,cells,mm,eI,hgi,hhi,hci⟩:=hk q hlq
     subst eI
     have hy0:=blk_cell hhi q
     rw [hci] at hy0
     have hfz:=blk_frozen hhi q
     have HHI:=Aside0.mk hhi
     have HGI:=Aside0.mk hgi
     clear hk hh hhi hgi hcur hci hg
     go_wp2_with fail
     go_roundw
     case rel=>exact ⟨q+1,hlq,by first|(rw [hw2];exact num_cast q)|(with_reducible exact num_cast q),⟨HJ2.out.set HHI.out q (-7)⟩,⟨below_set HB2i.out _ _ HGI.out⟩⟩
     case measure=>first|(rw [hw2];exact num_meas hlq)|(with_reducible exact num_meas hlq)
    ·have b2:decide ((q:Int)<((len j:Nat):Int))=false:=decide_eq_false (fun h=>hlq (Int.ofNat_lt.1 h))
     clear hk hh hcur hg
     go_wp2_with fail
     go_roundw
     case rel=>exact ⟨j+1,hlt,by first|(rw [hw1];exact num_cast j)|(with_reducible exact num_cast j),HJ2,HB2i⟩
     case measure=>first|(rw [hw1];exact num_meas hlt)|(with_reducible exact num_meas hlt)
  ·have b1:decide ((j:Int)<(n1:Int))=false:=decide_eq_false (fun h=>hlt (Int.ofNat_lt.1 h))
   have HBW:=Aside0.mk (below_then HB3A.out HB3A.out.size HB.out)
   have HSW:=Aside0.mk (Kd.C_below HS3A.out HB.out)
   have c0:=blk_cell (blk_below HF3A.out HB.out) 0
   have c1:=blk_cell (blk_below HF3A.out HB.out) 1
   have d0:=blk_cell (blk_below HX3.out HB.out) 0
   have d1:=blk_cell (blk_below HX3.out HB.out) 1
   simp only [List.getElem?_toArray,List.getElem?_cons_zero,List.getElem?_cons_succ] at c0 c1 d0 d1
   go_wp2_with fail
   refine wp_region_rel 17 (fun _=>none) (fun _=>[]) (fun _ _ _=>True) (fun wq=>Below wr.heap.size wr wq) (fun a b=>Below a.heap.size a b) (by kernel_rfl) (by kernel_rfl) (below_drew (Below.refl _ _)) (fun a b h k=>below_then h h.size k) (fun _ _ _ _ h _=>h) ?_
   simp only [List.take_succ_cons,List.take_zero,List.drop_succ_cons,List.drop_zero]
   iterate 17 (apply relQ_step rfl;apply Exists.intro;constructor;(focus (intro wq hwq;have c0:=pw_cell_below hwq c0;have c1:=pw_cell_below hwq c1;have d0:=pw_cell_below hwq d0;have d1:=pw_cell_below hwq d1;unfold Yl;go_wp2_with (first|(go_at_call 27;refine (Q27.out _ (Kd.C_below HC.out (below_then HBW.out HBW.out.size hwq))).mono ?_;rintro e w9 ⟨rfl,hbq⟩)|(go_at_call 28;refine (Q28.out _ (Kd.C_below HC.out (below_then HBW.out HBW.out.size hwq))).mono ?_;rintro e w9 ⟨rfl,hbq⟩)|(go_at_call 17;refine (Q17.out As cs _ (Kd.C_below HC.out (below_then HBW.out HBW.out.size hwq)) (Kd.C_below HSW.out hwq) HCS.out).mono ?_;rintro e w9 ⟨rfl,hbq⟩));first|exact ⟨rfl,_,rfl,rfl,Below.refl _ _⟩|exact ⟨rfl,_,rfl,rfl,hbq⟩));(try simp only [Act.put,List.setIfInBounds_toArray,List.set_cons_zero,List.set_cons_succ]))
   refine relQ_nil (fun xx=>?_)
   repeat (refine relL_quiet rfl ?_)
   refine relL_nil (fun w13 hw13 _=>?_)
   go_wp2_with fail
   go_ret
   exact ⟨rfl,below_then HBW.out HBW.out.size hw13⟩
theorem liveTells_true (p:Int) (A:Option Addr) (c:Nat) (bs:List S50) (x:Int) (w:World) (hC:Kd.C k50 w A bs.length bs) (hc:bs.length≤c) (hr:Room bs) (hB:∀ j:Nat,(rd_T50 bs (j:Int)).f0.length≤2199023255552) :
  Calls Tryz.prog 4 #[.agg #[.int .i64 p,.slice A bs.length c],.int .i64 x] w fun e w'=>e=.returned (.bool true)∧Below w.heap.size w w':=by
 obtain ⟨k,b,hf⟩:=few17_total p bs hr
 have hf:=hf k (Nat.le_refl _)
 cases b with
 | false=>exact tells_few p A c bs x w k hC hc hf
 | true =>
  have h7:=few17_true k p bs hB hf
  have hF:=h7.fits
  exact tells_walk p A c bs x w k hC hc hf (inX p bs) (outX p bs) (aftX p bs x) (mostX p bs) (inX_short hF) (outX_short hF) (aftX_short hF)
   (fun w' h=>copy14_told p A c bs w' hF h hc) (fun w' h=>in_told p A c bs w' h hc) (fun w' h=>in17_told p A c bs w' hF h hc) (fun w' h=>out_told p A c bs w' h hc) (fun w' h=>out17_told p A c bs w' hF h hc)
   (fun w' h=>aft_told p A c bs x w' h hc) (fun w' h=>aft17_told p A c bs x w' hF h hc) (fun w' h=>most_told p A c bs w' h) (fun w' h=>most17_told p A c bs w' hF h hc)
   (fun A' c' w' h h' hc'=>same14_told p A A' c c' bs w' hF (fun q=>Nat.le_trans (h7.args q) (by decide)) h hc h' hc')
end Go.Proofs.YtnkgbnbbmcoiiaaGreat.S
