import Derived.Test.YtnkgbnbbmcoiiaaGreatWWords
import Derived.Laws.AppendOwnNone
import Derived.ArgAppend
import Derived.Deep.Slices
import Derived.Shelf.SlGeneric
import Derived.Shelf.SlIterI.Nil
import Derived.Shelf.SlIterI.Sorted
import Derived.Ground.GgzProg
import Derived.Shelf.Small.Bits
import Derived.Shelf.Small.Wraps
import Derived.Shelf.Strconv.Itoa0
import Derived.Shelf.Sort.Plain
import Derived.Shelf.Slices.Turned
import Derived.Shelf.Slices.Equal
import Derived.Ground.Names2Prog
import Derived.Shelf.Slices.Clone
import Derived.Shelf.Slices.SearchI
import Derived.Shelf.Slices.In.SortNone
import Derived.Shelf.Slices.Empties2
import Derived.Test.YtnkgbnbbmcoiiaaGreatProg
import Derived.Sort.OwnSortedInts
import Derived.Test.YtnkgbnbbmcoiiaaGreatS5
import Derived.ChangeArms
import Derived.SizedLaws
import Derived.WideShapes
import Derived.RangeFuncWrites
import Derived.RangeFuncBox
import Derived.Test.YtnkgbnbbmcoiiaaGreatBk
import Derived.Test.YtnkgbnbbmcoiiaaGreatS3
namespace Go.Proofs.YtnkgbnbbmcoiiaaGreatW.PrintWords
open Go.RowKit Go.Deep
set_option linter.unusedVariables false
/-! ### Rows of slices,the slices told one by one -/
abbrev Tri:=Option Addr × Nat × Nat
def slv (g:Tri):Value:=.slice g.1 g.2.1 g.2.2
def zt:Tri:=(none,0,0)
/-- Each slice's row. -/
structure Tells (k:IntKind) (w:World) (gs:List Tri) (L:List (List Int)):Prop where mk ::
 len:gs.length=L.length
 at_:∀ j,j<L.length→(gs.getD j zt).2.1=(L.getD j []).length∧(gs.getD j zt).2.1≤(gs.getD j zt).2.2∧(Kd.int k).C w (gs.getD j zt).1 (gs.getD j zt).2.1 (L.getD j [])
theorem Tells.below {k:IntKind} {w w1:World} {gs:List Tri} {L:List (List Int)} (h:Tells k w gs L) (hb:Below w.heap.size w w1):Tells k w1 gs L :=
 ⟨h.len,fun j hj=>by
  obtain ⟨h1,h2,h3⟩:=h.at_ j hj
  exact ⟨h1,h2,Kd.C_below h3 hb⟩⟩
theorem getD_append_l {α:Type} {l m:List α} {j:Nat} {d:α} (h:j<l.length):(l++m).getD j d=l.getD j d:=by
 simp [List.getD_eq_getElem?_getD,List.getElem?_append_left h]
theorem getD_append_r {α:Type} {l m:List α} {j:Nat} {d:α} (h:l.length≤j):(l++m).getD j d=m.getD (j - l.length) d:=by
 simp [List.getD_eq_getElem?_getD,List.getElem?_append_right h]
theorem Tells.append {k:IntKind} {w:World} {gs gs' : List Tri} {L L' : List (List Int)} (h:Tells k w gs L) (h' : Tells k w gs' L'):Tells k w (gs++gs') (L++L'):=by
 refine ⟨by rw [List.length_append,List.length_append,h.len,h'.len],fun j hj=>?_⟩
 rw [List.length_append] at hj
 by_cases e:j<L.length
 ·rw [getD_append_l (by rw [h.len];exact e),getD_append_l e]
  exact h.at_ j e
 ·rw [getD_append_r (by rw [h.len];omega),getD_append_r (by omega),h.len]
  exact h'.at_ (j - L.length) (by omega)
theorem Tells.one {k:IntKind} {w:World} {A:Option Addr} {c:Nat} {l:List Int} (h:(Kd.int k).C w A l.length l) (hc:l.length≤c):Tells k w [(A,l.length,c)] [l] :=
 ⟨rfl,fun j hj=>by
  obtain rfl:j=0:=by simp at hj;omega
  exact ⟨rfl,hc,h⟩⟩
theorem tells_C {k:IntKind} {e:Nat} {w:World} {A:Option Addr} {n:Nat} {gs:List Tri} {L:List (List Int)} (h:ReadsOf slv zt w A n gs) (ht:Tells k w gs L):(Kd.slice e (Kd.int k)).C w A n L:=by
 obtain ⟨h1,h2,h3⟩:=h
 refine ⟨by rw [← ht.len];exact h1,h2,fun hn=>?_⟩
 obtain ⟨ad,rfl,hc⟩:=h3 hn
 refine ⟨ad,rfl,fun j p hj=>?_⟩
 have hl:j<L.length:=(List.getElem?_eq_some_iff.1 hj).1
 have hp:L.getD j []=p:=by rw [List.getD_eq_getElem?_getD,hj];rfl
 obtain ⟨t1,t2,t3⟩:=ht.at_ j hl
 rw [hp] at t1 t3
 refine ⟨[slv (gs.getD j zt)],rfl,⟨(gs.getD j zt).1,(gs.getD j zt).2.2,by rw [slv,t1],by rw [← t1];exact t2,by rw [← t1] ;exact t3⟩,fun i u hu=>?_⟩
 obtain rfl:i=0:=by
  have:=(List.getElem?_eq_some_iff.1 hu).1
  simp at this
  omega
 simp at hu
 subst hu
 have e2:j*(Kd.slice e (Kd.int k)).sz+0=j:=Nat.mul_one j
 rw [e2]
 exact hc j (by have:=ht.len;omega)
section
variable {P:Program} {ops:Array Oper} {rest:List Oper} {o:Oper} {a:Act} {Q:Exit→Act→World→Prop}
end
end Go.Proofs.YtnkgbnbbmcoiiaaGreatW.PrintWords
/-
 DERIVED: THE SHELF's CONTRACTS AT THIS DUMP,IN PLAIN WORDS (tools/lay-plain.mjs out of 'YtnkgbnbbmcoiiaaGreatShelf.lean',which tools/lay-shelf.mjs wrote): THE SAME DECLARATIONS UNDER THE SAME NAMES: 'import','namespace','open','def','theorem' AND NOTHING ELSE: no command of the shelf's: FOR A HAND-IN. Each laying: the table of numbers ('.._ren') and one theorem,a field a fact of the dump's own or the kernel's comparison;each contract: ONE APPLICATION.
-/
namespace Go.Proofs
open Go.Shelf
def Tryz.lays189_ren:Go.Shelf.Ren:=⟨fun|189=>64|125=>92|257=>91|128=>118|129=>119|294=>109|295=>110|296=>111|297=>112|298=>113|299=>114|216=>115|300=>116|301=>117|328=>122|329=>123|330=>124|331=>125|332=>126|215=>127|343=>128|n=>n,fun|28=>31|3=>3|46=>116|0=>0|51=>136|53=>138|4=>4|183=>128|182=>127|131=>133|5=>5|9=>9|218=>140|222=>144|228=>146|229=>147|n=>n,fun|n=>n⟩
theorem Tryz.lays189:Go.Proofs.Lays.n189 Tryz.prog Tryz.lays189_ren:={
 mixed:=by kernel_rfl
 f125:=Tryz.func92.trans (congrArg some (by kernel_rfl))
 f128:=Tryz.func118.trans (congrArg some (by kernel_rfl))
 f129:=Tryz.func119.trans (congrArg some (by kernel_rfl))
 f189:=Tryz.func64.trans (congrArg some (by kernel_rfl))
 f215:=Tryz.func127.trans (congrArg some (by kernel_rfl))
 f216:=Tryz.func115.trans (congrArg some (by kernel_rfl))
 f257:=Tryz.func91.trans (congrArg some (by kernel_rfl))
 f294:=Tryz.func109.trans (congrArg some (by kernel_rfl))
 f295:=Tryz.func110.trans (congrArg some (by kernel_rfl))
 f296:=Tryz.func111.trans (congrArg some (by kernel_rfl))
 f297:=Tryz.func112.trans (congrArg some (by kernel_rfl))
 f298:=Tryz.func113.trans (congrArg some (by kernel_rfl))
 f299:=Tryz.func114.trans (congrArg some (by kernel_rfl))
 f300:=Tryz.func116.trans (congrArg some (by kernel_rfl))
 f301:=Tryz.func117.trans (congrArg some (by kernel_rfl))
 f328:=Tryz.func122.trans (congrArg some (by kernel_rfl))
 f329:=Tryz.func123.trans (congrArg some (by kernel_rfl))
 f330:=Tryz.func124.trans (congrArg some (by kernel_rfl))
 f331:=Tryz.func125.trans (congrArg some (by kernel_rfl))
 f332:=Tryz.func126.trans (congrArg some (by kernel_rfl))
 f343:=Tryz.func128.trans (congrArg some (by kernel_rfl))
 t0:=Tryz.underlying0
 a0:=Tryz.isAgg0
 z0:=Tryz.sizeOf0
 v0:=Tryz.zeroValue0
 t3:=Tryz.underlying3
 a3:=Tryz.isAgg3
 z3:=Tryz.sizeOf3
 v3:=Tryz.zeroValue3
 t4:=Tryz.underlying4
 a4:=Tryz.isAgg4
 z4:=Tryz.sizeOf4
 v4:=Tryz.zeroValue4
 t5:=Tryz.underlying5
 a5:=Tryz.isAgg5
 z5:=Tryz.sizeOf5
 v5:=Tryz.zeroValue5
 t9:=Tryz.underlying9
 a9:=Tryz.isAgg9
 z9:=Tryz.sizeOf9
 v9:=Tryz.zeroValue9
 t28:=Tryz.underlying31
 a28:=Tryz.isAgg31
 z28:=Tryz.sizeOf31
 v28:=Tryz.zeroValue31
 t46:=Tryz.underlying116
 a46:=Tryz.isAgg116
 z46:=Tryz.sizeOf116
 v46:=Tryz.zeroValue116
 t51:=Tryz.underlying136
 a51:=Tryz.isAgg136
 z51:=Tryz.sizeOf136
 v51:=Tryz.zeroValue136
 t53:=Tryz.underlying138
 a53:=Tryz.isAgg138
 z53:=Tryz.sizeOf138
 v53:=Tryz.zeroValue138
 t131:=Tryz.underlying133
 a131:=Tryz.isAgg133
 z131:=Tryz.sizeOf133
 v131:=Tryz.zeroValue133
 t182:=Tryz.underlying127
 a182:=Tryz.isAgg127
 z182:=Tryz.sizeOf127
 v182:=Tryz.zeroValue127
 t183:=Tryz.underlying128
 a183:=Tryz.isAgg128
 z183:=Tryz.sizeOf128
 v183:=Tryz.zeroValue128
 t218:=Tryz.underlying140
 a218:=Tryz.isAgg140
 z218:=Tryz.sizeOf140
 v218:=Tryz.zeroValue140
 t222:=Tryz.underlying144
 a222:=Tryz.isAgg144
 z222:=Tryz.sizeOf144
 v222:=Tryz.zeroValue144
 t228:=Tryz.underlying146
 a228:=Tryz.isAgg146
 z228:=Tryz.sizeOf146
 v228:=Tryz.zeroValue146
 t229:=Tryz.underlying147
 a229:=Tryz.isAgg147
 z229:=Tryz.sizeOf147
 v229:=Tryz.zeroValue147 }
open Go.Sort Go.RowKit in
theorem Tryz.slices_Sort_int (blk off cap:Nat) (zs:List Int) (w:World) (hH:Holds (Value.int .i64) w blk off zs.toArray) (hblk:blk<w.heap.size) (hsz:zs.length<4611686018427387904) :
  Calls Tryz.prog 64 #[.slice (some ⟨blk,off,none⟩) zs.length cap] w fun e w' =>
   e=.returned (.tuple #[])∧∃ n os,w'=grow (putRow (Value.int .i64) (Sort.ahead w n) blk off (zs.mergeSort fun x y=>decide (x≤y)).toArray) os:=Any.slices_Sort_int Tryz.lays189 blk off cap zs w hH hblk hsz
open Go.RowKit Go.Sort in
/-- .. and plain. (LAID: no walk: one application.) -/
theorem Tryz.slices_Sort_int_none (p:Option Addr) (cap:Nat) (w:World) :
  Calls Tryz.prog 64 #[.slice p 0 cap] w fun e w'=>e=.returned (.tuple #[])∧w'=w:=Any.slices_Sort_int_none Tryz.lays189 p cap w
def Tryz.sorted52_ren:Go.Shelf.Ren:=⟨fun|6=>43|8=>69|9=>64|11=>93|13=>92|12=>91|23=>118|24=>119|14=>109|15=>110|16=>111|17=>112|18=>113|19=>114|20=>115|21=>116|22=>117|25=>122|26=>123|27=>124|28=>125|29=>126|30=>127|31=>128|n=>n,fun|26=>3|28=>64|24=>31|0=>0|3=>3|37=>116|48=>136|50=>138|4=>4|40=>128|39=>127|45=>133|5=>5|9=>9|51=>140|55=>144|57=>146|58=>147|33=>89|n=>n,fun|n=>n⟩
theorem Tryz.sorted52:Go.Proofs.SlLaysZI.n6 Tryz.prog Tryz.sorted52_ren:={
 mixed:=by kernel_rfl
 f6:=⟨Tryz.f43.name,by decide,Tryz.func43.trans (congrArg some (by kernel_rfl))⟩
 f8:=⟨Tryz.f69.name,by decide,Tryz.func69.trans (congrArg some (by kernel_rfl))⟩
 f11:=⟨Tryz.f93.name,by decide,Tryz.func93.trans (congrArg some (by kernel_rfl))⟩
 t0:=Tryz.underlying0
 a0:=Tryz.isAgg0
 z0:=Tryz.sizeOf0
 v0:=Tryz.zeroValue0
 t24:=Tryz.underlying31
 a24:=Tryz.isAgg31
 z24:=Tryz.sizeOf31
 v24:=Tryz.zeroValue31
 t26:=Tryz.underlying3
 a26:=Tryz.isAgg3
 z26:=Tryz.sizeOf3
 v26:=Tryz.zeroValue3
 t28:=Tryz.underlying64
 a28:=Tryz.isAgg64
 z28:=Tryz.sizeOf64
 v28:=Tryz.zeroValue64
 i26:=by kernel_rfl }
end Go.Proofs
namespace Go.Proofs.YtnkgbnbbmcoiiaaGreat.S
open Go.RowKit Go.Proofs.YtnkgbnbbmcoiiaaGreatW.PrintWords Go.Proofs.YtnkgbnbbmcoiiaaGreatW.PrintLast Go.Proofs.YtnkgbnbbmcoiiaaGreatW.PrintMore
set_option linter.unusedVariables false
/-! ### A slice of whole numbers,sorted -/
/-! ### At -/
def hasP (x:S52) (p:Int):Bool:=decide (x.f1≤p) && decide (p≤x.f2)
def ats (l:List S52) (p:Int):List Int:=(l.filter fun x=>hasP x p).map (·.f0)
end Go.Proofs.YtnkgbnbbmcoiiaaGreat.S
namespace Go.Proofs.YtnkgbnbbmcoiiaaGreatW.PrintWords
open Go.RowKit Go.ChangeShapes Go.WideShapes Go.Deep
set_option linter.unusedVariables false
/-! ### What comes in,kind by kind,within the address space -/
/-- What reads as data of type T,and weighs no more than can be,is of the kind d,and G holds of it. -/
structure OpensW (P:Program) {α:Type} (d:Kd α) (T:TypeId) (G:α→Prop):Prop where mk ::
 out:∀ {H:Type} (enc:TypeId × Value→H) (w:World) (base:Nat) (spare:Nat→Bool) (held:Bool) (fuel:Nat) (cs:List Value) (x:DataW H × List MemPlace),DataW.trod enc P w base spare held fuel T cs=some x→(∀ n∈x.1.weights P T,n≤reachBytes)→∃ y:α,d.K w y cs∧G y
section
variable {P:Program} {T E:TypeId} {α β:Type} {d:Kd α} {G:α→Prop}
theorem weightsAll_of {H:Type} {e:TypeId} : ∀ {l:List (DataW H)} {x:DataW H},x∈l→∀ n∈x.weights P e,n∈DataW.weightsAll P e l
 | y::l,x,hx,n,hn=>by
  rw [DataW.weightsAll,List.mem_append]
  rcases List.mem_cons.1 hx with rfl|hx
  ·exact .inl hn
  ·exact .inr (weightsAll_of hx n hn)
theorem OpensW.int {k:IntKind} (hT:P.underlying T=some (.int k)):OpensW P (Kd.int k) T (fun n=>(Lit.int k n).wf=true):=by
 constructor
 intro H enc w base spare held fuel cs x h _
 obtain ⟨n,hc,_,hw⟩:=DataW.trod_int hT h
 exact ⟨n,hc,hw⟩
theorem OpensW.imp {G' : α→Prop} (h:OpensW P d T G) (hG:∀ x,G x→G' x):OpensW P d T G':=by
 constructor
 intro H enc w base spare held fuel cs x hx hw
 obtain ⟨y,hk,hg⟩:=h.out enc w base spare held fuel cs x hx hw
 exact ⟨y,hk,hG y hg⟩
theorem OpensW.slice (hT:P.underlying T=some (.slice E)) (hsz:P.cellsOf E=d.sz) (h:OpensW P d E G):OpensW P (Kd.slice E d) T (fun l=>l.length*P.bytesOf E≤reachBytes∧∀ x∈l,G x):=by
 constructor
 intro H enc w base spare held fuel cs x hx hw
 rcases open_slice hT hx with ⟨hcs,_⟩|⟨a,len,cap,m,n,D,Pl,hcs,_,hlc,hcm,hm,hxe,hall⟩
 ·subst hcs
  exact ⟨[],⟨none,0,rfl,Nat.le_refl _,rfl,by simp,fun h=>absurd h (by simp)⟩,by simp,by simp⟩
 ·subst hcs
  subst hxe
  have hmax:cap≤9223372036854775807:=by unfold maxLen at hcm;exact Nat.le_trans hcm (by decide)
  have hlm:len≤m:=by rw [hm];split<;>omega
  have hW:len*P.bytesOf E≤reachBytes:=by
   have:=hw _ (by rw [DataW.weights,hT];exact List.mem_cons_self)
   simp only [List.length_map,List.length_range] at this
   exact Nat.le_trans (Nat.mul_le_mul_right _ (Nat.le_add_right _ _)) this
  have key:∀ i,i<len→∃ y:α,∃ cs',cs'.length=d.sz∧d.K w y cs'∧(∀ j u,cs'[j]?=some u→w.cell? (a.add (i*d.sz+j))=some u)∧G y:=by
   intro i hi
   obtain ⟨cs',hc,ht⟩:=hall i (by omega)
   rw [hsz] at hc
   obtain ⟨_,hl5,hat⟩:=World.cells?_some hc
   obtain ⟨y,hy,hg⟩:=h.out enc w base spare held n cs' _ ht (fun q hq=>hw q (by
    rw [DataW.weights,hT]
    exact List.mem_cons_of_mem _ (List.mem_append.2 (.inl (weightsAll_of (List.mem_map.2 ⟨i,List.mem_range.2 hi,rfl⟩) q hq)))))
   refine ⟨y,cs',hl5,hy,fun j u hu=>?_,hg⟩
   have hj:j<d.sz:=by rw [← hl5];exact (List.getElem?_eq_some_iff.1 hu).1
   rw [← Go.Deep.add_add,hat j hj,hu]
  rcases Nat.eq_zero_or_pos len with h0|h0
  ·subst h0
   exact ⟨[],⟨some a,cap,rfl,Nat.zero_le _,rfl,by simp,fun h=>absurd h (by simp)⟩,by simp,by simp⟩
  obtain ⟨f,hf⟩:=@choose_lt α ⟨Classical.choose (key 0 h0)⟩ len (fun i y=>∃ cs',cs'.length=d.sz∧d.K w y cs'∧(∀ j u,cs'[j]?=some u→w.cell? (a.add (i*d.sz+j))=some u)∧G y) key
  refine ⟨(List.range len).map f,⟨some a,cap,by simp,by simpa using hlc,by simp,by simp;omega,fun _=>⟨a,rfl,fun j p hj=>?_⟩⟩,by simpa using hW,fun x hx=>?_⟩
  ·have hjl:j<len:=by
    have:=(List.getElem?_eq_some_iff.1 hj).1
    simpa using this
   simp [hjl] at hj
   subst hj
   obtain ⟨cs',h1,h2,h3,_⟩:=hf j hjl
   exact ⟨cs',h1,h2,h3⟩
  ·simp only [List.mem_map,List.mem_range] at hx
   obtain ⟨i,hi,rfl⟩:=hx
   obtain ⟨_,_,_,_,h4⟩:=hf i hi
   exact h4
/-- Fields in line,from an offset on. -/
structure FOpensW (P:Program) (fs:List Field) (off:Nat) {α:Type} (d:Kd α) (G:α→Prop):Prop where mk ::
 out:∀ {H:Type} (enc:TypeId × Value→H) (w:World) (base:Nat) (spare:Nat→Bool) (held:Bool) (fuel:Nat) (cs:List Value),cs.length=d.sz→(∀ f∈fs,∃ x,DataW.trod enc P w base spare held fuel f.type ((cs.drop (f.offset - off)).take (P.cellsOf f.type))=some x∧∀ n∈x.1.weights P f.type,n≤reachBytes)→∃ y:α,d.K w y cs∧G y
theorem FOpensW.last {f:Field} (h:OpensW P d f.type G) (hsz:P.cellsOf f.type=d.sz):FOpensW P [f] f.offset d G:=by
 constructor
 intro H enc w base spare held fuel cs hl hf
 obtain ⟨x,hx,hw⟩:=hf f List.mem_cons_self
 rw [Nat.sub_self,List.drop_zero,hsz,← hl,List.take_length] at hx
 exact h.out enc w base spare held fuel cs x hx hw
theorem FOpensW.cons {f:Field} {fs:List Field} {d2:Kd β} {G2:β→Prop} (h:OpensW P d f.type G) (hsz:P.cellsOf f.type=d.sz) (hr:FOpensW P fs (f.offset+d.sz) d2 G2) (hoff:∀ g∈fs,f.offset+d.sz≤g.offset) :
  FOpensW P (f::fs) f.offset (Kd.pair d d2) (fun p=>G p.1∧G2 p.2):=by
 constructor
 intro H enc w base spare held fuel cs hl hf
 have hl' : cs.length=d.sz+d2.sz:=hl
 obtain ⟨x,hx,hw⟩:=hf f List.mem_cons_self
 rw [Nat.sub_self,List.drop_zero,hsz] at hx
 obtain ⟨y,hk,hg⟩:=h.out enc w base spare held fuel _ x hx hw
 obtain ⟨z,hk2,hg2⟩:=hr.out enc w base spare held fuel (cs.drop d.sz) (by rw [List.length_drop];omega) (fun g hgm=>by
  obtain ⟨x2,hx2,hw2⟩:=hf g (List.mem_cons_of_mem _ hgm)
  refine ⟨x2,?_,hw2⟩
  rw [List.drop_drop]
  have:=hoff g hgm
  rw [show d.sz+(g.offset - (f.offset+d.sz))=g.offset - f.offset by omega]
  exact hx2)
 exact ⟨(y,z),⟨cs.take d.sz,cs.drop d.sz,(List.take_append_drop _ _).symm,hk,hk2⟩,hg,hg2⟩
/-- A struct,by its fields. -/
theorem OpensW.struct {fs:Array Field} {f:β→α} {G' : β→Prop} (hT:P.underlying T=some (.struct fs)) (hsz:P.cellsOf T=d.sz) (h:FOpensW P fs.toList 0 d G) (back:α→β) (hb:∀ x,f (back x)=x) (hG:∀ x,G x→G' (back x)):OpensW P (Kd.iso d f) T G':=by
 constructor
 intro H enc w base spare held fuel cs x hx hw
 obtain ⟨xs,n,_,hxe,hl,hlen,hg⟩:=DataW.trod_struct hT hx
 subst hxe
 obtain ⟨y,hk,hy⟩:=h.out enc w base spare held n cs (by rw [hl,hsz]) (fun g hgm=>by
  obtain ⟨i,hi,he⟩:=List.getElem_of_mem hgm
  have hi' : i<fs.size:=by simpa using hi
  have:=hg i g (by rw [Array.getElem?_eq_getElem hi'];simpa using he)
  rw [List.getElem?_eq_getElem (by omega)] at this
  refine ⟨_,by rw [Nat.sub_zero];exact this,fun q hq=>hw q ?_⟩
  rw [DataW.weights,hT]
  refine DataW.weights_mem_each (j:=i) (t:=g.type) (d:=(xs[i]'(by omega)).1) ?_ ?_ q hq
  ·rw [List.getElem?_map,List.getElem?_eq_getElem hi,he];rfl
  ·rw [List.getElem?_map,List.getElem?_eq_getElem (by omega)];rfl)
 refine ⟨back y,?_,hG y hy⟩
 show d.K w (f (back y)) cs
 rw [hb]
 exact hk
/-- A struct argument: its cells. -/
theorem OpensW.agg {w:World} {r:Reach} {b0:Nat} {v:Value} {H:Type} {enc:TypeId × Value→H} {base:Nat} {spare:Nat→Bool} {held:Bool} {D:DataW H} {p:List MemPlace} {fs:Array Field} (ho:OpensW P d T G) (hT:P.underlying T=some (.struct fs))
  (hv:Value.okWide P w r b0 T v) (h:DataW.Trod enc P w base spare held T v D p) (hw:∀ n∈D.weights P T,n≤reachBytes) :
  ∃ (x:α) (cs:List Value),v=.agg cs.toArray∧d.K w x cs∧G x:=by
 obtain ⟨cs,rfl,hsz⟩:=okWide_struct hT hv
 obtain ⟨fuel,hf⟩:=h
 obtain ⟨x,hk,hg⟩:=ho.out enc w base spare held fuel _ _ hf hw
 exact ⟨x,cs.toList,by simp,hk,hg⟩
/-- What the whole claim says of weights,of its first argument. -/
theorem weights_first {H:Type} {t:TypeId} {ts:List TypeId} {d:DataW H} {ds:List (DataW H)} (h:(DataW.weightsEach P (t::ts) (d::ds)).all (·≤reachBytes)=true):∀ n∈d.weights P t,n≤reachBytes:=fun n hn=>by
 have:=List.all_eq_true.1 h n (DataW.weights_mem_each (j:=0) rfl rfl n hn)
 simpa using this
theorem i64_wf {n:Int} (h:(Lit.int .i64 n).wf=true) : -9223372036854775808≤n∧n≤9223372036854775807:=by
 simp only [Lit.wf,Bool.and_eq_true,decide_eq_true_eq] at h
 exact h
end
end Go.Proofs.YtnkgbnbbmcoiiaaGreatW.PrintWords
namespace Go
open Go.RowKit
variable {F:Fence} {n:Nat} {P:Program}
set_option linter.unusedVariables false
/-- A range over a function whose round lays its variable in a block of its own (assign: one alloc),and whose body may write whatever lay ahead of the loop. -/
theorem wpIn_rangeFunc_ownGA {α:Type} {g:Operand} {ps:Array Tmp} {assign body:Code} {Q:Exit→Act→World→Prop} {a:Act} {w:World}
  (hro:F.round=none) (h1:1≤n) {gf:Nat} {lb:Array Value} (hg:a.eval g=.func (.func gf) #[] lb) (hFg:F.fn gf) (eg:∀ args w,(callFunc gf args).run P w=.ok (.enter gf args) w)
  {encs:α→Array Value} {Kp:World→World→Prop} {S Sp:List α→Prop} {N:Nat} {w0:World} (hseq:SeqStopsK F (n - 1) P gf lb encs Kp S Sp N w0)
  (hKt:∀ {A B C:World},Kp A B→Kp B C→Kp A C) (hKb:∀ (W:World) (l:Nat) (o o' : Obj),w.heap.size≤l→W.heap[l]?=some o→o.isCells=false→o.isWalk=false→Kp W (W.putObj l o')) (hb0:Below w0.heap.size w0 w) (hps:∀ x,(encs x).size=ps.size)
  (I:List α→World→Prop) (Ix:Code→List α→World→Prop) (hI:OwnFrom w.heap.size I) (hIx:∀ c,OwnFrom w.heap.size (Ix c)) (h0:I [] w) (a₁:α→Nat→Act) (mk:α→Obj) (hKa:∀ (W:World) (o:Obj),Kp W (W.alloc o))
  (hassign:∀ (l:Nat) (x:α) (W:World) (K:Act→World→Prop),K (a₁ x W.heap.size) (W.alloc (mk x)) →
   assign.wpIn (F.inRound l) (n - 1 - 1) P (Exit.then K (fun _ _ _=>False)) { tmps:=(ps.zip (encs x)).foldl (fun t (p,v)=>t.setIfInBounds p v) a.tmps,defers:=[] } W)
  (hbody:∀ (l:Nat) (pre:List α) (x:α) (W:World) (b:Nat),I pre W→pre.length<N→w.heap.size≤b→W.heap[b]?=some (mk x)→body.wpIn (F.inRound l) (n - 1 - 1) P (ownPostG w.heap.size Kp I Ix (pre++[x]) W) (a₁ x b) W)
  (hdone:∀ (D:Nat) (xs:List α) (W:World),w.heap.size≤D→S xs→I xs W→W.heap[D]?=some (.deferred (some []))→Q .normal { a with defers:={ target:=.collected D,args:=#[] }::a.defers } W)
  (hstop:∀ (D:Nat) (c:Code) (pre:List α) (W:World),w.heap.size≤D→Sp pre→Ix c pre W→W.heap[D]?=some (.deferred (some []))→c.wpIn F n P Q { a with defers:={ target:=.collected D,args:=#[] }::a.defers } W) :
  (Code.rangeFunc g ps assign body).wpIn F n P Q a w:=by
 refine wpIn_rangeFunc ?_
 intro fn hfn
 rw [hro]
 obtain ⟨rec,hrec⟩:∃ rec:LoopState→Option Code→Loop,rec=fun st pe=>{ state:=st,pending:=pe,fn,tmps:=a.tmps,params:=ps,assign,body,defers:=w.heap.size }:=⟨_,rfl⟩
 obtain ⟨W1,hW1⟩:∃ W1,(w.alloc (.deferred (some []))).alloc (.loop (rec .ready none))=W1:=⟨_,rfl⟩
 have hL1:W1.heap[w.heap.size+1]?=some (.loop (rec .ready none)):=by
  rw [← hW1];have:=World.alloc_heap_new (w.alloc (.deferred (some []))) (.loop (rec .ready none));rwa [World.size_alloc] at this
 have hK1:W1.heap[w.heap.size]?=some (.deferred (some [])):=by
  rw [← hW1];exact (Below.heap_alloc _ _ _ (by simp)).trans (World.alloc_heap_new w _)
 have hI1:I [] W1:=by rw [← hW1];exact hI.alloc _ (hI.alloc _ h0)
 have hb1:Below w0.heap.size w0 W1:=by
  rw [← hW1];exact hb0.trans ((((Below.refl _ w).alloc (Nat.le_refl _) _).alloc (by simp) _).mono hb0.size)
 refine ⟨w.heap.size+1,[{ target:=.collected w.heap.size,args:=#[] }],W1,{ target:=.fn (.func gf) lb,args:=#[.func (.yield (w.heap.size+1)) #[] #[]] },W1,gf,
  #[.func (.yield (w.heap.size+1)) #[] #[]]++lb,W1,?_,?_,?_,?_,fun _=>h1,?_⟩
 ·rw [← hW1,hrec];exact run_enterLoop_outer _ _ _ _ _
 ·simp only [resolve,hg]
  simp [go_sem]
 ·intro f' hf';simp [Target.leads] at hf';subst hf';exact hFg
 ·simp [invoke,go_sem,eg]
 ·-- THE ITERATOR's CONTRACT,AT THE CALLER's INVARIANT WITH THE TWO FACTS OF BOOK-KEEPING BESIDE IT
  have hnw:∀ {A B:World} {row:Option Nat},(∀ r,row=some r→W1.heap.size≤r∧∃ o:Obj,A.heap[r]?=some o∧o.isWalk=true)→(∀ r,row=some r→w.heap.size≤r∧∃ o:Obj,A.heap[r]?=some o∧o.isCells=false) :=
   fun hr r e=>by obtain ⟨hB,o,ho,hw⟩:=hr r e;exact ⟨by rw [← hW1] at hB;simp at hB;omega,o,ho,Obj.not_cells_of_walk hw⟩
  refine (hseq (w.heap.size+1)
   (fun pre W=>I pre W∧W.heap[w.heap.size+1]?=some (.loop (rec .ready none))∧W.heap[w.heap.size]?=some (.deferred (some [])))
   (fun pre W=>∃ c,Ix c pre W∧W.heap[w.heap.size+1]?=some (.loop (rec .done (some c)))∧W.heap[w.heap.size]?=some (.deferred (some [])))
   W1 hb1
   (fun s A B row hs hg' hr=>⟨hI s A B row hs.1 hg' (hnw (B:=B) hr),(grownBy_keeps hg' (fun r e=>(hr r e).2) hs.2.1 rfl).trans hs.2.1,(grownBy_keeps hg' (fun r e=>(hr r e).2) hs.2.2 rfl).trans hs.2.2⟩)
   (fun s A B row hs hg' hr=>by
    obtain ⟨c,hc,hl,hk⟩:=hs
    exact ⟨c,hIx c s A B row hc hg' (hnw (B:=B) hr),(grownBy_keeps hg' (fun r e=>(hr r e).2) hl rfl).trans hl,(grownBy_keeps hg' (fun r e=>(hr r e).2) hk rfl).trans hk⟩)
   ?_ ⟨hI1,hL1,hK1⟩).mono ?_
  ·-- ONE ROUND
   rintro pre x W0 ⟨hi0,hl0,hk0⟩ hlen
   have hlt0:w.heap.size+1<W0.heap.size:=(Array.getElem?_eq_some_iff.1 hl0).1
   have hy:=run_yield (P:=P) (args:=encs x) hl0 (by rw [hrec];exact hps x)
   rw [hrec] at hy
   obtain ⟨W,hW⟩:∃ W,W0.alloc (mk x)=W:=⟨_,rfl⟩
   have hi:I pre W:=by rw [← hW];exact hI.alloc _ hi0
   have hl:W.heap[w.heap.size+1]?=some (.loop (rec .ready none)):=by rw [← hW];exact (Below.heap_alloc _ _ _ hlt0).trans hl0
   have hk:W.heap[w.heap.size]?=some (.deferred (some [])):=by rw [← hW];exact (Below.heap_alloc _ _ _ (by omega)).trans hk0
   have hx:W.heap[W0.heap.size]?=some (mk x):=by rw [← hW];exact World.alloc_heap_new W0 _
   have hw0:Kp W0 W:=by rw [← hW];exact hKa _ _
   have hlt:w.heap.size+1<W.heap.size:=(Array.getElem?_eq_some_iff.1 hl).1
   refine ⟨fn,_,assign,body,hy,roundIn_of_wpIn hfn (hassign _ x W0 _ ?_)⟩
   rw [hW]
   refine ⟨_,run_beginRound hl (by rw [hrec]),?_⟩
   have hl2:(W.putObj (w.heap.size+1) (.loop { rec .ready none with state:=.busy })).heap[w.heap.size+1]?=some (.loop { rec .ready none with state:=.busy }):=World.putObj_heap_same hlt
   have hk2:(W.putObj (w.heap.size+1) (.loop { rec .ready none with state:=.busy })).heap[w.heap.size]?=some (.deferred (some [])):=(World.putObj_heap_other (by omega)).trans hk
   have hw2:Kp W0 (W.putObj (w.heap.size+1) (.loop { rec .ready none with state:=.busy })):=hKt hw0 (hKb _ _ _ _ (by omega) hl rfl rfl)
   refine wpIn_mono (hbody _ pre x _ W0.heap.size (hI.putObj _ hi (by omega) hl rfl) hlen (by omega) ((World.putObj_heap_other (by omega)).trans hx)) ?_
   have fin:∀ (jump:Option Code) (W3:World),KeepsFrom w.heap.size (W.putObj (w.heap.size+1) (.loop { rec .ready none with state:=.busy })) W3 →
     (Instr.endRound (w.heap.size+1) jump).run P W3=.ok (.bool jump.isNone) (W3.putObj (w.heap.size+1) (.loop (rec (if jump.isNone then .ready else .done) jump))) ∧
     W3.heap[w.heap.size+1]?=some (.loop { rec .ready none with state:=.busy }) ∧
     (W3.putObj (w.heap.size+1) (.loop (rec (if jump.isNone then .ready else .done) jump))).heap[w.heap.size+1]?=some (.loop (rec (if jump.isNone then .ready else .done) jump)) ∧
     (W3.putObj (w.heap.size+1) (.loop (rec (if jump.isNone then .ready else .done) jump))).heap[w.heap.size]?=some (.deferred (some [])):=fun jump W3 hk3=>by
    have hl3:=hk3.same _ _ (by omega) hl2 rfl
    have:=run_endRound (P:=P) jump hl3
    rw [hrec] at this ⊢
    exact ⟨this,by rw [hrec] at hl3;exact hl3,World.putObj_heap_same (Array.getElem?_eq_some_iff.1 hl3).1,(World.putObj_heap_other (by omega)).trans (hk3.same _ _ (Nat.le_refl _) hk2 rfl)⟩
   rintro e a3 W3 hp
   cases e with
   | normal =>
    obtain ⟨hk3,hkp3,hi3⟩:=hp
    obtain ⟨hr,hl3,hl4,hk4⟩:=fin none W3 hk3
    exact ⟨_,_,hr,.inl ⟨rfl,⟨hI.putObj _ hi3 (by omega) hl3 rfl,hl4,hk4⟩,hKt (hKt hw2 hkp3) (hKb _ _ _ _ (by omega) hl3 rfl rfl)⟩⟩
   | ret =>
    obtain ⟨hk3,hi3⟩:=hp
    obtain ⟨hr,hl3,hl4,hk4⟩:=fin (some .ret) W3 hk3
    exact ⟨_,_,hr,.inr ⟨rfl,.ret,(hIx _).putObj _ hi3 (by omega) hl3 rfl,hl4,hk4⟩⟩
   | exit id =>
    obtain ⟨hk3,hi3⟩:=hp
    obtain ⟨hr,hl3,hl4,hk4⟩:=fin (some (.exit id)) W3 hk3
    exact ⟨_,_,hr,.inr ⟨rfl,.exit id,(hIx _).putObj _ hi3 (by omega) hl3 rfl,hl4,hk4⟩⟩
   | goto t =>
    obtain ⟨hk3,hi3⟩:=hp
    obtain ⟨hr,hl3,hl4,hk4⟩:=fin (some (.goto t)) W3 hk3
    exact ⟨_,_,hr,.inr ⟨rfl,.goto t,(hIx _).putObj _ hi3 (by omega) hl3 rfl,hl4,hk4⟩⟩
   | panic ch=>exact hp.elim
   | outgrown=>exact hp.elim
  ·-- BEHIND THE ITERATOR
   rintro e W2 ⟨⟨v,rfl⟩,(⟨xs,hS,hi,hl,hk⟩|⟨pre,hSp,c,hi,hl,hk⟩)⟩
   ·exact ⟨none,_,by have:=run_endLoop (P:=P) hl (by rw [hrec];simp);rw [hrec] at this;exact this,hdone _ xs _ (Nat.le_refl _) hS (hI.putObj _ hi (by omega) hl rfl) ((World.putObj_heap_other (by omega)).trans hk)⟩
   ·exact ⟨some c,_,by have:=run_endLoop (P:=P) hl (by rw [hrec];simp);rw [hrec] at this;exact this,hstop _ c pre _ (Nat.le_refl _) hSp ((hIx c).putObj _ hi (by omega) hl rfl) ((World.putObj_heap_other (by omega)).trans hk)⟩
end Go
namespace Go.Lv
set_option linter.unusedVariables false
/-! ### What is live,plain -/
/-- A function,as far as live registers want it. -/
structure G where
 nb:Nat
 len:Nat→Nat
 use:Nat→Nat→List Int
 set:Nat→Nat→Int
 tuse:Nat→List Int
 succ:Nat→List Int
/-- Register r is live at place k of block i. -/
inductive At (g:G) (r:Int):Nat→Nat→Prop
 | use {i k:Nat} : k<g.len i→r∈g.use i k→At g r i k
 | step {i k:Nat} : k<g.len i→r≠g.set i k→At g r i (k+1)→At g r i k
 | tuse {i:Nat} : r∈g.tuse i→At g r i (g.len i)
 | jump {i j:Nat} : (j:Int)∈g.succ i→At g r j 0→At g r i (g.len i)
/-- What goes backwards from a block's end,m operations. -/
def Bk (g:G) (I:Nat→Int→Prop) (i:Nat):Nat→Int→Prop
 | 0,r=>r∈g.tuse i∨∃ j:Nat,(j:Int)∈g.succ i∧I j r
 | m+1,r=>r∈g.use i (g.len i - 1 - m)∨(r≠g.set i (g.len i - 1 - m)∧Bk g I i m r)
/-- Each block's successors are blocks. -/
def Wf (g:G):Prop:=∀ i,i<g.nb→∀ t∈g.succ i,0≤t∧t<g.nb
theorem Bk.mono {g:G} {I I' : Nat→Int→Prop} {i:Nat} (h:∀ (j:Nat) (r:Int),(j:Int)∈g.succ i→I j r→I' j r):∀ m r,Bk g I i m r→Bk g I' i m r
 | 0,r,hb=>hb.imp id (fun ⟨j,h1,h2⟩=>⟨j,h1,h j r h1 h2⟩)
 | m+1,r,hb=>hb.imp id (fun ⟨h1,h2⟩=>⟨h1,Bk.mono h m r h2⟩)
theorem Bk.sound {g:G} {I:Nat→Int→Prop} {i:Nat} (h:∀ (j:Nat) (r:Int),(j:Int)∈g.succ i→I j r→At g r j 0):∀ m r,m≤g.len i→Bk g I i m r→At g r i (g.len i - m)
 | 0,r,_,hb=>by
  rcases hb with hb|⟨j,h1,h2⟩
  ·exact .tuse hb
  ·exact .jump h1 (h j r h1 h2)
 | m+1,r,hm,hb=>by
  have e:g.len i - 1 - m=g.len i - (m+1):=by omega
  rcases hb with hb|⟨h1,h2⟩
  ·rw [e] at hb
   exact .use (by omega) hb
  ·rw [e] at h1
   refine .step (by omega) h1 ?_
   have:=Bk.sound h m r (by omega) h2
   rwa [show g.len i - (m+1)+1=g.len i - m by omega]
theorem Bk.complete {g:G} {I:Nat→Int→Prop} (hw:Wf g) (hc:∀ i,i<g.nb→∀ r,Bk g I i (g.len i) r→I i r) {r:Int} {i k:Nat} (h:At g r i k):i<g.nb→k≤g.len i→Bk g I i (g.len i - k) r:=by
 induction h with
 | @use i k hk hr =>
  intro hi _
  rw [show g.len i - k=(g.len i - 1 - k)+1 by omega]
  refine .inl ?_
  rwa [show g.len i - 1 - (g.len i - 1 - k)=k by omega]
 | @step i k hk hr _ ih =>
  intro hi _
  rw [show g.len i - k=(g.len i - 1 - k)+1 by omega]
  refine .inr ⟨?_,?_⟩
  ·rwa [show g.len i - 1 - (g.len i - 1 - k)=k by omega]
  ·have:=ih hi (by omega)
   rwa [show g.len i - (k+1)=g.len i - 1 - k by omega] at this
 | @tuse i hr =>
  intro hi _
  rw [Nat.sub_self]
  exact .inl hr
 | @jump i j hj _ ih =>
  intro hi _
  rw [Nat.sub_self]
  have hjn:j<g.nb:=by have:=hw i hi _ hj;omega
  exact .inr ⟨j,hj,hc j hjn r (by have:=ih hjn (Nat.zero_le _);rwa [Nat.sub_zero] at this)⟩
/-- The least sets are those of what is live. -/
theorem least {g:G} {I:Nat→Int→Prop} (hw:Wf g) (hs:∀ i,i<g.nb→∀ r,I i r→At g r i 0) (hc:∀ i,i<g.nb→∀ r,Bk g I i (g.len i) r→I i r) (i:Nat) (hi:i<g.nb) (r:Int):I i r↔At g r i 0 :=
 ⟨hs i hi r,fun h=>hc i hi r (by have:=Bk.complete hw hc h hi (Nat.zero_le _);rwa [Nat.sub_zero] at this)⟩
/-- What goes backwards from the right sets is what is live. -/
theorem bk_at {g:G} {I:Nat→Int→Prop} (hw:Wf g) (hI:∀ i,i<g.nb→∀ r,I i r↔At g r i 0) (i:Nat) (hi:i<g.nb) (m:Nat) (hm:m≤g.len i) (r:Int):Bk g I i m r↔At g r i (g.len i - m):=by
 refine ⟨Bk.sound (fun j r hj h=>(hI j (by have:=hw i hi _ hj;omega) r).1 h) m r hm,fun h=>?_⟩
 have:=Bk.complete (I:=I) hw (fun i hi r h=>(hI i hi r).2 ?_) h hi (by omega)
 ·rwa [show g.len i - (g.len i - m)=m by omega] at this
 ·have:=Bk.sound (fun j r hj h=>(hI j (by have:=hw i hi _ hj;omega) r).1 h) (g.len i) r (Nat.le_refl _) h
  rwa [Nat.sub_self] at this
theorem at_use {g:G} {r:Int} {i k:Nat} (h:At g r i k):k<g.len i→(r∈g.use i k∨(r≠g.set i k∧At g r i (k+1))):=by
 cases h with
 | use h1 h2=>exact fun _=>.inl h2
 | step h1 h2 h3=>exact fun _=>.inr ⟨h2,h3⟩
 | tuse h=>exact fun hk=>absurd hk (Nat.lt_irrefl _)
 | jump h1 h2=>exact fun hk=>absurd hk (Nat.lt_irrefl _)
theorem at_iff {g:G} {r:Int} {i k:Nat} (hk:k<g.len i):At g r i k↔(r∈g.use i k∨(r≠g.set i k∧At g r i (k+1))) :=
 ⟨fun h=>at_use h hk,fun h=>h.elim (fun h=>.use hk h) (fun h=>.step hk h.1 h.2)⟩
theorem at_end {g:G} {r:Int} {i:Nat} : At g r i (g.len i)↔(r∈g.tuse i∨∃ j:Nat,(j:Int)∈g.succ i∧At g r j 0):=by
 constructor
 ·intro h
  generalize hk:g.len i=k at h
  cases h with
  | use h1 h2=>omega
  | step h1 h2 h3=>omega
  | tuse h=>exact .inl h
  | jump h1 h2=>exact .inr ⟨_,h1,h2⟩
 ·rintro (h|⟨j,h1,h2⟩)
  ·exact .tuse h
  ·exact .jump h1 h2
/-- All that is live is read somewhere. -/
theorem at_some {g:G} {Q:Int→Prop} (hu:∀ i k r,r∈g.use i k→Q r) (ht:∀ i r,r∈g.tuse i→Q r) {r:Int} {i k:Nat} (h:At g r i k):Q r:=by
 induction h with
 | use _ h=>exact hu _ _ _ h
 | step _ _ _ ih=>exact ih
 | tuse h=>exact ht _ _ h
 | jump _ _ ih=>exact ih
/-! ### Rows without repeats -/
theorem nodup_le:∀ {l m:List Int},l.Nodup→(∀ x∈l,x∈m)→l.length≤m.length
 | [],m,_,_=>Nat.zero_le _
 | x::l,m,hn,hs=>by
  rw [List.nodup_cons] at hn
  have hx:=hs x List.mem_cons_self
  have ih:=nodup_le (m:=m.erase x) hn.2 (fun y hy=>(List.mem_erase_of_ne (fun e=>hn.1 (by rw [← e];exact hy))).2 (hs y (List.mem_cons_of_mem _ hy)))
  rw [List.length_erase_of_mem hx] at ih
  have:=List.length_pos_of_mem hx
  simp only [List.length_cons]
  omega
theorem same_of_le {a b:List Int} (ha:a.Nodup) (hb:b.Nodup) (hs:∀ x∈a,x∈b) (hl:b.length≤a.length):∀ x∈b,x∈a:=fun x hx=>Classical.byContradiction fun hn=>by
 have:=nodup_le (l:=x::a) (m:=b) (List.nodup_cons.2 ⟨hn,ha⟩) (fun y hy=>by
  rcases List.mem_cons.1 hy with rfl|hy
  ·exact hx
  ·exact hs y hy)
 simp only [List.length_cons] at this
 omega
theorem regs_le {l:List Int} (hn:l.Nodup) (h:∀ r∈l,1≤r∧r≤4096):l.length≤4096:=by
 have:=nodup_le (m:=(List.range 4096).map fun k:Nat=>(k:Int)+1) hn (fun r hr=>by
  have:=h r hr
  exact List.mem_map.2 ⟨(r - 1).toNat,List.mem_range.2 (by omega),by omega⟩)
 simpa using this
/-- Strictly rising rows of the same members are one. -/
theorem rise_ext:∀ {a b:List Int},a.Pairwise (·<·)→b.Pairwise (·<·)→(∀ r,r∈a↔r∈b)→a=b
 | [],[],_,_,_=>rfl
 | [],y::b,_,_,h=>absurd ((h y).2 List.mem_cons_self) (by simp)
 | x::a,[],_,_,h=>absurd ((h x).1 List.mem_cons_self) (by simp)
 | x::a,y::b,ha,hb,h=>by
  rw [List.pairwise_cons] at ha hb
  have hxy:x=y:=by
   have h1:=(h x).1 List.mem_cons_self
   have h2:=(h y).2 List.mem_cons_self
   rcases List.mem_cons.1 h1 with h1|h1
   ·exact h1
   ·rcases List.mem_cons.1 h2 with h2|h2
    ·exact h2.symm
    ·have:=ha.1 y h2;have:=hb.1 x h1;omega
  subst hxy
  have:=rise_ext ha.2 hb.2 (fun r=>by
   have:=h r
   constructor
   ·intro hr
    rcases List.mem_cons.1 (this.1 (List.mem_cons_of_mem _ hr)) with e|e
    ·have:=ha.1 r hr;omega
    ·exact e
   ·intro hr
    rcases List.mem_cons.1 (this.2 (List.mem_cons_of_mem _ hr)) with e|e
    ·have:=hb.1 r hr;omega
    ·exact e)
  rw [this]
/-! ### Sizes of sets -/
/-- P holds of m numbers. -/
def Sz (P:Int→Prop) (m:Nat):Prop:=∃ l:List Int,l.Nodup∧(∀ r,r∈l↔P r)∧l.length=m
theorem Sz.le {P Q:Int→Prop} {a b:Nat} (h:Sz P a) (k:Sz Q b) (hs:∀ r,P r→Q r):a≤b:=by
 obtain ⟨l,h1,h2,rfl⟩:=h
 obtain ⟨m,k1,k2,rfl⟩:=k
 exact nodup_le h1 (fun x hx=>(k2 x).2 (hs x ((h2 x).1 hx)))
theorem Sz.same {P Q:Int→Prop} {a b:Nat} (h:Sz P a) (k:Sz Q b) (hs:∀ r,P r→Q r) (hl:b≤a):∀ r,Q r→P r:=by
 obtain ⟨l,h1,h2,rfl⟩:=h
 obtain ⟨m,k1,k2,rfl⟩:=k
 intro r hr
 exact (h2 r).1 (same_of_le h1 k1 (fun x hx=>(k2 x).2 (hs x ((h2 x).1 hx))) hl r ((k2 r).2 hr))
theorem Sz.uniq {P:Int→Prop} {a b:Nat} (h:Sz P a) (k:Sz P b):a=b:=Nat.le_antisymm (h.le k fun _ h=>h) (k.le h fun _ h=>h)
theorem Sz.regs {P:Int→Prop} {a:Nat} (h:Sz P a) (hr:∀ r,P r→1≤r∧r≤4096):a≤4096:=by
 obtain ⟨l,h1,h2,rfl⟩:=h
 exact regs_le h1 (fun r hr'=>hr r ((h2 r).1 hr'))
/-- The sets' sizes,together. -/
def Tot (I:Nat→Int→Prop) (n s:Nat):Prop:=∃ L:Nat→Nat,(∀ i,i<n→Sz (I i) (L i)∧L i≤4096)∧s=((List.range n).map L).sum
theorem sum_le (L:Nat→Nat) (b:Nat):∀ n,(∀ i,i<n→L i≤b)→((List.range n).map L).sum≤n*b
 | 0,_=>Nat.zero_le _
 | n+1,h=>by
  have:=sum_le L b n (fun i hi=>h i (by omega))
  have h2:=h n (by omega)
  rw [List.range_succ,List.map_append,List.sum_append,Nat.succ_mul]
  simp
  omega
theorem sum_set (L L' : Nat→Nat) (k:Nat):∀ n,(∀ i,i<n→i≠k→L' i=L i)→(k<n→L k<L' k)→(k<n→((List.range n).map L).sum<((List.range n).map L').sum)∧(n≤k→((List.range n).map L).sum=((List.range n).map L').sum)
 | 0,_,_=>⟨fun h=>absurd h (Nat.not_lt_zero _),fun _=>rfl⟩
 | n+1,h,hk=>by
  have ih:=sum_set L L' k n (fun i hi=>h i (by omega)) (fun hi=>hk (by omega))
  simp only [List.range_succ,List.map_append,List.sum_append,List.map_cons,List.map_nil,List.sum_cons,List.sum_nil,Nat.add_zero]
  refine ⟨fun hlt=>?_,fun hle=>?_⟩
  ·by_cases e:n=k
   ·subst e
    have:=ih.2 (Nat.le_refl _)
    have:=hk (by omega)
    omega
   ·have:=ih.1 (by omega)
    have:=h n (by omega) e
    omega
  ·have:=ih.2 (by omega)
   have:=h n (by omega) (by omega)
   omega
theorem Tot.le {I:Nat→Int→Prop} {n s:Nat} (h:Tot I n s):s≤n*4096:=by
 obtain ⟨L,h1,rfl⟩:=h
 exact sum_le L 4096 n (fun i hi=>(h1 i hi).2)
theorem Tot.set {I:Nat→Int→Prop} {n s k a b:Nat} {P:Int→Prop} (h:Tot I n s) (hk:k<n) (ha:Sz (I k) a) (hb:Sz P b) (hab:a<b) (hb4:b≤4096):∃ s',Tot (fun i r=>if i=k then P r else I i r) n s'∧s<s':=by
 obtain ⟨L,h1,rfl⟩:=h
 refine ⟨_,⟨fun i=>if i=k then b else L i,fun i hi=>?_,rfl⟩,?_⟩
 ·by_cases e:i=k
  ·simp only [if_pos e];exact ⟨hb,hb4⟩
  ·simp only [if_neg e];exact h1 i hi
 ·refine (sum_set L (fun i=>if i=k then b else L i) k n (fun i _ e=>if_neg e) (fun _=>?_)).1 hk
  simp only [if_pos]
  have:=(h1 k hk).1.uniq ha
  omega
theorem Tot.zero (n:Nat):Tot (fun _ _=>False) n ((List.range n).map fun _=>0).sum:=⟨fun _=>0,fun i hi=>⟨⟨[],List.nodup_nil,fun r=>by simp,rfl⟩,Nat.zero_le _⟩,rfl⟩
end Go.Lv
namespace Go.Lv
set_option linter.unusedVariables false
/-! ### What is live comes from somewhere,and is read somewhere -/
theorem Sz.imp {P Q:Int→Prop} {m:Nat} (h:Sz P m) (hq:∀ r,P r↔Q r):Sz Q m:=by
 obtain ⟨l,h1,h2,h3⟩:=h
 exact ⟨l,h1,fun r=>(h2 r).trans (hq r),h3⟩
end Go.Lv
namespace Go.Proofs.YtnkgbnbbmcoiiaaGreat.S
open Go.RowKit Go.Proofs.YtnkgbnbbmcoiiaaGreatW.PrintWords Go.Proofs.YtnkgbnbbmcoiiaaGreatW.PrintLast Go.Proofs.YtnkgbnbbmcoiiaaGreatW.PrintMore
set_option linter.unusedVariables false
set_option linter.unusedSimpArgs false
def wi (a b c:Int):Bool:=decide (b≤a∧a≤c)
theorem within_eq (a b c:Int):code_within.f a b c=some (wi a b c):=by
 unfold code_within.f wi
 by_cases h:a ≥ b
 ·rw [if_pos h]
  by_cases h2:a≤c<;>simp [h2]<;>omega
 ·rw [if_neg h]
  simp
  omega
theorem within_any (a b c:Int) (w:World):Calls Tryz.prog 71 #[.int .i64 a,.int .i64 b,.int .i64 c] w fun e w'=>e=.returned (.bool (wi a b c))∧Below w.heap.size w w' :=
 (code_within.calls a b c _ w (within_eq a b c)).mono fun e w' h=>⟨h.1,h.2.below⟩
theorem reg_any (a:Int) (w:World):Calls Tryz.prog 96 #[.int .i64 a] w fun e w'=>e=.returned (.bool (wi a 1 4096))∧Below w.heap.size w w' :=
 (code_reg.calls a _ w (by unfold code_reg.f;rw [within_eq];rfl)).mono fun e w' h=>⟨h.1,h.2.below⟩
set_option maxHeartbeats 4000000 in
set_option maxRecDepth 100000 in
theorem block_any (n b:Int) (p:Addr) (w:World) (hp:w.cell? p=some (.int .i64 b)):Calls Tryz.prog 95 #[.int .i64 n,.pointer (some p)] w fun e w'=>e=.returned (.bool (wi n 0 (wrap64 (b - 1))))∧Below w.heap.size w w':=by
 go_enter Tryz.func95,Tryz.ntmps95
 go_wp2_with (go_at_call 71;refine (within_any _ _ _ _).mono ?_;rintro e w1 ⟨rfl,hb⟩)
 go_ret
 exact ⟨rfl,hb⟩
/-- Which Terms are right,among so many blocks. -/
def rtT (k a t e b:Int):Bool :=
 if k=1 then wi t 0 (wrap64 (b - 1)) && (a == 0 && e == 0)
 else if k=2 then wi t 0 (wrap64 (b - 1)) && wi e 0 (wrap64 (b - 1)) && wi a 1 4096
 else if k=3 then wi a 1 4096 && (t == 0 && e == 0)
 else if k=4 then wi t 1 15 && (a == 0 && e == 0)
 else false
theorem eqA48 (d:Nat) (w:World) (x0 y0:Int) (x1 y1:Int) (x2 y2:Int) (x3 y3:Int) :
  (Op.equalIn (d+2) 48 (.agg #[.int .i64 x0,.int .i64 x1,.int .i64 x2,.int .i64 x3]) (.agg #[.int .i64 y0,.int .i64 y1,.int .i64 y2,.int .i64 y3])).run Tryz.prog w=.ok (x0 == y0 && (x1 == y1 && (x2 == y2 && (x3 == y3)))) w:=by
 refine eqA_of Tryz.underlying48 (by kernel_rfl) ?_
 refine eqf_cons (by rfl) (by go_simp;rfl) (by go_simp;rfl) (by go_simp) ?_
 refine eqf_cons (by rfl) (by go_simp;rfl) (by go_simp;rfl) (by go_simp) ?_
 refine eqf_cons (by rfl) (by go_simp;rfl) (by go_simp;rfl) (by go_simp) ?_
 exact eqf_last (by rfl) (by go_simp;rfl) (by go_simp;rfl) (by go_simp)
attribute [local go_sem high] eqA48
set_option maxHeartbeats 8000000 in
set_option maxRecDepth 100000 in
theorem rightTerm_any (k a t e b:Int) (w:World):Calls Tryz.prog 74 #[.agg #[.int .i64 k,.int .i64 a,.int .i64 t,.int .i64 e],.int .i64 b] w fun r w'=>r=.returned (.bool (rtT k a t e b))∧Below w.heap.size w w':=by
 have hu41:=Tryz.underlying48
 obtain ⟨W1,hW1⟩:∃ W1,(w.alloc (.cells #[.int .i64 k,.int .i64 a,.int .i64 t,.int .i64 e] 48)).alloc (.cells #[.int .i64 b] 3)=W1:=⟨_,rfl⟩
 have hb1:Below w.heap.size w W1:=by rw [← hW1];exact below_alloc (below_alloc (Below.refl _ _) _) _
 have hx0:=blk_alloc (blk_new w (.cells #[.int .i64 k,.int .i64 a,.int .i64 t,.int .i64 e] 48)) (.cells #[.int .i64 b] 3)
 have hx1:=blk_new (w.alloc (.cells #[.int .i64 k,.int .i64 a,.int .i64 t,.int .i64 e] 48)) (.cells #[.int .i64 b] 3)
 rw [World.size_alloc] at hx1
 rw [hW1] at hx0 hx1
 have HB1:=ak_ hb1
 have HX0:=ak_ hx0
 have HX1:=ak_ hx1
 have HW1:=ak_ hW1
 have hp0:=blk_cell hx1 0
 simp only [List.getElem?_toArray,List.getElem?_cons_zero] at hp0
 rw [← hW1] at hp0
 have HP0:=ak_ hp0
 clear hp0
 clear hb1 hx0 hx1 hW1
 obtain ⟨v1,hv1⟩:∃ v,wi t 0 (wrap64 (b - 1))=v:=⟨_,rfl⟩
 obtain ⟨v2,hv2⟩:∃ v,wi e 0 (wrap64 (b - 1))=v:=⟨_,rfl⟩
 obtain ⟨v3,hv3⟩:∃ v,wi a 1 4096=v:=⟨_,rfl⟩
 obtain ⟨v4,hv4⟩:∃ v,wi t 1 15=v:=⟨_,rfl⟩
 have hR:∃ r,rtT k a t e b=r:=⟨_,rfl⟩
 obtain ⟨r,hr⟩:=hR
 rw [hr]
 unfold rtT at hr
 rw [hv1,hv2,hv3,hv4] at hr
 have HR:=ak_ hr
 have V1:=ak_ hv1
 have V2:=ak_ hv2
 have V3:=ak_ hv3
 have V4:=ak_ hv4
 clear hr hv1 hv2 hv3 hv4
 by_cases k1:k=1
 ·have q1:(k == 1)=true:=beq_iff_eq.2 k1
  have hr:=HR.out
  rw [if_pos k1] at hr
  clear k1 HR
  cases v1 with
  | false =>
   rw [Bool.false_and] at hr
   subst hr
   go_enter Tryz.func74,Tryz.ntmps74
   go_wp2_with (go_at_call 95;refine (block_any _ _ _ _ HP0.out).mono ?_;rintro e_ w2 ⟨rfl,hb⟩;rw [V1.out];have hb':=hb;rw [HW1.out] at hb';have HY0:=ak_ (blk_below HX0.out hb');have HY1:=ak_ (blk_below HX1.out hb');have HB2:=ak_ (below_then HB1.out HB1.out.size hb');clear hb hb';have c0:=bc_ HY0 0;have c1:=bc_ HY0 1;have c2:=bc_ HY0 2;have c3:=bc_ HY0 3;have d0:=bc_ HY1 0;simp only [ga_,gb_,gc_] at c0 c1 c2 c3 d0)
   go_ret
   exact ⟨rfl,HB2.out⟩
  | true =>
   rw [Bool.true_and] at hr
   subst hr
   go_enter Tryz.func74,Tryz.ntmps74
   go_wp2_with (go_at_call 95;refine (block_any _ _ _ _ HP0.out).mono ?_;rintro e_ w2 ⟨rfl,hb⟩;rw [V1.out];have hb':=hb;rw [HW1.out] at hb';have HY0:=ak_ (blk_below HX0.out hb');have HY1:=ak_ (blk_below HX1.out hb');have HB2:=ak_ (below_then HB1.out HB1.out.size hb');clear hb hb';have c0:=bc_ HY0 0;have c1:=bc_ HY0 1;have c2:=bc_ HY0 2;have c3:=bc_ HY0 3;have d0:=bc_ HY1 0;simp only [ga_,gb_,gc_] at c0 c1 c2 c3 d0)
   go_ret
   exact ⟨by first|rfl|simp,HB2.out⟩
 ·have q1:(k == 1)=false:=beq_eq_false_iff_ne.2 k1
  by_cases k2:k=2
  ·have q2:(k == 2)=true:=beq_iff_eq.2 k2
   have hr:=HR.out
   rw [if_neg k1,if_pos k2] at hr
   clear k1 k2 HR
   cases v1 with
   | false =>
    rw [Bool.false_and,Bool.false_and] at hr
    subst hr
    go_enter Tryz.func74,Tryz.ntmps74
    go_wp2_with (go_at_call 95;refine (block_any _ _ _ _ HP0.out).mono ?_;rintro e_ w2 ⟨rfl,hb⟩;rw [V1.out];have hb':=hb;rw [HW1.out] at hb';have HY0:=ak_ (blk_below HX0.out hb');have HY1:=ak_ (blk_below HX1.out hb');have HB2:=ak_ (below_then HB1.out HB1.out.size hb');clear hb hb';have c0:=bc_ HY0 0;have c1:=bc_ HY0 1;have c2:=bc_ HY0 2;have c3:=bc_ HY0 3;have d0:=bc_ HY1 0;simp only [ga_,gb_,gc_] at c0 c1 c2 c3 d0;have HD0:=ak_ d0)
    go_ret
    exact ⟨rfl,HB2.out⟩
   | true =>
    cases v2 with
    | false =>
     rw [Bool.and_false,Bool.false_and] at hr
     subst hr
     go_enter Tryz.func74,Tryz.ntmps74
     go_wp2_with (first|(go_at_call 95;have hz:=HY1;clear hz;refine (block_any _ _ _ _ HD0.out).mono ?_;rintro e_ w3 ⟨rfl,hb⟩;rw [V2.out];have HZ0:=ak_ (blk_below HY0.out hb);have HB3:=ak_ (below_then HB2.out HB2.out.size hb);clear hb c0 c1 c2 c3 d0;have c1:=bc_ HZ0 1;simp only [ga_,gb_,gc_] at c1)|(go_at_call 95;refine (block_any _ _ _ _ HP0.out).mono ?_;rintro e_ w2 ⟨rfl,hb⟩;rw [V1.out];have hb':=hb;rw [HW1.out] at hb';have HY0:=ak_ (blk_below HX0.out hb');have HY1:=ak_ (blk_below HX1.out hb');have HB2:=ak_ (below_then HB1.out HB1.out.size hb');clear hb hb';have c0:=bc_ HY0 0;have c1:=bc_ HY0 1;have c2:=bc_ HY0 2;have c3:=bc_ HY0 3;have d0:=bc_ HY1 0;simp only [ga_,gb_,gc_] at c0 c1 c2 c3 d0;have HD0:=ak_ d0))
     go_ret
     exact ⟨rfl,HB3.out⟩
    | true =>
     rw [Bool.and_self,Bool.true_and] at hr
     subst hr
     go_enter Tryz.func74,Tryz.ntmps74
     go_wp2_with (first|(go_at_call 95;have hz:=HY1;clear hz;refine (block_any _ _ _ _ HD0.out).mono ?_;rintro e_ w3 ⟨rfl,hb⟩;rw [V2.out];have HZ0:=ak_ (blk_below HY0.out hb);have HB3:=ak_ (below_then HB2.out HB2.out.size hb);clear hb c0 c1 c2 c3 d0;have c1:=bc_ HZ0 1;simp only [ga_,gb_,gc_] at c1)|(go_at_call 95;refine (block_any _ _ _ _ HP0.out).mono ?_;rintro e_ w2 ⟨rfl,hb⟩;rw [V1.out];have hb':=hb;rw [HW1.out] at hb';have HY0:=ak_ (blk_below HX0.out hb');have HY1:=ak_ (blk_below HX1.out hb');have HB2:=ak_ (below_then HB1.out HB1.out.size hb');clear hb hb';have c0:=bc_ HY0 0;have c1:=bc_ HY0 1;have c2:=bc_ HY0 2;have c3:=bc_ HY0 3;have d0:=bc_ HY1 0;simp only [ga_,gb_,gc_] at c0 c1 c2 c3 d0;have HD0:=ak_ d0)|(go_at_call 96;refine (reg_any _ _).mono ?_;rintro e_ w4 ⟨rfl,hb⟩;rw [V3.out];have HB4:=ak_ (below_then HB3.out HB3.out.size hb);clear hb))
     go_ret
     exact ⟨rfl,HB4.out⟩
  ·have q2:(k == 2)=false:=beq_eq_false_iff_ne.2 k2
   by_cases k3:k=3
   ·have q3:(k == 3)=true:=beq_iff_eq.2 k3
    have hr:=HR.out
    rw [if_neg k1,if_neg k2,if_pos k3] at hr
    clear k1 k2 k3
    clear HR
    cases v3 with
    | false =>
     rw [Bool.false_and] at hr
     subst hr
     go_enter Tryz.func74,Tryz.ntmps74
     go_wp2_with (go_at_call 96;refine (reg_any _ _).mono ?_;rintro e_ w2 ⟨rfl,hb⟩;rw [V3.out];have hb':=hb;rw [HW1.out] at hb';have HY0:=ak_ (blk_below HX0.out hb');have HY1:=ak_ (blk_below HX1.out hb');have HB2:=ak_ (below_then HB1.out HB1.out.size hb');clear hb hb';have c0:=bc_ HY0 0;have c1:=bc_ HY0 1;have c2:=bc_ HY0 2;have c3:=bc_ HY0 3;have d0:=bc_ HY1 0;simp only [ga_,gb_,gc_] at c0 c1 c2 c3 d0;have HD0:=ak_ d0)
     go_ret
     exact ⟨rfl,HB2.out⟩
    | true =>
     rw [Bool.true_and] at hr
     subst hr
     go_enter Tryz.func74,Tryz.ntmps74
     go_wp2_with (go_at_call 96;refine (reg_any _ _).mono ?_;rintro e_ w2 ⟨rfl,hb⟩;rw [V3.out];have hb':=hb;rw [HW1.out] at hb';have HY0:=ak_ (blk_below HX0.out hb');have HY1:=ak_ (blk_below HX1.out hb');have HB2:=ak_ (below_then HB1.out HB1.out.size hb');clear hb hb';have c0:=bc_ HY0 0;have c1:=bc_ HY0 1;have c2:=bc_ HY0 2;have c3:=bc_ HY0 3;have d0:=bc_ HY1 0;simp only [ga_,gb_,gc_] at c0 c1 c2 c3 d0;have HD0:=ak_ d0)
     go_ret
     exact ⟨by first|rfl|simp,HB2.out⟩
   ·have q3:(k == 3)=false:=beq_eq_false_iff_ne.2 k3
    by_cases k4:k=4
    ·have q4:(k == 4)=true:=beq_iff_eq.2 k4
     have hr:=HR.out
     rw [if_neg k1,if_neg k2,if_neg k3,if_pos k4] at hr
     clear k1 k2 k3 k4
     clear HR
     cases v4 with
     | false =>
      rw [Bool.false_and] at hr
      subst hr
      go_enter Tryz.func74,Tryz.ntmps74
      go_wp2_with (go_at_call 71;refine (within_any _ _ _ _).mono ?_;rintro e_ w2 ⟨rfl,hb⟩;rw [V4.out];have hb':=hb;rw [HW1.out] at hb';have HY0:=ak_ (blk_below HX0.out hb');have HY1:=ak_ (blk_below HX1.out hb');have HB2:=ak_ (below_then HB1.out HB1.out.size hb');clear hb hb';have c0:=bc_ HY0 0;have c1:=bc_ HY0 1;have c2:=bc_ HY0 2;have c3:=bc_ HY0 3;have d0:=bc_ HY1 0;simp only [ga_,gb_,gc_] at c0 c1 c2 c3 d0;have HD0:=ak_ d0)
      go_ret
      exact ⟨rfl,HB2.out⟩
     | true =>
      rw [Bool.true_and] at hr
      subst hr
      go_enter Tryz.func74,Tryz.ntmps74
      go_wp2_with (go_at_call 71;refine (within_any _ _ _ _).mono ?_;rintro e_ w2 ⟨rfl,hb⟩;rw [V4.out];have hb':=hb;rw [HW1.out] at hb';have HY0:=ak_ (blk_below HX0.out hb');have HY1:=ak_ (blk_below HX1.out hb');have HB2:=ak_ (below_then HB1.out HB1.out.size hb');clear hb hb';have c0:=bc_ HY0 0;have c1:=bc_ HY0 1;have c2:=bc_ HY0 2;have c3:=bc_ HY0 3;have d0:=bc_ HY1 0;simp only [ga_,gb_,gc_] at c0 c1 c2 c3 d0;have HD0:=ak_ d0)
      go_ret
      exact ⟨by first|rfl|simp,HB2.out⟩
    ·have q4:(k == 4)=false:=beq_eq_false_iff_ne.2 k4
     have hr:=HR.out
     rw [if_neg k1,if_neg k2,if_neg k3,if_neg k4] at hr
     clear k1 k2 k3 k4 HR
     subst hr
     go_enter Tryz.func74,Tryz.ntmps74
     go_wp2_with fail
     go_ret
     exact ⟨rfl,by rw [HW1.out];exact HB1.out⟩
end Go.Proofs.YtnkgbnbbmcoiiaaGreat.S
