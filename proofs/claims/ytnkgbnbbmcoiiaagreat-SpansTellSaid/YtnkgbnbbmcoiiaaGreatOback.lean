import Derived.Test.YtnkgbnbbmcoiiaaGreatOora
import Derived.Test.YtnkgbnbbmcoiiaaGreatOput
import Derived.Test.YtnkgbnbbmcoiiaaGreatRfa
import Derived.RangeFuncNested
import Derived.RangeFuncCalls
import Derived.Deep.LoopGhost
import Derived.TacticsIn
import Derived.Test.YtnkgbnbbmcoiiaaGreatOrep
import Derived.Test.YtnkgbnbbmcoiiaaGreatBk
import Derived.RangeFuncBound
import Derived.Shelf.Abstract
import Derived.Shelf.RegionOpen
import Derived.WalkKit
import Derived.OwnWalkIn
import Derived.TacticsInMore
import Derived.LoopNIn
import Derived.LoopIn
import Derived.Outline
namespace Go.Proofs.YtnkgbnbbmcoiiaaGreat.S
open Go.RowKit
set_option linter.unusedVariables false
set_option linter.unusedSimpArgs false
/-! ### What a right function is -/
/-- A function,as far as live registers want it. -/
def gOf (bs:List S50):Lv.G:=⟨bs.length,opLen bs,fun i k=>useX (opOf bs (i,k)),fun i k=>setX (opOf bs (i,k)),fun i=>tuseT (rd_T50 bs (i:Int)).f1,fun i=>succT (rd_T50 bs (i:Int)).f1⟩
theorem fld_reg {n:Int} {b:Bool} (h:fld n b=true):b=true→1≤n∧n≤4096:=by
 intro hb
 unfold fld at h
 rw [if_pos hb] at h
 simpa [isReg,wi] using h
theorem ropX_parts {x:S45} {fn:Int} (h:ropX x fn=true):(shp x.f0).2.2.2.2=true∧fld x.f1 (shp x.f0).1=true∧fld x.f2 (shp x.f0).2.1=true∧fld x.f3 (shp x.f0).2.2.1=true∧imB x fn=true∧(x.f0=7→(x.f5.length:Int)≤8∧∀ r∈x.f5,1≤r∧r≤4096)∧(x.f0≠7→x.f5=[]):=by
 unfold ropX ropB at h
 simp only [Bool.and_eq_true] at h
 obtain ⟨h1,h2,h3,h4,h5,h6⟩:=h
 refine ⟨h1,h2,h3,h4,h5,fun h7=>?_,fun h7=>?_⟩
 ·rw [if_pos h7,Bool.and_eq_true,decide_eq_true_eq,List.all_eq_true] at h6
  exact ⟨h6.1,fun r hr=>by simpa [isReg,wi] using h6.2 r hr⟩
 ·rw [if_neg h7,beq_iff_eq] at h6
  exact List.eq_nil_of_length_eq_zero (by omega)
theorem ropX_args {x:S45} {fn:Int} (h:ropX x fn=true):x.f5.length≤8:=by
 obtain ⟨_,_,_,_,_,h6,h7⟩:=ropX_parts h
 by_cases hk:x.f0=7
 ·have:=(h6 hk).1;omega
 ·rw [h7 hk];exact Nat.zero_le _
theorem ropX_use {x:S45} {fn:Int} (h:ropX x fn=true):∀ r∈useX x,1≤r∧r≤4096:=by
 obtain ⟨_,_,h3,h4,_,h6,_⟩:=ropX_parts h
 intro r hr
 unfold useX at hr
 simp only [List.mem_append] at hr
 rcases hr with (hr|hr)|hr
 ·split at hr
  ·rename_i hb
   rw [List.mem_singleton.1 hr];exact fld_reg h3 hb
  ·cases hr
 ·split at hr
  ·rename_i hb
   rw [List.mem_singleton.1 hr];exact fld_reg h4 hb
  ·cases hr
 ·split at hr
  ·rename_i hk
   exact (h6 hk).2 r hr
  ·cases hr
theorem ropX_set {x:S45} {fn:Int} (h:ropX x fn=true):setX x=0∨(1≤setX x∧setX x≤4096):=by
 obtain ⟨_,h2,_⟩:=ropX_parts h
 unfold setX
 split
 ·rename_i hb;exact .inr (fld_reg h2 hb)
 ·exact .inl rfl
structure RightP (p:Int) (bs:List S50) (fn:Int):Prop where mk ::
 len:1≤bs.length∧bs.length≤4096
 par:0≤p∧p≤8
 term:∀ i,i<bs.length→rtT (rd_T50 bs (i:Int)).f1.f0 (rd_T50 bs (i:Int)).f1.f1 (rd_T50 bs (i:Int)).f1.f2 (rd_T50 bs (i:Int)).f1.f3 (bs.length:Int)=true
 few:(plcs bs bs.length).length≤16384
 op:∀ i k,i<bs.length→k<opLen bs i→ropX (opOf bs (i,k)) fn=true
theorem rightF_iff {p:Int} {bs:List S50} {fn:Int} (h:rightF p bs fn=true):RightP p bs fn:=by
 unfold rightF at h
 simp only [Bool.and_eq_true,wi,decide_eq_true_eq,List.all_eq_true] at h
 obtain ⟨h1,h2,h3,h4,h5⟩:=h
 unfold termsR at h3
 rw [List.all_eq_true] at h3
 refine ⟨⟨by omega,by omega⟩,h2,fun i hi=>?_,h4,fun i k hi hk=>h5 (i,k) (mem_plcs.2 ⟨hi,hk⟩)⟩
 rw [rd43' hi]
 exact h3 _ (List.getElem_mem hi)
theorem rtT_succ {k a t e:Int} {n:Nat} (hn:1≤n∧n≤4096) (h:rtT k a t e (n:Int)=true):∀ q∈succT ⟨k,a,t,e⟩,0≤q∧q<(n:Int):=by
 have hw:wrap64 ((n:Int) - 1)=(n:Int) - 1:=by unfold wrap64;omega
 unfold rtT at h
 unfold succT
 rw [hw] at h
 simp only
 intro q hq
 by_cases h2:k=2
 ·rw [if_neg (by omega),if_pos h2] at h
  rw [if_pos h2] at hq
  simp only [Bool.and_eq_true,wi,decide_eq_true_eq] at h
  simp only [List.mem_cons,List.not_mem_nil,or_false] at hq
  rcases hq with rfl|rfl<;>omega
 ·by_cases h1:k=1
  ·rw [if_pos h1] at h
   rw [if_neg h2,if_pos h1] at hq
   simp only [Bool.and_eq_true,wi,decide_eq_true_eq] at h
   rw [List.mem_singleton.1 hq]
   omega
  ·rw [if_neg h2,if_neg h1] at hq
   cases hq
theorem rtT_tuse {k a t e b:Int} (h:rtT k a t e b=true):∀ q∈tuseT ⟨k,a,t,e⟩,1≤q∧q≤4096:=by
 unfold rtT at h
 unfold tuseT
 simp only
 intro q hq
 by_cases h2:k=2
 ·rw [if_neg (by omega),if_pos h2] at h
  rw [if_pos (.inl h2)] at hq
  simp only [Bool.and_eq_true,wi,decide_eq_true_eq] at h
  rw [List.mem_singleton.1 hq]
  exact h.2
 ·by_cases h3:k=3
  ·rw [if_neg (by omega),if_neg h2,if_pos h3] at h
   rw [if_pos (.inr h3)] at hq
   simp only [Bool.and_eq_true,wi,decide_eq_true_eq] at h
   rw [List.mem_singleton.1 hq]
   exact h.1
  ·rw [if_neg (by simp [h2,h3])] at hq
   cases hq
section
variable {p:Int} {bs:List S50} {fn:Int}
theorem RightP.succ (h:RightP p bs fn) {i:Nat} (hi:i<bs.length):∀ q∈succT (rd_T50 bs (i:Int)).f1,0≤q∧q<(bs.length:Int):=rtT_succ h.len (h.term i hi)
theorem RightP.wf (h:RightP p bs fn):Lv.Wf (gOf bs):=fun i hi t ht=>h.succ hi t ht
theorem RightP.tuse (h:RightP p bs fn) {i:Nat} (hi:i<bs.length):∀ q∈tuseT (rd_T50 bs (i:Int)).f1,1≤q∧q≤4096:=rtT_tuse (h.term i hi)
theorem RightP.tuseA (h:RightP p bs fn) (i:Nat):∀ q∈tuseT (rd_T50 bs (i:Int)).f1,1≤q∧q≤4096:=by
 by_cases hi:i<bs.length
 ·exact h.tuse hi
 ·have:rd_T50 bs (i:Int)=z50:=by
   unfold rd_T50
   rw [List.getD_eq_getElem?_getD,Int.toNat_natCast,List.getElem?_eq_none (by omega)]
   rfl
  rw [this]
  intro q hq
  cases hq
theorem RightP.opA (h:RightP p bs fn) (q:Nat × Nat):(∀ r∈useX (opOf bs q),1≤r∧r≤4096)∧(opOf bs q).f5.length≤8:=by
 by_cases hq:q.1<bs.length∧q.2<opLen bs q.1
 ·have:=h.op q.1 q.2 hq.1 hq.2
  exact ⟨ropX_use this,ropX_args this⟩
 ·rw [opOf_far hq]
  exact ⟨fun r hr=>(by cases hr),Nat.zero_le _⟩
theorem RightP.at_reg (h:RightP p bs fn) {r:Int} {i k:Nat} (ha:Lv.At (gOf bs) r i k):1≤r∧r≤4096 :=
 Lv.at_some (g:=gOf bs) (Q:=fun r=>1≤r∧r≤4096) (fun i k r hr=>(h.opA (i,k)).1 r hr) (fun i r hr=>h.tuseA i r hr) ha
theorem RightP.opLen_le (h:RightP p bs fn) (i:Nat):opLen bs i≤16384:=by
 by_cases hi:i<bs.length
 ·obtain ⟨rest,hr⟩:=part_prefix hi (Nat.le_refl (opLen bs i))
  have:=h.few
  rw [hr] at this
  simp [rowP] at this
  omega
 ·unfold opLen
  have:rd_T50 bs (i:Int)=z50:=by
   unfold rd_T50
   rw [List.getD_eq_getElem?_getD,Int.toNat_natCast,List.getElem?_eq_none (by omega)]
   rfl
  rw [this]
  exact Nat.zero_le _
end
end Go.Proofs.YtnkgbnbbmcoiiaaGreat.S
namespace Go
open Go.RowKit Go.IM
set_option linter.unusedVariables false
/-! ### A range over a function whose body may make maps and hand them on: what must abide asks nothing of maps -/
def isBook:Obj→Bool
 | .loop _=>true
 | .deferred _=>true
 | _=>false
/-- What abides where memory grows,and where book-keeping at or beyond B turns. -/
structure BookFrom {β:Type} (B:Nat) (I:β→World→Prop):Prop where
 below:∀ (s:β) (X Y:World),I s X→Below X.heap.size X Y→I s Y
 book:∀ (s:β) (X:World) (l:Nat) (o o' : Obj),I s X→B≤l→X.heap[l]?=some o→isBook o=true→I s (X.putObj l o')
theorem BookFrom.al {β:Type} {B:Nat} {I:β→World→Prop} (h:BookFrom B I) {s:β} {X:World} {o:Obj} (hx:I s X):I s (X.alloc o):=h.below _ _ _ hx ((Below.refl _ X).alloc (Nat.le_refl _) o)
theorem BookFrom.and {β:Type} {B:Nat} {I J:β→World→Prop} (h:BookFrom B I) (k:BookFrom B J):BookFrom B (fun s W=>I s W∧J s W) :=
 ⟨fun s X Y hs hb=>⟨h.below s X Y hs.1 hb,k.below s X Y hs.2 hb⟩,fun s X l o o' hs hB ho hb=>⟨h.book s X l o o' hs.1 hB ho hb,k.book s X l o o' hs.2 hB ho hb⟩⟩
theorem BookFrom.pure {β:Type} (B:Nat) (p:β→Prop):BookFrom B (fun s (_:World)=>p s):=⟨fun _ _ _ h _=>h,fun _ _ _ _ _ h _ _ _=>h⟩
theorem BookFrom.ex {β γ:Type} {B:Nat} {I:γ→β→World→Prop} (h:∀ g,BookFrom B (I g)):BookFrom B (fun s W=>∃ g,I g s W) :=
 ⟨fun s X Y hs hb=>by obtain ⟨g,hg⟩:=hs;exact ⟨g,(h g).below s X Y hg hb⟩,fun s X l o o' hs hB ho hb=>by obtain ⟨g,hg⟩:=hs;exact ⟨g,(h g).book s X l o o' hg hB ho hb⟩⟩
theorem not_cells_of_book {o:Obj} (h:isBook o=true):o.isCells=false:=by cases o<;>first|rfl|cases h
/-- What lies where it lay,as cells. -/
theorem BookFrom.cells {β:Type} (B:Nat) (f:β→Nat) (g:β→Obj) (hg:∀ s,(g s).isCells=true):BookFrom B (fun s W=>W.heap[f s]?=some (g s)) :=
 ⟨fun s X Y hs hb=>(hb.block _ (Array.getElem?_eq_some_iff.1 hs).1).trans hs,fun s X l o o' hs hB ho hb=>(World.putObj_heap_other (fun e=>by
  subst e
  rw [hs] at ho
  cases ho
  have:=not_cells_of_book hb
  rw [hg] at this
  cases this)).trans hs⟩
theorem BookFrom.boxed {β:Type} (B:Nat) (b:Nat) (t:TypeId) (f:β→Value):BookFrom B (fun s W=>Boxed W b t (f s)):=BookFrom.cells B (fun _=>b) _ (fun _=>rfl)
theorem grown_put {W:World} {l:Nat} {o' : Obj} : W.grownBy (W.putObj l o') (some l):=grownBy_putObj' W l o'
theorem BookFrom.belowB {β:Type} {B S:Nat} {w:World} (hS:S≤B) (hw:S≤w.heap.size):BookFrom B (fun (_:β) W=>Below S w W) :=
 ⟨fun s X Y hs hb=>⟨hb.os.trans hs.os,hb.tape.trans hs.tape,hb.output.trans hs.output,Nat.le_trans hs.size hb.size,fun k hk=>(hb.block k (by have:=hs.size;omega)).trans (hs.block k hk)⟩,fun s X l o o' hs hB ho hb=>hs.grown grown_put (Nat.le_trans hw hs.size) (fun k e=>by cases e;omega)⟩
theorem BookFrom.ke {β:Type} {B lo hi:Nat} {w:World} : BookFrom B (fun (_:β) W=>KE lo hi w W) :=
 ⟨fun s X Y hs hb=>hs.trans (KE.of_below hb),fun s X l o o' hs hB ho hb=>hs.trans (KE.putObj X l o' ho (not_cells_of_book hb))⟩
theorem BookFrom.kc {β:Type} {B:Nat} {w:World} : BookFrom B (fun (_:β) W=>KC w W) :=
 ⟨fun s X Y hs hb=>hs.trans (KC.of_below hb),fun s X l o o' hs hB ho hb=>hs.trans (KC.of_grown grown_put (fun o2 h2=>by rw [ho] at h2;cases h2;exact not_cells_of_book hb))⟩
theorem IM.At.book {W:World} {b:Nat} {es:List (Int × Value)} (h:IM.At W b es) {l:Nat} {o:Obj} (o' : Obj) (ho:W.heap[l]?=some o) (hb:isBook o=true):IM.At (W.putObj l o') b es :=
 h.kept grown_put (fun e=>by
  have e' : b=l:=by injection e
  subst e'
  obtain ⟨en,ck,hm,_⟩:=h
  rw [hm] at ho
  cases ho
  cases hb)
theorem BookFrom.at {β:Type} (B:Nat) (f:β→Nat) (g:β→List (Int × Value)):BookFrom B (fun s W=>IM.At W (f s) (g s)) :=
 ⟨fun s X Y hs hb=>hs.below hb hs.lt,fun s X l o o' hs hB ho hb=>hs.book o' ho hb⟩
/-- The body's word: book-keeping at or beyond B lies as it lay. -/
structure KB (B:Nat) (W W' : World):Prop where
 size:W.heap.size≤W'.heap.size
 same:∀ (k:Nat) (o:Obj),B≤k→W.heap[k]?=some o→isBook o=true→W'.heap[k]?=some o
theorem KB.refl (B:Nat) (W:World):KB B W W:=⟨Nat.le_refl _,fun _ _ _ h _=>h⟩
theorem KB.trans {B:Nat} {X Y Z:World} (h:KB B X Y) (k:KB B Y Z):KB B X Z:=⟨Nat.le_trans h.size k.size,fun i o hB hi ho=>k.same i o hB (h.same i o hB hi ho) ho⟩
theorem KB.of_below {B:Nat} {X Y:World} (h:Below X.heap.size X Y):KB B X Y:=⟨h.size,fun i o _ hi _=>(h.block i (Array.getElem?_eq_some_iff.1 hi).1).trans hi⟩
theorem KB.of_grown {B:Nat} {X Y:World} {b:Nat} (hg:X.grownBy Y (some b)) (hb:∀ o,X.heap[b]?=some o→isBook o=false):KB B X Y :=
 ⟨hg.size,fun i o _ hi ho=>(hg.block i (Array.getElem?_eq_some_iff.1 hi).1 (fun e=>by cases e;rw [hb o hi] at ho;cases ho)).trans hi⟩
theorem KB.of_at {B:Nat} {X Y:World} {b:Nat} {es:List (Int × Value)} (hg:X.grownBy Y (some b)) (h:IM.At X b es):KB B X Y :=
 .of_grown hg (fun o ho=>by obtain ⟨en,ck,hm,_⟩:=h;rw [hm] at ho;cases ho;rfl)
theorem KB.setCell {B:Nat} (X:World) (p:Addr) (v:Value) {cs:Array Value} {t:TypeId} {f:Nat × Nat} (h:X.heap[p.block]?=some (.cells cs t f)):KB B X (X.setCell p v) :=
 ⟨(KeepsWalks.setCell X p v).size,fun i o _ hi ho=>(Below.heap_setCell X p v i (fun e=>by subst e;rw [h] at hi;cases hi;cases ho)).trans hi⟩
theorem BookFrom.kb {β:Type} {B S:Nat} {w:World} (hw:w.heap.size≤B):BookFrom B (fun (_:β) W=>KB S w W) :=
 ⟨fun s X Y hs hb=>hs.trans (KB.of_below hb),fun s X l o o' hs hB ho hb=>⟨by have:=hs.size;simp [World.putObj];omega,fun k o2 hk h2 h3=>(World.putObj_heap_other (fun e=>by have:=(Array.getElem?_eq_some_iff.1 h2).1;omega)).trans (hs.same k o2 hk h2 h3)⟩⟩
/-- How the body of a round may be left. -/
def ownPostB {α:Type} (B:Nat) (Kp:World→World→Prop) (I:List α→World→Prop) (Ix:Code→List α→World→Prop) (xs:List α) (W:World):Exit→Act→World→Prop
 | .normal,_,W'=>KB B W W'∧Kp W W'∧I xs W'
 | .ret,_,W'=>KB B W W'∧Ix .ret xs W'
 | .exit id,_,W'=>KB B W W'∧Ix (.exit id) xs W'
 | .goto t,_,W'=>KB B W W'∧Ix (.goto t) xs W'
 | .panic _,_,_=>False
 | .outgrown,_,_=>False
/-- A loop whose measure stands in no slot. -/
theorem wpIn_loop_ghostB {F:Fence} {n:Nat} {P:Program} {Q:Exit→Act→World→Prop} {a:Act} {w:World} {c:Code} (I:Nat→Act→World→Prop) (n₀:Nat) (h₀:I n₀ a w)
  (round:∀ k a w,I k a w→c.wpIn F n P (Exit.then (fun a' w'=>∃ j,j<k∧I j a' w') Q) a w):(Code.loop c).wpIn F n P Q a w:=by
 refine wpIn_loop (fun a w=>∃ k,I k a w) (fun a w=>leastOf fun k=>I k a w) ⟨n₀,h₀⟩ ?_
 intro a w h
 obtain ⟨h1,h2⟩:=leastOf_spec h
 refine Code.wpIn_mono (fun e a' w' he=>?_) (round _ a w h1)
 cases e with
 | normal =>
  obtain ⟨j,hj,hI⟩:=he
  exact ⟨⟨j,hI⟩,Nat.lt_of_le_of_lt ((leastOf_spec ⟨j,hI⟩).2 j hI) hj⟩
 | _=>exact he
/-- An iterator that does what it should for whatever abides where memory grows. -/
def SeqB {α:Type} (F:Fence) (n:Nat) (P:Program) (g:Nat) (lb:Array Value) (encs:α→Array Value) (Kp:World→World→Prop) (S Sp:List α→Prop) (Nx:List α→α→Prop) (w:World):Prop :=
 ∀ (l:Nat) (J Jx:List α→World→Prop) (W:World),Below w.heap.size w W→(∀ s A B,J s A→Below A.heap.size A B→J s B) →
  (∀ pre x W1,J pre W1→Nx pre x→YieldAt F (n - 1) P l (encs x) W1 fun e W' =>
   (e=.returned (.bool true)∧J (pre++[x]) W'∧Kp W1 W')∨(e=.returned (.bool false)∧Jx (pre++[x]) W')) →
  J [] W →
  CallsIn F n P g (#[.func (.yield l) #[] #[]]++lb) W fun e W'=>(∃ v,e=.returned v)∧((∃ xs,S xs∧J xs W')∨(∃ pre,Sp pre∧Jx pre W'))
theorem SeqB.inRound {α:Type} {F:Fence} {n:Nat} {P:Program} {g:Nat} {lb:Array Value} {encs:α→Array Value} {Kp:World→World→Prop} {S Sp:List α→Prop} {Nx:List α→α→Prop} {w₀:World} (l:Nat)
  (h:SeqB F n P g lb encs Kp S Sp Nx w₀):SeqB (F.inRound l) n P g lb encs Kp S Sp Nx w₀:=h
variable {F:Fence} {n:Nat} {P:Program}
/-- **(L4),WHERE THE BODY IS TOLD OF ITS OWN LOOP's RECORD** (a loop within it wants that). -/
theorem wpIn_rangeFunc_H {α:Type} {g:Operand} {ps:Array Tmp} {assign body:Code} {Q:Exit→Act→World→Prop} {a:Act} {w:World}
  (hro:F.round=none) (h1:1≤n) {gf:Nat} {lb:Array Value} (hg:a.eval g=.func (.func gf) #[] lb) (hFg:F.fn gf) (eg:∀ args w,(callFunc gf args).run P w=.ok (.enter gf args) w)
  {encs:α→Array Value} {Kp:World→World→Prop} {S Sp:List α→Prop} {Nx:List α→α→Prop} {w0:World} (hseq:SeqB F (n - 1) P gf lb encs Kp S Sp Nx w0)
  (hKt:∀ {A B C:World},Kp A B→Kp B C→Kp A C) (hKb:∀ (W:World) (l:Nat) (o o' : Obj),w.heap.size≤l→W.heap[l]?=some o→isBook o=true→Kp W (W.putObj l o')) (hb0:Below w0.heap.size w0 w) (hps:∀ x,(encs x).size=ps.size)
  (I:List α→World→Prop) (Ix:Code→List α→World→Prop) (hI:BookFrom w.heap.size I) (hIx:∀ c,BookFrom w.heap.size (Ix c)) (h0:I [] w) (Ax:α→Act→World→Prop) (hAx:∀ x a',BookFrom w.heap.size (fun (_:Unit) W=>Ax x a' W))
  (hassign:∀ (l:Nat) (pre:List α) (x:α) (W:World) (K:Act→World→Prop),I pre W→(∀ a' W',KB w.heap.size W W'→Kp W W'→I pre W'→Ax x a' W'→K a' W') →
   assign.wpIn (F.inRound l) (n - 1 - 1) P (Exit.then K (fun _ _ _=>False)) { tmps:=(ps.zip (encs x)).foldl (fun t (p,v)=>t.setIfInBounds p v) a.tmps,defers:=[] } W)
  (hbody:∀ (l:Nat) (pre:List α) (x:α) (a' : Act) (W:World),w.heap.size≤l→(∃ r,W.heap[l]?=some (.loop r))→I pre W→Ax x a' W→Nx pre x→body.wpIn (F.inRound l) (n - 1 - 1) P (ownPostB w.heap.size Kp I Ix (pre++[x]) W) a' W)
  (hdone:∀ (D:Nat) (xs:List α) (W:World),w.heap.size≤D→S xs→I xs W→W.heap[D]?=some (.deferred (some []))→Q .normal { a with defers:={ target:=.collected D,args:=#[] }::a.defers } W)
  (hstop:∀ (D:Nat) (c:Code) (pre:List α) (W:World),w.heap.size≤D→Sp pre→Ix c pre W→W.heap[D]?=some (.deferred (some []))→c.wpIn F n P Q { a with defers:={ target:=.collected D,args:=#[] }::a.defers } W) :
  (Code.rangeFunc g ps assign body).wpIn F n P Q a w:=by
 refine wpIn_rangeFunc ?_
 intro fn hfn
 rw [hro]
 obtain ⟨rec,hrec⟩:∃ rec:LoopState→Option Code→Loop,rec=fun st pe=>{ state:=st,pending:=pe,fn,tmps:=a.tmps,params:=ps,assign,body,defers:=w.heap.size }:=⟨_,rfl⟩
 obtain ⟨W1,hW1⟩:∃ W1,(w.alloc (.deferred (some []))).alloc (.loop (rec .ready none))=W1:=⟨_,rfl⟩
 have hL1:W1.heap[w.heap.size+1]?=some (.loop (rec .ready none)):=by
  rw [← hW1];have:=World.alloc_heap_new (w.alloc (.deferred (some []))) (.loop (rec .ready none));rwa [World.size_alloc] at this
 have hK1:W1.heap[w.heap.size]?=some (.deferred (some [])):=by
  rw [← hW1];exact (Below.heap_alloc _ _ _ (by simp)).trans (World.alloc_heap_new w _)
 have hI1:I [] W1:=by rw [← hW1];exact hI.al (hI.al h0)
 have hb1:Below w0.heap.size w0 W1:=by
  rw [← hW1];exact hb0.trans ((((Below.refl _ w).alloc (Nat.le_refl _) _).alloc (by simp) _).mono hb0.size)
 refine ⟨w.heap.size+1,[{ target:=.collected w.heap.size,args:=#[] }],W1,{ target:=.fn (.func gf) lb,args:=#[.func (.yield (w.heap.size+1)) #[] #[]] },W1,gf,
  #[.func (.yield (w.heap.size+1)) #[] #[]]++lb,W1,?_,?_,?_,?_,fun _=>h1,?_⟩
 ·rw [← hW1,hrec];exact run_enterLoop_outer _ _ _ _ _
 ·simp only [resolve,hg]
  simp [go_sem]
 ·intro f' hf';simp [Target.leads] at hf';subst hf';exact hFg
 ·simp [invoke,go_sem,eg]
 ·-- THE ITERATOR's CONTRACT,AT THE CALLER's INVARIANT WITH THE TWO FACTS OF BOOK-KEEPING BESIDE IT
  refine (hseq (w.heap.size+1)
   (fun pre W=>I pre W∧W.heap[w.heap.size+1]?=some (.loop (rec .ready none))∧W.heap[w.heap.size]?=some (.deferred (some [])))
   (fun pre W=>∃ c,Ix c pre W∧W.heap[w.heap.size+1]?=some (.loop (rec .done (some c)))∧W.heap[w.heap.size]?=some (.deferred (some [])))
   W1 hb1
   (fun s A B hs hb=>⟨hI.below _ _ _ hs.1 hb,(hb.block _ (Array.getElem?_eq_some_iff.1 hs.2.1).1).trans hs.2.1,(hb.block _ (Array.getElem?_eq_some_iff.1 hs.2.2).1).trans hs.2.2⟩)
   ?_ ⟨hI1,hL1,hK1⟩).mono ?_
  ·-- ONE ROUND
   rintro pre x W ⟨hi,hl,hk⟩ hlen
   have hlt:w.heap.size+1<W.heap.size:=(Array.getElem?_eq_some_iff.1 hl).1
   have hy:=run_yield (P:=P) (args:=encs x) hl (by rw [hrec];exact hps x)
   rw [hrec] at hy
   refine ⟨fn,_,assign,body,hy,roundIn_of_wpIn hfn (hassign _ pre x W _ hi ?_)⟩
   clear hy
   intro a' Wa hkfa hkpa hia hax
   -- THE ASSIGN CODE MAY HAVE LAID BLOCKS (a loop variable that an inner function captures is boxed): the two blocks of book-keeping lie as they lay
   replace hl:=hkfa.same _ _ (by omega) hl rfl
   replace hk:=hkfa.same _ _ (Nat.le_refl _) hk rfl
   replace hlt:w.heap.size+1<Wa.heap.size:=(Array.getElem?_eq_some_iff.1 hl).1
   replace hi:=hia
   clear hia
   revert hkpa hkfa
   generalize W=Wb
   intro hkfa hkpa
   obtain ⟨W,rfl⟩:∃ W,W=Wa:=⟨_,rfl⟩
   refine ⟨_,run_beginRound hl (by rw [hrec]),?_⟩
   have hl2:(W.putObj (w.heap.size+1) (.loop { rec .ready none with state:=.busy })).heap[w.heap.size+1]?=some (.loop { rec .ready none with state:=.busy }):=World.putObj_heap_same hlt
   have hk2:(W.putObj (w.heap.size+1) (.loop { rec .ready none with state:=.busy })).heap[w.heap.size]?=some (.deferred (some [])):=(World.putObj_heap_other (by omega)).trans hk
   have hw2:Kp W (W.putObj (w.heap.size+1) (.loop { rec .ready none with state:=.busy })):=hKb _ _ _ _ (by omega) hl rfl
   refine wpIn_mono (hbody _ pre x a' _ (by omega) ⟨_,hl2⟩ (hI.book _ _ _ _ _ hi (by omega) hl rfl) ((hAx x a').book () _ _ _ _ hax (by omega) hl rfl) hlen) ?_
   have fin:∀ (jump:Option Code) (W3:World),KB w.heap.size (W.putObj (w.heap.size+1) (.loop { rec .ready none with state:=.busy })) W3 →
     (Instr.endRound (w.heap.size+1) jump).run P W3=.ok (.bool jump.isNone) (W3.putObj (w.heap.size+1) (.loop (rec (if jump.isNone then .ready else .done) jump))) ∧
     W3.heap[w.heap.size+1]?=some (.loop { rec .ready none with state:=.busy }) ∧
     (W3.putObj (w.heap.size+1) (.loop (rec (if jump.isNone then .ready else .done) jump))).heap[w.heap.size+1]?=some (.loop (rec (if jump.isNone then .ready else .done) jump)) ∧
     (W3.putObj (w.heap.size+1) (.loop (rec (if jump.isNone then .ready else .done) jump))).heap[w.heap.size]?=some (.deferred (some [])):=fun jump W3 hk3=>by
    have hl3:=hk3.same _ _ (by omega) hl2 rfl
    have:=run_endRound (P:=P) jump hl3
    rw [hrec] at this ⊢
    exact ⟨this,by rw [hrec] at hl3;exact hl3,World.putObj_heap_same (Array.getElem?_eq_some_iff.1 hl3).1,(World.putObj_heap_other (by omega)).trans (hk3.same _ _ (Nat.le_refl _) hk2 rfl)⟩
   rintro e a3 W3 hp
   cases e with
   | normal =>
    obtain ⟨hk3,hkp3,hi3⟩:=hp
    obtain ⟨hr,hl3,hl4,hk4⟩:=fin none W3 hk3
    exact ⟨_,_,hr,.inl ⟨rfl,⟨hI.book _ _ _ _ _ hi3 (by omega) hl3 rfl,hl4,hk4⟩,hKt hkpa (hKt (hKt hw2 hkp3) (hKb _ _ _ _ (by omega) hl3 rfl))⟩⟩
   | ret =>
    obtain ⟨hk3,hi3⟩:=hp
    obtain ⟨hr,hl3,hl4,hk4⟩:=fin (some .ret) W3 hk3
    exact ⟨_,_,hr,.inr ⟨rfl,.ret,(hIx _).book _ _ _ _ _ hi3 (by omega) hl3 rfl,hl4,hk4⟩⟩
   | exit id =>
    obtain ⟨hk3,hi3⟩:=hp
    obtain ⟨hr,hl3,hl4,hk4⟩:=fin (some (.exit id)) W3 hk3
    exact ⟨_,_,hr,.inr ⟨rfl,.exit id,(hIx _).book _ _ _ _ _ hi3 (by omega) hl3 rfl,hl4,hk4⟩⟩
   | goto t =>
    obtain ⟨hk3,hi3⟩:=hp
    obtain ⟨hr,hl3,hl4,hk4⟩:=fin (some (.goto t)) W3 hk3
    exact ⟨_,_,hr,.inr ⟨rfl,.goto t,(hIx _).book _ _ _ _ _ hi3 (by omega) hl3 rfl,hl4,hk4⟩⟩
   | panic ch=>exact hp.elim
   | outgrown=>exact hp.elim
  ·-- BEHIND THE ITERATOR
   rintro e W2 ⟨⟨v,rfl⟩,(⟨xs,hS,hi,hl,hk⟩|⟨pre,hSp,c,hi,hl,hk⟩)⟩
   ·exact ⟨none,_,by have:=run_endLoop (P:=P) hl (by rw [hrec];simp);rw [hrec] at this;exact this,hdone _ xs _ (Nat.le_refl _) hS (hI.book _ _ _ _ _ hi (by omega) hl rfl) ((World.putObj_heap_other (by omega)).trans hk)⟩
   ·exact ⟨some c,_,by have:=run_endLoop (P:=P) hl (by rw [hrec];simp);rw [hrec] at this;exact this,hstop _ c pre _ (Nat.le_refl _) hSp ((hIx c).book _ _ _ _ _ hi (by omega) hl rfl) ((World.putObj_heap_other (by omega)).trans hk)⟩

/-- **(L4) WITHIN A ROUND OF LOOP l₀.** -/
theorem wpIn_rangeFunc_N {α:Type} {g:Operand} {ps:Array Tmp} {assign body:Code} {Q:Exit→Act→World→Prop} {a:Act} {w:World}
  {l₀:Nat} {r₀:Loop} (hro:F.round=some l₀) (hl₀:w.heap[l₀]?=some (.loop r₀)) (h1:1≤n) {gf:Nat} {lb:Array Value} (hg:a.eval g=.func (.func gf) #[] lb) (hFg:F.fn gf) (eg:∀ args w,(callFunc gf args).run P w=.ok (.enter gf args) w)
  {encs:α→Array Value} {Kp:World→World→Prop} {S Sp:List α→Prop} {Nx:List α→α→Prop} {w0:World} (hseq:SeqB F (n - 1) P gf lb encs Kp S Sp Nx w0)
  (hKt:∀ {A B C:World},Kp A B→Kp B C→Kp A C) (hKb:∀ (W:World) (l:Nat) (o o' : Obj),w.heap.size≤l→W.heap[l]?=some o→isBook o=true→Kp W (W.putObj l o')) (hb0:Below w0.heap.size w0 w) (hps:∀ x,(encs x).size=ps.size)
  (I:List α→World→Prop) (Ix:Code→List α→World→Prop) (hI:BookFrom w.heap.size I) (hIx:∀ c,BookFrom w.heap.size (Ix c)) (h0:I [] w) (Ax:α→Act→World→Prop) (hAx:∀ x a',BookFrom w.heap.size (fun (_:Unit) W=>Ax x a' W))
  (hassign:∀ (l:Nat) (pre:List α) (x:α) (W:World) (K:Act→World→Prop),I pre W→(∀ a' W',KB w.heap.size W W'→Kp W W'→I pre W'→Ax x a' W'→K a' W') →
   assign.wpIn (F.inRound l) (n - 1 - 1) P (Exit.then K (fun _ _ _=>False)) { tmps:=(ps.zip (encs x)).foldl (fun t (p,v)=>t.setIfInBounds p v) a.tmps,defers:=[] } W)
  (hbody:∀ (l:Nat) (pre:List α) (x:α) (a' : Act) (W:World),w.heap.size≤l→(∃ r,W.heap[l]?=some (.loop r))→I pre W→Ax x a' W→Nx pre x→body.wpIn (F.inRound l) (n - 1 - 1) P (ownPostB w.heap.size Kp I Ix (pre++[x]) W) a' W)
  (hdone:∀ (xs:List α) (W:World),S xs→I xs W→Q .normal a W)
  (hstop:∀ (c:Code) (pre:List α) (W:World),Sp pre→Ix c pre W→c.wpIn F n P Q a W) :
  (Code.rangeFunc g ps assign body).wpIn F n P Q a w:=by
 refine wpIn_rangeFunc ?_
 intro fn hfn
 rw [hro]
 obtain ⟨rec,hrec⟩:∃ rec:LoopState→Option Code→Loop,rec=fun st pe=>{ state:=st,pending:=pe,fn,tmps:=a.tmps,params:=ps,assign,body,defers:=r₀.defers }:=⟨_,rfl⟩
 obtain ⟨W1,hW1⟩:∃ W1,w.alloc (.loop (rec .ready none))=W1:=⟨_,rfl⟩
 have hL1:W1.heap[w.heap.size]?=some (.loop (rec .ready none)):=by rw [← hW1];exact World.alloc_heap_new w _
 have hI1:I [] W1:=by rw [← hW1];exact hI.al h0
 have hb1:Below w0.heap.size w0 W1:=by
  rw [← hW1];exact hb0.trans (((Below.refl _ w).alloc (Nat.le_refl _) _).mono hb0.size)
 refine ⟨w.heap.size,[],W1,{ target:=.fn (.func gf) lb,args:=#[.func (.yield w.heap.size) #[] #[]] },W1,gf,
  #[.func (.yield w.heap.size) #[] #[]]++lb,W1,?_,?_,?_,?_,fun _=>h1,?_⟩
 ·rw [← hW1,hrec];exact run_enterLoop_inner hl₀ _ _ _ _ _
 ·simp only [resolve,hg]
  simp [go_sem]
 ·intro f' hf';simp [Target.leads] at hf';subst hf';exact hFg
 ·simp [invoke,go_sem,eg]
 ·have hnw:∀ {A B:World} {row:Option Nat},(∀ r,row=some r→W1.heap.size≤r∧∃ o:Obj,A.heap[r]?=some o∧o.isWalk=true)→(∀ r,row=some r→w.heap.size≤r∧∃ o:Obj,A.heap[r]?=some o∧o.isCells=false) :=
   fun hr r e=>by obtain ⟨hB,o,ho,hw⟩:=hr r e;exact ⟨by rw [← hW1] at hB;simp at hB;omega,o,ho,Obj.not_cells_of_walk hw⟩
  refine (hseq w.heap.size
   (fun pre W=>I pre W∧W.heap[w.heap.size]?=some (.loop (rec .ready none)))
   (fun pre W=>∃ c,Ix c pre W∧W.heap[w.heap.size]?=some (.loop (rec .done (some c))))
   W1 hb1
   (fun s A B hs hb=>⟨hI.below _ _ _ hs.1 hb,(hb.block _ (Array.getElem?_eq_some_iff.1 hs.2).1).trans hs.2⟩)
   ?_ ⟨hI1,hL1⟩).mono ?_
  ·-- ONE ROUND
   rintro pre x W ⟨hi,hl⟩ hlen
   have hlt:w.heap.size<W.heap.size:=(Array.getElem?_eq_some_iff.1 hl).1
   have hy:=run_yield (P:=P) (args:=encs x) hl (by rw [hrec];exact hps x)
   rw [hrec] at hy
   refine ⟨fn,_,assign,body,hy,roundIn_of_wpIn hfn (hassign _ pre x W _ hi ?_)⟩
   clear hy
   intro a' Wa hkfa hkpa hia hax
   replace hl:=hkfa.same _ _ (Nat.le_refl _) hl rfl
   replace hlt:w.heap.size<Wa.heap.size:=(Array.getElem?_eq_some_iff.1 hl).1
   replace hi:=hia
   clear hia
   revert hkpa hkfa
   generalize W=Wb
   intro hkfa hkpa
   obtain ⟨W,rfl⟩:∃ W,W=Wa:=⟨_,rfl⟩
   refine ⟨_,run_beginRound hl (by rw [hrec]),?_⟩
   have hl2:(W.putObj w.heap.size (.loop { rec .ready none with state:=.busy })).heap[w.heap.size]?=some (.loop { rec .ready none with state:=.busy }):=World.putObj_heap_same hlt
   have hw2:Kp W (W.putObj w.heap.size (.loop { rec .ready none with state:=.busy })):=hKb _ _ _ _ (Nat.le_refl _) hl rfl
   refine wpIn_mono (hbody _ pre x a' _ (Nat.le_refl _) ⟨_,hl2⟩ (hI.book _ _ _ _ _ hi (Nat.le_refl _) hl rfl) ((hAx x a').book () _ _ _ _ hax (Nat.le_refl _) hl rfl) hlen) ?_
   have fin:∀ (jump:Option Code) (W3:World),KB w.heap.size (W.putObj w.heap.size (.loop { rec .ready none with state:=.busy })) W3 →
     (Instr.endRound w.heap.size jump).run P W3=.ok (.bool jump.isNone) (W3.putObj w.heap.size (.loop (rec (if jump.isNone then .ready else .done) jump))) ∧
     W3.heap[w.heap.size]?=some (.loop { rec .ready none with state:=.busy }) ∧
     (W3.putObj w.heap.size (.loop (rec (if jump.isNone then .ready else .done) jump))).heap[w.heap.size]?=some (.loop (rec (if jump.isNone then .ready else .done) jump)):=fun jump W3 hk3=>by
    have hl3:=hk3.same _ _ (Nat.le_refl _) hl2 rfl
    have:=run_endRound (P:=P) jump hl3
    rw [hrec] at this ⊢
    exact ⟨this,by rw [hrec] at hl3;exact hl3,World.putObj_heap_same (Array.getElem?_eq_some_iff.1 hl3).1⟩
   rintro e a3 W3 hp
   cases e with
   | normal =>
    obtain ⟨hk3,hkp3,hi3⟩:=hp
    obtain ⟨hr,hl3,hl4⟩:=fin none W3 hk3
    exact ⟨_,_,hr,.inl ⟨rfl,⟨hI.book _ _ _ _ _ hi3 (Nat.le_refl _) hl3 rfl,hl4⟩,hKt hkpa (hKt (hKt hw2 hkp3) (hKb _ _ _ _ (Nat.le_refl _) hl3 rfl))⟩⟩
   | ret =>
    obtain ⟨hk3,hi3⟩:=hp
    obtain ⟨hr,hl3,hl4⟩:=fin (some .ret) W3 hk3
    exact ⟨_,_,hr,.inr ⟨rfl,.ret,(hIx _).book _ _ _ _ _ hi3 (Nat.le_refl _) hl3 rfl,hl4⟩⟩
   | exit id =>
    obtain ⟨hk3,hi3⟩:=hp
    obtain ⟨hr,hl3,hl4⟩:=fin (some (.exit id)) W3 hk3
    exact ⟨_,_,hr,.inr ⟨rfl,.exit id,(hIx _).book _ _ _ _ _ hi3 (Nat.le_refl _) hl3 rfl,hl4⟩⟩
   | goto t =>
    obtain ⟨hk3,hi3⟩:=hp
    obtain ⟨hr,hl3,hl4⟩:=fin (some (.goto t)) W3 hk3
    exact ⟨_,_,hr,.inr ⟨rfl,.goto t,(hIx _).book _ _ _ _ _ hi3 (Nat.le_refl _) hl3 rfl,hl4⟩⟩
   | panic ch=>exact hp.elim
   | outgrown=>exact hp.elim
  ·-- BEHIND THE ITERATOR
   rintro e W2 ⟨⟨v,rfl⟩,(⟨xs,hS,hi,hl⟩|⟨pre,hSp,c,hi,hl⟩)⟩
   ·exact ⟨none,_,by have:=run_endLoop (P:=P) hl (by rw [hrec];simp);rw [hrec] at this;exact this,hdone xs _ hS (hI.book _ _ _ _ _ hi (Nat.le_refl _) hl rfl)⟩
   ·exact ⟨some c,_,by have:=run_endLoop (P:=P) hl (by rw [hrec];simp);rw [hrec] at this;exact this,hstop c pre _ hSp ((hIx c).book _ _ _ _ _ hi (Nat.le_refl _) hl rfl)⟩

end Go
namespace Go.Proofs.YtnkgbnbbmcoiiaaGreat.S
open Go.RowKit Go.Shelf Go.IM Go.Proofs.YtnkgbnbbmcoiiaaGreatW.PrintWords Go.Proofs.YtnkgbnbbmcoiiaaGreatW.PrintLast Go.Proofs.YtnkgbnbbmcoiiaaGreatW.PrintMore
set_option linter.unusedVariables false
attribute [local go_sem] Oper.semAt_some
/-- The first k of n - 1,n - 2,.. -/
def downs (n k:Nat):List Nat:=(List.range k).map fun j=>n - 1 - j
theorem downs_length (n k:Nat):(downs n k).length=k:=by simp [downs]
theorem downs_succ (n k:Nat):downs n (k+1)=downs n k++[n - 1 - k]:=by unfold downs;rw [List.range_succ,List.map_append];rfl
/-- What bb's iterator reads. -/
structure bbF (wr:World) (Bs:Nat) (A:Option Addr) (c:Nat) (xs:List S50) (bg:Nat→Option Addr × Nat):Prop where mk ::
 box:wr.cell? ⟨Bs,0,none⟩=some (.slice A xs.length c)
 rows:BlksAt wr A xs bg
def bbV (xs:List S50) (bg:Nat→Option Addr × Nat) (i:Nat):Array Value:=#[.int .i64 (i:Int),blkV (rd_T50 xs (i:Int)) (bg i)]
set_option maxRecDepth 100000 in
set_option maxHeartbeats 4000000 in
theorem bb1_in (n:Nat) (hn:1≤n) (l Bs:Nat) (A:Option Addr) (c:Nat) (xs:List S50) (bg:Nat→Option Addr × Nat) (hlen:xs.length≤1000000000000)
  (Kp:World→World→Prop) (hKt:∀ {A B C:World},Kp A B→Kp B C→Kp A C) (hKb:∀ {A B:World},Below A.heap.size A B→Kp A B)
  (J Jx:List Nat→World→Prop) (hJ:∀ s A B,J s A→Below A.heap.size A B→J s B)
  (hY:∀ pre x W,J pre W→(∃ k,k<xs.length∧pre=downs xs.length k∧x=xs.length - 1 - k)→YieldAt Fence.wide (n - 1) Tryz.prog l (bbV xs bg x) W fun e W' =>
   (e=.returned (.bool true)∧J (pre++[x]) W'∧Kp W W')∨(e=.returned (.bool false)∧Jx (pre++[x]) W'))
  (W:World) (hF:∀ wr,Kp W wr→bbF wr Bs A c xs bg) (h0:J [] W) :
  CallsIn Fence.wide n Tryz.prog 106 #[.func (.yield l) #[] #[],.pointer (some ⟨Bs,0,none⟩)] W fun e W'=>(∃ v,e=.returned v) ∧
   ((∃ ys,ys=downs xs.length xs.length∧J ys W')∨(∃ pre,(∃ k,k<xs.length∧pre=downs xs.length (k+1))∧Jx pre W')):=by
 have hu43:=Tryz.underlying50
 have hu45:=Tryz.underlying45
 have hu41:=Tryz.underlying48
 have hbox:=(hF W (hKb (Below.refl _ _))).box
 have HF:=ak_ hF
 have HY:=ak_ hY
 have HJ:=ak_ hJ
 have HKT:=ak_ @hKt
 have HKB:=ak_ @hKb
 clear hF hY hJ hKt hKb
 refine callsIn_of_wp Tryz.func106 rfl trivial ?_ rfl
 simp only [Tryz.ntmps106,List.size_toArray,List.length_cons,List.length_nil,Nat.reduceAdd,Nat.reduceSub,Array.replicate_succ,Array.replicate_zero,List.push_toArray,List.append_toArray,List.nil_append,List.cons_append]
 gi_wp2
 clear hbox
 gi_loopw [3] (fun i wr=>∃ k:Nat,k≤xs.length∧i=.int .i64 ((xs.length:Int) - 1 - (k:Int))∧Aside0 (J (downs xs.length k) wr)∧Aside0 (Kp W wr))
  (fun i _=>(intOf i+1).toNat)
 case atStart=>exact ⟨0,Nat.zero_le _,by first|go_num|(simp;done),⟨h0⟩,⟨HKB.out (Below.refl _ _)⟩⟩
 case round =>
  obtain ⟨k,hk,rfl,HJs,HK⟩:=hrel
  by_cases hlt:k<xs.length
  ·obtain ⟨j,hj⟩:∃ j:Nat,xs.length=k+j+1:=⟨xs.length - (k+1),by omega⟩
   have hz:((xs.length:Int) - 1 - (k:Int))=(j:Int):=by omega
   rw [hz]
   have b1:decide ((0:Int)≤(j:Int))=true:=decide_eq_true (by omega)
   have hjl:j<xs.length:=by omega
   have hzz:(j:Int)<(xs.length:Int):=by omega
   have HFr:=ak_ (HF.out wr HK.out)
   have hbox:=HFr.out.box
   have hop:=HFr.out.rows j hjl
   obtain ⟨⟨ad,eA,k0,k1,k2,k3,k4⟩,_,_⟩:=hop
   obtain ⟨fn,tmps,assign,body,hy,hR⟩:=HY.out (downs xs.length k) j wr HJs.out ⟨k,hlt,rfl,by omega⟩
   have HDN:Aside0 (downs xs.length (k+1)=downs xs.length k++[j]):=⟨by rw [downs_succ,show xs.length - 1 - k=j by omega]⟩
   have HKL:Aside0 (k<xs.length):=⟨hlt⟩
   have HZJ:Aside0 ((xs.length:Int) - 1 - ((k+1:Nat):Int)=(j:Int) - 1):=⟨by omega⟩
   unfold bbV blkV at hy
   generalize rd_T50 xs (j:Int)=x at k0 k1 k2 k3 k4 hy
   generalize bg j=g at k0 k1 k2 k3 k4 hy
   have HR:=ak_ hR
   clear hR hj hz hlt hk
   subst eA
   gi_wp2
   refine HR.out.mono ?_
   rintro e W3 (⟨rfl,hJ3,hk3⟩|⟨rfl,hJx3⟩)
   ·have HK3:=ak_ (HKT.out HK.out hk3)
    have HJ3:=ak_ hJ3
    clear hy hk3 hJ3 hbox k0 k1 k2 k3 k4
    gi_wp2
    go_roundw
    case rel=>exact ⟨k+1,HKL.out,by rw [HZJ.out],⟨by rw [HDN.out];exact HJ3.out⟩,HK3⟩
    case measure=>(simp [intOf];try omega)
   ·gi_wp2
    refine bodyPost_ret (results_none rfl _ _ _) rfl ?_
    exact ⟨⟨_,rfl⟩,.inr ⟨_,⟨k,HKL.out,HDN.out.symm⟩,hJx3⟩⟩
  ·obtain rfl:k=xs.length:=by omega
   have hz:((xs.length:Int) - 1 - (xs.length:Int))=-1:=by omega
   rw [hz]
   gi_wp2
   go_end0
   exact ⟨⟨_,rfl⟩,.inl ⟨_,rfl,HJs.out⟩⟩
theorem bb_seq (n:Nat) (hn:1≤n) (Bs:Nat) (A:Option Addr) (c:Nat) (xs:List S50) (bg:Nat→Option Addr × Nat) (hlen:xs.length≤1000000000000) (Kp:World→World→Prop) (hKt:∀ {A B C:World},Kp A B→Kp B C→Kp A C) (hKb:∀ {A B:World},Below A.heap.size A B→Kp A B) (w:World)
  (hF:∀ W wr,Below w.heap.size w W→Kp W wr→bbF wr Bs A c xs bg) :
  SeqB Fence.wide n Tryz.prog 106 #[.pointer (some ⟨Bs,0,none⟩)] (bbV xs bg) Kp (fun ys=>ys=downs xs.length xs.length) (fun pre=>∃ k,k<xs.length∧pre=downs xs.length (k+1)) (fun pre x=>∃ k,k<xs.length∧pre=downs xs.length k∧x=xs.length - 1 - k) w:=fun l J Jx W hW hJ hY h0 =>
 bb1_in n hn l Bs A c xs bg hlen Kp hKt hKb J Jx hJ hY W (fun wr hk=>hF W wr hW hk) h0
set_option maxHeartbeats 2000000 in
theorem bb_in (n:Nat) (A:Option Addr) (len cap:Nat) (w:World) :
  CallsIn Fence.wide n Tryz.prog 80 #[.slice A len cap] w fun e w'=>e=.returned (.func (.func 106) #[] #[.pointer (some ⟨w.heap.size,0,none⟩)])∧w'=w.alloc (.cells #[.slice A len cap] 22):=by
 refine callsIn_of_wp Tryz.func80 rfl trivial ?_ rfl
 simp only [Tryz.ntmps80,List.size_toArray,List.length_cons,List.length_nil,Nat.reduceAdd,Nat.reduceSub,Array.replicate_succ,Array.replicate_zero,List.push_toArray,List.append_toArray,List.nil_append,List.cons_append]
 gi_wp2
 go_ret
 exact ⟨rfl,rfl⟩
/-- What bo's iterator reads. -/
structure boF (wr:World) (Bs:Nat) (A:Option Addr) (c:Nat) (xs:List S45) (bg:Nat→Option Addr × Nat):Prop where mk ::
 box:wr.cell? ⟨Bs,0,none⟩=some (.slice A xs.length c)
 rows:OpsAt wr A xs bg
def boV (xs:List S45) (bg:Nat→Option Addr × Nat) (i:Nat):Array Value:=#[.int .i64 (i:Int),opV (rd_T45 xs (i:Int)) (bg i)]
set_option maxRecDepth 100000 in
set_option maxHeartbeats 4000000 in
theorem bo1_in (n:Nat) (hn:1≤n) (l Bs:Nat) (A:Option Addr) (c:Nat) (xs:List S45) (bg:Nat→Option Addr × Nat) (hlen:xs.length≤1000000000000)
  (Kp:World→World→Prop) (hKt:∀ {A B C:World},Kp A B→Kp B C→Kp A C) (hKb:∀ {A B:World},Below A.heap.size A B→Kp A B)
  (J Jx:List Nat→World→Prop) (hJ:∀ s A B,J s A→Below A.heap.size A B→J s B)
  (hY:∀ pre x W,J pre W→(∃ k,k<xs.length∧pre=downs xs.length k∧x=xs.length - 1 - k)→YieldAt Fence.wide (n - 1) Tryz.prog l (boV xs bg x) W fun e W' =>
   (e=.returned (.bool true)∧J (pre++[x]) W'∧Kp W W')∨(e=.returned (.bool false)∧Jx (pre++[x]) W'))
  (W:World) (hF:∀ wr,Kp W wr→boF wr Bs A c xs bg) (h0:J [] W) :
  CallsIn Fence.wide n Tryz.prog 107 #[.func (.yield l) #[] #[],.pointer (some ⟨Bs,0,none⟩)] W fun e W'=>(∃ v,e=.returned v) ∧
   ((∃ ys,ys=downs xs.length xs.length∧J ys W')∨(∃ pre,(∃ k,k<xs.length∧pre=downs xs.length (k+1))∧Jx pre W')):=by
 have hu43:=Tryz.underlying50
 have hu45:=Tryz.underlying45
 have hu41:=Tryz.underlying48
 have hbox:=(hF W (hKb (Below.refl _ _))).box
 have HF:=ak_ hF
 have HY:=ak_ hY
 have HJ:=ak_ hJ
 have HKT:=ak_ @hKt
 have HKB:=ak_ @hKb
 clear hF hY hJ hKt hKb
 refine callsIn_of_wp Tryz.func107 rfl trivial ?_ rfl
 simp only [Tryz.ntmps107,List.size_toArray,List.length_cons,List.length_nil,Nat.reduceAdd,Nat.reduceSub,Array.replicate_succ,Array.replicate_zero,List.push_toArray,List.append_toArray,List.nil_append,List.cons_append]
 gi_wp2
 clear hbox
 gi_loopw [3] (fun i wr=>∃ k:Nat,k≤xs.length∧i=.int .i64 ((xs.length:Int) - 1 - (k:Int))∧Aside0 (J (downs xs.length k) wr)∧Aside0 (Kp W wr))
  (fun i _=>(intOf i+1).toNat)
 case atStart=>exact ⟨0,Nat.zero_le _,by first|go_num|(simp;done),⟨h0⟩,⟨HKB.out (Below.refl _ _)⟩⟩
 case round =>
  obtain ⟨k,hk,rfl,HJs,HK⟩:=hrel
  by_cases hlt:k<xs.length
  ·obtain ⟨j,hj⟩:∃ j:Nat,xs.length=k+j+1:=⟨xs.length - (k+1),by omega⟩
   have hz:((xs.length:Int) - 1 - (k:Int))=(j:Int):=by omega
   rw [hz]
   have b1:decide ((0:Int)≤(j:Int))=true:=decide_eq_true (by omega)
   have hjl:j<xs.length:=by omega
   have hzz:(j:Int)<(xs.length:Int):=by omega
   have HFr:=ak_ (HF.out wr HK.out)
   have hbox:=HFr.out.box
   have hop:=HFr.out.rows j hjl
   obtain ⟨⟨ad,eA,k0,k1,k2,k3,k4,k5⟩,_,_⟩:=hop
   obtain ⟨fn,tmps,assign,body,hy,hR⟩:=HY.out (downs xs.length k) j wr HJs.out ⟨k,hlt,rfl,by omega⟩
   have HDN:Aside0 (downs xs.length (k+1)=downs xs.length k++[j]):=⟨by rw [downs_succ,show xs.length - 1 - k=j by omega]⟩
   have HKL:Aside0 (k<xs.length):=⟨hlt⟩
   have HZJ:Aside0 ((xs.length:Int) - 1 - ((k+1:Nat):Int)=(j:Int) - 1):=⟨by omega⟩
   unfold boV opV at hy
   generalize rd_T45 xs (j:Int)=x at k0 k1 k2 k3 k4 k5 hy
   generalize bg j=g at k0 k1 k2 k3 k4 k5 hy
   have HR:=ak_ hR
   clear hR hj hz hlt hk
   subst eA
   gi_wp2
   refine HR.out.mono ?_
   rintro e W3 (⟨rfl,hJ3,hk3⟩|⟨rfl,hJx3⟩)
   ·have HK3:=ak_ (HKT.out HK.out hk3)
    have HJ3:=ak_ hJ3
    clear hy hk3 hJ3 hbox k0 k1 k2 k3 k4 k5
    gi_wp2
    go_roundw
    case rel=>exact ⟨k+1,HKL.out,by rw [HZJ.out],⟨by rw [HDN.out];exact HJ3.out⟩,HK3⟩
    case measure=>(simp [intOf];try omega)
   ·gi_wp2
    refine bodyPost_ret (results_none rfl _ _ _) rfl ?_
    exact ⟨⟨_,rfl⟩,.inr ⟨_,⟨k,HKL.out,HDN.out.symm⟩,hJx3⟩⟩
  ·obtain rfl:k=xs.length:=by omega
   have hz:((xs.length:Int) - 1 - (xs.length:Int))=-1:=by omega
   rw [hz]
   gi_wp2
   go_end0
   exact ⟨⟨_,rfl⟩,.inl ⟨_,rfl,HJs.out⟩⟩
theorem bo_seq (n:Nat) (hn:1≤n) (Bs:Nat) (A:Option Addr) (c:Nat) (xs:List S45) (bg:Nat→Option Addr × Nat) (hlen:xs.length≤1000000000000) (Kp:World→World→Prop) (hKt:∀ {A B C:World},Kp A B→Kp B C→Kp A C) (hKb:∀ {A B:World},Below A.heap.size A B→Kp A B) (w:World)
  (hF:∀ W wr,Below w.heap.size w W→Kp W wr→boF wr Bs A c xs bg) :
  SeqB Fence.wide n Tryz.prog 107 #[.pointer (some ⟨Bs,0,none⟩)] (boV xs bg) Kp (fun ys=>ys=downs xs.length xs.length) (fun pre=>∃ k,k<xs.length∧pre=downs xs.length (k+1)) (fun pre x=>∃ k,k<xs.length∧pre=downs xs.length k∧x=xs.length - 1 - k) w:=fun l J Jx W hW hJ hY h0 =>
 bo1_in n hn l Bs A c xs bg hlen Kp hKt hKb J Jx hJ hY W (fun wr hk=>hF W wr hW hk) h0
set_option maxHeartbeats 2000000 in
theorem bo_in (n:Nat) (A:Option Addr) (len cap:Nat) (w:World) :
  CallsIn Fence.wide n Tryz.prog 81 #[.slice A len cap] w fun e w'=>e=.returned (.func (.func 107) #[] #[.pointer (some ⟨w.heap.size,0,none⟩)])∧w'=w.alloc (.cells #[.slice A len cap] 46):=by
 refine callsIn_of_wp Tryz.func81 rfl trivial ?_ rfl
 simp only [Tryz.ntmps81,List.size_toArray,List.length_cons,List.length_nil,Nat.reduceAdd,Nat.reduceSub,Array.replicate_succ,Array.replicate_zero,List.push_toArray,List.append_toArray,List.nil_append,List.cons_append]
 gi_wp2
 go_ret
 exact ⟨rfl,rfl⟩
end Go.Proofs.YtnkgbnbbmcoiiaaGreat.S
