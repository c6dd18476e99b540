import Derived.Maps.RangeWalk
import Derived.Deep.Draws
import Derived.Maps.OwnIn
import Derived.Sort.MapsRangeIn
import Derived.RangeFuncWrites
import Derived.RangeFuncNested
import Derived.RangeFuncLeaves
import Derived.RangeFuncBox
import Derived.RangeFuncKeeps
import Derived.Test.YtnkgbnbbmcoiiaaGreatS0
namespace Go.IM
open Go.ChangeMaps (setBlock heap_setBlock_same heap_setBlock_other)
open Go.MapKept
set_option linter.unusedVariables false
set_option linter.unusedSimpArgs false
/-! ### Maps keyed by int,as lists of pairs -/
/-- What a key has. -/
def lk:List (Int × Value)→Int→Option Value
 | [],_=>none
 | p::es,k=>if k=p.1 then some p.2 else lk es k
/-- A store. -/
def st:List (Int × Value)→Int→Value→List (Int × Value)
 | [],k,v=>[(k,v)]
 | p::es,k,v=>if k=p.1 then (k,v)::es else p::st es k v
/-- A delete. -/
def dl:List (Int × Value)→Int→List (Int × Value)
 | [],_=>[]
 | p::es,k=>if k=p.1 then es else p::dl es k
def fnd:List (Int × Value)→Int→Nat→Option (Nat × Value)
 | [],_,_=>none
 | p::es,k,i=>if k=p.1 then some (i,p.2) else fnd es k (i+1)
def KV (en:List MapEntry) (es:List (Int × Value)):Prop:=en.map (fun e=>(e.key,e.val))=es.map (fun p=>(Value.int .i64 p.1,p.2))
def borns (en:Array MapEntry):List Nat:=en.toList.map (·.born)
/-- Block b is a map that holds es. -/
def At (w:World) (b:Nat) (es:List (Int × Value)):Prop :=
 ∃ (en:Array MapEntry) (clock:Nat),w.heap[b]?=some (.map en clock)∧KV en.toList es∧(borns en).Pairwise (·<·)∧∀ s∈borns en,s<clock
theorem KV.nil_inv {es:List (Int × Value)} (h:KV [] es):es=[]:=by
 cases es with
 | nil=>rfl
 | cons p es=>simp [KV] at h
theorem KV.cons_inv {e:MapEntry} {en:List MapEntry} {es:List (Int × Value)} (h:KV (e::en) es):∃ p es',es=p::es'∧e.key=.int .i64 p.1∧e.val=p.2∧KV en es':=by
 cases es with
 | nil=>simp [KV] at h
 | cons p es =>
  simp only [KV,List.map_cons,List.cons.injEq,Prod.mk.injEq] at h
  exact ⟨p,es,rfl,h.1.1,h.1.2,h.2⟩
theorem KV.len {en:List MapEntry} {es:List (Int × Value)} (h:KV en es):en.length=es.length:=by
 have:=congrArg List.length h
 simpa using this
theorem KV.get {en:List MapEntry} {es:List (Int × Value)} (h:KV en es) {i:Nat} {p:Int × Value} (hp:es[i]?=some p):∃ e,en[i]?=some e∧e.key=.int .i64 p.1∧e.val=p.2:=by
 have:=congrArg (·[i]?) h
 simp only [List.getElem?_map,hp,Option.map_some] at this
 cases he:en[i]? with
 | none=>rw [he] at this;simp at this
 | some e =>
  rw [he] at this
  simp at this
  exact ⟨e,rfl,this.1,this.2⟩
theorem KV.get' {en:List MapEntry} {es:List (Int × Value)} (h:KV en es) {i:Nat} {e:MapEntry} (he:en[i]?=some e):∃ p,es[i]?=some p∧e.key=.int .i64 p.1∧e.val=p.2:=by
 have hl:=h.len
 have hi:i<es.length:=by rw [← hl];exact (List.getElem?_eq_some_iff.1 he).1
 obtain ⟨e',he',h1,h2⟩:=h.get (List.getElem?_eq_getElem hi)
 rw [he] at he'
 cases he'
 exact ⟨_,List.getElem?_eq_getElem hi,h1,h2⟩
theorem map_erase {α β:Type} (f:α→β):∀ (l:List α) (j:Nat),(l.eraseIdx j).map f=(l.map f).eraseIdx j
 | [],_=>by simp
 | _::_,0=>rfl
 | x::l,j+1=>by simp [map_erase f l j]
theorem KV.eraseIdx {en:List MapEntry} {es:List (Int × Value)} (h:KV en es) (i:Nat):KV (en.eraseIdx i) (es.eraseIdx i):=by
 unfold KV at h ⊢
 rw [map_erase,map_erase,h]
theorem KV.append {en en' : List MapEntry} {es es' : List (Int × Value)} (h:KV en es) (h' : KV en' es'):KV (en++en') (es++es'):=by
 unfold KV at h h' ⊢
 rw [List.map_append,List.map_append,h,h']
theorem fnd_none {k:Int} : ∀ {es:List (Int × Value)} {i:Nat},fnd es k i=none→lk es k=none∧dl es k=es∧∀ v,st es k v=es++[(k,v)]
 | [],i,_=>⟨rfl,rfl,fun _=>rfl⟩
 | p::es,i,h=>by
  unfold fnd at h
  split at h
  ·cases h
  ·rename_i hk
   obtain ⟨h1,h2,h3⟩:=fnd_none h
   exact ⟨by rw [lk,if_neg hk,h1],by rw [dl,if_neg hk,h2],fun v=>by rw [st,if_neg hk,h3];rfl⟩
theorem fnd_some {k:Int} : ∀ {es:List (Int × Value)} {i j:Nat} {u:Value},fnd es k i=some (j,u)→∃ m,j=i+m∧es[m]?=some (k,u)∧lk es k=some u∧dl es k=es.eraseIdx m∧∀ v,st es k v=es.set m (k,v)
 | [],i,j,u,h=>by cases h
 | p::es,i,j,u,h=>by
  unfold fnd at h
  split at h
  ·rename_i hk
   simp only [Option.some.injEq,Prod.mk.injEq] at h
   obtain ⟨rfl,rfl⟩:=h
   exact ⟨0,rfl,by simp [hk],by rw [lk,if_pos hk],by rw [dl,if_pos hk];rfl,fun v=>by rw [st,if_pos hk];rfl⟩
  ·rename_i hk
   obtain ⟨m,h0,h1,h2,h3,h4⟩:=fnd_some h
   exact ⟨m+1,by omega,by simpa using h1,by rw [lk,if_neg hk,h2],by rw [dl,if_neg hk,h3];rfl,fun v=>by rw [st,if_neg hk,h4];rfl⟩
theorem findNow_kv (k:Int):∀ {en:List MapEntry} {es:List (Int × Value)} (i:Nat),KV en es→Instr.findNow (.int .i64) (.int .i64 k) en i=some (fnd es k i)
 | [],es,i,h=>by
  rw [h.nil_inv]
  rfl
 | e::en,es,i,h=>by
  obtain ⟨p,es',rfl,hk,hv,ht⟩:=h.cons_inv
  unfold Instr.findNow fnd
  have e1:Instr.sameNow (.int .i64) (.int .i64 k) e.key=some (k == p.1):=by rw [hk];simp [Instr.sameNow]
  rw [e1]
  by_cases hkp:k=p.1
  ·have:(k == p.1)=true:=by simp [hkp]
   rw [this,if_pos hkp,hv]
  ·have:(k == p.1)=false:=by simp [hkp]
   rw [this,if_neg hkp]
   exact findNow_kv k (i+1) ht
section
variable {P:Program} {w:World} {b:Nat} {es:List (Int × Value)} {T K E:TypeId}
theorem runFind (hK:P.underlying K=some (.int .i64)) (w:World) {en:List MapEntry} (h:KV en es) (k:Int):(Instr.findKey K (.int .i64 k) en).run P w=.ok (fnd es k 0) w:=by
 simp [Instr.findKey,run_underlying hK,findNow_kv k 0 h,Result.andThen]
theorem run_check (hK:P.underlying K=some (.int .i64)) (w:World) (c:Bool) (k:Int):(Instr.checkKey c 10000 K (.int .i64 k)).run P w=.ok () w:=by
 exact MapKept.run_checkKey (n:=9999) hK (by simp [IsKey]) c
theorem At.lt (h:At w b es):b<w.heap.size:=by
 obtain ⟨en,clock,hb,_⟩:=h
 exact (Array.getElem?_eq_some_iff.1 hb).1
theorem At.kept {w' : World} {row:Option Nat} (h:At w b es) (hg:w.grownBy w' row) (hne:some b≠row):At w' b es:=by
 have hlt:=h.lt
 obtain ⟨en,clock,hb,r⟩:=h
 exact ⟨en,clock,(hg.block b hlt hne).trans hb,r⟩
theorem At.below {w' : World} {B:Nat} (h:At w b es) (hB:RowKit.Below B w w') (hb:b<B):At w' b es:=by
 obtain ⟨en,clock,hm,r⟩:=h
 exact ⟨en,clock,(hB.block b hb).trans hm,r⟩
theorem At.alloc (h:At w b es) (o:Obj):At (w.alloc o) b es:=h.kept (World.grownBy_alloc w o none) (by simp)
theorem At.drewN (h:At w b es) (n:Nat):At (w.drewN n) b es:=h
theorem At.setCell (h:At w b es) {a:Addr} (ha:b≠a.block) (u:Value):At (w.setCell a u) b es:=by
 obtain ⟨en,clock,hb,r⟩:=h
 exact ⟨en,clock,by rw [RowKit.Below.heap_setCell _ _ _ _ ha];exact hb,r⟩
theorem At.made (w:World):At (w.alloc (.map #[] 0)) w.heap.size [] :=
 ⟨#[],0,(MapKept.heap_alloc w _).1,rfl,by simp [borns],by simp [borns]⟩
theorem At.not_cells (h:At w b es) {cs:Array Value} {t:TypeId} {f:Nat × Nat} {g:Nat} (hg:w.heap[g]?=some (.cells cs t f)):g≠b:=by
 rintro rfl
 obtain ⟨en,clock,hb,_⟩:=h
 rw [hg] at hb
 cases hb
theorem At.lookup (h:At w b es) (hT:P.underlying T=some (.map K E)) (hK:P.underlying K=some (.int .i64)) {z:Value} (hz:(zeroValue E).run P w=.ok z w) (k:Int) (c:Bool) :
  (Instr.lookup T (.map (some b)) (.int .i64 k) c).run P w=.ok (if c then .tuple #[(lk es k).getD z,.bool (lk es k).isSome] else (lk es k).getD z) w:=by
 obtain ⟨en,clock,hb,hkv,_,_⟩:=h
 cases hf:fnd es k 0 with
 | none =>
  obtain ⟨h1,_⟩:=fnd_none hf
  rw [h1]
  simp [Instr.lookup,run_underlying hT,MapKept.run_getObj_map hb,Result.andThen,run_check hK,runFind hK w hkv,hf,hz]
 | some r =>
  obtain ⟨j,u⟩:=r
  obtain ⟨m,_,_,h2,_⟩:=fnd_some hf
  rw [h2]
  simp [Instr.lookup,run_underlying hT,MapKept.run_getObj_map hb,Result.andThen,run_check hK,runFind hK w hkv,hf]
theorem At.len (h:At w b es) (hT:P.underlying T=some (.map K E)) (ty:TypeId):(Builtin.len_ #[T] ty #[.map (some b)]).run P w=.ok (.int .i64 es.length) w:=by
 obtain ⟨en,clock,hb,hkv,_⟩:=h
 have:en.size=es.length:=by rw [← hkv.len];simp
 simp [Builtin.len_,run_underlying hT,MapKept.run_getObj_map hb,goInt,Result.andThen,this]
theorem grown_setBlock {en:Array MapEntry} {clock:Nat} (hb:w.heap[b]?=some (.map en clock)) (o:Obj):w.grownBy (setBlock w b o) (some b) :=
 ⟨rfl,rfl,rfl,by simp [setBlock],fun i _ hi=>heap_setBlock_other hb _ (fun e=>hi (by rw [e]))⟩
theorem borns_modify (en:Array MapEntry) (i:Nat) (f:MapEntry→MapEntry) (hf:∀ e,(f e).born=e.born):borns (en.modify i f)=borns en:=by
 unfold borns
 rw [Array.toList_modify]
 apply List.ext_getElem?
 intro j
 simp only [List.getElem?_map,List.getElem?_modify]
 cases en.toList[j]?<;>simp
 split<;>simp [hf]
theorem At.update (h:At w b es) (hT:P.underlying T=some (.map K E)) (hK:P.underlying K=some (.int .i64)) (k:Int) (v:Value) :
  ∃ w',(Instr.mapUpdate T (.map (some b)) (.int .i64 k) v).run P w=.ok () w'∧At w' b (st es k v)∧w.grownBy w' (some b)∧w'.heap.size=w.heap.size:=by
 obtain ⟨en,clock,hb,hkv,hp,hlt⟩:=h
 cases hf:fnd es k 0 with
 | none =>
  obtain ⟨_,_,h3⟩:=fnd_none hf
  refine ⟨setBlock w b (.map (en.push { key:=.int .i64 k,val:=v,born:=clock }) (clock+1)),?_,⟨_,_,heap_setBlock_same hb _,?_,?_,?_⟩,grown_setBlock hb _,by simp [setBlock]⟩
  ·simp only [Instr.mapUpdate,Sem.run_bind,run_underlying hT,MapKept.run_getObj_map hb,Result.andThen,run_check hK,runFind hK w hkv,hf,MapKept.run_setObj_map _ hb]
   rfl
  ·rw [h3,Array.toList_push]
   exact hkv.append rfl
  ·unfold borns at hp hlt ⊢
   rw [Array.toList_push,List.map_append,List.pairwise_append]
   exact ⟨hp,by simp,fun x hx y hy=>by simp at hy;rw [hy];exact hlt x hx⟩
  ·intro s hs
   unfold borns at hs hlt
   rw [Array.toList_push,List.map_append,List.mem_append] at hs
   rcases hs with hs|hs
   ·have:=hlt s hs;omega
   ·simp at hs;omega
 | some r =>
  obtain ⟨j,u⟩:=r
  obtain ⟨m,h0,h1,_,_,h4⟩:=fnd_some hf
  obtain rfl:j=m:=by omega
  obtain ⟨e,he,hek,hev⟩:=hkv.get h1
  have he' : en[j]?=some e:=by rw [← Array.getElem?_toList];exact he
  refine ⟨setBlock w b (.map (en.modify j fun e=>{ e with key:=.int .i64 k,val:=v }) clock),?_,⟨_,_,heap_setBlock_same hb _,?_,?_,?_⟩,grown_setBlock hb _,by simp [setBlock]⟩
  ·have hst:(Instr.keyThatStays (.int .i64 k) (.int .i64 k)).run P w=.ok (.int .i64 k) w:=by
    have:Instr.sameBits 10000 (.int .i64 k) (.int .i64 k)=true:=by
     have:(10000:Nat)=9999+1:=rfl
     rw [this];simp [Instr.sameBits]
    unfold Instr.keyThatStays
    rw [if_pos this]
    rfl
   simp only [Instr.mapUpdate,Sem.run_bind,run_underlying hT,MapKept.run_getObj_map hb,Result.andThen,run_check hK,runFind hK w hkv,hf,he',Option.map_some,Option.getD_some,hek,hst,MapKept.run_setObj_map _ hb]
   rfl
  ·rw [h4,Array.toList_modify]
   unfold KV at hkv ⊢
   apply List.ext_getElem?
   intro i
   have hi:=congrArg (·[i]?) hkv
   simp only [List.getElem?_map] at hi
   simp only [List.getElem?_map,List.getElem?_modify,List.getElem?_set]
   by_cases hij:j=i
   ·subst hij
    rw [he]
    have hjl:j<es.length:=(List.getElem?_eq_some_iff.1 h1).1
    simp [hjl]
   ·rw [if_neg hij]
    cases hen:en.toList[i]? with
    | none=>rw [hen] at hi;simpa [hij] using hi
    | some e'=>rw [hen] at hi;simpa [hij] using hi
  ·rw [borns_modify en j (fun e=>{ e with key:=.int .i64 k,val:=v }) (fun _=>rfl)];exact hp
  ·rw [borns_modify en j (fun e=>{ e with key:=.int .i64 k,val:=v }) (fun _=>rfl)];exact hlt
theorem borns_erase (en:Array MapEntry) (i:Nat):borns (en.eraseIdxIfInBounds i)=(borns en).eraseIdx i:=by
 unfold borns
 rw [Array.toList_eraseIdxIfInBounds,map_erase]
theorem At.delete (h:At w b es) (hT:P.underlying T=some (.map K E)) (hK:P.underlying K=some (.int .i64)) (k:Int) (ty:TypeId) :
  ∃ w',(Builtin.delete_ #[T,K] ty #[.map (some b),.int .i64 k]).run P w=.ok (.tuple #[]) w'∧At w' b (dl es k)∧w.grownBy w' (some b)∧w'.heap.size=w.heap.size:=by
 obtain ⟨en,clock,hb,hkv,hp,hlt⟩:=h
 cases hf:fnd es k 0 with
 | none =>
  obtain ⟨_,h2,_⟩:=fnd_none hf
  refine ⟨setBlock w b (.map en clock),?_,⟨_,_,heap_setBlock_same hb _,by rw [h2];exact hkv,hp,hlt⟩,grown_setBlock hb _,by simp [setBlock]⟩
  simp [Builtin.delete_,Sem.run_bind,run_underlying hT,MapKept.run_getObj_map hb,Result.andThen,run_check hK,runFind hK w hkv,hf,MapKept.run_setObj_map _ hb,setBlock]
 | some r =>
  obtain ⟨j,u⟩:=r
  obtain ⟨m,h0,h1,_,h3,_⟩:=fnd_some hf
  obtain rfl:j=m:=by omega
  refine ⟨setBlock w b (.map (en.eraseIdxIfInBounds j) clock),?_,⟨_,_,heap_setBlock_same hb _,?_,?_,?_⟩,grown_setBlock hb _,by simp [setBlock]⟩
  ·simp [Builtin.delete_,Sem.run_bind,run_underlying hT,MapKept.run_getObj_map hb,Result.andThen,run_check hK,runFind hK w hkv,hf,MapKept.run_setObj_map _ hb,setBlock]
  ·rw [h3,Array.toList_eraseIdxIfInBounds]
   exact hkv.eraseIdx j
  ·rw [borns_erase];exact hp.sublist (List.eraseIdx_sublist _ _)
  ·rw [borns_erase];exact fun s hs=>hlt s ((List.eraseIdx_sublist _ _).subset hs)
/-! ### Ranging -/
/-- A loop over the map in block b is under way: block r is its iterator;left: what is still to come,in the map's order. -/
def Rng (w:World) (b r:Nat) (es left:List (Int × Value)):Prop :=
 ∃ (en:Array MapEntry) (clock since:Nat) (seen:Array Nat) (c0:Nat),w.heap[b]?=some (.map en clock)∧KV en.toList es∧(borns en).Pairwise (·<·)∧(∀ s∈borns en,s<since)∧since≤clock ∧
  w.heap[r]?=some (.mapIter (some b) since seen c0)∧since≤c0∧KV (leftOf en seen).toList left
theorem Rng.at (h:∃ left r,Rng w b r es left):At w b es:=by
 obtain ⟨left,r,en,clock,since,seen,c0,hb,hkv,hp,hlt,hsc,_⟩:=h
 exact ⟨en,clock,hb,hkv,hp,fun s hs=>Nat.lt_of_lt_of_le (hlt s hs) hsc⟩
theorem Rng.at' {r:Nat} {left:List (Int × Value)} (h:Rng w b r es left):At w b es:=Rng.at ⟨left,r,h⟩
theorem Rng.lt_r {r:Nat} {left:List (Int × Value)} (h:Rng w b r es left):r<w.heap.size:=by
 obtain ⟨en,clock,since,seen,c0,hb,hkv,hp,hlt,hsc,hr,_⟩:=h
 exact (Array.getElem?_eq_some_iff.1 hr).1
theorem Rng.ne {r:Nat} {left:List (Int × Value)} (h:Rng w b r es left):b≠r:=by
 obtain ⟨en,clock,since,seen,c0,hb,hkv,hp,hlt,hsc,hr,_⟩:=h
 rintro rfl
 rw [hb] at hr
 cases hr
theorem Rng.left_eq {r:Nat} {left:List (Int × Value)} (h:Rng w b r es left):w.rangeLeft b r=left.length:=by
 obtain ⟨en,clock,since,seen,c0,hb,hkv,hp,hlt,hsc,hr,_,hl⟩:=h
 simp only [World.rangeLeft,hb,hr]
 rw [← hl.len]
 simp
theorem Rng.kept {r:Nat} {left:List (Int × Value)} {w' : World} {row:Option Nat} (h:Rng w b r es left) (hg:w.grownBy w' row) (hb' : some b≠row) (hr' : some r≠row):Rng w' b r es left:=by
 have hlr:=h.lt_r
 have hlb:=h.at'.lt
 obtain ⟨en,clock,since,seen,c0,hb,hkv,hp,hlt,hsc,hr,rest⟩:=h
 exact ⟨en,clock,since,seen,c0,(hg.block b hlb hb').trans hb,hkv,hp,hlt,hsc,(hg.block r hlr hr').trans hr,rest⟩
theorem Rng.setCell {r:Nat} {left:List (Int × Value)} (h:Rng w b r es left) {a:Addr} (hb' : b≠a.block) (hr' : r≠a.block) (u:Value):Rng (w.setCell a u) b r es left:=by
 obtain ⟨en,clock,since,seen,c0,hb,hkv,hp,hlt,hsc,hr,rest⟩:=h
 exact ⟨en,clock,since,seen,c0,by rw [RowKit.Below.heap_setCell _ _ _ _ hb'];exact hb,hkv,hp,hlt,hsc,by rw [RowKit.Below.heap_setCell _ _ _ _ hr'];exact hr,rest⟩
theorem Rng.not_cells {r:Nat} {left:List (Int × Value)} (h:Rng w b r es left) {cs:Array Value} {t:TypeId} {f:Nat × Nat} {g:Nat} (hg:w.heap[g]?=some (.cells cs t f)):g≠b∧g≠r:=by
 refine ⟨h.at'.not_cells hg,?_⟩
 obtain ⟨en,clock,since,seen,c0,hb,hkv,hp,hlt,hsc,hr,rest⟩:=h
 rintro rfl
 rw [hg] at hr
 cases hr
theorem At.range (h:At w b es) (hT:P.underlying T=some (.map K E)) :
  ∃ w',(Instr.range T (.map (some b))).run P w=.ok (.pointer (some ⟨w.heap.size,0,none⟩)) w'∧Rng w' b w.heap.size es es∧w.grownBy w' none∧w'.heap.size=w.heap.size+1:=by
 have hlt0:=h.lt
 obtain ⟨en,clock,hb,hkv,hp,hlt⟩:=h
 refine ⟨w.alloc (.mapIter (some b) clock #[] clock),?_,⟨en,clock,clock,#[],clock,?_,hkv,hp,hlt,Nat.le_refl _,(MapKept.heap_alloc w _).1,Nat.le_refl _,?_⟩,World.grownBy_alloc w _ none,World.size_alloc _ _⟩
 ·simp only [Instr.range,Sem.run_bind,run_underlying hT,MapKept.run_getObj_map hb,Result.andThen]
  rfl
 ·exact ((World.grownBy_alloc w (.mapIter (some b) clock #[] clock) none).block b hlt0 (by simp)).trans hb
 ·have:leftOf en #[]=en:=by unfold leftOf;simp
  rw [this]
  exact hkv
theorem eraseIdx_filter_born:∀ (l:List MapEntry) (j:Nat) (e:MapEntry),(l.map (·.born)).Nodup→l[j]?=some e→l.filter (fun x=>x.born != e.born)=l.eraseIdx j
 | [],j,e,_,h=>by simp at h
 | x::l,0,e,hn,h=>by
  simp only [List.getElem?_cons_zero,Option.some.injEq] at h
  subst h
  rw [List.map_cons,List.nodup_cons] at hn
  rw [List.filter_cons,if_neg (by simp)]
  refine (List.filter_eq_self.2 fun y hy=>?_)
  simp only [bne_iff_ne]
  rintro he
  exact hn.1 (he▸List.mem_map_of_mem hy)
 | x::l,j+1,e,hn,h=>by
  rw [List.map_cons,List.nodup_cons] at hn
  simp only [List.getElem?_cons_succ] at h
  have hx:(x.born != e.born)=true:=by
   simp only [bne_iff_ne]
   rintro he
   exact hn.1 (he▸List.mem_map_of_mem (List.mem_of_getElem? h))
  rw [List.filter_cons,if_pos hx,eraseIdx_filter_born l j e hn.2 h]
  rfl
theorem leftOf_push (en:Array MapEntry) (seen:Array Nat) (j:Nat) (e:MapEntry) (hn:(borns en).Pairwise (·<·)) (he:(leftOf en seen).toList[j]?=some e):(leftOf en (seen.push e.born)).toList=(leftOf en seen).toList.eraseIdx j:=by
 have hsub:(leftOf en seen).toList=en.toList.filter (fun x=>!seen.contains x.born):=by unfold leftOf;simp
 have hnd:((leftOf en seen).toList.map (·.born)).Nodup:=by
  rw [hsub]
  have h1:(borns en).Nodup:=hn.imp (fun h=>Nat.ne_of_lt h)
  exact h1.sublist ((List.filter_sublist).map _)
 rw [← eraseIdx_filter_born _ j e hnd he,hsub,List.filter_filter]
 unfold leftOf
 rw [Array.toList_filter]
 apply List.filter_congr
 intro x _
 rw [Array.contains_push]
 have hc:(x.born == e.born)=(e.born == x.born):=by rw [Bool.eq_iff_iff];simp only [beq_iff_eq];exact eq_comm
 cases h1:seen.contains x.born<;>cases h2:(e.born == x.born)<;>simp [bne,hc,h2]
theorem Rng.next {r:Nat} {left:List (Int × Value)} (h:Rng w b r es left) (ty:TypeId) :
  (left=[]∧(Instr.next (.pointer (some ⟨r,0,none⟩)) false ty).run P w=.ok (.tuple #[.bool false]) w) ∨
  ∃ j p w',left[j]?=some p∧(Instr.next (.pointer (some ⟨r,0,none⟩)) false ty).run P w=.ok (.tuple #[.bool true,.int .i64 p.1,p.2]) w'∧Rng w' b r es (left.eraseIdx j) ∧
   w.grownBy w' (some r)∧w'.heap.size=w.heap.size∧(Instr.entry (.pointer (some ⟨r,0,none⟩))).run P w'=.ok (.tuple #[.int .i64 p.1,p.2]) w':=by
 have hne:=h.ne
 obtain ⟨en,clock,since,seen,c0,hb,hkv,hp,hlt,hsc,hr,hc0,hl⟩:=h
 have hold:∀ x∈en.toList,x.born<since:=fun x hx=>hlt _ (List.mem_map_of_mem hx)
 have hnd:(en.toList.map (·.born)).Nodup:=by have h1:(borns en).Nodup:=hp.imp (fun h=>Nat.ne_of_lt h);exact h1
 rcases run_next_at (P:=P) w ty r b since c0 seen en clock hr hb hold hc0 with ⟨h0,hrun⟩|⟨e,he,w1,hw1,hrun⟩
 ·left
  refine ⟨?_,hrun⟩
  have:=hl.len
  simp [h0] at this
  exact List.eq_nil_of_length_eq_zero this.symm
 ·right
  obtain ⟨j,hj⟩:=List.mem_iff_getElem?.1 he
  obtain ⟨p,hpj,hk,hv⟩:=hl.get' hj
  have hg1:w.grownBy w1 none:=by
   rcases hw1 with rfl|rfl
   ·exact ⟨rfl,rfl,rfl,Nat.le_refl _,fun _ _ _=>rfl⟩
   ·exact ⟨rfl,rfl,rfl,Nat.le_refl _,fun _ _ _=>rfl⟩
  have hs1:w1.heap=w.heap:=by rcases hw1 with rfl|rfl<;>rfl
  have hr1:w1.heap[r]?=some (.mapIter (some b) since seen c0):=by rw [hs1];exact hr
  have hb1:w1.heap[b]?=some (.map en clock):=by rw [hs1];exact hb
  have hrl:r<w1.heap.size:=(Array.getElem?_eq_some_iff.1 hr1).1
  have hr2:(setBlock w1 r (.mapIter (some b) since (seen.push e.born) clock)).heap[r]?=some (.mapIter (some b) since (seen.push e.born) clock):=by simp [setBlock,hrl]
  have hb2:(setBlock w1 r (.mapIter (some b) since (seen.push e.born) clock)).heap[b]?=some (.map en clock):=by
   simp only [setBlock,Array.getElem?_setIfInBounds]
   rw [if_neg (Ne.symm hne)]
   exact hb1
  have hemem:e∈en.toList:=by
   unfold leftOf at he
   simp at he ⊢
   exact he.1
  refine ⟨j,p,_,hpj,by rw [hrun,hk,hv],⟨en,clock,since,seen.push e.born,clock,hb2,hkv,hp,hlt,hsc,hr2,hsc,?_⟩,?_,by simp [setBlock,hs1],?_⟩
  ·rw [leftOf_push en seen j e hp hj]
   exact hl.eraseIdx j
  ·refine ⟨?_,?_,?_,by simp [setBlock,hs1],fun i hi hne=>?_⟩
   ·exact hg1.os
   ·exact hg1.tape
   ·exact hg1.output
   ·simp only [setBlock,Array.getElem?_setIfInBounds]
    rw [if_neg (fun e=>hne (by rw [e])),hs1]
  ·have:=run_entry_at (P:=P) _ r b since seen en clock e hr2 hb2 hemem hnd
   rw [this,hk,hv]
theorem leftOf_erase {en:Array MapEntry} {seen:Array Nat} {m:Nat} {e:MapEntry} (he:en.toList[m]?=some e) (hs:seen.contains e.born=true):(leftOf (en.eraseIdxIfInBounds m) seen).toList=(leftOf en seen).toList:=by
 unfold leftOf
 rw [Array.toList_filter,Array.toList_filter,Array.toList_eraseIdxIfInBounds]
 generalize en.toList=l at he
 induction l generalizing m with
 | nil=>simp at he
 | cons x l ih =>
  cases m with
  | zero =>
   simp only [List.getElem?_cons_zero,Option.some.injEq] at he
   subst he
   rw [List.eraseIdx_zero,List.tail_cons,List.filter_cons_of_neg (by simpa using hs)]
  | succ m =>
   rw [List.eraseIdx_cons_succ,List.filter_cons,List.filter_cons,ih (by simpa using he)]
/-- A delete,in a loop,of a key that has come. -/
theorem Rng.delete {r:Nat} {left:List (Int × Value)} (h:Rng w b r es left) (hT:P.underlying T=some (.map K E)) (hK:P.underlying K=some (.int .i64)) (k:Int) (hk:∀ p∈left,p.1≠k) (ty:TypeId) :
  ∃ w',(Builtin.delete_ #[T,K] ty #[.map (some b),.int .i64 k]).run P w=.ok (.tuple #[]) w'∧Rng w' b r (dl es k) left∧w.grownBy w' (some b)∧w'.heap.size=w.heap.size:=by
 have hne:=h.ne
 obtain ⟨en,clock,since,seen,c0,hb,hkv,hp,hlt,hsc,hr,hc0,hl⟩:=h
 have hr' : ∀ o,(setBlock w b o).heap[r]?=some (.mapIter (some b) since seen c0):=fun o=>(heap_setBlock_other hb _ (Ne.symm hne)).trans hr
 cases hf:fnd es k 0 with
 | none =>
  obtain ⟨_,h2,_⟩:=fnd_none hf
  refine ⟨setBlock w b (.map en clock),?_,⟨_,_,since,seen,c0,heap_setBlock_same hb _,by rw [h2];exact hkv,hp,hlt,hsc,hr' _,hc0,hl⟩,grown_setBlock hb _,by simp [setBlock]⟩
  simp [Builtin.delete_,Sem.run_bind,run_underlying hT,MapKept.run_getObj_map hb,Result.andThen,run_check hK,runFind hK w hkv,hf,MapKept.run_setObj_map _ hb,setBlock]
 | some r' =>
  obtain ⟨j,u⟩:=r'
  obtain ⟨m,h0,h1,_,h3,_⟩:=fnd_some hf
  obtain rfl:j=m:=by omega
  obtain ⟨e,he,hek,hev⟩:=hkv.get h1
  refine ⟨setBlock w b (.map (en.eraseIdxIfInBounds j) clock),?_,⟨_,_,since,seen,c0,heap_setBlock_same hb _,?_,?_,?_,hsc,hr' _,hc0,?_⟩,grown_setBlock hb _,by simp [setBlock]⟩
  ·simp [Builtin.delete_,Sem.run_bind,run_underlying hT,MapKept.run_getObj_map hb,Result.andThen,run_check hK,runFind hK w hkv,hf,MapKept.run_setObj_map _ hb,setBlock]
  ·rw [h3,Array.toList_eraseIdxIfInBounds]
   exact hkv.eraseIdx j
  ·rw [borns_erase];exact hp.sublist (List.eraseIdx_sublist _ _)
  ·rw [borns_erase];exact fun s hs=>hlt s ((List.eraseIdx_sublist _ _).subset hs)
  ·rw [leftOf_erase he]
   ·exact hl
   ·apply Classical.byContradiction
    intro hs
    have hs:seen.contains e.born=false:=by simpa using hs
    have hmem:e∈(leftOf en seen).toList:=by
     unfold leftOf
     simp only [Array.toList_filter,List.mem_filter]
     exact ⟨List.mem_of_getElem? he,by rw [hs];rfl⟩
    obtain ⟨i,hi⟩:=List.mem_iff_getElem?.1 hmem
    obtain ⟨p,hp',hpk,_⟩:=hl.get' hi
    rw [hek] at hpk
    injection hpk with _ hpk
    exact hk p (List.mem_of_getElem? hp') hpk.symm
end
/-! ### At the operation -/
section
variable {P:Program} (w:World) {ops:Array Oper} {rest:List Oper} {o:Oper} {a:Act} {Q:Exit→Act→World→Prop}
theorem wpl_lookup (hg:o.guard=none) (m x:Operand) (T:TypeId) (c:Bool) (hop:o.op=Op.lookup T m x c) (K E:TypeId) (hT:P.underlying T=some (.map K E)) (hK:P.underlying K=some (.int .i64)) (z:Value) (hz:(zeroValue E).run P w=.ok z w)
  (b:Nat) (es:List (Int × Value)) (hm:a.eval m=.map (some b)) (h:At w b es) (k:Int) (hx:a.eval x=.int .i64 k)
  (hQ:wpList P ops Q rest (a.put o.dst (if c then .tuple #[(lk es k).getD z,.bool (lk es k).isSome] else (lk es k).getD z)) w):wpList P ops Q (o::rest) a w:=by
 refine wpList_plain hg fun K' hK'=>?_
 unfold Oper.wp
 simp only [execOp,hop,hm,hx,Sem.run_bind,h.lookup hT hK hz k c,Result.andThen]
 exact hK' _ _ hQ
theorem wpl_update (hg:o.guard=none) (m x v:Operand) (T:TypeId) (hop:o.op=Op.mapUpdate T m x v) (K E:TypeId) (hT:P.underlying T=some (.map K E)) (hK:P.underlying K=some (.int .i64))
  (b:Nat) (es:List (Int × Value)) (hm:a.eval m=.map (some b)) (h:At w b es) (k:Int) (hx:a.eval x=.int .i64 k) (u:Value) (hv:a.eval v=u)
  (hQ:∀ w',At w' b (st es k u)→w.grownBy w' (some b)→w'.heap.size=w.heap.size→wpList P ops Q rest (a.put o.dst undef) w'):wpList P ops Q (o::rest) a w:=by
 refine wpList_plain hg fun K' hK'=>?_
 obtain ⟨w',hrun,h1,h2,h3⟩:=h.update hT hK k u
 unfold Oper.wp
 simp [execOp,hop,hm,hx,hv,hrun,Result.andThen]
 exact hK' _ _ (hQ w' h1 h2 h3)
theorem wpl_delete (hg:o.guard=none) (m x:Operand) (T K:TypeId) (hop:o.op=Op.call { callee:=Callee.builtin Builtin.delete,args:=#[m,x],argTypes:=#[T,K] }) (E:TypeId) (hT:P.underlying T=some (.map K E)) (hK:P.underlying K=some (.int .i64))
  (b:Nat) (es:List (Int × Value)) (hm:a.eval m=.map (some b)) (h:At w b es) (k:Int) (hx:a.eval x=.int .i64 k)
  (hQ:∀ w',At w' b (dl es k)→w.grownBy w' (some b)→w'.heap.size=w.heap.size→wpList P ops Q rest (a.put o.dst (.tuple #[])) w'):wpList P ops Q (o::rest) a w:=by
 refine wpList_plain hg fun K' hK'=>?_
 obtain ⟨w',hrun,h1,h2,h3⟩:=h.delete hT hK k o.type
 unfold Oper.wp
 simp [execOp,hop,resolve,invoke,builtin,hm,hx,hrun,Result.andThen]
 exact hK' _ _ (hQ w' h1 h2 h3)
theorem wpl_len (hg:o.guard=none) (m:Operand) (T:TypeId) (hop:o.op=Op.call { callee:=Callee.builtin Builtin.len,args:=#[m],argTypes:=#[T] }) (K E:TypeId) (hT:P.underlying T=some (.map K E))
  (b:Nat) (es:List (Int × Value)) (hm:a.eval m=.map (some b)) (h:At w b es) (hQ:wpList P ops Q rest (a.put o.dst (.int .i64 es.length)) w):wpList P ops Q (o::rest) a w:=by
 refine wpList_plain hg fun K' hK'=>?_
 unfold Oper.wp
 simp [execOp,hop,resolve,invoke,builtin,hm,h.len hT o.type,Result.andThen]
 exact hK' _ _ hQ
theorem wpl_range (hg:o.guard=none) (m:Operand) (T:TypeId) (hop:o.op=Op.range T m) (K E:TypeId) (hT:P.underlying T=some (.map K E)) (b:Nat) (es:List (Int × Value)) (hm:a.eval m=.map (some b)) (h:At w b es)
  (hQ:∀ w',Rng w' b w.heap.size es es→w.grownBy w' none→w'.heap.size=w.heap.size+1→wpList P ops Q rest (a.put o.dst (.pointer (some ⟨w.heap.size,0,none⟩))) w'):wpList P ops Q (o::rest) a w:=by
 refine wpList_plain hg fun K' hK'=>?_
 obtain ⟨w',hrun,h1,h2,h3⟩:=h.range hT
 unfold Oper.wp
 simp [execOp,hop,hm,hrun,Result.andThen]
 exact hK' _ _ (hQ w' h1 h2 h3)
theorem wpl_next {β:Type} (hg:o.guard=none) (it:Operand) (hop:o.op=Op.next it false) (b r:Nat) (es left:List (Int × Value)) (hit:a.eval it=.pointer (some ⟨r,0,none⟩)) (h:Rng w b r es left) (mk:β→Value) (inv:∀ p∈left,∃ c,p.2=mk c)
  (hDone:left=[]→wpList P ops Q rest (a.put o.dst (.tuple #[.bool false])) w)
  (hMore:∀ (j:Nat) (k:Int) (c:β) (w' : World),left[j]?=some (k,mk c)→Rng w' b r es (left.eraseIdx j)→(left.eraseIdx j).length<left.length→w.grownBy w' (some r)→w'.heap.size=w.heap.size →
   (Instr.entry (.pointer (some ⟨r,0,none⟩))).run P w'=.ok (.tuple #[.int .i64 k,mk c]) w'→wpList P ops Q rest (a.put o.dst (.tuple #[.bool true,.int .i64 k,mk c])) w'):wpList P ops Q (o::rest) a w:=by
 refine wpList_plain hg fun K' hK'=>?_
 unfold Oper.wp
 rcases h.next (P:=P) o.type with ⟨h0,hrun⟩|⟨j,p,w',hj,hrun,h1,h2,h3,hen⟩
 ·simp [execOp,hop,hit,hrun,Result.andThen]
  exact hK' _ _ (hDone h0)
 ·obtain ⟨k,v⟩:=p
  obtain ⟨c,hc⟩:=inv _ (List.mem_of_getElem? hj)
  simp only at hc
  subst hc
  simp [execOp,hop,hit,hrun,Result.andThen]
  have hjl:j<left.length:=(List.getElem?_eq_some_iff.1 hj).1
  exact hK' _ _ (hMore j k c w' hj h1 (by rw [List.length_eraseIdx,if_pos hjl];omega) h2 h3 hen)
end
end Go.IM
namespace Go.IM
open Go.ChangeMaps (setBlock heap_setBlock_same heap_setBlock_other)
open Go.MapKept
set_option linter.unusedVariables false
set_option linter.unusedSimpArgs false
/-! ### What a round keeps,where it writes a map: whatever is cells -/
structure KC (A B:World):Prop where
 size:A.heap.size≤B.heap.size
 cells:∀ (k:Nat) (o:Obj),A.heap[k]?=some o→o.isCells=true→B.heap[k]?=some o
theorem KC.refl (A:World):KC A A:=⟨Nat.le_refl _,fun _ _ h _=>h⟩
theorem KC.trans {A B C:World} (h:KC A B) (k:KC B C):KC A C:=⟨Nat.le_trans h.size k.size,fun i o hi ho=>k.cells i o (h.cells i o hi ho) ho⟩
theorem KC.of_below {A B:World} (h:RowKit.Below A.heap.size A B):KC A B:=⟨h.size,fun k o hk _=>(h.block k (Array.getElem?_eq_some_iff.1 hk).1).trans hk⟩
theorem KC.of_grown {A B:World} {b:Nat} (hg:A.grownBy B (some b)) (hb:∀ o,A.heap[b]?=some o→o.isCells=false):KC A B :=
 ⟨hg.size,fun k o hk ho=>(hg.block k (Array.getElem?_eq_some_iff.1 hk).1 (fun e=>by cases e;rw [hb o hk] at ho;cases ho)).trans hk⟩
theorem KC.cell {A B:World} (h:KC A B) {a:Addr} {v:Value} (hc:A.cell? a=some v):B.cell? a=some v:=by
 have hlt:=World.block_lt_of_cell? A a hc
 have e:A.heap[a.block]?=some A.heap[a.block]:=Array.getElem?_eq_getElem hlt
 have hk:A.heap[a.block].isCells=true:=by
  unfold World.cell? at hc
  rw [e] at hc
  cases ho:A.heap[a.block]<;>rw [ho] at hc<;>first|rfl|simp_all
 have:=h.cells a.block _ e hk
 rw [← hc]
 unfold World.cell?
 rw [e,this]
theorem At.no_cells {w:World} {b:Nat} {es:List (Int × Value)} (h:At w b es):∀ o,w.heap[b]?=some o→o.isCells=false:=by
 obtain ⟨en,ck,hb,_⟩:=h
 intro o ho
 rw [hb] at ho
 cases ho
 rfl
theorem Rng.of_walks {w w' : World} {b r:Nat} {es left:List (Int × Value)} (h:Rng w b r es left) (hk:KeepsWalks w w'):Rng w' b r es left:=by
 obtain ⟨en,clock,since,seen,c0,hb,r1,r2,r3,r4,hr,r5⟩:=h
 exact ⟨en,clock,since,seen,c0,hk.same b _ hb rfl,r1,r2,r3,r4,hk.same r _ hr rfl,r5⟩
theorem Rng.iter_walk {w:World} {b r:Nat} {es left:List (Int × Value)} (h:Rng w b r es left):∃ o:Obj,w.heap[r]?=some o∧o.isWalk=true:=by
 obtain ⟨en,clock,since,seen,c0,hb,r1,r2,r3,r4,hr,r5⟩:=h
 exact ⟨_,hr,rfl⟩
theorem perm_step {left:List (Int × Value)} {j:Nat} {k:Int} {c:Value} (h:left[j]?=some (k,c)):(k::(left.eraseIdx j).map (·.1)).Perm (left.map (·.1)):=by
 have h1:left[j]?=some (k,c):=h
 have hj:=(List.getElem?_eq_some_iff.1 h).1
 have he:=(List.getElem?_eq_some_iff.1 h).2
 have h2:(left[j]::left.eraseIdx j).Perm left:=by
  rw [List.eraseIdx_eq_take_drop_succ]
  have:left=left.take j++left[j]::left.drop (j+1):=by rw [← List.drop_eq_getElem_cons hj,List.take_append_drop]
  conv=>rhs;rw [this]
  exact List.perm_middle.symm
 rw [he] at h2
 exact h2.map (·.1)
/-! ### Maps keyed by int,inside a fence -/
section
variable {F:Fence} {nF:Nat} {P:Program} (w:World) {ops:Array Oper} {rest:List Oper} {o:Oper} {a:Act} {Q:Exit→Act→World→Prop}
theorem wplIn_range (hg:o.guard=none) (m:Operand) (T:TypeId) (hop:o.op=Op.range T m) (K E:TypeId) (hT:P.underlying T=some (.map K E)) (b:Nat) (es:List (Int × Value)) (hm:a.eval m=.map (some b)) (h:At w b es)
  (hQ:∀ w',Rng w' b w.heap.size es es→w.grownBy w' none→w'.heap.size=w.heap.size+1→wpListIn F nF P ops Q rest (a.put o.dst (.pointer (some ⟨w.heap.size,0,none⟩))) w'):wpListIn F nF P ops Q (o::rest) a w:=by
 refine wpListIn_plain hg fun K' hK'=>?_
 obtain ⟨w',hrun,h1,h2,h3⟩:=h.range hT
 unfold Oper.wpIn
 refine ⟨by simp [Oper.about,hop,resolve,Target.leads,Sem.run_pure],?_⟩
 rw [Oper.semAt_plain F _ _ (by rw [hop];intro c hc';cases hc')]
 simp [execOp,hop,hm,hrun,Result.andThen]
 exact hK' _ _ (hQ w' h1 h2 h3)
theorem wplIn_next {β:Type} (hg:o.guard=none) (it:Operand) (hop:o.op=Op.next it false) (b r:Nat) (es left:List (Int × Value)) (hit:a.eval it=.pointer (some ⟨r,0,none⟩)) (h:Rng w b r es left) (mk:β→Value) (inv:∀ p∈left,∃ c,p.2=mk c)
  (hDone:left=[]→wpListIn F nF P ops Q rest (a.put o.dst (.tuple #[.bool false])) w)
  (hMore:∀ (j:Nat) (k:Int) (c:β) (w' : World),left[j]?=some (k,mk c)→Rng w' b r es (left.eraseIdx j)→(left.eraseIdx j).length<left.length→w.grownBy w' (some r)→w'.heap.size=w.heap.size →
   (Instr.entry (.pointer (some ⟨r,0,none⟩))).run P w'=.ok (.tuple #[.int .i64 k,mk c]) w'→wpListIn F nF P ops Q rest (a.put o.dst (.tuple #[.bool true,.int .i64 k,mk c])) w'):wpListIn F nF P ops Q (o::rest) a w:=by
 refine wpListIn_plain hg fun K' hK'=>?_
 unfold Oper.wpIn
 refine ⟨by simp [Oper.about,hop,resolve,Target.leads,Sem.run_pure],?_⟩
 rw [Oper.semAt_plain F _ _ (by rw [hop];intro c hc';cases hc')]
 rcases h.next (P:=P) o.type with ⟨h0,hrun⟩|⟨j,p,w',hj,hrun,h1,h2,h3,hen⟩
 ·simp [execOp,hop,hit,hrun,Result.andThen]
  exact hK' _ _ (hDone h0)
 ·obtain ⟨k,v⟩:=p
  obtain ⟨c,hc⟩:=inv _ (List.mem_of_getElem? hj)
  simp only at hc
  subst hc
  simp [execOp,hop,hit,hrun,Result.andThen]
  have hjl:j<left.length:=(List.getElem?_eq_some_iff.1 hj).1
  exact hK' _ _ (hMore j k c w' hj h1 (by rw [List.length_eraseIdx,if_pos hjl];omega) h2 h3 hen)
end
end Go.IM
namespace Go
open Go.RowKit Go.IM
set_option linter.unusedVariables false
/-! ### What a round keeps: all cells but those in blocks lo .. hi - 1 -/
structure KE (lo hi:Nat) (A B:World):Prop where
 size:A.heap.size≤B.heap.size
 cells:∀ (k:Nat) (o:Obj),¬ (lo≤k∧k<hi)→A.heap[k]?=some o→o.isCells=true→B.heap[k]?=some o
theorem KE.refl (lo hi:Nat) (A:World):KE lo hi A A:=⟨Nat.le_refl _,fun _ _ _ h _=>h⟩
theorem KE.trans {lo hi:Nat} {A B C:World} (h:KE lo hi A B) (k:KE lo hi B C):KE lo hi A C:=⟨Nat.le_trans h.size k.size,fun i o hx hi ho=>k.cells i o hx (h.cells i o hx hi ho) ho⟩
theorem KE.of_kc {lo hi:Nat} {A B:World} (h:KC A B):KE lo hi A B:=⟨h.size,fun k o _ hk ho=>h.cells k o hk ho⟩
theorem KE.of_below {lo hi:Nat} {A B:World} (h:Below A.heap.size A B):KE lo hi A B:=.of_kc (.of_below h)
theorem KE.of_grown {lo hi:Nat} {A B:World} {b:Nat} (hg:A.grownBy B (some b)) (hb:(lo≤b∧b<hi)∨∀ o,A.heap[b]?=some o→o.isCells=false):KE lo hi A B :=
 ⟨hg.size,fun k o hx hk ho=>(hg.block k (Array.getElem?_eq_some_iff.1 hk).1 (fun e=>by
  cases e
  rcases hb with hb|hb
  ·exact hx hb
  ·rw [hb o hk] at ho;cases ho)).trans hk⟩
theorem KE.setCell {lo hi:Nat} (A:World) (p:Addr) (v:Value) (hp:lo≤p.block∧p.block<hi):KE lo hi A (A.setCell p v) :=
 ⟨(KeepsWalks.setCell A p v).size,fun k o hx hk _=>(Below.heap_setCell A p v k (fun e=>hx (by rw [e];exact hp))).trans hk⟩
theorem KE.putObj {lo hi:Nat} (W:World) (l:Nat) {o:Obj} (o' : Obj) (h:W.heap[l]?=some o) (ho:o.isCells=false):KE lo hi W (W.putObj l o') :=
 .of_grown (grownBy_putObj' W l o') (.inr fun o2 h2=>by rw [h] at h2;cases h2;exact ho)
/-- What lay ahead of lo,and does still at W,does so behind. -/
theorem KE.kc {lo hi:Nat} {w W B:World} (hb:Below w.heap.size w W) (hlo:w.heap.size≤lo) (h:KE lo hi W B):KC w B :=
 ⟨Nat.le_trans hb.size h.size,fun k o hk ho=>by
  have hlt:=(Array.getElem?_eq_some_iff.1 hk).1
  exact h.cells k o (by omega) ((hb.block k hlt).trans hk) ho⟩
theorem KE.boxed {lo hi:Nat} {W B:World} {b:Nat} {t:TypeId} {v:Value} (h:KE lo hi W B) (hb:Boxed W b t v) (hx:¬ (lo≤b∧b<hi)):Boxed B b t v:=h.cells b _ hx hb rfl
theorem KE.far {lo hi:Nat} {A B:World} (h:KE lo hi A B) {p:Addr} (hp:A.heap.size≤p.block) {u:Value} : KE lo hi A (B.setCell p u) :=
 ⟨Nat.le_trans h.size (KeepsWalks.setCell B p u).size,fun k o hx hk ho=>(Below.heap_setCell B p u k (fun e=>by have:=(Array.getElem?_eq_some_iff.1 hk).1;omega)).trans (h.cells k o hx hk ho)⟩
/-! ### Leaving with marks -/
def markOf (r:Nat):Deferred:={ target:=.collected r,args:=#[] }
/-- W' is W,but for blocks that were marks. -/
structure MarksOff (rs:List Nat) (W W' : World):Prop where
 os:W'.os=W.os
 tape:W'.tape=W.tape
 output:W'.output=W.output
 size:W'.heap.size=W.heap.size
 same:∀ k,k∉rs→W'.heap[k]?=W.heap[k]?
theorem MarksOff.below {rs:List Nat} {W W' : World} {B:Nat} (h:MarksOff rs W W') (hr:∀ r∈rs,B≤r):Below B W W' :=
 ⟨h.os,h.tape,h.output,by rw [h.size];exact Nat.le_refl _,fun k hk=>h.same k (fun hm=>by have:=hr k hm;omega)⟩
theorem MarksOff.kc {rs:List Nat} {W W' : World} (h:MarksOff rs W W') (hr:∀ r∈rs,∃ o:Obj,W.heap[r]?=some o∧o.isCells=false):KC W W' :=
 ⟨by rw [h.size];exact Nat.le_refl _,fun k o hk ho=>(h.same k (fun hm=>by obtain ⟨o2,h2,h3⟩:=hr k hm;rw [hk] at h2;cases h2;rw [ho] at h3;cases h3)).trans hk⟩
theorem leavesM_marks {F:Fence} {n:Nat} {P:Program} {fn:Func} {tmps:Array Value} {R:Ending→World→Prop} : ∀ (rs:List Nat) (W:World),rs.Nodup→(∀ r∈rs,W.heap[r]?=some (.deferred (some []))) →
  (∀ W',MarksOff rs W W'→LeavesIn F n P fn tmps R [] .returning W')→LeavesInM F n P fn tmps R (rs.map markOf) .returning W
 | [],W,_,_,h=>h W ⟨rfl,rfl,rfl,rfl,fun _ _=>rfl⟩
 | r::rs,W,hn,hd,h=>by
  rw [List.nodup_cons] at hn
  have hr:=hd r List.mem_cons_self
  have hlt:=(Array.getElem?_eq_some_iff.1 hr).1
  refine ⟨by simp,.inl ⟨r,_,rfl,run_takeDeferred hr,?_⟩⟩
  refine leavesM_marks rs _ hn.2 (fun q hq=>?_) (fun W' hW'=>h W' ?_)
  ·exact (World.putObj_heap_other (fun e=>hn.1 (by cases e;exact hq))).trans (hd q (List.mem_cons_of_mem _ hq))
  ·refine ⟨hW'.os,hW'.tape,hW'.output,by rw [hW'.size];simp [World.putObj],fun k hk=>?_⟩
   rw [List.mem_cons,not_or] at hk
   exact (hW'.same k hk.2).trans (World.putObj_heap_other hk.1)
/-- The marks of an activation: blocks from lo on. -/
def Marks (lo:Nat) (W:World) (ds:List Deferred):Prop:=∃ rs:List Nat,ds=rs.map markOf∧rs.Nodup∧∀ r∈rs,lo≤r∧W.heap[r]?=some (.deferred (some []))
theorem Marks.nil (lo:Nat) (W:World):Marks lo W []:=⟨[],rfl,List.nodup_nil,fun r h=>by cases h⟩
theorem Marks.cons {lo:Nat} {W W' : World} {ds:List Deferred} {D:Nat} (h:Marks lo W ds) (hlo:lo≤D) (hs:W.heap.size≤D) (hD:W'.heap[D]?=some (.deferred (some []))) (hk:∀ r:Nat,lo≤r→W.heap[r]?=some (.deferred (some []))→W'.heap[r]?=some (.deferred (some []))) :
  Marks lo W' (markOf D::ds):=by
 obtain ⟨rs,rfl,hn,hr⟩:=h
 refine ⟨D::rs,rfl,List.nodup_cons.2 ⟨fun hm=>?_,hn⟩,fun r hm=>?_⟩
 ·have:=(Array.getElem?_eq_some_iff.1 (hr D hm).2).1;omega
 ·rcases List.mem_cons.1 hm with rfl|hm
  ·exact ⟨hlo,hD⟩
  ·exact ⟨(hr r hm).1,hk r (hr r hm).1 (hr r hm).2⟩
theorem Marks.kept {lo:Nat} {W W' : World} {ds:List Deferred} (h:Marks lo W ds) (hk:∀ r:Nat,lo≤r→W.heap[r]?=some (.deferred (some []))→W'.heap[r]?=some (.deferred (some []))):Marks lo W' ds:=by
 obtain ⟨rs,rfl,hn,hr⟩:=h
 exact ⟨rs,rfl,hn,fun r hm=>⟨(hr r hm).1,hk r (hr r hm).1 (hr r hm).2⟩⟩
end Go
namespace Go.Proofs.YtnkgbnbbmcoiiaaGreat.S
open Go.RowKit Go.IM Go.Proofs.YtnkgbnbbmcoiiaaGreatW.PrintWords Go.Proofs.YtnkgbnbbmcoiiaaGreatW.PrintLast Go.Proofs.YtnkgbnbbmcoiiaaGreatW.PrintMore
set_option linter.unusedVariables false
/-! ### Rows of operations and of blocks,with where their inner rows lie -/
/-- Where an operation's Args lie. -/
structure OpAt (w:World) (A:Option Addr) (k:Nat) (x:S45) (g:Option Addr × Nat):Prop where mk ::
 out:∃ ad,A=some ad∧w.cell? (ad.add (k*6))=some (.int .i64 x.f0)∧w.cell? ⟨(ad.add (k*6)).block,(ad.add (k*6)).off+1,none⟩=some (.int .i64 x.f1)∧w.cell? ⟨(ad.add (k*6)).block,(ad.add (k*6)).off+2,none⟩=some (.int .i64 x.f2) ∧
  w.cell? ⟨(ad.add (k*6)).block,(ad.add (k*6)).off+3,none⟩=some (.int .i64 x.f3)∧w.cell? ⟨(ad.add (k*6)).block,(ad.add (k*6)).off+4,none⟩=some (.int .i64 x.f4)∧w.cell? ⟨(ad.add (k*6)).block,(ad.add (k*6)).off+5,none⟩=some (.slice g.1 x.f5.length g.2)
 cap:x.f5.length≤g.2
 row:(Kd.int .i64).C w g.1 x.f5.length x.f5
/-- A row of operations. -/
def OpsAt (w:World) (A:Option Addr) (xs:List S45) (og:Nat→Option Addr × Nat):Prop:=∀ k,k<xs.length→OpAt w A k (rd_T45 xs (k:Int)) (og k)
/-- A block's place. -/
structure BlkAt (w:World) (A:Option Addr) (i:Nat) (x:S50) (g:Option Addr × Nat):Prop where mk ::
 out:∃ ad,A=some ad∧w.cell? (ad.add (i*5))=some (.slice g.1 x.f0.length g.2)∧w.cell? ⟨(ad.add (i*5)).block,(ad.add (i*5)).off+1,none⟩=some (.int .i64 x.f1.f0)∧w.cell? ⟨(ad.add (i*5)).block,(ad.add (i*5)).off+2,none⟩=some (.int .i64 x.f1.f1) ∧
  w.cell? ⟨(ad.add (i*5)).block,(ad.add (i*5)).off+3,none⟩=some (.int .i64 x.f1.f2)∧w.cell? ⟨(ad.add (i*5)).block,(ad.add (i*5)).off+4,none⟩=some (.int .i64 x.f1.f3)
 cap:x.f0.length≤g.2
 row:k45.C w g.1 x.f0.length x.f0
/-- A row of blocks. -/
def BlksAt (w:World) (A:Option Addr) (bs:List S50) (bg:Nat→Option Addr × Nat):Prop:=∀ i,i<bs.length→BlkAt w A i (rd_T50 bs (i:Int)) (bg i)
theorem choice_ {α:Type} [Inhabited α] (n:Nat) (p:Nat→α→Prop) (h:∀ k,k<n→∃ y,p k y):∃ f:Nat→α,∀ k,k<n→p k (f k) :=
 ⟨fun k=>if hk:k<n then Classical.choose (h k hk) else default,fun k hk=>by simp only [dif_pos hk];exact Classical.choose_spec (h k hk)⟩
theorem ops_at {w:World} {A:Option Addr} {xs:List S45} (h:Kd.C k45 w A xs.length xs):∃ og,OpsAt w A xs og:=by
 refine choice_ (α:=Option Addr × Nat) xs.length (fun k y=>OpAt w A k (rd_T45 xs (k:Int)) y) (fun k hk=>?_)
 obtain ⟨ad,A5,c5,e,h0,h1,h2,h3,h4,h5,h6,h7⟩:=at_T45 h (k:Int) (by omega) (by omega)
 simp only [Int.toNat_natCast] at h0 h1 h2 h3 h4 h5
 exact ⟨(A5,c5),⟨ad,e,h0,h1,h2,h3,h4,h5⟩,h6,h7⟩
theorem blks_at {w:World} {A:Option Addr} {bs:List S50} (h:Kd.C k50 w A bs.length bs):∃ bg,BlksAt w A bs bg:=by
 refine choice_ (α:=Option Addr × Nat) bs.length (fun k y=>BlkAt w A k (rd_T50 bs (k:Int)) y) (fun k hk=>?_)
 obtain ⟨ad,A5,c5,e,h0,h1,h2,h3,h4,h5,h6⟩:=at_T50 h (k:Int) (by omega) (by omega)
 simp only [Int.toNat_natCast] at h0 h1 h2 h3 h4
 exact ⟨(A5,c5),⟨ad,e,h0,h1,h2,h3,h4⟩,h5,h6⟩
/-! A row that is read,behind what keeps cells. -/
theorem Cint_kc {w w' : World} {A:Option Addr} {n:Nat} {l:List Int} (h:Kd.C (Kd.int .i64) w A n l) (hk:KC w w'):Kd.C (Kd.int .i64) w' A n l:=by
 obtain ⟨h1,h2,h3⟩:=h
 refine ⟨h1,h2,fun hn=>?_⟩
 obtain ⟨ad,e,hc⟩:=h3 hn
 refine ⟨ad,e,fun j p hj=>?_⟩
 obtain ⟨c,hl,hk',hu⟩:=hc j p hj
 exact ⟨c,hl,hk',fun i u hi=>hk.cell (hu i u hi)⟩
theorem C45_kc {w w' : World} {A:Option Addr} {n:Nat} {l:List S45} (h:Kd.C k45 w A n l) (hk:KC w w'):Kd.C k45 w' A n l:=by
 obtain ⟨h1,h2,h3⟩:=h
 refine ⟨h1,h2,fun hn=>?_⟩
 obtain ⟨ad,e,hc⟩:=h3 hn
 refine ⟨ad,e,fun j p hj=>?_⟩
 obtain ⟨c,hl,hk',hu⟩:=hc j p hj
 obtain ⟨A5,c5,rfl,l5,g5⟩:=k45_open hk'
 exact ⟨_,hl,k45_mk _ _ l5 (Cint_kc g5 hk),fun i u hi=>hk.cell (hu i u hi)⟩
theorem OpAt.kc {w w' : World} {A:Option Addr} {k:Nat} {x:S45} {g:Option Addr × Nat} (h:OpAt w A k x g) (hk:KC w w'):OpAt w' A k x g:=by
 obtain ⟨⟨ad,e,h0,h1,h2,h3,h4,h5⟩,h6,h7⟩:=h
 exact ⟨⟨ad,e,hk.cell h0,hk.cell h1,hk.cell h2,hk.cell h3,hk.cell h4,hk.cell h5⟩,h6,Cint_kc h7 hk⟩
theorem OpsAt.kc {w w' : World} {A:Option Addr} {xs:List S45} {og:Nat→Option Addr × Nat} (h:OpsAt w A xs og) (hk:KC w w'):OpsAt w' A xs og:=fun k hlt=>(h k hlt).kc hk
theorem BlkAt.kc {w w' : World} {A:Option Addr} {k:Nat} {x:S50} {g:Option Addr × Nat} (h:BlkAt w A k x g) (hk:KC w w'):BlkAt w' A k x g:=by
 obtain ⟨⟨ad,e,h0,h1,h2,h3,h4⟩,h6,h7⟩:=h
 exact ⟨⟨ad,e,hk.cell h0,hk.cell h1,hk.cell h2,hk.cell h3,hk.cell h4⟩,h6,C45_kc h7 hk⟩
theorem BlksAt.kc {w w' : World} {A:Option Addr} {bs:List S50} {bg:Nat→Option Addr × Nat} (h:BlksAt w A bs bg) (hk:KC w w'):BlksAt w' A bs bg:=fun k hlt=>(h k hlt).kc hk
theorem rd45' {l:List S45} {j:Nat} (h:j<l.length):rd_T45 l (j:Int)=l[j]:=by
 unfold rd_T45
 simp [List.getD_eq_getElem?_getD,h]
theorem rd43' {l:List S50} {j:Nat} (h:j<l.length):rd_T50 l (j:Int)=l[j]:=by
 unfold rd_T50
 simp [List.getD_eq_getElem?_getD,h]
/-- An operation's value. -/
def opV (x:S45) (g:Option Addr × Nat):Value:=.agg #[.int .i64 x.f0,.int .i64 x.f1,.int .i64 x.f2,.int .i64 x.f3,.int .i64 x.f4,.slice g.1 x.f5.length g.2]
/-- A block's value. -/
def blkV (x:S50) (g:Option Addr × Nat):Value:=.agg #[.slice g.1 x.f0.length g.2,.int .i64 x.f1.f0,.int .i64 x.f1.f1,.int .i64 x.f1.f2,.int .i64 x.f1.f3]
end Go.Proofs.YtnkgbnbbmcoiiaaGreat.S
