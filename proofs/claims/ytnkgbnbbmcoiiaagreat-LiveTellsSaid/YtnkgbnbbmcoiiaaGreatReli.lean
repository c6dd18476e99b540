import Derived.Test.YtnkgbnbbmcoiiaaGreatOapp
import Derived.OwnWalkIn
import Derived.OrdersIn
import Derived.RangeFuncCalls
namespace Go.RelRegion
set_option linter.unusedVariables false
/-! ### A region that draws its order,in a round -/
/-- The fence that asks nothing;ro: in a round,or not. -/
def wideR (ro:Option Nat):Fence:={ Fence.wide with round:=ro }
theorem callsIn_wideR {ro:Option Nat} {n:Nat} {P:Program} {f:FuncId} {args:Array Value} {w:World} {R:Ending→World→Prop} (h:Calls P f args w R):CallsIn (wideR ro) n P f args w R:=callsIn_wide.2 h
theorem rowsIn_wideR {ro:Option Nat} {n:Nat} {P:Program} {row:String} {args:Array Value} {w:World} {R:Value→World→Prop} (h:Rows P row args w R):RowsIn (wideR ro) n P row args w R :=
 fun c cs _=>let ⟨v,w',r,s⟩:=h c cs;⟨v,w',r,stepsIn_wide.2 s⟩
theorem uponIn_of {ro:Option Nat} {n:Nat} {P:Program} {o:Oper} {a:Act} {K K' : Act→World→Prop} {Q:Exit→Act→World→Prop} (hK:∀ a w,K a w→K' a w) {r:Result Next} (h:o.upon P a K Q r):o.uponIn (wideR ro) n P a K' Q r:=by
 cases r with
 | ok x w' =>
  cases x with
  | value v=>exact hK _ _ h
  | skip=>exact hK _ _ h
  | defer d=>exact hK _ _ h
  | enter f args=>exact ⟨fun h=>by simp [wideR,Fence.wide] at h,(callsIn_wideR h).mono (fun e w'' he=>by
    cases e with
    | returned v=>exact hK _ _ he
    | panicked c=>exact he
    | outgrown=>exact he)⟩
  | row f args=>exact ⟨fun h=>by simp [wideR,Fence.wide] at h,(rowsIn_wideR h).mono (fun v w'' he=>hK _ _ he)⟩
  | _=>exact h.elim
 | halt x w' =>
  cases x with
  | panic v=>exact h
  | _=>exact h.elim
theorem wpIn_of {ro:Option Nat} {n:Nat} {P:Program} {o:Oper} {a:Act} {w:World} {K K' : Act→World→Prop} {Q:Exit→Act→World→Prop} (hd:∀ c,o.op≠.defer c) (hK:∀ a w,K a w→K' a w) (h:o.wp P a w K Q):o.wpIn (wideR ro) n P a w K' Q:=by
 refine ⟨fun f _=>trivial,?_⟩
 rw [Oper.semAt_plain (wideR ro) _ _ hd]
 exact uponIn_of hK h
theorem wpAnyIn_of {ro:Option Nat} {n:Nat} {P:Program} {md:Region.Mode} {ops:Array Oper} {Q:Exit→Act→World→Prop} (hQ:∀ a w,¬ Q .outgrown a w) (hd:∀ (i:Nat) (o:Oper) (c:Call),ops[i]?=some o→o.op≠.defer c):∀ (fuel:Nat) (listed:Array Bool) (a:Act) (w:World),wpAny P md ops Q fuel listed a w→wpAnyIn (wideR ro) n P md ops Q fuel listed a w
 | 0,listed,a,w,h=>h
 | fuel+1,listed,a,w,h=>by
  refine ⟨h.1,fun i hi=>?_⟩
  have:=h.2 i hi
  unfold wpOp at this
  unfold wpOpIn
  cases ho:ops[i]? with
  | none=>rw [ho] at this;exact wpAnyIn_of hQ hd fuel _ _ _ this
  | some o =>
   rw [ho] at this
   simp only at this ⊢
   split
   ·rename_i hw
    rw [if_pos hw] at this
    rcases this with this|⟨_,a1,w1,h1⟩
    ·exact wpIn_of (fun c=>hd i o c ho) (fun a w h=>wpAnyIn_of hQ hd fuel _ _ _ h) this
    ·exact absurd h1 (hQ _ _)
   ·rename_i hw
    rw [if_neg hw] at this
    exact ⟨fun f _=>trivial,wpAnyIn_of hQ hd fuel _ _ _ this⟩
def noDefer (l:List Oper):Bool:=l.all fun o=>match o.op with|.defer _=>false|_=>true
theorem noDefer_spec {l:List Oper} (h:noDefer l=true):∀ (i:Nat) (o:Oper) (c:Call),l.toArray[i]?=some o→o.op≠.defer c:=by
 intro i o c ho e
 have hm:o∈l:=by
  rw [List.getElem?_toArray] at ho
  exact List.mem_of_getElem? ho
 have:=List.all_eq_true.1 h o hm
 rw [e] at this
 cases this
/-- The law,in a round: the head in whatever order,then the rest. -/
theorem wpIn_region_rel {ro:Option Nat} {nF:Nat} {P:Program} {l:List Oper} {a0:Act} {Q:Exit→Act→World→Prop} {K0:Act→World→Prop} {id:Nat} {w0:World} (n:Nat) (E:Nat→Option (List Nat)) (D:Nat→List Nat) (R:Nat→List Value→World→Prop) (C:World→Prop) (S:World→World→Prop)
  (hm:P.follows .mixedOrders=true) (hnd:noDefer l=true) (hB:okB l.toArray n E D=true) (hC0:C { w0 with drawn:=w0.drawn+1 }) (hCS:∀ w w',C w→S w w'→C w')
  (hRS:∀ d vs w w',R d vs w→S w w'→R d vs w')
  (h:relQ P l.toArray C S E (l.take n) 0 a0 (fun aq=>∀ x:Nat→Value,relL P l.toArray C S E D R x (l.take n) 0 aq (fun af=>∀ w,C w→(∀ d,d<n→(E d).isSome→R d ((D d).map x) w)→wpList P l.toArray (fun e a w=>e=.normal∧K0 a w) (l.drop n) af w))) 
  (hK:∀ a w,K0 a w→Q .normal a w):(Code.region id l.toArray true).wpIn (wideR ro) nF P Q a0 w0:=by
 refine Code.wpIn_mono (Q:=fun e a w=>e=.normal∧K0 a w) (fun e a w he=>by obtain ⟨rfl,hk⟩:=he;exact hK a w hk) ?_
 refine wpIn_region_any hm (wpAnyIn_of (fun a w h=>by cases h.1) (noDefer_spec hnd) _ _ _ _ ?_)
 exact wpAny_region_rel n E D R C S hB hC0 hCS hRS h
end Go.RelRegion
