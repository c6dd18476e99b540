import Derived.Shelf.SlGeneric
import Derived.Shelf.SlIterI.Nil
import Derived.Shelf.SlIterI.Sorted
import Derived.Ground.GgzProg
import Derived.Shelf.Small.Bits
import Derived.Shelf.Small.Wraps
import Derived.Shelf.Strconv.Itoa0
import Derived.Shelf.Sort.Plain
import Derived.Shelf.Slices.Turned
import Derived.Shelf.Slices.Equal
import Derived.Ground.Names2Prog
import Derived.Shelf.Slices.Clone
import Derived.Shelf.Slices.SearchI
import Derived.Shelf.Slices.In.SortNone
import Derived.Shelf.Slices.Empties2
import Derived.Test.YtnkgbnbbmcoiiaaGreatProg
import Derived.Test.YtnkgbnbbmcoiiaaGreatBk
import Derived.Sort.OwnSortedInts
import Derived.Test.YtnkgbnbbmcoiiaaGreatS5
import Derived.Test.YtnkgbnbbmcoiiaaGreatWWords
import Derived.ChangeArms
import Derived.SizedLaws
import Derived.Deep.Slices
import Derived.WideShapes
import Derived.RangeFuncWrites
import Derived.RangeFuncBox
/-
 DERIVED: THE SHELF's CONTRACTS AT THIS DUMP,IN PLAIN WORDS (tools/lay-plain.mjs out of 'YtnkgbnbbmcoiiaaGreatShelf.lean',which tools/lay-shelf.mjs wrote): THE SAME DECLARATIONS UNDER THE SAME NAMES: 'import','namespace','open','def','theorem' AND NOTHING ELSE: no command of the shelf's: FOR A HAND-IN. Each laying: the table of numbers ('.._ren') and one theorem,a field a fact of the dump's own or the kernel's comparison;each contract: ONE APPLICATION.
-/
namespace Go.Proofs
open Go.Shelf
def Tryz.lays189_ren:Go.Shelf.Ren:=⟨fun|189=>64|125=>92|257=>91|128=>118|129=>119|294=>109|295=>110|296=>111|297=>112|298=>113|299=>114|216=>115|300=>116|301=>117|328=>122|329=>123|330=>124|331=>125|332=>126|215=>127|343=>128|n=>n,fun|28=>31|3=>3|46=>116|0=>0|51=>136|53=>138|4=>4|183=>128|182=>127|131=>133|5=>5|9=>9|218=>140|222=>144|228=>146|229=>147|n=>n,fun|n=>n⟩
theorem Tryz.lays189:Go.Proofs.Lays.n189 Tryz.prog Tryz.lays189_ren:={
 mixed:=by kernel_rfl
 f125:=Tryz.func92.trans (congrArg some (by kernel_rfl))
 f128:=Tryz.func118.trans (congrArg some (by kernel_rfl))
 f129:=Tryz.func119.trans (congrArg some (by kernel_rfl))
 f189:=Tryz.func64.trans (congrArg some (by kernel_rfl))
 f215:=Tryz.func127.trans (congrArg some (by kernel_rfl))
 f216:=Tryz.func115.trans (congrArg some (by kernel_rfl))
 f257:=Tryz.func91.trans (congrArg some (by kernel_rfl))
 f294:=Tryz.func109.trans (congrArg some (by kernel_rfl))
 f295:=Tryz.func110.trans (congrArg some (by kernel_rfl))
 f296:=Tryz.func111.trans (congrArg some (by kernel_rfl))
 f297:=Tryz.func112.trans (congrArg some (by kernel_rfl))
 f298:=Tryz.func113.trans (congrArg some (by kernel_rfl))
 f299:=Tryz.func114.trans (congrArg some (by kernel_rfl))
 f300:=Tryz.func116.trans (congrArg some (by kernel_rfl))
 f301:=Tryz.func117.trans (congrArg some (by kernel_rfl))
 f328:=Tryz.func122.trans (congrArg some (by kernel_rfl))
 f329:=Tryz.func123.trans (congrArg some (by kernel_rfl))
 f330:=Tryz.func124.trans (congrArg some (by kernel_rfl))
 f331:=Tryz.func125.trans (congrArg some (by kernel_rfl))
 f332:=Tryz.func126.trans (congrArg some (by kernel_rfl))
 f343:=Tryz.func128.trans (congrArg some (by kernel_rfl))
 t0:=Tryz.underlying0
 a0:=Tryz.isAgg0
 z0:=Tryz.sizeOf0
 v0:=Tryz.zeroValue0
 t3:=Tryz.underlying3
 a3:=Tryz.isAgg3
 z3:=Tryz.sizeOf3
 v3:=Tryz.zeroValue3
 t4:=Tryz.underlying4
 a4:=Tryz.isAgg4
 z4:=Tryz.sizeOf4
 v4:=Tryz.zeroValue4
 t5:=Tryz.underlying5
 a5:=Tryz.isAgg5
 z5:=Tryz.sizeOf5
 v5:=Tryz.zeroValue5
 t9:=Tryz.underlying9
 a9:=Tryz.isAgg9
 z9:=Tryz.sizeOf9
 v9:=Tryz.zeroValue9
 t28:=Tryz.underlying31
 a28:=Tryz.isAgg31
 z28:=Tryz.sizeOf31
 v28:=Tryz.zeroValue31
 t46:=Tryz.underlying116
 a46:=Tryz.isAgg116
 z46:=Tryz.sizeOf116
 v46:=Tryz.zeroValue116
 t51:=Tryz.underlying136
 a51:=Tryz.isAgg136
 z51:=Tryz.sizeOf136
 v51:=Tryz.zeroValue136
 t53:=Tryz.underlying138
 a53:=Tryz.isAgg138
 z53:=Tryz.sizeOf138
 v53:=Tryz.zeroValue138
 t131:=Tryz.underlying133
 a131:=Tryz.isAgg133
 z131:=Tryz.sizeOf133
 v131:=Tryz.zeroValue133
 t182:=Tryz.underlying127
 a182:=Tryz.isAgg127
 z182:=Tryz.sizeOf127
 v182:=Tryz.zeroValue127
 t183:=Tryz.underlying128
 a183:=Tryz.isAgg128
 z183:=Tryz.sizeOf128
 v183:=Tryz.zeroValue128
 t218:=Tryz.underlying140
 a218:=Tryz.isAgg140
 z218:=Tryz.sizeOf140
 v218:=Tryz.zeroValue140
 t222:=Tryz.underlying144
 a222:=Tryz.isAgg144
 z222:=Tryz.sizeOf144
 v222:=Tryz.zeroValue144
 t228:=Tryz.underlying146
 a228:=Tryz.isAgg146
 z228:=Tryz.sizeOf146
 v228:=Tryz.zeroValue146
 t229:=Tryz.underlying147
 a229:=Tryz.isAgg147
 z229:=Tryz.sizeOf147
 v229:=Tryz.zeroValue147 }
open Go.Sort Go.RowKit in
theorem Tryz.slices_Sort_int (blk off cap:Nat) (zs:List Int) (w:World) (hH:Holds (Value.int .i64) w blk off zs.toArray) (hblk:blk<w.heap.size) (hsz:zs.length<4611686018427387904) :
  Calls Tryz.prog 64 #[.slice (some ⟨blk,off,none⟩) zs.length cap] w fun e w' =>
   e=.returned (.tuple #[])∧∃ n os,w'=grow (putRow (Value.int .i64) (Sort.ahead w n) blk off (zs.mergeSort fun x y=>decide (x≤y)).toArray) os:=Any.slices_Sort_int Tryz.lays189 blk off cap zs w hH hblk hsz
open Go.RowKit Go.Sort in
/-- .. and plain. (LAID: no walk: one application.) -/
theorem Tryz.slices_Sort_int_none (p:Option Addr) (cap:Nat) (w:World) :
  Calls Tryz.prog 64 #[.slice p 0 cap] w fun e w'=>e=.returned (.tuple #[])∧w'=w:=Any.slices_Sort_int_none Tryz.lays189 p cap w
def Tryz.sorted52_ren:Go.Shelf.Ren:=⟨fun|6=>43|8=>69|9=>64|11=>93|13=>92|12=>91|23=>118|24=>119|14=>109|15=>110|16=>111|17=>112|18=>113|19=>114|20=>115|21=>116|22=>117|25=>122|26=>123|27=>124|28=>125|29=>126|30=>127|31=>128|n=>n,fun|26=>3|28=>64|24=>31|0=>0|3=>3|37=>116|48=>136|50=>138|4=>4|40=>128|39=>127|45=>133|5=>5|9=>9|51=>140|55=>144|57=>146|58=>147|33=>89|n=>n,fun|n=>n⟩
theorem Tryz.sorted52:Go.Proofs.SlLaysZI.n6 Tryz.prog Tryz.sorted52_ren:={
 mixed:=by kernel_rfl
 f6:=⟨Tryz.f43.name,by decide,Tryz.func43.trans (congrArg some (by kernel_rfl))⟩
 f8:=⟨Tryz.f69.name,by decide,Tryz.func69.trans (congrArg some (by kernel_rfl))⟩
 f11:=⟨Tryz.f93.name,by decide,Tryz.func93.trans (congrArg some (by kernel_rfl))⟩
 t0:=Tryz.underlying0
 a0:=Tryz.isAgg0
 z0:=Tryz.sizeOf0
 v0:=Tryz.zeroValue0
 t24:=Tryz.underlying31
 a24:=Tryz.isAgg31
 z24:=Tryz.sizeOf31
 v24:=Tryz.zeroValue31
 t26:=Tryz.underlying3
 a26:=Tryz.isAgg3
 z26:=Tryz.sizeOf3
 v26:=Tryz.zeroValue3
 t28:=Tryz.underlying64
 a28:=Tryz.isAgg64
 z28:=Tryz.sizeOf64
 v28:=Tryz.zeroValue64
 i26:=by kernel_rfl }
end Go.Proofs
namespace Go.Proofs.YtnkgbnbbmcoiiaaGreat.S
open Go.RowKit Go.Proofs.YtnkgbnbbmcoiiaaGreatW.PrintWords Go.Proofs.YtnkgbnbbmcoiiaaGreatW.PrintLast Go.Proofs.YtnkgbnbbmcoiiaaGreatW.PrintMore
set_option linter.unusedVariables false
theorem rd26' {l:List S52} {j:Nat} (h:j<l.length):rd_T52 l (j:Int)=l[j]:=by
 unfold rd_T52
 simp [List.getD_eq_getElem?_getD,h]
/-! ### A slice of whole numbers,sorted -/
def srt (zs:List Int):List Int:=zs.mergeSort fun x y=>decide (x≤y)
theorem srt_length (zs:List Int):(srt zs).length=zs.length:=List.length_mergeSort _
/-- slices.Sort at a slice of the call's own. -/
theorem sortI_any (W:World) (base:Nat) (v:Value) (zs:List Int) (HO:W.ownsRow base 3 1 v zs.length (nums .i64 zs)) (hn:zs.length<4611686018427387904) :
  Calls Tryz.prog 64 #[v] W fun e w'=>e=.returned (.tuple #[])∧w'.ownsRow base 3 1 v zs.length (nums .i64 (srt zs))∧W.grownBy w' v.ownBlock:=by
 rcases HO.2 with ⟨rfl,h0⟩|⟨g,cap,cur,rfl,hg,hblk,hcap,hmax,hsz,htk⟩
 ·have hz:zs=[]:=List.eq_nil_of_length_eq_zero h0
  subst hz
  refine (Tryz.slices_Sort_int_none none 0 W).mono ?_
  rintro e w' ⟨rfl,rfl⟩
  exact ⟨rfl,by simpa [srt,nums] using own_nil w' base 3 1,World.grownBy.refl _ _⟩
 ·have hlt:g<W.heap.size:=(Array.getElem?_eq_some_iff.1 hblk).1
  rw [Nat.mul_one] at htk
  have hH:Sort.Holds (Value.int .i64) W g 0 zs.toArray:=holds_of_blockI hblk htk
  refine (Tryz.slices_Sort_int g 0 cap zs W hH hlt hn).mono ?_
  rintro e w' ⟨rfl,m,os,rfl⟩
  exact ⟨rfl,ownsRow_sortedI (ts:=srt zs) (srt_length zs) hg hblk hcap hmax (by rw [hsz]),grownBy_sortedI _⟩
theorem meas1 {n j:Nat} (h:j<n) {x:Int} (e:x=((j+1:Nat):Int)):n - (intOf (.int .i64 x)).toNat<n - (intOf (.int .i64 (j:Int))).toNat:=by
 subst e
 have e1:(intOf (.int .i64 ((j+1:Nat):Int))).toNat=j+1:=by simp [intOf]
 have e2:(intOf (.int .i64 (j:Int))).toNat=j:=by simp [intOf]
 rw [e1,e2]
 omega
/-! ### At -/
def hasP (x:S52) (p:Int):Bool:=decide (x.f1≤p) && decide (p≤x.f2)
theorem hasP_f (x:S52) (p:Int):spans_has.f x.f0 x.f1 x.f2 p=some (hasP x p):=by
 unfold spans_has.f hasP
 by_cases h:x.f1≤p
 ·simp [h]
 ·simp [h]
def ats (l:List S52) (p:Int):List Int:=(l.filter fun x=>hasP x p).map (·.f0)
theorem ats_take {l:List S52} {j:Nat} (h:j<l.length) (p:Int):ats (l.take (j+1)) p=if hasP (rd_T52 l (j:Int)) p=true then ats (l.take j) p++[(rd_T52 l (j:Int)).f0] else ats (l.take j) p:=by
 unfold ats
 rw [rd26' h,List.take_succ_eq_append_getElem h,List.filter_append,List.map_append]
 by_cases h0:hasP l[j] p=true
 ·simp [h0]
 ·simp [h0]
theorem ats_len (l:List S52) (p:Int):(ats l p).length≤l.length:=by
 unfold ats
 rw [List.length_map]
 exact List.length_filter_le _ _
set_option maxHeartbeats 8000000 in
set_option maxRecDepth 100000 in
theorem at_any (A:Option Addr) (c:Nat) (H:List S52) (p:Int) (w:World) (hr:Kd.C k52 w A H.length H) (hn:H.length≤1000000000000) :
  Calls Tryz.prog 36 #[.slice A H.length c,.int .i64 p] w fun e w'=>∃ v,e=.returned v∧w'.ownsRow w.heap.size 3 1 v (srt (ats H p)).length (nums .i64 (srt (ats H p)))∧Below w.heap.size w w':=by
 have hu26:=Tryz.underlying52
 have HR:=ak_ hr
 have HN:=ak_ hn
 clear hr
 go_enter Tryz.func36,Tryz.ntmps36
 go_wp2_with fail
 go_loopw [10,5] (fun i v wr=>∃ j:Nat,j≤H.length∧i=.int .i64 j∧Aside0 (wr.ownsRow w.heap.size 3 1 v (ats (H.take j) p).length (nums .i64 (ats (H.take j) p)))∧Aside0 (Below w.heap.size w wr)) (fun i _ _=>H.length - (intOf i).toNat)
 case atStart=>exact ⟨0,Nat.zero_le _,rfl,⟨own_nil _ _ _ _⟩,⟨Below.refl _ _⟩⟩
 case round =>
  obtain ⟨j,hj,rfl,HO,HB⟩:=hrel
  by_cases hlt:j<H.length
  ·have b1:decide ((j:Int)<(H.length:Int))=true:=decide_eq_true (by omega)
   have hw1:wrap64 ((j:Int)+1)=((j+1:Nat):Int):=by unfold wrap64;omega
   obtain ⟨ad,eA,k0,k1,k2⟩:=at_T52 (Kd.C_below HR.out HB.out) (j:Int) (by omega) (by omega)
   simp only [Int.toNat_natCast] at k0 k1 k2
   have HU:=ak_ (ats_take hlt p)
   have HUL:Aside0 ((ats (H.take j) p).length≤1000000000000):=⟨by have:=ats_len (H.take j) p;rw [List.length_take] at this;omega⟩
   generalize rd_T52 H (j:Int)=x at k0 k1 k2 HU
   subst eA
   have HC:=fun W=>spans_has.calls x.f0 x.f1 x.f2 p _ W (hasP_f x p)
   cases h0:hasP x p with
   | true =>
    rw [h0] at HC
    have HC:=ak_ HC
    have HU2:Aside0 (ats (H.take (j+1)) p=ats (H.take j) p++[x.f0]):=⟨by rw [HU.out,if_pos h0]⟩
    clear h0
    have HB1:=ak_ (below_alloc HB.out (.cells #[.int .i64 x.f0,.int .i64 x.f1,.int .i64 x.f2] 52))
    have HO1:=ak_ (own_alloc HO.out (.cells #[.int .i64 x.f0,.int .i64 x.f1,.int .i64 x.f2] 52))
    have hblk:=blk_new wr (.cells #[.int .i64 x.f0,.int .i64 x.f1,.int .i64 x.f2] 52)
    go_wp2_with (first
     | (go_at_call 63;refine (HC.out _).mono ?_;rintro e w3 ⟨rfl,hd3⟩;have hblk3:=blk_below hblk hd3;have s0:=blk_cell hblk3 0;have HB3:=ak_ (below_then HB1.out HB1.out.size hd3);have HO3:=ak_ (pw_own_below HO1.out hd3))
     | (at_builtin;refine print_append_num w.heap.size rfl _ _ 31 3 .i64 8 rfl Tryz.underlying31 (by kernel_rfl) (by decide) u5 (ats (H.take j) p) x.f0 rfl rfl HO3.out HB3.out (by have:=HB3.out.size;omega) (by have:=HUL.out;omega) ?_;intro v1 w1 hown hB1 hg1 hat))
    go_roundw
    case rel=>exact ⟨j+1,by omega,by go_num,⟨by rw [HU2.out];exact hown⟩,⟨hB1⟩⟩
    case measure=>first|exact meas1 hlt hw1|exact meas1 hlt rfl
   | false =>
    rw [h0] at HC
    have HC:=ak_ HC
    have HU2:Aside0 (ats (H.take (j+1)) p=ats (H.take j) p):=⟨by rw [HU.out,if_neg (by rw [h0];decide)]⟩
    clear h0
    have HB1:=ak_ (below_alloc HB.out (.cells #[.int .i64 x.f0,.int .i64 x.f1,.int .i64 x.f2] 52))
    have HO1:=ak_ (own_alloc HO.out (.cells #[.int .i64 x.f0,.int .i64 x.f1,.int .i64 x.f2] 52))
    go_wp2_with (go_at_call 63;refine (HC.out _).mono ?_;rintro e w3 ⟨rfl,hd3⟩;have HB3:=ak_ (below_then HB1.out HB1.out.size hd3);have HO3:=ak_ (pw_own_below HO1.out hd3))
    go_roundw
    case rel=>exact ⟨j+1,by omega,by go_num,⟨by rw [HU2.out];exact HO3.out⟩,HB3⟩
    case measure=>first|exact meas1 hlt hw1|exact meas1 hlt rfl
  ·have b1:decide ((j:Int)<(H.length:Int))=false:=decide_eq_false (by omega)
   obtain rfl:j=H.length:=by omega
   rw [List.take_length] at HO
   have HUL:Aside0 ((ats H p).length≤1000000000000):=⟨by have:=ats_len H p;omega⟩
   go_wp2_with (go_at_call 64;refine (sortI_any _ w.heap.size _ _ HO.out (by have:=HUL.out;omega)).mono ?_;rintro e w5 ⟨rfl,ho5,hg5⟩;have HO5:=ak_ ho5;have HB5:=ak_ (pw_below_grown HB.out _ HB.out.size hg5 (own_base HO.out));clear ho5 hg5)
   go_ret
   exact ⟨_,rfl,by rw [srt_length];exact HO5.out,HB5.out⟩
def spans_At.f (l0:List S52) (a1:Int):Option (List Int):=if l0.length≤1000000000000 then some (srt (ats l0 a1)) else none
theorem spans_At.calls (A0:Option Addr) (c0:Nat) (l0:List S52) (a1:Int) (r:List Int) (w:World) (hr0:Kd.C k52 w A0 l0.length l0) (hc0:l0.length≤c0) (h:spans_At.f l0 a1=some r) :
  Calls Tryz.prog 36 #[.slice A0 l0.length c0,.int .i64 a1] w fun e w'=>∃ v0_,e=.returned v0_∧Kd.R (Kd.int .i64) 3 w' w.heap.size (fun _=>True) v0_ r∧Below w.heap.size w w':=by
 unfold spans_At.f at h
 by_cases hn:l0.length≤1000000000000
 ·rw [if_pos hn] at h
  obtain rfl:=Option.some.inj h
  refine (at_any A0 c0 l0 a1 w hr0 hn).mono ?_
  rintro e w' ⟨v,rfl,ho,hb⟩
  exact ⟨v,rfl,Kd.R_of_own ho (fun _ _=>trivial),hb⟩
 ·rw [if_neg hn] at h
  cases h
end Go.Proofs.YtnkgbnbbmcoiiaaGreat.S
namespace Go.Proofs.YtnkgbnbbmcoiiaaGreatW.PrintWords
open Go.RowKit Go.ChangeShapes Go.WideShapes Go.Deep
set_option linter.unusedVariables false
/-! ### What comes in,kind by kind,within the address space -/
/-- What reads as data of type T,and weighs no more than can be,is of the kind d,and G holds of it. -/
structure OpensW (P:Program) {α:Type} (d:Kd α) (T:TypeId) (G:α→Prop):Prop where mk ::
 out:∀ {H:Type} (enc:TypeId × Value→H) (w:World) (base:Nat) (spare:Nat→Bool) (held:Bool) (fuel:Nat) (cs:List Value) (x:DataW H × List MemPlace),DataW.trod enc P w base spare held fuel T cs=some x→(∀ n∈x.1.weights P T,n≤reachBytes)→∃ y:α,d.K w y cs∧G y
section
variable {P:Program} {T E:TypeId} {α β:Type} {d:Kd α} {G:α→Prop}
theorem weightsAll_of {H:Type} {e:TypeId} : ∀ {l:List (DataW H)} {x:DataW H},x∈l→∀ n∈x.weights P e,n∈DataW.weightsAll P e l
 | y::l,x,hx,n,hn=>by
  rw [DataW.weightsAll,List.mem_append]
  rcases List.mem_cons.1 hx with rfl|hx
  ·exact .inl hn
  ·exact .inr (weightsAll_of hx n hn)
theorem OpensW.int {k:IntKind} (hT:P.underlying T=some (.int k)):OpensW P (Kd.int k) T (fun n=>(Lit.int k n).wf=true):=by
 constructor
 intro H enc w base spare held fuel cs x h _
 obtain ⟨n,hc,_,hw⟩:=DataW.trod_int hT h
 exact ⟨n,hc,hw⟩
theorem OpensW.imp {G' : α→Prop} (h:OpensW P d T G) (hG:∀ x,G x→G' x):OpensW P d T G':=by
 constructor
 intro H enc w base spare held fuel cs x hx hw
 obtain ⟨y,hk,hg⟩:=h.out enc w base spare held fuel cs x hx hw
 exact ⟨y,hk,hG y hg⟩
theorem OpensW.slice (hT:P.underlying T=some (.slice E)) (hsz:P.cellsOf E=d.sz) (h:OpensW P d E G):OpensW P (Kd.slice E d) T (fun l=>l.length*P.bytesOf E≤reachBytes∧∀ x∈l,G x):=by
 constructor
 intro H enc w base spare held fuel cs x hx hw
 rcases open_slice hT hx with ⟨hcs,_⟩|⟨a,len,cap,m,n,D,Pl,hcs,_,hlc,hcm,hm,hxe,hall⟩
 ·subst hcs
  exact ⟨[],⟨none,0,rfl,Nat.le_refl _,rfl,by simp,fun h=>absurd h (by simp)⟩,by simp,by simp⟩
 ·subst hcs
  subst hxe
  have hmax:cap≤9223372036854775807:=by unfold maxLen at hcm;exact Nat.le_trans hcm (by decide)
  have hlm:len≤m:=by rw [hm];split<;>omega
  have hW:len*P.bytesOf E≤reachBytes:=by
   have:=hw _ (by rw [DataW.weights,hT];exact List.mem_cons_self)
   simp only [List.length_map,List.length_range] at this
   exact Nat.le_trans (Nat.mul_le_mul_right _ (Nat.le_add_right _ _)) this
  have key:∀ i,i<len→∃ y:α,∃ cs',cs'.length=d.sz∧d.K w y cs'∧(∀ j u,cs'[j]?=some u→w.cell? (a.add (i*d.sz+j))=some u)∧G y:=by
   intro i hi
   obtain ⟨cs',hc,ht⟩:=hall i (by omega)
   rw [hsz] at hc
   obtain ⟨_,hl5,hat⟩:=World.cells?_some hc
   obtain ⟨y,hy,hg⟩:=h.out enc w base spare held n cs' _ ht (fun q hq=>hw q (by
    rw [DataW.weights,hT]
    exact List.mem_cons_of_mem _ (List.mem_append.2 (.inl (weightsAll_of (List.mem_map.2 ⟨i,List.mem_range.2 hi,rfl⟩) q hq)))))
   refine ⟨y,cs',hl5,hy,fun j u hu=>?_,hg⟩
   have hj:j<d.sz:=by rw [← hl5];exact (List.getElem?_eq_some_iff.1 hu).1
   rw [← Go.Deep.add_add,hat j hj,hu]
  rcases Nat.eq_zero_or_pos len with h0|h0
  ·subst h0
   exact ⟨[],⟨some a,cap,rfl,Nat.zero_le _,rfl,by simp,fun h=>absurd h (by simp)⟩,by simp,by simp⟩
  obtain ⟨f,hf⟩:=@choose_lt α ⟨Classical.choose (key 0 h0)⟩ len (fun i y=>∃ cs',cs'.length=d.sz∧d.K w y cs'∧(∀ j u,cs'[j]?=some u→w.cell? (a.add (i*d.sz+j))=some u)∧G y) key
  refine ⟨(List.range len).map f,⟨some a,cap,by simp,by simpa using hlc,by simp,by simp;omega,fun _=>⟨a,rfl,fun j p hj=>?_⟩⟩,by simpa using hW,fun x hx=>?_⟩
  ·have hjl:j<len:=by
    have:=(List.getElem?_eq_some_iff.1 hj).1
    simpa using this
   simp [hjl] at hj
   subst hj
   obtain ⟨cs',h1,h2,h3,_⟩:=hf j hjl
   exact ⟨cs',h1,h2,h3⟩
  ·simp only [List.mem_map,List.mem_range] at hx
   obtain ⟨i,hi,rfl⟩:=hx
   obtain ⟨_,_,_,_,h4⟩:=hf i hi
   exact h4
/-- Fields in line,from an offset on. -/
structure FOpensW (P:Program) (fs:List Field) (off:Nat) {α:Type} (d:Kd α) (G:α→Prop):Prop where mk ::
 out:∀ {H:Type} (enc:TypeId × Value→H) (w:World) (base:Nat) (spare:Nat→Bool) (held:Bool) (fuel:Nat) (cs:List Value),cs.length=d.sz→(∀ f∈fs,∃ x,DataW.trod enc P w base spare held fuel f.type ((cs.drop (f.offset - off)).take (P.cellsOf f.type))=some x∧∀ n∈x.1.weights P f.type,n≤reachBytes)→∃ y:α,d.K w y cs∧G y
theorem FOpensW.last {f:Field} (h:OpensW P d f.type G) (hsz:P.cellsOf f.type=d.sz):FOpensW P [f] f.offset d G:=by
 constructor
 intro H enc w base spare held fuel cs hl hf
 obtain ⟨x,hx,hw⟩:=hf f List.mem_cons_self
 rw [Nat.sub_self,List.drop_zero,hsz,← hl,List.take_length] at hx
 exact h.out enc w base spare held fuel cs x hx hw
theorem FOpensW.cons {f:Field} {fs:List Field} {d2:Kd β} {G2:β→Prop} (h:OpensW P d f.type G) (hsz:P.cellsOf f.type=d.sz) (hr:FOpensW P fs (f.offset+d.sz) d2 G2) (hoff:∀ g∈fs,f.offset+d.sz≤g.offset) :
  FOpensW P (f::fs) f.offset (Kd.pair d d2) (fun p=>G p.1∧G2 p.2):=by
 constructor
 intro H enc w base spare held fuel cs hl hf
 have hl' : cs.length=d.sz+d2.sz:=hl
 obtain ⟨x,hx,hw⟩:=hf f List.mem_cons_self
 rw [Nat.sub_self,List.drop_zero,hsz] at hx
 obtain ⟨y,hk,hg⟩:=h.out enc w base spare held fuel _ x hx hw
 obtain ⟨z,hk2,hg2⟩:=hr.out enc w base spare held fuel (cs.drop d.sz) (by rw [List.length_drop];omega) (fun g hgm=>by
  obtain ⟨x2,hx2,hw2⟩:=hf g (List.mem_cons_of_mem _ hgm)
  refine ⟨x2,?_,hw2⟩
  rw [List.drop_drop]
  have:=hoff g hgm
  rw [show d.sz+(g.offset - (f.offset+d.sz))=g.offset - f.offset by omega]
  exact hx2)
 exact ⟨(y,z),⟨cs.take d.sz,cs.drop d.sz,(List.take_append_drop _ _).symm,hk,hk2⟩,hg,hg2⟩
/-- A struct,by its fields. -/
theorem OpensW.struct {fs:Array Field} {f:β→α} {G' : β→Prop} (hT:P.underlying T=some (.struct fs)) (hsz:P.cellsOf T=d.sz) (h:FOpensW P fs.toList 0 d G) (back:α→β) (hb:∀ x,f (back x)=x) (hG:∀ x,G x→G' (back x)):OpensW P (Kd.iso d f) T G':=by
 constructor
 intro H enc w base spare held fuel cs x hx hw
 obtain ⟨xs,n,_,hxe,hl,hlen,hg⟩:=DataW.trod_struct hT hx
 subst hxe
 obtain ⟨y,hk,hy⟩:=h.out enc w base spare held n cs (by rw [hl,hsz]) (fun g hgm=>by
  obtain ⟨i,hi,he⟩:=List.getElem_of_mem hgm
  have hi' : i<fs.size:=by simpa using hi
  have:=hg i g (by rw [Array.getElem?_eq_getElem hi'];simpa using he)
  rw [List.getElem?_eq_getElem (by omega)] at this
  refine ⟨_,by rw [Nat.sub_zero];exact this,fun q hq=>hw q ?_⟩
  rw [DataW.weights,hT]
  refine DataW.weights_mem_each (j:=i) (t:=g.type) (d:=(xs[i]'(by omega)).1) ?_ ?_ q hq
  ·rw [List.getElem?_map,List.getElem?_eq_getElem hi,he];rfl
  ·rw [List.getElem?_map,List.getElem?_eq_getElem (by omega)];rfl)
 refine ⟨back y,?_,hG y hy⟩
 show d.K w (f (back y)) cs
 rw [hb]
 exact hk
/-- A struct argument: its cells. -/
theorem OpensW.agg {w:World} {r:Reach} {b0:Nat} {v:Value} {H:Type} {enc:TypeId × Value→H} {base:Nat} {spare:Nat→Bool} {held:Bool} {D:DataW H} {p:List MemPlace} {fs:Array Field} (ho:OpensW P d T G) (hT:P.underlying T=some (.struct fs))
  (hv:Value.okWide P w r b0 T v) (h:DataW.Trod enc P w base spare held T v D p) (hw:∀ n∈D.weights P T,n≤reachBytes) :
  ∃ (x:α) (cs:List Value),v=.agg cs.toArray∧d.K w x cs∧G x:=by
 obtain ⟨cs,rfl,hsz⟩:=okWide_struct hT hv
 obtain ⟨fuel,hf⟩:=h
 obtain ⟨x,hk,hg⟩:=ho.out enc w base spare held fuel _ _ hf hw
 exact ⟨x,cs.toList,by simp,hk,hg⟩
/-- What the whole claim says of weights,of its first argument. -/
theorem weights_first {H:Type} {t:TypeId} {ts:List TypeId} {d:DataW H} {ds:List (DataW H)} (h:(DataW.weightsEach P (t::ts) (d::ds)).all (·≤reachBytes)=true):∀ n∈d.weights P t,n≤reachBytes:=fun n hn=>by
 have:=List.all_eq_true.1 h n (DataW.weights_mem_each (j:=0) rfl rfl n hn)
 simpa using this
theorem i64_wf {n:Int} (h:(Lit.int .i64 n).wf=true) : -9223372036854775808≤n∧n≤9223372036854775807:=by
 simp only [Lit.wf,Bool.and_eq_true,decide_eq_true_eq] at h
 exact h
end
end Go.Proofs.YtnkgbnbbmcoiiaaGreatW.PrintWords
namespace Go.Lv
set_option linter.unusedVariables false
/-! ### What is live,plain -/
/-- A function,as far as live registers want it. -/
structure G where
 nb:Nat
 len:Nat→Nat
 use:Nat→Nat→List Int
 set:Nat→Nat→Int
 tuse:Nat→List Int
 succ:Nat→List Int
/-- Register r is live at place k of block i. -/
inductive At (g:G) (r:Int):Nat→Nat→Prop
 | use {i k:Nat} : k<g.len i→r∈g.use i k→At g r i k
 | step {i k:Nat} : k<g.len i→r≠g.set i k→At g r i (k+1)→At g r i k
 | tuse {i:Nat} : r∈g.tuse i→At g r i (g.len i)
 | jump {i j:Nat} : (j:Int)∈g.succ i→At g r j 0→At g r i (g.len i)
/-- What goes backwards from a block's end,m operations. -/
def Bk (g:G) (I:Nat→Int→Prop) (i:Nat):Nat→Int→Prop
 | 0,r=>r∈g.tuse i∨∃ j:Nat,(j:Int)∈g.succ i∧I j r
 | m+1,r=>r∈g.use i (g.len i - 1 - m)∨(r≠g.set i (g.len i - 1 - m)∧Bk g I i m r)
/-- Each block's successors are blocks. -/
def Wf (g:G):Prop:=∀ i,i<g.nb→∀ t∈g.succ i,0≤t∧t<g.nb
theorem Bk.mono {g:G} {I I' : Nat→Int→Prop} {i:Nat} (h:∀ (j:Nat) (r:Int),(j:Int)∈g.succ i→I j r→I' j r):∀ m r,Bk g I i m r→Bk g I' i m r
 | 0,r,hb=>hb.imp id (fun ⟨j,h1,h2⟩=>⟨j,h1,h j r h1 h2⟩)
 | m+1,r,hb=>hb.imp id (fun ⟨h1,h2⟩=>⟨h1,Bk.mono h m r h2⟩)
theorem Bk.sound {g:G} {I:Nat→Int→Prop} {i:Nat} (h:∀ (j:Nat) (r:Int),(j:Int)∈g.succ i→I j r→At g r j 0):∀ m r,m≤g.len i→Bk g I i m r→At g r i (g.len i - m)
 | 0,r,_,hb=>by
  rcases hb with hb|⟨j,h1,h2⟩
  ·exact .tuse hb
  ·exact .jump h1 (h j r h1 h2)
 | m+1,r,hm,hb=>by
  have e:g.len i - 1 - m=g.len i - (m+1):=by omega
  rcases hb with hb|⟨h1,h2⟩
  ·rw [e] at hb
   exact .use (by omega) hb
  ·rw [e] at h1
   refine .step (by omega) h1 ?_
   have:=Bk.sound h m r (by omega) h2
   rwa [show g.len i - (m+1)+1=g.len i - m by omega]
theorem Bk.complete {g:G} {I:Nat→Int→Prop} (hw:Wf g) (hc:∀ i,i<g.nb→∀ r,Bk g I i (g.len i) r→I i r) {r:Int} {i k:Nat} (h:At g r i k):i<g.nb→k≤g.len i→Bk g I i (g.len i - k) r:=by
 induction h with
 | @use i k hk hr =>
  intro hi _
  rw [show g.len i - k=(g.len i - 1 - k)+1 by omega]
  refine .inl ?_
  rwa [show g.len i - 1 - (g.len i - 1 - k)=k by omega]
 | @step i k hk hr _ ih =>
  intro hi _
  rw [show g.len i - k=(g.len i - 1 - k)+1 by omega]
  refine .inr ⟨?_,?_⟩
  ·rwa [show g.len i - 1 - (g.len i - 1 - k)=k by omega]
  ·have:=ih hi (by omega)
   rwa [show g.len i - (k+1)=g.len i - 1 - k by omega] at this
 | @tuse i hr =>
  intro hi _
  rw [Nat.sub_self]
  exact .inl hr
 | @jump i j hj _ ih =>
  intro hi _
  rw [Nat.sub_self]
  have hjn:j<g.nb:=by have:=hw i hi _ hj;omega
  exact .inr ⟨j,hj,hc j hjn r (by have:=ih hjn (Nat.zero_le _);rwa [Nat.sub_zero] at this)⟩
/-- The least sets are those of what is live. -/
theorem least {g:G} {I:Nat→Int→Prop} (hw:Wf g) (hs:∀ i,i<g.nb→∀ r,I i r→At g r i 0) (hc:∀ i,i<g.nb→∀ r,Bk g I i (g.len i) r→I i r) (i:Nat) (hi:i<g.nb) (r:Int):I i r↔At g r i 0 :=
 ⟨hs i hi r,fun h=>hc i hi r (by have:=Bk.complete hw hc h hi (Nat.zero_le _);rwa [Nat.sub_zero] at this)⟩
/-- All that is live is read somewhere. -/
theorem at_some {g:G} {Q:Int→Prop} (hu:∀ i k r,r∈g.use i k→Q r) (ht:∀ i r,r∈g.tuse i→Q r) {r:Int} {i k:Nat} (h:At g r i k):Q r:=by
 induction h with
 | use _ h=>exact hu _ _ _ h
 | step _ _ _ ih=>exact ih
 | tuse h=>exact ht _ _ h
 | jump _ _ ih=>exact ih
/-! ### Rows without repeats -/
theorem nodup_le:∀ {l m:List Int},l.Nodup→(∀ x∈l,x∈m)→l.length≤m.length
 | [],m,_,_=>Nat.zero_le _
 | x::l,m,hn,hs=>by
  rw [List.nodup_cons] at hn
  have hx:=hs x List.mem_cons_self
  have ih:=nodup_le (m:=m.erase x) hn.2 (fun y hy=>(List.mem_erase_of_ne (fun e=>hn.1 (by rw [← e];exact hy))).2 (hs y (List.mem_cons_of_mem _ hy)))
  rw [List.length_erase_of_mem hx] at ih
  have:=List.length_pos_of_mem hx
  simp only [List.length_cons]
  omega
theorem same_of_le {a b:List Int} (ha:a.Nodup) (hb:b.Nodup) (hs:∀ x∈a,x∈b) (hl:b.length≤a.length):∀ x∈b,x∈a:=fun x hx=>Classical.byContradiction fun hn=>by
 have:=nodup_le (l:=x::a) (m:=b) (List.nodup_cons.2 ⟨hn,ha⟩) (fun y hy=>by
  rcases List.mem_cons.1 hy with rfl|hy
  ·exact hx
  ·exact hs y hy)
 simp only [List.length_cons] at this
 omega
theorem regs_le {l:List Int} (hn:l.Nodup) (h:∀ r∈l,1≤r∧r≤4096):l.length≤4096:=by
 have:=nodup_le (m:=(List.range 4096).map fun k:Nat=>(k:Int)+1) hn (fun r hr=>by
  have:=h r hr
  exact List.mem_map.2 ⟨(r - 1).toNat,List.mem_range.2 (by omega),by omega⟩)
 simpa using this
/-- Strictly rising rows of the same members are one. -/
theorem rise_ext:∀ {a b:List Int},a.Pairwise (·<·)→b.Pairwise (·<·)→(∀ r,r∈a↔r∈b)→a=b
 | [],[],_,_,_=>rfl
 | [],y::b,_,_,h=>absurd ((h y).2 List.mem_cons_self) (by simp)
 | x::a,[],_,_,h=>absurd ((h x).1 List.mem_cons_self) (by simp)
 | x::a,y::b,ha,hb,h=>by
  rw [List.pairwise_cons] at ha hb
  have hxy:x=y:=by
   have h1:=(h x).1 List.mem_cons_self
   have h2:=(h y).2 List.mem_cons_self
   rcases List.mem_cons.1 h1 with h1|h1
   ·exact h1
   ·rcases List.mem_cons.1 h2 with h2|h2
    ·exact h2.symm
    ·have:=ha.1 y h2;have:=hb.1 x h1;omega
  subst hxy
  have:=rise_ext ha.2 hb.2 (fun r=>by
   have:=h r
   constructor
   ·intro hr
    rcases List.mem_cons.1 (this.1 (List.mem_cons_of_mem _ hr)) with e|e
    ·have:=ha.1 r hr;omega
    ·exact e
   ·intro hr
    rcases List.mem_cons.1 (this.2 (List.mem_cons_of_mem _ hr)) with e|e
    ·have:=hb.1 r hr;omega
    ·exact e)
  rw [this]
/-! ### Sizes of sets -/
/-- P holds of m numbers. -/
def Sz (P:Int→Prop) (m:Nat):Prop:=∃ l:List Int,l.Nodup∧(∀ r,r∈l↔P r)∧l.length=m
theorem Sz.le {P Q:Int→Prop} {a b:Nat} (h:Sz P a) (k:Sz Q b) (hs:∀ r,P r→Q r):a≤b:=by
 obtain ⟨l,h1,h2,rfl⟩:=h
 obtain ⟨m,k1,k2,rfl⟩:=k
 exact nodup_le h1 (fun x hx=>(k2 x).2 (hs x ((h2 x).1 hx)))
theorem Sz.same {P Q:Int→Prop} {a b:Nat} (h:Sz P a) (k:Sz Q b) (hs:∀ r,P r→Q r) (hl:b≤a):∀ r,Q r→P r:=by
 obtain ⟨l,h1,h2,rfl⟩:=h
 obtain ⟨m,k1,k2,rfl⟩:=k
 intro r hr
 exact (h2 r).1 (same_of_le h1 k1 (fun x hx=>(k2 x).2 (hs x ((h2 x).1 hx))) hl r ((k2 r).2 hr))
theorem Sz.uniq {P:Int→Prop} {a b:Nat} (h:Sz P a) (k:Sz P b):a=b:=Nat.le_antisymm (h.le k fun _ h=>h) (k.le h fun _ h=>h)
theorem Sz.regs {P:Int→Prop} {a:Nat} (h:Sz P a) (hr:∀ r,P r→1≤r∧r≤4096):a≤4096:=by
 obtain ⟨l,h1,h2,rfl⟩:=h
 exact regs_le h1 (fun r hr'=>hr r ((h2 r).1 hr'))
/-- The sets' sizes,together. -/
def Tot (I:Nat→Int→Prop) (n s:Nat):Prop:=∃ L:Nat→Nat,(∀ i,i<n→Sz (I i) (L i)∧L i≤4096)∧s=((List.range n).map L).sum
theorem sum_le (L:Nat→Nat) (b:Nat):∀ n,(∀ i,i<n→L i≤b)→((List.range n).map L).sum≤n*b
 | 0,_=>Nat.zero_le _
 | n+1,h=>by
  have:=sum_le L b n (fun i hi=>h i (by omega))
  have h2:=h n (by omega)
  rw [List.range_succ,List.map_append,List.sum_append,Nat.succ_mul]
  simp
  omega
theorem sum_set (L L' : Nat→Nat) (k:Nat):∀ n,(∀ i,i<n→i≠k→L' i=L i)→(k<n→L k<L' k)→(k<n→((List.range n).map L).sum<((List.range n).map L').sum)∧(n≤k→((List.range n).map L).sum=((List.range n).map L').sum)
 | 0,_,_=>⟨fun h=>absurd h (Nat.not_lt_zero _),fun _=>rfl⟩
 | n+1,h,hk=>by
  have ih:=sum_set L L' k n (fun i hi=>h i (by omega)) (fun hi=>hk (by omega))
  simp only [List.range_succ,List.map_append,List.sum_append,List.map_cons,List.map_nil,List.sum_cons,List.sum_nil,Nat.add_zero]
  refine ⟨fun hlt=>?_,fun hle=>?_⟩
  ·by_cases e:n=k
   ·subst e
    have:=ih.2 (Nat.le_refl _)
    have:=hk (by omega)
    omega
   ·have:=ih.1 (by omega)
    have:=h n (by omega) e
    omega
  ·have:=ih.2 (by omega)
   have:=h n (by omega) (by omega)
   omega
theorem Tot.le {I:Nat→Int→Prop} {n s:Nat} (h:Tot I n s):s≤n*4096:=by
 obtain ⟨L,h1,rfl⟩:=h
 exact sum_le L 4096 n (fun i hi=>(h1 i hi).2)
theorem Tot.set {I:Nat→Int→Prop} {n s k a b:Nat} {P:Int→Prop} (h:Tot I n s) (hk:k<n) (ha:Sz (I k) a) (hb:Sz P b) (hab:a<b) (hb4:b≤4096):∃ s',Tot (fun i r=>if i=k then P r else I i r) n s'∧s<s':=by
 obtain ⟨L,h1,rfl⟩:=h
 refine ⟨_,⟨fun i=>if i=k then b else L i,fun i hi=>?_,rfl⟩,?_⟩
 ·by_cases e:i=k
  ·simp only [if_pos e];exact ⟨hb,hb4⟩
  ·simp only [if_neg e];exact h1 i hi
 ·refine (sum_set L (fun i=>if i=k then b else L i) k n (fun i _ e=>if_neg e) (fun _=>?_)).1 hk
  simp only [if_pos]
  have:=(h1 k hk).1.uniq ha
  omega
theorem Tot.zero (n:Nat):Tot (fun _ _=>False) n ((List.range n).map fun _=>0).sum:=⟨fun _=>0,fun i hi=>⟨⟨[],List.nodup_nil,fun r=>by simp,rfl⟩,Nat.zero_le _⟩,rfl⟩
end Go.Lv
namespace Go.Lv
set_option linter.unusedVariables false
/-! ### What is live comes from somewhere,and is read somewhere -/
theorem Sz.imp {P Q:Int→Prop} {m:Nat} (h:Sz P m) (hq:∀ r,P r↔Q r):Sz Q m:=by
 obtain ⟨l,h1,h2,h3⟩:=h
 exact ⟨l,h1,fun r=>(h2 r).trans (hq r),h3⟩
end Go.Lv
namespace Go
open Go.RowKit
variable {F:Fence} {n:Nat} {P:Program}
set_option linter.unusedVariables false
/-- A range over a function whose round lays its variable in a block of its own (assign: one alloc),and whose body may write whatever lay ahead of the loop. -/
theorem wpIn_rangeFunc_ownGA {α:Type} {g:Operand} {ps:Array Tmp} {assign body:Code} {Q:Exit→Act→World→Prop} {a:Act} {w:World}
  (hro:F.round=none) (h1:1≤n) {gf:Nat} {lb:Array Value} (hg:a.eval g=.func (.func gf) #[] lb) (hFg:F.fn gf) (eg:∀ args w,(callFunc gf args).run P w=.ok (.enter gf args) w)
  {encs:α→Array Value} {Kp:World→World→Prop} {S Sp:List α→Prop} {N:Nat} {w0:World} (hseq:SeqStopsK F (n - 1) P gf lb encs Kp S Sp N w0)
  (hKt:∀ {A B C:World},Kp A B→Kp B C→Kp A C) (hKb:∀ (W:World) (l:Nat) (o o' : Obj),w.heap.size≤l→W.heap[l]?=some o→o.isCells=false→o.isWalk=false→Kp W (W.putObj l o')) (hb0:Below w0.heap.size w0 w) (hps:∀ x,(encs x).size=ps.size)
  (I:List α→World→Prop) (Ix:Code→List α→World→Prop) (hI:OwnFrom w.heap.size I) (hIx:∀ c,OwnFrom w.heap.size (Ix c)) (h0:I [] w) (a₁:α→Nat→Act) (mk:α→Obj) (hKa:∀ (W:World) (o:Obj),Kp W (W.alloc o))
  (hassign:∀ (l:Nat) (x:α) (W:World) (K:Act→World→Prop),K (a₁ x W.heap.size) (W.alloc (mk x)) →
   assign.wpIn (F.inRound l) (n - 1 - 1) P (Exit.then K (fun _ _ _=>False)) { tmps:=(ps.zip (encs x)).foldl (fun t (p,v)=>t.setIfInBounds p v) a.tmps,defers:=[] } W)
  (hbody:∀ (l:Nat) (pre:List α) (x:α) (W:World) (b:Nat),I pre W→pre.length<N→w.heap.size≤b→W.heap[b]?=some (mk x)→body.wpIn (F.inRound l) (n - 1 - 1) P (ownPostG w.heap.size Kp I Ix (pre++[x]) W) (a₁ x b) W)
  (hdone:∀ (D:Nat) (xs:List α) (W:World),w.heap.size≤D→S xs→I xs W→W.heap[D]?=some (.deferred (some []))→Q .normal { a with defers:={ target:=.collected D,args:=#[] }::a.defers } W)
  (hstop:∀ (D:Nat) (c:Code) (pre:List α) (W:World),w.heap.size≤D→Sp pre→Ix c pre W→W.heap[D]?=some (.deferred (some []))→c.wpIn F n P Q { a with defers:={ target:=.collected D,args:=#[] }::a.defers } W) :
  (Code.rangeFunc g ps assign body).wpIn F n P Q a w:=by
 refine wpIn_rangeFunc ?_
 intro fn hfn
 rw [hro]
 obtain ⟨rec,hrec⟩:∃ rec:LoopState→Option Code→Loop,rec=fun st pe=>{ state:=st,pending:=pe,fn,tmps:=a.tmps,params:=ps,assign,body,defers:=w.heap.size }:=⟨_,rfl⟩
 obtain ⟨W1,hW1⟩:∃ W1,(w.alloc (.deferred (some []))).alloc (.loop (rec .ready none))=W1:=⟨_,rfl⟩
 have hL1:W1.heap[w.heap.size+1]?=some (.loop (rec .ready none)):=by
  rw [← hW1];have:=World.alloc_heap_new (w.alloc (.deferred (some []))) (.loop (rec .ready none));rwa [World.size_alloc] at this
 have hK1:W1.heap[w.heap.size]?=some (.deferred (some [])):=by
  rw [← hW1];exact (Below.heap_alloc _ _ _ (by simp)).trans (World.alloc_heap_new w _)
 have hI1:I [] W1:=by rw [← hW1];exact hI.alloc _ (hI.alloc _ h0)
 have hb1:Below w0.heap.size w0 W1:=by
  rw [← hW1];exact hb0.trans ((((Below.refl _ w).alloc (Nat.le_refl _) _).alloc (by simp) _).mono hb0.size)
 refine ⟨w.heap.size+1,[{ target:=.collected w.heap.size,args:=#[] }],W1,{ target:=.fn (.func gf) lb,args:=#[.func (.yield (w.heap.size+1)) #[] #[]] },W1,gf,
  #[.func (.yield (w.heap.size+1)) #[] #[]]++lb,W1,?_,?_,?_,?_,fun _=>h1,?_⟩
 ·rw [← hW1,hrec];exact run_enterLoop_outer _ _ _ _ _
 ·simp only [resolve,hg]
  simp [go_sem]
 ·intro f' hf';simp [Target.leads] at hf';subst hf';exact hFg
 ·simp [invoke,go_sem,eg]
 ·-- THE ITERATOR's CONTRACT,AT THE CALLER's INVARIANT WITH THE TWO FACTS OF BOOK-KEEPING BESIDE IT
  have hnw:∀ {A B:World} {row:Option Nat},(∀ r,row=some r→W1.heap.size≤r∧∃ o:Obj,A.heap[r]?=some o∧o.isWalk=true)→(∀ r,row=some r→w.heap.size≤r∧∃ o:Obj,A.heap[r]?=some o∧o.isCells=false) :=
   fun hr r e=>by obtain ⟨hB,o,ho,hw⟩:=hr r e;exact ⟨by rw [← hW1] at hB;simp at hB;omega,o,ho,Obj.not_cells_of_walk hw⟩
  refine (hseq (w.heap.size+1)
   (fun pre W=>I pre W∧W.heap[w.heap.size+1]?=some (.loop (rec .ready none))∧W.heap[w.heap.size]?=some (.deferred (some [])))
   (fun pre W=>∃ c,Ix c pre W∧W.heap[w.heap.size+1]?=some (.loop (rec .done (some c)))∧W.heap[w.heap.size]?=some (.deferred (some [])))
   W1 hb1
   (fun s A B row hs hg' hr=>⟨hI s A B row hs.1 hg' (hnw (B:=B) hr),(grownBy_keeps hg' (fun r e=>(hr r e).2) hs.2.1 rfl).trans hs.2.1,(grownBy_keeps hg' (fun r e=>(hr r e).2) hs.2.2 rfl).trans hs.2.2⟩)
   (fun s A B row hs hg' hr=>by
    obtain ⟨c,hc,hl,hk⟩:=hs
    exact ⟨c,hIx c s A B row hc hg' (hnw (B:=B) hr),(grownBy_keeps hg' (fun r e=>(hr r e).2) hl rfl).trans hl,(grownBy_keeps hg' (fun r e=>(hr r e).2) hk rfl).trans hk⟩)
   ?_ ⟨hI1,hL1,hK1⟩).mono ?_
  ·-- ONE ROUND
   rintro pre x W0 ⟨hi0,hl0,hk0⟩ hlen
   have hlt0:w.heap.size+1<W0.heap.size:=(Array.getElem?_eq_some_iff.1 hl0).1
   have hy:=run_yield (P:=P) (args:=encs x) hl0 (by rw [hrec];exact hps x)
   rw [hrec] at hy
   obtain ⟨W,hW⟩:∃ W,W0.alloc (mk x)=W:=⟨_,rfl⟩
   have hi:I pre W:=by rw [← hW];exact hI.alloc _ hi0
   have hl:W.heap[w.heap.size+1]?=some (.loop (rec .ready none)):=by rw [← hW];exact (Below.heap_alloc _ _ _ hlt0).trans hl0
   have hk:W.heap[w.heap.size]?=some (.deferred (some [])):=by rw [← hW];exact (Below.heap_alloc _ _ _ (by omega)).trans hk0
   have hx:W.heap[W0.heap.size]?=some (mk x):=by rw [← hW];exact World.alloc_heap_new W0 _
   have hw0:Kp W0 W:=by rw [← hW];exact hKa _ _
   have hlt:w.heap.size+1<W.heap.size:=(Array.getElem?_eq_some_iff.1 hl).1
   refine ⟨fn,_,assign,body,hy,roundIn_of_wpIn hfn (hassign _ x W0 _ ?_)⟩
   rw [hW]
   refine ⟨_,run_beginRound hl (by rw [hrec]),?_⟩
   have hl2:(W.putObj (w.heap.size+1) (.loop { rec .ready none with state:=.busy })).heap[w.heap.size+1]?=some (.loop { rec .ready none with state:=.busy }):=World.putObj_heap_same hlt
   have hk2:(W.putObj (w.heap.size+1) (.loop { rec .ready none with state:=.busy })).heap[w.heap.size]?=some (.deferred (some [])):=(World.putObj_heap_other (by omega)).trans hk
   have hw2:Kp W0 (W.putObj (w.heap.size+1) (.loop { rec .ready none with state:=.busy })):=hKt hw0 (hKb _ _ _ _ (by omega) hl rfl rfl)
   refine wpIn_mono (hbody _ pre x _ W0.heap.size (hI.putObj _ hi (by omega) hl rfl) hlen (by omega) ((World.putObj_heap_other (by omega)).trans hx)) ?_
   have fin:∀ (jump:Option Code) (W3:World),KeepsFrom w.heap.size (W.putObj (w.heap.size+1) (.loop { rec .ready none with state:=.busy })) W3 →
     (Instr.endRound (w.heap.size+1) jump).run P W3=.ok (.bool jump.isNone) (W3.putObj (w.heap.size+1) (.loop (rec (if jump.isNone then .ready else .done) jump))) ∧
     W3.heap[w.heap.size+1]?=some (.loop { rec .ready none with state:=.busy }) ∧
     (W3.putObj (w.heap.size+1) (.loop (rec (if jump.isNone then .ready else .done) jump))).heap[w.heap.size+1]?=some (.loop (rec (if jump.isNone then .ready else .done) jump)) ∧
     (W3.putObj (w.heap.size+1) (.loop (rec (if jump.isNone then .ready else .done) jump))).heap[w.heap.size]?=some (.deferred (some [])):=fun jump W3 hk3=>by
    have hl3:=hk3.same _ _ (by omega) hl2 rfl
    have:=run_endRound (P:=P) jump hl3
    rw [hrec] at this ⊢
    exact ⟨this,by rw [hrec] at hl3;exact hl3,World.putObj_heap_same (Array.getElem?_eq_some_iff.1 hl3).1,(World.putObj_heap_other (by omega)).trans (hk3.same _ _ (Nat.le_refl _) hk2 rfl)⟩
   rintro e a3 W3 hp
   cases e with
   | normal =>
    obtain ⟨hk3,hkp3,hi3⟩:=hp
    obtain ⟨hr,hl3,hl4,hk4⟩:=fin none W3 hk3
    exact ⟨_,_,hr,.inl ⟨rfl,⟨hI.putObj _ hi3 (by omega) hl3 rfl,hl4,hk4⟩,hKt (hKt hw2 hkp3) (hKb _ _ _ _ (by omega) hl3 rfl rfl)⟩⟩
   | ret =>
    obtain ⟨hk3,hi3⟩:=hp
    obtain ⟨hr,hl3,hl4,hk4⟩:=fin (some .ret) W3 hk3
    exact ⟨_,_,hr,.inr ⟨rfl,.ret,(hIx _).putObj _ hi3 (by omega) hl3 rfl,hl4,hk4⟩⟩
   | exit id =>
    obtain ⟨hk3,hi3⟩:=hp
    obtain ⟨hr,hl3,hl4,hk4⟩:=fin (some (.exit id)) W3 hk3
    exact ⟨_,_,hr,.inr ⟨rfl,.exit id,(hIx _).putObj _ hi3 (by omega) hl3 rfl,hl4,hk4⟩⟩
   | goto t =>
    obtain ⟨hk3,hi3⟩:=hp
    obtain ⟨hr,hl3,hl4,hk4⟩:=fin (some (.goto t)) W3 hk3
    exact ⟨_,_,hr,.inr ⟨rfl,.goto t,(hIx _).putObj _ hi3 (by omega) hl3 rfl,hl4,hk4⟩⟩
   | panic ch=>exact hp.elim
   | outgrown=>exact hp.elim
  ·-- BEHIND THE ITERATOR
   rintro e W2 ⟨⟨v,rfl⟩,(⟨xs,hS,hi,hl,hk⟩|⟨pre,hSp,c,hi,hl,hk⟩)⟩
   ·exact ⟨none,_,by have:=run_endLoop (P:=P) hl (by rw [hrec];simp);rw [hrec] at this;exact this,hdone _ xs _ (Nat.le_refl _) hS (hI.putObj _ hi (by omega) hl rfl) ((World.putObj_heap_other (by omega)).trans hk)⟩
   ·exact ⟨some c,_,by have:=run_endLoop (P:=P) hl (by rw [hrec];simp);rw [hrec] at this;exact this,hstop _ c pre _ (Nat.le_refl _) hSp ((hIx c).putObj _ hi (by omega) hl rfl) ((World.putObj_heap_other (by omega)).trans hk)⟩
end Go
