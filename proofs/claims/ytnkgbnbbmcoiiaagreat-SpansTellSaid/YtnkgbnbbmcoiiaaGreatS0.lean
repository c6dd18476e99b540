import Derived.Test.YtnkgbnbbmcoiiaaGreatProg
import Derived.Below
import Derived.Deep.Draws
import Derived.Deep.AppendLies
import Derived.Maps.AppendAt
import Derived.OwnWalk
import Derived.Laws.BytesArg
import Derived.Laws.MakeOwn
import Derived.Laws.OwnMore
import Derived.Deep.OwnRows
import Derived.Tactics
import Derived.Lib.ConvBytes
import Derived.Laws.Slices
import Derived.WalkKit
import Derived.KernelRfl
import Derived.RowKit3
import Derived.Deep.LoopGhost
import Derived.Deep.QuietTactic
import Derived.BigQuiet
import Derived.WideLaws
import Derived.Deep.DeepCutAuto
import Derived.Deep.CutBlock
import Derived.Deep.RegionHeld3
import Derived.Laws.Rows
import Derived.Lib.AppendStr
import Derived.ArgAppend
import Derived.Laws.IdiomCopy
import Derived.OrdersHeld
import Derived.Laws.BitsLemmas
import Derived.RowKit
import Derived.Test.YtnkgbnbbmcoiiaaGreatWWords
import Derived.Test.YtnkgbnbbmcoiiaaGreatWLast
import Derived.Test.YtnkgbnbbmcoiiaaGreatWTab
import Derived.Test.YtnkgbnbbmcoiiaaGreatWQPut
import Derived.Test.YtnkgbnbbmcoiiaaGreatWApart
import Derived.Test.YtnkgbnbbmcoiiaaGreatWFoot
import Derived.Test.YtnkgbnbbmcoiiaaGreatWKept
import Derived.Test.YtnkgbnbbmcoiiaaGreatWShare
import Derived.Test.YtnkgbnbbmcoiiaaGreatWN
import Derived.Test.YtnkgbnbbmcoiiaaGreatWEqStruct
import Derived.Test.YtnkgbnbbmcoiiaaGreatWRepsOne
import Derived.Test.YtnkgbnbbmcoiiaaGreatWGuard
import Derived.Test.YtnkgbnbbmcoiiaaGreatWMore
-- a text of the seat,by a program
namespace Go.Proofs.YtnkgbnbbmcoiiaaGreat.S
open Go.RowKit Go.Proofs.YtnkgbnbbmcoiiaaGreatW.PrintWords Go.Proofs.YtnkgbnbbmcoiiaaGreatW.PrintLast Go.Proofs.YtnkgbnbbmcoiiaaGreatW.PrintMore
attribute [local go_sem] max2_int min2_int max_two min_two max_three min_three max_four min_four   -- for this text's walks alone
set_option linter.unusedVariables false
set_option linter.unusedSimpArgs false



def errW:Option Int→Value
 | none=>.nilIface
 | some c=>.iface 0 (.int .i64 c)
theorem errW_none:errW none=.nilIface:=rfl
theorem errW_some (c:Int):errW (some c)=.iface 0 (.int .i64 c):=rfl

theorem info3:(Tryz.prog.info? 3).map (fun i=>(i.zero,i.size,i.bytes))=some (some (.int .i64 0),1,8):=by kernel_rfl
theorem info31:(Tryz.prog.info? 31).map (fun i=>(i.zero,i.size,i.bytes))=some (some (.slice none 0 0),1,24):=by kernel_rfl
theorem info45:(Tryz.prog.info? 45).map (fun i=>(i.zero,i.size,i.bytes))=some (some (.agg #[(.int .i64 0),(.int .i64 0),(.int .i64 0),(.int .i64 0),(.int .i64 0),(.slice none 0 0)]),6,64):=by kernel_rfl
theorem info50:(Tryz.prog.info? 50).map (fun i=>(i.zero,i.size,i.bytes))=some (some (.agg #[(.slice none 0 0),(.int .i64 0),(.int .i64 0),(.int .i64 0),(.int .i64 0)]),5,56):=by kernel_rfl
-- the values' own types
def rd_L1 (xs:List (List Int)) (i:Int):(List Int):=xs.getD i.toNat ([]:List Int)
theorem at_L1 {w:World} {A:Option Addr} {n:Nat} {xs:List (List Int)} (h:Kd.C (Kd.slice 3 (Kd.int .i64)) w A n xs) (i:Int) (h0:0≤i) (h1:i<n):∃ ad A0 c0,A=some ad∧w.cell? (ad.add i.toNat)=some (.slice A0 (rd_L1 xs i).length c0)∧(rd_L1 xs i).length≤c0∧(Kd.int .i64).C w A0 (rd_L1 xs i).length (rd_L1 xs i):=by
 obtain ⟨ad,c,e,_,hK,hc0⟩:=Kd.C_get h ([]:List Int) i h0 h1
 have hc:∀ j u,c[j]?=some u→w.cell? (ad.add (i.toNat*1+j))=some u:=hc0
 obtain ⟨A0,c0,rfl,l0,g0⟩:=hK
 exact ⟨ad,A0,c0,e,by have hq:=hc 0 _ rfl;rwa [Nat.mul_one,Nat.add_zero] at hq,l0,g0⟩

/-! #### struct type 45 -/
structure S45 where
 f0:Int
 f1:Int
 f2:Int
 f3:Int
 f4:Int
 f5:(List Int)
def z45:S45:=⟨(0:Int),(0:Int),(0:Int),(0:Int),(0:Int),([]:List Int)⟩
def k45:Kd S45:=Kd.iso (Kd.pair (Kd.int .i64) (Kd.pair (Kd.int .i64) (Kd.pair (Kd.int .i64) (Kd.pair (Kd.int .i64) (Kd.pair (Kd.int .i64) (Kd.slice 3 (Kd.int .i64))))))) (fun x:S45=>(x.f0,x.f1,x.f2,x.f3,x.f4,x.f5))
theorem k45_open {w:World} {x:S45} {cs:List Value} (h:k45.K w x cs):∃ A5 c5,cs=[.int .i64 x.f0,.int .i64 x.f1,.int .i64 x.f2,.int .i64 x.f3,.int .i64 x.f4,.slice A5 x.f5.length c5]∧x.f5.length≤c5∧(Kd.int .i64).C w A5 x.f5.length x.f5:=by
 obtain ⟨_,_,rfl,rfl,⟨_,_,rfl,rfl,⟨_,_,rfl,rfl,⟨_,_,rfl,rfl,⟨_,_,rfl,rfl,⟨A5,c5,rfl,l5,g5⟩⟩⟩⟩⟩⟩:=h
 exact ⟨A5,c5,rfl,l5,g5⟩
theorem k45_mk (w:World) (x:S45) {A5:Option Addr} {c5:Nat} (l5:x.f5.length≤c5) (g5:(Kd.int .i64).C w A5 x.f5.length x.f5):k45.K w x [.int .i64 x.f0,.int .i64 x.f1,.int .i64 x.f2,.int .i64 x.f3,.int .i64 x.f4,.slice A5 x.f5.length c5]:=⟨[.int .i64 x.f0],[.int .i64 x.f1,.int .i64 x.f2,.int .i64 x.f3,.int .i64 x.f4,.slice A5 x.f5.length c5],rfl,rfl,⟨[.int .i64 x.f1],[.int .i64 x.f2,.int .i64 x.f3,.int .i64 x.f4,.slice A5 x.f5.length c5],rfl,rfl,⟨[.int .i64 x.f2],[.int .i64 x.f3,.int .i64 x.f4,.slice A5 x.f5.length c5],rfl,rfl,⟨[.int .i64 x.f3],[.int .i64 x.f4,.slice A5 x.f5.length c5],rfl,rfl,⟨[.int .i64 x.f4],[.slice A5 x.f5.length c5],rfl,rfl,⟨A5,c5,rfl,l5,g5⟩⟩⟩⟩⟩⟩
theorem k45_mkM (w:World) (base:Nat) (ok:Nat→Prop) (x:S45) {v5:Value} (g5:(Kd.int .i64).R 3 w base ok v5 x.f5):k45.M w base ok x [.int .i64 x.f0,.int .i64 x.f1,.int .i64 x.f2,.int .i64 x.f3,.int .i64 x.f4,v5]:=⟨[.int .i64 x.f0],[.int .i64 x.f1,.int .i64 x.f2,.int .i64 x.f3,.int .i64 x.f4,v5],rfl,rfl,⟨[.int .i64 x.f1],[.int .i64 x.f2,.int .i64 x.f3,.int .i64 x.f4,v5],rfl,rfl,⟨[.int .i64 x.f2],[.int .i64 x.f3,.int .i64 x.f4,v5],rfl,rfl,⟨[.int .i64 x.f3],[.int .i64 x.f4,v5],rfl,rfl,⟨[.int .i64 x.f4],[v5],rfl,rfl,⟨v5,rfl,g5⟩⟩⟩⟩⟩⟩
def rd_T45 (xs:List S45) (i:Int):S45:=xs.getD i.toNat z45
theorem at_T45 {w:World} {A:Option Addr} {n:Nat} {xs:List S45} (h:Kd.C k45 w A n xs) (i:Int) (h0:0≤i) (h1:i<n):∃ ad A5 c5,A=some ad∧w.cell? (ad.add (i.toNat*6))=some (.int .i64 (rd_T45 xs i).f0)∧w.cell? ⟨(ad.add (i.toNat*6)).block,(ad.add (i.toNat*6)).off+1,none⟩=some (.int .i64 (rd_T45 xs i).f1)∧w.cell? ⟨(ad.add (i.toNat*6)).block,(ad.add (i.toNat*6)).off+2,none⟩=some (.int .i64 (rd_T45 xs i).f2)∧w.cell? ⟨(ad.add (i.toNat*6)).block,(ad.add (i.toNat*6)).off+3,none⟩=some (.int .i64 (rd_T45 xs i).f3)∧w.cell? ⟨(ad.add (i.toNat*6)).block,(ad.add (i.toNat*6)).off+4,none⟩=some (.int .i64 (rd_T45 xs i).f4)∧w.cell? ⟨(ad.add (i.toNat*6)).block,(ad.add (i.toNat*6)).off+5,none⟩=some (.slice A5 (rd_T45 xs i).f5.length c5)∧(rd_T45 xs i).f5.length≤c5∧(Kd.int .i64).C w A5 (rd_T45 xs i).f5.length (rd_T45 xs i).f5:=by
 obtain ⟨ad,c,e,_,hK,hc0⟩:=Kd.C_get h z45 i h0 h1
 have hc:∀ j u,c[j]?=some u→w.cell? (ad.add (i.toNat*6+j))=some u:=hc0
 obtain ⟨A5,c5,rfl,l5,g5⟩:=k45_open hK
 exact ⟨ad,A5,c5,e,hc 0 _ rfl,by rw [← add_field _ _ 1 (by omega)];exact hc 1 _ rfl,by rw [← add_field _ _ 2 (by omega)];exact hc 2 _ rfl,by rw [← add_field _ _ 3 (by omega)];exact hc 3 _ rfl,by rw [← add_field _ _ 4 (by omega)];exact hc 4 _ rfl,by rw [← add_field _ _ 5 (by omega)];exact hc 5 _ rfl,l5,g5⟩

/-! #### struct type 48 -/
structure S48 where
 f0:Int
 f1:Int
 f2:Int
 f3:Int
def z48:S48:=⟨(0:Int),(0:Int),(0:Int),(0:Int)⟩
def k48:Kd S48:=Kd.iso (Kd.pair (Kd.int .i64) (Kd.pair (Kd.int .i64) (Kd.pair (Kd.int .i64) (Kd.int .i64)))) (fun x:S48=>(x.f0,x.f1,x.f2,x.f3))
theorem k48_open {w:World} {x:S48} {cs:List Value} (h:k48.K w x cs):cs=[.int .i64 x.f0,.int .i64 x.f1,.int .i64 x.f2,.int .i64 x.f3]:=by
 obtain ⟨_,_,rfl,rfl,⟨_,_,rfl,rfl,⟨_,_,rfl,rfl,rfl⟩⟩⟩:=h
 exact rfl
theorem k48_mk (w:World) (x:S48)  : k48.K w x [.int .i64 x.f0,.int .i64 x.f1,.int .i64 x.f2,.int .i64 x.f3]:=⟨[.int .i64 x.f0],[.int .i64 x.f1,.int .i64 x.f2,.int .i64 x.f3],rfl,rfl,⟨[.int .i64 x.f1],[.int .i64 x.f2,.int .i64 x.f3],rfl,rfl,⟨[.int .i64 x.f2],[.int .i64 x.f3],rfl,rfl,rfl⟩⟩⟩
theorem k48_mkM (w:World) (base:Nat) (ok:Nat→Prop) (x:S48)  : k48.M w base ok x [.int .i64 x.f0,.int .i64 x.f1,.int .i64 x.f2,.int .i64 x.f3]:=⟨[.int .i64 x.f0],[.int .i64 x.f1,.int .i64 x.f2,.int .i64 x.f3],rfl,rfl,⟨[.int .i64 x.f1],[.int .i64 x.f2,.int .i64 x.f3],rfl,rfl,⟨[.int .i64 x.f2],[.int .i64 x.f3],rfl,rfl,rfl⟩⟩⟩
/-! #### struct type 50 -/
structure S50 where
 f0:(List S45)
 f1:S48
def z50:S50:=⟨([]:List S45),z48⟩
def k50:Kd S50:=Kd.iso (Kd.pair (Kd.slice 45 k45) k48) (fun x:S50=>(x.f0,x.f1))
theorem k50_open {w:World} {x:S50} {cs:List Value} (h:k50.K w x cs):∃ A0 c0,cs=[.slice A0 x.f0.length c0,.int .i64 x.f1.f0,.int .i64 x.f1.f1,.int .i64 x.f1.f2,.int .i64 x.f1.f3]∧x.f0.length≤c0∧k45.C w A0 x.f0.length x.f0:=by
 obtain ⟨_,_,rfl,⟨A0,c0,rfl,l0,g0⟩,s1⟩:=h
 obtain rfl:=k48_open s1
 exact ⟨A0,c0,rfl,l0,g0⟩
theorem k50_mk (w:World) (x:S50) {A0:Option Addr} {c0:Nat} (l0:x.f0.length≤c0) (g0:k45.C w A0 x.f0.length x.f0):k50.K w x [.slice A0 x.f0.length c0,.int .i64 x.f1.f0,.int .i64 x.f1.f1,.int .i64 x.f1.f2,.int .i64 x.f1.f3]:=⟨[.slice A0 x.f0.length c0],[.int .i64 x.f1.f0,.int .i64 x.f1.f1,.int .i64 x.f1.f2,.int .i64 x.f1.f3],rfl,⟨A0,c0,rfl,l0,g0⟩,(k48_mk w x.f1 )⟩
theorem k50_mkM (w:World) (base:Nat) (ok:Nat→Prop) (x:S50) {v0:Value} (g0:k45.R 45 w base ok v0 x.f0):k50.M w base ok x [v0,.int .i64 x.f1.f0,.int .i64 x.f1.f1,.int .i64 x.f1.f2,.int .i64 x.f1.f3]:=⟨[v0],[.int .i64 x.f1.f0,.int .i64 x.f1.f1,.int .i64 x.f1.f2,.int .i64 x.f1.f3],rfl,⟨v0,rfl,g0⟩,(k48_mkM w base ok x.f1 )⟩
def rd_T50 (xs:List S50) (i:Int):S50:=xs.getD i.toNat z50
theorem at_T50 {w:World} {A:Option Addr} {n:Nat} {xs:List S50} (h:Kd.C k50 w A n xs) (i:Int) (h0:0≤i) (h1:i<n):∃ ad A0 c0,A=some ad∧w.cell? (ad.add (i.toNat*5))=some (.slice A0 (rd_T50 xs i).f0.length c0)∧w.cell? ⟨(ad.add (i.toNat*5)).block,(ad.add (i.toNat*5)).off+1,none⟩=some (.int .i64 (rd_T50 xs i).f1.f0)∧w.cell? ⟨(ad.add (i.toNat*5)).block,(ad.add (i.toNat*5)).off+2,none⟩=some (.int .i64 (rd_T50 xs i).f1.f1)∧w.cell? ⟨(ad.add (i.toNat*5)).block,(ad.add (i.toNat*5)).off+3,none⟩=some (.int .i64 (rd_T50 xs i).f1.f2)∧w.cell? ⟨(ad.add (i.toNat*5)).block,(ad.add (i.toNat*5)).off+4,none⟩=some (.int .i64 (rd_T50 xs i).f1.f3)∧(rd_T50 xs i).f0.length≤c0∧k45.C w A0 (rd_T50 xs i).f0.length (rd_T50 xs i).f0:=by
 obtain ⟨ad,c,e,_,hK,hc0⟩:=Kd.C_get h z50 i h0 h1
 have hc:∀ j u,c[j]?=some u→w.cell? (ad.add (i.toNat*5+j))=some u:=hc0
 obtain ⟨A0,c0,rfl,l0,g0⟩:=k50_open hK
 exact ⟨ad,A0,c0,e,hc 0 _ rfl,by rw [← add_field _ _ 1 (by omega)];exact hc 1 _ rfl,by rw [← add_field _ _ 2 (by omega)];exact hc 2 _ rfl,by rw [← add_field _ _ 3 (by omega)];exact hc 3 _ rfl,by rw [← add_field _ _ 4 (by omega)];exact hc 4 _ rfl,l0,g0⟩

/-! #### struct type 52 -/
structure S52 where
 f0:Int
 f1:Int
 f2:Int
def z52:S52:=⟨(0:Int),(0:Int),(0:Int)⟩
def k52:Kd S52:=Kd.iso (Kd.pair (Kd.int .i64) (Kd.pair (Kd.int .i64) (Kd.int .i64))) (fun x:S52=>(x.f0,x.f1,x.f2))
theorem k52_open {w:World} {x:S52} {cs:List Value} (h:k52.K w x cs):cs=[.int .i64 x.f0,.int .i64 x.f1,.int .i64 x.f2]:=by
 obtain ⟨_,_,rfl,rfl,⟨_,_,rfl,rfl,rfl⟩⟩:=h
 exact rfl
theorem k52_mk (w:World) (x:S52)  : k52.K w x [.int .i64 x.f0,.int .i64 x.f1,.int .i64 x.f2]:=⟨[.int .i64 x.f0],[.int .i64 x.f1,.int .i64 x.f2],rfl,rfl,⟨[.int .i64 x.f1],[.int .i64 x.f2],rfl,rfl,rfl⟩⟩
theorem k52_mkM (w:World) (base:Nat) (ok:Nat→Prop) (x:S52)  : k52.M w base ok x [.int .i64 x.f0,.int .i64 x.f1,.int .i64 x.f2]:=⟨[.int .i64 x.f0],[.int .i64 x.f1,.int .i64 x.f2],rfl,rfl,⟨[.int .i64 x.f1],[.int .i64 x.f2],rfl,rfl,rfl⟩⟩
def rd_T52 (xs:List S52) (i:Int):S52:=xs.getD i.toNat z52
theorem at_T52 {w:World} {A:Option Addr} {n:Nat} {xs:List S52} (h:Kd.C k52 w A n xs) (i:Int) (h0:0≤i) (h1:i<n):∃ ad ,A=some ad∧w.cell? (ad.add (i.toNat*3))=some (.int .i64 (rd_T52 xs i).f0)∧w.cell? ⟨(ad.add (i.toNat*3)).block,(ad.add (i.toNat*3)).off+1,none⟩=some (.int .i64 (rd_T52 xs i).f1)∧w.cell? ⟨(ad.add (i.toNat*3)).block,(ad.add (i.toNat*3)).off+2,none⟩=some (.int .i64 (rd_T52 xs i).f2):=by
 obtain ⟨ad,c,e,_,hK,hc0⟩:=Kd.C_get h z52 i h0 h1
 have hc:∀ j u,c[j]?=some u→w.cell? (ad.add (i.toNat*3+j))=some u:=hc0
 obtain rfl:=k52_open hK
 exact ⟨ad,e,hc 0 _ rfl,by rw [← add_field _ _ 1 (by omega)];exact hc 1 _ rfl,by rw [← add_field _ _ 2 (by omega)];exact hc 2 _ rfl⟩

/-! #### struct type 24 -/
structure S24 where
 f0:Int
 f1:(List S50)
def z24:S24:=⟨(0:Int),([]:List S50)⟩
