import Derived.Test.YtnkgbnbbmcoiiaaGreatBk
import Derived.Test.YtnkgbnbbmcoiiaaGreatLsm
import Derived.Test.YtnkgbnbbmcoiiaaGreatS5
import Derived.Test.YtnkgbnbbmcoiiaaGreatS7
import Derived.Test.YtnkgbnbbmcoiiaaGreatS8
namespace Go.Proofs.YtnkgbnbbmcoiiaaGreat.S
open Go.RowKit Go.IM Go.Proofs.YtnkgbnbbmcoiiaaGreatW.PrintWords Go.Proofs.YtnkgbnbbmcoiiaaGreatW.PrintLast Go.Proofs.YtnkgbnbbmcoiiaaGreatW.PrintMore
set_option linter.unusedVariables false
set_option linter.unusedSimpArgs false
/-! ### spans.Calls -/
def callsP (bs:List S50) (qs:List (Nat × Nat)):List Int:=(qs.filter fun q=>decide ((opOf bs q).f0=7)).map fun q=>(pos bs q.1:Int)+(q.2:Int)
theorem callsP_snoc (bs:List S50) (qs:List (Nat × Nat)) (j k:Nat):callsP bs (qs++[(j,k)])=if (opOf bs (j,k)).f0=7 then callsP bs qs++[(pos bs j:Int)+(k:Int)] else callsP bs qs:=by
 unfold callsP
 rw [List.filter_append,List.map_append]
 by_cases h:(opOf bs (j,k)).f0=7<;>simp [h]
theorem callsP_len (bs:List S50) (qs:List (Nat × Nat)):(callsP bs qs).length≤qs.length:=by
 unfold callsP
 rw [List.length_map]
 exact List.length_filter_le _ _
theorem part_le {p:Int} {bs:List S50} (h:RightP p bs 256) {j k:Nat} (hj:j<bs.length) (hk:k≤opLen bs j):(plcs bs j++rowP j k).length≤16384:=by
 obtain ⟨rest,hr⟩:=part_prefix hj hk
 have h1:=congrArg List.length hr
 have h2:=h.few
 rw [List.length_append] at h1
 omega
set_option maxHeartbeats 8000000 in
set_option maxRecDepth 100000 in
theorem calls_ok (p:Int) (A:Option Addr) (c:Nat) (bs:List S50) (w:World) (hC:Kd.C k50 w A bs.length bs) (hc:bs.length≤c) (hR:rightF p bs 256=true) :
  Calls Tryz.prog 15 #[.agg #[.int .i64 p,.slice A bs.length c]] w fun e w'=>∃ v,e=.returned v∧w'.ownsRow w.heap.size 3 1 v (callsP bs (plcs bs bs.length)).length (nums .i64 (callsP bs (plcs bs bs.length)))∧Below w.heap.size w w':=by
 have hu34:=Tryz.underlying24
 have hu43:=Tryz.underlying50
 have hu45:=Tryz.underlying45
 have RP:=ak_ (rightF_iff hR)
 have HR:=ak_ hR
 have HC:=ak_ hC
 have HCc:=ak_ hc
 have HB0:=ak_ (below_alloc (Below.refl w.heap.size w) (.cells #[.int .i64 p,.slice A bs.length c] 24))
 have HF0:=ak_ (blk_new w (.cells #[.int .i64 p,.slice A bs.length c] 24))
 have hb34:=RP.out.len.2
 clear hC hR hc
 go_enter Tryz.func15,Tryz.ntmps15
 go_wp2_with (go_at_call 11;refine (number_ok p A c bs _ (Kd.C_below HC.out HB0.out) HCc.out HR.out).mono ?_;rintro e w1 ⟨adn,cn,rfl,hcn,hb⟩;have HN1:=ak_ hcn;have HB1:=ak_ (below_then HB0.out HB0.out.size hb);have HF1:=ak_ (blk_below HF0.out hb);have c0:=bc_ HF1 0;have c1:=bc_ HF1 1;simp only [ga_,gb_,gc_] at c0 c1;have hnil:=eq28nil adn (numL bs).length cn w1;clear hb hcn)
 clear c0 c1 hnil
 have HLN:Aside0 ((numL bs).length=bs.length+1):=⟨numL_length bs⟩
 go_loopw [4,16] (fun v i wr=>∃ j:Nat,j≤bs.length∧i=.int .i64 (j:Int)∧Aside0 (wr.ownsRow w1.heap.size 3 1 v (callsP bs (plcs bs j)).length (nums .i64 (callsP bs (plcs bs j))))∧Aside0 (Below w1.heap.size w1 wr)) (fun _ i _=>bs.length - (intOf i).toNat)
 case atStart=>exact ⟨0,Nat.zero_le _,rfl,⟨own_nil _ _ _ _⟩,⟨Below.refl _ _⟩⟩
 case round =>
  obtain ⟨j,hj,rfl,HO,HB⟩:=hrel
  by_cases hlt:j<bs.length
  ·have b1:decide ((j:Int)<(bs.length:Int))=true:=decide_eq_true (Int.ofNat_lt.2 hlt)
   have hw1:wrap64 ((j:Int)+1)=(j:Int)+1:=(wr3 (z:=0) (by decide) (by omega)).2.2
   have hn0:j<(numL bs).length:=by rw [HLN.out];omega
   obtain ⟨ad,A5,c5,eA,h0,h1,h2,h3,h4,l5,g5⟩:=at_T50 HC.out (j:Int) (Int.natCast_nonneg j) (Int.ofNat_lt.2 hlt)
   simp only [Int.toNat_natCast] at h0 h1 h2 h3 h4
   have hbw:=below_then HB1.out HB1.out.size HB.out
   have h0:=pw_cell_below hbw h0
   have h1:=pw_cell_below hbw h1
   have h2:=pw_cell_below hbw h2
   have h3:=pw_cell_below hbw h3
   have h4:=pw_cell_below hbw h4
   clear hbw
   subst eA
   have HG5:=ak_ g5
   have HOL:Aside0 (opLen bs j=(rd_T50 bs (j:Int)).f0.length):=⟨rfl⟩
   have HOP:Aside0 (∀ k:Nat,opOf bs (j,k)=rd_T45 (rd_T50 bs (j:Int)).f0 (k:Int)):=⟨fun k=>rfl⟩
   have HXL:Aside0 ((rd_T50 bs (j:Int)).f0.length≤16384):=⟨RP.out.opLen_le j⟩
   have HZL:=ak_ (pos_le RP.out hj)
   have HPL:Aside0 (∀ k,k≤opLen bs j→(callsP bs (plcs bs j++rowP j k)).length≤16384):=⟨fun k hk=>Nat.le_trans (callsP_len _ _) (part_le RP.out hlt hk)⟩
   have HST:=ak_ (fun k:Nat=>callsP_snoc bs (plcs bs j++rowP j k) j k)
   clear g5
   generalize (rd_T50 bs (j:Int)).f0=xs at h0 l5 HG5 HOL HOP HXL
   go_wp2_with fail
   have HO2:=ak_ (own_alloc HO.out (.cells #[.slice A5 xs.length c5,.int .i64 (rd_T50 bs (j:Int)).f1.f0,.int .i64 (rd_T50 bs (j:Int)).f1.f1,.int .i64 (rd_T50 bs (j:Int)).f1.f2,.int .i64 (rd_T50 bs (j:Int)).f1.f3] 50))
   have HB2:=ak_ (below_alloc HB.out (.cells #[.slice A5 xs.length c5,.int .i64 (rd_T50 bs (j:Int)).f1.f0,.int .i64 (rd_T50 bs (j:Int)).f1.f1,.int .i64 (rd_T50 bs (j:Int)).f1.f2,.int .i64 (rd_T50 bs (j:Int)).f1.f3] 50))
   clear HO HB h0 h1 h2 h3 h4 b1
   go_loopw [4,24] (fun v i wi=>∃ k:Nat,k≤xs.length∧i=.int .i64 (k:Int)∧Aside0 (wi.ownsRow w1.heap.size 3 1 v (callsP bs (plcs bs j++rowP j k)).length (nums .i64 (callsP bs (plcs bs j++rowP j k))))∧Aside0 (Below w1.heap.size w1 wi)) (fun _ i _=>xs.length - (intOf i).toNat)
   case atStart=>exact ⟨0,Nat.zero_le _,rfl,⟨by rw [rowP_zero,List.append_nil];exact HO2.out⟩,HB2⟩
   case round =>
    clear HO2 HB2
    obtain ⟨k,hk,rfl,HO,HB⟩:=hrel
    by_cases hlk:k<xs.length
    ·have b2:decide ((k:Int)<(xs.length:Int))=true:=decide_eq_true (Int.ofNat_lt.2 hlk)
     have HWK:=wr3 HZL.out (Nat.le_trans (Nat.le_of_lt hlk) HXL.out)
     have hw3:=HWK.1
     have hw5:=HWK.2.2
     clear HWK
     obtain ⟨adk,A6,c6,eA,x0,x1,x2,x3,x4,x5,x6,x7⟩:=at_T45 (Kd.C_below HG5.out (below_then HB1.out HB1.out.size HB.out)) (k:Int) (Int.natCast_nonneg k) (Int.ofNat_lt.2 hlk)
     simp only [Int.toNat_natCast] at x0 x1 x2 x3 x4 x5
     subst eA
     have HS:=ak_ (HST.out k)
     rw [HOP.out k] at HS
     have HL:=ak_ (HPL.out k (by rw [HOL.out];exact hk))
     generalize rd_T45 xs (k:Int)=x at x0 x1 x2 x3 x4 x5 x6 x7 HS
     clear x6 x7
     have hblk:=blk_new wr (.cells #[.int .i64 x.f0,.int .i64 x.f1,.int .i64 x.f2,.int .i64 x.f3,.int .i64 x.f4,.slice A6 x.f5.length c6] 45)
     have HB3:=ak_ (below_alloc HB.out (.cells #[.int .i64 x.f0,.int .i64 x.f1,.int .i64 x.f2,.int .i64 x.f3,.int .i64 x.f4,.slice A6 x.f5.length c6] 45))
     have HO3:=ak_ (own_alloc HO.out (.cells #[.int .i64 x.f0,.int .i64 x.f1,.int .i64 x.f2,.int .i64 x.f3,.int .i64 x.f4,.slice A6 x.f5.length c6] 45))
     have n0:=num_cell (Kd.C_below HN1.out HB3.out) HLN.out (j:=j) hj
     by_cases h7:x.f0=7
     ·have b3:decide (x.f0=7)=true:=decide_eq_true h7
      have b4:(x.f0 == 7)=true:=by rw [h7];rfl
      have HS2:Aside0 (callsP bs (plcs bs j++rowP j (k+1))=callsP bs (plcs bs j++rowP j k)++[(pos bs j:Int)+(k:Int)]):=⟨by rw [rowP_succ,← List.append_assoc,HS.out,if_pos h7]⟩
      clear h7
      generalize pos bs j=z0 at n0 hw3 HS2
      generalize callsP bs (plcs bs j++rowP j k)=L at HO HO3 HL HS2
      go_wp2_with (at_builtin;refine print_append_num w1.heap.size rfl _ _ 31 3 .i64 8 rfl Tryz.underlying31 (by kernel_rfl) (by decide) u4 L ((z0:Int)+(k:Int)) rfl (by rw [World.size_alloc];rfl) HO3.out HB3.out HB3.out.size (by have:=HL.out;omega) ?_;intro v1 w5 hown hB1 hg1 hat;have HO5:=ak_ hown;have HB5:=ak_ hB1;clear hown hB1 hg1 hat)
      go_roundw
      case rel=>exact ⟨k+1,hlk,by first|(rw [hw5];exact num_cast k)|(with_reducible exact num_cast k),⟨by rw [HS2.out];exact HO5.out⟩,HB5⟩
      case measure=>first|(rw [hw5];exact num_meas hlk)|(with_reducible exact num_meas hlk)
     ·have b3:decide (x.f0=7)=false:=decide_eq_false h7
      have b4:(x.f0 == 7)=false:=by simpa using h7
      have HS2:Aside0 (callsP bs (plcs bs j++rowP j (k+1))=callsP bs (plcs bs j++rowP j k)):=⟨by rw [rowP_succ,← List.append_assoc,HS.out,if_neg h7]⟩
      clear h7
      go_wp2_with fail
      go_roundw
      case rel=>exact ⟨k+1,hlk,by first|(rw [hw5];exact num_cast k)|(with_reducible exact num_cast k),⟨by rw [HS2.out];exact HO3.out⟩,HB3⟩
      case measure=>first|(rw [hw5];exact num_meas hlk)|(with_reducible exact num_meas hlk)
    ·have b2:decide ((k:Int)<(xs.length:Int))=false:=decide_eq_false (fun h=>hlk (Int.ofNat_lt.1 h))
     have ek:k=xs.length:=Nat.le_antisymm hk (Nat.le_of_not_lt hlk)
     have HF:Aside0 (callsP bs (plcs bs j++rowP j k)=callsP bs (plcs bs (j+1))):=⟨by rw [plcs_succ,HOL.out,ek]⟩
     rw [HF.out] at HO
     clear ek HF
     go_wp2_with fail
     go_roundw
     case rel=>exact ⟨j+1,hlt,by first|(rw [hw1];exact num_cast j)|(with_reducible exact num_cast j),HO,HB⟩
     case measure=>first|(rw [hw1];exact num_meas hlt)|(with_reducible exact num_meas hlt)
  ·have b1:decide ((j:Int)<(bs.length:Int))=false:=decide_eq_false (fun h=>hlt (Int.ofNat_lt.1 h))
   obtain rfl:j=bs.length:=Nat.le_antisymm hj (Nat.le_of_not_lt hlt)
   go_wp2_with fail
   go_ret
   exact ⟨_,rfl,own_less HO.out HB1.out.size,below_then HB1.out HB1.out.size HB.out⟩
/-! ### swagelaw25.small -/
theorem C0 (w:World):Kd.C (Kd.int .i64) w none 0 ([]:List Int):=⟨rfl,by decide,fun h=>absurd h (by decide)⟩
theorem opsC {W:World} {g:Nat} (h:W.heap[g]?=some (.cells #[.int .i64 1,.int .i64 1,.int .i64 0,.int .i64 0,.int .i64 4,.slice none 0 0,.int .i64 9,.int .i64 0,.int .i64 1,.int .i64 0,.int .i64 0,.slice none 0 0] 45 (0,0))) :
  Kd.C k45 W (some ⟨g,0,none⟩) 2 [⟨1,1,0,0,4,[]⟩,⟨9,0,1,0,0,[]⟩]:=by
 refine ⟨rfl,by decide,fun _=>⟨_,rfl,fun j p hj=>?_⟩⟩
 have hcell:∀ n,W.cell? ⟨g,n,none⟩=_:=fun n=>blk_cell h n
 match j,hj with
 | 0,hj =>
  cases hj
  refine ⟨_,rfl,k45_mk W ⟨1,1,0,0,4,[]⟩ (c5:=0) (Nat.le_refl _) (C0 W),fun i u hi=>?_⟩
  match i,hi with
  | 0,hi=>cases hi;exact hcell 0
  | 1,hi=>cases hi;exact hcell 1
  | 2,hi=>cases hi;exact hcell 2
  | 3,hi=>cases hi;exact hcell 3
  | 4,hi=>cases hi;exact hcell 4
  | 5,hi=>cases hi;exact hcell 5
  | i+6,hi=>simp at hi
 | 1,hj =>
  cases hj
  refine ⟨_,rfl,k45_mk W ⟨9,0,1,0,0,[]⟩ (c5:=0) (Nat.le_refl _) (C0 W),fun i u hi=>?_⟩
  match i,hi with
  | 0,hi=>cases hi;exact hcell 6
  | 1,hi=>cases hi;exact hcell 7
  | 2,hi=>cases hi;exact hcell 8
  | 3,hi=>cases hi;exact hcell 9
  | 4,hi=>cases hi;exact hcell 10
  | 5,hi=>cases hi;exact hcell 11
  | i+6,hi=>simp at hi
 | j+2,hj=>simp at hj
theorem blkC {W:World} {g g' : Nat} (h:W.heap[g]?=some (.cells #[.int .i64 1,.int .i64 1,.int .i64 0,.int .i64 0,.int .i64 4,.slice none 0 0,.int .i64 9,.int .i64 0,.int .i64 1,.int .i64 0,.int .i64 0,.slice none 0 0] 45 (0,0)))
  (h' : W.heap[g']?=some (.cells #[.slice (some ⟨g,0,none⟩) 2 2,.int .i64 3,.int .i64 1,.int .i64 0,.int .i64 0] 50 (0,0))):Kd.C k50 W (some ⟨g',0,none⟩) 1 bsS:=by
 refine ⟨rfl,by decide,fun _=>⟨_,rfl,fun j p hj=>?_⟩⟩
 have hcell:∀ n,W.cell? ⟨g',n,none⟩=_:=fun n=>blk_cell h' n
 match j,hj with
 | 0,hj =>
  cases hj
  refine ⟨_,rfl,k50_mk W ⟨[⟨1,1,0,0,4,[]⟩,⟨9,0,1,0,0,[]⟩],⟨3,1,0,0⟩⟩ (c0:=2) (Nat.le_refl _) (opsC h),fun i u hi=>?_⟩
  match i,hi with
  | 0,hi=>cases hi;exact hcell 0
  | 1,hi=>cases hi;exact hcell 1
  | 2,hi=>cases hi;exact hcell 2
  | 3,hi=>cases hi;exact hcell 3
  | 4,hi=>cases hi;exact hcell 4
  | i+5,hi=>simp at hi
 | j+1,hj=>simp [bsS] at hj
theorem spC {W:World} {g:Nat} (h:W.heap[g]?=some (.cells #[.int .i64 1,.int .i64 1,.int .i64 2] 52 (0,0))):Kd.C k52 W (some ⟨g,0,none⟩) 1 [⟨1,1,2⟩]:=by
 refine ⟨rfl,by decide,fun _=>⟨_,rfl,fun j p hj=>?_⟩⟩
 have hcell:∀ n,W.cell? ⟨g,n,none⟩=_:=fun n=>blk_cell h n
 match j,hj with
 | 0,hj =>
  cases hj
  refine ⟨_,rfl,k52_mk W ⟨1,1,2⟩,fun i u hi=>?_⟩
  match i,hi with
  | 0,hi=>cases hi;exact hcell 0
  | 1,hi=>cases hi;exact hcell 1
  | 2,hi=>cases hi;exact hcell 2
  | i+3,hi=>simp at hi
 | j+1,hj=>simp at hj
theorem sm_same:swageref25_Same.f 5 [⟨1,1,2⟩] [⟨1,1,2⟩]=some true:=by decide +kernel
theorem sm_ints:swageref02_Ints.f 5 [0,3] [0,3]=some true:=by decide +kernel
theorem sm_ints2:swageref02_Ints.f 5 [1] [1]=some true:=by decide +kernel
theorem sm_cross:spans_Cross.f 0 1 3 0 3 4=some true:=by decide +kernel
theorem sm_cross2:spans_Cross.f 0 1 2 0 3 4=some false:=by decide +kernel
theorem sm_calls:callsP bsS (plcs bsS bsS.length)=[]:=by decide +kernel
theorem number_ok2 (p:Int) (A:Option Addr) (c:Nat) (bs:List S50) (w:World) (hC:Kd.C k50 w A bs.length bs) (hc:bs.length≤c) (hR:rightF p bs 256=true) :
  Calls Tryz.prog 11 #[.agg #[.int .i64 p,.slice A bs.length c]] w fun e w'=>∃ ad c1,e=.returned (.slice (some ad) (numL bs).length c1)∧(numL bs).length≤c1∧Kd.C (Kd.int .i64) w' (some ad) (numL bs).length (numL bs)∧Below w.heap.size w w':=by
 refine (spans_Number.calls (bs.length+1) p A c bs (numL bs) w hC hc (number_f hR)).mono ?_
 rintro e w' ⟨v,rfl,hr,hb⟩
 obtain ⟨A1,c1,rfl,hk,hC1⟩:=Kd.R_reads hr
 obtain ⟨ad,rfl,_⟩:=hC1.2.2 (by rw [numL_length];omega)
 exact ⟨ad,c1,rfl,hk,hC1,hb⟩
set_option maxHeartbeats 8000000 in
set_option maxRecDepth 100000 in
theorem small_walk (w:World):Calls Tryz.prog 6 #[] w fun e w'=>e=.returned (.bool true)∧Below w.heap.size w w':=by
 have hu26:=Tryz.underlying52
 have hu34:=Tryz.underlying24
 have hu43:=Tryz.underlying50
 have hu45:=Tryz.underlying45
 have hu41:=Tryz.underlying48
 go_enter Tryz.func6,Tryz.ntmps6
 go_wp2_with fail
 have x0:=blk_alloc (blk_alloc (blk_new w (.cells #[.int .i64 1,.int .i64 1,.int .i64 0,.int .i64 0,.int .i64 4,.slice none 0 0,.int .i64 9,.int .i64 0,.int .i64 1,.int .i64 0,.int .i64 0,.slice none 0 0] 45)) (.cells #[.slice (some ⟨w.heap.size,0,none⟩) 2 2,.int .i64 3,.int .i64 1,.int .i64 0,.int .i64 0] 50)) (.cells #[.int .i64 0,.slice (some ⟨w.heap.size+1,0,none⟩) 1 1] 24)
 have x1:=blk_alloc (blk_new (w.alloc (.cells #[.int .i64 1,.int .i64 1,.int .i64 0,.int .i64 0,.int .i64 4,.slice none 0 0,.int .i64 9,.int .i64 0,.int .i64 1,.int .i64 0,.int .i64 0,.slice none 0 0] 45)) (.cells #[.slice (some ⟨w.heap.size,0,none⟩) 2 2,.int .i64 3,.int .i64 1,.int .i64 0,.int .i64 0] 50)) (.cells #[.int .i64 0,.slice (some ⟨w.heap.size+1,0,none⟩) 1 1] 24)
 have x2:=blk_new ((w.alloc (.cells #[.int .i64 1,.int .i64 1,.int .i64 0,.int .i64 0,.int .i64 4,.slice none 0 0,.int .i64 9,.int .i64 0,.int .i64 1,.int .i64 0,.int .i64 0,.slice none 0 0] 45)).alloc (.cells #[.slice (some ⟨w.heap.size,0,none⟩) 2 2,.int .i64 3,.int .i64 1,.int .i64 0,.int .i64 0] 50)) (.cells #[.int .i64 0,.slice (some ⟨w.heap.size+1,0,none⟩) 1 1] 24)
 rw [World.size_alloc] at x1
 rw [World.size_alloc,World.size_alloc] at x2
 have hb3:=below_alloc (below_alloc (below_alloc (Below.refl w.heap.size w) (.cells #[.int .i64 1,.int .i64 1,.int .i64 0,.int .i64 0,.int .i64 4,.slice none 0 0,.int .i64 9,.int .i64 0,.int .i64 1,.int .i64 0,.int .i64 0,.slice none 0 0] 45)) (.cells #[.slice (some ⟨w.heap.size,0,none⟩) 2 2,.int .i64 3,.int .i64 1,.int .i64 0,.int .i64 0] 50)) (.cells #[.int .i64 0,.slice (some ⟨w.heap.size+1,0,none⟩) 1 1] 24)
 generalize ((w.alloc (.cells #[.int .i64 1,.int .i64 1,.int .i64 0,.int .i64 0,.int .i64 4,.slice none 0 0,.int .i64 9,.int .i64 0,.int .i64 1,.int .i64 0,.int .i64 0,.slice none 0 0] 45)).alloc (.cells #[.slice (some ⟨w.heap.size,0,none⟩) 2 2,.int .i64 3,.int .i64 1,.int .i64 0,.int .i64 0] 50)).alloc (.cells #[.int .i64 0,.slice (some ⟨w.heap.size+1,0,none⟩) 1 1] 24)=W3 at x0 x1 x2 hb3 ⊢
 have hC3:=blkC x0 x1
 have HX2:=ak_ x2
 have HC3:=ak_ hC3
 have HB3:=ak_ hb3
 clear x0 x1 x2 hC3 hb3
 refine (of_ok 0 (some ⟨w.heap.size+1,0,none⟩) 1 bsS _ HC3.out (by decide) sm_right).mono ?_
 rintro e w4 ⟨v,out,rfl,hr,hq,hb⟩
 obtain rfl:=sm_of hq
 obtain ⟨Al,cl,rfl,kl,hCl⟩:=Kd.R_reads hr
 have HCL:=ak_ hCl
 have HKL:=ak_ kl
 have HB4:=ak_ (below_then HB3.out HB3.out.size hb)
 have HC4:=ak_ (Kd.C_below HC3.out hb)
 have HX4:=ak_ (blk_below HX2.out hb)
 clear hr hq hb hCl kl HB3 HC3 HX2
 go_wp2_with fail
 have hA5:=below_alloc (Below.refl w4.heap.size w4) (.cells #[.int .i64 1,.int .i64 1,.int .i64 2] 52)
 refine (swageref25_Same.calls 5 Al cl [⟨1,1,2⟩] (some ⟨w4.heap.size,0,none⟩) 1 [⟨1,1,2⟩] true _ (Kd.C_below HCL.out hA5) HKL.out (spC (blk_new w4 (.cells #[.int .i64 1,.int .i64 1,.int .i64 2] 52))) (by decide) sm_same).mono ?_
 rintro e w5 ⟨rfl,hd⟩
 have hb5:=below_then hA5 hA5.size hd.below
 have HB5:=ak_ (below_then HB4.out HB4.out.size hb5)
 have HC5:=ak_ (Kd.C_below HC4.out hb5)
 have HCL5:=ak_ (Kd.C_below HCL.out hb5)
 have HX5:=ak_ (blk_below HX4.out hb5)
 have c0:=bc_ HX5 0
 have c1:=bc_ HX5 1
 simp only [ga_,gb_,gc_] at c0 c1
 clear hA5 hd hb5 HB4 HC4 HX4 HCL
 go_wp2_with fail
 refine (number_ok2 0 (some ⟨w.heap.size+1,0,none⟩) 1 bsS _ HC5.out (by decide) sm_right).mono ?_
 rintro e w6 ⟨adn,cn,rfl,kn,hcn,hb⟩
 rw [sm_num] at kn hcn ⊢
 have HCN:=ak_ hcn
 have HKN:=ak_ kn
 have HB6:=ak_ (below_then HB5.out HB5.out.size hb)
 have HC6:=ak_ (Kd.C_below HC5.out hb)
 have HCL6:=ak_ (Kd.C_below HCL5.out hb)
 have HX6:=ak_ (blk_below HX5.out hb)
 clear kn hcn hb c0 c1 HB5 HC5 HCL5 HX5
 go_wp2_with fail
 have hA7:=below_alloc (Below.refl w6.heap.size w6) (.cells #[.int .i64 0,.int .i64 3] 3)
 refine (swageref02_Ints.calls 5 (some adn) cn [0,3] (some ⟨w6.heap.size,0,none⟩) 2 [0,3] true _ (Kd.C_below HCN.out hA7) HKN.out (C_of_blk (k:=.i64) (t:=3) [0,3] (blk_new w6 (.cells #[.int .i64 0,.int .i64 3] 3)) (by decide)) (by decide) sm_ints).mono ?_
 rintro e w7 ⟨rfl,hd⟩
 have hb7:=below_then hA7 hA7.size hd.below
 have HB7:=ak_ (below_then HB6.out HB6.out.size hb7)
 have HC7:=ak_ (Kd.C_below HC6.out hb7)
 have HCL7:=ak_ (Kd.C_below HCL6.out hb7)
 have HX7:=ak_ (blk_below HX6.out hb7)
 clear hA7 hd hb7 HB6 HC6 HCL6 HX6 HCN HKN
 go_wp2_with fail
 refine (spans_Cross.calls 0 1 3 0 3 4 true _ sm_cross).mono ?_
 rintro e w8 ⟨rfl,hb⟩
 have HB8:=ak_ (below_then HB7.out HB7.out.size hb)
 have HC8:=ak_ (Kd.C_below HC7.out hb)
 have HCL8:=ak_ (Kd.C_below HCL7.out hb)
 have HX8:=ak_ (blk_below HX7.out hb)
 clear hb HB7 HC7 HCL7 HX7
 go_wp2_with fail
 refine (spans_Cross.calls 0 1 2 0 3 4 false _ sm_cross2).mono ?_
 rintro e w9 ⟨rfl,hb⟩
 have HB9:=ak_ (below_then HB8.out HB8.out.size hb)
 have HC9:=ak_ (Kd.C_below HC8.out hb)
 have HCL9:=ak_ (Kd.C_below HCL8.out hb)
 have HX9:=ak_ (blk_below HX8.out hb)
 clear hb HB8 HC8 HCL8 HX8
 go_wp2_with fail
 refine (spans_Most.calls 5 Al cl [⟨1,1,2⟩] 1 _ HCL9.out HKL.out sm_most).mono ?_
 rintro e w10 ⟨rfl,hb⟩
 have HB10:=ak_ (below_then HB9.out HB9.out.size hb)
 have HC10:=ak_ (Kd.C_below HC9.out hb)
 have HCL10:=ak_ (Kd.C_below HCL9.out hb)
 have HX10:=ak_ (blk_below HX9.out hb)
 clear hb HB9 HC9 HCL9 HX9
 go_wp2_with fail
 refine (spans_At.calls Al cl [⟨1,1,2⟩] 2 [1] _ HCL10.out HKL.out sm_at2).mono ?_
 rintro e w11 ⟨v11,rfl,hr,hb⟩
 obtain ⟨Aa,ca,rfl,ka,hCa⟩:=Kd.R_reads hr
 have HCA:=ak_ hCa
 have HKA:=ak_ ka
 have HB11:=ak_ (below_then HB10.out HB10.out.size hb)
 have HC11:=ak_ (Kd.C_below HC10.out hb)
 have HX11:=ak_ (blk_below HX10.out hb)
 clear hr hb hCa ka HB10 HC10 HCL10 HX10
 go_wp2_with fail
 have hA12:=below_alloc (Below.refl w11.heap.size w11) (.cells #[.int .i64 1] 3)
 refine (swageref02_Ints.calls 5 Aa ca [1] (some ⟨w11.heap.size,0,none⟩) 1 [1] true _ (Kd.C_below HCA.out hA12) HKA.out (C_one w11 1) (by decide) sm_ints2).mono ?_
 rintro e w12 ⟨rfl,hd⟩
 have hb12:=below_then hA12 hA12.size hd.below
 have HB12:=ak_ (below_then HB11.out HB11.out.size hb12)
 have HC12:=ak_ (Kd.C_below HC11.out hb12)
 have HX12:=ak_ (blk_below HX11.out hb12)
 have c0:=bc_ HX12 0
 have c1:=bc_ HX12 1
 simp only [ga_,gb_,gc_] at c0 c1
 clear hA12 hd hb12 HB11 HC11 HX11 HCA HKA
 go_wp2_with fail
 refine (calls_ok 0 (some ⟨w.heap.size+1,0,none⟩) 1 bsS _ HC12.out (by decide) sm_right).mono ?_
 rintro e w13 ⟨v13,rfl,ho,hb⟩
 rw [sm_calls] at ho
 obtain ⟨Ac,cc,rfl⟩:=own_slice ho
 have HB13:=ak_ (below_then HB12.out HB12.out.size hb)
 clear ho hb c0 c1
 go_wp2_with fail
 go_ret
 exact ⟨rfl,HB13.out⟩
