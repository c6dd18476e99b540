import Derived.Test.YtnkgbnbbmcoiiaaGreatOo17
import Derived.Test.YtnkgbnbbmcoiiaaGreatRf
import Derived.Test.YtnkgbnbbmcoiiaaGreatOsame14
import Derived.Test.YtnkgbnbbmcoiiaaGreatOAft
import Derived.Test.YtnkgbnbbmcoiiaaGreatS8
import Derived.Test.YtnkgbnbbmcoiiaaGreatOcopy
import Derived.Test.YtnkgbnbbmcoiiaaGreatLv2
namespace Go.Proofs.YtnkgbnbbmcoiiaaGreat.S
open Go.RowKit Go.IM Go.Proofs.YtnkgbnbbmcoiiaaGreatW.PrintWords Go.Proofs.YtnkgbnbbmcoiiaaGreatW.PrintLast Go.Proofs.YtnkgbnbbmcoiiaaGreatW.PrintMore
set_option linter.unusedVariables false
set_option linter.unusedSimpArgs false
/-! ### swageref17.Out -/
theorem in17_any (p:Int) (A:Option Addr) (c:Nat) (bs:List S50) (w:World) (hF:Fits bs) (hR:rightF p bs 256=true) (hC:Kd.C k50 w A bs.length bs) (hc:bs.length≤c) :
  Calls Tryz.prog 22 #[.agg #[.int .i64 p,.slice A bs.length c]] w fun e w'=>∃ A' c',e=.returned (.slice A' bs.length c')∧Kd.C (Kd.slice 3 (Kd.int .i64)) w' A' bs.length (inL bs)∧Below w.heap.size w w':=by
 obtain ⟨k,hk⟩:=r17_in p bs hF hR
 refine (swageref17_In.calls k p A c bs _ w hC hc (hk k (Nat.le_refl _))).mono ?_
 rintro e w' ⟨v,rfl,hr,hb⟩
 obtain ⟨A',c',rfl,_,hC'⟩:=Kd.R_reads (Kd.S_R hr)
 rw [inL_length] at hC' ⊢
 exact ⟨A',c',rfl,hC',hb⟩
theorem anyB_take {bs:List S50} {r:Int} {l:List Int} {q:Nat} (h:q<l.length):anyB bs r (l.take (q+1))=(anyB bs r (l.take q) || decide (r∈liveRow bs l[q].toNat 0)):=by
 unfold anyB
 rw [List.take_succ_eq_append_getElem h,List.any_append]
 simp only [List.any_cons,List.any_nil,Bool.or_false]
set_option maxHeartbeats 16000000 in
set_option maxRecDepth 100000 in
theorem out17_ok (p:Int) (A:Option Addr) (c:Nat) (bs:List S50) (w:World) (hF:Fits bs) (hR:rightF p bs 256=true) (hC:Kd.C k50 w A bs.length bs) (hc:bs.length≤c) :
  Calls Tryz.prog 24 #[.agg #[.int .i64 p,.slice A bs.length c]] w fun e w'=>∃ v,e=.returned v∧Kd.R (Kd.slice 3 (Kd.int .i64)) 31 w' w.heap.size (fun _=>True) v (outL bs)∧Below w.heap.size w w':=by
 have RP:=Aside0.mk (rightF_iff hR)
 have HR:=Aside0.mk hR
 have HFT:=Aside0.mk hF
 have HC:=Aside0.mk hC
 have HCc:=Aside0.mk hc
 have hn4:=hF.len
 have hu24:=Tryz.underlying24
 have HB0:=Aside0.mk (below_alloc (Below.refl w.heap.size w) (.cells #[.int .i64 p,.slice A bs.length c] 24))
 have HF0:=Aside0.mk (blk_new w (.cells #[.int .i64 p,.slice A bs.length c] 24))
 obtain ⟨T,hT⟩:∃ T:Nat,(T:Int)=topR p bs:=⟨(topR p bs).toNat,Int.toNat_of_nonneg (topR_nonneg p bs)⟩
 have HT:=Aside0.mk hT
 have hTl:T≤4096:=by have:=top_le RP.out;omega
 have HLS:Aside0 ((succL bs).length=bs.length):=⟨succL_length bs⟩
 have HOA:=Aside0.mk (fun j (hj:j<bs.length)=>upOut_all RP.out (i:=j) (m:=T) hj hT)
 have c0:=blk_cell HF0.out 0
 have c1:=blk_cell HF0.out 1
 simp only [List.getElem?_toArray,List.getElem?_cons_zero,List.getElem?_cons_succ] at c0 c1
 obtain ⟨fi,hfi⟩:∃ fi:Nat→List Int,fi=fun i=>outRow bs i:=⟨_,rfl⟩
 have HFI:=Aside0.mk hfi
 have HOL:Aside0 ((List.range bs.length).map fi=outL bs):=⟨by rw [hfi];rfl⟩
 clear hfi hF hR hC hc hT
 go_enter Tryz.func24,Tryz.ntmps24
 go_wp2_with (go_at_call 22;refine (in17_any p A c bs _ HFT.out HR.out (Kd.C_below HC.out HB0.out) HCc.out).mono ?_;rintro e w1 ⟨A1,c1',rfl,hC1,hb⟩;have HC1:=Aside0.mk hC1;have HB1:=Aside0.mk (below_then HB0.out HB0.out.size hb);have HF1:=Aside0.mk (blk_below HF0.out hb);clear c0 c1 hC1 hb)
 go_loopw [4,5] (fun v i wr=>∃ j:Nat,j≤bs.length∧i=.int .i64 (j:Int)∧Aside0 (Kd.R (Kd.slice 3 (Kd.int .i64)) 31 wr w1.heap.size (fun _=>True) v ((List.range j).map fi))∧Aside0 (Below w1.heap.size w1 wr)) (fun _ i _=>bs.length - (intOf i).toNat)
 case atStart=>exact ⟨0,Nat.zero_le _,rfl,⟨Kd.R_nil _ _ _ _ _⟩,⟨Below.refl _ _⟩⟩
 case round =>
  obtain ⟨j,hj,rfl,HO,HB⟩:=hrel
  have c0:=blk_cell (blk_below HF1.out HB.out) 0
  have c1:=blk_cell (blk_below HF1.out HB.out) 1
  simp only [List.getElem?_toArray,List.getElem?_cons_zero,List.getElem?_cons_succ] at c0 c1
  by_cases hlt:j<bs.length
  ·have b1:decide ((j:Int)<(bs.length:Int))=true:=decide_eq_true (Int.ofNat_lt.2 hlt)
   have hw1:wrap64 ((j:Int)+1)=(j:Int)+1:=inc63 hlt (Nat.le_trans hn4 (by decide))
   have HLT:=Aside0.mk hlt
   have HSU:=Aside0.mk (upOut_succ bs j)
   have HUL:=Aside0.mk (upOut_len bs j)
   have HSB:=Aside0.mk (RP.out.succ hlt)
   have HTS:Aside0 ((List.range (j+1)).map fi=(List.range j).map fi++[fi j]):=⟨by rw [List.range_succ,List.map_append];rfl⟩
   have HFJ:Aside0 (upOut bs j T=fi j):=⟨by rw [HFI.out];exact HOA.out j hlt⟩
   have HL:Aside0 (((List.range j).map fi).length≤4096):=⟨by simp;omega⟩
   generalize (List.range j).map fi=out at HO HTS HL
   have HBr:=Aside0.mk (below_then HB1.out HB1.out.size HB.out)
   obtain ⟨sl,hsl⟩:∃ sl,succT (rd_T50 bs (j:Int)).f1=sl:=⟨_,rfl⟩
   have hSA:rd_L1 (succL bs) (j:Int)=sl:=by rw [← hsl];exact succL_at hlt
   rw [hsl] at HSU HSB
   clear hsl
   go_wp2_with (go_at_call 54;refine (succ14_any p A c bs _ (Kd.C_below HC.out HBr.out) HCc.out (Nat.le_trans hn4 (by decide))).mono ?_;rintro e w2 ⟨A8,c8,rfl,hr8,hb⟩;rw [HLS.out] at hr8 ⊢;have HB2:=Aside0.mk hb;obtain ⟨ads,As,cs,eS,hs0,hs1,hs2⟩:=row_cell (show Kd.C (Kd.slice 3 (Kd.int .i64)) w2 A8 bs.length (succL bs) by have h:=(Kd.R_reads' hr8).2.2;rw [HLS.out] at h;exact h) hlt hSA;subst eS;have HS2:=Aside0.mk hs2;clear hb hr8 hs1 hs2 c0 c1)
   clear hs0 hSA
   have HB2w:=Aside0.mk (below_then HBr.out HBr.out.size HB2.out)
   have HB21:=Aside0.mk (below_then HB.out HB.out.size HB2.out)
   have HF2:=Aside0.mk (blk_below (blk_below HF1.out HB.out) HB2.out)
   go_loopw [7,8] (fun v i' wx=>∃ m:Nat,m≤T∧i'=.int .i64 ((m:Int)+1)∧Aside0 (wx.ownsRow w2.heap.size 3 1 v (upOut bs j m).length (nums .i64 (upOut bs j m)))∧Aside0 (Below w2.heap.size w2 wx)) (fun _ i' _=>T+1 - (intOf i').toNat)
   case atStart=>exact ⟨0,Nat.zero_le _,rfl,⟨own_nil _ _ _ _⟩,⟨Below.refl _ _⟩⟩
   case round =>
    obtain ⟨m,hm,rfl,HOx,HBx⟩:=hrel
    have c0:=blk_cell (blk_below HF2.out HBx.out) 0
    have c1:=blk_cell (blk_below HF2.out HBx.out) 1
    simp only [List.getElem?_toArray,List.getElem?_cons_zero,List.getElem?_cons_succ] at c0 c1
    have HBxw:=Aside0.mk (below_then HB2w.out HB2w.out.size HBx.out)
    by_cases hmT:m<T
    ·have b2:decide ((m:Int)+1≤(T:Int))=true:=decide_eq_true (by omega)
     have b2p:(m:Int)+1≤(T:Int):=by omega
     have hw2:wrap64 ((m:Int)+1+1)=((m+1:Nat):Int)+1:=by
      unfold wrap64
      omega
     have HMT:=Aside0.mk hmT
     have hus:=HSU.out m
     obtain ⟨B,hB⟩:∃ B,anyB bs ((m:Int)+1) sl=B:=⟨_,rfl⟩
     rw [hB] at hus
     have HBB:=Aside0.mk hB
     have HUS:=Aside0.mk hus
     have hul:=HUL.out m
     clear hB hus
     go_wp2_with (go_at_call 38;refine (regs14_any p A c bs _ RP.out (Kd.C_below HC.out HBxw.out) HCc.out).mono ?_;rintro e w3 ⟨rfl,hb⟩;rw [← HT.out];have HB3:=Aside0.mk (below_then HBx.out HBx.out.size hb);have HO3:=Aside0.mk (pw_own_below HOx.out hb);clear c0 c1 hb)
     go_loopw [9,10] (fun v i wi=>∃ q:Nat,q≤sl.length∧i=.int .i64 (q:Int)∧v=.bool (anyB bs ((m:Int)+1) (sl.take q))∧Aside0 (Below w3.heap.size w3 wi)) (fun _ i _=>sl.length - (intOf i).toNat)
     case atStart=>exact ⟨0,Nat.zero_le _,rfl,rfl,⟨Below.refl _ _⟩⟩
     case round =>
      obtain ⟨q,hq,rfl,rfl,HBq⟩:=hrel
      have HB4:=Aside0.mk (below_then HB3.out HB3.out.size HBq.out)
      by_cases hlq:q<sl.length
      ·have b3:decide ((q:Int)<(sl.length:Int))=true:=decide_eq_true (Int.ofNat_lt.2 hlq)
       have hCs:=Kd.C_below HS2.out HB4.out
       have hw6:wrap64 ((q:Int)+1)=(q:Int)+1:=inc63 hlq hCs.2.1
       obtain ⟨adq,eQ,hcq⟩:=Kd.at_int hCs (q:Int) (Int.natCast_nonneg q) (Int.ofNat_lt.2 hlq)
       rw [Int.toNat_natCast] at hcq
       have hsb:=HSB.out (rd sl (q:Int)) (by rw [rd_mem hlq];exact List.getElem_mem _)
       have HTK:Aside0 (anyB bs ((m:Int)+1) (sl.take (q+1))=(anyB bs ((m:Int)+1) (sl.take q) || decide ((m:Int)+1∈liveRow bs (rd sl (q:Int)).toNat 0))):=⟨by rw [anyB_take hlq,rd_mem hlq]⟩
       obtain ⟨t,ht⟩:∃ t:Nat,rd sl (q:Int)=(t:Int):=⟨_,(Int.toNat_of_nonneg hsb.1).symm⟩
       rw [ht] at hcq hsb HTK
       rw [Int.toNat_natCast] at HTK
       subst eQ
       have htn:t<bs.length:=by omega
       obtain ⟨adx,A0,k0,eX,hx0,hx1,hx2⟩:=row_cell (Kd.C_below HC1.out (below_then HB21.out HB21.out.size HB4.out)) htn (rd_inL htn)
       subst eX
       have HX1:=Aside0.mk hx1
       have HX2:=Aside0.mk hx2
       have HXL:Aside0 ((liveRow bs t 0).length≤1000000000000):=⟨Nat.le_trans (liveRow_le RP.out t 0) (by decide)⟩
       have b4:decide ((t:Int)<(bs.length:Int))=true:=decide_eq_true (Int.ofNat_lt.2 htn)
       generalize liveRow bs t 0=lt at hx0 HX1 HX2 HXL HTK
       clear hx1 hx2 ht hsb hCs
       cases hfb:anyB bs ((m:Int)+1) (sl.take q) with
       | true =>
        have HV:Aside0 (anyB bs ((m:Int)+1) (sl.take (q+1))=true):=⟨by rw [HTK.out,hfb];rfl⟩
        clear hfb
        go_wp2_with fail
        go_roundw
        case rel=>exact ⟨q+1,hlq,by first|(rw [hw6];exact num_cast q)|(with_reducible exact num_cast q),by rw [HV.out],HBq⟩
        case measure=>first|(rw [hw6];exact num_meas hlq)|(with_reducible exact num_meas hlq)
       | false =>
        have HV:Aside0 (anyB bs ((m:Int)+1) (sl.take (q+1))=decide ((m:Int)+1∈lt)):=⟨by rw [HTK.out,hfb];rfl⟩
        clear hfb
        go_wp2_with (go_at_call 55;refine (has17_any A0 k0 lt ((m:Int)+1) _ HX2.out HX1.out HXL.out).mono ?_;rintro e w8 ⟨rfl,hb⟩;have HB8:=Aside0.mk (below_then HBq.out HBq.out.size hb);clear hb)
        go_roundw
        case rel=>exact ⟨q+1,hlq,by first|(rw [hw6];exact num_cast q)|(with_reducible exact num_cast q),by rw [HV.out],HB8⟩
        case measure=>first|(rw [hw6];exact num_meas hlq)|(with_reducible exact num_meas hlq)
      ·have b3:decide ((q:Int)<(sl.length:Int))=false:=decide_eq_false (fun h=>hlq (Int.ofNat_lt.1 h))
       have hfe:anyB bs ((m:Int)+1) (sl.take q)=B:=by rw [List.take_of_length_le (Nat.le_of_not_lt hlq)];exact HBB.out
       rw [hfe]
       clear hfe
       have HO4:=Aside0.mk (pw_own_below HO3.out HBq.out)
       cases B with
       | false =>
        have HU:Aside0 (upOut bs j (m+1)=upOut bs j m):=⟨by rw [HUS.out,if_neg (by simp)]⟩
        go_wp2_with fail
        go_roundw
        case rel=>exact ⟨m+1,HMT.out,by first|(with_reducible rfl)|rw [Int.natCast_succ]|rw [hw2],⟨by rw [HU.out];exact HO4.out⟩,HB4⟩
        case measure=>first|exact at_meas HMT.out|(rw [hw2];exact at_meas HMT.out)
       | true =>
        have HU:Aside0 (upOut bs j (m+1)=upOut bs j m++[(m:Int)+1]):=⟨by rw [HUS.out,if_pos rfl]⟩
        have HLB:Aside0 ((upOut bs j m).length≤4096):=⟨by omega⟩
        obtain ⟨L,hL⟩:∃ L,upOut bs j m=L:=⟨_,rfl⟩
        rw [hL] at HU HLB HO4
        clear hL hul
        go_wp2_with (at_builtin;refine print_append_num w2.heap.size rfl _ _ 31 3 .i64 8 rfl Tryz.underlying31 (by kernel_rfl) (by decide) u7 L ((m:Int)+1) rfl rfl HO4.out HB4.out HB4.out.size (by have:=HLB.out;omega) ?_;intro v1 w5 hown hB1 hg1 hat;have HO5:=Aside0.mk hown;have HB5:=Aside0.mk hB1;clear hown hB1 hg1 hat)
        go_roundw
        case rel=>exact ⟨m+1,HMT.out,by first|(with_reducible rfl)|rw [Int.natCast_succ]|rw [hw2],⟨by rw [HU.out];exact HO5.out⟩,HB5⟩
        case measure=>first|exact at_meas HMT.out|(rw [hw2];exact at_meas HMT.out)
    ·have b2:decide ((m:Int)+1≤(T:Int))=false:=decide_eq_false (by omega)
     have b2p:¬ (m:Int)+1≤(T:Int):=by omega
     have hme:m=T:=by omega
     rw [hme,HFJ.out] at HOx
     clear hme
     generalize fi j=zs at HOx HTS
     have hr7:Kd.R (Kd.int .i64) 3 _ w2.heap.size (fun _=>True) u7 zs:=Kd.R_of_own HOx.out (fun _ _=>trivial)
     obtain ⟨A7,c7,e7⟩:=Kd.R_slice hr7
     subst e7
     have HR7:=Aside0.mk hr7
     clear hr7
     go_wp2_with (first
      | (go_at_call 38;refine (regs14_any p A c bs _ RP.out (Kd.C_below HC.out HBxw.out) HCc.out).mono ?_;rintro e w3 ⟨rfl,hb⟩;rw [← HT.out];have HB3:=Aside0.mk (below_then HBx.out HBx.out.size hb);have HR3:=Aside0.mk (Kd.R_below HR7.out hb);have HB31:=Aside0.mk (below_then HB2.out HB2.out.size HB3.out);clear c0 c1 hb)
      | (at_builtin;refine Kd.R_append (Kd.slice 3 (Kd.int .i64)) (w0:=w1) w1.heap.size rfl _ _ 35 31 (.slice none 0 0) 24 rfl Tryz.underlying35 info31 rfl (by decide) (by decide) _ out zs [.slice A7 zs.length c7] (fun _=>True) (fun k=>w2.heap.size≤k) rfl rfl ⟨_,rfl,Kd.R_lower (Kd.R_mono (Kd.R_bound HR3.out) (fun k hk=>hk.2.1)) HB21.out.size⟩ (fun k hk=>⟨trivial,fun e=>by have:=Kd.R_lt HO.out k e.symm;have:=HB2.out.size;omega⟩) (fun _ _=>trivial) (Kd.R_below HO.out HB31.out) (below_then HB.out HB.out.size HB31.out) (by have:=HB.out.size;have:=HB31.out.size;omega) (by have:=HL.out;omega) ?_;intro v5 w5 ho5 hb5 hg5 hat5;have HO5:=Aside0.mk ho5;have HB5:=Aside0.mk hb5;clear ho5 hb5 hg5 hat5))
     go_roundw
     case rel=>exact ⟨j+1,HLT.out,by first|(rw [hw1];exact num_cast j)|(with_reducible exact num_cast j),⟨by rw [HTS.out];exact HO5.out⟩,HB5⟩
     case measure=>first|(rw [hw1];exact num_meas HLT.out)|(with_reducible exact num_meas HLT.out)
  ·have b1:decide ((j:Int)<(bs.length:Int))=false:=decide_eq_false (fun h=>hlt (Int.ofNat_lt.1 h))
   obtain rfl:j=bs.length:=by omega
   rw [HOL.out] at HO
   go_wp2_with fail
   go_ret
   exact ⟨_,rfl,Kd.R_lower HO.out HB1.out.size,below_then HB1.out HB1.out.size HB.out⟩
/-! ### What LiveTells calls: program and document tell one row -/
theorem out17_bad (p:Int) (A:Option Addr) (c:Nat) (bs:List S50) (w:World) (hF:Fits bs) (hR:rightF p bs 256=false) (hC:Kd.C k50 w A bs.length bs) (hc:bs.length≤c) :
  Calls Tryz.prog 24 #[.agg #[.int .i64 p,.slice A bs.length c]] w fun e w'=>∃ v,e=.returned v∧Kd.R (Kd.slice 3 (Kd.int .i64)) 31 w' w.heap.size (fun _=>True) v []∧Below w.heap.size w w':=by
 obtain ⟨k,hk⟩:=r17_in_bad p bs hF hR
 have HK:=Aside0.mk (hk k (Nat.le_refl _))
 have HC:=Aside0.mk hC
 have HCc:=Aside0.mk hc
 have hu24:=Tryz.underlying24
 have HB0:=Aside0.mk (below_alloc (Below.refl w.heap.size w) (.cells #[.int .i64 p,.slice A bs.length c] 24))
 have HF0:=Aside0.mk (blk_new w (.cells #[.int .i64 p,.slice A bs.length c] 24))
 have c0:=blk_cell HF0.out 0
 have c1:=blk_cell HF0.out 1
 simp only [List.getElem?_toArray,List.getElem?_cons_zero,List.getElem?_cons_succ] at c0 c1
 clear hF hR hC hc hk
 go_enter Tryz.func24,Tryz.ntmps24
 go_wp2_with (go_at_call 22;refine (swageref17_In.calls k p A c bs _ _ (Kd.C_below HC.out HB0.out) HCc.out HK.out).mono ?_;rintro e w1 ⟨v,rfl,hr,hb⟩;obtain ⟨A1,c1',rfl⟩:=Kd.R_slice (Kd.S_R hr);have HB1:=Aside0.mk (below_then HB0.out HB0.out.size hb);clear c0 c1 hb hr)
 go_loopw [4,5] (fun v i wr=>v=.slice none 0 0∧i=.int .i64 0∧Aside0 (Below w1.heap.size w1 wr)) (fun _ i _=>0)
 case atStart=>exact ⟨rfl,rfl,⟨Below.refl _ _⟩⟩
 case round =>
  obtain ⟨rfl,rfl,HB⟩:=hrel
  go_wp2_with fail
  go_ret
  exact ⟨_,rfl,Kd.R_nil _ _ _ _ _,below_then HB1.out HB1.out.size HB.out⟩
noncomputable def inX (p:Int) (bs:List S50):List (List Int):=if rightF p bs 256=true then inL bs else []
noncomputable def outX (p:Int) (bs:List S50):List (List Int):=if rightF p bs 256=true then outL bs else []
noncomputable def aftX (p:Int) (bs:List S50) (b:Int):List (List Int):=if rightF p bs 256=true∧0≤b∧b<(bs.length:Int) then afterL bs b.toNat else []
/-- A row that a call tells. -/
def Told (w:World) (L:List (List Int)) (e:Ending) (w' : World):Prop:=∃ A c,e=.returned (.slice A L.length c)∧L.length≤c∧Kd.C (Kd.slice 3 (Kd.int .i64)) w' A L.length L∧Below w.heap.size w w'
theorem Told.of_R {w w' : World} {v:Value} {L:List (List Int)} {base:Nat} {ok:Nat→Prop} (h:Kd.R (Kd.slice 3 (Kd.int .i64)) 31 w' base ok v L) (hb:Below w.heap.size w w'):Told w L (.returned v) w':=by
 obtain ⟨A,c,rfl,hl,hC⟩:=Kd.R_reads h
 exact ⟨A,c,rfl,hl,hC,hb⟩
theorem in_told (p:Int) (A:Option Addr) (c:Nat) (bs:List S50) (w:World) (hC:Kd.C k50 w A bs.length bs) (hc:bs.length≤c) :
  Calls Tryz.prog 20 #[.agg #[.int .i64 p,.slice A bs.length c]] w fun e w'=>∃ v,e=.returned v∧Kd.R (Kd.slice 3 (Kd.int .i64)) 31 w' w.heap.size (fun _=>True) v (inX p bs)∧Below w.heap.size w w' :=
 live_In.calls p A c bs _ w hC hc rfl
theorem out_told (p:Int) (A:Option Addr) (c:Nat) (bs:List S50) (w:World) (hC:Kd.C k50 w A bs.length bs) (hc:bs.length≤c) :
  Calls Tryz.prog 23 #[.agg #[.int .i64 p,.slice A bs.length c]] w (Told w (outX p bs)):=by
 refine (live_Out.calls p A c bs _ w hC hc rfl).mono ?_
 rintro e w' ⟨v,rfl,h,hb⟩
 exact Told.of_R h hb
theorem aft_told (p:Int) (A:Option Addr) (c:Nat) (bs:List S50) (b:Int) (w:World) (hC:Kd.C k50 w A bs.length bs) (hc:bs.length≤c) :
  Calls Tryz.prog 25 #[.agg #[.int .i64 p,.slice A bs.length c],.int .i64 b] w (Told w (aftX p bs b)):=by
 refine (live_After.calls p A c bs b _ w hC hc rfl).mono ?_
 rintro e w' ⟨v,rfl,h,hb⟩
 exact Told.of_R h hb
theorem in17_told (p:Int) (A:Option Addr) (c:Nat) (bs:List S50) (w:World) (hF:Fits bs) (hC:Kd.C k50 w A bs.length bs) (hc:bs.length≤c) :
  Calls Tryz.prog 22 #[.agg #[.int .i64 p,.slice A bs.length c]] w (Told w (inX p bs)):=by
 have h:Ev (fun k=>swageref17_In.f k p bs) (inX p bs):=by
  unfold inX
  cases hR:rightF p bs 256 with
  | true=>rw [if_pos rfl];exact r17_in p bs hF hR
  | false=>rw [if_neg (by decide)];exact r17_in_bad p bs hF hR
 obtain ⟨k,hk⟩:=h
 refine (swageref17_In.calls k p A c bs _ w hC hc (hk k (Nat.le_refl _))).mono ?_
 rintro e w' ⟨v,rfl,h,hb⟩
 exact Told.of_R (Kd.S_R h) hb
theorem out17_told (p:Int) (A:Option Addr) (c:Nat) (bs:List S50) (w:World) (hF:Fits bs) (hC:Kd.C k50 w A bs.length bs) (hc:bs.length≤c) :
  Calls Tryz.prog 24 #[.agg #[.int .i64 p,.slice A bs.length c]] w (Told w (outX p bs)):=by
 unfold outX
 cases hR:rightF p bs 256 with
 | true =>
  rw [if_pos rfl]
  refine (out17_ok p A c bs w hF hR hC hc).mono ?_
  rintro e w' ⟨v,rfl,h,hb⟩
  exact Told.of_R h hb
 | false =>
  rw [if_neg (by decide)]
  refine (out17_bad p A c bs w hF hR hC hc).mono ?_
  rintro e w' ⟨v,rfl,h,hb⟩
  exact Told.of_R h hb
theorem aft17_told (p:Int) (A:Option Addr) (c:Nat) (bs:List S50) (b:Int) (w:World) (hF:Fits bs) (hC:Kd.C k50 w A bs.length bs) (hc:bs.length≤c) :
  Calls Tryz.prog 26 #[.agg #[.int .i64 p,.slice A bs.length c],.int .i64 b] w (Told w (aftX p bs b)):=by
 have h:Ev (fun k=>swageref17_After.f k p bs b) (aftX p bs b):=by
  unfold aftX
  by_cases hx:rightF p bs 256=true∧0≤b∧b<(bs.length:Int)
  ·rw [if_pos hx]
   obtain ⟨n,rfl⟩:∃ n:Nat,b=(n:Int):=⟨b.toNat,(Int.toNat_of_nonneg hx.2.1).symm⟩
   rw [Int.toNat_natCast]
   exact r17_after p bs hF hx.1 n (Int.ofNat_lt.1 hx.2.2)
  ·rw [if_neg hx]
   refine r17_after_bad p bs hF b ?_
   cases hR:rightF p bs 256 with
   | false=>exact .inl rfl
   | true =>
    refine .inr ?_
    by_cases h0:b<0
    ·exact .inl h0
    ·exact .inr (Int.not_lt.1 fun h1=>hx ⟨hR,Int.not_lt.1 h0,h1⟩)
 obtain ⟨k,hk⟩:=h
 refine (swageref17_After.calls k p A c bs b _ w hC hc (hk k (Nat.le_refl _))).mono ?_
 rintro e w' ⟨v,rfl,h,hb⟩
 exact Told.of_R (Kd.S_R h) hb
/-- Rows that are compared are short. -/
def Short (L:List (List Int)):Prop:=L.length≤1000000000∧∀ l∈L,l.length≤4096
theorem short_nil:Short []:=⟨by decide,fun l h=>by cases h⟩
theorem inX_short {p:Int} {bs:List S50} (hF:Fits bs):Short (inX p bs):=by
 unfold inX
 cases hR:rightF p bs 256 with
 | false=>rw [if_neg (by decide)];exact short_nil
 | true =>
  rw [if_pos rfl]
  refine ⟨by rw [inL_length];exact Nat.le_trans hF.len (by decide),fun l hl=>?_⟩
  obtain ⟨j,_,rfl⟩:=List.mem_map.1 hl
  exact liveRow_le (rightF_iff hR) j 0
theorem outX_short {p:Int} {bs:List S50} (hF:Fits bs):Short (outX p bs):=by
 unfold outX
 cases hR:rightF p bs 256 with
 | false=>rw [if_neg (by decide)];exact short_nil
 | true =>
  rw [if_pos rfl]
  refine ⟨by unfold outL;rw [List.length_map,List.length_range];exact Nat.le_trans hF.len (by decide),fun l hl=>?_⟩
  obtain ⟨j,hj,rfl⟩:=List.mem_map.1 hl
  have RP:=rightF_iff hR
  have hT:((topR p bs).toNat:Int)=topR p bs:=Int.toNat_of_nonneg (topR_nonneg p bs)
  rw [← upOut_all RP (List.mem_range.1 hj) hT]
  refine Nat.le_trans (upOut_len bs j _) ?_
  have:=top_le RP
  omega
theorem aftX_short {p:Int} {bs:List S50} {b:Int} (hF:Fits bs):Short (aftX p bs b):=by
 unfold aftX
 by_cases hx:rightF p bs 256=true∧0≤b∧b<(bs.length:Int)
 ·rw [if_pos hx]
  have RP:=rightF_iff hx.1
  refine ⟨by rw [afterL_len];exact Nat.le_trans (RP.opLen_le _) (by decide),fun l hl=>?_⟩
  obtain ⟨j,_,rfl⟩:=List.mem_map.1 hl
  exact liveRow_le RP _ _
 ·rw [if_neg hx];exact short_nil
theorem rows_told (A0:Option Addr) (c0:Nat) (A1:Option Addr) (c1:Nat) (L:List (List Int)) (w:World) (hS:Short L) (h0:Kd.C (Kd.slice 3 (Kd.int .i64)) w A0 L.length L) (hc0:L.length≤c0) (h1:Kd.C (Kd.slice 3 (Kd.int .i64)) w A1 L.length L) (hc1:L.length≤c1) :
  Calls Tryz.prog 21 #[.slice A0 L.length c0,.slice A1 L.length c1] w fun e w'=>e=.returned (.bool true)∧Below w.heap.size w w':=by
 obtain ⟨k,hk⟩:=rows_same L hS.1 hS.2 ints_self
 refine (swageref06_Rows.calls k A0 c0 L A1 c1 L true w h0 hc0 h1 hc1 (hk k (Nat.le_refl _))).mono ?_
 rintro e w' ⟨rfl,hd⟩
 exact ⟨rfl,hd.below⟩
/-- The greatest number that program and document tell. -/
noncomputable def mostX (p:Int) (bs:List S50):Int:=if h:rightF p bs 256=true then ((most_fix (rightF_iff h)).choose:Nat) else 0
theorem most_told (p:Int) (A:Option Addr) (c:Nat) (bs:List S50) (w:World) (hC:Kd.C k50 w A bs.length bs) :
  Calls Tryz.prog 27 #[.agg #[.int .i64 p,.slice A bs.length c]] w fun e w'=>e=.returned (.int .i64 (mostX p bs))∧Below w.heap.size w w':=by
 unfold mostX
 by_cases h:rightF p bs 256=true
 ·rw [dif_pos h];exact most_at p A c bs w hC h (most_fix (rightF_iff h)).choose_spec
 ·rw [dif_neg h];exact most_bad p A c bs w hC (Bool.eq_false_iff.2 h)
theorem most17_told (p:Int) (A:Option Addr) (c:Nat) (bs:List S50) (w:World) (hF:Fits bs) (hC:Kd.C k50 w A bs.length bs) (hc:bs.length≤c) :
  Calls Tryz.prog 28 #[.agg #[.int .i64 p,.slice A bs.length c]] w fun e w'=>e=.returned (.int .i64 (mostX p bs))∧Below w.heap.size w w':=by
 have h:Ev (fun k=>swageref17_Most.f k p bs) (mostX p bs):=by
  unfold mostX
  by_cases h:rightF p bs 256=true
  ·rw [dif_pos h];exact r17_most p bs hF h (most_fix (rightF_iff h)).choose_spec
  ·rw [dif_neg h];exact r17_most_bad p bs hF (Bool.eq_false_iff.2 h)
 obtain ⟨k,hk⟩:=h
 exact swageref17_Most.calls k p A c bs _ w hC hc (hk k (Nat.le_refl _))
theorem copy14_told (p:Int) (A:Option Addr) (c:Nat) (bs:List S50) (w:World) (hF:Fits bs) (hC:Kd.C k50 w A bs.length bs) (hc:bs.length≤c) :
  Calls Tryz.prog 8 #[.agg #[.int .i64 p,.slice A bs.length c]] w fun e w'=>∃ A' c',e=.returned (.agg #[.int .i64 p,.slice A' bs.length c'])∧bs.length≤c'∧Kd.C k50 w' A' bs.length bs∧Below w.heap.size w w':=by
 obtain ⟨k,hk⟩:=r14_copy p bs hF
 refine (swageref14_Copy.calls k p A c bs p bs w hC hc (hk k (Nat.le_refl _))).mono ?_
 rintro e w' ⟨v,rfl,h,hb⟩
 obtain ⟨A',c',rfl,hl,hC'⟩:=Kd.R_reads h
 exact ⟨A',c',rfl,hl,hC',hb⟩
theorem same14_told (p:Int) (A A' : Option Addr) (c c' : Nat) (bs:List S50) (w:World) (hF:Fits bs) (hA:∀ q,(opOf bs q).f5.length≤4096) (hC:Kd.C k50 w A bs.length bs) (hc:bs.length≤c) (hC' : Kd.C k50 w A' bs.length bs) (hc' : bs.length≤c') :
  Calls Tryz.prog 17 #[.agg #[.int .i64 p,.slice A bs.length c],.agg #[.int .i64 p,.slice A' bs.length c']] w fun e w'=>e=.returned (.bool true)∧Below w.heap.size w w':=by
 exact same14_eq p A A' c c' bs w hF hA hC hC'
/-! ### Rows of one's own whose numbers may be any -/
def Jk (base n:Nat) (len:Nat→Nat) (A:Option Addr) (W:World):Prop :=
 ∀ i,i<n→∃ g cur Ai ci,A=some ⟨g,0,none⟩∧base≤g∧W.heap[g]?=some (.cells cur 31 (0,0))∧cur[i]?=some (.slice Ai (len i) ci)∧len i≤ci ∧
  ∀ k,k<len i→∃ gi cells m,Ai=some ⟨gi,0,none⟩∧base≤gi∧W.heap[gi]?=some (.cells cells 3 (0,0))∧cells[k]?=some (.int .i64 m)
theorem jk_of_R {w:World} {base n c:Nat} {ok:Nat→Prop} {A:Option Addr} {L:List (List Int)} (hs:∀ l∈L,l.length≤4096) (h:Kd.R (Kd.slice 3 (Kd.int .i64)) 31 w base ok (.slice A n c) L) :
  ∃ len:Nat→Nat,(∀ i,len i≤4096)∧Jk base L.length len A w:=by
 refine ⟨fun i=>(L.getD i []).length,fun i=>?_,fun i hi=>?_⟩
 ·show (L.getD i []).length≤4096
  rw [List.getD_eq_getElem?_getD]
  by_cases hi:i<L.length
  ·rw [List.getElem?_eq_getElem hi];exact hs _ (List.getElem_mem _)
  ·rw [List.getElem?_eq_none (by omega)];exact Nat.zero_le _
 ·obtain ⟨h0,inner,ho,hr⟩:=h
  rcases ho.2 with ⟨he,hn⟩|⟨g,cap,cur,he,hg,hh,hnc,_,hsz,htake⟩
  ·omega
  ·have hm:=hr.2 i L[i] (List.getElem?_eq_getElem hi)
   obtain ⟨v,hv,hR⟩:=hm
   have hin:inner[i]?=some v:=by
    have e:(Kd.slice 3 (Kd.int .i64)).sz=1:=rfl
    rw [e,Nat.mul_one] at hv
    have h1:((inner.drop i).take 1)[0]?=some v:=by rw [hv];rfl
    rw [List.getElem?_take] at h1
    simpa using h1
   have hcur:cur[i]?=some v:=by
    rw [← htake,List.getElem?_take] at hin
    have e:(Kd.slice 3 (Kd.int .i64)).sz=1:=rfl
    rw [e,Nat.mul_one,if_pos hi] at hin
    rw [← Array.getElem?_toList]
    exact hin
   have e0:(L.getD i [])=L[i]:=by rw [List.getD_eq_getElem?_getD,List.getElem?_eq_getElem hi];rfl
   obtain ⟨A1,c1,rfl,hl1,hC1⟩:=Kd.R_reads hR
   injection he with hA _ _
   refine ⟨g,cur,A1,c1,hA,hg,hh,?_,?_,fun k hk=>?_⟩
   ·show cur[i]?=some (.slice A1 (L.getD i []).length c1)
    rw [e0];exact hcur
   ·show (L.getD i []).length≤c1
    rw [e0];exact hl1
   ·have hk' : k<L[i].length:=by
     have hk:k<(L.getD i []).length:=hk
     rwa [e0] at hk
    obtain ⟨gi,cap1,he1,hb1,hlt1,cells,hc1⟩:=Kd.R_form hR (by omega)
    rw [he1] at hR
    injection he1 with hA1 _ _
    have hcell:=(Kd.R_cell (0:Int) hR (k:Int) (Int.natCast_nonneg k) (Int.ofNat_lt.2 hk')).1
    rw [Int.toNat_natCast,blk_cell hc1 k] at hcell
    exact ⟨gi,cells,_,hA1,hb1,hc1,hcell⟩
theorem Jk.below {base n:Nat} {len:Nat→Nat} {A:Option Addr} {w W:World} (h:Jk base n len A w) (hb:Below w.heap.size w W):Jk base n len A W:=fun i hi=>by
 obtain ⟨g,cur,Ai,ci,e,hg,hh,hc,hl,hk⟩:=h i hi
 refine ⟨g,cur,Ai,ci,e,hg,blk_below hh hb,hc,hl,fun k h=>?_⟩
 obtain ⟨gi,cells,m,e1,h1,h2,h3⟩:=hk k h
 exact ⟨gi,cells,m,e1,h1,blk_below h2 hb,h3⟩
theorem Jk.set {base n:Nat} {len:Nat→Nat} {A:Option Addr} {W:World} (h:Jk base n len A W) {b:Nat} {cs:Array Value} (hb:W.heap[b]?=some (.cells cs 3 (0,0))) (q:Nat) (x:Int):Jk base n len A (W.setCell ⟨b,q,none⟩ (.int .i64 x)):=fun i hi=>by
 obtain ⟨g,cur,Ai,ci,e,hg,hh,hc,hl,hk⟩:=h i hi
 have hne:g≠b:=fun e=>by
  rw [e,hb] at hh
  injection hh with hh
  injection hh with _ hh
  exact absurd hh (by decide)
 refine ⟨g,cur,Ai,ci,e,hg,blk_far hh hne _,hc,hl,fun k h=>?_⟩
 obtain ⟨gi,cells,m,e1,h1,h2,h3⟩:=hk k h
 by_cases hgi:gi=b
 ·subst hgi
  rw [hb] at h2
  injection h2 with h2
  injection h2 with h2 _
  subst h2
  by_cases hkq:q=k
  ·subst hkq
   refine ⟨gi,_,x,e1,h1,blk_set hb q _,?_⟩
   have hlt:q<cs.size:=(Array.getElem?_eq_some_iff.1 h3).1
   rw [Array.getElem?_setIfInBounds_self_of_lt hlt]
  ·refine ⟨gi,_,m,e1,h1,blk_set hb q _,?_⟩
   rw [Array.getElem?_setIfInBounds_ne hkq]
   exact h3
 ·exact ⟨gi,cells,m,e1,h1,blk_far h2 hgi _,h3⟩
/-! ### live.Dead -/
theorem info68:(Tryz.prog.info? 68).map (fun i=>(i.zero,i.size,i.bytes))=some (some (.agg #[.int .i64 0,.int .i64 0]),2,16):=by kernel_rfl
theorem prC_one (q:Nat × Nat):∀ u∈prC q,u.oneCell'=true:=by
 intro u hu
 simp only [prC,List.mem_cons,List.not_mem_nil,or_false] at hu
 rcases hu with rfl|rfl<;>rfl
section
variable {ops:Array Oper} {rest:List Oper} {o:Oper} {a:Act} {Q:Exit→Act→World→Prop}
theorem app86 {w0 W:World} (base:Nat) (hgd:o.guard=none) (s x:Operand) (ho:o.op=.call { callee:=.builtin .append,args:=#[s,x],argTypes:=#[42,42] })
  (v:Value) (D:List (Nat × Nat)) (i k:Nat) (hs:a.eval s=v) (hx:a.eval x=.slice (some ⟨W.heap.size,0,none⟩) 1 1) (HO:W.ownsRow base 68 2 v D.length (prCs D)) (HB:Below base w0 W) (hbase:base≤W.heap.size) (hl:D.length≤16384)
  (h:∀ v1 w1,w1.ownsRow base 68 2 v1 (D++[(i,k)]).length (prCs (D++[(i,k)]))→Below base w0 w1→TX 68 W w1→wpList Tryz.prog ops Q rest (a.put o.dst v1) w1):wpList Tryz.prog ops Q (o::rest) a (W.alloc (.cells #[.int .i64 (i:Int),.int .i64 (k:Int)] 68)):=by
 refine print_append_cells (w0:=w0) (W:=W) base hgd s x 42 68 (.agg #[.int .i64 0,.int .i64 0]) 2 16 ho Tryz.underlying42 info68 rfl (by decide) (by decide) v D.length (prCs D) (prC (i,k)) hs hx rfl (prC_one (i,k)) HO HB hbase (by omega) ?_
 intro v1 w1 ho1 hb1 hg1 _
 exact h v1 w1 (by rw [List.length_append,prCs_snoc];exact ho1) hb1 (TX.of_append HO hg1)
end
set_option maxHeartbeats 8000000 in
set_option maxRecDepth 100000 in
theorem dead_ok (p:Int) (A:Option Addr) (c:Nat) (bs:List S50) (w:World) (hC:Kd.C k50 w A bs.length bs) (hR:rightF p bs 256=true) :
  Calls Tryz.prog 30 #[.agg #[.int .i64 p,.slice A bs.length c]] w fun e w'=>∃ v,e=.returned v∧w'.ownsRow w.heap.size 68 2 v (deadP bs (plcs bs bs.length)).length (prCs (deadP bs (plcs bs bs.length)))∧Below w.heap.size w w':=by
 have RP:=Aside0.mk (rightF_iff hR)
 have HR:=Aside0.mk hR
 have HC:=Aside0.mk hC
 have HB0:=Aside0.mk (below_alloc (Below.refl w.heap.size w) (.cells #[.int .i64 p,.slice A bs.length c] 24))
 have HF0:=Aside0.mk (blk_new w (.cells #[.int .i64 p,.slice A bs.length c] 24))
 have hu34:=Tryz.underlying24
 have hu43:=Tryz.underlying50
 have hu41:=Tryz.underlying48
 have hu45:=Tryz.underlying45
 have hu86:=Tryz.underlying68
 have hlen:=RP.out.len
 clear hC hR
 go_enter Tryz.func30,Tryz.ntmps30
 go_wp2_with (go_at_call 49;refine (sets_ok p A c bs _ (Kd.C_below HC.out HB0.out) HR.out).mono ?_;rintro e w1 ⟨A1,rfl,hm,hb⟩;have HM:=Aside0.mk hm;have HF1:=Aside0.mk (blk_below HF0.out hb);have HB1:=Aside0.mk (below_then HB0.out HB0.out.size hb);have c0:=blk_cell HF1.out 0;have c1:=blk_cell HF1.out 1;simp only [List.getElem?_toArray,List.getElem?_cons_zero,List.getElem?_cons_succ] at c0 c1;clear hb hm)
 clear c0 c1
 go_loopw [5,21] (fun v i wr=>∃ x:Nat,x≤bs.length∧i=.int .i64 (x:Int)∧Aside0 (wr.ownsRow w1.heap.size 68 2 v (deadP bs (plcs bs x)).length (prCs (deadP bs (plcs bs x))))∧Aside0 (Below w1.heap.size w1 wr)) (fun _ i _=>bs.length - (intOf i).toNat)
 case atStart=>exact ⟨0,Nat.zero_le _,rfl,⟨own_nil _ _ _ _⟩,⟨Below.refl _ _⟩⟩
 case round =>
  obtain ⟨x,hx,rfl,HO,HB⟩:=hrel
  by_cases hlt:x<bs.length
  ·have b1:decide ((x:Int)<(bs.length:Int))=true:=decide_eq_true (by omega)
   have hw1:wrap64 ((x:Int)+1)=(x:Int)+1:=(wr3 (z:=0) (by decide) (by omega)).2.2
   have q1:(0:Int)≤(x:Int):=by omega
   have q2:(x:Int)<(bs.length:Int):=by omega
   obtain ⟨ad,A5,c5,eA,h0,h1,h2,h3,h4,l5,g5⟩:=at_T50 HC.out (x:Int) q1 q2
   simp only [Int.toNat_natCast] at h0 h1 h2 h3 h4
   subst eA
   have hbw:=below_then HB1.out HB1.out.size HB.out
   have h0:=pw_cell_below hbw h0
   have h1:=pw_cell_below hbw h1
   have h2:=pw_cell_below hbw h2
   have h3:=pw_cell_below hbw h3
   have h4:=pw_cell_below hbw h4
   clear hbw
   have HG5:=Aside0.mk g5
   have HOL:Aside0 (opLen bs x=(rd_T50 bs (x:Int)).f0.length):=⟨rfl⟩
   have HOP:Aside0 (∀ k:Nat,opOf bs (x,k)=rd_T45 (rd_T50 bs (x:Int)).f0 (k:Int)):=⟨fun k=>rfl⟩
   have HXL:Aside0 ((rd_T50 bs (x:Int)).f0.length≤16384):=⟨RP.out.opLen_le x⟩
   have HPL:Aside0 (∀ k,k≤opLen bs x→(deadP bs (plcs bs x++rowP x k)).length≤16384):=⟨fun k hk=>Nat.le_trans (deadP_len _ _) (part_le RP.out hlt hk)⟩
   have HST:=Aside0.mk (fun k:Nat=>deadP_snoc bs (plcs bs x++rowP x k) (x,k))
   generalize (rd_T50 bs (x:Int)).f0=xs at h0 l5 HG5 HOL HOP HXL
   generalize (rd_T50 bs (x:Int)).f1.f0=t0 at h1
   generalize (rd_T50 bs (x:Int)).f1.f1=t1 at h2
   generalize (rd_T50 bs (x:Int)).f1.f2=t2 at h3
   generalize (rd_T50 bs (x:Int)).f1.f3=t3 at h4
   obtain ⟨L,hL⟩:∃ L,afterL bs x=L:=⟨_,rfl⟩
   have HL:=Aside0.mk hL
   have HLL:Aside0 (L.length=xs.length):=⟨by rw [← hL,afterL,List.length_map,List.length_range,HOL.out]⟩
   have HLA:Aside0 (∀ k:Nat,k<L.length→rd_L1 L (k:Int)=liveRow bs x (k+1)):=⟨fun k hk=>by
    rw [HLL.out,← HOL.out] at hk
    rw [← hL]
    exact rd_afterL hk⟩
   have hbA:=below_alloc (Below.refl wr.heap.size wr) (.cells #[.slice A5 xs.length c5,.int .i64 t0,.int .i64 t1,.int .i64 t2,.int .i64 t3] 50)
   have HB2:=Aside0.mk (below_alloc HB.out (.cells #[.slice A5 xs.length c5,.int .i64 t0,.int .i64 t1,.int .i64 t2,.int .i64 t3] 50))
   have HO2:=Aside0.mk (own_alloc HO.out (.cells #[.slice A5 xs.length c5,.int .i64 t0,.int .i64 t1,.int .i64 t2,.int .i64 t3] 50))
   have HX2:=Aside0.mk (blk_new wr (.cells #[.slice A5 xs.length c5,.int .i64 t0,.int .i64 t1,.int .i64 t2,.int .i64 t3] 50))
   have c0:=blk_cell (blk_below (blk_below HF1.out HB.out) hbA) 0
   have c1:=blk_cell (blk_below (blk_below HF1.out HB.out) hbA) 1
   simp only [List.getElem?_toArray,List.getElem?_cons_zero,List.getElem?_cons_succ] at c0 c1
   clear hL g5 hbA
   go_wp2_with (go_at_call 56;refine (after_any p (some ad) c bs 256 A1 x _ (Kd.C_below HC.out (below_then HB1.out HB1.out.size HB2.out)) RP.out (HM.out.below HB2.out) hlt).mono ?_;rintro e w3 ⟨v3,rfl,hr,hb⟩;rw [HL.out] at hr;have HR3:=Aside0.mk hr;obtain ⟨A3,c3,rfl,k3,hC3⟩:=Kd.R_reads hr;have HB3:=Aside0.mk (below_then HB2.out HB2.out.size hb);have HO3:=Aside0.mk (pw_own_below HO2.out hb);have HX3:=Aside0.mk (blk_below HX2.out hb);clear hr hb hC3 k3 c0 c1)
   clear h0 h1 h2 h3 h4 HO HB HB2 HO2 HX2
   generalize wr.heap.size=g at HX3 ⊢
   go_loopw [5,31] (fun v i wr=>∃ k:Nat,k≤L.length∧i=.int .i64 (k:Int)∧Aside0 (wr.ownsRow w1.heap.size 68 2 v (deadP bs (plcs bs x++rowP x k)).length (prCs (deadP bs (plcs bs x++rowP x k))))∧Aside0 (TX 68 w3 wr)∧Aside0 (Below w1.heap.size w1 wr)) (fun _ i _=>L.length - (intOf i).toNat)
   case atStart=>exact ⟨0,Nat.zero_le _,rfl,⟨by rw [rowP_zero,List.append_nil];exact HO3.out⟩,⟨TX.refl _ _⟩,HB3⟩
   case round =>
    clear HO3 HB3
    obtain ⟨k,hk,rfl,HO,HT,HB⟩:=hrel
    by_cases hlk:k<L.length
    ·have b2:decide ((k:Int)<(L.length:Int))=true:=decide_eq_true (Int.ofNat_lt.2 hlk)
     have hkx:k<xs.length:=by rw [← HLL.out];exact hlk
     have hw2:wrap64 ((k:Int)+1)=(k:Int)+1:=(wr3 (z:=0) (by decide) (Nat.le_trans (Nat.le_of_lt hkx) HXL.out)).2.2
     obtain ⟨A3',c3',e3,k3,hC3⟩:=Kd.R_reads (HT.out.R HR3.out (by intro q hq;simp [Kd.slice,Kd.int,Kd.scalar] at hq;omega))
     obtain ⟨rfl,rfl⟩:A3'=A3∧c3'=c3:=by
      injection e3 with e3 _ e4
      exact ⟨e3.symm,e4.symm⟩
     clear e3 k3
     obtain ⟨adr,A0,k0,eI,hi0,hi1,hi2⟩:=row_cell hC3 hlk (HLA.out k hlk)
     subst eI
     have HI1:=Aside0.mk hi1
     have HI2:=Aside0.mk hi2
     have y0:=blk_cell (HT.out.blk HX3.out (by decide)) 0
     simp only [List.getElem?_toArray,List.getElem?_cons_zero,List.getElem?_cons_succ] at y0
     obtain ⟨adk,A6,c6,eA,x0,x1,x2,x3,x4,x5,x6,x7⟩:=at_T45 (Kd.C_below HG5.out (below_then HB1.out HB1.out.size HB.out)) (k:Int) (Int.natCast_nonneg k) (Int.ofNat_lt.2 hkx)
     simp only [Int.toNat_natCast] at x0 x1 x2 x3 x4 x5
     subst eA
     have HS:=Aside0.mk (HST.out k)
     have hD:deadB bs (x,k)=(pureX (opOf bs (x,k)) && !decide ((opOf bs (x,k)).f1∈liveRow bs x (k+1))):=rfl
     rw [HOP.out k] at hD
     have HLN:=Aside0.mk (HPL.out k (by rw [HOL.out];omega))
     have HL4:=Aside0.mk (liveRow_le RP.out x (k+1))
     generalize rd_T45 xs (k:Int)=X at x0 x1 x2 x3 x4 x5 x6 x7 hD
     generalize liveRow bs x (k+1)=l at hi0 HI1 HI2 hD HL4
     have hbA:=below_alloc (Below.refl wr.heap.size wr) (.cells #[.int .i64 X.f0,.int .i64 X.f1,.int .i64 X.f2,.int .i64 X.f3,.int .i64 X.f4,.slice A6 X.f5.length c6] 45)
     have HX6:=Aside0.mk x6
     have HX7:=Aside0.mk (Kd.C_below x7 hbA)
     have HXB:=Aside0.mk (blk_new wr (.cells #[.int .i64 X.f0,.int .i64 X.f1,.int .i64 X.f2,.int .i64 X.f3,.int .i64 X.f4,.slice A6 X.f5.length c6] 45))
     have HB3:=Aside0.mk (below_alloc HB.out (.cells #[.int .i64 X.f0,.int .i64 X.f1,.int .i64 X.f2,.int .i64 X.f3,.int .i64 X.f4,.slice A6 X.f5.length c6] 45))
     have HO3:=Aside0.mk (own_alloc HO.out (.cells #[.int .i64 X.f0,.int .i64 X.f1,.int .i64 X.f2,.int .i64 X.f3,.int .i64 X.f4,.slice A6 X.f5.length c6] 45))
     have HT3:=Aside0.mk (HT.out.trans (TX.of_below hbA))
     have HI3:=Aside0.mk (Kd.C_below HI2.out hbA)
     clear x6 x7 hi1 hi2 hbA hC3
     generalize deadP bs (plcs bs x++rowP x k)=D at HO3 HS HLN
     cases hp:pureX X with
     | false =>
      have HP:=Aside0.mk hp
      have HS2:Aside0 (deadP bs (plcs bs x++rowP x (k+1))=D):=⟨by rw [rowP_succ,← List.append_assoc,HS.out,hD,hp];rfl⟩
      clear hp hD
      go_wp2_with (go_at_call 58;refine (pure_any X A6 c6 _ HX7.out HX6.out).mono ?_;rintro e w4 ⟨rfl,hb⟩;rw [HP.out];have HB4:=Aside0.mk (below_then HB3.out HB3.out.size hb);have HO4:=Aside0.mk (pw_own_below HO3.out hb);have HT4:=Aside0.mk (HT3.out.trans (TX.of_below hb));have HI4:=Aside0.mk (Kd.C_below HI3.out hb);have z1:=blk_cell (blk_below HXB.out hb) 1;simp only [List.getElem?_toArray,List.getElem?_cons_zero,List.getElem?_cons_succ] at z1;clear hb)
      go_roundw
      case rel=>exact ⟨k+1,hlk,by first|(rw [hw2];exact num_cast k)|(with_reducible exact num_cast k),⟨by rw [HS2.out];exact HO4.out⟩,HT4,HB4⟩
      case measure=>first|(rw [hw2];exact num_meas hlk)|(with_reducible exact num_meas hlk)
     | true =>
      have HP:=Aside0.mk hp
      cases hm:decide (X.f1∈l) with
      | true =>
       have HM1:=Aside0.mk hm
       have HS2:Aside0 (deadP bs (plcs bs x++rowP x (k+1))=D):=⟨by rw [rowP_succ,← List.append_assoc,HS.out,hD,hp,hm];rfl⟩
       clear hp hD hm
       go_wp2_with (first
        | (go_at_call 58;refine (pure_any X A6 c6 _ HX7.out HX6.out).mono ?_;rintro e w4 ⟨rfl,hb⟩;rw [HP.out];have HB4:=Aside0.mk (below_then HB3.out HB3.out.size hb);have HO4:=Aside0.mk (pw_own_below HO3.out hb);have HT4:=Aside0.mk (HT3.out.trans (TX.of_below hb));have HI4:=Aside0.mk (Kd.C_below HI3.out hb);have z1:=blk_cell (blk_below HXB.out hb) 1;simp only [List.getElem?_toArray,List.getElem?_cons_zero,List.getElem?_cons_succ] at z1;clear hb)
        | (go_at_call 59;refine (contains_any A0 k0 l X.f1 _ HI4.out HI1.out HL4.out).mono ?_;rintro e w5 ⟨rfl,hb⟩;rw [HM1.out];have HB5:=Aside0.mk (below_then HB4.out HB4.out.size hb);have HO5:=Aside0.mk (pw_own_below HO4.out hb);have HT5:=Aside0.mk (HT4.out.trans (TX.of_below hb));clear hb))
       go_roundw
       case rel=>exact ⟨k+1,hlk,by first|(rw [hw2];exact num_cast k)|(with_reducible exact num_cast k),⟨by rw [HS2.out];exact HO5.out⟩,HT5,HB5⟩
       case measure=>first|(rw [hw2];exact num_meas hlk)|(with_reducible exact num_meas hlk)
      | false =>
       have HM1:=Aside0.mk hm
       have HS2:Aside0 (deadP bs (plcs bs x++rowP x (k+1))=D++[(x,k)]):=⟨by rw [rowP_succ,← List.append_assoc,HS.out,hD,hp,hm];rfl⟩
       clear hp hD hm
       go_wp2_with (first
        | (go_at_call 58;refine (pure_any X A6 c6 _ HX7.out HX6.out).mono ?_;rintro e w4 ⟨rfl,hb⟩;rw [HP.out];have HB4:=Aside0.mk (below_then HB3.out HB3.out.size hb);have HO4:=Aside0.mk (pw_own_below HO3.out hb);have HT4:=Aside0.mk (HT3.out.trans (TX.of_below hb));have HI4:=Aside0.mk (Kd.C_below HI3.out hb);have z1:=blk_cell (blk_below HXB.out hb) 1;simp only [List.getElem?_toArray,List.getElem?_cons_zero,List.getElem?_cons_succ] at z1;clear hb)
        | (go_at_call 59;refine (contains_any A0 k0 l X.f1 _ HI4.out HI1.out HL4.out).mono ?_;rintro e w5 ⟨rfl,hb⟩;rw [HM1.out];have HB5:=Aside0.mk (below_then HB4.out HB4.out.size hb);have HO5:=Aside0.mk (pw_own_below HO4.out hb);have HT5:=Aside0.mk (HT4.out.trans (TX.of_below hb));clear hb)
        | (at_builtin;refine app86 (w0:=w1) w1.heap.size rfl _ _ rfl u5 D x k rfl rfl HO5.out HB5.out HB5.out.size HLN.out ?_;intro v6 w6 ho6 hb6 ht6;have HO6:=Aside0.mk ho6;have HB6:=Aside0.mk hb6;have HT6:=Aside0.mk (HT5.out.trans ht6);clear ho6 hb6 ht6))
       go_roundw
       case rel=>exact ⟨k+1,hlk,by first|(rw [hw2];exact num_cast k)|(with_reducible exact num_cast k),⟨by rw [HS2.out];exact HO6.out⟩,HT6,HB6⟩
       case measure=>first|(rw [hw2];exact num_meas hlk)|(with_reducible exact num_meas hlk)
    ·have b2:decide ((k:Int)<(L.length:Int))=false:=decide_eq_false (fun h=>hlk (Int.ofNat_lt.1 h))
     have ek:k=xs.length:=(Nat.le_antisymm hk (Nat.le_of_not_lt hlk)).trans HLL.out
     have HF:Aside0 (deadP bs (plcs bs x++rowP x k)=deadP bs (plcs bs (x+1))):=⟨by rw [plcs_succ,HOL.out,ek]⟩
     rw [HF.out] at HO
     clear ek HF
     go_wp2_with fail
     go_roundw
     case rel=>exact ⟨x+1,hlt,by first|(rw [hw1];exact num_cast x)|(with_reducible exact num_cast x),HO,HB⟩
     case measure=>first|(rw [hw1];exact num_meas hlt)|(with_reducible exact num_meas hlt)
  ·have b1:decide ((x:Int)<(bs.length:Int))=false:=decide_eq_false (by omega)
   obtain rfl:x=bs.length:=Nat.le_antisymm hx (Nat.le_of_not_lt hlt)
   go_wp2_with fail
   go_ret
   exact ⟨_,rfl,own_less HO.out HB1.out.size,below_then HB1.out HB1.out.size HB.out⟩
end Go.Proofs.YtnkgbnbbmcoiiaaGreat.S
