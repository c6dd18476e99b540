import Derived.Test.YtnkgbnbbmcoiiaaGreatBk
import Derived.Test.YtnkgbnbbmcoiiaaGreatOrof25
import Derived.Test.YtnkgbnbbmcoiiaaGreatOsmall
import Derived.Test.YtnkgbnbbmcoiiaaGreatLtz
import Derived.Test.YtnkgbnbbmcoiiaaGreatOora
namespace Go.Proofs.YtnkgbnbbmcoiiaaGreat.S
open Go.RowKit Go.IM Go.RelRegion Go.Proofs.YtnkgbnbbmcoiiaaGreatW.PrintWords Go.Proofs.YtnkgbnbbmcoiiaaGreatW.PrintLast Go.Proofs.YtnkgbnbbmcoiiaaGreatW.PrintMore
set_option linter.unusedVariables false
set_option linter.unusedSimpArgs false
/-! ### swagelaw25.SpansTell -/
theorem OfQ.uniq {P:Int→Int→Prop} : ∀ {a b:List S52},OfQ P a→OfQ P b→a=b:=by
 intro a b ha hb
 have hmem:∀ {a b:List S52},OfQ P a→OfQ P b→∀ x∈a,x∈b:=by
  intro a b ha hb x hx
  have hs:=ha.span x hx
  obtain ⟨y,hy,e⟩:=hb.all _ _ hs.lo
  have hs2:=hb.span y hy
  rw [e] at hs2
  obtain ⟨e1,e2⟩:=hs.uniq hs2
  have:x=y:=by
   obtain ⟨x0,x1,x2⟩:=x
   obtain ⟨y0,y1,y2⟩:=y
   simp only at e e1 e2
   rw [e,e1,e2]
  rw [this]
  exact hy
 have ext:∀ (a b:List S52),Rise (a.map (·.f0))→Rise (b.map (·.f0))→(∀ x,x∈a↔x∈b)→a=b:=by
  intro a
  induction a with
  | nil =>
   intro b _ _ h
   cases b with
   | nil=>rfl
   | cons y b=>exact absurd ((h y).2 List.mem_cons_self) (by simp)
  | cons x a ih =>
   intro b h1 h2 h
   cases b with
   | nil=>exact absurd ((h x).1 List.mem_cons_self) (by simp)
   | cons y b =>
    rw [List.map_cons] at h1 h2
    obtain ⟨p1,p2⟩:=List.pairwise_cons.1 h1
    obtain ⟨q1,q2⟩:=List.pairwise_cons.1 h2
    have e:x=y:=by
     rcases List.mem_cons.1 ((h x).1 List.mem_cons_self) with e|hx
     ·exact e
     ·rcases List.mem_cons.1 ((h y).2 List.mem_cons_self) with e|hy
      ·exact e.symm
      ·have l1:=q1 _ (List.mem_map.2 ⟨x,hx,rfl⟩)
       have l2:=p1 _ (List.mem_map.2 ⟨y,hy,rfl⟩)
       omega
    subst e
    congr 1
    refine ih b p2 q2 (fun z=>⟨fun hz=>?_,fun hz=>?_⟩)
    ·rcases List.mem_cons.1 ((h z).1 (List.mem_cons_of_mem _ hz)) with e|hz2
     ·subst e
      exact absurd (p1 _ (List.mem_map.2 ⟨z,hz,rfl⟩)) (Int.lt_irrefl _)
     ·exact hz2
    ·rcases List.mem_cons.1 ((h z).2 (List.mem_cons_of_mem _ hz)) with e|hz2
     ·subst e
      exact absurd (q1 _ (List.mem_map.2 ⟨z,hz,rfl⟩)) (Int.lt_irrefl _)
     ·exact hz2
 exact ext a b ha.rise hb.rise (fun x=>⟨hmem ha hb x,hmem hb ha x⟩)
def numX (p:Int) (bs:List S50):List Int:=if rightF p bs 256=true then numL bs else []
def callX (p:Int) (bs:List S50):List Int:=if rightF p bs 256=true then callsP bs (plcs bs bs.length) else []
def OX (p:Int) (bs:List S50) (out:List S52):Prop:=(rightF p bs 256=true→OfQ (Pts p bs bs.length) out)∧(rightF p bs 256=false→out=[])
/-- A row of numbers that a call tells;one of spans. -/
def ToldI (w:World) (L:List Int) (e:Ending) (w' : World):Prop:=∃ A c,e=.returned (.slice A L.length c)∧L.length≤c∧Kd.C (Kd.int .i64) w' A L.length L∧Below w.heap.size w w'
def ToldS (w:World) (O:List S52) (e:Ending) (w' : World):Prop:=∃ A c,e=.returned (.slice A O.length c)∧O.length≤c∧Kd.C k52 w' A O.length O∧Below w.heap.size w w'
theorem Cint_nil (w:World):Kd.C (Kd.int .i64) w none 0 []:=⟨rfl,by decide,fun h=>absurd h (Nat.lt_irrefl _)⟩
theorem C52_nil (w:World):Kd.C k52 w none 0 []:=⟨rfl,by decide,fun h=>absurd h (Nat.lt_irrefl _)⟩
theorem ToldI.nil {w w' : World} {v:Value} (h:v=.slice none 0 0) (hb:Below w.heap.size w w'):ToldI w [] (.returned v) w':=⟨none,0,by rw [h];rfl,Nat.le_refl _,Cint_nil _,hb⟩
theorem ToldI.of_R {w w' : World} {v:Value} {L:List Int} {base:Nat} {ok:Nat→Prop} (h:Kd.R (Kd.int .i64) 3 w' base ok v L) (hb:Below w.heap.size w w'):ToldI w L (.returned v) w':=by
 obtain ⟨A,c,rfl,hl,hC⟩:=Kd.R_reads h
 exact ⟨A,c,rfl,hl,hC,hb⟩
theorem ToldS.of_R {w w' : World} {v:Value} {L:List S52} {base:Nat} {ok:Nat→Prop} (h:Kd.R k52 52 w' base ok v L) (hb:Below w.heap.size w w'):ToldS w L (.returned v) w':=by
 obtain ⟨A,c,rfl,hl,hC⟩:=Kd.R_reads h
 exact ⟨A,c,rfl,hl,hC,hb⟩
theorem num_toldI (p:Int) (A:Option Addr) (c:Nat) (bs:List S50) (w:World) (hC:Kd.C k50 w A bs.length bs) (hc:bs.length≤c):Calls Tryz.prog 11 #[.agg #[.int .i64 p,.slice A bs.length c]] w (ToldI w (numX p bs)):=by
 unfold numX
 cases hR:rightF p bs 256 with
 | true =>
  rw [if_pos rfl]
  refine (number_ok2 p A c bs w hC hc hR).mono ?_
  rintro e w' ⟨ad,c1,rfl,h1,h2,hb⟩
  exact ⟨_,c1,rfl,h1,h2,hb⟩
 | false =>
  rw [if_neg (by decide)]
  refine (number_bad p A c bs w hC hR).mono ?_
  rintro e w' ⟨rfl,hb⟩
  exact ToldI.nil rfl hb
theorem rnum_toldI (p:Int) (A:Option Addr) (c:Nat) (bs:List S50) (w:World) (hF:Fits bs) (hC:Kd.C k50 w A bs.length bs) (hc:bs.length≤c):Calls Tryz.prog 12 #[.agg #[.int .i64 p,.slice A bs.length c]] w (ToldI w (numX p bs)):=by
 have h:Ev (fun k=>swageref25_Number.f k p bs) (numX p bs):=by
  unfold numX
  cases hR:rightF p bs 256 with
  | true=>rw [if_pos rfl];exact r25_number p bs hF hR
  | false=>rw [if_neg (by decide)];exact r25_number_bad p bs hF hR
 obtain ⟨k,hk⟩:=h
 refine (swageref25_Number.calls k p A c bs _ w hC hc (hk k (Nat.le_refl _))).mono ?_
 rintro e w' ⟨v,rfl,h,hb⟩
 exact ToldI.of_R h hb
theorem calls_bad (p:Int) (A:Option Addr) (c:Nat) (bs:List S50) (w:World) (hC:Kd.C k50 w A bs.length bs) (hR:rightF p bs 256=false) :
  Calls Tryz.prog 15 #[.agg #[.int .i64 p,.slice A bs.length c]] w fun e w'=>e=.returned (.slice none 0 0)∧Below w.heap.size w w':=by
 have HR:=ak_ hR
 have HC:=ak_ hC
 have HB0:=ak_ (below_alloc (Below.refl w.heap.size w) (.cells #[.int .i64 p,.slice A bs.length c] 24))
 have hu34:=Tryz.underlying24
 have hnil:∀ W,Sem.run Tryz.prog (binOp .eql 31 (.slice none 0 0) (.slice none 0 0)) W=.ok (.bool true) W:=fun W=>by kernel_rfl
 clear hC hR
 go_enter Tryz.func15,Tryz.ntmps15
 go_wp2_with (go_at_call 11;refine (number_bad p A c bs _ (Kd.C_below HC.out HB0.out) HR.out).mono ?_;rintro e w1 ⟨rfl,hb⟩;have HB1:=ak_ (below_then HB0.out HB0.out.size hb);clear hb)
 go_ret
 exact ⟨rfl,HB1.out⟩
theorem call_toldI (p:Int) (A:Option Addr) (c:Nat) (bs:List S50) (w:World) (hC:Kd.C k50 w A bs.length bs) (hc:bs.length≤c):Calls Tryz.prog 15 #[.agg #[.int .i64 p,.slice A bs.length c]] w (ToldI w (callX p bs)):=by
 unfold callX
 cases hR:rightF p bs 256 with
 | true =>
  rw [if_pos rfl]
  refine (calls_ok p A c bs w hC hc hR).mono ?_
  rintro e w' ⟨v,rfl,ho,hb⟩
  exact ToldI.of_R (Kd.R_of_own ho (ok:=fun _=>True) (fun _ _=>trivial)) hb
 | false =>
  rw [if_neg (by decide)]
  refine (calls_bad p A c bs w hC hR).mono ?_
  rintro e w' ⟨rfl,hb⟩
  exact ToldI.nil rfl hb
theorem rcall_toldI (p:Int) (A:Option Addr) (c:Nat) (bs:List S50) (w:World) (hF:Fits bs) (hC:Kd.C k50 w A bs.length bs) (hc:bs.length≤c):Calls Tryz.prog 16 #[.agg #[.int .i64 p,.slice A bs.length c]] w (ToldI w (callX p bs)):=by
 have h:Ev (fun k=>swageref25_Calls.f k p bs) (callX p bs):=by
  unfold callX
  cases hR:rightF p bs 256 with
  | true=>rw [if_pos rfl];exact r25_calls p bs hF hR
  | false=>rw [if_neg (by decide)];exact r25_calls_bad p bs hF hR
 obtain ⟨k,hk⟩:=h
 refine (swageref25_Calls.calls k p A c bs _ w hC hc (hk k (Nat.le_refl _))).mono ?_
 rintro e w' ⟨v,rfl,h,hb⟩
 exact ToldI.of_R h hb
theorem of_toldS (p:Int) (A:Option Addr) (c:Nat) (bs:List S50) (w:World) (hC:Kd.C k50 w A bs.length bs) (hc:bs.length≤c):Calls Tryz.prog 9 #[.agg #[.int .i64 p,.slice A bs.length c]] w fun e w'=>∃ O,OX p bs O∧ToldS w O e w':=by
 cases hR:rightF p bs 256 with
 | true =>
  refine (of_ok p A c bs w hC hc hR).mono ?_
  rintro e w' ⟨v,O,rfl,h,hq,hb⟩
  exact ⟨O,⟨fun _=>hq,fun h=>by rw [hR] at h;cases h⟩,ToldS.of_R h hb⟩
 | false =>
  refine (of_bad p A c bs w hC hR).mono ?_
  rintro e w' ⟨rfl,hb⟩
  exact ⟨[],⟨(fun h=>by rw [hR] at h;cases h),fun _=>rfl⟩,none,0,rfl,Nat.le_refl _,C52_nil _,hb⟩
set_option maxHeartbeats 4000000 in
set_option maxRecDepth 100000 in
theorem rof_bad (p:Int) (A:Option Addr) (c:Nat) (bs:List S50) (w:World) (hF:Fits bs) (hR:rightF p bs 256=false) (hC:Kd.C k50 w A bs.length bs) (hc:bs.length≤c) :
  Calls Tryz.prog 14 #[.agg #[.int .i64 p,.slice A bs.length c]] w fun e w'=>e=.returned (.slice none 0 0)∧Below w.heap.size w w':=by
 have HCc:=ak_ hc
 have HC:=ak_ hC
 obtain ⟨kr,hkr⟩:=hF.right (p:=p)
 have HKR:=ak_ (hkr kr (Nat.le_refl _))
 rw [hR] at HKR
 have HB0:=ak_ (below_alloc (Below.refl w.heap.size w) (.cells #[.int .i64 p,.slice A bs.length c] 24))
 have HF0:=ak_ (blk_new w (.cells #[.int .i64 p,.slice A bs.length c] 24))
 have c0:=bc_ HF0 0
 have c1:=bc_ HF0 1
 simp only [ga_,gb_,gc_] at c0 c1
 have hu24:=Tryz.underlying24
 clear hC hc hR hF hkr
 go_enter Tryz.func14,Tryz.ntmps14
 go_wp2_with (go_at_call 46;refine (swageref14_Right.calls kr p A c bs 256 _ _ (Kd.C_below HC.out HB0.out) HCc.out HKR.out).mono ?_;rintro e w1 ⟨rfl,hb⟩;have HB1:=ak_ (below_then HB0.out HB0.out.size hb);clear c0 c1 hb)
 go_loopw [4,5] (fun v i wr=>v=.slice none 0 0∧i=.int .i64 1∧Aside0 (Below w1.heap.size w1 wr)) (fun _ i _=>0)
 case atStart=>exact ⟨rfl,rfl,⟨Below.refl _ _⟩⟩
 case round =>
  obtain ⟨rfl,rfl,HB⟩:=hrel
  go_wp2_with fail
  go_ret
  exact ⟨rfl,below_then HB1.out HB1.out.size HB.out⟩
theorem rof_toldS (p:Int) (A:Option Addr) (c:Nat) (bs:List S50) (w:World) (hF:Fits bs) (hC:Kd.C k50 w A bs.length bs) (hc:bs.length≤c) {O:List S52} (hO:OX p bs O):Calls Tryz.prog 14 #[.agg #[.int .i64 p,.slice A bs.length c]] w (ToldS w O):=by
 cases hR:rightF p bs 256 with
 | true =>
  refine (rof_ok p A c bs w hF hR hC hc).mono ?_
  rintro e w' ⟨v,O',rfl,h,hq,hb⟩
  obtain rfl:=(hO.1 hR).uniq hq
  exact ToldS.of_R h hb
 | false =>
  obtain rfl:=hO.2 hR
  refine (rof_bad p A c bs w hF hR hC hc).mono ?_
  rintro e w' ⟨rfl,hb⟩
  exact ⟨none,0,rfl,Nat.le_refl _,C52_nil _,hb⟩
theorem ints_told (A0:Option Addr) (c0:Nat) (A1:Option Addr) (c1:Nat) (L:List Int) (w:World) (hS:L.length≤4096) (h0:Kd.C (Kd.int .i64) w A0 L.length L) (hc0:L.length≤c0) (h1:Kd.C (Kd.int .i64) w A1 L.length L) (hc1:L.length≤c1) :
  Calls Tryz.prog 10 #[.slice A0 L.length c0,.slice A1 L.length c1] w fun e w'=>e=.returned (.bool true)∧Below w.heap.size w w':=by
 obtain ⟨k,hk⟩:=ints_self L hS
 refine (swageref02_Ints.calls k A0 c0 L A1 c1 L true w h0 hc0 h1 hc1 (hk k (Nat.le_refl _))).mono ?_
 rintro e w' ⟨rfl,hd⟩
 exact ⟨rfl,hd.below⟩
theorem spans_self (l:List S52) (hl:l.length≤9000):Ev (fun k=>swageref25_Same.f k l l) true:=by
 have key:∀ m j,j+m=l.length→Ev (fun k=>swageref25_Same.l0 k l l (j:Int)) true:=by
  intro m
  induction m with
  | zero =>
   intro j hj
   refine Ev.pure1 _ (fun k=>?_)
   rw [swageref25_Same.l0,if_neg (by omega)]
  | succ m ih =>
   intro j hj
   refine (ih (j+1) (by omega)).step (fun k=>?_)
   rw [swageref25_Same.l0,if_pos (by omega),if_pos (Int.natCast_nonneg j),if_pos (by omega),if_neg (by simp),nat_wrap (by omega)]
 have h0:=key l.length 0 (Nat.zero_add _)
 refine Ev.same h0 (fun k=>?_)
 unfold swageref25_Same.f
 rw [if_pos rfl]
 rfl
theorem spans_told (A0:Option Addr) (c0:Nat) (A1:Option Addr) (c1:Nat) (L:List S52) (w:World) (hS:L.length≤9000) (h0:Kd.C k52 w A0 L.length L) (hc0:L.length≤c0) (h1:Kd.C k52 w A1 L.length L) (hc1:L.length≤c1) :
  Calls Tryz.prog 13 #[.slice A0 L.length c0,.slice A1 L.length c1] w fun e w'=>e=.returned (.bool true)∧Below w.heap.size w w':=by
 obtain ⟨k,hk⟩:=spans_self L hS
 refine (swageref25_Same.calls k A0 c0 L A1 c1 L true w h0 hc0 h1 hc1 (hk k (Nat.le_refl _))).mono ?_
 rintro e w' ⟨rfl,hd⟩
 exact ⟨rfl,hd.below⟩
theorem plcs_250 {bs:List S50} (h:∀ i:Nat,(rd_T50 bs (i:Int)).f0.length≤250):∀ n,(plcs bs n).length≤n*250
 | 0=>Nat.zero_le _
 | n+1=>by
  have h1:=plcs_250 h n
  have h2:opLen bs n≤250:=h n
  rw [plcs_succ,List.length_append]
  simp only [rowP,List.length_map,List.length_range]
  omega
theorem numX_len {p:Int} {bs:List S50} (h:Few17 bs):(numX p bs).length≤4096:=by
 have:=h.len
 unfold numX
 split
 ·rw [numL_length];omega
 ·exact Nat.zero_le _
theorem callX_len {p:Int} {bs:List S50} (h:Few17 bs):(callX p bs).length≤4096:=by
 have h1:=h.len
 unfold callX
 split
 ·have h2:=callsP_len bs (plcs bs bs.length)
  have h3:=plcs_250 h.ops bs.length
  omega
 ·exact Nat.zero_le _
theorem OX.len {p:Int} {bs:List S50} {O:List S52} (h:OX p bs O):O.length≤9000:=by
 cases hR:rightF p bs 256 with
 | true =>
  have RP:=rightF_iff hR
  have hq:=h.1 hR
  have hn:(O.map (·.f0)).Nodup:=hq.rise.imp (fun h e=>by omega)
  have:=Lv.regs_le hn (fun r hr=>by
   obtain ⟨x,hx,rfl⟩:=List.mem_map.1 hr
   exact pts_reg RP (Nat.le_refl _) (hq.span x hx).lo)
  rw [List.length_map] at this
  omega
 | false=>rw [h.2 hR];decide
def st3E:Nat→Option (List Nat)
 | 2=>some []
 | 3=>some [2]
 | 4=>some []
 | 5=>some [4]
 | 6=>some [3,5]
 | 7=>some [6]
 | 8=>some [7]
 | 9=>some [8]
 | 10=>some [8]
 | 11=>some [8,10]
 | 12=>some [8,9,11]
 | 13=>some [8,12]
 | 14=>some [13]
 | 15=>some [14]
 | 16=>some [14,15]
 | 17=>some [14]
 | 18=>some [14,17]
 | 19=>some [14,16,18]
 | 20=>some [14,19]
 | 21=>some [20]
 | 22=>some [21]
 | 23=>some [21]
 | 24=>some [21,22,23]
 | 25=>some [21,24]
 | 26=>some [25]
 | _=>none
def st3T (p:Int) (A As A6:Option Addr) (n c cs m c6:Nat):Nat→Value
 | 2=>.agg #[.int .i64 p,.slice A n c]
 | 4=>.agg #[.int .i64 p,.slice A n c]
 | 6=>.bool true
 | 7=>.bool true
 | 8=>.bool true
 | 9=>.slice A6 m c6
 | 10=>.agg #[.int .i64 p,.slice A n c]
 | 12=>.bool true
 | 13=>.bool true
 | 14=>.bool true
 | 15=>.agg #[.int .i64 p,.slice A n c]
 | 17=>.agg #[.int .i64 p,.slice A n c]
 | 19=>.bool true
 | 20=>.bool true
 | 21=>.bool true
 | 22=>.agg #[.int .i64 p,.slice A n c]
 | 23=>.agg #[.int .i64 p,.slice As n cs]
 | 24=>.bool true
 | 25=>.bool true
 | 26=>.bool true
 | _=>undef
def st3I (NX CX:List Int):Nat→Option (List Int)
 | 3=>some NX
 | 5=>some NX
 | 16=>some CX
 | 18=>some CX
 | _=>none
/-- What the loud of SpansTell's great test tell. -/
def RT3 (T:Nat→Value) (LL:Nat→Option (List Int)) (O:List S52) (k:Nat) (vs:List Value) (w' : World):Prop :=
 (∀ l,LL k=some l→∃ A c,vs=[.slice A l.length c]∧l.length≤c∧Kd.C (Kd.int .i64) w' A l.length l)∧(k=11→∃ A c,vs=[.slice A O.length c]∧O.length≤c∧Kd.C k52 w' A O.length O)∧(LL k=none→k≠11→vs=[T k])
section
variable {T:Nat→Value} {LL:Nat→Option (List Int)} {O:List S52} {k:Nat} {x:Nat→Value} {w' : World}
theorem RT3.below {vs:List Value} {w2:World} (h:RT3 T LL O k vs w') (hb:Below w'.heap.size w' w2):RT3 T LL O k vs w2 :=
 ⟨fun l hl=>by
  obtain ⟨A,c,e,h1,h2⟩:=h.1 l hl
  exact ⟨A,c,e,h1,Kd.C_below h2 hb⟩,fun hk=>by
  obtain ⟨A,c,e,h1,h2⟩:=h.2.1 hk
  exact ⟨A,c,e,h1,Kd.C_below h2 hb⟩,h.2.2⟩
theorem RT3.val (h:RT3 T LL O k ([k].map x) w') (hn:LL k=none) (h1:k≠11):x k=T k:=by
 have:=h.2.2 hn h1
 simpa using this
theorem RT3.row {l:List Int} (h:RT3 T LL O k ([k].map x) w') (hl:LL k=some l):∃ A c,x k=.slice A l.length c∧l.length≤c∧Kd.C (Kd.int .i64) w' A l.length l:=by
 obtain ⟨A,c,e,h1,h2⟩:=h.1 l hl
 exact ⟨A,c,by simpa using e,h1,h2⟩
theorem RT3.sp (h:RT3 T LL O 11 ([11].map x) w'):∃ A c,x 11=.slice A O.length c∧O.length≤c∧Kd.C k52 w' A O.length O:=by
 obtain ⟨A,c,e,h1,h2⟩:=h.2.1 rfl
 exact ⟨A,c,by simpa using e,h1,h2⟩
theorem RT3.mkval {v:Value} (h:v=T k) (hn:LL k=none) (h1:k≠11):RT3 T LL O k ([k].map fun e=>if e=k then v else x e) w' :=
 ⟨(fun l hl=>by rw [hn] at hl;cases hl),fun e=>absurd e h1,fun _ _=>by rw [h];simp⟩
theorem RT3.mkrow {l:List Int} {A:Option Addr} {c:Nat} (hl:LL k=some l) (h1:l.length≤c) (h2:Kd.C (Kd.int .i64) w' A l.length l) (h3:k≠11):RT3 T LL O k ([k].map fun e=>if e=k then .slice A l.length c else x e) w':=by
 refine ⟨fun l' hl'=>?_,fun e=>absurd e h3,fun hn=>?_⟩
 ·rw [hl] at hl'
  injection hl' with hl'
  subst hl'
  exact ⟨A,c,by simp,h1,h2⟩
 ·rw [hn] at hl
  cases hl
theorem RT3.mksp {A:Option Addr} {c:Nat} (hl:LL 11=none) (h1:O.length≤c) (h2:Kd.C k52 w' A O.length O):RT3 T LL O 11 ([11].map fun e=>if e=11 then .slice A O.length c else x e) w' :=
 ⟨(fun l hl'=>by rw [hl] at hl';cases hl'),fun _=>⟨A,c,by simp,h1,h2⟩,fun _ h=>absurd rfl h⟩
end
set_option maxHeartbeats 16000000 in
set_option maxRecDepth 100000 in
theorem stell_few (p:Int) (A:Option Addr) (c:Nat) (bs:List S50) (w:World) (k:Nat) (hC:Kd.C k50 w A bs.length bs) (hc:bs.length≤c) (hf:swagelaw25_few.f k p bs=some false) :
  Calls Tryz.prog 3 #[.agg #[.int .i64 p,.slice A bs.length c]] w fun e w'=>e=.returned (.bool true)∧Below w.heap.size w w':=by
 have hu24:=Tryz.underlying24
 have HF:=ak_ hf
 have HC:=ak_ hC
 have HCc:=ak_ hc
 have HB0:=ak_ (below_alloc (Below.refl w.heap.size w) (.cells #[.int .i64 p,.slice A bs.length c] 24))
 have HF0:=ak_ (blk_new w (.cells #[.int .i64 p,.slice A bs.length c] 24))
 clear hC hf hc
 go_enter Tryz.func3,Tryz.ntmps3
 go_wp2_with (first
  | (go_at_call 6;refine (small_walk _).mono ?_;rintro e w1 ⟨rfl,hb⟩;have HB1:=ak_ (below_then HB0.out HB0.out.size hb);have HF1:=ak_ (blk_below HF0.out hb);have c0:=bc_ HF1 0;have c1:=bc_ HF1 1;simp only [ga_,gb_,gc_] at c0 c1;clear hb)
  | (go_at_call 7;refine (swagelaw25_few.calls k p A c bs false _ (Kd.C_below HC.out HB1.out) HCc.out HF.out).mono ?_;rintro e w2 ⟨rfl,hb⟩;have HB2:=ak_ (below_then HB1.out HB1.out.size hb);have HF2:=ak_ (blk_below HF1.out hb);clear c0 c1;have c0:=bc_ HF2 0;have c1:=bc_ HF2 1;simp only [ga_,gb_,gc_] at c0 c1;clear hb))
 go_ret
 exact ⟨rfl,HB2.out⟩
set_option maxHeartbeats 16000000 in
set_option maxRecDepth 100000 in
theorem stell_walk (p:Int) (A:Option Addr) (c:Nat) (bs:List S50) (w:World) (k:Nat) (hC:Kd.C k50 w A bs.length bs) (hc:bs.length≤c) (hf:swagelaw25_few.f k p bs=some true)
  (NX CX:List Int) (PO:List S52→Prop) (hNL:NX.length≤4096) (hCL:CX.length≤4096) (hOL:∀ O,PO O→O.length≤9000) (q8:∀ w',Kd.C k50 w' A bs.length bs→Calls Tryz.prog 8 #[.agg #[.int .i64 p,.slice A bs.length c]] w' fun e w2=>∃ A' c',e=.returned (.agg #[.int .i64 p,.slice A' bs.length c'])∧bs.length≤c'∧Kd.C k50 w2 A' bs.length bs∧Below w'.heap.size w' w2) (q9:∀ w',Kd.C k50 w' A bs.length bs→Calls Tryz.prog 9 #[.agg #[.int .i64 p,.slice A bs.length c]] w' fun e w2=>∃ O,PO O∧ToldS w' O e w2) (q11:∀ w',Kd.C k50 w' A bs.length bs→Calls Tryz.prog 11 #[.agg #[.int .i64 p,.slice A bs.length c]] w' (ToldI w' NX)) (q12:∀ w',Kd.C k50 w' A bs.length bs→Calls Tryz.prog 12 #[.agg #[.int .i64 p,.slice A bs.length c]] w' (ToldI w' NX)) (q15:∀ w',Kd.C k50 w' A bs.length bs→Calls Tryz.prog 15 #[.agg #[.int .i64 p,.slice A bs.length c]] w' (ToldI w' CX)) (q16:∀ w',Kd.C k50 w' A bs.length bs→Calls Tryz.prog 16 #[.agg #[.int .i64 p,.slice A bs.length c]] w' (ToldI w' CX)) (q14:∀ O,PO O→∀ w',Kd.C k50 w' A bs.length bs→Calls Tryz.prog 14 #[.agg #[.int .i64 p,.slice A bs.length c]] w' (ToldS w' O)) (q17:∀ A' c' w',Kd.C k50 w' A bs.length bs→Kd.C k50 w' A' bs.length bs→bs.length≤c'→Calls Tryz.prog 17 #[.agg #[.int .i64 p,.slice A bs.length c],.agg #[.int .i64 p,.slice A' bs.length c']] w' fun e w2=>e=.returned (.bool true)∧Below w'.heap.size w' w2) :
  Calls Tryz.prog 3 #[.agg #[.int .i64 p,.slice A bs.length c]] w fun e w'=>e=.returned (.bool true)∧Below w.heap.size w w':=by
 have hu24:=Tryz.underlying24
 have HF:=ak_ hf
 have HC:=ak_ hC
 have HCc:=ak_ hc
 have HB0:=ak_ (below_alloc (Below.refl w.heap.size w) (.cells #[.int .i64 p,.slice A bs.length c] 24))
 have HF0:=ak_ (blk_new w (.cells #[.int .i64 p,.slice A bs.length c] 24))
 have Q8:=ak_ q8
 have Q9:=ak_ q9
 have Q11:=ak_ q11
 have Q12:=ak_ q12
 have Q14:=ak_ q14
 have Q15:=ak_ q15
 have Q16:=ak_ q16
 have Q17:=ak_ q17
 have HNL:=ak_ hNL
 have HCL:=ak_ hCL
 have HOL0:=ak_ hOL
 clear hC hf hc hNL hCL hOL q8 q9 q11 q12 q14 q15 q16 q17
 go_enter Tryz.func3,Tryz.ntmps3
 go_wp2_with (first
  | (go_at_call 6;refine (small_walk _).mono ?_;rintro e w1 ⟨rfl,hb⟩;have HB1:=ak_ (below_then HB0.out HB0.out.size hb);have HF1:=ak_ (blk_below HF0.out hb);have c0:=bc_ HF1 0;have c1:=bc_ HF1 1;simp only [ga_,gb_,gc_] at c0 c1;clear hb)
  | (go_at_call 7;refine (swagelaw25_few.calls k p A c bs true _ (Kd.C_below HC.out HB1.out) HCc.out HF.out).mono ?_;rintro e w2 ⟨rfl,hb⟩;have HB2:=ak_ (below_then HB1.out HB1.out.size hb);have HF2:=ak_ (blk_below HF1.out hb);clear c0 c1;have c0:=bc_ HF2 0;have c1:=bc_ HF2 1;simp only [ga_,gb_,gc_] at c0 c1;clear hb)
  | (go_at_call 8;refine (Q8.out _ (Kd.C_below HC.out HB2.out)).mono ?_;rintro e w3 ⟨As,cs,rfl,hcs,hCs,hb⟩;have HS3:=ak_ hCs;have HCS:=ak_ hcs;clear hcs hCs;have HB3:=ak_ (below_then HB2.out HB2.out.size hb);have HF3:=ak_ (blk_below HF2.out hb);clear c0 c1;have HFA3:=ak_ (blk_below HF3.out (below_alloc (Below.refl w3.heap.size w3) (.cells #[.int .i64 p,.slice As bs.length cs] 24)));have c0:=bc_ HFA3 0;have c1:=bc_ HFA3 1;simp only [ga_,gb_,gc_] at c0 c1;clear hb)
  | (go_at_call 9;refine (Q9.out _ (Kd.C_below HC.out (below_alloc HB3.out _))).mono ?_;rintro e w4 ⟨O,hox,A6,c6,rfl,hle6,hC6,hb⟩;have HOX:=ak_ hox;have HLE6:=ak_ hle6;have HC6:=ak_ hC6;have HBw4:=ak_ hb;clear c0 c1 hox hle6 hC6 hb))
 obtain ⟨W3,hW3⟩:∃ W3,w3.alloc (.cells #[.int .i64 p,.slice As bs.length cs] 24)=W3:=⟨_,rfl⟩
 have hbA:=below_alloc (Below.refl w3.heap.size w3) (.cells #[.int .i64 p,.slice As bs.length cs] 24)
 have hX3:=blk_new w3 (.cells #[.int .i64 p,.slice As bs.length cs] 24)
 have hb4:=HBw4.out
 rw [hW3] at hbA hX3 hb4
 clear HBw4 hW3
 obtain ⟨gs,hgs⟩:∃ gs,w3.heap.size=gs:=⟨_,rfl⟩
 have HF3A:=ak_ (blk_below HF3.out hbA)
 have HB3A:=ak_ (below_then HB3.out HB3.out.size hbA)
 have HS3A:=ak_ (Kd.C_below HS3.out hbA)
 rw [hgs] at hX3 ⊢
 have HX3:=ak_ hX3
 clear hbA hX3 hgs
 have HB4:=ak_ (below_then HB3A.out HB3A.out.size hb4)
 have HF4:=ak_ (blk_below HF3A.out hb4)
 have HX4:=ak_ (blk_below HX3.out hb4)
 have HS4:=ak_ (Kd.C_below HS3A.out hb4)
 have HOL:=ak_ (HOL0.out O HOX.out)
 clear hb4
 have c0:=bc_ HF4 0
 have c1:=bc_ HF4 1
 have d0:=bc_ HX4 0
 have d1:=bc_ HX4 1
 simp only [ga_,gb_,gc_] at c0 c1 d0 d1
 refine wp_region_rel 27 st3E (fun k=>[k]) (RT3 (st3T p A As A6 bs.length c cs O.length c6) (st3I NX CX) O) (fun w'=>Below w4.heap.size w4 w') (fun a b=>Below a.heap.size a b) (by kernel_rfl) (by kernel_rfl) (below_drew (Below.refl _ _)) (fun a b h k=>below_then h h.size k) (fun _ _ _ _ h hb=>h.below hb) ?_
 simp only [List.take_succ_cons,List.take_zero,List.drop_succ_cons,List.drop_zero]
 iterate 27 (first|(refine relQ_loud rfl ?_)|(apply relQ_step rfl;apply Exists.intro;constructor;(focus (intro w' hw';have c0:=pw_cell_below hw' c0;have c1:=pw_cell_below hw' c1;have d0:=pw_cell_below hw' d0;have d1:=pw_cell_below hw' d1;unfold Yl;go_wp2_with fail;exact ⟨rfl,_,rfl,rfl,Below.refl _ _⟩));(try simp only [Act.put,pa_,pb_,pc_])))
 refine relQ_nil (fun xx=>?_)
 repeat (refine relL_quiet rfl ?_)
 refine relL_loud rfl (fun w' hw' hR=>?_) ?_
 ·have c0:=pw_cell_below hw' c0;have c1:=pw_cell_below hw' c1;have d0:=pw_cell_below hw' d0;have d1:=pw_cell_below hw' d1
  clear hR
  unfold Yl
  go_wp2_with (fail)
  exact ⟨rfl,_,rfl,Below.refl _ _,RT3.mkval rfl rfl (by decide)⟩
 (try simp only [Act.put,pa_,pb_,pc_])
 refine relL_loud rfl (fun w' hw' hR=>?_) ?_
 ·have c0:=pw_cell_below hw' c0;have c1:=pw_cell_below hw' c1;have d0:=pw_cell_below hw' d0;have d1:=pw_cell_below hw' d1
  have e2:xx 2=.agg #[.int .i64 p,.slice A bs.length c]:=RT3.val (hR 2 (by simp [st3E])) rfl (by decide)
  rw [e2]
  clear e2
  clear hR
  unfold Yl
  go_wp2_with (go_at_call 11;refine (Q11.out _ (Kd.C_below HC.out (below_then HB4.out HB4.out.size hw'))).mono ?_;rintro e w6 ⟨A9,c9,rfl,hl9,hC9,hb⟩)
  exact ⟨rfl,_,rfl,hb,RT3.mkrow rfl hl9 hC9 (by decide)⟩
 (try simp only [Act.put,pa_,pb_,pc_])
 refine relL_loud rfl (fun w' hw' hR=>?_) ?_
 ·have c0:=pw_cell_below hw' c0;have c1:=pw_cell_below hw' c1;have d0:=pw_cell_below hw' d0;have d1:=pw_cell_below hw' d1
  clear hR
  unfold Yl
  go_wp2_with (fail)
  exact ⟨rfl,_,rfl,Below.refl _ _,RT3.mkval rfl rfl (by decide)⟩
 (try simp only [Act.put,pa_,pb_,pc_])
 refine relL_loud rfl (fun w' hw' hR=>?_) ?_
 ·have c0:=pw_cell_below hw' c0;have c1:=pw_cell_below hw' c1;have d0:=pw_cell_below hw' d0;have d1:=pw_cell_below hw' d1
  have e4:xx 4=.agg #[.int .i64 p,.slice A bs.length c]:=RT3.val (hR 4 (by simp [st3E])) rfl (by decide)
  rw [e4]
  clear e4
  clear hR
  unfold Yl
  go_wp2_with (go_at_call 12;refine (Q12.out _ (Kd.C_below HC.out (below_then HB4.out HB4.out.size hw'))).mono ?_;rintro e w6 ⟨A9,c9,rfl,hl9,hC9,hb⟩)
  exact ⟨rfl,_,rfl,hb,RT3.mkrow rfl hl9 hC9 (by decide)⟩
 (try simp only [Act.put,pa_,pb_,pc_])
 refine relL_loud rfl (fun w' hw' hR=>?_) ?_
 ·have c0:=pw_cell_below hw' c0;have c1:=pw_cell_below hw' c1;have d0:=pw_cell_below hw' d0;have d1:=pw_cell_below hw' d1
  obtain ⟨A3,c3,e3,hl3,hC3⟩:=RT3.row (hR 3 (by simp [st3E])) rfl
  obtain ⟨A5,c5,e5,hl5,hC5⟩:=RT3.row (hR 5 (by simp [st3E])) rfl
  rw [e3,e5]
  clear e3 e5
  clear hR
  unfold Yl
  go_wp2_with (go_at_call 10;refine (ints_told A3 c3 A5 c5 NX _ HNL.out hC3 hl3 hC5 hl5).mono ?_;rintro e w6 ⟨rfl,hb⟩)
  exact ⟨rfl,_,rfl,hb,RT3.mkval rfl rfl (by decide)⟩
 (try simp only [Act.put,pa_,pb_,pc_])
 refine relL_loud rfl (fun w' hw' hR=>?_) ?_
 ·have c0:=pw_cell_below hw' c0;have c1:=pw_cell_below hw' c1;have d0:=pw_cell_below hw' d0;have d1:=pw_cell_below hw' d1
  have e6:xx 6=.bool true:=RT3.val (hR 6 (by simp [st3E])) rfl (by decide)
  rw [e6]
  clear e6
  clear hR
  unfold Yl
  go_wp2_with (fail)
  exact ⟨rfl,_,rfl,Below.refl _ _,RT3.mkval rfl rfl (by decide)⟩
 (try simp only [Act.put,pa_,pb_,pc_])
 refine relL_loud rfl (fun w' hw' hR=>?_) ?_
 ·have c0:=pw_cell_below hw' c0;have c1:=pw_cell_below hw' c1;have d0:=pw_cell_below hw' d0;have d1:=pw_cell_below hw' d1
  have e7:xx 7=.bool true:=RT3.val (hR 7 (by simp [st3E])) rfl (by decide)
  rw [e7]
  clear e7
  clear hR
  unfold Yl
  go_wp2_with (fail)
  exact ⟨rfl,_,rfl,Below.refl _ _,RT3.mkval rfl rfl (by decide)⟩
 (try simp only [Act.put,pa_,pb_,pc_])
 refine relL_loud rfl (fun w' hw' hR=>?_) ?_
 ·have c0:=pw_cell_below hw' c0;have c1:=pw_cell_below hw' c1;have d0:=pw_cell_below hw' d0;have d1:=pw_cell_below hw' d1
  have e8:xx 8=.bool true:=RT3.val (hR 8 (by simp [st3E])) rfl (by decide)
  rw [e8]
  clear e8
  clear hR
  unfold Yl
  go_wp2_with (fail)
  exact ⟨rfl,_,rfl,Below.refl _ _,RT3.mkval rfl rfl (by decide)⟩
 (try simp only [Act.put,pa_,pb_,pc_])
 refine relL_loud rfl (fun w' hw' hR=>?_) ?_
 ·have c0:=pw_cell_below hw' c0;have c1:=pw_cell_below hw' c1;have d0:=pw_cell_below hw' d0;have d1:=pw_cell_below hw' d1
  have e8:xx 8=.bool true:=RT3.val (hR 8 (by simp [st3E])) rfl (by decide)
  rw [e8]
  clear e8
  clear hR
  unfold Yl
  go_wp2_with (fail)
  exact ⟨rfl,_,rfl,Below.refl _ _,RT3.mkval rfl rfl (by decide)⟩
 (try simp only [Act.put,pa_,pb_,pc_])
 refine relL_loud rfl (fun w' hw' hR=>?_) ?_
 ·have c0:=pw_cell_below hw' c0;have c1:=pw_cell_below hw' c1;have d0:=pw_cell_below hw' d0;have d1:=pw_cell_below hw' d1
  have e8:xx 8=.bool true:=RT3.val (hR 8 (by simp [st3E])) rfl (by decide)
  have e10:xx 10=.agg #[.int .i64 p,.slice A bs.length c]:=RT3.val (hR 10 (by simp [st3E])) rfl (by decide)
  rw [e8,e10]
  clear e8 e10
  clear hR
  unfold Yl
  go_wp2_with (go_at_call 14;refine (Q14.out _ HOX.out _ (Kd.C_below HC.out (below_then HB4.out HB4.out.size hw'))).mono ?_;rintro e w6 ⟨A9,c9,rfl,hl9,hC9,hb⟩)
  exact ⟨rfl,_,rfl,hb,RT3.mksp rfl hl9 hC9⟩
 (try simp only [Act.put,pa_,pb_,pc_])
 refine relL_loud rfl (fun w' hw' hR=>?_) ?_
 ·have c0:=pw_cell_below hw' c0;have c1:=pw_cell_below hw' c1;have d0:=pw_cell_below hw' d0;have d1:=pw_cell_below hw' d1
  have e8:xx 8=.bool true:=RT3.val (hR 8 (by simp [st3E])) rfl (by decide)
  have e9:xx 9=.slice A6 O.length c6:=RT3.val (hR 9 (by simp [st3E])) rfl (by decide)
  obtain ⟨A11,c11,e11,hl11,hC11⟩:=RT3.sp (hR 11 (by simp [st3E]))
  rw [e8,e9,e11]
  clear e8 e9 e11
  clear hR
  unfold Yl
  go_wp2_with (go_at_call 13;refine (spans_told A6 c6 A11 c11 O _ HOL.out (Kd.C_below HC6.out hw') HLE6.out hC11 hl11).mono ?_;rintro e w6 ⟨rfl,hb⟩)
  exact ⟨rfl,_,rfl,hb,RT3.mkval rfl rfl (by decide)⟩
 (try simp only [Act.put,pa_,pb_,pc_])
 refine relL_loud rfl (fun w' hw' hR=>?_) ?_
 ·have c0:=pw_cell_below hw' c0;have c1:=pw_cell_below hw' c1;have d0:=pw_cell_below hw' d0;have d1:=pw_cell_below hw' d1
  have e8:xx 8=.bool true:=RT3.val (hR 8 (by simp [st3E])) rfl (by decide)
  have e12:xx 12=.bool true:=RT3.val (hR 12 (by simp [st3E])) rfl (by decide)
  rw [e8,e12]
  clear e8 e12
  clear hR
  unfold Yl
  go_wp2_with (fail)
  exact ⟨rfl,_,rfl,Below.refl _ _,RT3.mkval rfl rfl (by decide)⟩
 (try simp only [Act.put,pa_,pb_,pc_])
 refine relL_loud rfl (fun w' hw' hR=>?_) ?_
 ·have c0:=pw_cell_below hw' c0;have c1:=pw_cell_below hw' c1;have d0:=pw_cell_below hw' d0;have d1:=pw_cell_below hw' d1
  have e13:xx 13=.bool true:=RT3.val (hR 13 (by simp [st3E])) rfl (by decide)
  rw [e13]
  clear e13
  clear hR
  unfold Yl
  go_wp2_with (fail)
  exact ⟨rfl,_,rfl,Below.refl _ _,RT3.mkval rfl rfl (by decide)⟩
 (try simp only [Act.put,pa_,pb_,pc_])
 refine relL_loud rfl (fun w' hw' hR=>?_) ?_
 ·have c0:=pw_cell_below hw' c0;have c1:=pw_cell_below hw' c1;have d0:=pw_cell_below hw' d0;have d1:=pw_cell_below hw' d1
  have e14:xx 14=.bool true:=RT3.val (hR 14 (by simp [st3E])) rfl (by decide)
  rw [e14]
  clear e14
  clear hR
  unfold Yl
  go_wp2_with (fail)
  exact ⟨rfl,_,rfl,Below.refl _ _,RT3.mkval rfl rfl (by decide)⟩
 (try simp only [Act.put,pa_,pb_,pc_])
 refine relL_loud rfl (fun w' hw' hR=>?_) ?_
 ·have c0:=pw_cell_below hw' c0;have c1:=pw_cell_below hw' c1;have d0:=pw_cell_below hw' d0;have d1:=pw_cell_below hw' d1
  have e14:xx 14=.bool true:=RT3.val (hR 14 (by simp [st3E])) rfl (by decide)
  have e15:xx 15=.agg #[.int .i64 p,.slice A bs.length c]:=RT3.val (hR 15 (by simp [st3E])) rfl (by decide)
  rw [e14,e15]
  clear e14 e15
  clear hR
  unfold Yl
  go_wp2_with (go_at_call 15;refine (Q15.out _ (Kd.C_below HC.out (below_then HB4.out HB4.out.size hw'))).mono ?_;rintro e w6 ⟨A9,c9,rfl,hl9,hC9,hb⟩)
  exact ⟨rfl,_,rfl,hb,RT3.mkrow rfl hl9 hC9 (by decide)⟩
 (try simp only [Act.put,pa_,pb_,pc_])
 refine relL_loud rfl (fun w' hw' hR=>?_) ?_
 ·have c0:=pw_cell_below hw' c0;have c1:=pw_cell_below hw' c1;have d0:=pw_cell_below hw' d0;have d1:=pw_cell_below hw' d1
  have e14:xx 14=.bool true:=RT3.val (hR 14 (by simp [st3E])) rfl (by decide)
  rw [e14]
  clear e14
  clear hR
  unfold Yl
  go_wp2_with (fail)
  exact ⟨rfl,_,rfl,Below.refl _ _,RT3.mkval rfl rfl (by decide)⟩
 (try simp only [Act.put,pa_,pb_,pc_])
 refine relL_loud rfl (fun w' hw' hR=>?_) ?_
 ·have c0:=pw_cell_below hw' c0;have c1:=pw_cell_below hw' c1;have d0:=pw_cell_below hw' d0;have d1:=pw_cell_below hw' d1
  have e14:xx 14=.bool true:=RT3.val (hR 14 (by simp [st3E])) rfl (by decide)
  have e17:xx 17=.agg #[.int .i64 p,.slice A bs.length c]:=RT3.val (hR 17 (by simp [st3E])) rfl (by decide)
  rw [e14,e17]
  clear e14 e17
  clear hR
  unfold Yl
  go_wp2_with (go_at_call 16;refine (Q16.out _ (Kd.C_below HC.out (below_then HB4.out HB4.out.size hw'))).mono ?_;rintro e w6 ⟨A9,c9,rfl,hl9,hC9,hb⟩)
  exact ⟨rfl,_,rfl,hb,RT3.mkrow rfl hl9 hC9 (by decide)⟩
 (try simp only [Act.put,pa_,pb_,pc_])
 refine relL_loud rfl (fun w' hw' hR=>?_) ?_
 ·have c0:=pw_cell_below hw' c0;have c1:=pw_cell_below hw' c1;have d0:=pw_cell_below hw' d0;have d1:=pw_cell_below hw' d1
  have e14:xx 14=.bool true:=RT3.val (hR 14 (by simp [st3E])) rfl (by decide)
  obtain ⟨A16,c16,e16,hl16,hC16⟩:=RT3.row (hR 16 (by simp [st3E])) rfl
  obtain ⟨A18,c18,e18,hl18,hC18⟩:=RT3.row (hR 18 (by simp [st3E])) rfl
  rw [e14,e16,e18]
  clear e14 e16 e18
  clear hR
  unfold Yl
  go_wp2_with (go_at_call 10;refine (ints_told A16 c16 A18 c18 CX _ HCL.out hC16 hl16 hC18 hl18).mono ?_;rintro e w6 ⟨rfl,hb⟩)
  exact ⟨rfl,_,rfl,hb,RT3.mkval rfl rfl (by decide)⟩
 (try simp only [Act.put,pa_,pb_,pc_])
 refine relL_loud rfl (fun w' hw' hR=>?_) ?_
 ·have c0:=pw_cell_below hw' c0;have c1:=pw_cell_below hw' c1;have d0:=pw_cell_below hw' d0;have d1:=pw_cell_below hw' d1
  have e14:xx 14=.bool true:=RT3.val (hR 14 (by simp [st3E])) rfl (by decide)
  have e19:xx 19=.bool true:=RT3.val (hR 19 (by simp [st3E])) rfl (by decide)
  rw [e14,e19]
  clear e14 e19
  clear hR
  unfold Yl
  go_wp2_with (fail)
  exact ⟨rfl,_,rfl,Below.refl _ _,RT3.mkval rfl rfl (by decide)⟩
 (try simp only [Act.put,pa_,pb_,pc_])
 refine relL_loud rfl (fun w' hw' hR=>?_) ?_
 ·have c0:=pw_cell_below hw' c0;have c1:=pw_cell_below hw' c1;have d0:=pw_cell_below hw' d0;have d1:=pw_cell_below hw' d1
  have e20:xx 20=.bool true:=RT3.val (hR 20 (by simp [st3E])) rfl (by decide)
  rw [e20]
  clear e20
  clear hR
  unfold Yl
  go_wp2_with (fail)
  exact ⟨rfl,_,rfl,Below.refl _ _,RT3.mkval rfl rfl (by decide)⟩
 (try simp only [Act.put,pa_,pb_,pc_])
 refine relL_loud rfl (fun w' hw' hR=>?_) ?_
 ·have c0:=pw_cell_below hw' c0;have c1:=pw_cell_below hw' c1;have d0:=pw_cell_below hw' d0;have d1:=pw_cell_below hw' d1
  have e21:xx 21=.bool true:=RT3.val (hR 21 (by simp [st3E])) rfl (by decide)
  rw [e21]
  clear e21
  clear hR
  unfold Yl
  go_wp2_with (fail)
  exact ⟨rfl,_,rfl,Below.refl _ _,RT3.mkval rfl rfl (by decide)⟩
 (try simp only [Act.put,pa_,pb_,pc_])
 refine relL_loud rfl (fun w' hw' hR=>?_) ?_
 ·have c0:=pw_cell_below hw' c0;have c1:=pw_cell_below hw' c1;have d0:=pw_cell_below hw' d0;have d1:=pw_cell_below hw' d1
  have e21:xx 21=.bool true:=RT3.val (hR 21 (by simp [st3E])) rfl (by decide)
  rw [e21]
  clear e21
  clear hR
  unfold Yl
  go_wp2_with (fail)
  exact ⟨rfl,_,rfl,Below.refl _ _,RT3.mkval rfl rfl (by decide)⟩
 (try simp only [Act.put,pa_,pb_,pc_])
 refine relL_loud rfl (fun w' hw' hR=>?_) ?_
 ·have c0:=pw_cell_below hw' c0;have c1:=pw_cell_below hw' c1;have d0:=pw_cell_below hw' d0;have d1:=pw_cell_below hw' d1
  have e21:xx 21=.bool true:=RT3.val (hR 21 (by simp [st3E])) rfl (by decide)
  have e22:xx 22=.agg #[.int .i64 p,.slice A bs.length c]:=RT3.val (hR 22 (by simp [st3E])) rfl (by decide)
  have e23:xx 23=.agg #[.int .i64 p,.slice As bs.length cs]:=RT3.val (hR 23 (by simp [st3E])) rfl (by decide)
  rw [e21,e22,e23]
  clear e21 e22 e23
  clear hR
  unfold Yl
  go_wp2_with (go_at_call 17;refine (Q17.out As cs _ (Kd.C_below HC.out (below_then HB4.out HB4.out.size hw')) (Kd.C_below HS4.out hw') HCS.out).mono ?_;rintro e w6 ⟨rfl,hb⟩)
  exact ⟨rfl,_,rfl,hb,RT3.mkval rfl rfl (by decide)⟩
 (try simp only [Act.put,pa_,pb_,pc_])
 refine relL_loud rfl (fun w' hw' hR=>?_) ?_
 ·have c0:=pw_cell_below hw' c0;have c1:=pw_cell_below hw' c1;have d0:=pw_cell_below hw' d0;have d1:=pw_cell_below hw' d1
  have e21:xx 21=.bool true:=RT3.val (hR 21 (by simp [st3E])) rfl (by decide)
  have e24:xx 24=.bool true:=RT3.val (hR 24 (by simp [st3E])) rfl (by decide)
  rw [e21,e24]
  clear e21 e24
  clear hR
  unfold Yl
  go_wp2_with (fail)
  exact ⟨rfl,_,rfl,Below.refl _ _,RT3.mkval rfl rfl (by decide)⟩
 (try simp only [Act.put,pa_,pb_,pc_])
 refine relL_loud rfl (fun w' hw' hR=>?_) ?_
 ·have c0:=pw_cell_below hw' c0;have c1:=pw_cell_below hw' c1;have d0:=pw_cell_below hw' d0;have d1:=pw_cell_below hw' d1
  have e25:xx 25=.bool true:=RT3.val (hR 25 (by simp [st3E])) rfl (by decide)
  rw [e25]
  clear e25
  clear hR
  unfold Yl
  go_wp2_with (fail)
  exact ⟨rfl,_,rfl,Below.refl _ _,RT3.mkval rfl rfl (by decide)⟩
 (try simp only [Act.put,pa_,pb_,pc_])
 refine relL_nil (fun w6 hw6 hRR=>?_)
 have e26:xx 26=.bool true:=RT3.val (hRR 26 (by decide) rfl) rfl (by decide)
 rw [e26]
 clear c0 c1 d0 d1 hRR e26
 go_wp2_with fail
 go_ret
 exact ⟨rfl,below_then HB4.out HB4.out.size hw6⟩
theorem spansTell_true (p:Int) (A:Option Addr) (c:Nat) (bs:List S50) (w:World) (hC:Kd.C k50 w A bs.length bs) (hc:bs.length≤c) (hr:Room bs) (hB:∀ j:Nat,(rd_T50 bs (j:Int)).f0.length≤2199023255552) :
  Calls Tryz.prog 3 #[.agg #[.int .i64 p,.slice A bs.length c]] w fun e w'=>e=.returned (.bool true)∧Below w.heap.size w w':=by
 obtain ⟨k,b,hf⟩:=few25_total p bs hr
 have hf:=hf k (Nat.le_refl _)
 cases b with
 | false=>exact stell_few p A c bs w k hC hc hf
 | true =>
  have h7:=few17_true k p bs hB hf
  have hF:=h7.fits
  exact stell_walk p A c bs w k hC hc hf (numX p bs) (callX p bs) (OX p bs) (numX_len h7) (callX_len h7) (fun O h=>h.len)
   (fun w' h=>copy14_told p A c bs w' hF h hc) (fun w' h=>of_toldS p A c bs w' h hc) (fun w' h=>num_toldI p A c bs w' h hc) (fun w' h=>rnum_toldI p A c bs w' hF h hc) (fun w' h=>call_toldI p A c bs w' h hc) (fun w' h=>rcall_toldI p A c bs w' hF h hc)
   (fun O hO w' h=>rof_toldS p A c bs w' hF h hc hO)
   (fun A' c' w' h h' hc'=>same14_told p A A' c c' bs w' hF (fun q=>Nat.le_trans (h7.args q) (by decide)) h hc h' hc')
end Go.Proofs.YtnkgbnbbmcoiiaaGreat.S
