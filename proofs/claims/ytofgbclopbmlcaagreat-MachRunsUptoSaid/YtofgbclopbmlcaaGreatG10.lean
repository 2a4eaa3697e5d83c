/- Part 10 of the proof: Kind Kind2 ChipE Kind3 Kind4 Kind5 Kind6 VideoActs Good Board Wires Finds0 Finds EqDev StrOf. No statement is handed in here; conditions: none. -/
import Derived.Test.YtofgbclopbmlcaaGreatG9
import Derived.Test.YtofgbclopbmlcaaGreatG6
import Derived.Test.YtofgbclopbmlcaaGreatG7
import Derived.Test.YtofgbclopbmlcaaGreatG8
namespace Go.Proofs.YtofgbclopbmlcaaGreat
open Go.Fw
set_option linter.unusedVariables false
set_option linter.unusedSimpArgs false
set_option linter.constructorNameAsVariable false
set_option maxRecDepth 100000
abbrev QhR:V1:=.agg [.own 0,.own 1]
def QCu:Qk:=⟨[],fun _=>(none,Qdb,[.arr (.int .i64) [0,0,0,0],.arr (.int .u8) []])⟩
theorem QvL:Qi Tryz.prog 110 QCu.spec:=Qi.nil (.int .u8) QzP (fun xs hp=>⟨hp,rfl,rfl⟩)
def Qz5:Qk:=⟨[gD,gi],fun (d,k,_)=>(some (k≤4611686018427387904),Qdb,[.arr (.int .i64) (Qb5 k.toNat (Qe2 d.1)),.arr (.int .u8) []])⟩
theorem Qsr:Qi Tryz.prog 156 Qz5.spec:=Qi.nil (.int .u8) QvB (fun xs hp=>⟨hp,rfl,rfl⟩)
def QvM:Qk:=⟨[gD,gi,gi],fun (d,a,k,_)=>(none,Qdb,[.arr (.int .i64) (twN d.1 a k),.arr (.int .u8) []])⟩
theorem QpU:Qi Tryz.prog 180 QvM.spec:=Qi.nil (.int .u8) Qsb (fun xs hp=>⟨hp,rfl,rfl⟩)
def Qz6:Qk:=⟨[gD,gi],fun (d,a,_)=>(none,.tup [QhR,I1 (trF d.1 a)],[.arr (.int .i64) (trN d.1 a),.arr (.int .u8) []])⟩
theorem Qss:Qi Tryz.prog 173 Qz6.spec:=Qi.nil (.int .u8) QvE (fun xs hp=>⟨hp,rfl,rfl⟩)
def QCv:Qk:=⟨[],fun _=>(none,Qdb,[.arr (.int .i64) [255,0,0],.arr (.int .u8) []])⟩
theorem QvN:Qi Tryz.prog 111 QCv.spec:=Qi.nil (.int .u8) QzM (fun xs hp=>⟨hp,rfl,rfl⟩)
def QFU:Qk:=⟨[gD,gi],fun (d,k,_)=>(none,Qdb,[.arr (.int .i64) (QBw d.1 k),.arr (.int .u8) []])⟩
theorem Qst:Qi Tryz.prog 157 QFU.spec:=Qi.nil (.int .u8) QCb (fun xs hp=>⟨hp,rfl,rfl⟩)
def QvO:Qk:=⟨[gD,gi,gi],fun (d,a,k,_)=>(none,Qdb,[.arr (.int .i64) (pwN d.1 a k),.arr (.int .u8) []])⟩
theorem QpV:Qi Tryz.prog 181 QvO.spec:=Qi.nil (.int .u8) Qr4 (fun xs hp=>⟨hp,rfl,rfl⟩)
def Qz7:Qk:=⟨[gD,gi],fun (d,a,_)=>(none,.tup [QhR,I1 (Qik d.1 a)],[.arr (.int .i64) (QdF d.1),.arr (.int .u8) []])⟩
theorem Qsu:Qi Tryz.prog 174 Qz7.spec:=Qi.nil (.int .u8) Qvz (fun xs hp=>⟨hp,rfl,rfl⟩)
def QCw:Qk:=⟨[],fun _=>(none,Qdb,[.arr (.int .i64) [0,0,0,0,0,0,0,0],.arr (.int .u8) []])⟩
theorem QvP:Qi Tryz.prog 112 QCw.spec:=Qi.nil (.int .u8) Qzs (fun xs hp=>⟨hp,rfl,rfl⟩)
def Qz8:Qk:=⟨[gD,gi],fun (d,k,_)=>(some (k≤4611686018427387904),Qdb,[.arr (.int .i64) (QP Qce k.toNat (Qfm d.1)),.arr (.int .u8) []])⟩
theorem Qsv:Qi Tryz.prog 159 Qz8.spec:=Qi.nil (.int .u8) Qvd (fun xs hp=>⟨hp,rfl,rfl⟩)
def QFV:Qk:=⟨[gD,gi],fun (d,k,_)=>(none,Qdb,[.arr (.int .i64) (QnG d.1 k),.arr (.int .u8) []])⟩
theorem Qz9:Qi Tryz.prog 242 QFV.spec:=Qi.nil (.int .u8) QBQ (fun xs hp=>⟨hp,rfl,rfl⟩)
def QvQ:Qk:=⟨[gD,gi,gi],fun (d,a,k,_)=>(none,Qdb,[.arr (.int .i64) (swN d.1 a k),.arr (.int .u8) []])⟩
theorem QpW:Qi Tryz.prog 182 QvQ.spec:=Qi.nil (.int .u8) Qsd (fun xs hp=>⟨hp,rfl,rfl⟩)
def QAa:Qk:=⟨[gD,gi],fun (d,a,_)=>(none,.tup [QhR,I1 (srF d.1 a)],[.arr (.int .i64) (srN d.1 a),.arr (.int .u8) []])⟩
theorem Qsw:Qi Tryz.prog 175 QAa.spec:=Qi.nil (.int .u8) Qvf (fun xs hp=>⟨hp,rfl,rfl⟩)
def QCx:Qk:=⟨[],fun _=>(none,Qdb,[.arr (.int .i64) (List.replicate 12 0),.arr (.int .u8) []])⟩
theorem QvR:Qi Tryz.prog 114 QCx.spec:=Qi.nil (.int .u8) QzX (fun xs hp=>⟨hp,rfl,rfl⟩)
def QAb:Qk:=⟨[gD,gi],fun (d,k,_)=>(some (k≤10000000),Qdb,[.arr (.int .i64) (QP QcM k.toNat (QbH d.1)),.arr (.int .u8) []])⟩
theorem Qsx:Qi Tryz.prog 161 QAb.spec:=Qi.nil (.int .u8) QvI (fun xs hp=>⟨hp,rfl,rfl⟩)
def QvS:Qk:=⟨[gD,gi,gi],fun (d,a,k,_)=>(none,Qdb,[.arr (.int .i64) (owF d.1 a k),.arr (.int .u8) []])⟩
theorem QpX:Qi Tryz.prog 184 QvS.spec:=Qi.nil (.int .u8) Qsm (fun xs hp=>⟨hp,rfl,rfl⟩)
def QAc:Qk:=⟨[gD,gi],fun (d,a,_)=>(none,.tup [QhR,I1 (orF d.1 a)],[.arr (.int .i64) (QbH d.1),.arr (.int .u8) []])⟩
theorem Qsy:Qi Tryz.prog 177 QAc.spec:=Qi.nil (.int .u8) QvJ (fun xs hp=>⟨hp,rfl,rfl⟩)
theorem kinds (k:Int):k=0∨k=1∨k=2∨k=3∨k=4∨k=5∨k=6∨k=7∨k=8∨(k < 0∨8 < k):=by omega
def sel {α:Type} (k:Int) (m t p s v o r x:α):α:=if 0≤k∧k≤2 then m else if k=3 then t else if k=4 then p else if k=5 then s else if k=6 then v else if k=7 then o else if k=8 then r else x
theorem QbO {α:Type} {k:Int} (h:k < 0∨8 < k) (m t p s v o r x:α):sel k m t p s v o r x=x:=by
 unfold sel
 rw [if_neg (by omega),if_neg (by omega),if_neg (by omega),if_neg (by omega),if_neg (by omega),if_neg (by omega),if_neg (by omega)]
theorem kx3 {k:Int} (h:k < 0∨8 < k):k < 3∨k=4∨8 < k:=by omega
theorem k3 {k:Int} (h:k < 3∨k=4∨8 < k):k < 3∨k=4∨8 < k:=h
def QcA (c:Cv) (d:Dv):Dv:=sel c.2.1 (memN c d.1,Qa7 c d.2) (Qe2 d.1,[]) (QdF d.1,[]) (Qfm d.1,[]) (vN d.1,vM d.2) (QbH d.1,[]) (dN d.1 (qF d.2),dM d.2) ([],[])
def Qn (c:Cv) (d:Dv):Dv:=sel c.2.1 (memN c d.1,Qa7 c d.2) (Qdd (Qe2 d.1),[]) (QdF d.1,[]) (Qce (Qfm d.1),[]) (Qcf (vM d.2) (vN d.1),vM d.2) (QcM (QbH d.1),[]) (Qbs (dN d.1 (qF d.2),dM d.2)) ([],[])
def QvT:Qk:=⟨[gC,gD],fun (c,d,_)=>(some (cP c∧List.length d.2≤140737488355328),Qdb,[.arr (.int .i64) (QcA c d).1,.arr (.int .u8) (QcA c d).2])⟩
theorem QbS:Qi Tryz.prog 58 QvT.spec:=by
 refine Qi.sel Qet fun (c,d,_) hp=>?_
 obtain ⟨cn,ck,cb,cs,cd⟩:=c
 obtain ⟨N,M⟩:=d
 obtain ⟨hc,hl⟩:cP (cn,ck,cb,cs,cd)∧List.length M≤140737488355328:=hp _ rfl
 clear hp
 show ∃ o1:Args [gC,gD]→Option Prop × AV × List Blk,_
 rcases kinds ck with rfl |rfl |rfl |rfl |rfl |rfl |rfl |rfl |rfl |hx
 ·exact ⟨_,QfH,fun q hq=>by cases hq;exact ⟨hc,.inl rfl⟩,.refl⟩
 ·exact ⟨_,QfH,fun q hq=>by cases hq;exact ⟨hc,.inr (.inl rfl)⟩,.refl⟩
 ·exact ⟨_,QfH,fun q hq=>by cases hq;exact ⟨hc,.inr (.inr rfl)⟩,.refl⟩
 ·exact ⟨_,QcL,fun q hq=>by cases hq;rfl,.nil (.int .u8) rfl .refl⟩
 ·exact ⟨_,QcK,fun q hq=>by cases hq;rfl,.nil (.int .u8) rfl .refl⟩
 ·exact ⟨_,Qbr,fun q hq=>by cases hq;rfl,.nil (.int .u8) rfl .refl⟩
 ·exact ⟨_,QcO,fun q hq=>by cases hq;rfl,.refl⟩
 ·exact ⟨_,QcN,fun q hq=>by cases hq;rfl,.nil (.int .u8) rfl .refl⟩
 ·exact ⟨_,Qb4,fun q hq=>by cases hq;exact ⟨rfl,hl⟩,.refl⟩
 ·refine ⟨_,QpB,fun q hq=>by cases hq;exact hx,?_⟩
  have e:QcA (cn,ck,cb,cs,cd) (N,M)=([],[]):=QbO hx ..
  show QqB (Qdb,[Blk.arr (.int .i64) [],.arr (.int .u8) []]) (Qdb,[.arr (.int .i64) (QcA (cn,ck,cb,cs,cd) (N,M)).1,.arr (.int .u8) (QcA (cn,ck,cb,cs,cd) (N,M)).2])
  rw [e]
  exact .refl
def QvU:Qk:=⟨[gC,gD],fun (c,d,_)=>(some (cP c∧dP d),Qdb,[.arr (.int .i64) (Qn c d).1,.arr (.int .u8) (Qn c d).2])⟩
def Qk8:Qk:=⟨[gC,gD],fun (c,d,_)=>(some (cP c∧dP d∧(c.2.1 < 3∨c.2.1=4∨8 < c.2.1)),Qdb,[.arr (.int .i64) (QcA c d).1,.arr (.int .u8) (QcA c d).2])⟩
theorem Qbt:Qi Tryz.prog 79 Qk8.spec:=by
 have hP:Qe Tryz.prog _:=Qa QbS (Qc (T:=tree))
 have hT:=tabs hP Qf
 refine Qk8.good (fn:=Tryz.f79) hT hP Tryz.func79 (by kernel_rfl) rfl fun (c:Cv) (d:Dv) hp=>?_
 obtain ⟨cn,ck,cb,cs,cd⟩:=c
 obtain ⟨N,M⟩:=d
 obtain ⟨hc,⟨hl,hu⟩,hx⟩:cP (cn,ck,cb,cs,cd)∧dP (N,M)∧(ck < 3∨ck=4∨8 < ck):=hp _ rfl
 clear hp
 repeat' first |(refine Go.mk ?_;conv=>whnf) |refine Ql.go ?_ ?_ |refine Qm.go (fun _=>?_) (fun _=>?_) |refine Br.dec (fun _=>?_) (fun _=>?_) |refine Br.go (fun _=>?_) (fun _=>?_) |refine Qd hT hP mixed ?_ |refine Qb hT hP ?_
 all_goals (try dsimp only [Qj] at *)
 all_goals first
  |exact ⟨hc,hl⟩
  |omega
  |exact .mk [] [3,4] _ R R R R R R R
  |skip
theorem QpY:Qi Tryz.prog 79 QvU.spec:=by
 refine Qi.sel Qbt fun (c,d,_) hp=>?_
 obtain ⟨cn,ck,cb,cs,cd⟩:=c
 obtain ⟨N,M⟩:=d
 obtain ⟨hc,hl,hu⟩:cP (cn,ck,cb,cs,cd)∧dP (N,M):=hp _ rfl
 clear hp
 show ∃ o1:Args [gC,gD]→Option Prop × AV × List Blk,_
 rcases kinds ck with rfl |rfl |rfl |rfl |rfl |rfl |rfl |rfl |rfl |hx
 ·exact ⟨_,Qbt,fun q hq=>by cases hq;exact ⟨hc,⟨hl,hu⟩,.inl (by decide:(0:Int) < 3)⟩,.refl⟩
 ·exact ⟨_,Qbt,fun q hq=>by cases hq;exact ⟨hc,⟨hl,hu⟩,.inl (by decide:(1:Int) < 3)⟩,.refl⟩
 ·exact ⟨_,Qbt,fun q hq=>by cases hq;exact ⟨hc,⟨hl,hu⟩,.inl (by decide:(2:Int) < 3)⟩,.refl⟩
 ·exact ⟨_,Qr8,fun q hq=>by cases hq;rfl,.nil (.int .u8) rfl .refl⟩
 ·exact ⟨_,Qbt,fun q hq=>by cases hq;exact ⟨hc,⟨hl,hu⟩,.inr (.inl rfl)⟩,.refl⟩
 ·exact ⟨_,Qpr,fun q hq=>by cases hq;rfl,.nil (.int .u8) rfl .refl⟩
 ·exact ⟨_,QpT,fun q hq=>by cases hq;exact ⟨rfl,hu⟩,.refl⟩
 ·exact ⟨_,QpQ,fun q hq=>by cases hq;rfl,.nil (.int .u8) rfl .refl⟩
 ·exact ⟨_,Qmm,fun q hq=>by cases hq;exact ⟨rfl,hl,hu⟩,.refl⟩
 ·refine ⟨_,Qbt,fun q hq=>by cases hq;exact ⟨hc,⟨hl,hu⟩,kx3 hx⟩,?_⟩
  have e:QcA (cn,ck,cb,cs,cd) (N,M)=Qn (cn,ck,cb,cs,cd) (N,M):=by unfold QcA Qn;rw [QbO hx,QbO hx]
  show QqB (Qdb,[Blk.arr (.int .i64) (QcA (cn,ck,cb,cs,cd) (N,M)).1,.arr (.int .u8) (QcA (cn,ck,cb,cs,cd) (N,M)).2]) _
  rw [e]
  exact .refl
def Qms (c:Cv) (d:Dv) (k:Int):Dv:=sel c.2.1 (memN c d.1,Qa7 c d.2) (Qb5 k.toNat (Qe2 d.1),[]) (QdF d.1,[]) (QP Qce k.toNat (Qfm d.1),[]) (QP (Qcf (vM d.2)) k.toNat (vN d.1),vM d.2) (QP QcM k.toNat (QbH d.1),[]) (Qvt k (dN d.1 (qF d.2),dM d.2)) ([],[])
def Qyd:Qk:=⟨[gD],fun (d,_)=>(none,I (d.1.getD 0 0),[])⟩
theorem QvV:Qi Tryz.prog 158 Qyd.spec:=by
 have hP:Qe Tryz.prog _:=(Qc (T:=tree))
 have hT:=tabs hP Qf
 refine Qyd.good (fn:=Tryz.f158) hT hP Tryz.func158 (by kernel_rfl) rfl fun (d:Dv) _=>?_
 obtain ⟨N,M⟩:=d
 repeat' first |(refine Go.mk ?_;conv=>whnf) |refine Ql.go ?_ ?_ |refine Qm.go (fun _=>?_) (fun _=>?_) |refine Br.dec (fun _=>?_) (fun _=>?_) |refine Br.go (fun _=>?_) (fun _=>?_) |refine Qd hT hP mixed ?_ |refine Qb hT hP ?_
 all_goals (try dsimp only [Qj] at *)
 ·rename_i h
  obtain rfl:N=[]:=List.eq_nil_of_length_eq_zero (by omega)
  exact .mk [] [] _ R R R R R R R
 ·rename_i h
  show 0≤(0:Int)∧(0:Int) < (N.length:Int)
  omega
 ·exact .mk [] [] _ R R R R R R R
def Qye:Qk:=⟨[gC,gD,gi],fun (c,d,k,_)=>(some (cP c∧dP d∧k≤1000000),Qdb,[.arr (.int .i64) (Qms c d k).1,.arr (.int .u8) (Qms c d k).2])⟩
theorem Qok:Qi Tryz.prog 85 Qye.spec:=by
 have hP:Qe Tryz.prog _:=Qa Qmj (Qa Qsr (Qa Qst (Qa QvV (Qa Qsv (Qa Qvx (Qa Qsx (Qa Qvu (Qc (T:=tree)))))))))
 have hT:=tabs hP Qf
 refine Qye.good (fn:=Tryz.f85) hT hP Tryz.func85 (by kernel_rfl) rfl fun (c:Cv) (d:Dv) (k:Int) hp=>?_
 obtain ⟨cn,ck,cb,cs,cd⟩:=c
 obtain ⟨N,M⟩:=d
 obtain ⟨hc,⟨hl,hu⟩,hk⟩:cP (cn,ck,cb,cs,cd)∧dP (N,M)∧k≤1000000:=hp _ rfl
 clear hp
 rcases kinds ck with rfl |rfl |rfl |rfl |rfl |rfl |rfl |rfl |rfl |hx
 all_goals
  repeat' first |(refine Go.mk ?_;conv=>whnf) |refine Ql.go ?_ ?_ |refine Qm.go (fun _=>?_) (fun _=>?_) |refine Br.dec (fun _=>?_) (fun _=>?_) |refine Br.go (fun _=>?_) (fun _=>?_) |refine Qd hT hP mixed ?_ |refine Qb hT hP ?_
  all_goals (try dsimp only [Qj] at *)
 all_goals first
  |exact hc
  |exact Int.le_trans hk (by decide)
  |exact ⟨hu,Int.le_trans hk (by decide)⟩
  |exact ⟨hl,hu,hk⟩
  |exact .mk [] [3,4] _ R R R R R R R
  |(exfalso;omega)
  |(refine .le (Le.nilH 2 (.int .i64) _ _ R R R) (.le (Le.nilH 2 (.int .u8) _ _ R R R) (.mk [] [3,4] _ R R R R R (Qy (l:=[]) (m:=[]) ?_ ?_) rfl))<;>(unfold Qms;rw [QbO hx]))
  |skip
 all_goals trace_state
theorem QvW {l M:List Int} (h1:u8s l) (h2:u8s M):u8s (over l M 0):=by
 rw [QgG]
 intro x hx
 rcases List.mem_append.1 hx with hx |hx
 ·exact h2 x (List.mem_of_mem_drop (List.mem_of_mem_take hx))
 ·exact h1 x (List.mem_of_mem_drop hx)
theorem QvX (n:Nat):u8s (List.replicate n 0):=fun x hx=>by
 rw [List.eq_of_mem_replicate hx];decide
theorem Qhh (c:Cv) {M:List Int} (h:u8s M):u8s (Qa7 c M):=QvW (QvX _) h
theorem Qjk {M:List Int} (h:u8s M) (n:Nat):0≤M.getD n 0∧M.getD n 0 < 256:=by
 by_cases hn:n < M.length
 ·rw [List.getD_eq_getElem?_getD,List.getElem?_eq_getElem hn]
  exact h _ (List.getElem_mem hn)
 ·rw [List.getD_eq_getElem?_getD,List.getElem?_eq_none (by omega)];decide
theorem QAd {M:List Int} (h:u8s M) (n:Nat):IntKind.i64.wrap (M.getD n 0)=M.getD n 0:=by
 have:=Qjk h n
 exact w64 (by omega) (by omega)
def QN (c:Cv) (d:Dv) (a:Int):Int:=if c.2.1=2 then (if a < 1∨a > QaS c then -1 else d.1.getD 0 0*QaS c+a-1) else if a < 0∨a≥(List.length d.2:Nat) then -1 else a
def Qsz (c:Cv) (d:Dv):Prop:=cP c∧(c.2.1=2→0 < List.length d.1∧0≤d.1.getD 0 0∧d.1.getD 0 0 < Qap c)
theorem Qjl {n b w:Int} (h0:0≤n) (h1:n < b) (hw:1≤w):0≤n*w∧n*w+w≤b*w:=by
 have h2:(n+1)*w≤b*w:=Int.mul_le_mul_of_nonneg_right (by omega) (by omega)
 have h3:0≤n*w:=Int.mul_nonneg h0 (by omega)
 rw [Int.add_mul,Int.one_mul] at h2
 exact ⟨h3,h2⟩
def QsA:Qk:=⟨[gC,gD,gi],fun (c,d,a,_)=>(some (Qsz c d),I (QN c d a),[])⟩
theorem Qk9:Qi Tryz.prog 232 QsA.spec:=by
 have hP:Qe Tryz.prog _:=Qa Qha (Qc (T:=tree))
 have hT:=tabs hP Qf
 refine QsA.good (fn:=Tryz.f232) hT hP Tryz.func232 (by kernel_rfl) rfl fun (c:Cv) (d:Dv) (a:Int) hp=>?_
 obtain ⟨cn,ck,cb,cs,cd⟩:=c
 obtain ⟨N,M⟩:=d
 obtain ⟨hc,hx⟩:Qsz (cn,ck,cb,cs,cd) (N,M):=hp _ rfl
 clear hp
 have hx:ck=2→0 < N.length∧0≤N.getD 0 0∧N.getD 0 0 < Qap (cn,ck,cb,cs,cd):=hx
 obtain ⟨w1,w2⟩:=Qcz (cn,ck,cb,cs,cd)
 obtain ⟨b1,b2,b3⟩:=QaP hc.2.2
 repeat' first |(refine Go.mk ?_;conv=>whnf) |refine Ql.go ?_ ?_ |refine Qm.go (fun _=>?_) (fun _=>?_) |refine Br.dec (fun _=>?_) (fun _=>?_) |refine Br.go (fun _=>?_) (fun _=>?_) |refine Qd hT hP mixed ?_ |refine Qb hT hP ?_
 all_goals (try dsimp only [Qj] at *)
 all_goals clear hT hP
 ·rename_i g1 g2
  refine .mk [] [] _ R R R R R R (Qg ?_)
  exact (by unfold QN;rw [if_pos g1,if_pos (.inl g2)]:-1=QN (cn,ck,cb,cs,cd) (N,M) a)
 ·rename_i g1 g2 g3
  refine .mk [] [] _ R R R R R R (Qg ?_)
  exact (by unfold QN;rw [if_pos g1,if_pos (.inr g3)]:-1=QN (cn,ck,cb,cs,cd) (N,M) a)
 ·rename_i g1 g2 g3
  have:=hx g1
  show (0:Int)≤0∧(0:Int) < (N.length:Int)
  omega
 ·rename_i g1 g2 g3
  refine .mk [] [] _ R R R R R R (Qg ?_)
  show IntKind.i64.wrap (IntKind.i64.wrap (IntKind.i64.wrap (N.getD 0 0*QaS (cn,ck,cb,cs,cd))+a)-1)=QN (cn,ck,cb,cs,cd) (N,M) a
  obtain ⟨_,n0,n1⟩:=hx g1
  obtain ⟨m1,m2⟩:=Qjl n0 n1 w1
  have g2:¬ a < 1:=g2
  have g3:¬ a > QaS (cn,ck,cb,cs,cd):=g3
  have b3:Qap (cn,ck,cb,cs,cd)*QaS (cn,ck,cb,cs,cd)≤140737488355328:=b3
  unfold QN
  rw [if_pos (show (cn,ck,cb,cs,cd).2.1=2 from g1),if_neg (by omega),w64 (x:=N.getD 0 0*QaS (cn,ck,cb,cs,cd)) (by omega) (by omega),w64 (x:=N.getD 0 0*QaS (cn,ck,cb,cs,cd)+a) (by omega) (by omega),w64 (by omega) (by omega)]
 ·rename_i g1 g2
  refine .mk [] [] _ R R R R R R (Qg ?_)
  exact (by unfold QN;rw [if_neg g1,if_pos (.inl g2)]:-1=QN (cn,ck,cb,cs,cd) (N,M) a)
 ·rename_i g1 g2 g3
  refine .mk [] [] _ R R R R R R (Qg ?_)
  exact (by unfold QN;rw [if_neg g1,if_pos (.inr g3)]:-1=QN (cn,ck,cb,cs,cd) (N,M) a)
 ·rename_i g1 g2 g3
  refine .mk [] [] _ R R R R R R (Qg ?_)
  exact (by unfold QN;rw [if_neg g1,if_neg (fun h=>h.elim g2 g3)]:a=QN (cn,ck,cb,cs,cd) (N,M) a)
def Qev (c:Cv) (d:Dv):Dv:=(memN c d.1,Qa7 c d.2)
theorem Qd0 {c:Cv} (d:Dv) (h:cP c):Qsz c (Qev c d):=by
 refine ⟨h,fun hk=>?_⟩
 obtain ⟨b1,b2,b3⟩:=QaP h.2.2
 unfold Qev memN
 rw [if_pos hk]
 exact ⟨by show 0 < 1;omega,Int.emod_nonneg _ (by omega),Int.emod_lt_of_pos _ (by omega)⟩
theorem QdI {c:Cv} (d:Dv) (h:cP c) {a:Int} (h2:QN c (Qev c d) a≥0):QN c (Qev c d) a < ((Qa7 c d.2).length:Nat):=by
 obtain ⟨b1,b2,b3⟩:=QaP h.2.2
 obtain ⟨w1,w2⟩:=Qcz c
 obtain ⟨_,hx⟩:=Qd0 d h
 unfold QN at h2 ⊢
 by_cases hk:c.2.1=2
 ·rw [if_pos hk] at h2 ⊢
  by_cases ha:a < 1∨a > QaS c
  ·rw [if_pos ha] at h2;omega
  ·rw [if_neg ha]
   obtain ⟨_,n0,n1⟩:=hx hk
   obtain ⟨m1,m2⟩:=Qjl n0 n1 w1
   rw [QnS,Qbn,if_pos hk]
   omega
 ·rw [if_neg hk] at h2 ⊢
  by_cases ha:a < 0∨a≥((Qev c d).2.length:Nat)
  ·rw [if_pos ha] at h2;omega
  ·rw [if_neg ha]
   show a < ((Qev c d).2.length:Nat)
   omega
def Qcg (c:Cv) (d:Dv) (a:Int):Int:=if QN c (Qev c d) a≥0 then (Qa7 c d.2).getD (QN c (Qev c d) a).toNat 0 else if c.2.1=2∧a=0 then (memN c d.1).getD 0 0 else 0
def QsB:Qk:=⟨[gC,gD,gi],fun (c,d,a,_)=>(some (cP c∧dP d),.tup [QhR,I1 (Qcg c d a)],[.arr (.int .i64) (memN c d.1),.arr (.int .u8) (Qa7 c d.2)])⟩
theorem QsC:Qi Tryz.prog 172 QsB.spec:=by
 have hP:Qe Tryz.prog _:=Qa Qmj (Qa Qk9 (Qc (T:=tree)))
 have hT:=tabs hP Qf
 refine QsB.good (fn:=Tryz.f172) hT hP Tryz.func172 (by kernel_rfl) rfl fun (c:Cv) (d:Dv) (a:Int) hp=>?_
 obtain ⟨cn,ck,cb,cs,cd⟩:=c
 obtain ⟨N,M⟩:=d
 obtain ⟨hc,hl,hu⟩:cP (cn,ck,cb,cs,cd)∧dP (N,M):=hp _ rfl
 clear hp
 have h0:=Qd0 (N,M) hc
 have h1:=@QdI _ (N,M) hc a
 repeat' first |(refine Go.mk ?_;conv=>whnf) |refine Ql.go ?_ ?_ |refine Qm.go (fun _=>?_) (fun _=>?_) |refine Br.dec (fun _=>?_) (fun _=>?_) |refine Br.go (fun _=>?_) (fun _=>?_) |refine Qd hT hP mixed ?_ |refine Qb hT hP ?_
 all_goals (try dsimp only [Qj] at *)
 all_goals clear hT hP
 ·exact hc
 ·exact h0
 ·rename_i g
  have h1:=h1 g
  exact ⟨g,h1⟩
 ·rename_i g
  have h1:=h1 g
  have h1:QN (cn,ck,cb,cs,cd) (memN (cn,ck,cb,cs,cd) N,Qa7 (cn,ck,cb,cs,cd) M) a < ((Qa7 (cn,ck,cb,cs,cd) M).length:Nat):=h1
  omega
 ·rename_i g
  refine .mk [] [3,4] _ R R R R R R (QdE ?_)
  show IntKind.i64.wrap ((Qa7 (cn,ck,cb,cs,cd) M).getD (QN (cn,ck,cb,cs,cd) (memN (cn,ck,cb,cs,cd) N,Qa7 (cn,ck,cb,cs,cd) M) a).toNat 0)=Qcg (cn,ck,cb,cs,cd) (N,M) a
  rw [QAd (Qhh _ hu),Qcg,if_pos (show QN (cn,ck,cb,cs,cd) (Qev (cn,ck,cb,cs,cd) (N,M)) a≥0 from g)];rfl
 ·rename_i g g1 g2
  exact ⟨Int.le_refl _,by have:0 < (memN (cn,ck,cb,cs,cd) N).length:=(h0.2 g1).1;show (0:Int) < ((memN (cn,ck,cb,cs,cd) N).length:Nat);omega⟩
 ·rename_i g g1 g2
  exact (h0.2 g1).1
 ·rename_i g g1 g2
  refine .mk [] [3,4] _ R R R R R R (QdE ?_)
  show (memN (cn,ck,cb,cs,cd) N).getD 0 0=Qcg (cn,ck,cb,cs,cd) (N,M) a
  rw [Qcg,if_neg (show ¬ QN (cn,ck,cb,cs,cd) (Qev (cn,ck,cb,cs,cd) (N,M)) a≥0 from g),if_pos ⟨g1,g2⟩]
 ·rename_i g g1 g2
  refine .mk [] [3,4] _ R R R R R R (QdE ?_)
  show 0=Qcg (cn,ck,cb,cs,cd) (N,M) a
  rw [Qcg,if_neg (show ¬ QN (cn,ck,cb,cs,cd) (Qev (cn,ck,cb,cs,cd) (N,M)) a≥0 from g),if_neg (fun h=>g2 h.2)]
 ·rename_i g g1
  refine .mk [] [3,4] _ R R R R R R (QdE ?_)
  show 0=Qcg (cn,ck,cb,cs,cd) (N,M) a
  rw [Qcg,if_neg (show ¬ QN (cn,ck,cb,cs,cd) (Qev (cn,ck,cb,cs,cd) (N,M)) a≥0 from g),if_neg (fun h=>g1 h.1)]
def QaZ (c:Cv) (d:Dv) (a k:Int):Dv:=if c.2.1=1 then Qev c d else if QN c (Qev c d) a≥0 then (memN c d.1,(Qa7 c d.2).set (QN c (Qev c d) a).toNat (k%256)) else if c.2.1=2∧a=0 then ((memN c d.1).set 0 (k%256%Qap c),Qa7 c d.2) else Qev c d
def Qol:Qk:=⟨[gC,gD,gi,gi],fun (c,d,a,k,_)=>(some (cP c),Qdb,[.arr (.int .i64) (QaZ c d a k).1,.arr (.int .u8) (QaZ c d a k).2])⟩
theorem QpZ:Qi Tryz.prog 179 Qol.spec:=by
 have hP:Qe Tryz.prog _:=Qa Qmj (Qa Qk9 (Qa QT (Qa Qhb (Qc (T:=tree)))))
 have hT:=tabs hP Qf
 refine Qol.good (fn:=Tryz.f179) hT hP Tryz.func179 (by kernel_rfl) rfl fun (c:Cv) (d:Dv) (a k:Int) hp=>?_
 obtain ⟨cn,ck,cb,cs,cd⟩:=c
 obtain ⟨N,M⟩:=d
 have hc:cP (cn,ck,cb,cs,cd):=hp _ rfl
 clear hp
 have h0:=Qd0 (N,M) hc
 have h1:=@QdI _ (N,M) hc a
 obtain ⟨b1,b2,b3⟩:=QaP hc.2.2
 repeat' first |(refine Go.mk ?_;conv=>whnf) |refine Ql.go ?_ ?_ |refine Qm.go (fun _=>?_) (fun _=>?_) |refine Br.dec (fun _=>?_) (fun _=>?_) |refine Br.go (fun _=>?_) (fun _=>?_) |refine Qd hT hP mixed ?_ |refine Qb hT hP ?_
 all_goals (try dsimp only [Qj] at *)
 all_goals clear hT hP
 ·exact hc
 ·exact h0
 ·rename_i g
  refine .mk [] [3,4] _ R R R R R (Qy (l:=memN (cn,ck,cb,cs,cd) N) (l':=(QaZ (cn,ck,cb,cs,cd) (N,M) a k).1) (m:=Qa7 (cn,ck,cb,cs,cd) M) (m':=(QaZ (cn,ck,cb,cs,cd) (N,M) a k).2) ?_ ?_) rfl
  all_goals (rw [QaZ,if_pos (show (cn,ck,cb,cs,cd).2.1=1 from g)];rfl)
 ·exact of_decide_eq_true rfl
 ·rename_i g0 g
  exact ⟨g,h1 g⟩
 ·rename_i g0 g
  have h1:=h1 g
  have h1:QN (cn,ck,cb,cs,cd) (memN (cn,ck,cb,cs,cd) N,Qa7 (cn,ck,cb,cs,cd) M) a < ((Qa7 (cn,ck,cb,cs,cd) M).length:Nat):=h1
  omega
 ·rename_i g0 g
  refine .mk [] [3,4] _ R R R R R (Qy (l:=memN (cn,ck,cb,cs,cd) N) (l':=(QaZ (cn,ck,cb,cs,cd) (N,M) a k).1) (m:=(Qa7 (cn,ck,cb,cs,cd) M).set (QN (cn,ck,cb,cs,cd) (Qev (cn,ck,cb,cs,cd) (N,M)) a).toNat (IntKind.u8.wrap (k%256))) (m':=(QaZ (cn,ck,cb,cs,cd) (N,M) a k).2) ?_ ?_) rfl
  all_goals rw [QaZ,if_neg (show ¬ (cn,ck,cb,cs,cd).2.1=1 from g0),if_pos (show QN (cn,ck,cb,cs,cd) (Qev (cn,ck,cb,cs,cd) (N,M)) a≥0 from g)]
  have e:IntKind.u8.wrap (k%256)=k%256:=by show k%256%256=k%256;omega
  rw [e]
 ·exact of_decide_eq_true rfl
 ·exact hc.2.2
 ·show Qap (cn,ck,cb,cs,cd)≠0
  omega
 ·rename_i g0 g g1 g2
  exact ⟨Int.le_refl _,by have:0 < (memN (cn,ck,cb,cs,cd) N).length:=(h0.2 g1).1;show (0:Int) < ((memN (cn,ck,cb,cs,cd) N).length:Nat);omega⟩
 ·rename_i g0 g g1 g2
  exact (h0.2 g1).1
 ·rename_i g0 g g1 g2
  refine .mk [] [3,4] _ R R R R R (Qy (l:=(memN (cn,ck,cb,cs,cd) N).set 0 (Int.tmod (k%256) (Qap (cn,ck,cb,cs,cd)))) (l':=(QaZ (cn,ck,cb,cs,cd) (N,M) a k).1) (m:=Qa7 (cn,ck,cb,cs,cd) M) (m':=(QaZ (cn,ck,cb,cs,cd) (N,M) a k).2) ?_ ?_) rfl
  all_goals rw [QaZ,if_neg (show ¬ (cn,ck,cb,cs,cd).2.1=1 from g0),if_neg (show ¬ QN (cn,ck,cb,cs,cd) (Qev (cn,ck,cb,cs,cd) (N,M)) a≥0 from g),if_pos ⟨g1,g2⟩]
  rw [Int.tmod_eq_emod_of_nonneg (by omega)]
 ·rename_i g0 g g1 g2
  refine .mk [] [3,4] _ R R R R R (Qy (l:=memN (cn,ck,cb,cs,cd) N) (l':=(QaZ (cn,ck,cb,cs,cd) (N,M) a k).1) (m:=Qa7 (cn,ck,cb,cs,cd) M) (m':=(QaZ (cn,ck,cb,cs,cd) (N,M) a k).2) ?_ ?_) rfl
  all_goals (rw [QaZ,if_neg (show ¬ (cn,ck,cb,cs,cd).2.1=1 from g0),if_neg (show ¬ QN (cn,ck,cb,cs,cd) (Qev (cn,ck,cb,cs,cd) (N,M)) a≥0 from g),if_neg (fun h=>g2 h.2)];rfl)
 ·rename_i g0 g g1
  refine .mk [] [3,4] _ R R R R R (Qy (l:=memN (cn,ck,cb,cs,cd) N) (l':=(QaZ (cn,ck,cb,cs,cd) (N,M) a k).1) (m:=Qa7 (cn,ck,cb,cs,cd) M) (m':=(QaZ (cn,ck,cb,cs,cd) (N,M) a k).2) ?_ ?_) rfl
  all_goals (rw [QaZ,if_neg (show ¬ (cn,ck,cb,cs,cd).2.1=1 from g0),if_neg (show ¬ QN (cn,ck,cb,cs,cd) (Qev (cn,ck,cb,cs,cd) (N,M)) a≥0 from g),if_neg (fun h=>g1 h.1)];rfl)
def Qe4 (c:Cv) (d:Dv) (a:Int):Dv:=sel c.2.1 (Qev c d) (trN d.1 a,[]) (QdF d.1,[]) (srN d.1 a,[]) (vrN d.1 a,vM d.2) (QbH d.1,[]) (drN d.1 (qF d.2) a,dM d.2) ([],[])
def QfI (c:Cv) (d:Dv) (a:Int):Int:=sel c.2.1 (Qcg c d a) (trF d.1 a) (Qik d.1 a) (srF d.1 a) (vrF d.1 (vM d.2) a) (orF d.1 a) (drF d.1 (qF d.2) a) 0
def QbL (c:Cv) (d:Dv) (a k:Int):Dv:=sel c.2.1 (QaZ c d a k) (twN d.1 a k,[]) (pwN d.1 a k,[]) (swN d.1 a k,[]) ([vP d.1,vH d.1],vwM (vM d.2) a k) (owF d.1 a k,[]) (dwN d.1 (qF d.2) a k,dM d.2) ([],[])
def Qyf:Qk:=⟨[gC,gD,gi],fun (c,d,a,_)=>(some (cP c∧dP d),.tup [QhR,I1 (QfI c d a)],[.arr (.int .i64) (Qe4 c d a).1,.arr (.int .u8) (Qe4 c d a).2])⟩
theorem Qgb {r r':Int} (h:r=r'):AV.tup [QhR,I1 r]=AV.tup [QhR,I1 r']:=by rw [h]
theorem Qom:Qi Tryz.prog 95 Qyf.spec:=by
 have hP:Qe Tryz.prog _:=Qa QsC (Qa Qss (Qa Qsu (Qa Qsw (Qa Qvy (Qa Qsy (Qa Qvq (Qc (T:=tree))))))))
 have hT:=tabs hP Qf
 refine Qyf.good (fn:=Tryz.f95) hT hP Tryz.func95 (by kernel_rfl) rfl fun (c:Cv) (d:Dv) (a:Int) hp=>?_
 obtain ⟨cn,ck,cb,cs,cd⟩:=c
 obtain ⟨N,M⟩:=d
 obtain ⟨hc,hl,hu⟩:cP (cn,ck,cb,cs,cd)∧dP (N,M):=hp _ rfl
 clear hp
 rcases kinds ck with rfl |rfl |rfl |rfl |rfl |rfl |rfl |rfl |rfl |hx
 all_goals
  repeat' first |(refine Go.mk ?_;conv=>whnf) |refine Ql.go ?_ ?_ |refine Qm.go (fun _=>?_) (fun _=>?_) |refine Br.dec (fun _=>?_) (fun _=>?_) |refine Br.go (fun _=>?_) (fun _=>?_) |refine Qd hT hP mixed ?_ |refine Qb hT hP ?_
  all_goals (try dsimp only [Qj] at *)
 all_goals first
  |exact ⟨hc,hl,hu⟩
  |exact hu
  |exact hl
  |exact .mk [] [3,4] _ R R R R R R R
  |(exfalso;omega)
  |(refine .le (Le.nilH 2 (.int .i64) _ _ R R R) (.le (Le.nilH 2 (.int .u8) _ _ R R R) (.mk [] [3,4] _ R R R R R (Qy (l:=[]) (m:=[]) ?_ ?_) (Qgb ?_)))<;>first |(unfold Qe4;rw [QbO hx]) |(unfold QfI;rw [QbO hx]))
  |skip
def QsD:Qk:=⟨[gC,gD,gi,gi],fun (c,d,a,k,_)=>(some (cP c∧dP d),Qdb,[.arr (.int .i64) (QbL c d a k).1,.arr (.int .u8) (QbL c d a k).2])⟩
theorem Qla:Qi Tryz.prog 96 QsD.spec:=by
 have hP:Qe Tryz.prog _:=Qa QpZ (Qa QpU (Qa QpV (Qa QpW (Qa QrQ (Qa QpX (Qa QrJ (Qc (T:=tree))))))))
 have hT:=tabs hP Qf
 refine QsD.good (fn:=Tryz.f96) hT hP Tryz.func96 (by kernel_rfl) rfl fun (c:Cv) (d:Dv) (a k:Int) hp=>?_
 obtain ⟨cn,ck,cb,cs,cd⟩:=c
 obtain ⟨N,M⟩:=d
 obtain ⟨hc,hl,hu⟩:cP (cn,ck,cb,cs,cd)∧dP (N,M):=hp _ rfl
 clear hp
 rcases kinds ck with rfl |rfl |rfl |rfl |rfl |rfl |rfl |rfl |rfl |hx
 all_goals
  repeat' first |(refine Go.mk ?_;conv=>whnf) |refine Ql.go ?_ ?_ |refine Qm.go (fun _=>?_) (fun _=>?_) |refine Br.dec (fun _=>?_) (fun _=>?_) |refine Br.go (fun _=>?_) (fun _=>?_) |refine Qd hT hP mixed ?_ |refine Qb hT hP ?_
  all_goals (try dsimp only [Qj] at *)
 all_goals first
  |exact hc
  |exact hl
  |exact .mk [] [3,4] _ R R R R R R R
  |(exfalso;omega)
  |(refine .le (Le.nilH 2 (.int .i64) _ _ R R R) (.le (Le.nilH 2 (.int .u8) _ _ R R R) (.mk [] [3,4] _ R R R R R (Qy (l:=[]) (m:=[]) ?_ ?_) rfl))<;>(unfold QbL;rw [QbO hx]))
  |skip
def Qyg:Qk:=⟨[gC,gD],fun (c,d,_)=>(some (cP c∧dP d),Qdb,[.arr (.int .i64) (Qn c d).1,.arr (.int .u8) (Qn c d).2])⟩
theorem Qon (c:Cv) (d:Dv):Qms c d 1=Qn c d:=by
 obtain ⟨cn,ck,cb,cs,cd⟩:=c
 obtain ⟨N,M⟩:=d
 rcases kinds ck with rfl |rfl |rfl |rfl |rfl |rfl |rfl |rfl |rfl |hx
 all_goals first
  |rfl
  |(unfold Qms Qn;rw [QbO hx,QbO hx])
theorem QvY:Qi Tryz.prog 135 Qyg.spec:=by
 have hP:Qe Tryz.prog _:=Qa Qok (Qc (T:=tree))
 have hT:=tabs hP Qf
 refine Qyg.good (fn:=Tryz.f135) hT hP Tryz.func135 (by kernel_rfl) rfl fun (c:Cv) (d:Dv) hp=>?_
 obtain ⟨hc,hd⟩:cP c∧dP d:=hp _ rfl
 obtain ⟨cn,ck,cb,cs,cd⟩:=c
 obtain ⟨N,M⟩:=d
 clear hp
 repeat' first |(refine Go.mk ?_;conv=>whnf) |refine Ql.go ?_ ?_ |refine Qm.go (fun _=>?_) (fun _=>?_) |refine Br.dec (fun _=>?_) (fun _=>?_) |refine Br.go (fun _=>?_) (fun _=>?_) |refine Qd hT hP mixed ?_ |refine Qb hT hP ?_
 all_goals (try dsimp only [Qj] at *)
 ·exact ⟨hc,hd,by decide⟩
 ·exact .mk [] [3,4] _ R R R R R (Qy (congrArg Prod.fst (Qon (cn,ck,cb,cs,cd) (N,M))) (congrArg Prod.snd (Qon (cn,ck,cb,cs,cd) (N,M)))) rfl
def Qov:Qk:=⟨[gi],fun (k,_)=>(none,.cell (bv (decide (k=0)||(decide (k=1)||decide (k=2)))),[])⟩
theorem Qp0:Qi Tryz.prog 191 Qov.spec:=by
 have hP:Qe Tryz.prog _:=(Qc (T:=tree))
 have hT:=tabs hP Qf
 refine Qov.good (fn:=Tryz.f191) hT hP Tryz.func191 (by kernel_rfl) rfl fun (k:Int) _=>?_
 repeat' first |(refine Go.mk ?_;conv=>whnf) |refine Ql.go ?_ ?_ |refine Qm.go (fun _=>?_) (fun _=>?_) |refine Br.dec (fun _=>?_) (fun _=>?_) |refine Br.go (fun _=>?_) (fun _=>?_) |refine Qd hT hP mixed ?_ |refine Qb hT hP ?_
 all_goals (refine .mk [] [] _ R R R R R R (Qo ?_))
 all_goals (simp_all)
 all_goals (by_cases h:k=2<;>simp [h])
def Qch (k:Int):Int:=sel k 0 4 2 3 32 8 4 0
def Qyl:Qk:=⟨[gi],fun (k,_)=>(none,I (Qch k),[])⟩
theorem Qwa:Qi Tryz.prog 192 Qyl.spec:=by
 have hP:Qe Tryz.prog _:=(Qc (T:=tree))
 have hT:=tabs hP Qf
 refine Qyl.good (fn:=Tryz.f192) hT hP Tryz.func192 (by kernel_rfl) rfl fun (k:Int) _=>?_
 rcases kinds k with rfl |rfl |rfl |rfl |rfl |rfl |rfl |rfl |rfl |hx
 all_goals
  repeat' first |(refine Go.mk ?_;conv=>whnf) |refine Ql.go ?_ ?_ |refine Qm.go (fun _=>?_) (fun _=>?_) |refine Br.dec (fun _=>?_) (fun _=>?_) |refine Br.go (fun _=>?_) (fun _=>?_) |refine Qd hT hP mixed ?_ |refine Qb hT hP ?_
 all_goals first
  |exact .mk [] [] _ R R R R R R R
  |(exfalso;dsimp only [gi,Den] at *;omega)
  |exact .mk [] [] _ R R R R R R (Qg (QbO hx ..).symm)
  |skip
def QaE:ByteArray:=⟨#[99,112,117]⟩
def Qaz (k s:Int) (n:Nat):Bool:=(decide (k=0∨k=1)&&decide ((n:Int) > s))||((decide (3≤k∧k≤7)&&decide (n > 0))||(decide (k=8)&&decide (¬ n%256=0)))
def QX (c:Cv):Int :=
 if Qau (bytesOf c.1)=false then 15 else if Qs c.1 QaE=true then 20 else if c.2.1 < 0∨8 < c.2.1 then 8
 else if (c.2.1≤2∧c.2.2.2.1 < (if c.2.1=2 then 2 else 1))∨(2 < c.2.1∧¬ c.2.2.2.1=Qch c.2.1) then 1 else if c.2.2.2.1 > 4096∨List.length c.2.2.2.2 > 4096 then 2
 else if c.2.2.1 < 0∨c.2.2.1 > IntKind.i64.wrap (65536-c.2.2.2.1) then 19 else if Qaz c.2.1 c.2.2.2.1 (List.length c.2.2.2.2)=true then 3 else 0
def Qow:Qk:=⟨[gC],fun (c,_)=>(some (cP c),I (QX c),[])⟩
set_option maxHeartbeats 8000000 in
theorem Qlc:Qi Tryz.prog 102 Qow.spec:=by
 have hP:Qe Tryz.prog _:=Qa Qe6 (Qa Qp0 (Qa Qwa (Qc (T:=tree))))
 have hT:=tabs hP Qf
 refine Qow.good (fn:=Tryz.f102) hT hP Tryz.func102 (by kernel_rfl) rfl fun (c:Cv) hp=>?_
 obtain ⟨hb,hs,hl⟩:cP c:=hp _ rfl
 obtain ⟨cn,ck,cb,cs,cd⟩:=c
 obtain ⟨hs1,hs2⟩:-9223372036854775808≤cs∧cs≤9223372036854775807:=hs
 clear hp hb hl
 have hcn:QaE=⟨#[99,112,117]⟩:=rfl
 have htm:Int.tmod (cd.length:Int) 256=((cd.length%256:Nat):Int):=by rw [Int.tmod_eq_emod_of_nonneg (by omega)];omega
 rcases kinds ck with rfl |rfl |rfl |rfl |rfl |rfl |rfl |rfl |rfl |hx
 rotate_right
 ·have h8:¬ (¬ ck < 0∧¬ ck≥9):=by omega
  repeat' first |(refine Go.mk ?_;conv=>whnf) |refine Ql.go ?_ ?_ |refine Qm.go (fun _=>?_) (fun _=>?_) |refine Br.dec (fun _=>?_) (fun _=>?_) |refine Br.go (fun _=>?_) (fun _=>?_) |refine Qd hT hP mixed ?_ |refine Qb hT hP ?_
   |(exfalso;exact h8 ⟨by assumption,by assumption⟩)
  all_goals (try dsimp only [Qj] at *)
  all_goals clear hT hP
  all_goals (refine .mk [] [] _ R R R R R R (Qg ?_))
  all_goals (show _=QX (cn,ck,cb,cs,cd))
  all_goals (unfold QX)
  all_goals (dsimp only)
  all_goals (simp_all)
  all_goals (intros;omega)
 ·repeat' first |(refine Go.mk ?_;conv=>whnf) |refine Ql.go ?_ ?_ |refine Qm.go (fun _=>?_) (fun _=>?_) |refine Br.dec (fun _=>?_) (fun _=>?_) |refine Br.go (fun _=>?_) (fun _=>?_) |refine Qd hT hP mixed ?_ |refine Qb hT hP ?_
  all_goals (try dsimp only [Qj] at *)
  all_goals first
   |exact of_decide_eq_true rfl
   |skip
  all_goals clear hT hP
  all_goals (refine .mk [] [] _ R R R R R R (Qg ?_))
  all_goals (show _=QX (cn,0,cb,cs,cd))
  all_goals (simp_all [QX,Qaz,Qch,sel])
  all_goals (intros;(repeat' split)<;>omega)
 ·repeat' first |(refine Go.mk ?_;conv=>whnf) |refine Ql.go ?_ ?_ |refine Qm.go (fun _=>?_) (fun _=>?_) |refine Br.dec (fun _=>?_) (fun _=>?_) |refine Br.go (fun _=>?_) (fun _=>?_) |refine Qd hT hP mixed ?_ |refine Qb hT hP ?_
  all_goals (try dsimp only [Qj] at *)
  all_goals first
   |exact of_decide_eq_true rfl
   |skip
  all_goals clear hT hP
  all_goals (refine .mk [] [] _ R R R R R R (Qg ?_))
  all_goals (show _=QX (cn,1,cb,cs,cd))
  all_goals (simp_all [QX,Qaz,Qch,sel])
  all_goals (intros;(repeat' split)<;>omega)
 ·repeat' first |(refine Go.mk ?_;conv=>whnf) |refine Ql.go ?_ ?_ |refine Qm.go (fun _=>?_) (fun _=>?_) |refine Br.dec (fun _=>?_) (fun _=>?_) |refine Br.go (fun _=>?_) (fun _=>?_) |refine Qd hT hP mixed ?_ |refine Qb hT hP ?_
  all_goals (try dsimp only [Qj] at *)
  all_goals first
   |exact of_decide_eq_true rfl
   |skip
  all_goals clear hT hP
  all_goals (refine .mk [] [] _ R R R R R R (Qg ?_))
  all_goals (show _=QX (cn,2,cb,cs,cd))
  all_goals (simp_all [QX,Qaz,Qch,sel])
  all_goals (intros;(repeat' split)<;>omega)
 ·repeat' first |(refine Go.mk ?_;conv=>whnf) |refine Ql.go ?_ ?_ |refine Qm.go (fun _=>?_) (fun _=>?_) |refine Br.dec (fun _=>?_) (fun _=>?_) |refine Br.go (fun _=>?_) (fun _=>?_) |refine Qd hT hP mixed ?_ |refine Qb hT hP ?_
  all_goals (try dsimp only [Qj] at *)
  all_goals first
   |exact of_decide_eq_true rfl
   |skip
  all_goals clear hT hP
  all_goals (refine .mk [] [] _ R R R R R R (Qg ?_))
  all_goals (show _=QX (cn,3,cb,cs,cd))
  all_goals (simp_all [QX,Qaz,Qch,sel])
  all_goals (intros;(repeat' split)<;>omega)
 ·repeat' first |(refine Go.mk ?_;conv=>whnf) |refine Ql.go ?_ ?_ |refine Qm.go (fun _=>?_) (fun _=>?_) |refine Br.dec (fun _=>?_) (fun _=>?_) |refine Br.go (fun _=>?_) (fun _=>?_) |refine Qd hT hP mixed ?_ |refine Qb hT hP ?_
  all_goals (try dsimp only [Qj] at *)
  all_goals first
   |exact of_decide_eq_true rfl
   |skip
  all_goals clear hT hP
  all_goals (refine .mk [] [] _ R R R R R R (Qg ?_))
  all_goals (show _=QX (cn,4,cb,cs,cd))
  all_goals (simp_all [QX,Qaz,Qch,sel])
  all_goals (intros;(repeat' split)<;>omega)
 ·repeat' first |(refine Go.mk ?_;conv=>whnf) |refine Ql.go ?_ ?_ |refine Qm.go (fun _=>?_) (fun _=>?_) |refine Br.dec (fun _=>?_) (fun _=>?_) |refine Br.go (fun _=>?_) (fun _=>?_) |refine Qd hT hP mixed ?_ |refine Qb hT hP ?_
  all_goals (try dsimp only [Qj] at *)
  all_goals first
   |exact of_decide_eq_true rfl
   |skip
  all_goals clear hT hP
  all_goals (refine .mk [] [] _ R R R R R R (Qg ?_))
  all_goals (show _=QX (cn,5,cb,cs,cd))
  all_goals (simp_all [QX,Qaz,Qch,sel])
  all_goals (intros;(repeat' split)<;>omega)
 ·repeat' first |(refine Go.mk ?_;conv=>whnf) |refine Ql.go ?_ ?_ |refine Qm.go (fun _=>?_) (fun _=>?_) |refine Br.dec (fun _=>?_) (fun _=>?_) |refine Br.go (fun _=>?_) (fun _=>?_) |refine Qd hT hP mixed ?_ |refine Qb hT hP ?_
  all_goals (try dsimp only [Qj] at *)
  all_goals first
   |exact of_decide_eq_true rfl
   |skip
  all_goals clear hT hP
  all_goals (refine .mk [] [] _ R R R R R R (Qg ?_))
  all_goals (show _=QX (cn,6,cb,cs,cd))
  all_goals (simp_all [QX,Qaz,Qch,sel])
  all_goals (intros;(repeat' split)<;>omega)
 ·repeat' first |(refine Go.mk ?_;conv=>whnf) |refine Ql.go ?_ ?_ |refine Qm.go (fun _=>?_) (fun _=>?_) |refine Br.dec (fun _=>?_) (fun _=>?_) |refine Br.go (fun _=>?_) (fun _=>?_) |refine Qd hT hP mixed ?_ |refine Qb hT hP ?_
  all_goals (try dsimp only [Qj] at *)
  all_goals first
   |exact of_decide_eq_true rfl
   |skip
  all_goals clear hT hP
  all_goals (refine .mk [] [] _ R R R R R R (Qg ?_))
  all_goals (show _=QX (cn,7,cb,cs,cd))
  all_goals (simp_all [QX,Qaz,Qch,sel])
  all_goals (intros;(repeat' split)<;>omega)
 ·repeat' first |(refine Go.mk ?_;conv=>whnf) |refine Ql.go ?_ ?_ |refine Qm.go (fun _=>?_) (fun _=>?_) |refine Br.dec (fun _=>?_) (fun _=>?_) |refine Br.go (fun _=>?_) (fun _=>?_) |refine Qd hT hP mixed ?_ |refine Qb hT hP ?_
  all_goals (try dsimp only [Qj] at *)
  all_goals first
   |exact of_decide_eq_true rfl
   |skip
  all_goals clear hT hP
  all_goals (refine .mk [] [] _ R R R R R R (Qg ?_))
  all_goals (show _=QX (cn,8,cb,cs,cd))
  all_goals (simp_all [QX,Qaz,Qch,sel])
  all_goals (intros;(repeat' split)<;>omega)
set_option maxHeartbeats 8000000 in
theorem Qmu:Qi Tryz.prog 63 Qow.spec:=by
 have hP:Qe Tryz.prog _:=Qa Qhj (Qc (T:=tree))
 have hT:=tabs hP Qf
 refine Qow.good (fn:=Tryz.f63) hT hP Tryz.func63 (by kernel_rfl) rfl fun (c:Cv) hp=>?_
 obtain ⟨hb,hs,hl⟩:cP c:=hp _ rfl
 obtain ⟨cn,ck,cb,cs,cd⟩:=c
 obtain ⟨hs1,hs2⟩:-9223372036854775808≤cs∧cs≤9223372036854775807:=hs
 clear hp hb hl
 have hcn:QaE=⟨#[99,112,117]⟩:=rfl
 have htm:Int.tmod (cd.length:Int) 256=((cd.length%256:Nat):Int):=by rw [Int.tmod_eq_emod_of_nonneg (by omega)];omega
 rcases kinds ck with rfl |rfl |rfl |rfl |rfl |rfl |rfl |rfl |rfl |hx
 rotate_right
 ·have h8:¬ (¬ ck < 0∧¬ ck > 8):=by omega
  repeat' first |(refine Go.mk ?_;conv=>whnf) |refine Ql.go ?_ ?_ |refine Qm.go (fun _=>?_) (fun _=>?_) |refine Br.dec (fun _=>?_) (fun _=>?_) |refine Br.go (fun _=>?_) (fun _=>?_) |refine Qd hT hP mixed ?_ |refine Qb hT hP ?_
   |(exfalso;exact h8 ⟨by assumption,by assumption⟩)
  all_goals (try dsimp only [Qj] at *)
  all_goals clear hT hP
  all_goals (refine .mk [] [] _ R R R R R R (Qg ?_))
  all_goals (show _=QX (cn,ck,cb,cs,cd))
  all_goals (unfold QX)
  all_goals (dsimp only)
  all_goals (simp_all)
  all_goals (intros;omega)
 ·repeat' first |(refine Go.mk ?_;conv=>whnf) |refine Ql.go ?_ ?_ |refine Qm.go (fun _=>?_) (fun _=>?_) |refine Br.dec (fun _=>?_) (fun _=>?_) |refine Br.go (fun _=>?_) (fun _=>?_) |refine Qd hT hP mixed ?_ |refine Qb hT hP ?_
  all_goals (try dsimp only [Qj] at *)
  all_goals first
   |exact of_decide_eq_true rfl
   |skip
  all_goals clear hT hP
  all_goals (refine .mk [] [] _ R R R R R R (Qg ?_))
  all_goals (show _=QX (cn,0,cb,cs,cd))
  all_goals (simp_all [QX,Qaz,Qch,sel,Q9])
  all_goals (intros;(repeat' split)<;>first |omega |(have hz:=List.length_pos_iff.2 (by assumption:cd≠[]);omega))
 ·repeat' first |(refine Go.mk ?_;conv=>whnf) |refine Ql.go ?_ ?_ |refine Qm.go (fun _=>?_) (fun _=>?_) |refine Br.dec (fun _=>?_) (fun _=>?_) |refine Br.go (fun _=>?_) (fun _=>?_) |refine Qd hT hP mixed ?_ |refine Qb hT hP ?_
  all_goals (try dsimp only [Qj] at *)
  all_goals first
   |exact of_decide_eq_true rfl
   |skip
  all_goals clear hT hP
  all_goals (refine .mk [] [] _ R R R R R R (Qg ?_))
  all_goals (show _=QX (cn,1,cb,cs,cd))
  all_goals (simp_all [QX,Qaz,Qch,sel,Q9])
  all_goals (intros;(repeat' split)<;>first |omega |(have hz:=List.length_pos_iff.2 (by assumption:cd≠[]);omega))
 ·repeat' first |(refine Go.mk ?_;conv=>whnf) |refine Ql.go ?_ ?_ |refine Qm.go (fun _=>?_) (fun _=>?_) |refine Br.dec (fun _=>?_) (fun _=>?_) |refine Br.go (fun _=>?_) (fun _=>?_) |refine Qd hT hP mixed ?_ |refine Qb hT hP ?_
  all_goals (try dsimp only [Qj] at *)
  all_goals first
   |exact of_decide_eq_true rfl
   |skip
  all_goals clear hT hP
  all_goals (refine .mk [] [] _ R R R R R R (Qg ?_))
  all_goals (show _=QX (cn,2,cb,cs,cd))
  all_goals (simp_all [QX,Qaz,Qch,sel,Q9])
  all_goals (intros;(repeat' split)<;>first |omega |(have hz:=List.length_pos_iff.2 (by assumption:cd≠[]);omega))
 ·repeat' first |(refine Go.mk ?_;conv=>whnf) |refine Ql.go ?_ ?_ |refine Qm.go (fun _=>?_) (fun _=>?_) |refine Br.dec (fun _=>?_) (fun _=>?_) |refine Br.go (fun _=>?_) (fun _=>?_) |refine Qd hT hP mixed ?_ |refine Qb hT hP ?_
  all_goals (try dsimp only [Qj] at *)
  all_goals first
   |exact of_decide_eq_true rfl
   |skip
  all_goals clear hT hP
  all_goals (refine .mk [] [] _ R R R R R R (Qg ?_))
  all_goals (show _=QX (cn,3,cb,cs,cd))
  all_goals (simp_all [QX,Qaz,Qch,sel,Q9])
  all_goals (intros;(repeat' split)<;>first |omega |(have hz:=List.length_pos_iff.2 (by assumption:cd≠[]);omega))
 ·repeat' first |(refine Go.mk ?_;conv=>whnf) |refine Ql.go ?_ ?_ |refine Qm.go (fun _=>?_) (fun _=>?_) |refine Br.dec (fun _=>?_) (fun _=>?_) |refine Br.go (fun _=>?_) (fun _=>?_) |refine Qd hT hP mixed ?_ |refine Qb hT hP ?_
  all_goals (try dsimp only [Qj] at *)
  all_goals first
   |exact of_decide_eq_true rfl
   |skip
  all_goals clear hT hP
  all_goals (refine .mk [] [] _ R R R R R R (Qg ?_))
  all_goals (show _=QX (cn,4,cb,cs,cd))
  all_goals (simp_all [QX,Qaz,Qch,sel,Q9])
  all_goals (intros;(repeat' split)<;>first |omega |(have hz:=List.length_pos_iff.2 (by assumption:cd≠[]);omega))
 ·repeat' first |(refine Go.mk ?_;conv=>whnf) |refine Ql.go ?_ ?_ |refine Qm.go (fun _=>?_) (fun _=>?_) |refine Br.dec (fun _=>?_) (fun _=>?_) |refine Br.go (fun _=>?_) (fun _=>?_) |refine Qd hT hP mixed ?_ |refine Qb hT hP ?_
  all_goals (try dsimp only [Qj] at *)
  all_goals first
   |exact of_decide_eq_true rfl
   |skip
  all_goals clear hT hP
  all_goals (refine .mk [] [] _ R R R R R R (Qg ?_))
  all_goals (show _=QX (cn,5,cb,cs,cd))
  all_goals (simp_all [QX,Qaz,Qch,sel,Q9])
  all_goals (intros;(repeat' split)<;>first |omega |(have hz:=List.length_pos_iff.2 (by assumption:cd≠[]);omega))
 ·repeat' first |(refine Go.mk ?_;conv=>whnf) |refine Ql.go ?_ ?_ |refine Qm.go (fun _=>?_) (fun _=>?_) |refine Br.dec (fun _=>?_) (fun _=>?_) |refine Br.go (fun _=>?_) (fun _=>?_) |refine Qd hT hP mixed ?_ |refine Qb hT hP ?_
  all_goals (try dsimp only [Qj] at *)
  all_goals first
   |exact of_decide_eq_true rfl
   |skip
  all_goals clear hT hP
  all_goals (refine .mk [] [] _ R R R R R R (Qg ?_))
  all_goals (show _=QX (cn,6,cb,cs,cd))
  all_goals (simp_all [QX,Qaz,Qch,sel,Q9])
  all_goals (intros;(repeat' split)<;>first |omega |(have hz:=List.length_pos_iff.2 (by assumption:cd≠[]);omega))
 ·repeat' first |(refine Go.mk ?_;conv=>whnf) |refine Ql.go ?_ ?_ |refine Qm.go (fun _=>?_) (fun _=>?_) |refine Br.dec (fun _=>?_) (fun _=>?_) |refine Br.go (fun _=>?_) (fun _=>?_) |refine Qd hT hP mixed ?_ |refine Qb hT hP ?_
  all_goals (try dsimp only [Qj] at *)
  all_goals first
   |exact of_decide_eq_true rfl
   |skip
  all_goals clear hT hP
  all_goals (refine .mk [] [] _ R R R R R R (Qg ?_))
  all_goals (show _=QX (cn,7,cb,cs,cd))
  all_goals (simp_all [QX,Qaz,Qch,sel,Q9])
  all_goals (intros;(repeat' split)<;>first |omega |(have hz:=List.length_pos_iff.2 (by assumption:cd≠[]);omega))
 ·repeat' first |(refine Go.mk ?_;conv=>whnf) |refine Ql.go ?_ ?_ |refine Qm.go (fun _=>?_) (fun _=>?_) |refine Br.dec (fun _=>?_) (fun _=>?_) |refine Br.go (fun _=>?_) (fun _=>?_) |refine Qd hT hP mixed ?_ |refine Qb hT hP ?_
  all_goals (try dsimp only [Qj] at *)
  all_goals first
   |exact of_decide_eq_true rfl
   |skip
  all_goals clear hT hP
  all_goals (refine .mk [] [] _ R R R R R R (Qg ?_))
  all_goals (show _=QX (cn,8,cb,cs,cd))
  all_goals (simp_all [QX,Qaz,Qch,sel,Q9])
  all_goals (intros;(repeat' split)<;>first |omega |(have hz:=List.length_pos_iff.2 (by assumption:cd≠[]);omega))
def QdK (c:Cv):Dv:=sel c.2.1 (memN c [],Qa7 c c.2.2.2.2) ([0,0,0,0],[]) ([255,0,0],[]) ([0,0,0,0,0,0,0,0],[]) ([2559,0],List.replicate 32 0) (List.replicate 12 0,[]) ([0,0,0,0,0,0,0,0,0,0],dM c.2.2.2.2) ([],[])
theorem Qb6 {x y:Dv} (h:x=y):[some (Blk.arr (.int .i64) x.1),some (Blk.arr (.int .u8) x.2)]=[some (Blk.arr (.int .i64) y.1),some (Blk.arr (.int .u8) y.2)]:=by rw [h]
def QCB:Qk:=⟨[gC],fun (c,_)=>(some (cP c),Qdb,[.arr (.int .i64) (QdK c).1,.arr (.int .u8) (QdK c).2])⟩
theorem QsO (c:Cv) (h:c.2.1=2):memN c []=[0]:=by unfold memN;rw [if_pos h];show [0%Qap c]=[0];rw [Int.zero_emod]
theorem QAh:Qi Tryz.prog 60 QCB.spec:=by
 have hP:Qe Tryz.prog _:=Qa QkU (Qa QvL (Qa QvN (Qa QvP (Qa QzI (Qa QvR (Qa Qzv (Qc (T:=tree))))))))
 have hT:=tabs hP Qf
 refine QCB.good (fn:=Tryz.f60) hT hP Tryz.func60 (by kernel_rfl) rfl fun (c:Cv) hp=>?_
 have hc:cP c:=hp _ rfl
 clear hp
 obtain ⟨h6,h7⟩:=QkT hc.2.2
 obtain ⟨cn,ck,cb,cs,cd⟩:=c
 have hl:cd.length≤140737488355328:=Nat.le_trans hc.2.2 (by decide)
 rcases kinds ck with rfl |rfl |rfl |rfl |rfl |rfl |rfl |rfl |rfl |hx
 all_goals
  repeat' first |(refine Go.mk ?_;conv=>whnf) |refine Ql.go ?_ ?_ |refine Qm.go (fun _=>?_) (fun _=>?_) |refine Br.dec (fun _=>?_) (fun _=>?_) |refine Br.go (fun _=>?_) (fun _=>?_) |refine Qd hT hP mixed ?_ |refine Qb hT hP ?_
  all_goals (try dsimp only [Qj] at *)
 all_goals first
  |exact hc.2.2
  |exact hl
  |(exfalso;omega)
  |exact ⟨rfl,h6,by omega,by omega⟩
  |skip
 ·exact .le (Le.nilH 1 (.int .i64) _ _ R R R) (.mk [] [4,2] _ R R R R R (Qb6 (x:=([],Qa7 (cn,0,cb,cs,cd) cd)) (y:=QdK (cn,0,cb,cs,cd)) rfl) rfl)
 ·exact .le (Le.nilH 1 (.int .i64) _ _ R R R) (.mk [] [4,2] _ R R R R R (Qb6 (x:=([],Qa7 (cn,1,cb,cs,cd) cd)) (y:=QdK (cn,1,cb,cs,cd)) rfl) rfl)
 ·refine .mk [] [4,2] _ R R R R R (Qb6 (x:=([0],Qa7 (cn,2,cb,cs,cd) cd)) (y:=QdK (cn,2,cb,cs,cd)) ?_) rfl
  show _=(memN (cn,2,cb,cs,cd) [],Qa7 (cn,2,cb,cs,cd) cd)
  rw [QsO _ rfl]
 ·exact .mk [] [2,3] _ R R R R R R R
 ·exact .mk [] [2,3] _ R R R R R R R
 ·exact .mk [] [2,3] _ R R R R R R R
 ·exact .mk [] [2,3] _ R R R R R R R
 ·exact .mk [] [2,3] _ R R R R R R R
 ·exact .mk [] [2,3] _ R R R R R R R
 ·refine .le (Le.nilH 1 (.int .i64) _ _ R R R) (.le (Le.nilH 1 (.int .u8) _ _ R R R) (.mk [] [2,3] _ R R R R R (Qb6 (x:=([],[])) (y:=QdK (cn,ck,cb,cs,cd)) ?_) rfl))
  unfold QdK;rw [QbO hx]
theorem QsP {k n:Int} (h:k < 0∨8 < k) (g:k=n) (hn:0≤n∧n≤8):False:=by omega
theorem Qym {c:Cv} {d:Dv} {a:Int} (hk:c.2.1=0∨c.2.1=1) (hu:u8s d.2) (h0:a≥0) (h1:a < ((Qa7 c d.2).length:Nat)):IntKind.i64.wrap ((Qa7 c d.2).getD a.toNat 0)=Qcg c d a:=by
 have e:QN c (Qev c d) a=a:=by
  unfold QN
  rw [if_neg (by omega),if_neg]
  show ¬ (a < 0∨a≥((Qa7 c d.2).length:Nat))
  omega
 rw [QAd (Qhh _ hu),Qcg,e,if_pos h0]
theorem Qox {c:Cv} {d:Dv} {a:Int} (hk:c.2.1=0∨c.2.1=1) (h:¬ a≥0∨¬ a < ((Qa7 c d.2).length:Nat)):0=Qcg c d a:=by
 have e:QN c (Qev c d) a=-1:=by
  unfold QN
  rw [if_neg (by omega),if_pos]
  show a < 0∨a≥((Qa7 c d.2).length:Nat)
  omega
 rw [Qcg,e,if_neg (by decide),if_neg (by omega)]
theorem Qwb {c:Cv} {d:Dv} {a:Int} (hk:c.2.1=2) (h:a < 1∨a > QaS c):QN c (Qev c d) a=-1:=by
 unfold QN
 rw [if_pos hk,if_pos h]
theorem QFX {c:Cv} {d:Dv} {a:Int} (hk:c.2.1=2) (hc:cP c) (g1:a > 0) (g2:a≤QaS c):IntKind.i64.wrap (IntKind.i64.wrap (IntKind.i64.wrap ((memN c d.1).getD 0 0*QaS c)+a)-1)=QN c (Qev c d) a∧QN c (Qev c d) a≥0:=by
 obtain ⟨b1,b2,b3⟩:=QaP hc.2.2
 obtain ⟨w1,w2⟩:=Qcz c
 obtain ⟨_,hx⟩:=Qd0 d hc
 obtain ⟨_,n0,n1⟩:=hx hk
 have n0:0≤(memN c d.1).getD 0 0:=n0
 have n1:(memN c d.1).getD 0 0 < Qap c:=n1
 obtain ⟨m1,m2⟩:=Qjl n0 n1 w1
 have e:QN c (Qev c d) a=(memN c d.1).getD 0 0*QaS c+a-1:=by
  unfold QN
  rw [if_pos hk,if_neg (by omega)];rfl
 rw [e,w64 (x:=(memN c d.1).getD 0 0*QaS c) (by omega) (by omega),w64 (x:=(memN c d.1).getD 0 0*QaS c+a) (by omega) (by omega),w64 (by omega) (by omega)]
 exact ⟨rfl,by omega⟩
theorem QFY {c:Cv} {d:Dv} {a:Int} (hk:c.2.1=2) (hc:cP c) (hu:u8s d.2) (g1:a > 0) (g2:a≤QaS c):IntKind.i64.wrap ((Qa7 c d.2).getD (IntKind.i64.wrap (IntKind.i64.wrap (IntKind.i64.wrap ((memN c d.1).getD 0 0*QaS c)+a)-1)).toNat 0)=Qcg c d a:=by
 obtain ⟨e1,e2⟩:=QFX (d:=d) hk hc g1 g2
 rw [e1,QAd (Qhh _ hu),Qcg,if_pos e2]
theorem Qwc {c:Cv} {d:Dv} {a:Int} (hk:c.2.1=2) (hc:cP c) (g1:a > 0) (g2:a≤QaS c):0≤IntKind.i64.wrap (IntKind.i64.wrap (IntKind.i64.wrap ((memN c d.1).getD 0 0*QaS c)+a)-1)∧IntKind.i64.wrap (IntKind.i64.wrap (IntKind.i64.wrap ((memN c d.1).getD 0 0*QaS c)+a)-1) < ((Qa7 c d.2).length:Nat):=by
 obtain ⟨e1,e2⟩:=QFX (d:=d) hk hc g1 g2
 rw [e1]
 exact ⟨e2,QdI d hc e2⟩
theorem QFZ {c:Cv} {d:Dv} {a:Int} (hk:c.2.1=2) (g:a=0):(memN c d.1).getD 0 0=Qcg c d a:=by
 rw [Qcg,Qwb hk (by omega),if_neg (by decide),if_pos ⟨hk,g⟩]
theorem QCC {c:Cv} {d:Dv} {a:Int} (hk:c.2.1=2) (g:¬ a=0) (h:¬ a > 0∨¬ a≤QaS c):0=Qcg c d a:=by
 rw [Qcg,Qwb hk (by omega),if_neg (by decide),if_neg (fun h=>g h.2)]
theorem Qld {c:Cv} {N:List Int} (hk:c.2.1=2):0 < (memN c N).length:=by
 unfold memN;rw [if_pos hk];show 0 < 1;omega
theorem QCD {c:Cv} {d:Dv} {a k:Int} (hk:c.2.1=0) (h0:a≥0) (h1:a < ((Qa7 c d.2).length:Nat)):(memN c d.1,(Qa7 c d.2).set a.toNat (IntKind.u8.wrap (k%256)))=QaZ c d a k:=by
 have e:QN c (Qev c d) a=a:=by
  unfold QN
  rw [if_neg (by omega),if_neg]
  show ¬ (a < 0∨a≥((Qa7 c d.2).length:Nat))
  omega
 have e2:IntKind.u8.wrap (k%256)=k%256:=by show k%256%256=k%256;omega
 rw [QaZ,e,if_neg (by omega),if_pos h0,e2]
theorem Qyn {c:Cv} {d:Dv} {a k:Int} (hk:c.2.1=0) (h:¬ a≥0∨¬ a < ((Qa7 c d.2).length:Nat)):(memN c d.1,Qa7 c d.2)=QaZ c d a k:=by
 have e:QN c (Qev c d) a=-1:=by
  unfold QN
  rw [if_neg (by omega),if_pos]
  show a < 0∨a≥((Qa7 c d.2).length:Nat)
  omega
 rw [QaZ,e,if_neg (by omega),if_neg (by decide),if_neg (by omega)];rfl
theorem QCE {c:Cv} {d:Dv} {a k:Int} (hk:c.2.1=1):(memN c d.1,Qa7 c d.2)=QaZ c d a k:=by
 rw [QaZ,if_pos hk];rfl
theorem QF0 {c:Cv} {d:Dv} {a k:Int} (hk:c.2.1=2) (g:a=0):((memN c d.1).set 0 (Int.tmod (k%256) (Qap c)),Qa7 c d.2)=QaZ c d a k:=by
 rw [QaZ,Qwb hk (by omega),if_neg (by omega),if_neg (by decide),if_pos ⟨hk,g⟩,Int.tmod_eq_emod_of_nonneg (by omega)]
theorem QF1 {c:Cv} {d:Dv} {a k:Int} (hk:c.2.1=2) (hc:cP c) (g1:a > 0) (g2:a≤QaS c):(memN c d.1,(Qa7 c d.2).set (IntKind.i64.wrap (IntKind.i64.wrap (IntKind.i64.wrap ((memN c d.1).getD 0 0*QaS c)+a)-1)).toNat (IntKind.u8.wrap (k%256)))=QaZ c d a k:=by
 obtain ⟨e1,e2⟩:=QFX (d:=d) hk hc g1 g2
 have e3:IntKind.u8.wrap (k%256)=k%256:=by show k%256%256=k%256;omega
 rw [e1,QaZ,if_neg (by omega),if_pos e2,e3]
theorem QCF {c:Cv} {d:Dv} {a k:Int} (hk:c.2.1=2) (g:¬ a=0) (h:¬ a > 0∨¬ a≤QaS c):(memN c d.1,Qa7 c d.2)=QaZ c d a k:=by
 rw [QaZ,Qwb hk (by omega),if_neg (by omega),if_neg (by decide),if_neg (fun h=>g h.2)];rfl
def QEk (k:Int):Prop:=k=0∨k=1∨k=2∨(k < 0∨8 < k)
def Qle:Qk:=⟨[gC,gD,gi],fun (c,d,a,_)=>(some ((cP c∧dP d)∧QEk c.2.1),.tup [QhR,I1 (QfI c d a)],[.arr (.int .i64) (Qe4 c d a).1,.arr (.int .u8) (Qe4 c d a).2])⟩
set_option maxHeartbeats 1000000 in
theorem Qb7:Qi Tryz.prog 76 Qle.spec:=by
 have hP:Qe Tryz.prog _:=Qa QbS (Qa QfD (Qa Qe1 (Qc (T:=tree))))
 have hT:=tabs hP Qf
 refine Qle.good (fn:=Tryz.f76) hT hP Tryz.func76 (by kernel_rfl) rfl fun (c:Cv) (d:Dv) (a:Int) hp=>?_
 obtain ⟨cn,ck,cb,cs,cd⟩:=c
 obtain ⟨N,M⟩:=d
 obtain ⟨⟨hc,hl,hu⟩,hk⟩:(cP (cn,ck,cb,cs,cd)∧dP (N,M))∧QEk ck:=hp _ rfl
 clear hp
 rcases hk with rfl |rfl |rfl |hx
 all_goals
  repeat' first |(refine Go.mk ?_;conv=>whnf) |refine Ql.go ?_ ?_ |refine Qm.go (fun _=>?_) (fun _=>?_) |refine Br.dec (fun _=>?_) (fun _=>?_) |refine Br.go (fun _=>?_) (fun _=>?_) |refine Qd hT hP mixed ?_ |refine Qb hT hP ?_
   |(exfalso;rename_i g;exact QsP hx g (by decide))
  all_goals (try dsimp only [Qj] at *)
 all_goals clear hT hP
 ·exact ⟨hc,hl⟩
 ·rename_i g1 g2
  exact ⟨g1,g2⟩
 ·rename_i g1 g2
  have g2:a < ((Qa7 (cn,0,cb,cs,cd) M).length:Nat):=g2
  show a.toNat < (Qa7 (cn,0,cb,cs,cd) M).length
  omega
 ·rename_i g1 g2
  refine .mk [] [4,5] _ R R R R R R (Qgb ?_)
  exact Qym (c:=(cn,0,cb,cs,cd)) (d:=(N,M)) (.inl rfl) hu g1 g2
 ·rename_i g1 g2
  refine .mk [] [4,5] _ R R R R R R (Qgb ?_)
  exact Qox (c:=(cn,0,cb,cs,cd)) (d:=(N,M)) (.inl rfl) (.inr g2)
 ·rename_i g1
  refine .mk [] [4,5] _ R R R R R R (Qgb ?_)
  exact Qox (c:=(cn,0,cb,cs,cd)) (d:=(N,M)) (.inl rfl) (.inl g1)
 ·exact ⟨hc,hl⟩
 ·rename_i g1 g2
  exact ⟨g1,g2⟩
 ·rename_i g1 g2
  have g2:a < ((Qa7 (cn,1,cb,cs,cd) M).length:Nat):=g2
  show a.toNat < (Qa7 (cn,1,cb,cs,cd) M).length
  omega
 ·rename_i g1 g2
  refine .mk [] [4,5] _ R R R R R R (Qgb ?_)
  exact Qym (c:=(cn,1,cb,cs,cd)) (d:=(N,M)) (.inr rfl) hu g1 g2
 ·rename_i g1 g2
  refine .mk [] [4,5] _ R R R R R R (Qgb ?_)
  exact Qox (c:=(cn,1,cb,cs,cd)) (d:=(N,M)) (.inr rfl) (.inr g2)
 ·rename_i g1
  refine .mk [] [4,5] _ R R R R R R (Qgb ?_)
  exact Qox (c:=(cn,1,cb,cs,cd)) (d:=(N,M)) (.inr rfl) (.inl g1)
 ·exact ⟨hc,hl⟩
 ·exact hc
 ·have h:=Qld (c:=(cn,2,cb,cs,cd)) (N:=N) rfl
  show 0≤(0:Int)∧(0:Int) < ((memN (cn,2,cb,cs,cd) N).length:Nat)
  omega
 ·exact Qld (c:=(cn,2,cb,cs,cd)) (N:=N) rfl
 ·rename_i g1
  refine .mk [] [4,5] _ R R R R R R (Qgb ?_)
  exact QFZ (c:=(cn,2,cb,cs,cd)) (d:=(N,M)) rfl g1
 ·have h:=Qld (c:=(cn,2,cb,cs,cd)) (N:=N) rfl
  show 0≤(0:Int)∧(0:Int) < ((memN (cn,2,cb,cs,cd) N).length:Nat)
  omega
 ·exact Qld (c:=(cn,2,cb,cs,cd)) (N:=N) rfl
 ·rename_i g1 g2 g3
  exact Qwc (c:=(cn,2,cb,cs,cd)) (d:=(N,M)) rfl hc g2 g3
 ·rename_i g1 g2 g3
  have h:=Qwc (c:=(cn,2,cb,cs,cd)) (d:=(N,M)) rfl hc g2 g3
  exact (Int.toNat_lt h.1).2 h.2
 ·rename_i g1 g2 g3
  refine .mk [] [4,5] _ R R R R R R (Qgb ?_)
  exact QFY (c:=(cn,2,cb,cs,cd)) (d:=(N,M)) rfl hc hu g2 g3
 ·rename_i g1 g2 g3
  refine .mk [] [4,5] _ R R R R R R (Qgb ?_)
  exact QCC (c:=(cn,2,cb,cs,cd)) (d:=(N,M)) rfl g1 (.inr g3)
 ·rename_i g1 g2
  refine .mk [] [4,5] _ R R R R R R (Qgb ?_)
  exact QCC (c:=(cn,2,cb,cs,cd)) (d:=(N,M)) rfl g1 (.inl g2)
 ·exact ⟨hc,hl⟩
 ·have e1:QcA (cn,ck,cb,cs,cd) (N,M)=Qe4 (cn,ck,cb,cs,cd) (N,M) a:=by unfold QcA Qe4;rw [QbO hx,QbO hx]
  have e2:0=QfI (cn,ck,cb,cs,cd) (N,M) a:=by unfold QfI;rw [QbO hx]
  exact .mk [] [4,5] _ R R R R R (Qb6 e1) (Qgb e2)
def Qlf:Qk:=⟨[gC,gD,gi,gi],fun (c,d,a,k,_)=>(some ((cP c∧dP d)∧QEk c.2.1),Qdb,[.arr (.int .i64) (QbL c d a k).1,.arr (.int .u8) (QbL c d a k).2])⟩
set_option maxHeartbeats 1000000 in
theorem Qb8:Qi Tryz.prog 77 Qlf.spec:=by
 have hP:Qe Tryz.prog _:=Qa QbS (Qa Qb0 (Qa Qe1 (Qc (T:=tree))))
 have hT:=tabs hP Qf
 refine Qlf.good (fn:=Tryz.f77) hT hP Tryz.func77 (by kernel_rfl) rfl fun (c:Cv) (d:Dv) (a k:Int) hp=>?_
 obtain ⟨cn,ck,cb,cs,cd⟩:=c
 obtain ⟨N,M⟩:=d
 obtain ⟨⟨hc,hl,hu⟩,hk⟩:(cP (cn,ck,cb,cs,cd)∧dP (N,M))∧QEk ck:=hp _ rfl
 clear hp
 rcases hk with rfl |rfl |rfl |hx
 all_goals
  repeat' first |(refine Go.mk ?_;conv=>whnf) |refine Ql.go ?_ ?_ |refine Qm.go (fun _=>?_) (fun _=>?_) |refine Br.dec (fun _=>?_) (fun _=>?_) |refine Br.go (fun _=>?_) (fun _=>?_) |refine Qd hT hP mixed ?_ |refine Qb hT hP ?_
   |(exfalso;rename_i g;exact QsP hx g (by decide))
  all_goals (try dsimp only [Qj] at *)
 all_goals clear hT hP
 ·exact ⟨hc,hl⟩
 ·exact of_decide_eq_true rfl
 ·rename_i g1 g2
  exact ⟨g1,g2⟩
 ·rename_i g1 g2
  have g2:a < ((Qa7 (cn,0,cb,cs,cd) M).length:Nat):=g2
  show a.toNat < (Qa7 (cn,0,cb,cs,cd) M).length
  omega
 ·rename_i g1 g2
  exact .mk [] [3,4] _ R R R R R (Qb6 (QCD (c:=(cn,0,cb,cs,cd)) (d:=(N,M)) (k:=k) rfl g1 g2)) rfl
 ·rename_i g1 g2
  exact .mk [] [3,4] _ R R R R R (Qb6 (Qyn (c:=(cn,0,cb,cs,cd)) (d:=(N,M)) (k:=k) rfl (.inr g2))) rfl
 ·rename_i g1
  exact .mk [] [3,4] _ R R R R R (Qb6 (Qyn (c:=(cn,0,cb,cs,cd)) (d:=(N,M)) (k:=k) rfl (.inl g1))) rfl
 ·exact ⟨hc,hl⟩
 ·exact of_decide_eq_true rfl
 ·exact .mk [] [3,4] _ R R R R R (Qb6 (QCE (c:=(cn,1,cb,cs,cd)) (d:=(N,M)) (a:=a) (k:=k) rfl)) rfl
 ·exact ⟨hc,hl⟩
 ·exact of_decide_eq_true rfl
 ·exact hc
 ·obtain ⟨b1,b2,b3⟩:=QaP (c:=(cn,2,cb,cs,cd)) hc.2.2
  show Qap (cn,2,cb,cs,cd)≠0
  omega
 ·have h:=Qld (c:=(cn,2,cb,cs,cd)) (N:=N) rfl
  show 0≤(0:Int)∧(0:Int) < ((memN (cn,2,cb,cs,cd) N).length:Nat)
  omega
 ·exact Qld (c:=(cn,2,cb,cs,cd)) (N:=N) rfl
 ·rename_i g1
  exact .mk [] [3,4] _ R R R R R (Qb6 (QF0 (c:=(cn,2,cb,cs,cd)) (d:=(N,M)) (k:=k) rfl g1)) rfl
 ·have h:=Qld (c:=(cn,2,cb,cs,cd)) (N:=N) rfl
  show 0≤(0:Int)∧(0:Int) < ((memN (cn,2,cb,cs,cd) N).length:Nat)
  omega
 ·exact Qld (c:=(cn,2,cb,cs,cd)) (N:=N) rfl
 ·rename_i g1 g2 g3
  exact Qwc (c:=(cn,2,cb,cs,cd)) (d:=(N,M)) rfl hc g2 g3
 ·rename_i g1 g2 g3
  have h:=Qwc (c:=(cn,2,cb,cs,cd)) (d:=(N,M)) rfl hc g2 g3
  exact (Int.toNat_lt h.1).2 h.2
 ·rename_i g1 g2 g3
  exact .mk [] [3,4] _ R R R R R (Qb6 (QF1 (c:=(cn,2,cb,cs,cd)) (d:=(N,M)) (k:=k) rfl hc g2 g3)) rfl
 ·rename_i g1 g2 g3
  exact .mk [] [3,4] _ R R R R R (Qb6 (QCF (c:=(cn,2,cb,cs,cd)) (d:=(N,M)) (k:=k) rfl g1 (.inr g3))) rfl
 ·rename_i g1 g2
  exact .mk [] [3,4] _ R R R R R (Qb6 (QCF (c:=(cn,2,cb,cs,cd)) (d:=(N,M)) (k:=k) rfl g1 (.inl g2))) rfl
 ·exact ⟨hc,hl⟩
 ·exact of_decide_eq_true rfl
 ·have e1:QcA (cn,ck,cb,cs,cd) (N,M)=QbL (cn,ck,cb,cs,cd) (N,M) a k:=by unfold QcA QbL;rw [QbO hx,QbO hx]
  exact .mk [] [3,4] _ R R R R R (Qb6 e1) rfl
def QqD (c:Cv) (d:Dv) (k:Int):Dv:=sel c.2.1 (memN c d.1,Qa7 c d.2) (Qe2 d.1,[]) (QBw d.1 k,[]) (QnG d.1 k,[]) (vN d.1,vM d.2) (QbH d.1,[]) (dcN d.1 (qF d.2) k,dM d.2) ([],[])
def Qoy:Qk:=⟨[gC,gD,gi],fun (c,d,k,_)=>(some ((cP c∧dP d)∧(c.2.1≠4∧c.2.1≠5∧c.2.1≠8)),Qdb,[.arr (.int .i64) (QcA c d).1,.arr (.int .u8) (QcA c d).2])⟩
theorem Qbc:Qi Tryz.prog 73 Qoy.spec:=by
 have hP:Qe Tryz.prog _:=Qa QbS (Qc (T:=tree))
 have hT:=tabs hP Qf
 refine Qoy.good (fn:=Tryz.f73) hT hP Tryz.func73 (by kernel_rfl) rfl fun (c:Cv) (d:Dv) (k:Int) hp=>?_
 obtain ⟨cn,ck,cb,cs,cd⟩:=c
 obtain ⟨N,M⟩:=d
 obtain ⟨⟨hc,hl,hu⟩,h4,h5,h8⟩:(cP (cn,ck,cb,cs,cd)∧dP (N,M))∧(ck≠4∧ck≠5∧ck≠8):=hp _ rfl
 clear hp
 rcases kinds ck with rfl |rfl |rfl |rfl |rfl |rfl |rfl |rfl |rfl |hx
 all_goals try (exfalso;omega)
 all_goals
  repeat' first |(refine Go.mk ?_;conv=>whnf) |refine Ql.go ?_ ?_ |refine Qm.go (fun _=>?_) (fun _=>?_) |refine Br.dec (fun _=>?_) (fun _=>?_) |refine Br.go (fun _=>?_) (fun _=>?_) |refine Qd hT hP mixed ?_ |refine Qb hT hP ?_
   |(exfalso;rename_i g;exact QsP hx g (by decide))
  all_goals (try dsimp only [Qj] at *)
 all_goals first
  |exact ⟨hc,hl⟩
  |exact .mk [] [3,4] _ R R R R R R R
  |exact .mk [] [] _ R R R R R R R
  |skip
def Qlg:Qk:=⟨[gC,gD],fun (c,d,_)=>(some ((cP c∧dP d)∧(c.2.1≠3∧c.2.1≠5∧c.2.1≠8)),.cell (bv false),[])⟩
theorem QaL:Qi Tryz.prog 16 Qlg.spec:=by
 have hP:Qe Tryz.prog _:=Qa QbS (Qc (T:=tree))
 have hT:=tabs hP Qf
 refine Qlg.good (fn:=Tryz.f16) hT hP Tryz.func16 (by kernel_rfl) rfl fun (c:Cv) (d:Dv) hp=>?_
 obtain ⟨cn,ck,cb,cs,cd⟩:=c
 obtain ⟨N,M⟩:=d
 obtain ⟨⟨hc,hl,hu⟩,h4,h5,h8⟩:(cP (cn,ck,cb,cs,cd)∧dP (N,M))∧(ck≠3∧ck≠5∧ck≠8):=hp _ rfl
 clear hp
 rcases kinds ck with rfl |rfl |rfl |rfl |rfl |rfl |rfl |rfl |rfl |hx
 all_goals try (exfalso;omega)
 all_goals
  repeat' first |(refine Go.mk ?_;conv=>whnf) |refine Ql.go ?_ ?_ |refine Qm.go (fun _=>?_) (fun _=>?_) |refine Br.dec (fun _=>?_) (fun _=>?_) |refine Br.go (fun _=>?_) (fun _=>?_) |refine Qd hT hP mixed ?_ |refine Qb hT hP ?_
   |(exfalso;rename_i g;exact QsP hx g (by decide))
  all_goals (try dsimp only [Qj] at *)
 all_goals first
  |exact ⟨hc,hl⟩
  |exact .mk [] [3,4] _ R R R R R R R
  |exact .mk [] [] _ R R R R R R R
  |skip
def Qoz:Qk:=⟨[gC,gD],fun (c,d,_)=>(some ((cP c∧dP d)∧(c.2.1 < 4∨8 < c.2.1)),I 0,[])⟩
theorem QbT:Qi Tryz.prog 72 Qoz.spec:=by
 have hP:Qe Tryz.prog _:=Qa QbS (Qc (T:=tree))
 have hT:=tabs hP Qf
 refine Qoz.good (fn:=Tryz.f72) hT hP Tryz.func72 (by kernel_rfl) rfl fun (c:Cv) (d:Dv) hp=>?_
 obtain ⟨cn,ck,cb,cs,cd⟩:=c
 obtain ⟨N,M⟩:=d
 obtain ⟨⟨hc,hl,hu⟩,hk⟩:(cP (cn,ck,cb,cs,cd)∧dP (N,M))∧(ck < 4∨8 < ck):=hp _ rfl
 clear hp
 rcases kinds ck with rfl |rfl |rfl |rfl |rfl |rfl |rfl |rfl |rfl |hx
 all_goals try (exfalso;omega)
 all_goals
  repeat' first |(refine Go.mk ?_;conv=>whnf) |refine Ql.go ?_ ?_ |refine Qm.go (fun _=>?_) (fun _=>?_) |refine Br.dec (fun _=>?_) (fun _=>?_) |refine Br.go (fun _=>?_) (fun _=>?_) |refine Qd hT hP mixed ?_ |refine Qb hT hP ?_
   |(exfalso;rename_i g;exact QsP hx g (by decide))
  all_goals (try dsimp only [Qj] at *)
 all_goals first
  |exact ⟨hc,hl⟩
  |exact .mk [] [3,4] _ R R R R R R R
  |exact .mk [] [] _ R R R R R R R
  |skip
theorem kxg {k:Int} (h:k < 0∨8 < k):k≠4∧k≠5∧k≠8:=by omega
theorem kxa {k:Int} (h:k < 0∨8 < k):k≠3∧k≠5∧k≠8:=by omega
theorem kxs {k:Int} (h:k < 0∨8 < k):k < 4∨8 < k:=by omega
def Qwd:Qk:=⟨[gC,gD,gi],fun (c,d,a,_)=>(some (cP c∧dP d),.tup [QhR,I1 (QfI c d a)],[.arr (.int .i64) (Qe4 c d a).1,.arr (.int .u8) (Qe4 c d a).2])⟩
theorem Qp1:Qi Tryz.prog 76 Qwd.spec:=by
 refine Qi.sel Qb7 fun (c,d,a,_) hp=>?_
 obtain ⟨cn,ck,cb,cs,cd⟩:=c
 obtain ⟨N,M⟩:=d
 obtain ⟨hc,hl,hu⟩:cP (cn,ck,cb,cs,cd)∧dP (N,M):=hp _ rfl
 clear hp
 show ∃ o1:Args [gC,gD,gi]→Option Prop × AV × List Blk,_
 rcases kinds ck with rfl |rfl |rfl |rfl |rfl |rfl |rfl |rfl |rfl |hx
 ·exact ⟨_,Qb7,fun q hq=>by cases hq;exact ⟨⟨hc,hl,hu⟩,.inl rfl⟩,.refl⟩
 ·exact ⟨_,Qb7,fun q hq=>by cases hq;exact ⟨⟨hc,hl,hu⟩,.inr (.inl rfl)⟩,.refl⟩
 ·exact ⟨_,Qb7,fun q hq=>by cases hq;exact ⟨⟨hc,hl,hu⟩,.inr (.inr (.inl rfl))⟩,.refl⟩
 ·exact ⟨_,QpG,fun q hq=>by cases hq;rfl,.nil (.int .u8) rfl .refl⟩
 ·exact ⟨_,QpE,fun q hq=>by cases hq;rfl,.nil (.int .u8) rfl .refl⟩
 ·exact ⟨_,QpH,fun q hq=>by cases hq;rfl,.nil (.int .u8) rfl .refl⟩
 ·exact ⟨_,QpR,fun q hq=>by cases hq;exact ⟨rfl,hu⟩,.refl⟩
 ·exact ⟨_,QpO,fun q hq=>by cases hq;rfl,.nil (.int .u8) rfl .refl⟩
 ·exact ⟨_,Qmk,fun q hq=>by cases hq;exact ⟨rfl,hl⟩,.refl⟩
 ·exact ⟨_,Qb7,fun q hq=>by cases hq;exact ⟨⟨hc,hl,hu⟩,.inr (.inr (.inr hx))⟩,.refl⟩
def Qwe:Qk:=⟨[gC,gD,gi,gi],fun (c,d,a,k,_)=>(some (cP c∧dP d),Qdb,[.arr (.int .i64) (QbL c d a k).1,.arr (.int .u8) (QbL c d a k).2])⟩
theorem Qp2:Qi Tryz.prog 77 Qwe.spec:=by
 refine Qi.sel Qb8 fun (c,d,a,k,_) hp=>?_
 obtain ⟨cn,ck,cb,cs,cd⟩:=c
 obtain ⟨N,M⟩:=d
 obtain ⟨hc,hl,hu⟩:cP (cn,ck,cb,cs,cd)∧dP (N,M):=hp _ rfl
 clear hp
 show ∃ o1:Args [gC,gD,gi,gi]→Option Prop × AV × List Blk,_
 rcases kinds ck with rfl |rfl |rfl |rfl |rfl |rfl |rfl |rfl |rfl |hx
 ·exact ⟨_,Qb8,fun q hq=>by cases hq;exact ⟨⟨hc,hl,hu⟩,.inl rfl⟩,.refl⟩
 ·exact ⟨_,Qb8,fun q hq=>by cases hq;exact ⟨⟨hc,hl,hu⟩,.inr (.inl rfl)⟩,.refl⟩
 ·exact ⟨_,Qb8,fun q hq=>by cases hq;exact ⟨⟨hc,hl,hu⟩,.inr (.inr (.inl rfl))⟩,.refl⟩
 ·exact ⟨_,QpF,fun q hq=>by cases hq;rfl,.nil (.int .u8) rfl .refl⟩
 ·exact ⟨_,QpD,fun q hq=>by cases hq;rfl,.nil (.int .u8) rfl .refl⟩
 ·exact ⟨_,QpI,fun q hq=>by cases hq;rfl,.nil (.int .u8) rfl .refl⟩
 ·exact ⟨_,QpS,fun q hq=>by cases hq;rfl,.refl⟩
 ·exact ⟨_,QpP,fun q hq=>by cases hq;rfl,.nil (.int .u8) rfl .refl⟩
 ·exact ⟨_,Qml,fun q hq=>by cases hq;exact ⟨rfl,hl⟩,.refl⟩
 ·exact ⟨_,Qb8,fun q hq=>by cases hq;exact ⟨⟨hc,hl,hu⟩,.inr (.inr (.inr hx))⟩,.refl⟩
def QAi:Qk:=⟨[gC,gD,gi],fun (c,d,k,_)=>(some (cP c∧dP d),Qdb,[.arr (.int .i64) (QqD c d k).1,.arr (.int .u8) (QqD c d k).2])⟩
theorem QsQ:Qi Tryz.prog 73 QAi.spec:=by
 refine Qi.sel Qbc fun (c,d,k,_) hp=>?_
 obtain ⟨cn,ck,cb,cs,cd⟩:=c
 obtain ⟨N,M⟩:=d
 obtain ⟨hc,hl,hu⟩:cP (cn,ck,cb,cs,cd)∧dP (N,M):=hp _ rfl
 clear hp
 show ∃ o1:Args [gC,gD,gi]→Option Prop × AV × List Blk,_
 rcases kinds ck with rfl |rfl |rfl |rfl |rfl |rfl |rfl |rfl |rfl |hx
 ·exact ⟨_,Qbc,fun q hq=>by cases hq;exact ⟨⟨hc,hl,hu⟩,(by decide:(0:Int)≠4∧(0:Int)≠5∧(0:Int)≠8)⟩,.refl⟩
 ·exact ⟨_,Qbc,fun q hq=>by cases hq;exact ⟨⟨hc,hl,hu⟩,(by decide:(1:Int)≠4∧(1:Int)≠5∧(1:Int)≠8)⟩,.refl⟩
 ·exact ⟨_,Qbc,fun q hq=>by cases hq;exact ⟨⟨hc,hl,hu⟩,(by decide:(2:Int)≠4∧(2:Int)≠5∧(2:Int)≠8)⟩,.refl⟩
 ·exact ⟨_,Qbc,fun q hq=>by cases hq;exact ⟨⟨hc,hl,hu⟩,(by decide:(3:Int)≠4∧(3:Int)≠5∧(3:Int)≠8)⟩,.refl⟩
 ·exact ⟨_,Qr2,fun q hq=>by cases hq;rfl,.nil (.int .u8) rfl .refl⟩
 ·exact ⟨_,Qsf,fun q hq=>by cases hq;rfl,.nil (.int .u8) rfl .refl⟩
 ·exact ⟨_,Qbc,fun q hq=>by cases hq;exact ⟨⟨hc,hl,hu⟩,(by decide:(6:Int)≠4∧(6:Int)≠5∧(6:Int)≠8)⟩,.refl⟩
 ·exact ⟨_,Qbc,fun q hq=>by cases hq;exact ⟨⟨hc,hl,hu⟩,(by decide:(7:Int)≠4∧(7:Int)≠5∧(7:Int)≠8)⟩,.refl⟩
 ·exact ⟨_,QpC,fun q hq=>by cases hq;exact ⟨rfl,hl⟩,.refl⟩
 ·refine ⟨_,Qbc,fun q hq=>by cases hq;exact ⟨⟨hc,hl,hu⟩,kxg hx⟩,?_⟩
  have e:QcA (cn,ck,cb,cs,cd) (N,M)=QqD (cn,ck,cb,cs,cd) (N,M) k:=by unfold QcA QqD;rw [QbO hx,QbO hx]
  show QqB (Qdb,[Blk.arr (.int .i64) (QcA (cn,ck,cb,cs,cd) (N,M)).1,.arr (.int .u8) (QcA (cn,ck,cb,cs,cd) (N,M)).2]) _
  rw [e]
  exact .refl
def Qhk (c:Cv) (d:Dv):Bool:=sel c.2.1 false (decide (tF d.1=1)&&decide (tC d.1≥4)) false (Qde d.1) false false (QzB d.1) false
def Qbi (c:Cv) (d:Dv):Int:=sel c.2.1 0 0 (land .i64 (d.1.getD 1 0%256) (d.1.getD 2 0%256)) (s6 d.1*256+s7 d.1) (Qbg (vM d.2) (vP d.1)) (Qsk d.1) (e1 d.1) 0
def Qwf:Qk:=⟨[gC,gD],fun (c,d,_)=>(some (cP c∧dP d),.cell (bv (Qhk c d)),[])⟩
theorem Qp3:Qi Tryz.prog 16 Qwf.spec:=by
 refine Qi.sel QaL fun (c,d,_) hp=>?_
 obtain ⟨cn,ck,cb,cs,cd⟩:=c
 obtain ⟨N,M⟩:=d
 obtain ⟨hc,hl,hu⟩:cP (cn,ck,cb,cs,cd)∧dP (N,M):=hp _ rfl
 clear hp
 show ∃ o1:Args [gC,gD]→Option Prop × AV × List Blk,_
 rcases kinds ck with rfl |rfl |rfl |rfl |rfl |rfl |rfl |rfl |rfl |hx
 ·exact ⟨_,QaL,fun q hq=>by cases hq;exact ⟨⟨hc,hl,hu⟩,(by decide:(0:Int)≠3∧(0:Int)≠5∧(0:Int)≠8)⟩,.refl⟩
 ·exact ⟨_,QaL,fun q hq=>by cases hq;exact ⟨⟨hc,hl,hu⟩,(by decide:(1:Int)≠3∧(1:Int)≠5∧(1:Int)≠8)⟩,.refl⟩
 ·exact ⟨_,QaL,fun q hq=>by cases hq;exact ⟨⟨hc,hl,hu⟩,(by decide:(2:Int)≠3∧(2:Int)≠5∧(2:Int)≠8)⟩,.refl⟩
 ·exact ⟨_,QzT,fun q hq=>by cases hq;rfl,.refl⟩
 ·exact ⟨_,QaL,fun q hq=>by cases hq;exact ⟨⟨hc,hl,hu⟩,(by decide:(4:Int)≠3∧(4:Int)≠5∧(4:Int)≠8)⟩,.refl⟩
 ·exact ⟨_,QzV,fun q hq=>by cases hq;rfl,.refl⟩
 ·exact ⟨_,QaL,fun q hq=>by cases hq;exact ⟨⟨hc,hl,hu⟩,(by decide:(6:Int)≠3∧(6:Int)≠5∧(6:Int)≠8)⟩,.refl⟩
 ·exact ⟨_,QaL,fun q hq=>by cases hq;exact ⟨⟨hc,hl,hu⟩,(by decide:(7:Int)≠3∧(7:Int)≠5∧(7:Int)≠8)⟩,.refl⟩
 ·exact ⟨_,QzD,fun q hq=>by cases hq;exact ⟨rfl,hl⟩,.refl⟩
 ·refine ⟨_,QaL,fun q hq=>by cases hq;exact ⟨⟨hc,hl,hu⟩,kxa hx⟩,?_⟩
  have e:Qhk (cn,ck,cb,cs,cd) (N,M)=false:=by unfold Qhk;rw [QbO hx]
  show QqB (AV.cell (bv false),[]) (AV.cell (bv (Qhk (cn,ck,cb,cs,cd) (N,M))),[])
  rw [e]
  exact .refl
def QAj:Qk:=⟨[gC,gD],fun (c,d,_)=>(some (cP c∧dP d),I (Qbi c d),[])⟩
theorem QsR:Qi Tryz.prog 72 QAj.spec:=by
 refine Qi.sel QbT fun (c,d,_) hp=>?_
 obtain ⟨cn,ck,cb,cs,cd⟩:=c
 obtain ⟨N,M⟩:=d
 obtain ⟨hc,hl,hu⟩:cP (cn,ck,cb,cs,cd)∧dP (N,M):=hp _ rfl
 clear hp
 show ∃ o1:Args [gC,gD]→Option Prop × AV × List Blk,_
 rcases kinds ck with rfl |rfl |rfl |rfl |rfl |rfl |rfl |rfl |rfl |hx
 ·exact ⟨_,QbT,fun q hq=>by cases hq;exact ⟨⟨hc,hl,hu⟩,.inl (by decide:(0:Int) < 4)⟩,.refl⟩
 ·exact ⟨_,QbT,fun q hq=>by cases hq;exact ⟨⟨hc,hl,hu⟩,.inl (by decide:(1:Int) < 4)⟩,.refl⟩
 ·exact ⟨_,QbT,fun q hq=>by cases hq;exact ⟨⟨hc,hl,hu⟩,.inl (by decide:(2:Int) < 4)⟩,.refl⟩
 ·exact ⟨_,QbT,fun q hq=>by cases hq;exact ⟨⟨hc,hl,hu⟩,.inl (by decide:(3:Int) < 4)⟩,.refl⟩
 ·exact ⟨_,Qr0,fun q hq=>by cases hq;rfl,.refl⟩
 ·exact ⟨_,Qsh,fun q hq=>by cases hq;rfl,.refl⟩
 ·exact ⟨_,Qsq,fun q hq=>by cases hq;exact ⟨rfl,hu⟩,.refl⟩
 ·exact ⟨_,Qso,fun q hq=>by cases hq;rfl,.refl⟩
 ·exact ⟨_,QrL,fun q hq=>by cases hq;exact ⟨rfl,hl⟩,.refl⟩
 ·refine ⟨_,QbT,fun q hq=>by cases hq;exact ⟨⟨hc,hl,hu⟩,kxs hx⟩,?_⟩
  have e:Qbi (cn,ck,cb,cs,cd) (N,M)=0:=by unfold Qbi;rw [QbO hx]
  show QqB (I 0,[]) (I (Qbi (cn,ck,cb,cs,cd) (N,M)),[])
  rw [e]
  exact .refl
theorem Qwg {c:Cv} (d:Dv) (k:Int) (h:c.2.1≠4∧c.2.1≠5∧c.2.1≠8):Qms c d 0=QqD c d k:=by
 obtain ⟨cn,ck,cb,cs,cd⟩:=c
 obtain ⟨N,M⟩:=d
 obtain ⟨h4,h5,h8⟩:=h
 rcases kinds ck with rfl |rfl |rfl |rfl |rfl |rfl |rfl |rfl |rfl |hx
 all_goals first
  |exact absurd rfl h4
  |exact absurd rfl h5
  |exact absurd rfl h8
  |rfl
  |(unfold Qms QqD;rw [QbO hx,QbO hx])
def QGB:Qk:=⟨[gC,gD,gi],fun (c,d,k,_)=>(some (cP c∧dP d),Qdb,[.arr (.int .i64) (QqD c d k).1,.arr (.int .u8) (QqD c d k).2])⟩
theorem QCG:Qi Tryz.prog 206 QGB.spec:=by
 have hP:Qe Tryz.prog _:=Qa Qst (Qa Qz9 (Qa QpA (Qa Qok (Qc (T:=tree)))))
 have hT:=tabs hP Qf
 refine QGB.good (fn:=Tryz.f206) hT hP Tryz.func206 (by kernel_rfl) rfl fun (c:Cv) (d:Dv) (k:Int) hp=>?_
 obtain ⟨cn,ck,cb,cs,cd⟩:=c
 obtain ⟨N,M⟩:=d
 obtain ⟨hc,hl,hu⟩:cP (cn,ck,cb,cs,cd)∧dP (N,M):=hp _ rfl
 clear hp
 rcases kinds ck with rfl |rfl |rfl |rfl |rfl |rfl |rfl |rfl |rfl |hx
 all_goals
  repeat' first |(refine Go.mk ?_;conv=>whnf) |refine Ql.go ?_ ?_ |refine Qm.go (fun _=>?_) (fun _=>?_) |refine Br.dec (fun _=>?_) (fun _=>?_) |refine Br.go (fun _=>?_) (fun _=>?_) |refine Qd hT hP mixed ?_ |refine Qb hT hP ?_
  all_goals (try dsimp only [Qj] at *)
 all_goals first
  |exact ⟨hc,⟨hl,hu⟩,by decide⟩
  |exact hl
  |exact .mk [] [3,4] _ R R R R R R R
  |(exfalso;omega)
  |exact .mk [] [3,4] _ R R R R R (Qb6 (Qwg (c:=(cn,ck,cb,cs,cd)) (N,M) k (kxg hx))) rfl
  |skip
def QCH:Qk:=⟨[gC,gD],fun (c,d,_)=>(some (cP c∧dP d),.cell (bv (Qhk c d)),[])⟩
theorem QAk:Qi Tryz.prog 67 QCH.spec:=by
 have hP:Qe Tryz.prog _:=Qa QzS (Qa QzU (Qa QzC (Qc (T:=tree))))
 have hT:=tabs hP Qf
 refine QCH.good (fn:=Tryz.f67) hT hP Tryz.func67 (by kernel_rfl) rfl fun (c:Cv) (d:Dv) hp=>?_
 obtain ⟨cn,ck,cb,cs,cd⟩:=c
 obtain ⟨N,M⟩:=d
 obtain ⟨hc,hl,hu⟩:cP (cn,ck,cb,cs,cd)∧dP (N,M):=hp _ rfl
 clear hp
 rcases kinds ck with rfl |rfl |rfl |rfl |rfl |rfl |rfl |rfl |rfl |hx
 all_goals
  repeat' first |(refine Go.mk ?_;conv=>whnf) |refine Ql.go ?_ ?_ |refine Qm.go (fun _=>?_) (fun _=>?_) |refine Br.dec (fun _=>?_) (fun _=>?_) |refine Br.go (fun _=>?_) (fun _=>?_) |refine Qd hT hP mixed ?_ |refine Qb hT hP ?_
  all_goals (try dsimp only [Qj] at *)
 all_goals first
  |exact hl
  |exact .mk [] [] _ R R R R R R R
  |(exfalso;omega)
  |(refine .mk [] [] _ R R R R R R (Qo ?_);show false=Qhk (cn,ck,cb,cs,cd) (N,M);unfold Qhk;rw [QbO hx])
  |skip
def QCI:Qk:=⟨[gC,gD],fun (c,d,_)=>(some (cP c∧dP d),I (Qbi c d),[])⟩
theorem QsS:Qi Tryz.prog 136 QCI.spec:=by
 have hP:Qe Tryz.prog _:=Qa QzN (Qa QzW (Qa QzJ (Qa Qz0 (Qa QzE (Qc (T:=tree))))))
 have hT:=tabs hP Qf
 refine QCI.good (fn:=Tryz.f136) hT hP Tryz.func136 (by kernel_rfl) rfl fun (c:Cv) (d:Dv) hp=>?_
 obtain ⟨cn,ck,cb,cs,cd⟩:=c
 obtain ⟨N,M⟩:=d
 obtain ⟨hc,hl,hu⟩:cP (cn,ck,cb,cs,cd)∧dP (N,M):=hp _ rfl
 clear hp
 rcases kinds ck with rfl |rfl |rfl |rfl |rfl |rfl |rfl |rfl |rfl |hx
 all_goals
  repeat' first |(refine Go.mk ?_;conv=>whnf) |refine Ql.go ?_ ?_ |refine Qm.go (fun _=>?_) (fun _=>?_) |refine Br.dec (fun _=>?_) (fun _=>?_) |refine Br.go (fun _=>?_) (fun _=>?_) |refine Qd hT hP mixed ?_ |refine Qb hT hP ?_
  all_goals (try dsimp only [Qj] at *)
 all_goals first
  |exact hl
  |exact hu
  |exact .mk [] [] _ R R R R R R R
  |(exfalso;omega)
  |(refine .mk [] [] _ R R R R R R (Qg ?_);show 0=Qbi (cn,ck,cb,cs,cd) (N,M);unfold Qbi;rw [QbO hx])
  |skip
theorem QAq (m:List Int) (a k:Int):(vwM m a k).length=m.length:=by
 unfold vwM;split
 ·simp
 ·rfl
theorem Qs3 (c:Cv):Qbn c≤(List.length c.2.2.2.2:Nat)+70000:=by
 unfold Qbn
 split
 ·have hw:=Qcz c
  unfold Qap
  rcases Int.le_total (((List.length c.2.2.2.2:Nat)+QaS c-1)/QaS c) 1 with h |h
  ·rw [Int.max_eq_left h];omega
  ·rw [Int.max_eq_right h]
   have:=Int.ediv_mul_le ((List.length c.2.2.2.2:Nat)+QaS c-1) (b:=QaS c) (by omega)
   omega
 ·omega
def Q5 (l:List Int):Prop:=(∀ n ∈ l,Qao n)∧l.length≤12
structure Qge (c:Cv) (L:Nat) (d:Dv):Prop where
 n:Q5 d.1
 u:u8s d.2
 l:List.length d.2≤max (List.length c.2.2.2.2+70000) L
theorem Q5.of {l:List Int} (h:∀ n ∈ l,-1048576≤n∧n≤1048576) (h2:l.length≤12):Q5 l:=⟨fun n hn=>by have:=h n hn;unfold Qao;omega,h2⟩
theorem Qhn {α:Type} {P:α→Prop} (k:Int) {m t p s v o r x:α} (hm:P m) (ht:P t) (hp:P p) (hs:P s) (hv:P v) (ho:P o) (hr:P r) (hx:P x):P (sel k m t p s v o r x):=by
 unfold sel
 repeat' split
 all_goals assumption
theorem QCQ:Q5 []:=⟨fun n hn=>(by cases hn),by decide⟩
theorem QoD {c:Cv} (hc:cP c) (N:List Int):Q5 (memN c N):=by
 obtain ⟨b1,b2,b3⟩:=QaP hc.2.2
 unfold memN
 split
 ·refine ⟨fun n hn=>?_,by simp⟩
  rw [List.mem_singleton] at hn
  subst hn
  have:=Int.emod_nonneg (N.getD 0 0) (b:=Qap c) (by omega)
  have:=Int.emod_lt_of_pos (N.getD 0 0) (b:=Qap c) (by omega)
  unfold Qao;omega
 ·exact QCQ
theorem Qgs {c:Cv} (hc:cP c) {d:Dv} (hu:u8s d.2) {L:Nat}:Qge c L (memN c d.1,Qa7 c d.2):=by
 refine ⟨QoD hc d.1,Qhh c hu,?_⟩
 show (Qa7 c d.2).length≤_
 rw [QnS]
 have:=Qs3 c
 omega
theorem Qaa {c:Cv} {L:Nat} {l:List Int} (h:Q5 l):Qge c L (l,[]):=⟨h,fun x hx=>(by cases hx),Nat.zero_le _⟩
theorem Q5.set {l:List Int} (h:Q5 l) {v:Int} (hv:Qao v) (i:Nat):Q5 (l.set i v):=by
 refine ⟨fun n hn=>?_,by rw [List.length_set];exact h.2⟩
 rcases List.mem_or_eq_of_mem_set hn with hn |rfl
 ·exact h.1 n hn
 ·exact hv
theorem Qs4 {l m:List Int} (h:Q5 l) (h2:Q5 m) (h3:l.length+m.length≤12):Q5 (l++m) :=
 ⟨fun n hn=>(List.mem_append.1 hn).elim (h.1 n) (h2.1 n),by rw [List.length_append];exact h3⟩
theorem QAr (N:List Int):Q5 (Qe2 N):=by
 unfold Qe2
 refine Q5.of (fun n hn=>?_) (by simp)
 simp only [List.mem_cons,List.not_mem_nil,or_false] at hn
 rcases hn with rfl |rfl |rfl |rfl<;>omega
theorem Qs5 (N:List Int):Q5 (Qdd (Qe2 N)):=by
 unfold Qe2 Qdd
 dsimp only
 repeat' split
 all_goals
  refine Q5.of (fun n hn=>?_) (by simp)
  simp only [List.mem_cons,List.not_mem_nil,or_false] at hn
  rcases hn with rfl |rfl |rfl |rfl<;>omega
theorem QCR (N:List Int) (a:Int):Q5 (trN N a):=by
 unfold trN
 refine Q5.of (fun n hn=>?_) (by simp)
 simp only [List.mem_cons,List.not_mem_nil,or_false] at hn
 dsimp only [tA,tB,tC,tF] at hn
 rcases hn with rfl |rfl |rfl |rfl<;>(try split)<;>omega
theorem QCS (N:List Int) (a k:Int):Q5 (twN N a k):=by
 unfold twN
 refine Q5.of (fun n hn=>?_) (by simp)
 simp only [List.mem_cons,List.not_mem_nil,or_false] at hn
 dsimp only [tA,tB,tC,tF] at hn
 rcases hn with rfl |rfl |rfl |rfl<;>(repeat' split)<;>omega
theorem QoE (N:List Int):Q5 (QdF N):=by
 unfold QdF
 refine Q5.of (fun n hn=>?_) (by simp)
 simp only [List.mem_cons,List.not_mem_nil,or_false] at hn
 rcases hn with rfl |rfl |rfl<;>omega
theorem QAs (N:List Int) (k:Int):Q5 (QBw N k):=by
 unfold QBw
 refine Q5.of (fun n hn=>?_) (by simp)
 simp only [List.mem_cons,List.not_mem_nil,or_false] at hn
 rcases hn with rfl |rfl |rfl<;>omega
theorem QCT (N:List Int) (a k:Int):Q5 (pwN N a k):=by
 unfold pwN
 refine Q5.of (fun n hn=>?_) (by simp)
 simp only [List.mem_cons,List.not_mem_nil,or_false] at hn
 rcases hn with rfl |rfl |rfl<;>(try split)<;>omega
theorem Qs6 (N:List Int):Q5 (Qce (Qfm N)):=by
 unfold Qfm Qce
 dsimp only
 repeat' split
 all_goals
  refine Q5.of (fun n hn=>?_) (by simp)
  simp only [List.mem_cons,List.not_mem_nil,or_false] at hn
  dsimp only [s0,s1,s2,s3,s4,s5,s6,s7] at *
  rcases hn with rfl |rfl |rfl |rfl |rfl |rfl |rfl |rfl<;>omega
theorem QAt (N:List Int) (k:Int):Q5 (QnG N k):=by
 unfold QnG
 refine Q5.of (fun n hn=>?_) (by simp)
 simp only [List.mem_cons,List.not_mem_nil,or_false] at hn
 dsimp only [s0,s1,s2,s3,s4,s5,s6,s7] at hn
 rcases hn with rfl |rfl |rfl |rfl |rfl |rfl |rfl |rfl<;>(try split)<;>omega
theorem QCU (N:List Int) (a k:Int):Q5 (swN N a k):=by
 unfold swN
 refine Q5.of (fun n hn=>?_) (by simp)
 simp only [List.mem_cons,List.not_mem_nil,or_false] at hn
 dsimp only [s0,s1,s2,s3,s4,s5,s6,s7] at hn
 rcases hn with rfl |rfl |rfl |rfl |rfl |rfl |rfl |rfl<;>(try split)<;>omega
theorem QCV (N:List Int) (a:Int):Q5 (srN N a):=by
 unfold srN
 refine Q5.of (fun n hn=>?_) (by simp)
 simp only [List.mem_cons,List.not_mem_nil,or_false] at hn
 dsimp only [s0,s1,s2,s3,s4,s5,s6,s7] at hn
 rcases hn with rfl |rfl |rfl |rfl |rfl |rfl |rfl |rfl<;>(try split)<;>omega
theorem Qjs {l:List Int} (h:vOk l):Q5 l∧l.length=6:=by
 cases h with
 |mk h1 h2 h3 h4 h5 h6 =>
   refine ⟨Q5.of (fun n hn=>?_) (by simp),rfl⟩
   simp only [List.mem_cons,List.not_mem_nil,or_false] at hn
   rcases hn with rfl |rfl |rfl |rfl |rfl |rfl<;>omega
theorem QmB (N:List Int):Q5 (QbH N):=by
 have h1:=Qjs (QaQ N 0)
 have h2:=Qjs (QaQ N 6)
 exact Qs4 h1.1 h2.1 (by omega)
theorem Qs7 (N:List Int):Q5 (QcM (QbH N)):=by
 have e1:(QbH N).take 6=vo N 0:=rfl
 have e2:(QbH N).drop 6=vo N 6:=rfl
 unfold QcM
 rw [e1,e2]
 have h1:=Qjs (Qct (QaQ N 0) (k:=1) (by omega))
 have h2:=Qjs (Qct (QaQ N 6) (k:=1) (by omega))
 exact Qs4 h1.1 h2.1 (by omega)
theorem QCW (N:List Int) (a k:Int):Q5 (owF N a k):=by
 have h:=QmB N
 have hv:∀ v:Int,-1048576≤v∧v≤1048576→Qao v:=fun v hv=>by unfold Qao;omega
 unfold owF
 repeat' split
 all_goals first
  |exact h
  |exact (h.set (hv _ (by omega)) _)
  |exact ((h.set (hv _ (by omega)) _).set (hv _ (by omega)) _)
theorem Qs8 (N:List Int):Q5 (vN N):=by
 have:=Qeu N
 unfold vN
 refine Q5.of (fun n hn=>?_) (by simp)
 simp only [List.mem_cons,List.not_mem_nil,or_false] at hn
 rcases hn with rfl |rfl
 ·omega
 ·dsimp only [vH];omega
theorem Qs9 (m N:List Int):Q5 (Qcf m (vN N)):=by
 have:=Qeu N
 unfold vN Qcf
 dsimp only
 refine Q5.of (fun n hn=>?_) (by simp)
 simp only [List.mem_cons,List.not_mem_nil,or_false] at hn
 dsimp only [vH] at *
 rcases hn with rfl |rfl<;>(try split)<;>omega
theorem QCX (N:List Int) (a:Int):Q5 (vrN N a):=by
 have:=Qeu N
 unfold vrN
 refine Q5.of (fun n hn=>?_) (by simp)
 simp only [List.mem_cons,List.not_mem_nil,or_false] at hn
 dsimp only [vH] at *
 rcases hn with rfl |rfl<;>(try split)<;>omega
theorem QmC {q:Nat} {l:List Int} (h:dOk q l):Q5 l:=by
 cases h with
 |mk hk ht hc hs hi hl hd hr ho hx =>
   refine Q5.of (fun n hn=>?_) (by simp)
   simp only [List.mem_cons,List.not_mem_nil,or_false] at hn
   rcases hn with rfl |rfl |rfl |rfl |rfl |rfl |rfl |rfl |rfl |rfl<;>omega
theorem QCY (N:List Int) (q:Nat) (a k:Int):Q5 (dwN N q a k):=by
 have h:=QmC (Qvk N q)
 have hv:∀ v:Int,-1048576≤v∧v≤1048576→Qao v:=fun v hv=>by unfold Qao;omega
 unfold dwN Q7 QbC
 generalize dN N q=n at *
 have hb:=Qi9 (decide (k%256%16=4))
 repeat' split
 all_goals first
  |exact h
  |exact h.set (hv _ (by omega)) _
  |exact (h.set (hv _ (by omega)) _).set (hv _ (by omega)) _
  |exact ((((h.set (hv _ (by omega)) _).set (hv _ (by omega)) _).set (hv _ (by omega)) _).set (hv _ (by omega)) _).set (hv _ (by omega)) _
theorem QCZ (N:List Int) (q:Nat) (k:Int):Q5 (dcN N q k):=by
 unfold dcN
 split
 ·refine Q5.of (fun n hn=>?_) (by simp)
  simp only [List.mem_cons,List.not_mem_nil,or_false] at hn
  dsimp only [e1,e2,e3,e4,e5,e6,e7,e8,e9] at *
  rcases hn with rfl |rfl |rfl |rfl |rfl |rfl |rfl |rfl |rfl |rfl<;>(try split)<;>omega
 ·exact QmC (Qvk N q)
theorem QC0 (N:List Int) (q:Nat) (a:Int):Q5 (drN N q a):=by
 unfold drN
 refine Q5.of (fun n hn=>?_) (by simp)
 simp only [List.mem_cons,List.not_mem_nil,or_false] at hn
 dsimp only [e0,e1,e2,e3,e4,e5,e6,e7,e8,e9] at *
 rcases hn with rfl |rfl |rfl |rfl |rfl |rfl |rfl |rfl |rfl |rfl<;>(try split)<;>omega
theorem Qjt {c:Cv} {L:Nat} {N M:List Int} (h:Q5 N) (hu:u8s M) (hl:M.length≤L):Qge c L (N,dM M):=by
 refine ⟨h,Qjc hu _,?_⟩
 show (M.take _).length≤_
 rw [List.length_take];omega
theorem Qgt {c:Cv} {L:Nat} {N M:List Int} (h:Q5 N) (hu:u8s M) (hl:M.length≤32):Qge c L (N,M):=⟨h,hu,by show M.length≤_;omega⟩
theorem QC1 {m:List Int} (h:u8s m) (a k:Int):u8s (vwM m a k):=by
 unfold vwM
 split
 ·exact Qmf h (by omega) _
 ·exact h
theorem Qta {c:Cv} {L:Nat} {d:Dv} (hu:u8s d.2) (hl:List.length d.2≤L):Qge c L (Qbs (dN d.1 (qF d.2),dM d.2)):=by
 have h:=Qvl (q:=qF d.2) (s:=(dN d.1 (qF d.2),dM d.2)) ⟨Qvk _ _,QkE _,Qjc hu _⟩
 refine ⟨QmC h.n,h.u,?_⟩
 have:=h.m
 have e:(Qbs (dN d.1 (qF d.2),dM d.2)).2.length≤d.2.length:=by rw [this];unfold qF;omega
 exact Nat.le_trans (Nat.le_trans e hl) (Nat.le_max_right _ _)
structure OkD (L:Nat) (d:Dv):Prop where
 u:u8s d.2
 l:List.length d.2≤L
theorem Qlh {c:Cv} (hc:cP c) {L:Nat} {d:Dv} (h:OkD L d):Qge c L (Qn c d) :=
 Qhn _ (Qgs hc h.u) (Qaa (Qs5 _)) (Qaa (QoE _)) (Qaa (Qs6 _)) (Qgt (Qs9 _ _) (Qf9 h.u) (Nat.le_of_eq (Qbh _))) (Qaa (Qs7 _)) (Qta h.u h.l) (Qaa QCQ)
theorem Qwv {c:Cv} (hc:cP c) {L:Nat} {d:Dv} (h:OkD L d) (k:Int):Qge c L (QqD c d k) :=
 Qhn _ (Qgs hc h.u) (Qaa (QAr _)) (Qaa (QAs _ _)) (Qaa (QAt _ _)) (Qgt (Qs8 _) (Qf9 h.u) (Nat.le_of_eq (Qbh _))) (Qaa (QmB _)) (Qjt (QCZ _ _ _) h.u h.l) (Qaa QCQ)
theorem Qtb {c:Cv} (hc:cP c) {L:Nat} {d:Dv} (h:OkD L d) (a:Int):Qge c L (Qe4 c d a) :=
 Qhn _ (Qgs hc h.u) (Qaa (QCR _ _)) (Qaa (QoE _)) (Qaa (QCV _ _)) (Qgt (QCX _ _) (Qf9 h.u) (Nat.le_of_eq (Qbh _))) (Qaa (QmB _)) (Qjt (QC0 _ _ _) h.u h.l) (Qaa QCQ)
theorem Qp4 {c:Cv} (hc:cP c) {L:Nat} {d:Dv} (hu:u8s d.2) (a k:Int):Qge c L (QaZ c d a k):=by
 have h0:=Qgs hc (d:=d) (L:=L) hu
 obtain ⟨b1,b2,b3⟩:=QaP hc.2.2
 unfold QaZ
 split
 ·exact h0
 ·split
  ·refine ⟨h0.n,Qmf h0.u (by omega) _,?_⟩
   show (List.set _ _ _).length≤_
   rw [List.length_set];exact h0.l
  ·split
   ·refine ⟨h0.n.set ?_ _,h0.u,h0.l⟩
    have:=Int.emod_nonneg (k%256) (b:=Qap c) (by omega)
    have:=Int.emod_lt_of_pos (k%256) (b:=Qap c) (by omega)
    unfold Qao;omega
   ·exact h0
theorem Qp5 {c:Cv} (hc:cP c) {L:Nat} {d:Dv} (h:OkD L d) (a k:Int):Qge c L (QbL c d a k) :=
 Qhn _ (Qp4 hc h.u a k) (Qaa (QCS _ _ _)) (Qaa (QCT _ _ _)) (Qaa (QCU _ _ _)) (Qgt (Qs8 _) (QC1 (Qf9 h.u) _ _) (Nat.le_of_eq ((QAq _ _ _).trans (Qbh _)))) (Qaa (QCW _ _ _)) (Qjt (QCY _ _ _ _) h.u h.l) (Qaa QCQ)
abbrev Qh:Ty:=.pair .str (.pair (.int .i64) (.pair (.int .i64) (.pair (.int .i64) (.sl (.int .u8)))))
abbrev Qx:Ty:=.pair .str .str
abbrev Wr:=ByteArray × ByteArray
abbrev QC2:Ty:=.pair .str (.pair QAe (.pair (.sl Qh) (.sl Qx)))
abbrev gBd:Sig:=⟨true,QC2⟩
abbrev Bd:=ByteArray × Cpu × List Cv × List Wr
def Qdm {α:Type} (p:α→Bool):List α→Nat→Int
 | [],_=>-1
 |x :: r,k=>if p x=true then (k:Int) else Qdm p r (k+1)
def Qby {α:Type} (p:α→Bool) (l:List α):Int:=Qdm p l 0
theorem QC3 {α:Type} {l:List α} {k:Nat} (d:α) (h:k < l.length):l.drop k=l.getD k d :: l.drop (k+1):=by
 rw [List.drop_eq_getElem_cons h,List.getD_eq_getElem?_getD,List.getElem?_eq_getElem h];rfl
theorem Qju {α:Type} {p:α→Bool}:∀ {l:List α} {k:Nat},Qdm p l k=-1∨((k:Int)≤Qdm p l k∧Qdm p l k < k+l.length)
 | [],k=>.inl rfl
 |x :: r,k=>by
   unfold Qdm
   by_cases h:p x=true
   ·rw [if_pos h];right;simp only [List.length_cons];omega
   ·rw [if_neg h]
    rcases Qju (p:=p) (l:=r) (k:=k+1) with h1 |h1
    ·exact .inl h1
    ·right;simp only [List.length_cons];omega
theorem Qjv {α:Type} (p:α→Bool) (l:List α):Qby p l=-1∨(0≤Qby p l∧Qby p l < l.length):=by
 have:=Qju (p:=p) (l:=l) (k:=0)
 unfold Qby
 simpa using this
theorem Qdg {α:Type} {p:α→Bool} {l:List α} {k:Nat} (d:α) (h:k < l.length) (hp:p (l.getD k d)=true) {r:Int} (hi:Qdm p (l.drop k) k=r):(k:Int)=r:=by
 rw [QC3 d h,Qdm,if_pos hp] at hi;exact hi
theorem Qa9 {α:Type} {p:α→Bool} {l:List α} {k:Nat} (d:α) (h:k < l.length) (hp:¬ p (l.getD k d)=true) {r:Int} (hi:Qdm p (l.drop k) k=r):Qdm p (l.drop (k+1)) (k+1)=r:=by
 rw [QC3 d h,Qdm,if_neg hp] at hi;exact hi
theorem Qcu {α:Type} {p:α→Bool} {l:List α} {k:Nat} (h:¬ k < l.length) {r:Int} (hi:Qdm p (l.drop k) k=r):-1=r:=by
 rw [List.drop_of_length_le (by omega)] at hi;exact hi
theorem Qte {α:Type} {p:α→Bool} (d:α):∀ {l:List α} {k:Nat},0≤Qdm p l k→p (l.getD (Qdm p l k-k).toNat d)=true
 | [],k,h=>by simp [Qdm] at h
 |x :: r,k,h=>by
   unfold Qdm at h ⊢
   by_cases hx:p x=true
   ·rw [if_pos hx]
    have:((k:Int)-k).toNat=0:=by omega
    rw [this];exact hx
   ·rw [if_neg hx] at h ⊢
    have h2:=Qte (p:=p) d (l:=r) (k:=k+1) h
    have h3:=Qju (p:=p) (l:=r) (k:=k+1)
    have:(Qdm p r (k+1)-k).toNat=(Qdm p r (k+1)-((k+1:Nat):Int)).toNat+1:=by omega
    rw [this];exact h2
theorem Qwy {α:Type} {p:α→Bool} (d:α) {l:List α} (h:0≤Qby p l):p (l.getD (Qby p l).toNat d)=true:=by
 have:=Qte (p:=p) d (l:=l) (k:=0) h
 have e:(Qdm p l 0-((0:Nat):Int)).toNat=(Qby p l).toNat:=by unfold Qby;omega
 rw [e] at this
 exact this
def QfK (a:Int) (c:Cv):Bool:=decide (c.2.2.1≤a)&&(decide (0 < c.2.2.2.1)&&decide (a-c.2.2.1 < c.2.2.2.1))
def Qv (b:Bd) (a:Int):Int:=Qby (QfK a) b.2.2.1
def atF (b:Bd) (a:Int):Int:=if 0≤Qv b a then a-(b.2.2.1.getD (Qv b a).toNat (dflt Qh)).2.2.1 else 0
def cI (c:Cv):Prop:=i64 c.2.2.1∧i64 c.2.2.2.1
def bP (b:Bd) (a:Int):Prop:=b.2.2.1.length≤4611686018427387904∧i64 a∧∀ c ∈ b.2.2.1,cI c
theorem QQ {α:Type} {l:List α} {k:Nat} (d:α) (h:k < l.length):l.getD k d ∈ l:=by
 rw [List.getD_eq_getElem?_getD,List.getElem?_eq_getElem h];exact List.getElem_mem h
theorem QEm (x:Int):IntKind.u64.wrap x=x%18446744073709551616:=rfl
theorem QC4 {a b s:Int} (ha:i64 a) (hb:i64 b) (hs:i64 s) (h1:a≥b) (h2:s > 0):(IntKind.u64.wrap (IntKind.u64.wrap a-IntKind.u64.wrap b) < IntKind.u64.wrap s) ↔ a-b < s:=by
 unfold i64 at ha hb hs
 rw [QEm,QEm,QEm,QEm]
 omega
theorem QGD {x x' y y':Int} {b b':Bool} (h1:x=x') (h2:y=y') (h3:b=b'):AV.tup [I1 x,I1 y,.c (bv b)]=AV.tup [I1 x',I1 y',.c (bv b')]:=by rw [h1,h2,h3]
def Qyq:Qk:=⟨[gBd,gi],fun (b,a,_)=>(some (bP b a),.tup [I1 (if 0≤Qv b a then Qv b a else 0),I1 (atF b a),.c (bv (decide (0≤Qv b a)))],[])⟩
theorem Qwz:Qi Tryz.prog 93 Qyq.spec:=by
 have hP:Qe Tryz.prog _:=(Qc (T:=tree))
 have hT:=tabs hP Qf
 refine Qyq.good (fn:=Tryz.f93) hT hP Tryz.func93 (by kernel_rfl) rfl fun (b:Bd) (a:Int) hq=>?_
 obtain ⟨hl,ha,hc⟩:bP b a:=hq _ rfl
 obtain ⟨bn,bu,bc,bw⟩:=b
 have hl:bc.length≤4611686018427387904:=hl
 have hc:∀ c ∈ bc,cI c:=hc
 clear hq
 repeat' first |(refine Go.mk ?_;conv=>whnf) |refine Ql.go ?_ ?_ |refine Qm.go (fun _=>?_) (fun _=>?_) |refine Br.dec (fun _=>?_) (fun _=>?_) |refine Br.go (fun _=>?_) (fun _=>?_) |refine Qd hT hP mixed ?_ |refine Qb hT hP ?_
 refine QO hT hP (A:=Unit) bc.length (fun i _=>St.mk (E1 ((I a) :: E5 (E3 ((.cell (.ro Qh bc)) :: (I bc.length) :: (I i) :: E20 (E10 (E1 [])))))) [])
  (fun k _=>Qdm (QfK a) (bc.drop k) k=Qby (QfK a) bc) () (Le.mk [] [] R R R ?_) rfl fun k _ hk hi=>?_
 ·repeat' first |exact trivial |exact ⟨rfl,rfl⟩ |refine And.intro ?_ ?_
 repeat' first |(refine Go.mk ?_;conv=>whnf) |refine Ql.go ?_ ?_ |refine Qm.go (fun _=>?_) (fun _=>?_) |refine Br.dec (fun _=>?_) (fun _=>?_) |refine Br.go (fun _=>?_) (fun _=>?_) |refine Qd hT hP mixed ?_ |refine Qb hT hP ?_
 all_goals (try dsimp only [Qj] at *)
 all_goals clear hT hP
 ·rename_i g1
  have g1:(k:Int) < (bc.length:Int):=g1
  show 0≤(k:Int)∧(k:Int) < (bc.length:Int)
  omega
 ·rename_i g1 g2 g3 g4
  have g1:(k:Int) < (bc.length:Int):=g1
  have hlt:k < bc.length:=by omega
  have hm:=hc _ (QQ (dflt Qh) hlt)
  have g2:a≥(bc.getD k (dflt Qh)).2.2.1:=g2
  have g3:(bc.getD k (dflt Qh)).2.2.2.1 > 0:=g3
  have g4:=(QC4 ha hm.1 hm.2 g2 g3).1 g4
  have hp:QfK a (bc.getD k (dflt Qh))=true:=by
   unfold QfK;rw [decide_eq_true g2,decide_eq_true g3,decide_eq_true g4];rfl
  have e:=Qdg (dflt Qh) hlt hp hi
  have e1:Qv (bn,bu,bc,bw) a=(k:Int):=e.symm
  refine .mk [] [] _ R R R R R R (QGD ?_ ?_ ?_)
  ·show (k:Int)=if 0≤Qv (bn,bu,bc,bw) a then Qv (bn,bu,bc,bw) a else 0
   rw [e1,if_pos (by omega)]
  ·show IntKind.i64.wrap (a-(bc.getD k (dflt Qh)).2.2.1)=atF (bn,bu,bc,bw) a
   unfold atF
   rw [e1,if_pos (by omega)]
   show _=a-(bc.getD k (dflt Qh)).2.2.1
   have h1:=ha.2
   have h2:=hm.1.1
   have h3:=hm.2.2
   unfold i64 at *
   exact w64 (by omega) (by omega)
  ·show true=decide (0≤Qv (bn,bu,bc,bw) a)
   rw [e1];exact (decide_eq_true (by omega)).symm
 ·rename_i g1 g2 g3 g4
  have g1:(k:Int) < (bc.length:Int):=g1
  have hlt:k < bc.length:=by omega
  have hm:=hc _ (QQ (dflt Qh) hlt)
  have g2:a≥(bc.getD k (dflt Qh)).2.2.1:=g2
  have g3:(bc.getD k (dflt Qh)).2.2.2.1 > 0:=g3
  have g4:=fun z=>g4 ((QC4 ha hm.1 hm.2 g2 g3).2 z)
  have hp:¬ QfK a (bc.getD k (dflt Qh))=true:=by
   unfold QfK;rw [decide_eq_false g4];simp
  apply Exists.intro
  apply Exists.intro ()
  refine And.intro (And.intro ?lt132 (And.intro ?ei132 ?inv132)) (Le.mk [] [] R R ?hh132 ?ht132)
  case hh132=>exact rfl
  case ht132=>repeat' first |exact trivial |exact ⟨rfl,rfl⟩ |refine And.intro ?_ ?_
  case lt132=>omega
  case ei132=>exact QW (by omega)
  exact Qa9 (dflt Qh) hlt hp hi
 ·rename_i g1 g2 g3
  have g1:(k:Int) < (bc.length:Int):=g1
  have hlt:k < bc.length:=by omega
  have g3:¬ (bc.getD k (dflt Qh)).2.2.2.1 > 0:=g3
  have hp:¬ QfK a (bc.getD k (dflt Qh))=true:=by
   unfold QfK;rw [decide_eq_false g3];simp
  apply Exists.intro
  apply Exists.intro ()
  refine And.intro (And.intro ?lt146 (And.intro ?ei146 ?inv146)) (Le.mk [] [] R R ?hh146 ?ht146)
  case hh146=>exact rfl
  case ht146=>repeat' first |exact trivial |exact ⟨rfl,rfl⟩ |refine And.intro ?_ ?_
  case lt146=>omega
  case ei146=>exact QW (by omega)
  exact Qa9 (dflt Qh) hlt hp hi
 ·rename_i g1 g2
  have g1:(k:Int) < (bc.length:Int):=g1
  have hlt:k < bc.length:=by omega
  have g2:¬ a≥(bc.getD k (dflt Qh)).2.2.1:=g2
  have hp:¬ QfK a (bc.getD k (dflt Qh))=true:=by
   unfold QfK;rw [decide_eq_false g2];simp
  apply Exists.intro
  apply Exists.intro ()
  refine And.intro (And.intro ?lt160 (And.intro ?ei160 ?inv160)) (Le.mk [] [] R R ?hh160 ?ht160)
  case hh160=>exact rfl
  case ht160=>repeat' first |exact trivial |exact ⟨rfl,rfl⟩ |refine And.intro ?_ ?_
  case lt160=>omega
  case ei160=>exact QW (by omega)
  exact Qa9 (dflt Qh) hlt hp hi
 ·rename_i g1
  have g1:¬ (k:Int) < (bc.length:Int):=g1
  have e:=Qcu (by omega) hi
  have e1:Qv (bn,bu,bc,bw) a=-1:=e.symm
  refine .mk [] [] _ R R R R R R (QGD ?_ ?_ ?_)
  ·show 0=if 0≤Qv (bn,bu,bc,bw) a then Qv (bn,bu,bc,bw) a else 0
   rw [e1];rfl
  ·show 0=atF (bn,bu,bc,bw) a
   unfold atF
   rw [e1];rfl
  ·show false=decide (0≤Qv (bn,bu,bc,bw) a)
   rw [e1];rfl
theorem Qjw {a b s:Int} (ha:i64 a) (hb:i64 b) (hs:i64 s) (h1:a≥b) (h2:s > 0):(a≤IntKind.i64.wrap (IntKind.i64.wrap (b+s)-1)∨IntKind.i64.wrap (IntKind.i64.wrap (b+s)-1) < b) ↔ a-b < s:=by
 unfold i64 at ha hb hs
 rw [IntKind.wrap_i64,IntKind.wrap_i64]
 omega
def Qtf:Qk:=⟨[gBd,gi],fun (b,a,_)=>(some (bP b a),I (Qv b a),[])⟩
theorem Qtg:Qi Tryz.prog 75 Qtf.spec:=by
 have hP:Qe Tryz.prog _:=(Qc (T:=tree))
 have hT:=tabs hP Qf
 refine Qtf.good (fn:=Tryz.f75) hT hP Tryz.func75 (by kernel_rfl) rfl fun (b:Bd) (a:Int) hq=>?_
 obtain ⟨hl,ha,hc⟩:bP b a:=hq _ rfl
 obtain ⟨bn,bu,bc,bw⟩:=b
 have hl:bc.length≤4611686018427387904:=hl
 have hc:∀ c ∈ bc,cI c:=hc
 clear hq
 repeat' first |(refine Go.mk ?_;conv=>whnf) |refine Ql.go ?_ ?_ |refine Qm.go (fun _=>?_) (fun _=>?_) |refine Br.dec (fun _=>?_) (fun _=>?_) |refine Br.go (fun _=>?_) (fun _=>?_) |refine Qd hT hP mixed ?_ |refine Qb hT hP ?_
 refine QO hT hP (A:=Unit) bc.length (fun i _=>St.mk (E1 ((I a) :: E5 (E2 ((.cell (.ro Qh bc)) :: (I bc.length) :: (I i) :: E20 (E10 (E2 [])))))) [])
  (fun k _=>Qdm (QfK a) (bc.drop k) k=Qby (QfK a) bc) () (Le.mk [] [] R R R ?_) rfl fun k _ hk hi=>?_
 ·repeat' first |exact trivial |exact ⟨rfl,rfl⟩ |refine And.intro ?_ ?_
 repeat' first |(refine Go.mk ?_;conv=>whnf) |refine Ql.go ?_ ?_ |refine Qm.go (fun _=>?_) (fun _=>?_) |refine Br.dec (fun _=>?_) (fun _=>?_) |refine Br.go (fun _=>?_) (fun _=>?_) |refine Qd hT hP mixed ?_ |refine Qb hT hP ?_
 all_goals (try dsimp only [Qj] at *)
 all_goals clear hT hP
 ·rename_i g1
  have g1:(k:Int) < (bc.length:Int):=g1
  show 0≤(k:Int)∧(k:Int) < (bc.length:Int)
  omega
 ·rename_i g1 g2 g3 g4
  have g1:(k:Int) < (bc.length:Int):=g1
  have hlt:k < bc.length:=by omega
  have hm:=hc _ (QQ (dflt Qh) hlt)
  have g2:(bc.getD k (dflt Qh)).2.2.2.1 > 0:=g2
  have g3:(bc.getD k (dflt Qh)).2.2.1≤a:=g3
  have g4:=(Qjw ha hm.1 hm.2 g3 g2).1 (.inl g4)
  have hp:QfK a (bc.getD k (dflt Qh))=true:=by
   unfold QfK;rw [decide_eq_true g3,decide_eq_true g2,decide_eq_true g4];rfl
  exact .mk [] [] _ R R R R R R (Qg (Qdg (dflt Qh) hlt hp hi))
 ·rename_i g1 g2 g3 g4 g5
  have g1:(k:Int) < (bc.length:Int):=g1
  have hlt:k < bc.length:=by omega
  have hm:=hc _ (QQ (dflt Qh) hlt)
  have g2:(bc.getD k (dflt Qh)).2.2.2.1 > 0:=g2
  have g3:(bc.getD k (dflt Qh)).2.2.1≤a:=g3
  have g4:=(Qjw ha hm.1 hm.2 g3 g2).1 (.inr g5)
  have hp:QfK a (bc.getD k (dflt Qh))=true:=by
   unfold QfK;rw [decide_eq_true g3,decide_eq_true g2,decide_eq_true g4];rfl
  exact .mk [] [] _ R R R R R R (Qg (Qdg (dflt Qh) hlt hp hi))
 ·rename_i g1 g2 g3 g4 g5
  have g1:(k:Int) < (bc.length:Int):=g1
  have hlt:k < bc.length:=by omega
  have hm:=hc _ (QQ (dflt Qh) hlt)
  have g2:(bc.getD k (dflt Qh)).2.2.2.1 > 0:=g2
  have g3:(bc.getD k (dflt Qh)).2.2.1≤a:=g3
  have g6:=fun z=>((Qjw ha hm.1 hm.2 g3 g2).2 z).elim g4 g5
  have hp:¬ QfK a (bc.getD k (dflt Qh))=true:=by
   unfold QfK;rw [decide_eq_false g6];simp
  apply Exists.intro
  apply Exists.intro ()
  refine And.intro (And.intro ?lt235 (And.intro ?ei235 ?inv235)) (Le.mk [] [] R R ?hh235 ?ht235)
  case hh235=>exact rfl
  case ht235=>repeat' first |exact trivial |exact ⟨rfl,rfl⟩ |refine And.intro ?_ ?_
  case lt235=>omega
  case ei235=>exact QW (by omega)
  exact Qa9 (dflt Qh) hlt hp hi
 ·rename_i g1 g2 g3
  have g1:(k:Int) < (bc.length:Int):=g1
  have hlt:k < bc.length:=by omega
  have hm:=hc _ (QQ (dflt Qh) hlt)
  have g3:¬ (bc.getD k (dflt Qh)).2.2.1≤a:=g3
  have hp:¬ QfK a (bc.getD k (dflt Qh))=true:=by
   unfold QfK;rw [decide_eq_false g3];simp
  apply Exists.intro
  apply Exists.intro ()
  refine And.intro (And.intro ?lt250 (And.intro ?ei250 ?inv250)) (Le.mk [] [] R R ?hh250 ?ht250)
  case hh250=>exact rfl
  case ht250=>repeat' first |exact trivial |exact ⟨rfl,rfl⟩ |refine And.intro ?_ ?_
  case lt250=>omega
  case ei250=>exact QW (by omega)
  exact Qa9 (dflt Qh) hlt hp hi
 ·rename_i g1 g2
  have g1:(k:Int) < (bc.length:Int):=g1
  have hlt:k < bc.length:=by omega
  have hm:=hc _ (QQ (dflt Qh) hlt)
  have g2:¬ (bc.getD k (dflt Qh)).2.2.2.1 > 0:=g2
  have hp:¬ QfK a (bc.getD k (dflt Qh))=true:=by
   unfold QfK;rw [decide_eq_false g2];simp
  apply Exists.intro
  apply Exists.intro ()
  refine And.intro (And.intro ?lt265 (And.intro ?ei265 ?inv265)) (Le.mk [] [] R R ?hh265 ?ht265)
  case hh265=>exact rfl
  case ht265=>repeat' first |exact trivial |exact ⟨rfl,rfl⟩ |refine And.intro ?_ ?_
  case lt265=>omega
  case ei265=>exact QW (by omega)
  exact Qa9 (dflt Qh) hlt hp hi
 ·rename_i g1
  have g1:¬ (k:Int) < (bc.length:Int):=g1
  exact .mk [] [] _ R R R R R R (Qg (Qcu (by omega) hi))
def Qho (k:Int):Bool:=decide (k=3)||(decide (k=5)||decide (k=8))
def QwA:Qk:=⟨[gi],fun (k,_)=>(none,.cell (bv (Qho k)),[])⟩
theorem QoI:Qi Tryz.prog 122 QwA.spec:=by
 have hP:Qe Tryz.prog _:=(Qc (T:=tree))
 have hT:=tabs hP Qf
 refine QwA.good (fn:=Tryz.f122) hT hP Tryz.func122 (by kernel_rfl) rfl fun (k:Int) _=>?_
 repeat' first |(refine Go.mk ?_;conv=>whnf) |refine Ql.go ?_ ?_ |refine Qm.go (fun _=>?_) (fun _=>?_) |refine Br.dec (fun _=>?_) (fun _=>?_) |refine Br.go (fun _=>?_) (fun _=>?_) |refine Qd hT hP mixed ?_ |refine Qb hT hP ?_
 all_goals (refine .mk [] [] _ R R R R R R (Qo ?_))
 all_goals (show _=(decide (k=3)||(decide (k=5)||decide (k=8))))
 all_goals clear hT hP
 all_goals (dsimp only [gi,Den] at *)
 all_goals (simp_all)
 all_goals (by_cases h:k=8<;>simp [h])
theorem Qeh:Qi Tryz.prog 56 QwA.spec:=by
 have hP:Qe Tryz.prog _:=Qa QmE (Qc (T:=tree))
 have hT:=tabs hP Qf
 refine QwA.good (fn:=Tryz.f56) hT hP Tryz.func56 (by kernel_rfl) rfl fun (k:Int) _=>?_
 repeat' first |(refine Go.mk ?_;conv=>whnf) |refine Ql.go ?_ ?_ |refine Qm.go (fun _=>?_) (fun _=>?_) |refine Br.dec (fun _=>?_) (fun _=>?_) |refine Br.go (fun _=>?_) (fun _=>?_) |refine Qd hT hP mixed ?_ |refine Qb hT hP ?_
 all_goals first
  |exact of_decide_eq_true rfl
  |skip
 refine .mk [] [] _ R R R R R R (Qo ?_)
 show ([3,5,8].any fun a=>decide (k=a))=_
 simp only [List.any_cons,List.any_nil,Bool.or_false]
 rfl
theorem QoJ {α:Type} (p:α→Bool):∀ (l:List α) (k:Nat),decide (Qdm p l k≥0)=l.any p
 | [],k=>rfl
 |x :: r,k=>by
   unfold Qdm
   by_cases h:p x=true
   ·rw [if_pos h,List.any_cons,h,decide_eq_true (by omega)];rfl
   ·rw [if_neg h,List.any_cons,QoJ p r (k+1)]
    have:p x=false:=by simpa using h
    rw [this];rfl
theorem Qhp {α:Type} (p:α→Bool) (l:List α):decide (Qby p l≥0)=l.any p:=QoJ p l 0
def Qgu:ByteArray:=⟨#[46,105,114,113]⟩
def Qa1:ByteArray:=⟨#[99,112,117,46,105,114,113]⟩
def QcR (c:Cv) (w:Wr):Bool:=bif Qs w.1 (c.1++Qgu) then Qs w.2 Qa1 else false
def Qir (c:Cv):Prop:=c.1.size < 4611686018427387900
structure loX where
 l:List Wr
 d:ByteArray
def QAu:List V1→List Blk→Option (Wr × Cv):=fun a b=>match a,b with
 | [.agg [.imm (.string wa),.imm (.string wb)],.c (.ptr 0 0)],[.var [.imm (.string cn),.imm (.int .i64 ck),.imm (.int .i64 cb),.imm (.int .i64 cs),.ro (.int .u8) cd]]=>some ((wa,wb),(cn,ck,cb,cs,cd))
 |_,_=>none
theorem QwB {a:List V1} {b:List Blk} {x:Wr × Cv} (h:QAu a b=some x):a=[.agg [.imm (.string x.1.1),.imm (.string x.1.2)],.c (.ptr 0 0)]∧b=[.var [.imm (.string x.2.1),iv .i64 x.2.2.1,iv .i64 x.2.2.2.1,iv .i64 x.2.2.2.2.1,.ro (.int .u8) x.2.2.2.2.2]]:=by
 unfold QAu at h
 split at h
 ·injection h with h;subst h;exact ⟨rfl,rfl⟩
 ·cases h
def QGE:QaV:=⟨Wr × Cv,fun x=>[.agg [.imm (.string x.1.1),.imm (.string x.1.2)],.c (.ptr 0 0)],fun x=>[.var [.imm (.string x.2.1),iv .i64 x.2.2.1,iv .i64 x.2.2.2.1,iv .i64 x.2.2.2.2.1,.ro (.int .u8) x.2.2.2.2.2]],QAu,
 fun x=>(some ((Qir) x.2),.cell (bv (QcR x.2 x.1)),[some (.var [.imm (.string x.2.1),iv .i64 x.2.2.1,iv .i64 x.2.2.2.1,iv .i64 x.2.2.2.2.1,.ro (.int .u8) x.2.2.2.2.2])],[])⟩
theorem QC5:Qi Tryz.prog 124 QGE.spec:=by
 have hP:Qe Tryz.prog _:=(Qc (T:=tree))
 have hT:=tabs hP Qf
 refine QGE.good (fn:=Tryz.f124) hT hP Tryz.func124 (by kernel_rfl) rfl (fun _ _ _ h=>QwB h) fun (x:Wr × Cv) hq=>?_
 have hq:(Qir) x.2:=hq _ rfl
 repeat' first |(refine Go.mk ?_;conv=>whnf) |refine Ql.go ?_ ?_ |refine Qm.go (fun _=>?_) (fun _=>?_) |refine Br.dec (fun _=>?_) (fun _=>?_) |refine Br.go (fun _=>?_) (fun _=>?_) |refine Qd hT hP mixed ?_ |refine Qb hT hP ?_
 all_goals clear hT hP
 all_goals first
  |(show x.2.1.size+4 < 4611686018427387904
     have hq:x.2.1.size < 4611686018427387900:=hq
     omega)
  |exact .mk [] [0] _ R R R R R R R
  |(rename_i g
     have g:Qs x.1.1 (x.2.1++Qgu)=true:=g
     refine .mk [] [0] _ R R R R R R (Qo ?_)
     show _=bif Qs x.1.1 (x.2.1++Qgu) then Qs x.1.2 Qa1 else false
     rw [g];rfl)
  |(rename_i g
     have g:Qs x.1.1 (x.2.1++Qgu)=false:=g
     refine .mk [] [0] _ R R R R R R (Qo ?_)
     show _=bif Qs x.1.1 (x.2.1++Qgu) then Qs x.1.2 Qa1 else false
     rw [g];rfl)
  |skip
structure heX where
 l:List Wr
 d:Cv
def QEn:List V1→List Blk→Option heX:=fun a b=>match a,b with
 | [.c (.ro (.pair .str .str) l),.c (.fn 124 [0])],[.var [.imm (.string cn),.imm (.int .i64 ck),.imm (.int .i64 cb),.imm (.int .i64 cs),.ro (.int .u8) cd]]=>some ⟨l,(cn,ck,cb,cs,cd)⟩
 |_,_=>none
theorem Qth {a:List V1} {b:List Blk} {x:heX} (h:QEn a b=some x):a=[.c (.ro Qx x.l),.c (.fn 124 [0])]∧b=[.var [.imm (.string x.d.1),iv .i64 x.d.2.1,iv .i64 x.d.2.2.1,iv .i64 x.d.2.2.2.1,.ro (.int .u8) x.d.2.2.2.2]]:=by
 unfold QEn at h
 split at h
 ·injection h with h;subst h;exact ⟨rfl,rfl⟩
 ·cases h
def QGF:QaV:=⟨heX,fun x=>[.c (.ro Qx x.l),.c (.fn 124 [0])],fun x=>[.var [.imm (.string x.d.1),iv .i64 x.d.2.1,iv .i64 x.d.2.2.1,iv .i64 x.d.2.2.2.1,.ro (.int .u8) x.d.2.2.2.2]],QEn,
 fun x=>(some (x.l.length≤4611686018427387904∧(Qir) x.d),I (Qby (QcR x.d) x.l),[some (.var [.imm (.string x.d.1),iv .i64 x.d.2.1,iv .i64 x.d.2.2.1,iv .i64 x.d.2.2.2.1,.ro (.int .u8) x.d.2.2.2.2])],[])⟩
theorem QC6:Qi Tryz.prog 201 QGF.spec:=by
 have hP:Qe Tryz.prog _:=Qa QC5 (Qc (T:=tree))
 have hT:=tabs hP Qf
 refine QGF.good (fn:=Tryz.f201) hT hP Tryz.func201 (by kernel_rfl) rfl (fun _ _ _ h=>Qth h) fun (x:heX) hq=>?_
 obtain ⟨hl,hq⟩:x.l.length≤4611686018427387904∧(Qir) x.d:=hq _ rfl
 obtain ⟨l,d⟩:=x
 have hl:l.length≤4611686018427387904:=hl
 repeat' first |(refine Go.mk ?_;conv=>whnf) |refine Ql.go ?_ ?_ |refine Qm.go (fun _=>?_) (fun _=>?_) |refine Br.dec (fun _=>?_) (fun _=>?_) |refine Br.go (fun _=>?_) (fun _=>?_) |refine Qd hT hP mixed ?_ |refine Qb hT hP ?_
 refine QO hT hP (A:=Unit) l.length (fun i _=>St.mk ((.cell (.ro Qx l)) :: (.cell (.fn 124 [0])) :: E5 ((I l.length) :: (I i) :: E10 [])) [some (.var [.imm (.string d.1),iv .i64 d.2.1,iv .i64 d.2.2.1,iv .i64 d.2.2.2.1,.ro (.int .u8) d.2.2.2.2])])
  (fun k _=>Qdm (QcR d) (l.drop k) k=Qby (QcR d) l) () (Le.mk [] [0] R R R ?_) rfl fun k _ hk hi=>?_
 ·repeat' first |exact trivial |exact ⟨rfl,rfl⟩ |refine And.intro ?_ ?_
 repeat' first |(refine Go.mk ?_;conv=>whnf) |refine Ql.go ?_ ?_ |refine Qm.go (fun _=>?_) (fun _=>?_) |refine Br.dec (fun _=>?_) (fun _=>?_) |refine Br.go (fun _=>?_) (fun _=>?_) |refine Qd hT hP mixed ?_ |refine Qb hT hP ?_
 all_goals clear hT hP
 ·rename_i g1
  have g1:(k:Int) < (l.length:Int):=g1
  show 0≤(k:Int)∧(k:Int) < (l.length:Int)
  omega
 ·first |exact hq |exact trivial
 ·rename_i g1 g2
  have g1:(k:Int) < (l.length:Int):=g1
  exact .mk [] [0] _ R R R R R R (Qg (Qdg (dflt Qx) (by omega) g2 hi))
 ·rename_i g1 g2
  have g1:(k:Int) < (l.length:Int):=g1
  have hp:¬ QcR d (l.getD k (dflt Qx))=true:=by
   have g2:QcR d (l.getD k (dflt Qx))=false:=g2
   rw [g2];decide
  apply Exists.intro
  apply Exists.intro ()
  refine And.intro (And.intro ?lt181 (And.intro ?ei181 ?inv181)) (Le.mk [] [0] R R ?hh181 ?ht181)
  case hh181=>exact rfl
  case ht181=>repeat' first |exact trivial |exact ⟨rfl,rfl⟩ |refine And.intro ?_ ?_
  case lt181=>omega
  case ei181=>exact QW (by omega)
  exact Qa9 (dflt Qx) (by omega) hp hi
 ·rename_i g1
  have g1:¬ (k:Int) < (l.length:Int):=g1
  exact .mk [] [0] _ R R R R R R (Qg (Qcu (by omega) hi))
def QGG:QaV:=⟨heX,fun x=>[.c (.ro Qx x.l),.c (.fn 124 [0])],fun x=>[.var [.imm (.string x.d.1),iv .i64 x.d.2.1,iv .i64 x.d.2.2.1,iv .i64 x.d.2.2.2.1,.ro (.int .u8) x.d.2.2.2.2]],QEn,
 fun x=>(some (x.l.length≤4611686018427387904∧(Qir) x.d),.cell (bv (x.l.any (QcR x.d))),[some (.var [.imm (.string x.d.1),iv .i64 x.d.2.1,iv .i64 x.d.2.2.1,iv .i64 x.d.2.2.2.1,.ro (.int .u8) x.d.2.2.2.2])],[])⟩
theorem QC7:Qi Tryz.prog 123 QGG.spec:=by
 have hP:Qe Tryz.prog _:=Qa QC6 (Qc (T:=tree))
 have hT:=tabs hP Qf
 refine QGG.good (fn:=Tryz.f123) hT hP Tryz.func123 (by kernel_rfl) rfl (fun _ _ _ h=>Qth h) fun (x:heX) hq=>?_
 have hq:x.l.length≤4611686018427387904∧(Qir) x.d:=hq _ rfl
 obtain ⟨l,d⟩:=x
 repeat' first |(refine Go.mk ?_;conv=>whnf) |refine Ql.go ?_ ?_ |refine Qm.go (fun _=>?_) (fun _=>?_) |refine Br.dec (fun _=>?_) (fun _=>?_) |refine Br.go (fun _=>?_) (fun _=>?_) |refine Qd hT hP mixed ?_ |refine Qb hT hP ?_
 all_goals clear hT hP
 ·first |exact hq |exact trivial
 ·exact .mk [] [0] _ R R R R R R (Qo (Qhp (QcR d) l))
structure bfX where
 l:List Wr
 d:Cv
theorem QH {x y:ByteArray}:Qs x y=true ↔ x=y:=Lib.bytes_beq_iff x y
theorem QtE {x y:Wr}:QF Qx x y=true ↔ x=y:=⟨fun h=>Qc5 (u:=Qx) rfl h,fun h=>by subst h;show (Qs x.1 x.1&&Qs x.2 x.2)=true;rw [QH.2 rfl,QH.2 rfl];rfl⟩
abbrev gWr:Sig:=⟨true,Qx⟩
def QcC (v w:Wr):Bool:=QF Qx v w
def QDv:Qk:=⟨[⟨false,.sl Qx⟩,gWr],fun (l,v,_)=>(some (List.length l≤4611686018427387904),I (Qby (QcC v) l),[])⟩
theorem QAS:Qi Tryz.prog 106 QDv.spec:=by
 have hP:Qe Tryz.prog _:=(Qc (T:=tree))
 have hT:=tabs hP Qf
 refine QDv.good (fn:=Tryz.f106) hT hP Tryz.func106 (by kernel_rfl) rfl fun (l:List Wr) (v:Wr) hq=>?_
 have hl:l.length≤4611686018427387904:=hq _ rfl
 obtain ⟨va,vb⟩:=v
 clear hq
 repeat' first |(refine Go.mk ?_;conv=>whnf) |refine Ql.go ?_ ?_ |refine Qm.go (fun _=>?_) (fun _=>?_) |refine Br.dec (fun _=>?_) (fun _=>?_) |refine Br.go (fun _=>?_) (fun _=>?_) |refine Qd hT hP mixed ?_ |refine Qb hT hP ?_
 refine QO hT hP (A:=Unit) l.length (fun i _=>St.mk ((.cell (.ro Qx l)) :: E2 ((.cell (.ptr 0 0)) :: E3 ((I l.length) :: (I i) :: E10 []))) [some (.var [.imm (.string va),.imm (.string vb)])])
  (fun k _=>Qdm (QcC (va,vb)) (l.drop k) k=Qby (QcC (va,vb)) l) () (Le.mk [] [0] R R R ?_) rfl fun k _ hk hi=>?_
 ·repeat' first |exact trivial |exact ⟨rfl,rfl⟩ |refine And.intro ?_ ?_
 repeat' first |(refine Go.mk ?_;conv=>whnf) |refine Ql.go ?_ ?_ |refine Qm.go (fun _=>?_) (fun _=>?_) |refine Br.dec (fun _=>?_) (fun _=>?_) |refine Br.go (fun _=>?_) (fun _=>?_) |refine Qd hT hP mixed ?_ |refine Qb hT hP ?_
 all_goals clear hT hP
 ·rename_i g1
  have g1:(k:Int) < (l.length:Int):=g1
  show 0≤(k:Int)∧(k:Int) < (l.length:Int)
  omega
 ·rename_i g1 g2
  have g1:(k:Int) < (l.length:Int):=g1
  exact .mk [] [] _ R R R R R R (Qg (Qdg (dflt Qx) (by omega) g2 hi))
 ·rename_i g1 g2
  have g1:(k:Int) < (l.length:Int):=g1
  have hp:¬ QcC (va,vb) (l.getD k (dflt Qx))=true:=by
   have g2:QcC (va,vb) (l.getD k (dflt Qx))=false:=g2
   rw [g2];decide
  apply Exists.intro
  apply Exists.intro ()
  refine And.intro (And.intro ?lt193 (And.intro ?ei193 ?inv193)) (Le.mk [] [0] R R ?hh193 ?ht193)
  case hh193=>exact rfl
  case ht193=>repeat' first |exact trivial |exact ⟨rfl,rfl⟩ |refine And.intro ?_ ?_
  case lt193=>omega
  case ei193=>exact QW (by omega)
  exact Qa9 (dflt Qx) (by omega) hp hi
 ·rename_i g1
  have g1:¬ (k:Int) < (l.length:Int):=g1
  exact .mk [] [] _ R R R R R R (Qg (Qcu (by omega) hi))
def QDw:Qk:=⟨[⟨false,.sl Qx⟩,gWr],fun (l,v,_)=>(some (List.length l≤4611686018427387904),.cell (bv (l.any (QcC v))),[])⟩
theorem QtF:Qi Tryz.prog 57 QDw.spec:=by
 have hP:Qe Tryz.prog _:=Qa QAS (Qc (T:=tree))
 have hT:=tabs hP Qf
 refine QDw.good (fn:=Tryz.f57) hT hP Tryz.func57 (by kernel_rfl) rfl fun (l:List Wr) (v:Wr) hq=>?_
 have hl:l.length≤4611686018427387904:=hq _ rfl
 obtain ⟨va,vb⟩:=v
 clear hq
 repeat' first |(refine Go.mk ?_;conv=>whnf) |refine Ql.go ?_ ?_ |refine Qm.go (fun _=>?_) (fun _=>?_) |refine Br.dec (fun _=>?_) (fun _=>?_) |refine Br.go (fun _=>?_) (fun _=>?_) |refine Qd hT hP mixed ?_ |refine Qb hT hP ?_
 all_goals clear hT hP
 ·exact hl
 ·exact .mk [] [] _ R R R R R R (Qo (Qhp (QcC (va,vb)) l))
def bdP (b:Bd):Prop:=(b.2.2.1.length*64≤140737488351232∧b.2.2.2.length*32≤140737488351232)∧∀ c ∈ b.2.2.1,cP c∧c.1.size≤140737488351232
theorem Qlp {α:Type} {l:List α} {k:Nat} (d:α) (h:k < l.length):l.take (k+1)=l.take k++[l.getD k d]:=by
 rw [List.take_add_one,List.getD_eq_getElem?_getD,List.getElem?_eq_getElem h];rfl
def Qa2 (w:List Wr) (l:List Cv):List Bool:=l.map fun c=>Qho c.2.1&&w.any (QcR c)
theorem QcT (w:List Wr) (l:List Cv):(Qa2 w l).length=l.length:=List.length_map ..
def Qfa (w:List Wr) (l:List Cv) (k:Nat):List Bool:=Qa2 w (l.take k)++List.replicate (l.length-k) false
theorem Qis {w:List Wr} {l:List Cv} {k:Nat} (h:k < l.length) {b:Bool} (hb:(Qho (l.getD k (dflt Qh)).2.1&&w.any (QcR (l.getD k (dflt Qh))))=b):(Qfa w l k).set k b=Qfa w l (k+1):=by
 have hl:(Qa2 w (l.take k)).length=k:=by rw [QcT,List.length_take];omega
 have e:l.length-k=(l.length-(k+1))+1:=by omega
 unfold Qfa
 rw [e,List.replicate_succ,List.set_append,if_neg (by omega),hl,Nat.sub_self,List.set_cons_zero,Qlp (dflt Qh) h]
 unfold Qa2
 rw [List.map_append,List.map_cons,List.map_nil,hb]
 simp
theorem Qd4 (w:List Wr) (l:List Cv) {k:Nat} (h:k≤l.length):(Qfa w l k).length=l.length:=by
 unfold Qfa;rw [List.length_append,QcT,List.length_take,List.length_replicate];omega
def QoR:Qk:=⟨[gBd],fun (b,_)=>(some (bdP b),.cell (.own 0),[.arr .bool (Qa2 b.2.2.2 b.2.2.1)])⟩
theorem QtG:Qi Tryz.prog 66 QoR.spec:=by
 have hP:Qe Tryz.prog _:=Qa QoI (Qa QC7 (Qc (T:=tree)))
 have hT:=tabs hP Qf
 refine QoR.good (fn:=Tryz.f66) hT hP Tryz.func66 (by kernel_rfl) rfl fun (b:Bd) hq=>?_
 obtain ⟨⟨hl,hw⟩,hc⟩:bdP b:=hq _ rfl
 obtain ⟨bn,⟨un,ui,ur,uq,um⟩,bc,bw⟩:=b
 have hl:bc.length*64≤140737488351232:=hl
 have hw:bw.length*32≤140737488351232:=hw
 have hc:∀ c ∈ bc,cP c∧c.1.size≤140737488351232:=hc
 clear hq
 repeat' first |(refine Go.mk ?_;conv=>whnf) |refine Ql.go ?_ ?_ |refine Qm.go (fun _=>?_) (fun _=>?_) |refine Br.dec (fun _=>?_) (fun _=>?_) |refine Br.go (fun _=>?_) (fun _=>?_) |refine Qd hT hP mixed ?_ |refine Qb hT hP ?_
 ·show (bc.length:Int)=bc.length∧0≤(bc.length:Int)∧(bc.length:Int)*1≤281474976710656∧(bc.length:Int)≤281474976710656
  omega
 refine QO hT hP (A:=List Bool) bc.length (fun i o=>St.mk (E1 ((.cell (.ptr 0 0)) :: E1 ((.cell (.own 1)) :: E5 (E2 ((.cell (.ro Qh bc)) :: (I bc.length) :: (I i) :: E10 (E5 (E3 [])))))))
  [some (.var [.imm (.string bn),.imm (.string un),.ro Qaw ui,.ro QA ur,.ro QA uq,.ro QA um,.ro Qh bc,.ro Qx bw]),some (.arr .bool o)])
  (fun k o=>o=Qfa bw bc k) (List.replicate (bc.length:Int).toNat false) (Le.mk [] [0,1] R R ?_ ?_) (by unfold Qfa Qa2;simp) fun k o hk hi=>?_
 ·exact rfl
 ·repeat' first |exact trivial |exact ⟨rfl,rfl⟩ |refine And.intro ?_ ?_
 repeat' first |(refine Go.mk ?_;conv=>whnf) |refine Ql.go ?_ ?_ |refine Qm.go (fun _=>?_) (fun _=>?_) |refine Br.dec (fun _=>?_) (fun _=>?_) |refine Br.go (fun _=>?_) (fun _=>?_) |refine Qd hT hP mixed ?_ |refine Qb hT hP ?_
 all_goals (try dsimp only [Qj] at *)
 all_goals clear hT hP
 ·rename_i g1
  have g1:(k:Int) < (bc.length:Int):=g1
  show 0≤(k:Int)∧(k:Int) < (bc.length:Int)
  omega
 ·rename_i g1 g2
  have g1:(k:Int) < (bc.length:Int):=g1
  have:=(hc _ (QQ (dflt Qh) (show k < bc.length by omega))).2
  refine ⟨by omega,?_⟩
  show (bc.getD k (dflt Qh)).1.size < 4611686018427387900
  omega
 ·rename_i g1 g2
  have g1:(k:Int) < (bc.length:Int):=g1
  have:=Qd4 bw bc hk
  show 0≤(k:Int)∧(k:Int) < (o.length:Int)
  rw [hi];omega
 ·rename_i g1 g2
  have g1:(k:Int) < (bc.length:Int):=g1
  have:=Qd4 bw bc hk
  show k < o.length
  rw [hi];omega
 ·rename_i g1 g2
  have g1:(k:Int) < (bc.length:Int):=g1
  have g2:Qho (bc.getD k (dflt Qh)).2.1=true:=g2
  apply Exists.intro
  apply Exists.intro _
  refine And.intro (And.intro ?lt165 (And.intro ?ei165 ?inv165)) (Le.mk [] [0,1] R R ?hh165 ?ht165)
  case hh165=>exact rfl
  case ht165=>repeat' first |exact trivial |exact ⟨rfl,rfl⟩ |refine And.intro ?_ ?_
  case lt165=>omega
  case ei165=>exact QW (by omega)
  rw [hi];exact Qis (by omega) (by rw [g2];rfl)
 ·rename_i g1 g2
  have g1:(k:Int) < (bc.length:Int):=g1
  have:=Qd4 bw bc hk
  show 0≤(k:Int)∧(k:Int) < (o.length:Int)
  rw [hi];omega
 ·rename_i g1 g2
  have g1:(k:Int) < (bc.length:Int):=g1
  have:=Qd4 bw bc hk
  show k < o.length
  rw [hi];omega
 ·rename_i g1 g2
  have g1:(k:Int) < (bc.length:Int):=g1
  have g2:Qho (bc.getD k (dflt Qh)).2.1=false:=g2
  apply Exists.intro
  apply Exists.intro _
  refine And.intro (And.intro ?lt186 (And.intro ?ei186 ?inv186)) (Le.mk [] [0,1] R R ?hh186 ?ht186)
  case hh186=>exact rfl
  case ht186=>repeat' first |exact trivial |exact ⟨rfl,rfl⟩ |refine And.intro ?_ ?_
  case lt186=>omega
  case ei186=>exact QW (by omega)
  rw [hi];exact Qis (by omega) (by rw [g2];rfl)
 ·rename_i g1
  have g1:¬ (k:Int) < (bc.length:Int):=g1
  refine .mk [] [1] _ R R R R R ?_ rfl
  have e:k=bc.length:=by omega
  have e2:Qfa bw bc k=Qa2 bw bc:=by
   unfold Qfa;rw [e,List.take_length,Nat.sub_self];simp
  rw [hi,e2];rfl
theorem Qhu {w:List Wr} {l:List Cv} {k:Nat} (h:k < l.length) {b:Bool} (hb:(Qho (l.getD k (dflt Qh)).2.1&&w.any (QcR (l.getD k (dflt Qh))))=b):Qa2 w (l.take k)++[b]=Qa2 w (l.take (k+1)):=by
 unfold Qa2
 rw [Qlp (dflt Qh) h,List.map_append,List.map_cons,List.map_nil,hb]
theorem Qp8 (c:Cv) (w:List Wr):w.any (QcR c)=w.any (QcC (c.1++Qgu,Qa1)):=by
 have e:QcR c=QcC (c.1++Qgu,Qa1):=by
  funext x
  have h1:Qs x.1 (c.1++Qgu)=Qs (c.1++Qgu) x.1:=by
   rw [Bool.eq_iff_iff,QH,QH];exact eq_comm
  have h2:Qs x.2 Qa1=Qs Qa1 x.2:=by
   rw [Bool.eq_iff_iff,QH,QH];exact eq_comm
  show (bif Qs x.1 (c.1++Qgu) then Qs x.2 Qa1 else false)=(Qs (c.1++Qgu) x.1&&Qs Qa1 x.2)
  rw [h1,h2]
  cases Qs (c.1++Qgu) x.1<;>rfl
 rw [e]
theorem QmH:Qi Tryz.prog 15 QoR.spec:=by
 have hP:Qe Tryz.prog _:=Qa Qeh (Qa QtF (Qc (T:=tree)))
 have hT:=tabs hP Qf
 refine QoR.good (fn:=Tryz.f15) hT hP Tryz.func15 (by kernel_rfl) rfl fun (b:Bd) hq=>?_
 obtain ⟨⟨hl,hw⟩,hc⟩:bdP b:=hq _ rfl
 obtain ⟨bn,⟨un,ui,ur,uq,um⟩,bc,bw⟩:=b
 have hl:bc.length*64≤140737488351232:=hl
 have hw:bw.length*32≤140737488351232:=hw
 have hc:∀ c ∈ bc,cP c∧c.1.size≤140737488351232:=hc
 clear hq
 repeat' first |(refine Go.mk ?_;conv=>whnf) |refine Ql.go ?_ ?_ |refine Qm.go (fun _=>?_) (fun _=>?_) |refine Br.dec (fun _=>?_) (fun _=>?_) |refine Br.go (fun _=>?_) (fun _=>?_) |refine Qd hT hP mixed ?_ |refine Qb hT hP ?_
 refine QO hT hP (A:=List Bool) bc.length (fun i o=>St.mk (E1 ((.cell (.ptr 0 0)) :: E1 ((.cell (.own 1)) :: E3 ((.cell (.ro Qh bc)) :: (I bc.length) :: (I i) :: E20 []))))
  [some (.var [.imm (.string bn),.imm (.string un),.ro Qaw ui,.ro QA ur,.ro QA uq,.ro QA um,.ro Qh bc,.ro Qx bw]),some (.arr .bool o)])
  (fun k o=>o=Qa2 bw (bc.take k)) [] (.trans (Le.nil 3 .bool rfl) (Le.mk [] [0,1] R R ?_ ?_)) rfl fun k o hk hi=>?_
 ·exact rfl
 ·repeat' first |exact trivial |exact ⟨rfl,rfl⟩ |refine And.intro ?_ ?_
 repeat' first |(refine Go.mk ?_;conv=>whnf) |refine Ql.go ?_ ?_ |refine Qm.go (fun _=>?_) (fun _=>?_) |refine Br.dec (fun _=>?_) (fun _=>?_) |refine Br.go (fun _=>?_) (fun _=>?_) |refine Qd hT hP mixed ?_ |refine Qb hT hP ?_
 all_goals (try dsimp only [Qj] at *)
 all_goals clear hT hP
 all_goals (have hlen:(Qa2 bw (bc.take k)).length=k:=by rw [QcT,List.length_take];omega)
 ·rename_i g1
  have g1:(k:Int) < (bc.length:Int):=g1
  show 0≤(k:Int)∧(k:Int) < (bc.length:Int)
  omega
 ·rename_i g1 g2
  have g1:(k:Int) < (bc.length:Int):=g1
  have:=(hc _ (QQ (dflt Qh) (show k < bc.length by omega))).2
  show (bc.getD k (dflt Qh)).1.size+4 < 4611686018427387904
  omega
 ·omega
 ·rename_i g1 g2
  have g1:(k:Int) < (bc.length:Int):=g1
  show (o.length+1)*1≤140737488355328
  rw [hi,hlen];omega
 ·rename_i g1 g2
  have g1:(k:Int) < (bc.length:Int):=g1
  have g2:Qho (bc.getD k (dflt Qh)).2.1=true:=g2
  apply Exists.intro
  apply Exists.intro _
  refine And.intro (And.intro ?lt253 (And.intro ?ei253 ?inv253)) (Le.mk [] [0,4] R R ?hh253 ?ht253)
  case hh253=>exact rfl
  case ht253=>repeat' first |exact trivial |exact ⟨rfl,rfl⟩ |refine And.intro ?_ ?_
  case lt253=>omega
  case ei253=>exact QW (by omega)
  rw [hi];exact Qhu (by omega) (by rw [g2,Bool.true_and,Qp8];rfl)
 ·rename_i g1 g2
  have g1:(k:Int) < (bc.length:Int):=g1
  show (o.length+1)*1≤140737488355328
  rw [hi,hlen];omega
 ·rename_i g1 g2
  have g1:(k:Int) < (bc.length:Int):=g1
  have g2:Qho (bc.getD k (dflt Qh)).2.1=false:=g2
  apply Exists.intro
  apply Exists.intro _
  refine And.intro (And.intro ?lt268 (And.intro ?ei268 ?inv268)) (Le.mk [] [0,4] R R ?hh268 ?ht268)
  case hh268=>exact rfl
  case ht268=>repeat' first |exact trivial |exact ⟨rfl,rfl⟩ |refine And.intro ?_ ?_
  case lt268=>omega
  case ei268=>exact QW (by omega)
  rw [hi];exact Qhu (by omega) (by rw [g2];rfl)
 ·rename_i g1
  have g1:¬ (k:Int) < (bc.length:Int):=g1
  refine .mk [] [1] _ R R R R R ?_ rfl
  rw [List.take_of_length_le (by omega)] at hi
  rw [hi];rfl
theorem QtJ {l m:List Int} (hl:u8s l) (hm:u8s m) (h:QlN l=QlN m):l=m:=by
 have h1:(l.map fun n=>UInt8.ofNat n.toNat)=m.map fun n=>UInt8.ofNat n.toNat:=by
  have h2:=congrArg (fun b:ByteArray=>b.data.toList) h
  simpa [QlN] using h2
 clear h
 induction l generalizing m with
 |nil =>
   cases m with
   |nil=>rfl
   |cons y m=>simp at h1
 |cons x l ih =>
   cases m with
   |nil=>simp at h1
   |cons y m =>
     simp only [List.map_cons,List.cons.injEq] at h1
     obtain ⟨e1,e2⟩:=h1
     have hx:=hl x (List.mem_cons_self ..)
     have hy:=hm y (List.mem_cons_self ..)
     have e3:=congrArg UInt8.toNat e1
     simp only [UInt8.toNat_ofNat'] at e3
     have e4:x=y:=by omega
     rw [e4,ih (fun z hz=>hl z (List.mem_cons_of_mem _ hz)) (fun z hz=>hm z (List.mem_cons_of_mem _ hz)) e2]
end Go.Proofs.YtofgbclopbmlcaaGreat

