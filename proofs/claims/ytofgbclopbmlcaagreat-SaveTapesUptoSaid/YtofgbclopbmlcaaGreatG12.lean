/- Part 12 of the proof. Conditions: none. -/
import Derived.Test.YtofgbclopbmlcaaGreatG11
namespace Go.Proofs.YtofgbclopbmlcaaGreat
open Go.IntKind (i64)
set_option maxHeartbeats 8000000
open Go.Fw
set_option linter.unusedVariables false
set_option linter.unusedSimpArgs false
set_option maxRecDepth 100000
def omods:List Int:=[4096,16,256,4096,2,16384,4096,16,256,4096,2,16384]
theorem Qpy:omods.length≤1000∧∀m∈omods,0<m∧m≤4611686018427387904:=by decide
def Qpz:PSpec:=⟨[gC,gD],fun(c,d,_)=>(some (c.2.1=7),Qff,[.arr (.int .i64) (Qao d.1)])⟩
theorem Qde:G0 58 Qpz.spec:=by
 have b:S0 _:=Qa QcT (Qb (T:=tree));have e:=tabs b Qc;refine Qpz.gd e b Tryz.func58 fun(c:Cv) (d:Dv) g=>?_
 obtain⟨K,t,O,cs,L⟩:=c;obtain rfl:t=7:=g _ rfl;obtain⟨N,M⟩:=d
 repeat' first|(apply Ea;conv=>whnf)|apply Eb|apply Ec|apply Ed|apply Ee|(apply Ei;intro _)|apply Ef e b
 all_goals first
  |exact rfl
  |exact Qpy
  |exact Ya rfl
  |skip
 exact .k [] [5] _ R R
theorem tm{n m:Int}(h:0≤n):Int.tmod n m=n%m:=Yi h
theorem QDi{n:Int}(h:0≤n∧n<4096):i64.wrap (Int.tdiv n 256)=n/256:=by rw[Yp h.1,w64 (by omega) (by omega)]
def QpA:PSpec:=⟨[gC,gD,gi],fun(c,d,a,_)=>(some (c.2.1=7),.tup [.agg [.own 0,.imm (.slice none 0 0)],I1 (orF d.1 a)],[.arr (.int .i64) (Qao d.1)])⟩
theorem QrA:G0 76 QpA.spec:=by
 have b:S0 _:=Qa Qde (Qa Qgq (Qb (T:=tree)));have e:=tabs b Qc;refine QpA.gd e b Tryz.func76 fun(c:Cv) (d:Dv) (a:Int) g=>?_
 obtain⟨K,t,O,cs,L⟩:=c;obtain rfl:t=7:=g _ rfl;obtain⟨N,M⟩:=d;obtain⟨J,H,F,E,h4,h5⟩:=oR N
 repeat' first|(apply Ea;conv=>whnf)|apply Eb|apply Ec|apply Ed|apply Ee|(apply Ei;intro _)|apply Ef e b
 all_goals first
  |exact rfl
  |exact Qpy
  |exact Ya rfl
  |skip
 refine .k [] [4] _ rfl (Qcs ?_);show Qb0 [Int.tmod (N.getD 0 0%4096) 256,i64.wrap (Int.tdiv (N.getD 0 0%4096) 256),N.getD 1 0%16,N.getD 2 0%256,Int.tmod (N.getD 6 0%4096) 256,i64.wrap (Int.tdiv (N.getD 6 0%4096) 256),N.getD 7 0%16,N.getD 8 0%256] a=orF N a;rw[tm J.1,tm E.1,QDi J,QDi E];rfl
theorem QGe{n k:Int}(h:0≤n∧n<4096):i64.wrap (i64.wrap (i64.wrap (Int.tdiv n 256)*256)+k%256)=n/256*256+k%256:=by
 rw[QDi h,w64 (x:=n/256*256) (by omega) (by omega),w64 (by omega) (by omega)]
theorem QLF{k:Int}:Int.tmod (k%256) 16=k%16:=by rw[tm (by omega)];omega
theorem QGf{n k:Int}(h:0≤n∧n<4096):i64.wrap (Int.tmod n 256+i64.wrap (Int.tmod (k%256) 16*256))=n%256+k%16*256:=by
 rw[tm h.1,QLF,w64 (x:=k%16*256) (by omega) (by omega),w64 (by omega) (by omega)]
theorem QDj{l:List Int}{i j:Nat}{x y z:Int}(h:x=y):(l.set i x).set j z=(l.set i y).set j z:=by rw[h]
def QpB:PSpec:=⟨[gC,gD,gi,gi],fun(c,d,a,k,_)=>(some (c.2.1=7),Qff,[.arr (.int .i64) (owF d.1 a k)])⟩
theorem QrB:G0 77 QpB.spec:=by
 have b:S0 _:=Qa Qde (Qa QbC (Qb (T:=tree)));have e:=tabs b Qc;refine QpB.gd e b Tryz.func77 fun(c:Cv) (d:Dv) (a k:Int) g=>?_
 obtain⟨K,t,O,cs,L⟩:=c;obtain rfl:t=7:=g _ rfl;obtain⟨N,M⟩:=d;obtain⟨J,H,F,E,h4,h5⟩:=oR N;have Y:a=0∨a=1∨a=2∨a=3∨a=4∨a=5∨a=6∨a=7∨a<0∨a≥8:=by omega
 rcases Y with rfl|rfl|rfl|rfl|rfl|rfl|rfl|rfl|Y|Y
 all_goals
  repeat' first|(apply Ea;conv=>whnf)|apply Eb|apply Ec|apply Ed|apply Ee|(apply Ei;intro _)|apply Ef e b
  all_goals first
   |exact rfl
   |exact Ya rfl
   |(exfalso;omega)
   |exact .k [] [3] _ R R
   |(refine .mk [] [3] _ R R R R R (Ql ?_) rfl
     first|exact QgS (QGe J)|exact QgS (QGe E)|exact QgS (QGf J)|exact QgS (QGf E)|exact QDj QLF)
   |(refine .mk [] [3] _ R R R R R (Ql (l:=Qao N) ?_) rfl
     show _=owF N a k;unfold owF
     rw[Yb (by omega),Yb (by omega),Yb (by omega),Yb (by omega),Yb (by omega),Yb (by omega),Yb (by omega),Yb (by omega)])
   |skip
def Qul:PSpec:=⟨[gC,gD],fun(c,d,_)=>(some (c.2.1=7),I (Qi1 d.1),[])⟩
theorem Qum:G0 72 Qul.spec:=by
 have b:S0 _:=Qa Qde (Qb (T:=tree));have e:=tabs b Qc;refine Qul.gd e b Tryz.func72 fun(c:Cv) (d:Dv) g=>?_
 obtain⟨K,t,O,cs,L⟩:=c;obtain rfl:t=7:=g _ rfl;obtain⟨N,M⟩:=d
 repeat' first|(apply Ea;conv=>whnf)|apply Eb|apply Ec|apply Ed|apply Ee|(apply Ei;intro _)|apply Ef e b
 all_goals first
  |exact rfl
  |exact Ya rfl
  |(refine .k [] [] _ rfl (Qd ?_)
    show i64.wrap (i64.wrap (N.getD 4 0%2*(N.getD 1 0%16))+i64.wrap (N.getD 10 0%2*(N.getD 7 0%16)))=Qi1 N;rw[Int.mul_comm (N.getD 4 0%2),Int.mul_comm (N.getD 10 0%2)]
    exact Qmc N)
  |skip
theorem QGg{x y z:Blk}{l l':List Int}(h:l=l'):[some x,some y,some (Blk.arr (.int .i64) l),some z]=[some x,some y,some (Blk.arr (.int .i64) l'),some z]:=by rw[h]
def QpC:PSpec:=⟨[gC,gD],fun(c,d,_)=>(some (c.2.1=7),Qff,[.arr (.int .i64) (QaP (Qao d.1))])⟩
theorem QrC:G0 79 QpC.spec:=by
 have b:S0 _:=Qa Qde (Qb (T:=tree));have e:=tabs b Qc;refine QpC.gd e b Tryz.func79 fun(c:Cv) (d:Dv) g=>?_
 obtain⟨K,t,O,cs,L⟩:=c;obtain rfl:t=7:=g _ rfl;obtain⟨N,M⟩:=d
 repeat' first|(apply Ea;conv=>whnf)|apply Eb|apply Ec|apply Ed|apply Ee|(apply Ei;intro _)|apply Ef e b
 all_goals first
  |exact rfl
  |exact Ya rfl
  |skip
 refine Q4 e b (X:=Int×List Int) (fun(i,l)=>St.mk (E3 ((.cell (.ptr 0 0))::(.cell (.ptr 1 0))::E40 (E40 (E20 (E5 (E1 ((.cell (.svar 3 0 2))::(I 2)::(I i)::E40 (E20 (E10 []))))))))) [some (.var [.own 2,.imm (.slice none 0 0)]),some (.var [.imm (.slice none 0 0),.imm (.slice none 0 0)]),some (.arr (.int .i64) l),some (.var [.sub 2 0 6,.sub 2 6 6])])
  (fun(i,l)=>(i=0∧l=vo N 0++vo N 6)∨(i=1∧l=Qy 1 (vo N 0)++vo N 6)∨(i=2∧l=Qy 1 (vo N 0)++Qy 1 (vo N 6))) (fun(i,_)=>(2-i).toNat) (0,Qao N) (Le.k [] [1,2,3,4] ?_) ?_ fun(i,l) hi=>?_
 ·repeat' constructor
 ·exact .inl ⟨rfl,rfl⟩
 rcases hi with⟨rfl,u⟩|⟨rfl,u⟩|⟨rfl,u⟩
 ·obtain⟨A,s⟩:∃A,A=vo N 0:=⟨_,rfl⟩
  obtain⟨B,q⟩:∃B,B=vo N 6:=⟨_,rfl⟩
  have oA:vOk A:=by rw[s];exact Qaq N 0
  have oB:vOk B:=by rw[q];exact Qaq N 6
  rw[←s,←q] at u;subst u;obtain⟨G,C⟩:∃G,G=Qy 1 A++B:=⟨_,rfl⟩
  have D:∀z:Int×List Int,z.1=1→z.2=G→(z.1=0∧z.2=vo N 0++vo N 6)∨(z.1=1∧z.2=Qy 1 (vo N 0)++vo N 6)∨(z.1=2∧z.2=Qy 1 (vo N 0)++Qy 1 (vo N 6)):=by
   intro z H F;rw[H,F,C,s,q];exact .inr (.inl ⟨rfl,rfl⟩)
  clear s q;cases oA with
  |mk g hv hr hc hf hw =>
  cases oB with
  |mk U Q S W V P =>
  rename_i p v r c f w p' v' r' c' f' w'
  repeat' first|(apply Ea;conv=>whnf)|apply Eb|apply Ec|apply Ed|apply Ee|(apply Ei;intro _)|apply Ef e b
  all_goals first
   |exact Ya rfl
   |(exfalso;rename_i h;revert h;decide)
   |skip
  all_goals
   apply Yw (_,G);refine Yo ?_ (Yo ?_ (Le.mk [] [0,1,2,3] R R (QGg ?_) ?ht))
   case ht=>repeat' constructor
  all_goals first
   |exact D (i64.wrap (0+1),G) R R
   |(show(2-i64.wrap (0+1)).toNat<(2-(0:Int)).toNat
     decide)
   |(rw[C]
     have ew1:i64.wrap (c+1)=c+1:=w64 (by omega) (by omega);have ew2:i64.wrap (1-f)=1-f:=w64 (by omega) (by omega);have ew3:i64.wrap (w+1)=w+1:=w64 (by omega) (by omega);have ew4:i64.wrap (64*r)=r*64:=by rw[w64 (by omega) (by omega),Int.mul_comm]
     have ew5:i64.wrap (v-1)=v-1:=w64 (by omega) (by omega);clear e b g D C;simp[ew1,ew2,ew3,ew4,ew5] at *
     try simp[Qy, *]
     (repeat' first|refine Yo ?_ ?_|intro _)
     all_goals first|omega|(exfalso;omega))
   |skip
 ·obtain⟨A,s⟩:∃A,A=Qy 1 (vo N 0):=⟨_,rfl⟩
  obtain⟨B,q⟩:∃B,B=vo N 6:=⟨_,rfl⟩
  have oA:vOk A:=by rw[s];exact QbU (Qaq N 0) (by decide)
  have oB:vOk B:=by rw[q];exact Qaq N 6
  rw[←s,←q] at u;subst u;obtain⟨G,C⟩:∃G,G=A++Qy 1 B:=⟨_,rfl⟩
  have D:∀z:Int×List Int,z.1=2→z.2=G→(z.1=0∧z.2=vo N 0++vo N 6)∨(z.1=1∧z.2=Qy 1 (vo N 0)++vo N 6)∨(z.1=2∧z.2=Qy 1 (vo N 0)++Qy 1 (vo N 6)):=by
   intro z H F;rw[H,F,C,s,q];exact .inr (.inr ⟨rfl,rfl⟩)
  clear s q;cases oA with
  |mk g hv hr hc hf hw =>
  cases oB with
  |mk U Q S W V P =>
  rename_i p' v' r' c' f' w' p v r c f w
  repeat' first|(apply Ea;conv=>whnf)|apply Eb|apply Ec|apply Ed|apply Ee|(apply Ei;intro _)|apply Ef e b
  all_goals first
   |exact Ya rfl
   |(exfalso;rename_i h;revert h;decide)
   |skip
  all_goals
   apply Yw (_,G);refine Yo ?_ (Yo ?_ (Le.mk [] [0,1,2,3] R R (QGg ?_) ?ht))
   case ht=>repeat' constructor
  all_goals first
   |exact D (i64.wrap (1+1),G) R R
   |(show(2-i64.wrap (1+1)).toNat<(2-(1:Int)).toNat
     decide)
   |(rw[C]
     have ew1:i64.wrap (c+1)=c+1:=w64 (by omega) (by omega);have ew2:i64.wrap (1-f)=1-f:=w64 (by omega) (by omega);have ew3:i64.wrap (w+1)=w+1:=w64 (by omega) (by omega);have ew4:i64.wrap (64*r)=r*64:=by rw[w64 (by omega) (by omega),Int.mul_comm]
     have ew5:i64.wrap (v-1)=v-1:=w64 (by omega) (by omega);clear e b g D C;simp[ew1,ew2,ew3,ew4,ew5] at *
     try simp[Qy, *]
     (repeat' first|refine Yo ?_ ?_|intro _)
     all_goals first|omega|(exfalso;omega))
   |skip
 ·subst u
  repeat' first|(apply Ea;conv=>whnf)|apply Eb|apply Ec|apply Ed|apply Ee|(apply Ei;intro _)|apply Ef e b
  all_goals first
   |exact Ya rfl
   |(exfalso;rename_i h;revert h;decide)
   |(refine .mk [] [2] _ R R R R R (Ql ?_) rfl
     show Qy 1 (vo N 0)++Qy 1 (vo N 6)=QaP (vo N 0++vo N 6)
     rw[Qif rfl])
   |skip
end Go.Proofs.YtofgbclopbmlcaaGreat

