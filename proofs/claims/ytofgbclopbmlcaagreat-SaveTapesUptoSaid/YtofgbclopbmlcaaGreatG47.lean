/- Part 47 of the proof. Conditions: none. -/
import Derived.Test.YtofgbclopbmlcaaGreatG46
import Derived.Test.YtofgbclopbmlcaaGreatG43
import Derived.Test.YtofgbclopbmlcaaGreatG25
import Derived.Test.YtofgbclopbmlcaaGreatG28
namespace Go.Proofs.YtofgbclopbmlcaaGreat
set_option maxHeartbeats 8000000
open Go.Fw
set_option linter.unusedVariables false
set_option linter.unusedSimpArgs false
set_option linter.constructorNameAsVariable false
set_option maxRecDepth 100000
def QB8:PSpec:=⟨[⟨false,.sl (Qv)⟩],fun(l,_)=>(some (List.length l*32≤140737488351232),.cell (.own 0),[.arr (Qv) l])⟩
theorem QAs:G0 87 QB8.spec:=by
 have a:S0 _:=(Qb (T:=tree))
 have w:=tabs a Qc;refine QB8.gd w a Tryz.func87 fun(l:List (Den (Qv))) F=>?_
 have hl:l.length*32≤140737488351232:=F _ rfl;clear F
 repeat' first|(apply Ea;conv=>whnf)|apply Eb|apply Ec|apply Ed|apply Ee|(apply Ei;intro _)|apply Ef w a
 all_goals first
  |exact Ya rfl
  |skip
 ·rename_i h;obtain rfl:l=[]:=Yr h;exact .le (Le.nil 2 (Qv) rfl) (.k [] [0] _ R R)
 ·show(0+l.length)*32≤140737488355328;omega
 ·exact .k [] [1] _ R R
def QE0:PSpec:=⟨[⟨false,.sl (Qv)⟩],fun(l,_)=>(some (List.length l*32≤140737488351232),.cell (.ro Qv l),[])⟩
theorem Qm1:G0 87 QE0.spec :=
 QR.frz QAs [0] [] fun(l,_) hp=>⟨hp,rfl,rfl,rfl,rfl,rfl⟩
def newE(b:Bd)(m:Mach)(l:List Inp)(ev:Int):Int:=if QbH b m l 0=0 then (if ev<1∨ev>100000 then 1 else 0) else QbH b m l 0
def QIf:PSpec:=⟨[gBd,gM,gIn,gi],fun(b,m,l,n,_)=>(some (Qz9 b m l∧newE b m l n≠0),.tup [.c (.imm (.pointer none)),I1 (newE b m l n)],[])⟩
def QIg:PSpec:=⟨[gBd,gM,gIn,gi],fun((D,(f,j,d,e,i),E,C),m,l,n,_)=>(some (QrsP (D,(f,j,d,e,i),E,C) m l∧tsP (f,j,d,e,i)∧newE (D,(f,j,d,e,i),E,C) m l n=0),.tup [.c (.ptr 0 0),I1 0],
 [.var (tpK 1 ⟨D,f,j,d,e,i,E,C⟩ l m n),.arr Qt [m]])⟩
theorem Qog{x y:Int}(h:x=y):AV.tup [.c (.imm (.pointer none)),I1 x]=AV.tup [.c (.imm (.pointer none)),I1 y]:=by rw[h]
theorem QB9{b:Bd}{m:Mach}{l:List Inp}{ev:Int}(h:QbH b m l 0≠0):newE b m l ev=QbH b m l 0:=Yb h
theorem Qw1{b:Bd}{m:Mach}{l:List Inp}{ev:Int}(h:QbH b m l 0=0)(A:ev<1∨ev>100000):newE b m l ev=1:=(Yf h).trans (Yf A)
theorem QqP{b:Bd}{m:Mach}{l:List Inp}{ev:Int}(h:QbH b m l 0=0)(G:¬ev<1)(A:¬ev>100000):newE b m l ev=0:=(Yf h).trans (Yb fun h=>h.elim G A)
theorem Qf9{b:Bd}{m:Mach}{l:List Inp}{ev:Int}(h:newE b m l ev=0):QbH b m l 0=0∧1≤ev∧ev≤100000:=by
 unfold newE at h;split at h
 ·rename_i G;split at h
  ·cases h
  ·rename_i A;exact⟨G,by omega,by omega⟩
 ·contradiction
theorem Qcl{b:Bd}{m:Mach}{l:List Inp}:QbH b m l 0=QN b m l:=by
 unfold QbH;split
 ·rfl
 ·rename_i h;rw[Yb (by omega),Yb (by omega)];exact(Classical.not_not.1 h).symm
theorem QAt:G0 38 QIf.spec:=by
 have a:S0 _:=Qa Qld (Qa QqO (Qa Qm1 (Qb (T:=tree))));have w:=tabs a Qc;refine QIf.gd w a Tryz.func38 fun(b:Bd) (m:Mach) (l:List Inp) (n:Int) F=>?_
 obtain⟨G,A⟩:Qz9 b m l∧newE b m l n≠0:=F _ rfl;clear F;obtain⟨D,⟨f,j,d,e,i⟩,E,C⟩:=b;obtain⟨tm,⟨r,op,at_,t⟩,ds,bd,H,u⟩:=m
 repeat' first|(apply Ea;conv=>whnf)|apply Eb|apply Ec|apply Ed|apply Ee|(apply Ei;intro _)|apply Ef w a
 all_goals(try dsimp only[Qf] at *)
 all_goals clear w a
 ·exact G
 ·rename_i g;exact .k [] [] _ rfl (Qog (QB9 (Qc2 g)).symm)
 ·rename_i g s;exact .k [] [] _ rfl (Qog (Qw1 (QaS g) (.inl (show n<1 from s))).symm)
 ·rename_i g s B;exact .k [] [] _ rfl (Qog (Qw1 (QaS g) (.inr (show n>100000 from B))).symm)
 ·rename_i g s B;exact YD (QqP (QaS g) (show¬n<1 from s) (show¬n>100000 from B)) A
 ·rename_i g s B;exact YD (QqP (QaS g) (show¬n<1 from s) (show¬n>100000 from B)) A
 ·rename_i g s B;exact YD (QqP (QaS g) (show¬n<1 from s) (show¬n>100000 from B)) A
theorem QIh{b:BdX}{l:List Inp}{ev:Int}{p q:Mach}(h:p=q):[some (Blk.var (tpK 1 b l p ev)),some (.arr Qt [p])]=[some (Blk.var (tpK 1 b l q ev)),some (.arr Qt [q])]:=by rw[h]
theorem QE1:G0 38 QIg.spec:=by
 have a:S0 _:=Qa Qld (Qa QqO (Qa Qm1 (Qb (T:=tree))));have w:=tabs a Qc;refine QIg.gd w a Tryz.func38 fun(b:Bd) (m:Mach) (l:List Inp) (n:Int) F=>?_
 obtain⟨D,⟨f,j,d,e,i⟩,E,C⟩:=b;obtain⟨tm,⟨r,op,at_,t⟩,ds,bd,H,u⟩:=m;obtain⟨G,A,h3⟩:QrsP (D,(f,j,d,e,i),E,C) (tm,(r,op,at_,t),ds,bd,H,u) l∧tsP (f,j,d,e,i)∧newE (D,(f,j,d,e,i),E,C) (tm,(r,op,at_,t),ds,bd,H,u) l n=0:=F _ rfl;clear F;obtain⟨k1,k2,k3⟩:=Qf9 h3;have hs:=k1;rw[Qcl] at hs;have hl:=(QaT hs).2.2.2;have hr:Qdr (D,(f,j,d,e,i),E,C) (tm,(r,op,at_,t),ds,bd,H,u) l 0=((tm,(r,op,at_,t),ds,bd,H,u),[]):=Yf k1;have J:bdP (D,(f,j,d,e,i),E,C):=G.h.mrn.1.2.2.1
 repeat' first|(apply Ea;conv=>whnf)|apply Eb|apply Ec|apply Ed|apply Ee|(apply Ei;intro _)|apply Ef w a
 all_goals(try dsimp only[Qf] at *)
 all_goals clear w a
 ·exact G.h.mrn
 ·rename_i g;rw[k1] at g;cases g
 ·rename_i g s;have s:n<1:=s;omega
 ·rename_i g s B;have B:n>100000:=B;omega
 ·exact⟨J,A⟩
 ·show l.length*32≤140737488351232;omega
 ·exact .mk [] [4,3] _ R R R R R (QIh (b:=⟨D,f,j,d,e,i,E,C⟩) (l:=l) (ev:=n) (Yv (fun z:Mach×List Inp=>z.1) hr)) rfl
theorem TpOk.new{b:Bd}{m:Mach}{l:List Inp}{ev:Int}(h:QrsP b m l)(he:newE b m l ev=0):TpOk b l [m] m ev m ev.toNat 0:=by
 obtain⟨k1,k2,k3⟩:=Qf9 he;have a:=k1;rw[Qcl] at a;have ht:=(QaT a).2.2.1;refine⟨h,a,by omega,by omega,by omega,?_,rfl,by omega,by omega,by rw[Nat.zero_div];omega⟩;unfold mkF;rw[Nat.zero_div];show[m]=[rfM b l m (0*ev.toNat)]
 rw[Nat.zero_mul];rfl
theorem TpOk.back{b:Bd}{l:List Inp}{ms:List Mach}{nw:Mach}{ev:Int}{m0:Mach}{E j J:Nat}(h:TpOk b l ms nw ev m0 E j)(hJ:J≤j):TpOk b l (ms.take (J/E+1)) (rfM b l m0 J) ev m0 E J:=by
 have hq:J/E≤j/E:=Nat.div_le_div_right hJ;refine⟨h.q,h.s,h.e,h.e1,h.e2,?_,rfl,by have:=h.t;omega,by have:=h.jj;omega,YG hq h.k⟩;rw[h.ms];exact QAn _ _ _ hq
theorem TpOk.go{b:Bd}{l:List Inp}{ms:List Mach}{nw:Mach}{ev:Int}{m0:Mach}{E j N:Nat}(h:TpOk b l ms nw ev m0 E j)(h1:j+N≤1000)(h2:m0.1+(j+N:Nat)≤1099511627776):TpOk b l (mkF b l m0 E (j+N)) (rfM b l m0 (j+N)) ev m0 E (j+N) :=
 ⟨h.q,h.s,h.e,h.e1,h.e2,rfl,rfl,h2,by omega,YG (Nat.div_le_self _ _) h1⟩
structure TpsP(b:Bd)(m:Mach)(l:List Inp):Prop where
 q:QrsP b m l
 t:tsP b.2.1
def QIj:PSpec:=⟨[gBd,gM,gIn,gi,⟨false,.sl (.int .i64)⟩],fun(b,m,l,n,w,_)=>(some (TpsP b m l∧¬newE b m l n=0),.cell (bv true),[])⟩
theorem QE2:G0 9 QIj.spec:=by
 have B:S0 _:=Qa QqE (Qa QiM (Qa QAt (Qa QmP (Qb (T:=tree)))));have E:=tabs B Qc;refine QIj.gd E B Tryz.func9 fun(b:Bd) (m:Mach) (l:List Inp) (n:Int) (w:List Int) hq=>?_
 obtain⟨D,hn⟩:TpsP b m l∧¬newE b m l n=0:=hq _ rfl;clear hq;obtain⟨p,⟨f,i,d,e,g⟩,u,j⟩:=b;obtain⟨tm,⟨r,op,at_,a⟩,ds,bd,A,c⟩:=m
 have hE:(QN (p,(f,i,d,e,g),u,j) (tm,(r,op,at_,a),ds,bd,A,c) l=0∧(n<1∨n>100000)∧newE (p,(f,i,d,e,g),u,j) (tm,(r,op,at_,a),ds,bd,A,c) l n=1)∨(QN (p,(f,i,d,e,g),u,j) (tm,(r,op,at_,a),ds,bd,A,c) l≠0∧newE (p,(f,i,d,e,g),u,j) (tm,(r,op,at_,a),ds,bd,A,c) l n=QN (p,(f,i,d,e,g),u,j) (tm,(r,op,at_,a),ds,bd,A,c) l):=by
  by_cases h:QbH (p,(f,i,d,e,g),u,j) (tm,(r,op,at_,a),ds,bd,A,c) l 0=0
  ·by_cases C:n<1∨n>100000
   ·exact .inl ⟨by rw[←Qcl];exact h,C,Qw1 h C⟩
   ·exact YD (QqP h (fun z=>C (.inl z)) (fun z=>C (.inr z))) hn
  ·exact .inr ⟨by rw[←Qcl];exact h,by rw[QB9 h];exact Qcl⟩
 repeat' first|(apply Ea;conv=>whnf)|apply Eb|apply Ec|apply Ed|apply Ee|(apply Ei;intro _)|apply Ef E B
 all_goals(try dsimp only[Qf] at *)
 all_goals clear E B
 ·exact⟨D.q.h.mrn,hn⟩
 ·exact D.q.h.s
 all_goals first
  |exact .k [] [] _ R R
  |(exfalso
    clear D;generalize newE (p,(f,i,d,e,g),u,j) (tm,(r,op,at_,a),ds,bd,A,c) l n=x at *;generalize QN (p,(f,i,d,e,g),u,j) (tm,(r,op,at_,a),ds,bd,A,c) l=y at *;simp only[cond_false,bne_iff_ne,bne_eq_false_iff_eq,ne_eq] at *
    omega)
  |skip
end Go.Proofs.YtofgbclopbmlcaaGreat

