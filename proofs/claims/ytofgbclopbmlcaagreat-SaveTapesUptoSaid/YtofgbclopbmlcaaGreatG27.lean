/- Part 27 of the proof. Conditions: none. -/
import Derived.Test.YtofgbclopbmlcaaGreatG26
namespace Go.Proofs.YtofgbclopbmlcaaGreat
open Go.IntKind (i64)
set_option maxHeartbeats 8000000
open Go.Fw
set_option linter.unusedVariables false
set_option linter.unusedSimpArgs false
set_option maxRecDepth 100000
theorem QAP{x:Int}(h:0≤x∧x<256):IntKind.u8.wrap x=x:=by
 show x%256=x;omega
theorem Qnw{l l' m m':List Int}(h:l=l')(h2:m=m'):[some (Blk.arr (.int .i64) l),some (Blk.arr (.int .u8) m)]=[some (Blk.arr (.int .i64) l'),some (Blk.arr (.int .u8) m')]:=by rw[h,h2]
def QtA:PSpec:=⟨[gl],fun(l,_)=>(some (∃q,dOk q l),I (Qnv l),[])⟩
theorem QtB:G0 257 QtA.spec:=by
 have e:S0 _:=(Qb (T:=tree))
 have n:=tabs e Qc;refine QtA.gd n e Tryz.func257 fun(l:List Int) w=>?_
 obtain⟨q,hp⟩:∃q,dOk q l:=w _ rfl;cases hp with
 |mk A j E C D hl G J M K =>
 rename_i k t c s i l d r o x
 repeat' first|(apply Ea;conv=>whnf)|apply Eb|apply Ec|apply Ed|apply Ee|(apply Ei;intro _)|apply Ef n e
 all_goals first
  |exact Ya rfl
  |(refine .k [] [] _ rfl (Qd ?_)
    show i64.wrap (i64.wrap (i64.wrap (i64.wrap (k-1)*256)+i64.wrap (i64.wrap (i64.wrap (t*4)+s)*16))+i)=atI k t s i
    rw[w64 (x:=k-1) (by omega) (by omega),w64 (x:=t*4) (by omega) (by omega),w64 (x:=(k-1)*256) (by omega) (by omega),w64 (x:=t*4+s) (by omega) (by omega),w64 (x:=(t*4+s)*16) (by omega) (by omega),
     w64 (x:=(k-1)*256+(t*4+s)*16) (by omega) (by omega),w64 (by omega) (by omega)]
    unfold atI;omega)
  |skip
def QxN:List V1→List Blk→Option DS:=fun a b=>(match a,b with| [.c (.own 0),.c (.own 1)],[.arr (.int .i64) l,.arr (.int .u8) m]=>some (l,m)|_,_=>none)
theorem Qo7{a:List V1}{b:List Blk}{x:DS}(h:QxN a b=some x):a=[.c (.own 0),.c (.own 1)]∧b=[.arr (.int .i64) x.1,.arr (.int .u8) x.2]:=by
 unfold QxN at h;split at h
 ·injection h with h;subst h;exact⟨rfl,rfl⟩
 ·cases h
theorem QFH(k t c s i l d r o x:Int):Qnv [k,t,c,s,i,l,d,r,o,x]=atI k t s i:=rfl
theorem QtC{c t:Int}(j:0≤t∧t<4)(E:c=1∨c=2):imax 0 (imin (i64.wrap (i64.wrap (t+3)-i64.wrap (2*c))) 3)=toI c t:=by
 rw[w64 (x:=t+3) (by omega) (by omega),w64 (x:=2*c) (by omega) (by omega),w64 (by omega) (by omega)];unfold toI imax imin
 (repeat' split)<;>omega
def QFI:WSpec:=⟨DS,fun _=>[.c (.own 0),.c (.own 1)],fun s=>[.arr (.int .i64) s.1,.arr (.int .u8) s.2],QxN,
 fun s=>(some ((∃q,DOk q s)∧QFG s),.tup [],[some (.arr (.int .i64) (QgY s).1),some (.arr (.int .u8) (QgY s).2)],[])⟩
theorem QCO:G0 230 QFI.spec:=by
 have e:S0 _:=Qa QtB (Qb (T:=tree));have n:=tabs e Qc;refine QFI.gd n e Tryz.func230 (fun _ _ _ h=>Qo7 h) fun((l,m):DS) w=>?_
 obtain⟨⟨q,y,z,u⟩,f,p,B⟩:(∃q,DOk q (l,m))∧QFG (l,m):=w _ rfl;have z:m.length=q*256:=z;have u:u8s m:=u;have y:dOk q l:=y;cases y with
 |mk A j E C D hl G J M K =>
 rename_i k t c s i l d r o x;have f:0<c:=f;have p:2<c→0<k:=p;have B:l=0:=B;subst B;have H:=QcU u (atI k t s i).toNat;have H:0≤m.getD (atI k t s i).toNat 0∧m.getD (atI k t s i).toNat 0<256:=H;have F:=or1 M J;have L:0≤lor .i64 o r∧lor .i64 o r<2:=by rw[F];split<;>omega
 have N:dOk q [k,t,c,s,i,0,d,r,lor .i64 o r,x]:=⟨A,j,E,C,D,by omega,G,J,L,K⟩
 have g:0<k→0≤atI k t s i∧atI k t s i<(m.length:Int):=fun h=>by rw[z];exact QAO ⟨h,A.2.1⟩ j C D
 have ewi:i64.wrap (i+1)=i+1:=w64 (by omega) (by omega);have ewd:=QAP G;have ewb:i64.wrap (m.getD (atI k t s i).toNat 0)=m.getD (atI k t s i).toNat 0:=w64 (by omega) (by omega);have ep:Qnv [k,t,c,s,i,0,d,r,lor .i64 o r,x]=atI k t s i:=rfl
 repeat' first|(apply Ea;conv=>whnf)|apply Eb|apply Ec|apply Ed|apply Ee|(apply Ei;intro _)|apply Ef n e
 all_goals first
  |exact Ya rfl
  |exact⟨q,N⟩
  |skip
 all_goals(try refine .mk [] [0,1] _ R R R R R (Qnw ?_ ?_) rfl)
 all_goals clear n e w
 all_goals(simp only[Qf] at *)
 all_goals(simp only[Int.reduceToNat,List.set_cons_succ,Ji,List.getD_cons_succ,List.getD_cons_zero,QFH] at *)
 all_goals(try simp only[QFH,F,ewi,ewd] at *)
 all_goals(try exact g (p (by omega)))
 all_goals(try(have:=g (p (by omega));omega))
 all_goals(try rw[QtC j (by omega)])
 all_goals(try simp_all [QgY])
 all_goals(rw[Yb (show¬c<3 by omega)])
def QAQ:WSpec:=⟨DS,fun _=>[.c (.own 0),.c (.own 1)],fun s=>[.arr (.int .i64) s.1,.arr (.int .u8) s.2],QxN,
 fun s=>(some ((∃q,DOk q s)∧0<s.1.getD 2 0),.tup [],[some (.arr (.int .i64) (Qay s).1),some (.arr (.int .u8) (Qay s).2)],[])⟩
theorem QCP{c t:Int}(j:0≤t∧t<4)(E:c=1∨c=2):i64.wrap (t+[1,-1].getD (c-1).toNat (dflt (.int .i64)))=if c=1 then t+1 else t-1:=by
 rcases E with rfl|rfl
 ·show i64.wrap (t+1)=_;rw[w64 (by omega) (by omega)];rfl
 ·show i64.wrap (t+-1)=_;rw[w64 (by omega) (by omega)];rfl
theorem QxO:G0 148 QAQ.spec:=by
 have e:S0 _:=(Qb (T:=tree))
 have n:=tabs e Qc;refine QAQ.gd n e Tryz.func148 (fun _ _ _ h=>Qo7 h) fun((l,m):DS) w=>?_
 obtain⟨⟨q,y,z,u⟩,f⟩:(∃q,DOk q (l,m))∧0<l.getD 2 0:=w _ rfl;have z:m.length=q*256:=z;have u:u8s m:=u;have y:dOk q l:=y;cases y with
 |mk A j E C D hl G J M K =>
 rename_i k t c s i l d r o x;have f:0<c:=f;have H:=QcU u (atI k t s i).toNat;have H:0≤m.getD (atI k t s i).toNat 0∧m.getD (atI k t s i).toNat 0<256:=H;have g:0<k→0≤atI k t s i∧atI k t s i<(m.length:Int):=fun h=>by rw[z];exact QAO ⟨h,A.2.1⟩ j C D
 have ewi:i64.wrap (i+1)=i+1:=w64 (by omega) (by omega);have ewb:i64.wrap (m.getD (atI k t s i).toNat 0)=m.getD (atI k t s i).toNat 0:=w64 (by omega) (by omega);have ewd:=QAP G;have hA:=QCN ⟨A.1,A.2.2⟩ j C D;have ewl:l>1→i64.wrap (l-1)=l-1:=fun h=>w64 (by omega) (by omega)
 have ewc:i64.wrap (c-1)=c-1:=w64 (by omega) (by omega);have etr:c<3→i64.wrap (t+[1,-1].getD (c-1).toNat (dflt (.int .i64)))=if c=1 then t+1 else t-1:=fun h=>QCP j (by omega)
 repeat' first|(apply Ea;conv=>whnf)|apply Eb|apply Ec|apply Ed|apply Ee|(apply Ei;intro _)|apply Ef n e
 all_goals first
  |exact Ya rfl
  |skip
 all_goals(try refine .mk [] [0,1] _ R R R R R (Qnw ?_ ?_) rfl)
 all_goals clear n e w
 all_goals(simp only[Qf] at *)
 all_goals(simp only[Int.reduceToNat,List.set_cons_succ,Ji,List.getD_cons_succ,List.getD_cons_zero] at *)
 all_goals(try simp only[hA,ewi,ewd,ewc] at *)
 all_goals(try(simp only[Yx,YU];omega))
 all_goals(try exact g (by omega))
 all_goals(try(have:=g (by omega);omega))
 all_goals(try(have h3:¬c<3:=by assumption))
 all_goals(try simp_all [-List.getD_eq_getElem?_getD,Qay,QgY])
 all_goals(try unfold toI)
 all_goals(try(by_cases h1:c=1<;>simp only[h1,if_true,if_false] at *))
 all_goals(repeat' split)
 all_goals first
  |rfl
  |(exfalso;omega)
  |exact l10 R R R R R R ewb R R R
  |exact l10 rfl (by omega) R R R R R R R R
  |skip
 all_goals trace_state
end Go.Proofs.YtofgbclopbmlcaaGreat

