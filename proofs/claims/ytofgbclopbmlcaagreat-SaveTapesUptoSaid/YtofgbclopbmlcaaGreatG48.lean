/- Part 48 of the proof. Conditions: none. -/
import Derived.Test.YtofgbclopbmlcaaGreatG47
namespace Go.Proofs.YtofgbclopbmlcaaGreat
open Go.IntKind (i64)
set_option maxHeartbeats 8000000
open Go.Fw
set_option linter.unusedVariables false
set_option linter.unusedSimpArgs false
set_option linter.constructorNameAsVariable false
set_option maxRecDepth 100000
def QIk:PSpec:=⟨[gBd,gM,gIn,gi,⟨false,.sl (.int .i64)⟩],fun(b,m,l,n,w,_)=>(some (TpsP b m l∧newE b m l n=0),.cell (bv true),[])⟩
theorem QAu{x tm:Int}(h0:0≤x)(h1:x<200)(h2:0≤tm∧tm≤1099511627776):0≤x.tdiv 2∧x.tdiv 2≤99∧i64.wrap (x.tdiv 2)=x.tdiv 2∧i64.wrap (tm+i64.wrap (x.tdiv 2))=tm+x.tdiv 2:=by
 have e:x.tdiv 2=x/2:=Yp h0;rw[e];have a:i64.wrap (x/2)=x/2:=w64 (by omega) (by omega);rw[a];exact⟨by omega,by omega,rfl,w64 (by omega) (by omega)⟩
theorem QIl{ms:List Mach}{t T ev n:Int}(h0:(m0F ms).1=t)(hj:0≤T-t)(hn:0≤n)(hs:T-t+n≤1000)(he:1≤ev):goE ms T ev n=if T+n>1099511627776 then 6 else 0:=by
 have hd:(T+n-t).tdiv ev≤1000:=by
  rw[Yp (by omega)];exact Int.le_trans (Int.ediv_le_self _ (by omega)) (by omega)
 unfold goE;rw[h0,Yb (by omega),Yb (by omega)];split<;>split<;>omega
theorem QE3:G0 9 QIk.spec:=by
 have L:S0 _:=Qa QqE (Qa QiM (Qa QE1 (Qa QmP (Qa Qof (Qa QiR (Qa QmZ (Qb (T:=tree))))))));have M:=tabs L Qc;have hT0:=M;have hP0:=L;refine QIk.gd M L Tryz.func9 fun(b:Bd) (m:Mach) (l:List Inp) (n:Int) (w:List Int) hq=>?_
 obtain⟨hp,hn⟩:TpsP b m l∧newE b m l n=0:=hq _ rfl;clear hq;obtain⟨G,⟨B,D,y,z,C⟩,H,F⟩:=b;obtain⟨tm,⟨r,op,at_,d⟩,ds,bd,O,f⟩:=m;have hs:QN (G,(B,D,y,z,C),H,F) (tm,(r,op,at_,d),ds,bd,O,f) l=0:=by rw[←Qcl];exact(Qf9 hn).1
 have hn1:=(Qf9 hn).2.1;have hn2:=(Qf9 hn).2.2
 repeat' first|(apply Ea;conv=>whnf)|apply Eb|apply Ec|apply Ed|apply Ee|(apply Ei;intro _)|apply Ef M L
 all_goals(try dsimp only[Qf] at *)
 ·exact⟨hp.q,hp.t,hn⟩
 ·exact hp.q.h.s
 all_goals first
  |(exfalso;have g:n<1:=by assumption
    omega)
  |(exfalso;have g:n>100000:=by assumption
    omega)
  |(exfalso;exact YD hs (Qc2 (by assumption)))
  |(exfalso;exact YD hs (show¬QN (G,(B,D,y,z,C),H,F) (tm,(r,op,at_,d),ds,bd,O,f) l=0 by assumption))
  |skip
 ·show(0:Int)≤imin (w.length:Int) 6∧imin (w.length:Int) 6≤(w.length:Int);rw[QS];omega
 generalize hW:(List.take (imin (w.length:Int) 6).toNat w)=W at *
 refine QIi (A:=Int×Mach×List Mach) W.length (fun i (J,s,ys)=>St.mk (E2 ((.cell (.ro Qv l))::(I n)::E1 ((.cell (.ptr 0 0))::(.cell (.ptr 1 0))::E3 (E1 ((.cell (.ptr 2 0))::E2 ((I J)::E40 (E20 (E5 ((.cell (.ro (.int .i64) W))::(I W.length)::(I i)::E40 (E40 (E40 (E40 (E1 [])))))))))))))
  [some (.var [.imm (.string G),.imm (.string B),.ro Qap D,.ro Qp y,.ro Qp z,.ro Qp C,.ro Qe H,.ro Qo F]),
   some (.var [iv .i64 tm,.run .i64 9 r,iv .i64 op,iv .i64 at_,bv d,.ro Qh ds,iv .i64 bd,iv .i64 O,iv .i64 f]),
   some (.var (tpK 3 ⟨G,B,D,y,z,C,H,F⟩ l s n)),some (.arr Qt ys)])
  (fun k (J,s,ys)=>∃j:Nat,J=(j:Int)∧j≤100*k∧TpOk (G,(B,D,y,z,C),H,F) l ys s n (tm,(r,op,at_,d),ds,bd,O,f) n.toNat j) (0,(tm,(r,op,at_,d),ds,bd,O,f),[(tm,(r,op,at_,d),ds,bd,O,f)]) (Le.k [] [0,1,2,3] ?_) ⟨0,rfl,YR _,TpOk.new hp.q hn⟩ fun k (J,s,ys) hk hi=>?_
 ·repeat' constructor
 obtain⟨j,Z,hj,c⟩:=hi;have Z:J=(j:Int):=Z;subst Z;have c:TpOk (G,(B,D,y,z,C),H,F) l ys s n (tm,(r,op,at_,d),ds,bd,O,f) n.toNat j:=c;have hWl:W.length≤6:=by rw[←hW,Yq,QS];omega
 obtain⟨e0,-,em,etm⟩:=c.m0;have etm:0≤tm∧tm≤1099511627776:=etm;have em:s.1=tm+j:=em;have e0:m0F ys=(tm,(r,op,at_,d),ds,bd,O,f):=e0;have hX0:0≤(W.getD (k:Int).toNat (dflt (.int .i64))%200):=Int.emod_nonneg _ (by decide);have hX1:(W.getD (k:Int).toNat (dflt (.int .i64))%200)<200:=Int.emod_lt_of_pos _ (by decide);obtain⟨f1,f2,f3,f4⟩:=QAu (tm:=tm) hX0 hX1 etm
 have hrE:∀i:Nat,i≤100000→QbH (G,(B,D,y,z,C),H,F) (tm,(r,op,at_,d),ds,bd,O,f) l (i:Int)=0:=fun i hi=>by
  unfold QbH;rw[Yb (fun hh=>hh hs),Yb (by omega),Yb (by omega)]
 have hs1:s=rfM (G,(B,D,y,z,C),H,F) l (tm,(r,op,at_,d),ds,bd,O,f) j:=c.nw;have hys:ys=mkF (G,(B,D,y,z,C),H,F) l (tm,(r,op,at_,d),ds,bd,O,f) n.toNat j:=c.ms;have hj2:j≤600:=by omega
 have X:∀i:Nat,QcY (rfM (G,(B,D,y,z,C),H,F) l (tm,(r,op,at_,d),ds,bd,O,f) i)∧Qm3 (rfM (G,(B,D,y,z,C),H,F) l (tm,(r,op,at_,d),ds,bd,O,f) i):=fun i=>hp.q.h.gr (MrsP.len (hrE 0 (by decide))) i
 have hid:∀x:Mach,Qzv x x=true:=fun x=>Qzr rfl
 have hSm:∀(J:Int) (K:Nat) (u:Mach),J=(K:Int)→u=rfM (G,(B,D,y,z,C),H,F) l (tm,(r,op,at_,d),ds,bd,O,f) K→¬(!Qzv u (Qbz (G,(B,D,y,z,C),H,F) l J.toNat ((tm,(r,op,at_,d),ds,bd,O,f),[])).1)=true:=fun J K u h0 h g=>by
  subst h0;subst h;rw[show(Qbz (G,(B,D,y,z,C),H,F) l (K:Int).toNat ((tm,(r,op,at_,d),ds,bd,O,f),[])).1=rfM (G,(B,D,y,z,C),H,F) l (tm,(r,op,at_,d),ds,bd,O,f) K from rfl,hid] at g;cases g
 have P:∀J:Int,0≤J→J≤100000→RanP (G,(B,D,y,z,C),H,F) (tm,(r,op,at_,d),ds,bd,O,f) l J:=fun J h0 h1=>hp.q.h.ran (by
  unfold QbH
  rw[Yb (fun hh=>hh hs),Yb (by omega),Yb (by omega)])
 have S:∀(K:Nat) (u:Mach),u=rfM (G,(B,D,y,z,C),H,F) l (tm,(r,op,at_,d),ds,bd,O,f) K→(QrsP (G,(B,D,y,z,C),H,F) u l∧QN (G,(B,D,y,z,C),H,F) u l=0)∧QcY u∧Qm3 u:=fun K u h=>by
  subst h;exact⟨hp.q.at hs K,X K⟩
 have hOt:∀(xs zs:List Inp),xs=zs→¬(bif false then true else !eqB xs zs)=true:=fun xs zs h g=>by
  subst h;rw[cond_false,Qzr rfl] at g;cases g
 by_cases hkW:k<W.length
 ·by_cases V:(W.getD (k:Int).toNat (dflt (.int .i64))%200).tmod 2=1
  ·by_cases hD:(W.getD (k:Int).toNat (dflt (.int .i64))%200).tdiv 2>j
   ·
    have L:S0 _:=Qa QbC (Qa QiR (Qa Qle (Qa QfV (Qa Qlf (Qb (T:=tree))))));have M:=tabs L Qc;refine⟨_,M,L,?_⟩
    repeat' first|(apply Ea;conv=>whnf)|apply Eb|apply Ec|apply Ed|apply Ee|(apply Ei;intro _)|apply Ef M L
    all_goals(try dsimp only[Qf] at *)
    all_goals clear M L
    all_goals first
     |(show(0:Int)<200∧(200:Int)≤4611686018427387904;decide)
     |(show¬(2:Int)=0;decide)
     |(exfalso;exact YD V (show¬(W.getD (k:Int).toNat (dflt (.int .i64))%200).tmod 2=1 by assumption))
     |(exfalso;have g:¬(k:Int)<(W.length:Int):=by assumption
       omega)
     |(exfalso;have g:¬i64.wrap ((W.getD (k:Int).toNat (dflt (.int .i64))%200).tdiv 2)>(j:Int):=by assumption
       rw[f3] at g
       exact g hD)
     |skip
    ·show(0:Int)≤(k:Int)∧(k:Int)<(W.length:Int);omega
    ·refine⟨⟨_,_,_,c⟩,.inr ?_⟩;show i64.wrap (tm+i64.wrap ((W.getD (k:Int).toNat (dflt (.int .i64))%200).tdiv 2))>s.1;rw[f4,em];omega
    ·exact P _ (by omega) (by omega)
    ·exact(S j s hs1).1
    ·exact⟨(S j s hs1).2,X j⟩
    ·rename_i g;exact YD g (hSm _ j s rfl hs1)
    ·apply Ex ((j:Int),s,ys) [] [0,1,2,3]
     ·repeat' constructor
     ·omega
     ·exact QJ (by omega)
     exact⟨j,rfl,by omega,c⟩
   ·obtain⟨J,Z⟩:∃J:Nat,(W.getD (k:Int).toNat (dflt (.int .i64))%200).tdiv 2=(J:Int):=⟨((W.getD (k:Int).toNat (dflt (.int .i64))%200).tdiv 2).toNat,by omega⟩
    have hJj:J≤j:=by omega
    have hbk:bkJ ys (i64.wrap (tm+i64.wrap ((W.getD (k:Int).toNat (dflt (.int .i64))%200).tdiv 2)))=J:=by
     unfold bkJ;rw[e0,f4,Z];show(tm+(J:Int)-tm).toNat=J;omega
    have hu:rfM (G,(B,D,y,z,C),H,F) l (m0F ys) (bkJ ys (i64.wrap (tm+i64.wrap ((W.getD (k:Int).toNat (dflt (.int .i64))%200).tdiv 2))))=rfM (G,(B,D,y,z,C),H,F) l (tm,(r,op,at_,d),ds,bd,O,f) J:=by rw[hbk,e0]
    have p:i64.wrap ((W.getD (k:Int).toNat (dflt (.int .i64))%200).tdiv 2)=(J:Int):=f3.trans Z;have L:S0 _:=Qa QbC (Qa QAq (Qa Qle (Qa QfV (Qa Qlf (Qb (T:=tree))))));have M:=tabs L Qc;refine⟨_,M,L,?_⟩
    repeat' first|(apply Ea;conv=>whnf)|apply Eb|apply Ec|apply Ed|apply Ee|(apply Ei;intro _)|apply Ef M L
    all_goals(try dsimp only[Qf] at *)
    all_goals clear M L
    all_goals first
     |(show(0:Int)<200∧(200:Int)≤4611686018427387904;decide)
     |(show¬(2:Int)=0;decide)
     |(exfalso;exact YD V (show¬(W.getD (k:Int).toNat (dflt (.int .i64))%200).tmod 2=1 by assumption))
     |(exfalso;have g:¬(k:Int)<(W.length:Int):=by assumption
       omega)
     |(exfalso;have g:i64.wrap ((W.getD (k:Int).toNat (dflt (.int .i64))%200).tdiv 2)>(j:Int):=by assumption
       rw[f3] at g
       exact hD g)
     |skip
    ·show(0:Int)≤(k:Int)∧(k:Int)<(W.length:Int);omega
    ·refine⟨⟨_,_,_,c⟩,?_,?_⟩
     ·show(m0F ys).1≤i64.wrap (tm+i64.wrap ((W.getD (k:Int).toNat (dflt (.int .i64))%200).tdiv 2));rw[f4,e0];show tm≤_;omega
     ·show i64.wrap (tm+i64.wrap ((W.getD (k:Int).toNat (dflt (.int .i64))%200).tdiv 2))≤s.1;rw[f4,em];omega
    ·rw[p];exact P _ (by omega) (by omega)
    ·exact(S J _ hu).1
    ·exact⟨(S J _ hu).2,by rw[p];exact X J⟩
    ·rename_i g;exact YD g (hSm _ J _ p hu)
    ·apply Ex (_,_,_) [] [0,1,2,4]
     ·repeat' constructor
     ·omega
     ·exact QJ (by omega)
     refine⟨J,p,by omega,?_⟩;have hq:=c.back hJj;show TpOk (G,(B,D,y,z,C),H,F) l (ys.take (bkJ ys (i64.wrap (tm+i64.wrap ((W.getD (k:Int).toNat (dflt (.int .i64))%200).tdiv 2)))/n.toNat+1)) (rfM (G,(B,D,y,z,C),H,F) l (m0F ys) (bkJ ys (i64.wrap (tm+i64.wrap ((W.getD (k:Int).toNat (dflt (.int .i64))%200).tdiv 2))))) n (tm,(r,op,at_,d),ds,bd,O,f) n.toNat J;rw[hu,hbk];exact hq
  ·obtain⟨J,Z⟩:∃J:Nat,(W.getD (k:Int).toNat (dflt (.int .i64))%200).tdiv 2=(J:Int):=⟨((W.getD (k:Int).toNat (dflt (.int .i64))%200).tdiv 2).toNat,by omega⟩
   have hJ99:J≤99:=by omega
   have p:i64.wrap ((W.getD (k:Int).toNat (dflt (.int .i64))%200).tdiv 2)=(J:Int):=f3.trans Z
   have Q:goJ ys s.1=j:=by
    unfold goJ;rw[e0,em];show(tm+(j:Int)-tm).toNat=j;omega
   have hgE:goE ys s.1 n (i64.wrap ((W.getD (k:Int).toNat (dflt (.int .i64))%200).tdiv 2))=if s.1+J>1099511627776 then 6 else 0:=by
    rw[p];exact QIl (t:=tm) (by rw[e0]) (by omega) (by omega) (by omega) hn1
   have hwj:i64.wrap (i64.wrap (tm+(j:Int))+i64.wrap ((W.getD (k:Int).toNat (dflt (.int .i64))%200).tdiv 2))=tm+j+J:=by
    rw[p,w64 (x:=tm+j) (by omega) (by omega),w64 (by omega) (by omega)]
   have U:i64.wrap ((j:Int)+i64.wrap ((W.getD (k:Int).toNat (dflt (.int .i64))%200).tdiv 2))=((j+J:Nat):Int):=by
    rw[p,w64 (by omega) (by omega)];omega
   by_cases hF:tm+(j+J:Nat)>1099511627776
   ·
    have L:S0 _:=Qa QbC (Qa Qof (Qa Qle (Qa QfV (Qa Qlf (Qa QqL (Qb (T:=tree)))))));have M:=tabs L Qc;refine⟨_,M,L,?_⟩
    repeat' first|(apply Ea;conv=>whnf)|apply Eb|apply Ec|apply Ed|apply Ee|(apply Ei;intro _)|apply Ef M L
    all_goals(try dsimp only[Qf] at *)
    all_goals clear M L
    all_goals first
     |(show(0:Int)<200∧(200:Int)≤4611686018427387904;decide)
     |(show¬(2:Int)=0;decide)
     |(exfalso;exact YD (show(W.getD (k:Int).toNat (dflt (.int .i64))%200).tmod 2=1 by assumption) V)
     |(exfalso;have g:¬(k:Int)<(W.length:Int):=by assumption
       omega)
     |(exfalso;have g:¬i64.wrap (i64.wrap (tm+(j:Int))+i64.wrap ((W.getD (k:Int).toNat (dflt (.int .i64))%200).tdiv 2))>1099511627776:=by assumption
       rw[hwj] at g
       omega)
     |skip
    ·show(0:Int)≤(k:Int)∧(k:Int)<(W.length:Int);omega
    ·refine⟨⟨_,_,_,c⟩,?_⟩;show goE ys s.1 n (i64.wrap ((W.getD (k:Int).toNat (dflt (.int .i64))%200).tdiv 2))≠0;rw[hgE,Yf (by rw[em];omega)];decide
    ·rename_i g;exfalso;rw[hgE,Yf (by rw[em];omega)] at g;revert g;decide
    ·apply Ex ((j:Int),s,ys) [] [0,1,2,3]
     ·repeat' constructor
     ·omega
     ·exact QJ (by omega)
     exact⟨j,rfl,by omega,c⟩
   ·
    have L:S0 _:=Qa QbC (Qa QIc (Qa Qle (Qa QfV (Qa Qlf (Qa QqL (Qb (T:=tree)))))));have M:=tabs L Qc;refine⟨_,M,L,?_⟩
    repeat' first|(apply Ea;conv=>whnf)|apply Eb|apply Ec|apply Ed|apply Ee|(apply Ei;intro _)|apply Ef M L
    all_goals(try dsimp only[Qf] at *)
    all_goals clear M L
    all_goals first
     |(show(0:Int)<200∧(200:Int)≤4611686018427387904;decide)
     |(show¬(2:Int)=0;decide)
     |(exfalso;exact YD (show(W.getD (k:Int).toNat (dflt (.int .i64))%200).tmod 2=1 by assumption) V)
     |(exfalso;have g:¬(k:Int)<(W.length:Int):=by assumption
       omega)
     |(exfalso;have g:i64.wrap (i64.wrap (tm+(j:Int))+i64.wrap ((W.getD (k:Int).toNat (dflt (.int .i64))%200).tdiv 2))>1099511627776:=by assumption
       rw[hwj] at g
       omega)
     |skip
    ·show(0:Int)≤(k:Int)∧(k:Int)<(W.length:Int);omega
    ·refine⟨⟨_,_,_,c⟩,?_⟩;show goE ys s.1 n (i64.wrap ((W.getD (k:Int).toNat (dflt (.int .i64))%200).tdiv 2))=0;rw[hgE,Yb (by rw[em];omega)]
    ·exact P _ (by omega) (by omega)
    ·rw[p];exact(c.q.at c.s j).1.h.ran (Qod c.q c.s j (by omega) (by omega)).1
    ·rw[Q,p,e0];exact YG (Qoe c.q c.s j _) (by show J*12≤_;omega)
    ·rename_i g;exfalso;refine hOt _ _ ?_ g;rw[Q,e0];rfl
    ·rw[U];exact P _ (by omega) (by omega)
    ·exact(S (j+J) _ (by rw[Q,p,e0];rfl)).1
    ·refine⟨(S (j+J) _ (by rw[Q,p,e0];rfl)).2,?_⟩;rw[U];exact X (j+J)
    ·rename_i g;exact YD g (hSm _ (j+J) _ U (by rw[Q,p,e0];rfl))
    ·apply Ex (_,_,_) [] [0,1,2,4]
     ·repeat' constructor
     ·omega
     ·exact QJ (by omega)
     refine⟨j+J,U,by omega,?_⟩;have hq:=c.go (N:=J) (by omega) (by show tm+_≤_;omega);show TpOk (G,(B,D,y,z,C),H,F) l (mkF (G,(B,D,y,z,C),H,F) l (m0F ys) n.toNat (goJ ys s.1+(i64.wrap ((W.getD (k:Int).toNat (dflt (.int .i64))%200).tdiv 2)).toNat)) (rfM (G,(B,D,y,z,C),H,F) l (m0F ys) (goJ ys s.1+(i64.wrap ((W.getD (k:Int).toNat (dflt (.int .i64))%200).tdiv 2)).toNat)) n (tm,(r,op,at_,d),ds,bd,O,f) n.toNat (j+J);rw[Q,p,e0];exact hq
 ·have hkE:k=W.length:=by omega
  have L:S0 _:=Qa Qof (Qa QiR (Qa QmZ (Qb (T:=tree))));have M:=tabs L Qc;refine⟨_,M,L,?_⟩
  repeat' first|(apply Ea;conv=>whnf)|apply Eb|apply Ec|apply Ed|apply Ee|(apply Ei;intro _)|apply Ef M L
  all_goals(try dsimp only[Qf] at *)
  all_goals first
   |(exfalso;have g:(k:Int)<(W.length:Int):=by assumption
     omega)
   |skip
  ·show ys.length≤1001;rw[c.m0.2.1];exact Jm c.k
  have Y:ys.length=j/n.toNat+1:=c.m0.2.1
  have hl601:ys.length≤601:=by
   rw[Y];exact Jm (YG (Nat.div_le_self _ _) hj2)
  refine QA M L (A:=Unit) ys.length (fun i _=>St.mk (E3 ((I n)::E2 ((.cell (.ptr 1 0))::E3 (E1 ((.cell (.ptr 2 0))::E2 ((I (j:Int))::E10 (E1 ((.cell (.own 4))::E40 (E40 (E40 (E20 (E5 (E3 ((.cell (.own 4))::(I ((ys.map fun m=>m.1).length:Nat))::(I i)::E40 (E20 (E5 (E1 [])))))))))))))))))
   [some (.var [.imm (.string G),.imm (.string B),.ro Qap D,.ro Qp y,.ro Qp z,.ro Qp C,.ro Qe H,.ro Qo F]),
    some (.var [iv .i64 tm,.run .i64 9 r,iv .i64 op,iv .i64 at_,bv d,.ro Qh ds,iv .i64 bd,iv .i64 O,iv .i64 f]),
    some (.var (tpK 3 ⟨G,B,D,y,z,C,H,F⟩ l s n)),some (.arr Qt ys),some (.arr (.int .i64) (ys.map fun m=>m.1))])
   (fun q _=>True) () (Le.k [] [0,1,2,3,4] ?_) trivial fun q _ hq _=>?_
  ·repeat' constructor
  have hql:(ys.map fun m=>m.1).length=ys.length:=Jf ..
  have p:i64.wrap (i64.wrap (100000-(j:Int))+1)=100001-j:=by
   rw[w64 (x:=100000-(j:Int)) (by omega) (by omega),w64 (by omega) (by omega)];omega
  have hG:((j:Int)=0→goE ys s.1 n (i64.wrap (i64.wrap (100000-(j:Int))+1))=2)∧(¬(j:Int)=0→goE ys s.1 n (i64.wrap (i64.wrap (100000-(j:Int))+1))=6):=by
   rw[p];exact⟨fun h=>QEX (by omega) (by omega),fun h=>QAr (by omega) (by omega) (.inl (by rw[e0,em];show tm+(j:Int)+(100001-j)-tm>100000;omega))⟩
  have hE1:(∃m0 E j,TpOk (G,(B,D,y,z,C),H,F) l ys s n m0 E j)∧goE ys s.1 n (-1)≠0:=⟨⟨_,_,_,c⟩,by rw[QIa (by decide)];decide⟩
  have hE2:(∃m0 E j,TpOk (G,(B,D,y,z,C),H,F) l ys s n m0 E j)∧goE ys s.1 n 100001≠0:=⟨⟨_,_,_,c⟩,by rw[QEX (by decide) (by decide)];decide⟩
  have hE3:(∃m0 E j,TpOk (G,(B,D,y,z,C),H,F) l ys s n m0 E j)∧goE ys s.1 n (i64.wrap (i64.wrap (100000-(j:Int))+1))≠0:=⟨⟨_,_,_,c⟩,by
   by_cases h:(j:Int)=0
   ·rw[hG.1 h];decide
   ·rw[hG.2 h];decide⟩
  have hEb:(∃m0 E j,TpOk (G,(B,D,y,z,C),H,F) l ys s n m0 E j)∧(i64.wrap (tm-1)<(m0F ys).1∨i64.wrap (tm-1)>s.1):=⟨⟨_,_,_,c⟩,.inl (by
   rw[e0,w64 (by omega) (by omega)];show tm-1<tm
   omega)⟩
  have hLn:((ys.map fun m=>m.1).length:Int)=i64.wrap (i64.wrap ((j:Int).tdiv n)+1):=by
   have hn3:(n.toNat:Int)=n:=Int.toNat_of_nonneg (by omega)
   have hd:(j:Int).tdiv n=((j/n.toNat:Nat):Int):=by
    rw[Yp (by omega),Int.natCast_ediv,hn3]
   rw[hql,hd,w64 (x:=((j/n.toNat:Nat):Int)) (by omega) (by omega),w64 (by omega) (by omega),Y];omega
  repeat' first|(apply Ea;conv=>whnf)|apply Eb|apply Ec|apply Ed|apply Ee|(apply Ei;intro _)|apply Ef M L
  all_goals(try dsimp only[Qf] at *)
  all_goals clear M L
  all_goals clear hT0 hP0
  all_goals first
   |exact hEb
   |exact hE1
   |exact hE2
   |exact hE3
   |(show n≠0;omega)
   |exact .k [] [] _ R R
   |(exfalso;have g:(j:Int)=0:=by assumption
     have g2:¬goE ys s.1 n (i64.wrap (i64.wrap (100000-(j:Int))+1))=2:=by assumption
     exact g2 (hG.1 g))
   |(exfalso;have g:¬(j:Int)=0:=by assumption
     have g2:¬goE ys s.1 n (i64.wrap (i64.wrap (100000-(j:Int))+1))=6:=by assumption
     exact g2 (hG.2 g))
   |(exfalso;have g:¬((ys.map fun m=>m.1).length:Int)=i64.wrap (i64.wrap ((j:Int).tdiv n)+1):=by assumption
     exact g hLn)
   |skip
  ·rename_i g;have g:(q:Int)<((ys.map fun m=>m.1).length:Int):=g;show 0≤(q:Int)∧(q:Int)<((ys.map fun m=>m.1).length:Int);omega
  ·rename_i g;have g:(q:Int)<((ys.map fun m=>m.1).length:Int):=g;show(q:Int).toNat<(ys.map fun m=>m.1).length;omega
  ·rename_i g1 g2;have g1:(q:Int)<((ys.map fun m=>m.1).length:Int):=g1;exfalso;have hq2:q≤j/n.toNat:=by omega
   have hg:=(c.get hq2).2;have hn3:(n.toNat:Int)=n:=Int.toNat_of_nonneg (by omega);have hc:((q*n.toNat:Nat):Int)=(q:Int)*n:=by rw[Int.natCast_mul,hn3]
   have hm:(ys.map fun m=>m.1).getD (q:Int).toNat 0=i64.wrap (tm+i64.wrap ((q:Int)*n)):=by
    have h1:(ys.map fun m=>m.1).getD q 0=(ys.getD q (dflt Qt)).1:=by
     rw[Yd,Jc,Yd];cases h:ys[q]? with
     |some x=>rfl
     |none=>have:=List.getElem?_eq_none_iff.1 h
            omega
    rw[w64 (x:=(q:Int)*n) (by omega) (by omega),w64 (by omega) (by omega)];show(ys.map fun m=>m.1).getD q 0=_;rw[h1,hg.1,hc]
   exact(bne_iff_ne.1 g2) hm
  ·rename_i g1 g2;have g1:(q:Int)<((ys.map fun m=>m.1).length:Int):=g1;apply Ex () [] [0,1,2,3,4]
   ·repeat' constructor
   ·omega
   ·exact QJ (by omega)
   trivial
end Go.Proofs.YtofgbclopbmlcaaGreat

