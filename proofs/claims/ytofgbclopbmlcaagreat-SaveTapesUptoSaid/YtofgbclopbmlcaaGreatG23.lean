/- Part 23 of the proof. Conditions: none. -/
import Derived.Test.YtofgbclopbmlcaaGreatG22
namespace Go.Proofs.YtofgbclopbmlcaaGreat
set_option maxHeartbeats 8000000
open Go.Fw
set_option linter.unusedVariables false
set_option linter.unusedSimpArgs false
set_option maxRecDepth 100000
theorem Qvj(r:List Int)(n:Nat)(k:Int):((QH r).getD n 0).tmod k=(QH r).getD n 0%k:=Yi (Qir r n).1
theorem i4B:Int.toNat 4=4:=rfl
theorem Qmw(r:List Int):(QH r).set 4 ((QH r).getD 4 0)=QH r:=rfl
theorem sf3{P A:Int}(h:0≤P∧P<256):rfV P (A%256) (-1)=nzV P (A%256):=Qzd h (by omega)
theorem sf4{P A B:Int}(h:0≤P∧P<256):rfV P ((A%256+B%256+P%2)%256) ((A%256+B%256+P%2)/256)=Qlg P ((A%256+B%256+P%2)%256) ((A%256+B%256+P%2)/256):=QfS h (by omega) (by omega)
theorem Qqa(x:Int):(1-QkK x=0∨1-QkK x=1):=by unfold QkK;split<;>omega
theorem sf5{P A B x:Int}(h:0≤P∧P<256):rfV P ((A-B-(1-P%2))%256) (1-QkK x)=Qlg P ((A-B-(1-P%2))%256) (1-QkK x):=QfS h (by omega) (Qqa x)
theorem sf6{P A B x:Int}(h:0≤P∧P<256):rfV P ((A-B)%256) (1-QkK x)=QcF (nzV P ((A-B)%256)) 1 (decide (QkK x=0)):=by
 rw[QfS h (by omega) (Qqa x),Qlg];congr 1;unfold QkK;split<;>decide
theorem QbE(x:Int)(h:0≤x∧x<256):u64 x<256:=by unfold u64;omega
theorem Qit{A B:Int}:0≤land .i64 (A%256) (B%256)∧land .i64 (A%256) (B%256)<256:=by
 have h:=QbE (A%256) (by omega);have:=Nat.and_le_left (n:=u64 (A%256)) (m:=u64 (B%256));rw[Qfx _ _ (by omega)];omega
theorem Qze{A B:Int}:0≤lor .i64 (A%256) (B%256)∧lor .i64 (A%256) (B%256)<256:=by
 have q:=QbE (A%256) (by omega);have g:=QbE (B%256) (by omega);have:=Nat.or_lt_two_pow (n:=8) q g;rw[Qgn _ _ (by omega)];omega
theorem Qvk{A B:Int}:0≤lxor .i64 (A%256) (B%256)∧lxor .i64 (A%256) (B%256)<256:=by
 have q:=QbE (A%256) (by omega);have g:=QbE (B%256) (by omega);have h3:=Nat.xor_lt_two_pow (n:=8) q g
 have e:lxor .i64 (A%256) (B%256)=((u64 (A%256) ^^^ u64 (B%256):Nat):Int):=by
  show IntKind.i64.wrap (((BitVec.ofInt 64 (A%256) ^^^ BitVec.ofInt 64 (B%256)).toNat:Nat):Int)=_;rw[BitVec.toNat_xor,QQ,QQ];exact w64 (by omega) (by omega)
 rw[e];omega
theorem sfl{P A B:Int}(h:0≤P∧P<256):rfV P (land .i64 (A%256) (B%256)) (-1)=nzV P (land .i64 (A%256) (B%256)):=Qzd h Qit
theorem sfo{P A B:Int}(h:0≤P∧P<256):rfV P (lor .i64 (A%256) (B%256)) (-1)=nzV P (lor .i64 (A%256) (B%256)):=Qzd h Qze
theorem sfx{P A B:Int}(h:0≤P∧P<256):rfV P (lxor .i64 (A%256) (B%256)) (-1)=nzV P (lxor .i64 (A%256) (B%256)):=Qzd h Qvk
theorem sfs{P A:Int}(h:0≤P∧P<256):rfV P (A%256*2%256) (A%256/128)=Qlg P (A%256*2%256) (A%256/128):=QfS h (by omega) (by omega)
theorem sfr{P A:Int}(h:0≤P∧P<256):rfV P (A%256*2%256+P%2) (A%256/128)=Qlg P (A%256*2%256+P%2) (A%256/128):=QfS h (by omega) (by omega)
theorem sft{P A:Int}(h:0≤P∧P<256):rfV P (A%256/2) (A%256%2)=Qlg P (A%256/2) (A%256%2):=QfS h (by omega) (by omega)
theorem sfu{P A:Int}(h:0≤P∧P<256):rfV P (A%256/2+128*(P%2)) (A%256%2)=Qlg P (A%256/2+128*(P%2)) (A%256%2):=QfS h (by omega) (by omega)
theorem sft'{P A:Int}(h:0≤P∧P<256):rfV P (A%256/2) (A%2)=Qlg P (A%256/2) (A%2):=QfS h (by omega) (by omega)
theorem sfu'{P A:Int}(h:0≤P∧P<256):rfV P (A%256/2+128*(P%2)) (A%2)=Qlg P (A%256/2+128*(P%2)) (A%2):=QfS h (by omega) (by omega)
theorem QNR{α}(a b c d:α):[a,b,c].getD 0 d=a:=rfl
theorem QNS{α}(a b c d:α):[a,b,c].getD 1 d=b:=rfl
theorem QNT{α}(a b c d:α):[a,b,c].getD 2 d=c:=rfl
theorem QNU{α}(a b d:α):[a,b].getD 0 d=a:=rfl
theorem QNV{α}(a b d:α):[a,b].getD 1 d=b:=rfl
theorem Qvl(r:List Int):QH (QH r)=QH r:=by simp[QH]
theorem Qhi{r:List Int}{v:Int}(h:0≤v∧v<256):QH ((QH r).set 4 v)=(QH r).set 4 v:=by
 simp[QH];omega
theorem Qqb(l:List Int)(n:Nat):l.set n (l.getD n 0)=l:=by
 apply List.ext_getElem?;intro i;rw[YY,Yd];by_cases h:n=i
 ·subst h;by_cases g:n<l.length<;>simp[g]
 ·simp[h]
theorem Qzf(l:List Int)(n:Nat)(x:Int)(h:n≠4):(l.set 4 x).set n (l.getD n 0)=l.set 4 x:=by
 rw[List.set_comm _ _ (Ne.symm h),Qqb]
theorem Qgy{F:List Int}{t i:Nat}{X Y m:Int}(h:X%m=Y%m):(F.set t X).getD i 0%m=(F.set t Y).getD i 0%m:=by
 rw[Yd,Yd,YY,YY];by_cases q:t=i
 ·rw[Yf q,Yf q];by_cases g:t<F.length
  ·rw[Yf g,Yf g];exact h
  ·rw[Yb g,Yb g]
 ·rw[Yb q,Yb q]
theorem Qmx{F:List Int}{t i:Nat}{X Y:Int}(h:t≠i):(F.set t X).getD i 0=(F.set t Y).getD i 0:=by
 rw[Yd,Yd,YY,YY,Yb h,Yb h]
theorem QkM{F:List Int}{t:Nat}{X Y:Int}(h:X%65536=Y%65536):QH (F.set t X)=QH (F.set t Y):=by
 have g:X%256=Y%256:=by omega
 simp only[QH,Qgy (F:=F) (t:=t) h,Qgy (F:=F) (t:=t) g]
theorem Qqc{F:List Int}{t:Int}{X Y:Int}(w:okT t)(j:Qaa t=false)(h:X%256=Y%256):QH (F.set t.toNat X)=QH (F.set t.toNat Y):=by
 have h7:t.toNat≠7∧t.toNat≠8:=by
  unfold Qaa at j;unfold okT at w;have:=of_decide_eq_false j;omega
 simp only[QH,Qgy (F:=F) (t:=t.toNat) h,Qmx (F:=F) (X:=X) (Y:=Y) h7.1,Qmx (F:=F) (X:=X) (Y:=Y) h7.2]
theorem QcP{x y:Int}(M:0≤x∧x<256):0≤Q6 .i64 x y∧Q6 .i64 x y<256:=by
 have h:=QbE x M;have g:=Nat.and_le_left (n:=u64 x) (m:=u64 y);have h3:=Nat.xor_lt_two_pow (n:=8) h (show u64 x &&& u64 y<2 ^ 8 by omega);rw[Qdz _ _ (by omega)];omega
theorem QHh{x y:Int}(M:0≤x∧x<256)(hy:0≤y∧y<256):0≤lor .i64 x y∧lor .i64 x y<256:=by
 have q:=QbE x M;have g:=QbE y hy;have:=Nat.or_lt_two_pow (n:=8) q g;rw[Qgn _ _ (by omega)];omega
theorem Qev{p f:Int}{on:Bool}(u:0≤p∧p<256)(C:0≤f∧f<256):0≤QcF p f on∧QcF p f on<256:=by
 cases on
 ·exact QcP u
 ·exact QHh (QcP u) C
theorem Qqd{p n:Int}(u:0≤p∧p<256):0≤nzV p n∧nzV p n<256:=Qev (Qev u (by omega)) (by omega)
theorem QHi{a:Int}(h:0≤a∧a<256):((u64 a:Nat):Int)=a:=by unfold u64;omega
theorem Qzg{p f:Int}(u:0≤p∧p<256)(C:0≤f∧f<256):QcF p f true=lor .i64 p f:=by
 have q:=QbE p u;have g:=QbE f C;have h3:=Nat.or_lt_two_pow (n:=8) q g;have J:=QcP (y:=f) u;have L:=QbE _ J;have h5:=Nat.or_lt_two_pow (n:=8) L g;show lor .i64 (Q6 .i64 p f) f=lor .i64 p f;rw[Qgn _ _ (by omega),Qgn _ _ (by omega)]
 have e:u64 (Q6 .i64 p f)=u64 p ^^^ (u64 p &&& u64 f):=by
  have:=QHi J;have e2:=Qdz p f (by omega);omega
 rw[e];congr 1;apply Nat.eq_of_testBit_eq;intro i;simp only[Nat.testBit_or,Nat.testBit_xor,Nat.testBit_and];cases(u64 p).testBit i<;>cases(u64 f).testBit i<;>rfl
theorem Qzh{P n:Int}(h:0≤P∧P<256):decide (0<land .i64 P (n%256))=(land .i64 P (n%256) != 0):=by
 have J:=Qit (A:=P) (B:=n);rw[show P%256=P by omega] at J;generalize land .i64 P (n%256)=z at *;by_cases h0:z=0
 ·subst h0;rfl
 ·have:0<z:=by omega
  simp[this,h0]
theorem QrT:G0 147 doS.spec:=by
 have K:S0 _:=Qa QkA (Qa QHc (Qa Qvg (Qa QDY (Qa Qvi (Qa QG (Qa QbC (Qb (T:=tree))))))));have N:=tabs K Qc;refine doS.gd N K Tryz.func147 fun(s:Stp) (r:List Int) u=>?_
 obtain⟨d,to,fr,n⟩:=s;have h9:r.length=9:=u _ rfl;have hl:(QH r).length=9:=rfl;have w:okT (QDW to 0 8):=by rw[Qis];exact Qhh to
 have C:okT (QDW fr 0 8):=by rw[Qis];exact Qhh fr
 have E:=Qe9 w;have H:=Qe9 C;have D:=QgT w;have G:=QgT C;clear u
 repeat' first|(apply Ea;conv=>whnf)|apply Eb|apply Ec|apply Ed|apply Ee|(apply Ei;intro _)|apply Ef N K
 all_goals first
  |exact Ya rfl
  |exact h9
  |exact E
  |exact H
  |exact D
  |exact G
  |exact rfl
  |skip
 all_goals(try refine .k [] [] _ rfl (QHb ?_ ?_))
 all_goals clear N K
 all_goals(dsimp only at *)
 all_goals(try(simp only[YH,hl];done))
 all_goals(try(rename_i h;simp[doE,h];done))
 all_goals(try simp only[Qis] at *)
 all_goals(try simp only[Qvj,i4B,Qmw])
 all_goals
  have bA:=Qir r (Qar to).toNat;have bB:=Qir r (Qar fr).toNat;have bP:=QDS r;have D:=QgT w;clear E H G
  try subst_vars
 all_goals(try(rename_i h;exact YD h (by decide)))
 all_goals(try exact⟨by omega,by omega,by unfold Qw8;omega⟩)
 all_goals(try exact⟨by omega,by unfold Qw8;omega⟩)
 all_goals(try exact(Qhi (Qqd bP)).symm)
 all_goals(try simp[-List.getD_eq_getElem?_getD,QNR,QNS,QNT,QNU,QNV,doR,QDT,QFf,shF,QKH,QHa,QIH,QHe,QHf,tnN,tnC,doE,aV,cV,sf3 bP,sf4 bP,sf5 bP,sf6 bP,sfl bP,sfo bP,sfx bP,sfs bP,sfr bP,sft bP,sfu bP,sft' bP,sfu' bP,Qmw,w_0,w_1,w_2,w_8])
 all_goals(try exact(Qhi (Qqd bP)).symm)
 all_goals(try(rw[Qhi (Qev bP (by omega)),Qzg bP (by omega)];done))
 all_goals(try(rw[Qhi (Qev bP (by omega))];rfl))
 all_goals(try(simp only[Qkz,QDv,QuC];exact QkM (by omega)))
 ·have L:Qar to=4:=by assumption
  rw[L];exact Yv QH (Qzb _ _ _)
 ·have L:¬Qar to=4:=by assumption
  rw[Qzf _ _ _ (by unfold okT at w;omega)]
 ·have j:Qaa (Qar to)=false:=by simp_all
  rw[w64 (by omega) (by omega)];simp only[j,Bool.false_eq_true,if_false,cond_false];exact Qqc w j (by omega)
 ·have j:Qaa (Qar to)=true:=by simp_all
  rw[w64 (by omega) (by omega)];simp only[j,if_true,cond_true];exact QkM (by omega)
 ·have j:Qaa (Qar to)=false:=by simp_all
  rw[show IntKind.i64.wrap (-1)=-1 by decide,w64 (by omega) (by omega),show(QH r).getD (Qar to).toNat 0+1-2=(QH r).getD (Qar to).toNat 0+-1 by omega];simp only[j,Bool.false_eq_true,if_false,cond_false];exact Qqc w j (by omega)
 ·have j:Qaa (Qar to)=true:=by simp_all
  rw[show IntKind.i64.wrap (-1)=-1 by decide,w64 (by omega) (by omega),show(QH r).getD (Qar to).toNat 0+1-2=(QH r).getD (Qar to).toNat 0+-1 by omega];simp only[j,if_true,cond_true];exact QkM (by omega)
 ·rw[show(QH r).getD (Qar to).toNat 0%256*2%256=(QH r).getD (Qar to).toNat 0*2%256 by omega]
 ·rw[show(QH r).getD (Qar to).toNat 0%256*2%256+(QH r).getD 4 0%2=((QH r).getD (Qar to).toNat 0*2+(QH r).getD 4 0%2)%256 by omega]
 ·rw[Qzh bP];generalize(land .i64 ((QH r).getD 4 0) (n%256) != 0)=b;by_cases h:fr=1<;>cases b<;>simp[h]
 ·rw[Qqb,Qvl]
  (repeat' split)<;>first|rfl|(exfalso;omega)|exact(Qvl r).symm
 all_goals trace_state
end Go.Proofs.YtofgbclopbmlcaaGreat

