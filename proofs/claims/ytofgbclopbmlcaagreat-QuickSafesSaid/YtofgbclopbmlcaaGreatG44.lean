/- Part 44 of the proof. Conditions: none. -/
import Derived.Test.YtofgbclopbmlcaaGreatG35
import Derived.Test.YtofgbclopbmlcaaGreatG32
import Derived.Test.YtofgbclopbmlcaaGreatG30
import Derived.Test.YtofgbclopbmlcaaGreatG33
import Derived.Test.YtofgbclopbmlcaaGreatG20
import Derived.Test.YtofgbclopbmlcaaGreatG28
import Derived.Test.YtofgbclopbmlcaaGreatG43
import Derived.Test.YtofgbclopbmlcaaGreatG41
import Derived.Test.YtofgbclopbmlcaaGreatG36
namespace Go.Proofs.YtofgbclopbmlcaaGreat
open Go.IntKind (i64)
open Go.Fw
set_option linter.unusedVariables false
set_option linter.unusedSimpArgs false
set_option linter.constructorNameAsVariable false
set_option maxRecDepth 100000
abbrev RgT:Ty:=.pair (.int .i64) (.pair (.int .i64) (.int .i64))
abbrev Rg:=Int×Int×Int
def stepM(l:List Rg)(n:Nat)(v:Int):List Rg :=
 if 0<l.length∧(l.getD (l.length-1) (dflt RgT)).2.2=v then l.set (l.length-1) ((l.getD (l.length-1) (dflt RgT)).1,(n:Int)+1,(l.getD (l.length-1) (dflt RgT)).2.2) else l++[((n:Int),(n:Int)+1,v)]
def QHl(f:Int→Int):Nat→List Rg
 |0=>[]
 |k+1=>stepM (QHl f k) k (f k)
structure MapInv(f:Int→Int)(l:List Rg)(n:Nat):Prop where
 len:l.length≤n
 pos:0<n→0<l.length
 last:0<l.length→(l.getD (l.length-1) (dflt RgT)).2.1=n
 zero:0<l.length→(l.getD 0 (dflt RgT)).1=0
 each:∀i<l.length,0≤(l.getD i (dflt RgT)).1∧(l.getD i (dflt RgT)).1<(l.getD i (dflt RgT)).2.1∧(l.getD i (dflt RgT)).2.1≤n∧∀a:Int,(l.getD i (dflt RgT)).1≤a→a<(l.getD i (dflt RgT)).2.1→f a=(l.getD i (dflt RgT)).2.2
 next:∀i,i+1<l.length→(l.getD (i+1) (dflt RgT)).1=(l.getD i (dflt RgT)).2.1∧(l.getD (i+1) (dflt RgT)).2.2≠(l.getD i (dflt RgT)).2.2
theorem QdE{α:Type}{l:List α}{i:Nat}{x d:α}(h:i<l.length):(l.set i x).getD i d=x:=by
 rw[List.getD_eq_getElem?_getD,List.getElem?_set_self h];rfl
theorem Qcy{α:Type}{l:List α}{i j:Nat}{x d:α}(h:i≠j):(l.set i x).getD j d=l.getD j d:=by
 rw[List.getD_eq_getElem?_getD,List.getElem?_set_ne h,List.getD_eq_getElem?_getD]
theorem Qdi{α:Type}{l:List α}{i:Nat}{x d:α}(h:i<l.length):(l++[x]).getD i d=l.getD i d:=by
 rw[List.getD_eq_getElem?_getD,List.getElem?_append_left h,List.getD_eq_getElem?_getD]
theorem Qey{α:Type}{l:List α}{i:Nat}{x d:α}(h:i=l.length):(l++[x]).getD i d=x:=by
 subst h;rw[List.getD_eq_getElem?_getD,List.getElem?_append_right (Nat.le_refl _),Nat.sub_self];rfl
theorem MapInv.step{f:Int→Int}{l:List Rg}{n:Nat}(h:MapInv f l n):MapInv f (stepM l n (f n)) (n+1):=by
 unfold stepM;split
 ·rename_i hc;obtain⟨hp,hv⟩:=hc;have hlt:l.length-1<l.length:=by omega
  have hla:=h.last hp;refine⟨by rw[List.length_set];have:=h.len;omega,fun _=>by rw[List.length_set];omega,fun _=>?_,fun _=>?_,fun i hi=>?_,fun i hi=>?_⟩
  ·rw[List.length_set,QdE hlt];simp
  ·by_cases e:l.length-1=0
   ·rw[e,QdE (by omega)];exact h.zero hp
   ·rw[Qcy (by omega)];exact h.zero hp
  ·rw[List.length_set] at hi;by_cases e:l.length-1=i
   ·subst e;obtain⟨a1,a2,a3,a4⟩:=h.each _ hi;rw[QdE hi];refine⟨a1,by show _<(n:Int)+1;omega,by show(n:Int)+1≤_;omega,fun a b1 b2=>?_⟩;have b2:a<(n:Int)+1:=b2;by_cases e2:a=n
    ·subst e2;exact hv.symm
    ·exact a4 a b1 (by omega)
   ·obtain⟨a1,a2,a3,a4⟩:=h.each _ hi;rw[Qcy e];exact⟨a1,a2,by omega,a4⟩
  ·rw[List.length_set] at hi;obtain⟨a1,a2⟩:=h.next i hi;by_cases e:l.length-1=i+1
   ·rw[e,QdE (by omega),Qcy (by omega)];exact⟨a1,a2⟩
   ·rw[Qcy e,Qcy (by omega)];exact⟨a1,a2⟩
 ·rename_i hc;refine⟨by rw[List.length_append];have:=h.len;simp;omega,fun _=>by simp,fun _=>?_,fun _=>?_,fun i hi=>?_,fun i hi=>?_⟩
  ·rw[Qey (by simp)];simp
  ·by_cases e:l.length=0
   ·have:n=0:=by
     rcases Nat.eq_zero_or_pos n with e2|e2
     ·exact e2
     ·have:=h.pos e2;omega
    rw[Qey e.symm,this];rfl
   ·rw[Qdi (by omega)];exact h.zero (by omega)
  ·rw[List.length_append,List.length_singleton] at hi;by_cases e:i=l.length
   ·rw[Qey e];refine⟨by show(0:Int)≤n;omega,by show(n:Int)<n+1;omega,by show(n:Int)+1≤_;omega,fun a b1 b2=>?_⟩;have b1:(n:Int)≤a:=b1;have b2:a<(n:Int)+1:=b2;have:a=n:=by omega
    rw[this]
   ·obtain⟨a1,a2,a3,a4⟩:=h.each i (by omega);rw[Qdi (by omega)];exact⟨a1,a2,by omega,a4⟩
  ·rw[List.length_append,List.length_singleton] at hi;by_cases e:i+1=l.length
   ·rw[Qey e,Qdi (by omega)];have hla:=h.last (by omega);have e3:l.length-1=i:=by omega
    rw[e3] at hla hc;refine⟨hla.symm,fun h2=>hc ⟨by omega,h2.symm⟩⟩
   ·rw[Qdi (by omega),Qdi (by omega)];exact h.next i (by omega)
theorem map_set{f:Int→Int}{l:List Rg}{k:Nat}{v:Int}(hl:l=QHl f k)(hv:f k=v)(hw:i64.wrap ((l.length:Int)-1)=(l.length:Int)-1)(hj:i64.wrap ((k:Int)+1)=(k:Int)+1)(h0:i64.wrap ((l.length:Int)-1)≥0)
 (hc:(l.getD (i64.wrap ((l.length:Int)-1)).toNat (dflt RgT)).2.2=v) :
 l.set (i64.wrap ((l.length:Int)-1)).toNat ((l.getD (i64.wrap ((l.length:Int)-1)).toNat (dflt RgT)).1,i64.wrap ((k:Int)+1),(l.getD (i64.wrap ((l.length:Int)-1)).toNat (dflt RgT)).2.2)=QHl f (k+1):=by
 rw[hw] at *;have e:((l.length:Int)-1).toNat=l.length-1:=by omega
 rw[e] at hc ⊢;show _=stepM (QHl f k) k (f k);rw[←hl,hj,hv];unfold stepM;rw[if_pos ⟨by omega,hc⟩]
theorem QnX(m:List Int){p h:Int}(hp:0≤p∧p<2560)(hh:0≤h∧h<2)(n:Nat):vN (Qq (QaS m) n [p,h])=Qq (QaS m) n [p,h]:=by
 rw[Qxn m hp];refine QBR (by omega) ?_;split
 ·decide
 ·exact hh
theorem Qgt(m N:List Int)(n:Nat):vN (Qq (QaS m) n (vN N))=Qq (QaS m) n (vN N) :=
 QnX m (Qc4 N) (by show 0≤N.getD 1 0%2∧N.getD 1 0%2<2;omega) n
theorem Qwh{q:Nat}{s:DS}(h:DOk q s):(dN s.1 (qF s.2),dM s.2)=s:=by
 obtain⟨l,m⟩:=s;obtain⟨h1,h2,h3⟩:=h;have h1:dOk q l:=h1;have h2:m.length=q*256:=h2;have e:qF m=q:=by unfold qF;omega
 show(dN l (qF m),dM m)=(l,m)
 have e2:dM m=m:=by unfold dM;rw[e,←h2,List.take_length]
 rw[e,QBS h1,e2]
theorem Qwi{n:Nat}{l:List Int}(h:l.length=n):over (List.replicate n 0) l 0=l:=by
 rw[QeV,List.drop_zero,List.length_replicate,Nat.sub_zero,List.drop_of_length_le (by simp[h]),List.append_nil,List.take_of_length_le (by omega)]
theorem Qix(c:Cv)(M:List Int):QaT c (QaT c M)=QaT c M:=Qwi (Qkb c M)
theorem Qiy(c:Cv)(N:List Int):memN c (memN c N)=memN c N:=by
 unfold memN;split
 ·show[N.getD 0 0%Qao c%Qao c]=_;rw[Int.emod_emod]
 ·rfl
theorem QS(c:Cv)(d:Dv):QcR c (QcR c d)=QcR c d:=by
 show(memN c (memN c d.1),QaT c (QaT c d.2))=_;rw[Qiy,Qix];rfl
theorem Qdk(N:List Int):Qax (Qax N)=Qax N:=by
 show[N.getD 0 0%256%256,N.getD 1 0%256%256,N.getD 2 0%256%256]=_;rw[Int.emod_emod,Int.emod_emod,Int.emod_emod];rfl
theorem QbT(M:List Int):vM (vM M)=vM M:=QBQ (QaN M)
def itF(c:Cv)(d:Dv)(j:Nat):Dv:=sel c.2.1 (QcR c d) (QaX j (Qbf d.1),[]) (Qax d.1,[]) (Qq Qab j (Qa9 d.1),[]) (Qq (QaS (vM d.2)) j (vN d.1),vM d.2) (Qq QaO j (Qah d.1),[]) (Qa6 Qat j (dN d.1 (qF d.2),dM d.2)) ([],[])
theorem Qhc(c:Cv)(d:Dv):itF c d 0=Q4 c d:=by
 obtain⟨cn,ck,cb,cs,cd⟩:=c;rcases kinds ck with rfl|rfl|rfl|rfl|rfl|rfl|rfl|rfl|rfl|hx
 all_goals first
  |rfl
  |(unfold itF Q4;rw[Qaa hx,Qaa hx])
theorem Qqf(c:Cv)(d:Dv)(k:Int):Qc9 c d k=itF c d k.toNat:=by
 obtain⟨cn,ck,cb,cs,cd⟩:=c;rcases kinds ck with rfl|rfl|rfl|rfl|rfl|rfl|rfl|rfl|rfl|hx
 all_goals first
  |rfl
  |(unfold itF Qc9;rw[Qaa hx,Qaa hx])
theorem Qqg(c:Cv){d:Dv}(hu:u8s d.2)(j:Nat):Qh c (itF c d j)=itF c d (j+1):=by
 obtain⟨cn,ck,cb,cs,cd⟩:=c;obtain⟨N,M⟩:=d;rcases kinds ck with rfl|rfl|rfl|rfl|rfl|rfl|rfl|rfl|rfl|hx
 ·exact QS (cn,0,cb,cs,cd) (N,M)
 ·exact QS (cn,1,cb,cs,cd) (N,M)
 ·exact QS (cn,2,cb,cs,cd) (N,M)
 ·show(QaE (Qbf (QaX j (Qbf N))),([]:List Int))=(QaX (j+1) (Qbf N),[])
  rw[QfF,Qgk]
 ·show(Qax (Qax N),([]:List Int))=(Qax N,[])
  rw[Qdk]
 ·show(Qab (Qa9 (Qq Qab j (Qa9 N))),([]:List Int))=(Qq Qab (j+1) (Qa9 N),[])
  rw[Qel,QR]
 ·show(QaS (vM (vM M)) (vN (Qq (QaS (vM M)) j (vN N))),vM (vM M))=(Qq (QaS (vM M)) (j+1) (vN N),vM M)
  rw[QbT,Qgt,QR]
 ·show(QaO (Qah (Qq QaO j (Qah N))),([]:List Int))=(Qq QaO (j+1) (Qah N),[])
  rw[Qgu,QR]
 ·show Qat (dN (Qa6 Qat j (dN N (qF M),dM M)).1 (qF (Qa6 Qat j (dN N (qF M),dM M)).2),dM (Qa6 Qat j (dN N (qF M),dM M)).2)=Qa6 Qat (j+1) (dN N (qF M),dM M);rw[Qwh (QgV (QED N hu) j),Qgh]
 ·unfold Qh itF;rw[Qaa hx,Qaa hx]
theorem QBa{x:Int}(h:(Lit.int .i64 x).wf=true):i6Q x:=by
 have:=h;simp[Lit.wf] at this;exact this
theorem QJi{c:Cv}(h:Wf gC.t c):cP c:=⟨QBa h.2.2.1,QBa h.2.2.2.1,Nat.le_trans (Nat.le_of_eq (Nat.mul_one _).symm) h.2.2.2.2.1⟩
theorem QJj{d:Dv}(h:Wf gD.t d):dP d:=⟨Nat.le_trans (Nat.le_of_eq (Nat.mul_one _).symm) (Nat.le_trans h.2.1 (by decide)),QsZ h.2.2⟩
theorem Qwj{b:Bd}(h:Wf gBd.t b):bdP b :=
 ⟨⟨h.2.2.1.1,h.2.2.2.1⟩,fun c hc=>⟨QJi (h.2.2.1.2 c hc),(h.2.2.1.2 c hc).1⟩⟩
theorem QDG{b:Bd}(h:Wf gBd.t b):QD9 b:=⟨Qwj h,fun w hw=>(h.2.2.2.2 w hw).1⟩
theorem QDH{l:List Inp}(h:Wf (.sl Qw) l):l.length≤4611686018427387904:=Nat.le_trans (Nat.le_mul_of_pos_right _ (by decide)) (Nat.le_trans h.1 (by decide))
theorem QzD{b:Bd}(hb:bd gBd.t b≤1048576){c:Cv}(hc:c∈b.2.2.1):List.length c.2.2.2.2≤1048576:=by
 have h1:=QnW (bd Qe) hc;have e:bd gBd.t b=bd .str b.1+(bd QCz b.2.1+(((List.map (bd Qe) b.2.2.1).sum+1)+bd (.sl Qr) b.2.2.2)):=rfl;have e2:bd Qe c=bd .str c.1+(1+(1+(1+((List.map (bd (.int .u8)) c.2.2.2.2).sum+1)))):=rfl;rw[QfX] at e2;omega
theorem Qwk(d:Dv):bd Qj d=(List.length d.1+1)+(List.length d.2+1):=by
 have e:bd Qj d=((List.map (bd (.int .i64)) d.1).sum+1)+((List.map (bd (.int .u8)) d.2).sum+1):=rfl;rw[QfX,QfX] at e;exact e
theorem Qwl{α:Type}(m:α→Nat)(hm:∀x,2≤m x):∀l:List α,2*l.length≤(l.map m).sum
 | []=>Nat.le_refl _
 |y::r=>by
  rw[List.map_cons,List.sum_cons,List.length_cons];have:=Qwl m hm r;have:=hm y;omega
theorem Qiz{b:Bd}{m:Mach}(h1:Wf gBd.t b)(h2:Wf QfK m)(hb:bd gBd.t b≤1048576)(hm:bd QfK m≤1048576)(hl:b.2.2.1.length=m.2.2.1.length):MOk 1118576 b m∧m.2.2.1.length*(1118576+200)≤1099511627776:=by
 have e:bd QfK m=1+(bd QCA m.2.1+(((List.map (bd Qj) m.2.2.1).sum+1)+(1+(1+1)))):=rfl;have h3:=Qwj h1;refine⟨⟨by decide,by decide,fun c hc=>⟨(h3.2 c hc).1,?_⟩,fun d hd=>⟨QsZ (h2.2.2.1.2 d hd).2.2,?_⟩,hl⟩,?_⟩
 ·have:=QzD hb hc;omega
 ·have h4:=QnW (bd Qj) hd;rw[Qwk] at h4;omega
 ·have h5:=Qwl (bd Qj) (fun d=>by rw[Qwk];omega) m.2.2.1;omega
theorem QmF{b:Bd}{m:Mach}{l:List Inp}(h1:Wf gBd.t b)(h2:Wf QfK m)(h3:Wf (.sl Qw) l)(hb:bd gBd.t b≤1048576)(hm:bd QfK m≤1048576):MrsP b m l:=by
 have gm:QcB m∧Qk2 m:=⟨Qzy h2 hm,fun d hd=>QsZ (h2.2.2.1.2 d hd).2.2⟩
 have ht:Qa0 b.2.1 m.2.1:=Qzz h2.2.1.1.1 h1.2.1;refine⟨⟨QDG h1,QDH h3⟩,QmD gm.1,ht,gm,fun hl=>⟨_,(Qiz h1 h2 hb hm hl).1⟩,fun hl k=>?_⟩;obtain⟨k1,k2⟩:=Qiz h1 h2 hb hm hl;exact(QmC k1 k2 ht (QDD h1.2.1) gm k).1
theorem QDI(xs:Args QDF.gs)(hw:WfA QDF.gs xs)(hb:Go.Fw.bdA QDF.gs xs≤1048576):MrsP xs.1 xs.2.1 xs.2.2.1:=by
 obtain⟨b,m,l,n,u⟩:=xs;have e:Go.Fw.bdA QDF.gs (b,m,l,n,u)=bd gBd.t b+(bd QfK m+(bd (.sl Qw) l+(1+0))):=rfl;rw[e] at hb;exact QmF (b:=b) (m:=m) (l:=l) hw.1 hw.2.1 hw.2.2.1 (by omega) (by omega)
theorem QiA(m:List Int)(p:Int)(B:Nat)(hB:B≤2560):∀n:Nat,n≤2560→(∀k:Nat,2560-n+1≤k→k≤B→QdM m p k=false)→(B:Int)≤QeG m p n
 |0,_,_=>by show(B:Int)≤100000;omega
 |n+1,hn,h=>by
  cases hd:QdM m p (2560-n) with
  |true =>
   rw[QfB m p hd];by_cases hk:2560-n≤B
   ·have:=h (2560-n) (by omega) hk;rw[show((2560-n:Nat):Int)=2560-(n:Int) by omega,hd] at this;cases this
   ·omega
  |false =>
   rw[Qem m p hd];exact QiA m p B hB n (by omega) fun k h1 h2=>h k (by omega) h2
theorem Qez(m:List Int)(p:Int)(k:Nat):∀n:Nat,n≤2560→2560-n+1≤k→k≤2560→(k:Int)≤QeG m p n→QdM m p k=false
 |0,_,h1,h2,_=>by omega
 |n+1,hn,h1,h2,h3=>by
  cases hd:QdM m p (2560-n) with
  |true =>
   rw[QfB m p hd] at h3;omega
  |false =>
   rw[Qem m p hd] at h3;by_cases hk:k=2560-n
   ·rw[hk,show((2560-n:Nat):Int)=2560-(n:Int) by omega];exact hd
   ·exact Qez m p k n (by omega) (by omega) h2 h3
theorem QmG(m:List Int)(p:Int):∀n:Nat,n≤2560→(∀k:Nat,2560-n+1≤k→k≤2560→QdM m p k=false)→QeG m p n=100000
 |0,_,_=>rfl
 |n+1,hn,h=>by
  have hd:=h (2560-n) (by omega) (by omega);rw[show((2560-n:Nat):Int)=2560-(n:Int) by omega] at hd;rw[Qem m p hd];exact QmG m p n (by omega) fun k h1 h2=>h k (by omega) h2
theorem Qqh(m:List Int)(p:Int):∀n:Nat,n≤2560→QeG m p n=100000∨QeG m p n≤2559
 |0,_=>.inl rfl
 |n+1,hn=>by
  cases hd:QdM m p (2560-n) with
  |true=>rw[QfB m p hd];right;omega
  |false=>rw[Qem m p hd];exact Qqh m p n (by omega)
theorem QrY{m:List Int}{p:Int}(h:Qb5 m p>0):QY m ((p+1)%2560)=QY m p∧Qb5 m ((p+1)%2560)≥Qb5 m p-1:=by
 unfold Qb5 at *;have h1:QdM m p 1=false:=Qez m p 1 2560 (by decide) (by decide) (by decide) (by omega)
 have e1:QY m ((p+1)%2560)=QY m p:=by
  unfold QdM at h1;simpa using h1
 refine⟨e1,?_⟩
 have hshift:∀k:Nat,k≤2560→(k+1≤2560→QdM m p ((k+1:Nat):Int)=false)→QdM m ((p+1)%2560) k=false:=fun k hk hh=>by
  unfold QdM at *;rw[e1];have e2:((p+1)%2560+(k:Int))%2560=(p+((k+1:Nat):Int))%2560:=by omega
  rw[e2];by_cases h2:k+1≤2560
  ·exact hh h2
  ·have e3:(p+((k+1:Nat):Int))%2560=(p+1)%2560:=by omega
   rw[e3,e1];simp
 rcases Qqh m p 2560 (by decide) with hr|hr
 ·have:QeG m ((p+1)%2560) 2560=100000:=QmG m _ 2560 (by decide) fun k _ hk=>hshift k hk fun h2=>Qez m p (k+1) 2560 (by decide) (by omega) h2 (by omega)
  omega
 ·have:=QiA m ((p+1)%2560) (QeG m p 2560-1).toNat (by omega) 2560 (by decide) fun k _ hk=>hshift k (by omega) fun h2=>Qez m p (k+1) 2560 (by decide) (by omega) h2 (by omega)
  omega
theorem QiB{l:List Int}(h:vOk l)(hq:Qg l>0):(Qx 1 l).getD 1 0=l.getD 1 0∧(Qx 1 l).getD 4 0=l.getD 4 0∧Qg (Qx 1 l)≥Qg l-1:=by
 cases h with
 | @mk p v r c f w hp hv hr hc hf hw =>
   have hq:min (if p>0 then max 1 (p-c)-1 else 100000) (if r>0∧v>0 then max 1 (r*64-w)-1 else 100000)>0:=hq
   have a1:¬((r>0∧v>0)∧w+1≥r*64):=fun hh=>by
    rw[if_pos hh.1] at hq;have:=hh.2;split at hq<;>omega
   have a2:¬(p>0∧c+1≥p):=fun hh=>by
    rw[if_pos hh.1] at hq;have:=hh.2;split at hq<;>omega
   have e:Qx 1 [p,v,r,c,f,w]=[p,v,r,if p>0 then c+1 else c,f,if r>0∧v>0 then w+1 else w]:=by
    unfold Qx;dsimp only;rw[if_neg a1,if_neg a2];congr 1;congr 1;congr 1;congr 1
    ·split
     ·rename_i h1;rw[if_neg (fun h2=>a2 ⟨h1,h2⟩)]
     ·rfl
    ·congr 1;congr 1;split
     ·rename_i h1;rw[if_neg (fun h2=>a1 ⟨h1,h2⟩)]
     ·rfl
   rw[e];refine⟨rfl,rfl,?_⟩;show min _ _≥min _ _-1;split<;>split<;>omega
theorem QL3{L:List Int}(h:vN L=L):∃p hh,L=[p,hh]∧(0≤p∧p<2560)∧(0≤hh∧hh<2):=by
 refine⟨vP L,vH L,h.symm,Qc4 L,?_⟩;dsimp only[vH];omega
theorem QrZ(cn:ByteArray)(cb cs:Int)(cd N M:List Int)(hu:u8s M)(j:Nat)(h:Qb8 (cn,3,cb,cs,cd) (itF (cn,3,cb,cs,cd) (N,M) j)>0) :
 Qal (cn,3,cb,cs,cd) (itF (cn,3,cb,cs,cd) (N,M) (j+1))=Qal (cn,3,cb,cs,cd) (itF (cn,3,cb,cs,cd) (N,M) j)∧Qaz (cn,3,cb,cs,cd) (itF (cn,3,cb,cs,cd) (N,M) (j+1))=Qaz (cn,3,cb,cs,cd) (itF (cn,3,cb,cs,cd) (N,M) j)∧Qb8 (cn,3,cb,cs,cd) (itF (cn,3,cb,cs,cd) (N,M) (j+1))≥Qb8 (cn,3,cb,cs,cd) (itF (cn,3,cb,cs,cd) (N,M) j)-1:=by
 have e0:itF (cn,3,cb,cs,cd) (N,M) j=(QaX j (Qbf N),[]):=rfl;have e1:itF (cn,3,cb,cs,cd) (N,M) (j+1)=(QaX (j+1) (Qbf N),[]):=rfl;have hf:=QfF N j;rw[e0] at h;rw[e0,e1,Qgk];generalize QaX j (Qbf N)=L at *;have h:Qb6 L>0:=h;refine⟨show(0:Int)=0 from rfl,?_⟩;show(decide (tF (QaE L)=1)&&decide (tC (QaE L)≥4))=(decide (tF L=1)&&decide (tC L≥4))∧Qb6 (QaE L)≥Qb6 L-1
 obtain⟨a,b,cc,f,rfl,ha,hb,hcc,hff⟩:∃a b cc f:Int,L=[a,b,cc,f]∧(0≤a∧a<65536)∧(0≤b∧b<65536)∧(0≤cc∧cc<8)∧(0≤f∧f<2) :=
  ⟨_,_,_,_,hf.symm,by omega,by omega,by omega,by omega⟩
 have h:(if cc%8%2=0 then 100000 else a%65536)>0:=h;by_cases hc:cc%2=0
 ·have e:QaE [a,b,cc,f]=[a,b,cc,f]:=if_pos hc;rw[e];exact⟨rfl,by omega⟩
 ·rw[if_neg (by omega)] at h
  have e:QaE [a,b,cc,f]=[a-1,b,cc,f]:=by
   unfold QaE;dsimp only;rw[if_neg hc,if_pos (by omega)]
  rw[e];refine⟨rfl,?_⟩;show(if cc%8%2=0 then 100000 else (a-1)%65536)≥(if cc%8%2=0 then 100000 else a%65536)-1;rw[if_neg (by omega),if_neg (by omega)];omega
theorem Qr0(cn:ByteArray)(cb cs:Int)(cd N M:List Int)(hu:u8s M)(j:Nat)(h:Qb8 (cn,5,cb,cs,cd) (itF (cn,5,cb,cs,cd) (N,M) j)>0) :
 Qal (cn,5,cb,cs,cd) (itF (cn,5,cb,cs,cd) (N,M) (j+1))=Qal (cn,5,cb,cs,cd) (itF (cn,5,cb,cs,cd) (N,M) j)∧Qaz (cn,5,cb,cs,cd) (itF (cn,5,cb,cs,cd) (N,M) (j+1))=Qaz (cn,5,cb,cs,cd) (itF (cn,5,cb,cs,cd) (N,M) j)∧Qb8 (cn,5,cb,cs,cd) (itF (cn,5,cb,cs,cd) (N,M) (j+1))≥Qb8 (cn,5,cb,cs,cd) (itF (cn,5,cb,cs,cd) (N,M) j)-1:=by
 have e0:itF (cn,5,cb,cs,cd) (N,M) j=(Qq Qab j (Qa9 N),[]):=rfl;have e1:itF (cn,5,cb,cs,cd) (N,M) (j+1)=(Qq Qab (j+1) (Qa9 N),[]):=rfl;have hf:=Qel N j;rw[e0] at h;rw[e0,e1,QR];generalize Qq Qab j (Qa9 N)=L at *;have h:Qb7 L>0:=h;show s6 (Qab L)*256+s7 (Qab L)=s6 L*256+s7 L∧QcQ (Qab L)=QcQ L∧Qb7 (Qab L)≥Qb7 L-1
 obtain⟨a,l,g,f,o,cc,s,z,rfl,hl⟩:∃a l g f o cc s z:Int,L=[a,l,g,f,o,cc,s,z]∧(0≤l∧l<64) :=
  ⟨_,_,_,_,_,_,_,_,hf.symm,by dsimp only[s1];omega⟩
 have h:(if l%64=0 then 100000 else l%64-1)>0:=h;by_cases h0:l>0
 ·rw[if_neg (by omega)] at h
  have e:Qab [a,l,g,f,o,cc,s,z]=[a,l-1,g,f,o,cc,s,z]:=by
   unfold Qab;dsimp only;rw[if_pos h0,if_neg (by omega)]
  rw[e];refine⟨rfl,?_,?_⟩
  ·show((decide (cc%4%2=1)&&decide (f%2=1))||(decide (cc%4≥2)&&decide ((l-1)%64=0)))=((decide (cc%4%2=1)&&decide (f%2=1))||(decide (cc%4≥2)&&decide (l%64=0)))
   rw[decide_eq_false (show¬(l-1)%64=0 by omega),decide_eq_false (show¬l%64=0 by omega)]
  ·show(if (l-1)%64=0 then 100000 else (l-1)%64-1)≥(if l%64=0 then 100000 else l%64-1)-1;rw[if_neg (by omega),if_neg (by omega)];omega
 ·have e:Qab [a,l,g,f,o,cc,s,z]=[a,l,g,f,o,cc,s,z]:=if_neg h0;rw[e];exact⟨rfl,rfl,by omega⟩
theorem Qr1(cn:ByteArray)(cb cs:Int)(cd N M:List Int)(hu:u8s M)(j:Nat)(h:Qb8 (cn,6,cb,cs,cd) (itF (cn,6,cb,cs,cd) (N,M) j)>0) :
 Qal (cn,6,cb,cs,cd) (itF (cn,6,cb,cs,cd) (N,M) (j+1))=Qal (cn,6,cb,cs,cd) (itF (cn,6,cb,cs,cd) (N,M) j)∧Qaz (cn,6,cb,cs,cd) (itF (cn,6,cb,cs,cd) (N,M) (j+1))=Qaz (cn,6,cb,cs,cd) (itF (cn,6,cb,cs,cd) (N,M) j)∧Qb8 (cn,6,cb,cs,cd) (itF (cn,6,cb,cs,cd) (N,M) (j+1))≥Qb8 (cn,6,cb,cs,cd) (itF (cn,6,cb,cs,cd) (N,M) j)-1:=by
 have e0:itF (cn,6,cb,cs,cd) (N,M) j=(Qq (QaS (vM M)) j (vN N),vM M):=rfl;have e1:itF (cn,6,cb,cs,cd) (N,M) (j+1)=(Qq (QaS (vM M)) (j+1) (vN N),vM M):=rfl;have hf:=Qgt (vM M) N j;rw[e0] at h;rw[e0,e1,QR];generalize Qq (QaS (vM M)) j (vN N)=L at *;obtain⟨p,hh,rfl,hp,hh2⟩:=QL3 hf;have h:Qb5 (vM (vM M)) (vP [p,hh])>0:=h
 have ep:vP [p,hh]=p:=by
  show(if ([p,hh]:List Int).length=0 then 2559 else p%2560)=p;rw[if_neg (by simp)];omega
 have ep2:∀y,vP [(p+1)%2560,y]=(p+1)%2560:=fun y=>by
  show(if ([(p+1)%2560,y]:List Int).length=0 then 2559 else (p+1)%2560%2560)=_;rw[if_neg (by simp)];omega
 rw[ep] at h;obtain⟨g1,g2⟩:=QrY h;refine⟨?_,rfl,?_⟩
 ·show QY (vM (vM M)) (vP [(p+1)%2560,_])=QY (vM (vM M)) (vP [p,hh]);rw[ep,ep2];exact g1
 ·show Qb5 (vM (vM M)) (vP [(p+1)%2560,_])≥Qb5 (vM (vM M)) (vP [p,hh])-1;rw[ep,ep2];exact g2
theorem Qr2(cn:ByteArray)(cb cs:Int)(cd N M:List Int)(hu:u8s M)(j:Nat)(h:Qb8 (cn,7,cb,cs,cd) (itF (cn,7,cb,cs,cd) (N,M) j)>0) :
 Qal (cn,7,cb,cs,cd) (itF (cn,7,cb,cs,cd) (N,M) (j+1))=Qal (cn,7,cb,cs,cd) (itF (cn,7,cb,cs,cd) (N,M) j)∧Qaz (cn,7,cb,cs,cd) (itF (cn,7,cb,cs,cd) (N,M) (j+1))=Qaz (cn,7,cb,cs,cd) (itF (cn,7,cb,cs,cd) (N,M) j)∧Qb8 (cn,7,cb,cs,cd) (itF (cn,7,cb,cs,cd) (N,M) (j+1))≥Qb8 (cn,7,cb,cs,cd) (itF (cn,7,cb,cs,cd) (N,M) j)-1:=by
 have e0:itF (cn,7,cb,cs,cd) (N,M) j=(Qq QaO j (Qah N),[]):=rfl;have e1:itF (cn,7,cb,cs,cd) (N,M) (j+1)=(Qq QaO (j+1) (Qah N),[]):=rfl;have hf:=Qgu N j;rw[e0] at h;rw[e0,e1,QR];generalize Qq QaO j (Qah N)=L at *;have h:min (Qg (vo L 0)) (Qg (vo L 6))>0:=h;have eL:L=vo L 0++vo L 6:=hf.symm
 have e2:QaO L=Qx 1 (vo L 0)++Qx 1 (vo L 6):=by
  conv=>lhs;rw[eL]
  exact Qh0 (Qaf L 0).len
 have p0:=QiB (Qaf L 0) (by omega);have p6:=QiB (Qaf L 6) (by omega);have k0:=QbO (Qaf L 0) (k:=1) (by omega);have k6:=QbO (Qaf L 6) (k:=1) (by omega)
 have hvo:∀{x y:List Int},vOk x→vOk y→vo (x++y) 0=x∧vo (x++y) 6=y:=fun hx hy=>by
  cases hx with
  |mk a1 a2 a3 a4 a5 a6 =>
   cases hy with
   |mk b1 b2 b3 b4 b5 b6 =>
    constructor
    ·unfold vo;simp only[List.cons_append,List.nil_append,List.getD_cons_zero,List.getD_cons_succ];congr 1
     ·omega
     ·congr 1
      ·omega
      ·congr 1
       ·omega
       ·congr 1
        ·omega
        ·congr 1
         ·omega
         ·congr 1;omega
    ·unfold vo;simp only[List.cons_append,List.nil_append,List.getD_cons_zero,List.getD_cons_succ];congr 1
     ·omega
     ·congr 1
      ·omega
      ·congr 1
       ·omega
       ·congr 1
        ·omega
        ·congr 1
         ·omega
         ·congr 1;omega
 have hv2:=hvo k0 k6;rw[←e2] at hv2;have sh:∀X:List Int,QiL X=(vo X 0).getD 1 0*(vo X 0).getD 4 0+(vo X 6).getD 1 0*(vo X 6).getD 4 0:=fun X=>rfl
 refine⟨?_,rfl,?_⟩
 ·show QiL (QaO L)=QiL L;rw[sh,sh,hv2.1,hv2.2,p0.1,p0.2.1,p6.1,p6.2.1]
 ·show min (Qg (vo (QaO L) 0)) (Qg (vo (QaO L) 6))≥min (Qg (vo L 0)) (Qg (vo L 6))-1;rw[hv2.1,hv2.2];have:=p0.2.2;have:=p6.2.2;omega
theorem Qr3(cn:ByteArray)(cb cs:Int)(cd N M:List Int)(hu:u8s M)(j:Nat)(h:Qb8 (cn,8,cb,cs,cd) (itF (cn,8,cb,cs,cd) (N,M) j)>0) :
 Qal (cn,8,cb,cs,cd) (itF (cn,8,cb,cs,cd) (N,M) (j+1))=Qal (cn,8,cb,cs,cd) (itF (cn,8,cb,cs,cd) (N,M) j)∧Qaz (cn,8,cb,cs,cd) (itF (cn,8,cb,cs,cd) (N,M) (j+1))=Qaz (cn,8,cb,cs,cd) (itF (cn,8,cb,cs,cd) (N,M) j)∧Qb8 (cn,8,cb,cs,cd) (itF (cn,8,cb,cs,cd) (N,M) (j+1))≥Qb8 (cn,8,cb,cs,cd) (itF (cn,8,cb,cs,cd) (N,M) j)-1:=by
 have e0:itF (cn,8,cb,cs,cd) (N,M) j=Qa6 Qat j (dN N (qF M),dM M):=rfl;have e1:itF (cn,8,cb,cs,cd) (N,M) (j+1)=Qa6 Qat (j+1) (dN N (qF M),dM M):=rfl;have hok:=QgV (QED N hu) j;rw[e0] at h;rw[e0,e1,Qgh];generalize Qa6 Qat j (dN N (qF M),dM M)=S at *;obtain⟨L,mm⟩:=S;have hn:=hok.n;cases hn with
 | @mk k t cc s i l dd r o x hk ht hc hs hi hl hd hr ho hx =>
   have hcm:cc%8=cc:=by omega
   have hlm:l%64=l:=by omega
   have hrst:∀k t cc s i l dd r o x mm,(0≤cc∧cc≤4)→(0≤l∧l<64)→Qb8 (cn,8,cb,cs,cd) ([k,t,cc,s,i,l,dd,r,o,x],mm)=if cc=0 then 100000 else max 1 l-1:=fun k t cc s i l dd r o x mm h1 h2=>by
    show(if (if cc%8>4 then 0 else cc%8)=0 then 100000 else max 1 (l%64)-1)=_;rw[show cc%8=cc by omega,show l%64=l by omega,if_neg (show¬cc>4 by omega)]
   rw[hrst _ _ _ _ _ _ _ _ _ _ _ hc hl] at h ⊢;by_cases h0:cc>0
   ·rw[if_neg (by omega)] at h ⊢;by_cases hz:cc>2∧k=0
    ·have e:Qat ([k,t,cc,s,i,l,dd,r,o,x],mm)=([k,t,0,s,i,l,dd,r,o,x],mm):=by
      unfold Qat;dsimp only;rw[if_pos h0,if_pos hz]
     rw[e];refine⟨show t%4=t%4 from rfl,show(decide (x%2=1)&&decide (r%2=1))=(decide (x%2=1)&&decide (r%2=1)) from rfl,?_⟩;rw[hrst _ _ _ _ _ _ _ _ _ _ _ (by omega) hl];rw[if_pos rfl];omega
    ·have e:Qat ([k,t,cc,s,i,l,dd,r,o,x],mm)=([k,t,cc,s,i,l-1,dd,r,o,x],mm):=by
      unfold Qat;dsimp only;rw[if_pos h0,if_neg hz,if_pos (by omega)]
     rw[e];refine⟨show t%4=t%4 from rfl,show(decide (x%2=1)&&decide (r%2=1))=(decide (x%2=1)&&decide (r%2=1)) from rfl,?_⟩;rw[hrst _ _ _ _ _ _ _ _ _ _ _ hc (by omega),if_neg (by omega)];omega
   ·have e:Qat ([k,t,cc,s,i,l,dd,r,o,x],mm)=([k,t,cc,s,i,l,dd,r,o,x],mm):=by
     unfold Qat;dsimp only;rw[if_neg h0]
    rw[e];refine⟨show t%4=t%4 from rfl,show(decide (x%2=1)&&decide (r%2=1))=(decide (x%2=1)&&decide (r%2=1)) from rfl,?_⟩;rw[hrst _ _ _ _ _ _ _ _ _ _ _ hc hl];omega
theorem Qwm(c:Cv)(d:Dv)(hu:u8s d.2)(j:Nat)(h:Qb8 c (itF c d j)>0) :
 Qal c (itF c d (j+1))=Qal c (itF c d j)∧Qaz c (itF c d (j+1))=Qaz c (itF c d j)∧Qb8 c (itF c d (j+1))≥Qb8 c (itF c d j)-1:=by
 obtain⟨cn,ck,cb,cs,cd⟩:=c;obtain⟨N,M⟩:=d;rcases kinds ck with rfl|rfl|rfl|rfl|rfl|rfl|rfl|rfl|rfl|hx
 ·exact⟨rfl,rfl,by show(100000:Int)≥100000-1;omega⟩
 ·exact⟨rfl,rfl,by show(100000:Int)≥100000-1;omega⟩
 ·exact⟨rfl,rfl,by show(100000:Int)≥100000-1;omega⟩
 ·exact QrZ cn cb cs cd N M hu j h
 ·exact⟨rfl,rfl,by show(100000:Int)≥100000-1;omega⟩
 ·exact Qr0 cn cb cs cd N M hu j h
 ·exact Qr1 cn cb cs cd N M hu j h
 ·exact Qr2 cn cb cs cd N M hu j h
 ·exact Qr3 cn cb cs cd N M hu j h
 ·have r0:∀d,Qb8 (cn,ck,cb,cs,cd) d=100000:=fun d=>by unfold Qb8;rw[Qaa hx]
  have k0:∀d,Qaz (cn,ck,cb,cs,cd) d=false:=fun d=>by unfold Qaz;rw[Qaa hx]
  have w0:∀d,Qal (cn,ck,cb,cs,cd) d=0:=fun d=>by unfold Qal;rw[Qaa hx]
  rw[r0,r0,k0,k0,w0,w0];exact⟨rfl,rfl,by omega⟩
theorem Qgv(N:List Int):vP (vN N)=vP N:=by
 have:=Qc4 N;show(if ([vP N,vH N]:List Int).length=0 then 2559 else vP N%2560)=vP N;rw[if_neg (by simp)];omega
theorem QzE(N:List Int):vo (Qah N) 0=vo N 0:=by
 show[N.getD 0 0%4096%4096,N.getD 1 0%16%16,N.getD 2 0%256%256,N.getD 3 0%4096%4096,N.getD 4 0%2%2,N.getD 5 0%16384%16384]=_;simp only[Int.emod_emod];rfl
theorem QzF(N:List Int):vo (Qah N) 6=vo N 6:=by
 show[N.getD 6 0%4096%4096,N.getD 7 0%16%16,N.getD 8 0%256%256,N.getD 9 0%4096%4096,N.getD 10 0%2%2,N.getD 11 0%16384%16384]=_;simp only[Int.emod_emod];rfl
theorem Qcz(c:Cv)(d:Dv):Qal c (Q4 c d)=Qal c d∧Qaz c (Q4 c d)=Qaz c d∧Qb8 c (Q4 c d)=Qb8 c d:=by
 obtain⟨cn,ck,cb,cs,cd⟩:=c;obtain⟨N,M⟩:=d;rcases kinds ck with rfl|rfl|rfl|rfl|rfl|rfl|rfl|rfl|rfl|hx
 ·exact⟨show(0:Int)=0 from rfl,show false=false from rfl,show(100000:Int)=100000 from rfl⟩
 ·exact⟨show(0:Int)=0 from rfl,show false=false from rfl,show(100000:Int)=100000 from rfl⟩
 ·exact⟨show(0:Int)=0 from rfl,show false=false from rfl,show(100000:Int)=100000 from rfl⟩
 ·refine⟨show(0:Int)=0 from rfl,?_,?_⟩
  ·show(decide (N.getD 3 0%2%2=1)&&decide (N.getD 2 0%8%8≥4))=(decide (N.getD 3 0%2=1)&&decide (N.getD 2 0%8≥4))
   rw[Int.emod_emod,Int.emod_emod]
  ·show(if N.getD 2 0%8%8%2=0 then 100000 else N.getD 0 0%65536%65536)=(if N.getD 2 0%8%2=0 then 100000 else N.getD 0 0%65536)
   rw[Int.emod_emod,Int.emod_emod]
 ·refine⟨?_,show false=false from rfl,show(100000:Int)=100000 from rfl⟩;show land .i64 (N.getD 1 0%256%256) (N.getD 2 0%256%256)=land .i64 (N.getD 1 0%256) (N.getD 2 0%256);rw[Int.emod_emod,Int.emod_emod]
 ·refine⟨?_,?_,?_⟩
  ·show N.getD 6 0%1048576%1048576*256+N.getD 7 0%256%256=N.getD 6 0%1048576*256+N.getD 7 0%256;rw[Int.emod_emod,Int.emod_emod]
  ·show((decide (N.getD 5 0%4%4%2=1)&&decide (N.getD 3 0%2%2=1))||(decide (N.getD 5 0%4%4≥2)&&decide (N.getD 1 0%64%64=0)))=((decide (N.getD 5 0%4%2=1)&&decide (N.getD 3 0%2=1))||(decide (N.getD 5 0%4≥2)&&decide (N.getD 1 0%64=0)))
   rw[Int.emod_emod,Int.emod_emod,Int.emod_emod]
  ·show(if N.getD 1 0%64%64=0 then 100000 else N.getD 1 0%64%64-1)=(if N.getD 1 0%64=0 then 100000 else N.getD 1 0%64-1)
   rw[Int.emod_emod]
 ·refine⟨?_,show false=false from rfl,?_⟩
  ·show QY (vM (vM M)) (vP (vN N))=QY (vM M) (vP N);rw[QbT,Qgv]
  ·show Qb5 (vM (vM M)) (vP (vN N))=Qb5 (vM M) (vP N);rw[QbT,Qgv]
 ·have h:=Qdj N;refine⟨?_,show false=false from rfl,?_⟩
  ·show QiL (Qah N)=QiL N;show N.getD 1 0%16%16*(N.getD 4 0%2%2)+N.getD 7 0%16%16*(N.getD 10 0%2%2)=N.getD 1 0%16*(N.getD 4 0%2)+N.getD 7 0%16*(N.getD 10 0%2);rw[Int.emod_emod,Int.emod_emod,Int.emod_emod,Int.emod_emod]
  ·show min (Qg (vo (Qah N) 0)) (Qg (vo (Qah N) 6))=min (Qg (vo N 0)) (Qg (vo N 6));rw[show vo (Qah N) 0=vo N 0 from QzE N,show vo (Qah N) 6=vo N 6 from QzF N]
 ·refine⟨?_,?_,?_⟩
  ·show N.getD 1 0%4%4=N.getD 1 0%4;rw[Int.emod_emod]
  ·show(decide (N.getD 9 0%2%2=1)&&decide (N.getD 7 0%2%2=1))=(decide (N.getD 9 0%2=1)&&decide (N.getD 7 0%2=1))
   rw[Int.emod_emod,Int.emod_emod]
  ·have e2:(if (if N.getD 2 0%8>4 then 0 else N.getD 2 0%8)%8>4 then 0 else (if N.getD 2 0%8>4 then 0 else N.getD 2 0%8)%8)=(if N.getD 2 0%8>4 then 0 else N.getD 2 0%8):=by
    split<;>(try split)<;>omega
   show(if (if (if N.getD 2 0%8>4 then 0 else N.getD 2 0%8)%8>4 then 0 else (if N.getD 2 0%8>4 then 0 else N.getD 2 0%8)%8)=0 then 100000 else max 1 (N.getD 5 0%64%64)-1)=(if (if N.getD 2 0%8>4 then 0 else N.getD 2 0%8)=0 then 100000 else max 1 (N.getD 5 0%64)-1)
   rw[e2,Int.emod_emod]
 ·have r0:∀d,Qb8 (cn,ck,cb,cs,cd) d=100000:=fun d=>by unfold Qb8;rw[Qaa hx]
  have k0:∀d,Qaz (cn,ck,cb,cs,cd) d=false:=fun d=>by unfold Qaz;rw[Qaa hx]
  have w0:∀d,Qal (cn,ck,cb,cs,cd) d=0:=fun d=>by unfold Qal;rw[Qaa hx]
  rw[r0,r0,k0,k0,w0,w0];exact⟨rfl,rfl,rfl⟩
theorem QiC(c:Cv)(d:Dv)(hu:u8s d.2):∀j:Nat,(j:Int)≤Qb8 c d→Qal c (itF c d j)=Qal c d∧Qaz c (itF c d j)=Qaz c d∧Qb8 c (itF c d j)≥Qb8 c d-j
 |0,_=>by
  rw[Qhc];obtain⟨h1,h2,h3⟩:=Qcz c d;exact⟨h1,h2,by rw[h3];omega⟩
 |j+1,h=>by
  obtain⟨h1,h2,h3⟩:=QiC c d hu j (by omega);obtain⟨g1,g2,g3⟩:=Qwm c d hu j (by omega);exact⟨g1.trans h1,g2.trans h2,by omega⟩
end Go.Proofs.YtofgbclopbmlcaaGreat

