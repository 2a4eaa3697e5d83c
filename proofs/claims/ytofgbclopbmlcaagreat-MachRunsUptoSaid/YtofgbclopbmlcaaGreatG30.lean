/- Part 30 of the proof. Conditions: none. -/
import Derived.Test.YtofgbclopbmlcaaGreatG29
import Derived.Test.YtofgbclopbmlcaaGreatG19
namespace Go.Proofs.YtofgbclopbmlcaaGreat
open Go.IntKind (i64)
set_option maxHeartbeats 8000000
open Go.Fw
set_option linter.unusedVariables false
set_option linter.unusedSimpArgs false
set_option maxRecDepth 100000
theorem Qj8{M:List Int}(h:u8s M)(n:Nat):u8s (M.take n):=fun x hx=>h x (List.mem_of_mem_take hx)
theorem QIR{M:List Int}(h:u8s M):u8s (dM M):=Qj8 h _
theorem QED(N:List Int){M:List Int}(h:u8s M):DOk (qF M) (dN N (qF M),dM M):=⟨Qs5 N _,QhI M,QIR h⟩
theorem QlP{l m:List Int}(h:l.length=10)(hc:¬l.getD 2 0>0):Qat (l,m)=(l,m):=by
 match l,h with
 | [k,t,c,s,i,l,d,r,o,x],_ =>
   rw[Qat];exact if_neg hc
def Qxw(k:Int)(s:DS):DS:=Qa6 Qat k.toNat s
def Qz7:PSpec:=⟨[gD,gi],fun(d,k,_)=>(some (List.length d.2≤140737488355328∧u8s d.2∧k≤1000000),.agg [.own 0,.own 1],[.arr (.int .i64) (Qxw k (dN d.1 (qF d.2),dM d.2)).1,.arr (.int .u8) (Qxw k (dN d.1 (qF d.2),dM d.2)).2])⟩
theorem Qxx:G0 162 Qz7.spec:=by
 have hP:S0 _:=Qa QeZ (Qa QBU (Qb (T:=tree)));have hT:=tabs hP Qc;refine Qz7.gd hT hP Tryz.func162 fun(d:Dv) (k:Int) hp=>?_
 obtain⟨N,M⟩:=d;obtain⟨hl,hu,hk⟩:M.length≤140737488355328∧u8s M∧k≤1000000:=hp _ rfl;have hn:=QED N hu;clear hp
 repeat' first|(apply Ea;conv=>whnf)|apply Eb|apply Ec<;>intro _|apply Ed<;>intro _|apply Ee<;>intro _|apply Ef hT hP
 all_goals first
  |exact hl
  |exact of_decide_eq_true rfl
  |skip
 refine Qai hT hP (X:=Int×DS) (fun(n,s)=>St.mk (E1 ((I n)::E2 ((.cell (.ptr 0 0))::(.cell (.own 1))::(.cell (.own 2))::E40 (E10 [])))) [some (.var [.imm (.slice none 0 0),.imm (.slice none 0 0)]),some (.arr (.int .i64) s.1),some (.arr (.int .u8) s.2)])
  (fun(n,s)=>DOk (qF M) s∧Qa6 Qat n.toNat s=Qxw k (dN N (qF M),dM M)∧n≤1000000) (fun(n,_)=>n.toNat) (k,(dN N (qF M),dM M)) (Le.k [] [1,2,3] ?_) ?_ fun(n,s) hi=>?_
 ·repeat' constructor
 ·exact⟨hn,rfl,hk⟩
 obtain⟨l,m⟩:=s;obtain⟨⟨hn',hm',hu'⟩,he,hk'⟩:=hi;have hm':m.length=qF M*256:=hm';have hu':u8s m:=hu';have hn':dOk (qF M) l:=hn';have hD:DOk (qF M) (l,m):=⟨hn',hm',hu'⟩
 cases hn' with
 |mk hk ht hc hs hi hl hd hr ho hx =>
 rename_i k t c s i l d r o x
 repeat' first|(apply Ea;conv=>whnf)|apply Eb|apply Ec<;>intro _|apply Ed<;>intro _|apply Ee<;>intro _|apply Ef hT hP
 all_goals first
  |exact of_decide_eq_true rfl
  |skip
 all_goals clear hT hP
 all_goals(try simp only[Qf] at *)
 all_goals(try simp only[Int.reduceToNat,List.set_cons_succ,List.set_cons_zero,List.getD_cons_succ,List.getD_cons_zero] at *)
 ·rename_i h1 h2 h3 h4;have e:=(Qs6 (t:=t) (s:=s) (i:=i) (l:=l) (d:=d) (r:=r) (o:=o) (x:=x) (m:=m) (c:=c) (k:=k) (n:=n.toNat) (by omega) h4 (by omega)).symm.trans he;exact .mk [] [1,2] _ R R R R R (Qnj (congrArg Prod.fst e) (congrArg Prod.snd e)) rfl
 ·rename_i h1 h2 h3 h4 h5;have e:=(QfA (t:=t) (s:=s) (i:=i) (d:=d) (r:=r) (o:=o) (x:=x) (m:=m) (c:=c) (k:=k) h2 (fun h=>h4 h.2) n.toNat l (by omega)).symm.trans he;rw[show l-(n.toNat:Int)=i64.wrap (l-n) by rw[w64 (by omega) (by omega)];omega] at e;exact .mk [] [1,2] _ R R R R R (Qnj (congrArg Prod.fst e) (congrArg Prod.snd e)) rfl
 ·rename_i h1 h2 h3 h4 h5;exact⟨⟨qF M,⟨hk,ht,hc,hs,hi,by omega,hd,hr,ho,hx⟩,hm',hu'⟩,h2,fun _=>by show 0<k;omega,rfl⟩
 ·rename_i h1 h2 h3 h4 h5;have hd0:DOk (qF M) ([k,t,c,s,i,0,d,r,o,x],m):=⟨⟨hk,ht,hc,hs,hi,by omega,hd,hr,ho,hx⟩,hm',hu'⟩
  have e:=(QlL (t:=t) (s:=s) (i:=i) (l:=l) (d:=d) (r:=r) (o:=o) (x:=x) (m:=m) (c:=c) (k:=k) (n:=n.toNat) h2 (fun h=>h4 h.2) hl.1 (by omega) (by omega)).symm.trans he;have e2:i64.wrap (n-imax 1 l)=(n.toNat:Int)-max 1 l:=by rw[QT,w64 (by omega) (by omega)];omega
  apply Exists.intro (_,_,_);refine And.intro ?_ (And.intro ?_ (Le.k [] [0,1,2] ?hh))
  case hh=>repeat' constructor
  ·refine⟨Qj4 hd0,?_,?_⟩
   ·show Qa6 Qat (i64.wrap (n-imax 1 l)).toNat (QgN ([k,t,c,s,i,0,d,r,o,x],m))=_;rw[e2];exact e
   ·show i64.wrap (n-imax 1 l)≤1000000;rw[e2];omega
  ·show(i64.wrap (n-imax 1 l)).toNat<n.toNat;rw[e2];omega
 ·rename_i h1 h2 h3 h4;have e:=(QfA (t:=t) (s:=s) (i:=i) (d:=d) (r:=r) (o:=o) (x:=x) (m:=m) (c:=c) (k:=k) h2 (fun h=>h3 (by omega)) n.toNat l (by omega)).symm.trans he;rw[show l-(n.toNat:Int)=i64.wrap (l-n) by rw[w64 (by omega) (by omega)];omega] at e;exact .mk [] [1,2] _ R R R R R (Qnj (congrArg Prod.fst e) (congrArg Prod.snd e)) rfl
 ·rename_i h1 h2 h3 h4;exact⟨⟨qF M,⟨hk,ht,hc,hs,hi,by omega,hd,hr,ho,hx⟩,hm',hu'⟩,h2,fun h=>absurd h (by show¬2<c;omega),rfl⟩
 ·rename_i h1 h2 h3 h5;have hd0:DOk (qF M) ([k,t,c,s,i,0,d,r,o,x],m):=⟨⟨hk,ht,hc,hs,hi,by omega,hd,hr,ho,hx⟩,hm',hu'⟩
  have e:=(QlL (t:=t) (s:=s) (i:=i) (l:=l) (d:=d) (r:=r) (o:=o) (x:=x) (m:=m) (c:=c) (k:=k) (n:=n.toNat) h2 (fun h=>h3 (by omega)) hl.1 (by omega) (by omega)).symm.trans he;have e2:i64.wrap (n-imax 1 l)=(n.toNat:Int)-max 1 l:=by rw[QT,w64 (by omega) (by omega)];omega
  apply Exists.intro (_,_,_);refine And.intro ?_ (And.intro ?_ (Le.k [] [0,1,2] ?hh))
  case hh=>repeat' constructor
  ·refine⟨Qj4 hd0,?_,?_⟩
   ·show Qa6 Qat (i64.wrap (n-imax 1 l)).toNat (QgN ([k,t,c,s,i,0,d,r,o,x],m))=_;rw[e2];exact e
   ·show i64.wrap (n-imax 1 l)≤1000000;rw[e2];omega
  ·show(i64.wrap (n-imax 1 l)).toNat<n.toNat;rw[e2];omega
 ·rename_i h1 h2;have e:=(QlK (t:=t) (s:=s) (i:=i) (l:=l) (d:=d) (r:=r) (o:=o) (x:=x) (m:=m) (c:=c) (k:=k) h2 n.toNat).symm.trans he;exact .mk [] [1,2] _ R R R R R (Qnj (congrArg Prod.fst e) (congrArg Prod.snd e)) rfl
 ·rename_i h1;rw[show n.toNat=0 by omega,Qa6] at he;exact .mk [] [1,2] _ R R R R R (Qnj (congrArg Prod.fst he) (congrArg Prod.snd he)) rfl
theorem Qj9{a c:Int}{b d:Bool}(h1:a=c)(h2:b=d):AV.tup [I1 a,.c (bv b)]=AV.tup [I1 c,.c (bv d)]:=by rw[h1,h2]
def Qz8:PSpec:=⟨[gb,gi],fun(m,pos,_)=>(some (List.length m=32∧u8s m∧0≤pos∧pos<2560),.tup [I1 (QY m pos),.c (bv (QgF m pos))],[])⟩
theorem Qka:G0 81 Qz8.spec:=by
 have hP:S0 _:=(Qb (T:=tree))
 have hT:=tabs hP Qc;refine Qz8.gd hT hP Tryz.func81 fun(m:List Int) (pos:Int) hp=>?_
 obtain⟨hm,hu,hp0,hp1⟩:m.length=32∧u8s m∧0≤pos∧pos<2560:=hp _ rfl;have hb:=Qdu hu;have eq64:i64.wrap (Int.tdiv pos 64)=pos/64:=by rw[Int.tdiv_eq_ediv_of_nonneg hp0,w64 (by omega) (by omega)]
 have er64:Int.tmod pos 64=pos%64:=Int.tmod_eq_emod_of_nonneg hp0
 have ecell:i64.wrap (i64.wrap (8+i64.wrap (i64.wrap (Int.tdiv (i64.wrap (Int.tdiv pos 64)) 8)*6))+i64.wrap (Int.tdiv (Int.tmod pos 64) 8))=8+pos/64/8*6+pos%64/8:=by
  rw[eq64,er64,Int.tdiv_eq_ediv_of_nonneg (show 0≤pos/64 by omega),Int.tdiv_eq_ediv_of_nonneg (show 0≤pos%64 by omega),w64 (x:=pos/64/8) (by omega) (by omega),w64 (x:=pos/64/8*6) (by omega) (by omega),
   w64 (x:=8+pos/64/8*6) (by omega) (by omega),w64 (x:=pos%64/8) (by omega) (by omega),w64 (by omega) (by omega)]
 repeat' first|(apply Ea;conv=>whnf)|apply Eb|apply Ec<;>intro _|apply Ed<;>intro _|apply Ee<;>intro _|apply Ef hT hP
 all_goals first
  |decide
  |(rw[hm];exact of_decide_eq_true rfl)
  |(rw[ecell,hm];exact⟨by omega,by omega⟩)
  |skip
 ·rename_i h;have h:Int.tmod pos 64≥48:=h;rw[er64] at h;have hv:Qnf pos=false:=by unfold Qnf;rw[decide_eq_false (by omega:¬pos%64<48)];rfl
  refine .k [] [] _ rfl (Qj9 ?_ ?_)
  ·show Int.tmod (i64.wrap (bA m 0)) 16=QY m pos;have h0:=hb 0;rw[QY,hv,if_neg (by simp),w64 (by omega) (by omega),Int.tmod_eq_emod_of_nonneg h0.1]
  ·show false=QgF m pos;rw[QgF,hv];rfl
 ·rename_i h1 h;have h:i64.wrap (Int.tdiv pos 64)≥32:=h;rw[eq64] at h;have hv:Qnf pos=false:=by unfold Qnf;rw[decide_eq_false (by omega:¬pos/64<32),Bool.and_false]
  refine .k [] [] _ rfl (Qj9 ?_ ?_)
  ·show Int.tmod (i64.wrap (bA m 0)) 16=QY m pos;have h0:=hb 0;rw[QY,hv,if_neg (by simp),w64 (by omega) (by omega),Int.tmod_eq_emod_of_nonneg h0.1]
  ·show false=QgF m pos;rw[QgF,hv];rfl
 rename_i h1 h2;have h1:¬Int.tmod pos 64≥48:=h1;have h2:¬i64.wrap (Int.tdiv pos 64)≥32:=h2;rw[er64] at h1;rw[eq64] at h2;have hv:Qnf pos=true:=by unfold Qnf;rw[decide_eq_true (by omega:pos%64<48),decide_eq_true (by omega:pos/64<32)];rfl
 have ecv:Int.tmod (i64.wrap (bA m (i64.wrap (i64.wrap (8+i64.wrap (i64.wrap (Int.tdiv (i64.wrap (Int.tdiv pos 64)) 8)*6))+i64.wrap (Int.tdiv (Int.tmod pos 64) 8))).toNat)) 16=Qfz m pos:=by
  rw[ecell];have h0:=hb (8+pos/64/8*6+pos%64/8).toNat;rw[w64 (by omega) (by omega),Int.tmod_eq_emod_of_nonneg h0.1];rfl
 refine Qai hT hP (X:=Int) (fun i=>St.mk ((.cell (.ro (.int .u8) m))::E5 ((I (i64.wrap (Int.tdiv pos 64)))::(I (Int.tmod pos 64))::(I (Int.tmod (i64.wrap (bA m (i64.wrap (i64.wrap (8+i64.wrap (i64.wrap (Int.tdiv (i64.wrap (Int.tdiv pos 64)) 8)*6))+i64.wrap (Int.tdiv (Int.tmod pos 64) 8))).toNat)) 16))::E20 (E5 (E3 ((I i)::E40 (E3 (E1 []))))))) [])
  (fun i=>∃k:Nat,i=k∧k≤8∧∀j,j<k→Qbz m pos j=false) (fun i=>(8-i).toNat) 0 (Le.k [] [] ?_) ?_ fun i hi=>?_
 ·repeat' constructor
 ·exact⟨0,rfl,by omega,fun j h=>by omega⟩
 obtain⟨k,rfl,hk,hno⟩:=hi;have hb1:=hb 1;have hb2:=hb 2;have hb3:=hb 3;have hb4:=hb 4;have w1:i64.wrap (i64.wrap (bA m 1)+k)=bA m 1+k:=by rw[w64 (x:=bA m 1) (by omega) (by omega),w64 (by omega) (by omega)]
 have w2:i64.wrap (bA m 2)=bA m 2:=w64 (by omega) (by omega);have w3:i64.wrap (bA m 2+8)=bA m 2+8:=w64 (by omega) (by omega)
 repeat' first|(apply Ea;conv=>whnf)|apply Eb|apply Ec<;>intro _|apply Ed<;>intro _|apply Ee<;>intro _|apply Ef hT hP
 all_goals first
  |decide
  |(rw[hm];exact of_decide_eq_true rfl)
  |exact Int.natCast_nonneg _
  |skip
 ·rename_i hlt g1 g2 g3 g4;have g1:Int.tmod pos 64=i64.wrap (i64.wrap (bA m 1)+(k:Int)):=g1;rw[er64,w1] at g1;have g2:i64.wrap (Int.tdiv pos 64)≥i64.wrap (bA m 2):=g2;rw[eq64,w2] at g2;have g3:i64.wrap (Int.tdiv pos 64)<i64.wrap (i64.wrap (bA m 2)+8):=g3;rw[eq64,w2,w3] at g3;have g4:shl .u8 (bA m 4) (k:Int)≥128:=g4;rw[QlI hb4 (by omega)] at g4
  have hsp:Q2 m pos=true:=QqQ (i:=k) (by omega) (by
   unfold Qbz;simp only[Bool.and_eq_true,decide_eq_true_eq]
   exact⟨g1,⟨g2,g3⟩,g4⟩)
  refine .k [] [] _ rfl (Qj9 ?_ ?_)
  ·show Int.tmod (i64.wrap (bA m 3)) 16=QY m pos;rw[QY,hv,if_pos rfl,hsp,if_pos rfl,w64 (by omega) (by omega),Int.tmod_eq_emod_of_nonneg hb3.1]
  ·show decide (Int.tmod (i64.wrap (bA m (i64.wrap (i64.wrap (8+i64.wrap (i64.wrap (Int.tdiv (i64.wrap (Int.tdiv pos 64)) 8)*6))+i64.wrap (Int.tdiv (Int.tmod pos 64) 8))).toNat)) 16>0)=QgF m pos;rw[QgF,hv,hsp,ecv];have h0:=Qxl m pos;show decide (Qfz m pos>0)=decide (Qfz m pos≠0);congr 1;apply propext;omega
 ·rename_i hlt g1 g2 g3 g4;have g1:Int.tmod pos 64=i64.wrap (i64.wrap (bA m 1)+(k:Int)):=g1;rw[er64,w1] at g1;have g2:i64.wrap (Int.tdiv pos 64)≥i64.wrap (bA m 2):=g2;rw[eq64,w2] at g2;have g3:i64.wrap (Int.tdiv pos 64)<i64.wrap (i64.wrap (bA m 2)+8):=g3;rw[eq64,w2,w3] at g3;have g4:¬shl .u8 (bA m 4) (k:Int)≥128:=g4;rw[QlI hb4 (by omega)] at g4;have e:i64.wrap ((k:Int)+1)=((k+1:Nat):Int):=by rw[w64 (by omega) (by omega)];omega
  have hsh:Qbz m pos k=false:=by
   cases hs:Qbz m pos k with
   |false=>rfl
   |true =>
    exfalso;unfold Qbz at hs;simp only[Bool.and_eq_true,decide_eq_true_eq] at hs;obtain⟨s1,⟨s2,s3⟩,s4⟩:=hs
    first|exact g4 s4|omega
  apply Exists.intro _;refine And.intro ?_ (And.intro ?_ (Le.k [] [] ?hh))
  case hh=>repeat' constructor
  ·refine⟨k+1,e,by omega,fun j hj=>?_⟩;by_cases hjk:j=k
   ·rw[hjk];exact hsh
   ·exact hno j (by omega)
  ·show(8-i64.wrap ((k:Int)+1)).toNat<(8-(k:Int)).toNat;rw[e];omega
 ·rename_i hlt g1 g2 g3;have g1:Int.tmod pos 64=i64.wrap (i64.wrap (bA m 1)+(k:Int)):=g1;rw[er64,w1] at g1;have g2:i64.wrap (Int.tdiv pos 64)≥i64.wrap (bA m 2):=g2;rw[eq64,w2] at g2;have g3:¬i64.wrap (Int.tdiv pos 64)<i64.wrap (i64.wrap (bA m 2)+8):=g3;rw[eq64,w2,w3] at g3;have e:i64.wrap ((k:Int)+1)=((k+1:Nat):Int):=by rw[w64 (by omega) (by omega)];omega
  have hsh:Qbz m pos k=false:=by
   cases hs:Qbz m pos k with
   |false=>rfl
   |true =>
    exfalso;unfold Qbz at hs;simp only[Bool.and_eq_true,decide_eq_true_eq] at hs;obtain⟨s1,⟨s2,s3⟩,s4⟩:=hs
    first|exact g3 s4|omega
  apply Exists.intro _;refine And.intro ?_ (And.intro ?_ (Le.k [] [] ?hh))
  case hh=>repeat' constructor
  ·refine⟨k+1,e,by omega,fun j hj=>?_⟩;by_cases hjk:j=k
   ·rw[hjk];exact hsh
   ·exact hno j (by omega)
  ·show(8-i64.wrap ((k:Int)+1)).toNat<(8-(k:Int)).toNat;rw[e];omega
 ·rename_i hlt g1 g2;have g1:Int.tmod pos 64=i64.wrap (i64.wrap (bA m 1)+(k:Int)):=g1;rw[er64,w1] at g1;have g2:¬i64.wrap (Int.tdiv pos 64)≥i64.wrap (bA m 2):=g2;rw[eq64,w2] at g2;have e:i64.wrap ((k:Int)+1)=((k+1:Nat):Int):=by rw[w64 (by omega) (by omega)];omega
  have hsh:Qbz m pos k=false:=by
   cases hs:Qbz m pos k with
   |false=>rfl
   |true =>
    exfalso;unfold Qbz at hs;simp only[Bool.and_eq_true,decide_eq_true_eq] at hs;obtain⟨s1,⟨s2,s3⟩,s4⟩:=hs
    first|exact g2 s4|omega
  apply Exists.intro _;refine And.intro ?_ (And.intro ?_ (Le.k [] [] ?hh))
  case hh=>repeat' constructor
  ·refine⟨k+1,e,by omega,fun j hj=>?_⟩;by_cases hjk:j=k
   ·rw[hjk];exact hsh
   ·exact hno j (by omega)
  ·show(8-i64.wrap ((k:Int)+1)).toNat<(8-(k:Int)).toNat;rw[e];omega
 ·rename_i hlt g1;have g1:¬Int.tmod pos 64=i64.wrap (i64.wrap (bA m 1)+(k:Int)):=g1;rw[er64,w1] at g1;have e:i64.wrap ((k:Int)+1)=((k+1:Nat):Int):=by rw[w64 (by omega) (by omega)];omega
  have hsh:Qbz m pos k=false:=by
   cases hs:Qbz m pos k with
   |false=>rfl
   |true =>
    exfalso;unfold Qbz at hs;simp only[Bool.and_eq_true,decide_eq_true_eq] at hs;obtain⟨s1,⟨s2,s3⟩,s4⟩:=hs
    first|exact g1 s4|omega
  apply Exists.intro _;refine And.intro ?_ (And.intro ?_ (Le.k [] [] ?hh))
  case hh=>repeat' constructor
  ·refine⟨k+1,e,by omega,fun j hj=>?_⟩;by_cases hjk:j=k
   ·rw[hjk];exact hsh
   ·exact hno j (by omega)
  ·show(8-i64.wrap ((k:Int)+1)).toNat<(8-(k:Int)).toNat;rw[e];omega
 ·rename_i hlt;obtain rfl:k=8:=by omega
  have hsp:Q2 m pos=false:=Qs0 hno;refine .k [] [] _ rfl (Qj9 ?_ ?_)
  ·show Int.tmod (i64.wrap (bA m (i64.wrap (i64.wrap (8+i64.wrap (i64.wrap (Int.tdiv (i64.wrap (Int.tdiv pos 64)) 8)*6))+i64.wrap (Int.tdiv (Int.tmod pos 64) 8))).toNat)) 16=QY m pos;rw[QY,hv,if_pos rfl,hsp,if_neg (by simp),ecv]
  ·show false=QgF m pos;rw[QgF,hv,hsp];rfl
def QJG:PSpec:=⟨[gi],fun(pos,_)=>(some (0≤pos∧pos<2560),.cell (bv (Qnf pos)),[])⟩
theorem Qz9:G0 254 QJG.spec:=by
 have hP:S0 _:=(Qb (T:=tree))
 have hT:=tabs hP Qc;refine QJG.gd hT hP Tryz.func254 fun(pos:Int) hp=>?_
 have hp:0≤pos∧pos<2560:=hp _ rfl;have eq64:i64.wrap (Int.tdiv pos 64)=pos/64:=by rw[Int.tdiv_eq_ediv_of_nonneg hp.1,w64 (by omega) (by omega)]
 have er64:Int.tmod pos 64=pos%64:=Int.tmod_eq_emod_of_nonneg hp.1
 repeat' first|(apply Ea;conv=>whnf)|apply Eb|apply Ec<;>intro _|apply Ed<;>intro _|apply Ee<;>intro _|apply Ef hT hP
 all_goals first
  |decide
  |(rename_i h
    have h:Int.tmod pos 64<48:=h;rw[er64] at h;refine .k [] [] _ rfl (Qi ?_);show decide (i64.wrap (Int.tdiv pos 64)<32)=(decide (pos%64<48)&&decide (pos/64<32))
    rw[eq64,decide_eq_true h];rfl)
  |(rename_i h
    have h:¬Int.tmod pos 64<48:=h;rw[er64] at h;refine .k [] [] _ rfl (Qi ?_);show false=(decide (pos%64<48)&&decide (pos/64<32))
    rw[decide_eq_false h];rfl)
def QEE:PSpec:=⟨[gb,gi],fun(m,pos,_)=>(some (List.length m=32∧u8s m∧0≤pos∧pos<2560∧Qnf pos=true),I (Qfz m pos),[])⟩
theorem Qti:G0 256 QEE.spec:=by
 have hP:S0 _:=(Qb (T:=tree))
 have hT:=tabs hP Qc;refine QEE.gd hT hP Tryz.func256 fun(m:List Int) (pos:Int) hp=>?_
 obtain⟨hm,hu,hp0,hp1,hv⟩:m.length=32∧u8s m∧0≤pos∧pos<2560∧Qnf pos=true:=hp _ rfl;have hb:=Qdu hu;unfold Qnf at hv;simp only[Bool.and_eq_true,decide_eq_true_eq] at hv;have ecell:i64.wrap (i64.wrap (8+i64.wrap (i64.wrap (Int.tdiv (i64.wrap (Int.tdiv pos 64)) 8)*6))+i64.wrap (Int.tdiv (Int.tmod pos 64) 8))=8+pos/64/8*6+pos%64/8:=cell_at hp0 hp1
 repeat' first|(apply Ea;conv=>whnf)|apply Eb|apply Ec<;>intro _|apply Ed<;>intro _|apply Ee<;>intro _|apply Ef hT hP
 all_goals first
  |decide
  |(rw[ecell,hm];exact⟨by omega,by omega⟩)
  |(refine .k [] [] _ rfl (Qd ?_)
    show land .i64 (i64.wrap (bA m (i64.wrap (i64.wrap (8+i64.wrap (i64.wrap (Int.tdiv (i64.wrap (Int.tdiv pos 64)) 8)*6))+i64.wrap (Int.tdiv (Int.tmod pos 64) 8))).toNat)) 15=Qfz m pos
    rw[ecell,Qng (hb _)];rfl)
def Qtj:PSpec:=⟨[gb,gi],fun(m,pos,_)=>(some (List.length m=32∧u8s m∧0≤pos∧pos<2560),.cell (bv (Q2 m pos)),[])⟩
theorem QlQ:G0 255 Qtj.spec:=by
 have hP:S0 _:=(Qb (T:=tree))
 have hT:=tabs hP Qc;refine Qtj.gd hT hP Tryz.func255 fun(m:List Int) (pos:Int) hp=>?_
 obtain⟨hm,hu,hp0,hp1⟩:m.length=32∧u8s m∧0≤pos∧pos<2560:=hp _ rfl;have hb:=Qdu hu;have hb1:=hb 1;have hb2:=hb 2;have eq64:i64.wrap (Int.tdiv pos 64)=pos/64:=by rw[Int.tdiv_eq_ediv_of_nonneg hp0,w64 (by omega) (by omega)]
 have er64:Int.tmod pos 64=pos%64:=Int.tmod_eq_emod_of_nonneg hp0;have hx:i64.wrap (Int.tmod pos 64-i64.wrap (bA m 1))=pos%64-bA m 1:=by rw[er64,w64 (x:=bA m 1) (by omega) (by omega),w64 (by omega) (by omega)]
 have hy:i64.wrap (i64.wrap (Int.tdiv pos 64)-i64.wrap (bA m 2))=pos/64-bA m 2:=by rw[eq64,w64 (x:=bA m 2) (by omega) (by omega),w64 (by omega) (by omega)]
 repeat' first|(apply Ea;conv=>whnf)|apply Eb|apply Ec<;>intro _|apply Ed<;>intro _|apply Ee<;>intro _|apply Ef hT hP
 all_goals first
  |decide
  |(rw[hm];exact of_decide_eq_true rfl)
  |skip
 ·rename_i g1 g2 g3 g4;have g1:i64.wrap (Int.tmod pos 64-i64.wrap (bA m 1))≥0:=g1;have g2:i64.wrap (Int.tmod pos 64-i64.wrap (bA m 1))<8:=g2;have g3:i64.wrap (i64.wrap (Int.tdiv pos 64)-i64.wrap (bA m 2))≥0:=g3;have g4:i64.wrap (i64.wrap (Int.tdiv pos 64)-i64.wrap (bA m 2))<8:=g4;have hb4:=hb 4;rw[hx] at g1 g2;rw[hy] at g3 g4;show 0≤i64.wrap (7-i64.wrap (Int.tmod pos 64-i64.wrap (bA m 1)));rw[hx,w64 (by omega) (by omega)];omega
 ·rename_i g1 g2 g3 g4;have g1:i64.wrap (Int.tmod pos 64-i64.wrap (bA m 1))≥0:=g1;have g2:i64.wrap (Int.tmod pos 64-i64.wrap (bA m 1))<8:=g2;have g3:i64.wrap (i64.wrap (Int.tdiv pos 64)-i64.wrap (bA m 2))≥0:=g3;have g4:i64.wrap (i64.wrap (Int.tdiv pos 64)-i64.wrap (bA m 2))<8:=g4;have hb4:=hb 4;rw[hx] at g1 g2;rw[hy] at g3 g4;refine .k [] [] _ rfl (Qi ?_);show(land .u8 (shr .u8 (bA m 4) (i64.wrap (7-i64.wrap (Int.tmod pos 64-i64.wrap (bA m 1))))) 1==1)=Q2 m pos;rw[hx,w64 (x:=7-(pos%64-bA m 1)) (by omega) (by omega)];have e:(7-(pos%64-bA m 1))=(((7-(pos%64-bA m 1)).toNat:Nat):Int):=by omega
  have hbit:=QqR hb4 (i:=(7-(pos%64-bA m 1)).toNat) (by omega);rw[←e] at hbit;unfold Q2;rw[decide_eq_true (by omega:bA m 1≤pos%64),decide_eq_true (by omega:pos%64<bA m 1+8),decide_eq_true (by omega:bA m 2≤pos/64),decide_eq_true (by omega:pos/64<bA m 2+8)];show decide (land .u8 (shr .u8 (bA m 4) (7-(pos%64-bA m 1))) 1=1)=decide (bA m 4/2 ^ (7-(pos%64-bA m 1)).toNat%2=1);congr 1;exact propext hbit
 ·rename_i h;have h:¬i64.wrap (i64.wrap (Int.tdiv pos 64)-i64.wrap (bA m 2))<8:=h;refine .k [] [] _ rfl (Qi ?_);show false=Q2 m pos;cases hs:Q2 m pos with
  |false=>rfl
  |true =>
   exfalso;unfold Q2 at hs;simp only[Bool.and_eq_true,decide_eq_true_eq] at hs;rw[hy] at h;omega
 ·rename_i h;have h:¬i64.wrap (i64.wrap (Int.tdiv pos 64)-i64.wrap (bA m 2))≥0:=h;refine .k [] [] _ rfl (Qi ?_);show false=Q2 m pos;cases hs:Q2 m pos with
  |false=>rfl
  |true =>
   exfalso;unfold Q2 at hs;simp only[Bool.and_eq_true,decide_eq_true_eq] at hs;rw[hy] at h;omega
 ·rename_i h;have h:¬i64.wrap (Int.tmod pos 64-i64.wrap (bA m 1))<8:=h;refine .k [] [] _ rfl (Qi ?_);show false=Q2 m pos;cases hs:Q2 m pos with
  |false=>rfl
  |true =>
   exfalso;unfold Q2 at hs;simp only[Bool.and_eq_true,decide_eq_true_eq] at hs;rw[hx] at h;omega
 ·rename_i h;have h:¬i64.wrap (Int.tmod pos 64-i64.wrap (bA m 1))≥0:=h;refine .k [] [] _ rfl (Qi ?_);show false=Q2 m pos;cases hs:Q2 m pos with
  |false=>rfl
  |true =>
   exfalso;unfold Q2 at hs;simp only[Bool.and_eq_true,decide_eq_true_eq] at hs;rw[hx] at h;omega
theorem Qnk{b:Bool}(h:(!b)=false):b=true:=by cases b;cases h;rfl
theorem Qxy{b:Bool}(h:(!b)=true):b=false:=by cases b;rfl;cases h
def QAa:PSpec:=⟨[gb,gi],fun(m,pos,_)=>(some (List.length m=32∧u8s m∧0≤pos∧pos<2560),I (QY m pos),[])⟩
theorem QoW:G0 224 QAa.spec:=by
 have hP:S0 _:=Qa Qz9 (Qa QlQ (Qa Qti (Qb (T:=tree))));have hT:=tabs hP Qc;refine QAa.gd hT hP Tryz.func224 fun(m:List Int) (pos:Int) hp=>?_
 obtain⟨hm,hu,hp0,hp1⟩:m.length=32∧u8s m∧0≤pos∧pos<2560:=hp _ rfl;have hb:=Qdu hu
 repeat' first|(apply Ea;conv=>whnf)|apply Eb|apply Ec<;>intro _|apply Ed<;>intro _|apply Ee<;>intro _|apply Ef hT hP
 all_goals first
  |exact⟨hp0,hp1⟩
  |exact⟨hm,hu,hp0,hp1⟩
  |(rw[hm];exact of_decide_eq_true rfl)
  |(rename_i h _;exact⟨hm,hu,hp0,hp1,Qnk h⟩)
  |skip
 ·rename_i h;have hv:=Qxy h;refine .k [] [] _ rfl (Qd ?_);show land .i64 (i64.wrap (bA m 0)) 15=QY m pos;rw[Qng (hb 0),QY,hv];rfl
 ·rename_i h h2;have hv:=Qnk h;have h2:Q2 m pos=true:=h2;refine .k [] [] _ rfl (Qd ?_);show land .i64 (i64.wrap (bA m 3)) 15=QY m pos;rw[Qng (hb 3),QY,hv,h2];rfl
 ·rename_i h h2;have hv:=Qnk h;have h2:Q2 m pos=false:=h2;refine .k [] [] _ rfl (Qd ?_);show Qfz m pos=QY m pos;rw[QY,hv,h2];rfl
def QEF:PSpec:=⟨[gb,gi],fun(m,pos,_)=>(some (List.length m=32∧u8s m∧0≤pos∧pos<2560),.cell (bv (QgF m pos)),[])⟩
theorem QB0:G0 228 QEF.spec:=by
 have hP:S0 _:=Qa Qz9 (Qa QlQ (Qa Qti (Qb (T:=tree))));have hT:=tabs hP Qc;refine QEF.gd hT hP Tryz.func228 fun(m:List Int) (pos:Int) hp=>?_
 obtain⟨hm,hu,hp0,hp1⟩:m.length=32∧u8s m∧0≤pos∧pos<2560:=hp _ rfl
 repeat' first|(apply Ea;conv=>whnf)|apply Eb|apply Ec<;>intro _|apply Ed<;>intro _|apply Ee<;>intro _|apply Ef hT hP
 all_goals first
  |exact⟨hp0,hp1⟩
  |exact⟨hm,hu,hp0,hp1⟩
  |(rename_i h;exact⟨hm,hu,hp0,hp1,h⟩)
  |(rename_i h _;exact⟨hm,hu,hp0,hp1,h⟩)
  |skip
 ·rename_i h h2;have h:Qnf pos=true:=h;have h2:Q2 m pos=true:=h2;refine .k [] [] _ rfl (Qi ?_);show _=QgF m pos;rw[QgF,h,h2];show(Qfz m pos != 0)=decide (Qfz m pos≠0);by_cases e:Qfz m pos=0<;>simp[e]
 ·rename_i h h2;have h:Qnf pos=true:=h;have h2:Q2 m pos=false:=h2;refine .k [] [] _ rfl (Qi ?_);show _=QgF m pos;rw[QgF,h,h2];rfl
 ·rename_i h;have h:Qnf pos=false:=h;refine .k [] [] _ rfl (Qi ?_);show _=QgF m pos;rw[QgF,h];rfl
end Go.Proofs.YtofgbclopbmlcaaGreat

