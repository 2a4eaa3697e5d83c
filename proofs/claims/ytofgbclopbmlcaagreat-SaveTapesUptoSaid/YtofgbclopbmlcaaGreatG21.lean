/- Part 21 of the proof. Conditions: none. -/
import Derived.Test.YtofgbclopbmlcaaGreatG13
import Derived.WalkKit
import Derived.Lib.Walk
import Derived.Lib.Bytealg
import Derived.Test.YtofgbclopbmlcaaGreatG20
import Derived.Test.YtofgbclopbmlcaaGreatG17
import Derived.Test.YtofgbclopbmlcaaGreatG18
import Derived.Test.YtofgbclopbmlcaaGreatG19
namespace Go.Proofs.YtofgbclopbmlcaaGreat
open Go.IntKind (i64)
set_option maxHeartbeats 8000000
open Go.Fw
set_option linter.unusedVariables false
set_option linter.unusedSimpArgs false
set_option linter.constructorNameAsVariable false
set_option maxRecDepth 100000
abbrev gu8:Sig:=⟨false,.int .u8⟩
theorem QyB(s:ByteArray)(c:Int)(w:World) :
 Calls Tryz.prog 118 #[.string s,.int .u8 c] w fun e w'=>e=.returned (.int .i64 (Lib.indexByte s.data.toList c.toNat.toUInt8))∧w'=w:=by
 have mixed:Tryz.prog.follows .mixedOrders=true:=mixed
 go_enter Tryz.func118,Tryz.ntmps118
 go_wp2
 rw[run_callFunc_extern Tryz.func200 (by kernel_rfl) (by kernel_rfl) (by kernel_rfl) (e:=Extern.BytealgIndexByte.indexByte) (by kernel_rfl),Lib.run_indexByteString];simp only[Result.andThen];rw[Oper.upon_value]
 go_wp2
 go_ret
 exact⟨rfl,rfl⟩
def QyC:PSpec:=⟨[Qyz,gu8],fun(s,c,_)=>(none,I (Lib.indexByte s.data.toList (Int.toNat c).toUInt8),[])⟩
theorem QuJ:G0 118 QyC.spec:=by
 refine PSpec.of_calls Tryz.func118 (by kernel_rfl) rfl QyC (fun _=>rfl) fun E (s,c,_) vs hv _=>?_
 obtain⟨v1,r1,e1,⟨j,_⟩,v2,r2,e2,⟨f,_⟩,a⟩:=hv;injection j with j
 injection f with f
 have a:r2=[]:=a
 have e:vs=#[.string s,.int .u8 c]:=by
  apply Array.ext';rw[e1,e2,a,j,f]
 subst e;refine(QyB s c E.w).mono ?_
 rintro e w' ⟨rfl,rfl⟩
 exact⟨⟨_,rfl,rfl,rfl⟩,rfl⟩
theorem QfN:G0 64 QyC.spec:=by
 have g:S0 _:=Qa QuJ (Qb (T:=tree));have q:=tabs g Qc;refine QyC.gd q g Tryz.func64 fun(s:ByteArray) (c:Int) _=>?_
 repeat' first|(apply Ea;conv=>whnf)|apply Eb|apply Ec|apply Ed|apply Ee|(apply Ei;intro _)|apply Ef q g
 exact .k [] [] _ R R
def lets:List UInt8:=[97,98,99,100,101,102,103,104,105,106,107,108,109,110,111,112,113,114,115,116,117,118,119,120,121,122]
def QyD:List UInt8:=lets++[48,49,50,51,52,53,54,55,56,57,45]
theorem QyE:(List.range 256).all (fun n=>decide (Lib.indexByte lets n.toUInt8<0) == !decide (97≤n∧n≤122))=true:=by decide +kernel
theorem QuK:(List.range 256).all (fun n=>decide (Lib.indexByte QyD n.toUInt8<0) == !Qi3 (n:Int))=true:=by decide +kernel
theorem QuL{c:Int}(h:0≤c∧c<256):decide (Lib.indexByte lets c.toNat.toUInt8<0)=!decide (97≤c∧c≤122):=by
 have:=List.all_eq_true.1 QyE c.toNat (List.mem_range.2 (by omega));rw[beq_iff_eq] at this;rw[this];congr 1;by_cases f:97≤c∧c≤122
 ·rw[Yl f,Yl (by omega)]
 ·rw[Yn f,Yn (by omega)]
theorem QpP{c:Int}(h:0≤c∧c<256):decide (Lib.indexByte QyD c.toNat.toUInt8<0)=!Qi3 c:=by
 have:=List.all_eq_true.1 QuK c.toNat (List.mem_range.2 (by omega));rw[beq_iff_eq] at this;rw[this];have:((c.toNat:Nat):Int)=c:=by omega
 rw[this]
theorem Qik:G0 61 QyA.spec:=by
 have g:S0 _:=Qa QfN (Qb (T:=tree));have q:=tabs g Qc;refine QyA.gd q g Tryz.func61 fun(s:ByteArray) _=>?_
 have hL:=Qmi s
 repeat' first|(apply Ea;conv=>whnf)|apply Eb|apply Ec|apply Ed|apply Ee|(apply Ei;intro _)|apply Ef q g
 ·rename_i h;have h:(s.size:Int)<1:=h;exact .k [] [] _ rfl (Qj (Qe7 (.inl (by omega))).symm)
 ·rename_i h;have h:(s.size:Int)>20:=h;exact .k [] [] _ rfl (Qj (Qe7 (.inr (.inl (by omega)))).symm)
 ·rename_i h _;have h:¬(s.size:Int)<1:=h;show 0≤(0:Int)∧(0:Int)<(s.size:Int);omega
 ·rename_i j f a;have j:¬(s.size:Int)<1:=j;have r:=Qhd s ((bytesOf s).getD 0 0) (by rw[Yd,Ye (by omega)];exact YW _);have a:Lib.indexByte lets (Qfj s 0).toNat.toUInt8<0:=a;rw[Qij] at a;have e:=QuL r;rw[Yl a] at e
  have e:decide (97≤(bytesOf s).getD 0 0∧(bytesOf s).getD 0 0≤122)=false:=by
   cases p:decide (97≤(bytesOf s).getD 0 0∧(bytesOf s).getD 0 0≤122) with
   |true=>rw[p] at e;cases e
   |false=>rfl
  have e:=of_decide_eq_false e;exact .k [] [] _ rfl (Qj (Qe7 (by omega)).symm)
 rename_i j f a;have j:¬(s.size:Int)<1:=j;have f:¬(s.size:Int)>20:=f;have u:=Qhd s ((bytesOf s).getD 0 0) (by rw[Yd,Ye (by omega)];exact YW _);have a:¬Lib.indexByte lets (Qfj s 0).toNat.toUInt8<0:=a;rw[Qij] at a;have e:=QuL u;rw[Yn a] at e
 have e:decide (97≤(bytesOf s).getD 0 0∧(bytesOf s).getD 0 0≤122)=true:=by
  cases p:decide (97≤(bytesOf s).getD 0 0∧(bytesOf s).getD 0 0≤122) with
  |true=>rfl
  |false=>rw[p] at e;cases e
 have e:=Ya e
 have hF:QaK (bytesOf s)=(bytesOf s).all Qi3:=by
  unfold QaK;rw[Yl ⟨by omega,by omega,by omega,by omega⟩,Bool.true_and]
 refine QA q g (A:=Unit) (bytesOf s).length (fun i _=>St.mk ((.imm (.string s))::E10 (E5 (E3 ((I (s.size:Int))::(I i)::E5 (E3 []))))) [])
  (fun k _=>((bytesOf s).take k).all Qi3=true) () (Le.mk [] [] R R R ?_) (by simp) fun k _ hk t=>?_
 ·repeat' constructor
 repeat' first|(apply Ea;conv=>whnf)|apply Eb|apply Ec|apply Ed|apply Ee|(apply Ei;intro _)|apply Ef q g
 ·rename_i d;have d:(k:Int)<(s.size:Int):=d;show 0≤(k:Int)∧(k:Int)<(s.size:Int);omega
 ·rename_i d m;have d:(k:Int)<(s.size:Int):=d;have b:k<(bytesOf s).length:=by omega
  have r:=Qhd s ((bytesOf s).getD k 0) (by rw[Yd,Ye b];exact YW _);have m:Lib.indexByte QyD (Qfj s k).toNat.toUInt8<0:=m;rw[Qij] at m;have e:=QpP r;rw[Yl m] at e
  have e:Qi3 ((bytesOf s).getD k 0)=false:=by
   cases p:Qi3 ((bytesOf s).getD k 0) with
   |true=>rw[p] at e;cases e
   |false=>rfl
  refine .k [] [] _ rfl (Qj ?_);rw[hF,QBm b e]
 ·rename_i d m;have d:(k:Int)<(s.size:Int):=d;have b:k<(bytesOf s).length:=by omega
  have r:=Qhd s ((bytesOf s).getD k 0) (by rw[Yd,Ye b];exact YW _);have m:¬Lib.indexByte QyD (Qfj s k).toNat.toUInt8<0:=m;rw[Qij] at m;have e:=QpP r;rw[Yn m] at e
  have e:Qi3 ((bytesOf s).getD k 0)=true:=by
   cases p:Qi3 ((bytesOf s).getD k 0) with
   |true=>rfl
   |false=>rw[p] at e;cases e
  apply Ex () [] []
  ·repeat' constructor
  ·omega
  ·exact QJ (by omega)
  exact QpO b t e
 ·rename_i d;have d:¬(k:Int)<(s.size:Int):=d;refine .k [] [] _ rfl (Qj ?_);rw[hF];rw[Yh (by omega)] at t;exact t.symm
theorem Qir(r:List Int)(n:Nat):0≤(QH r).getD n 0∧(QH r).getD n 0<65536:=by
 match n with
 |0|1|2|3|4|5|6|7|8=>simp[QH];omega
 |n+9=>simp[QH]
theorem QDS(r:List Int):0≤(QH r).getD 4 0∧(QH r).getD 4 0<256:=by simp[QH];omega
theorem Qe9{t:Int}(h:okT t):0≤t∧t<((9:Nat):Int):=by unfold okT at h;omega
theorem QgT{t:Int}(h:okT t):t.toNat<9:=by unfold okT at h;omega
abbrev aV(t:Int)(F:List Int):Int:=F.getD t.toNat 0%256
abbrev cV(F:List Int):Int:=F.getD 4 0%2
def QIH(d a b:Int):Int:=if d=7 then land .i64 a b else if d=8 then lor .i64 a b else lxor .i64 a b
def QFf(d t f:Int)(F:List Int):List Int :=
 if d=4 then (F.set 4 (Qlg (F.getD 4 0) ((aV t F+aV f F+cV F)%256) ((aV t F+aV f F+cV F)/256))).set t.toNat ((aV t F+aV f F+cV F)%256)
 else if d=5 then (F.set 4 (Qlg (F.getD 4 0) ((aV t F-aV f F-(1-cV F))%256) (1-QkK (aV t F-aV f F-(1-cV F))))).set t.toNat ((aV t F-aV f F-(1-cV F))%256)
 else if d=6 then F.set 4 (QcF (nzV (F.getD 4 0) ((aV t F-aV f F)%256)) 1 (decide (QkK (aV t F-aV f F)=0)))
 else (F.set 4 (nzV (F.getD 4 0) (QIH d (aV t F) (aV f F)))).set t.toNat (QIH d (aV t F) (aV f F))
theorem QNP:(2:Int) ^ 8=256:=by decide
theorem wbor(x:Int):i64.wrap (1-QkK x)=1-QkK x:=by unfold QkK;split<;>decide
theorem i8:Int.toNat 8=8:=rfl
def QG8(d t f:Int)(r:List Int):Prop:=okT t∧okT f∧∃q,r=QH q
theorem Qzb(F:List Int)(x y:Int):(F.set 4 x).set 4 y=F.set 4 y:=by simp
def QLR:PSpec:=⟨[gi,gi,gi,gR],fun(d,t,f,r,_)=>(some (QG8 d t f r),.agg [.run .i64 9 (QFf d t f r)],[])⟩
theorem QG9:G0 249 QLR.spec:=by
 have i:S0 _:=Qa QkL (Qa QDR (Qa Qp9 (Qa Qmv (Qa QDM (Qa QDN (Qa QU (Qb (T:=tree))))))));have m:=tabs i Qc;refine QLR.gd m i Tryz.func249 fun(d t f:Int) (r:List Int) s=>?_
 obtain⟨j,hf,q,rfl⟩:QG8 d t f r:=s _ rfl;have e:=Qe9 j;have w:=Qe9 hf;have c:=QgT j;have u:=QgT hf;have hl:(QH q).length=9:=rfl;have hc:=QDS q;have g:land .i64 ((QH q).getD 4 0) 1=(QH q).getD 4 0%2:=QeR _;have p:i64.wrap (1-(QH q).getD 4 0%2)=1-(QH q).getD 4 0%2:=w64 (by omega) (by omega);clear s
 repeat' first|(apply Ea;conv=>whnf)|apply Eb|apply Ec|apply Ed|apply Ee|(apply Ei;intro _)|apply Ef m i
 all_goals first
  |exact Ya rfl
  |exact e
  |exact w
  |exact c
  |exact u
  |exact⟨rfl,j⟩
  |exact rfl
  |skip
 all_goals(try refine .k [] [] _ rfl (QLG ?_))
 all_goals clear m i
 all_goals(simp only[i8,QNP,g,p,wbor])
 all_goals(try(unfold QG1 Qw8;omega))
 all_goals(clear e w c u g p)
 all_goals(try simp_all [QFf,QIH,aV,cV])
 all_goals(try rfl)
def shF(d t:Int)(F:List Int):List Int :=
 if d=12 then (F.set 4 (Qlg (F.getD 4 0) ((F.getD t.toNat 0*2+0)%256) (F.getD t.toNat 0%256/128))).set t.toNat ((F.getD t.toNat 0*2+0)%256)
 else if d=14 then (F.set 4 (Qlg (F.getD 4 0) ((F.getD t.toNat 0*2+cV F)%256) (F.getD t.toNat 0%256/128))).set t.toNat ((F.getD t.toNat 0*2+cV F)%256)
 else if d=13 then (F.set 4 (Qlg (F.getD 4 0) (F.getD t.toNat 0%256/2+128*0) (F.getD t.toNat 0%2))).set t.toNat (F.getD t.toNat 0%256/2+128*0)
 else (F.set 4 (Qlg (F.getD 4 0) (F.getD t.toNat 0%256/2+128*cV F) (F.getD t.toNat 0%2))).set t.toNat (F.getD t.toNat 0%256/2+128*cV F)
def QLS(t:Int)(r:List Int):Prop:=okT t∧∃q,r=QH q
def shS:PSpec:=⟨[gi,gi,gR],fun(d,t,r,_)=>(some (QLS t r),.agg [.run .i64 9 (shF d t r)],[])⟩
theorem QKG:G0 251 shS.spec:=by
 have i:S0 _:=Qa Qp9 (Qa Qmv (Qa QDO (Qa QDP (Qb (T:=tree)))));have m:=tabs i Qc;refine shS.gd m i Tryz.func251 fun(d t:Int) (r:List Int) s=>?_
 obtain⟨j,q,rfl⟩:QLS t r:=s _ rfl;have e:=Qe9 j;have c:=QgT j;have hl:(QH q).length=9:=rfl;have hc:=QDS q;have g:land .i64 ((QH q).getD 4 0) 1=(QH q).getD 4 0%2:=QeR _;clear s
 repeat' first|(apply Ea;conv=>whnf)|apply Eb|apply Ec|apply Ed|apply Ee|(apply Ei;intro _)|apply Ef m i
 all_goals first
  |exact Ya rfl
  |exact e
  |exact c
  |exact⟨rfl,j⟩
  |exact rfl
  |exact⟨.inl rfl,rfl⟩
  |skip
 all_goals(try refine .k [] [] _ rfl (QLG ?_))
 all_goals clear m i
 all_goals(try rw[g])
 all_goals(try(unfold okN Qw8;omega))
 all_goals(clear e c g)
 all_goals(try simp_all [shF,cV])
 all_goals trace_state
abbrev gS:Sig:=⟨true,Qx⟩
theorem w_0:i64.wrap 0=0:=by decide
theorem w_1:i64.wrap 1=1:=by decide
theorem w_2:i64.wrap 2=2:=by decide
theorem w_8:i64.wrap 8=8:=by decide
def QHa(d t:Int)(F:List Int):Int:=(F.getD t.toNat 0+1-2*(d-10))%cond (Qaa t) 65536 256
def QKH(d t:Int)(F:List Int):List Int:=if Qaa t=true then F.set t.toNat (QHa d t F) else (F.set 4 (nzV (F.getD 4 0) (QHa d t F))).set t.toNat (QHa d t F)
def QDT(d n t f:Int)(F:List Int):List Int :=
 if d=1 then F.set t.toNat (F.getD f.toNat 0) else if d=2 then F.set t.toNat n else if d=3 then F.set 4 (nzV (F.getD 4 0) (F.getD t.toNat 0%256))
 else if 4≤d∧d≤9 then QFf d t f F else if d=10∨d=11 then QKH d t F else if 12≤d∧d≤15 then shF d t F
 else if d=16 then F.set 4 (QcF (F.getD 4 0) (n%256) true) else if d=17 then F.set 4 (QcF (F.getD 4 0) (n%256) false)
 else if d=18 then F.set t.toNat (256*(F.getD t.toNat 0/256)+F.getD f.toNat 0%256) else if d=19 then F.set t.toNat (256*(256*(F.getD t.toNat 0/65536)+F.getD f.toNat 0%256)+F.getD t.toNat 0%256)
 else if d=20 then F.set t.toNat (F.getD f.toNat 0%256) else if d=21 then F.set t.toNat (F.getD f.toNat 0/256%256)
 else if d=22 then F.set t.toNat (F.getD t.toNat 0+F.getD f.toNat 0%256) else if d=23 then F.set t.toNat (F.getD t.toNat 0+(F.getD f.toNat 0%256-F.getD f.toNat 0%256/128*256)) else F
theorem Qzc(d t f:Int)(F:List Int):(QFf d t f F).length=F.length:=by unfold QFf;(repeat' split)<;>simp
theorem QDU(d t:Int)(F:List Int):(shF d t F).length=F.length:=by unfold shF;(repeat' split)<;>simp
def doR(s:Stp)(r:List Int):List Int:=if s.1=24 then QH r else QH (QDT s.1 s.2.2.2 (Qar s.2.1) (Qar s.2.2.1) (QH r))
def doE(s:Stp)(r:List Int):Bool:=decide (s.1=24)&&((land .i64 ((QH r).getD 4 0) (s.2.2.2%256) != 0) != decide (s.2.2.1=1))
theorem QHb{l l':List Int}{b b':Bool}(h:l=l')(h2:b=b'):AV.tup [.agg [.run .i64 9 l],.c (bv b)]=AV.tup [.agg [.run .i64 9 l'],.c (bv b')]:=by rw[h,h2]
def doS:PSpec:=⟨[gS,gR],fun(s,r,_)=>(some (List.length r=9),.tup [.agg [.run .i64 9 (doR s r)],.c (bv (doE s r))],[])⟩
theorem QDV(t:Int):0≤cond (Qaa t) (16:Int) 8∧cond (Qaa t) (16:Int) 8≤62:=by cases Qaa t<;>decide
theorem QKI:G0 213 doS.spec:=by
 have m:S0 _:=Qa Qvd (Qa QnH (Qa QkL (Qa QDR (Qa QpJ (Qa QfL (Qa QG9 (Qa QKG (Qa QU (Qa Qib (Qa Qic (Qa QDQ (Qb (T:=tree)))))))))))));have q:=tabs m Qc;refine doS.gd q m Tryz.func213 fun(s:Stp) (r:List Int) hp=>?_
 obtain⟨d,to,fr,n⟩:=s;have h9:r.length=9:=hp _ rfl;have g:okT (Qar to):=Qhh to;have p:okT (Qar fr):=Qhh fr;have e:=Qe9 g;have j:=Qe9 p;have a:=QgT g;have i:=QgT p;have hl:(QH r).length=9:=rfl;have hb:=QDV (Qar to);clear hp
 repeat' first|(apply Ea;conv=>whnf)|apply Eb|apply Ec|apply Ed|apply Ee|(apply Ei;intro _)|apply Ef q m
 all_goals first
  |exact Ya rfl
  |exact h9
  |exact e
  |exact j
  |exact a
  |exact i
  |exact hb
  |exact⟨g,p,_,rfl⟩
  |exact⟨g,_,rfl⟩
  |exact⟨rfl,g⟩
  |exact rfl
  |skip
 all_goals(try refine .k [] [] _ rfl (QHb ?_ ?_))
 all_goals clear q m
 all_goals(dsimp only at *)
 all_goals(try(simp only[YH,Qzc,QDU,hl];done))
 all_goals(try(rename_i h;simp[doE,h];done))
 all_goals
  have bA:=Qir r (Qar to).toNat;have bB:=Qir r (Qar fr).toNat;clear e j a i hb
 all_goals(try simp only[doR,QDT,QKH,QHa,doE])
 all_goals
  generalize(QH r).getD (Qar to).toNat 0=A at *;generalize(QH r).getD (Qar fr).toNat 0=B at *
 all_goals
  have hA1:i64.wrap (A+1)=A+1:=w64 (by omega) (by omega);have hA2:i64.wrap (A+1-2)=A+1-2:=w64 (by omega) (by omega);have hA3:i64.wrap (A+B%256)=A+B%256:=w64 (by omega) (by omega);have hA4:i64.wrap (A+(B%256-B%256/128*256))=A+(B%256-B%256/128*256):=w64 (by omega) (by omega);have hA5:A<4611686018427387904:=by omega
  have hA6:B<4611686018427387904:=by omega
 all_goals(try simp_all [w_0,w_1,w_2,w_8])
 all_goals(try omega)
 ·show((land .i64 (QH r)[4] (n%256) != 0)==decide (fr=1))=!((land .i64 (QH r)[4] (n%256) != 0) != decide (fr=1));cases(land .i64 (QH r)[4] (n%256) != 0)<;>cases decide (fr=1)<;>rfl
 ·rw[Yb (by omega),Yb (by omega)]
theorem doings(d:Int):(d<0∨d>24)∨d=0∨d=1∨d=2∨d=3∨d=4∨d=5∨d=6∨d=7∨d=8∨d=9∨d=10∨d=11∨d=12∨d=13∨d=14∨d=15∨d=16∨d=17∨d=18∨d=19∨d=20∨d=21∨d=22∨d=23∨d=24:=by omega
theorem QzP:G0 199 QvX.spec:=by
 refine QR.sel QmD fun(s,_) hp=>?_
 obtain⟨sd,st,sf,sn⟩:=s;clear hp;show∃o1:Args [QzN]→Option Prop×AV×List Blk,_;rcases doings sd with hx|rfl|rfl|rfl|rfl|rfl|rfl|rfl|rfl|rfl|rfl|rfl|rfl|rfl|rfl|rfl|rfl|rfl|rfl|rfl|rfl|rfl|rfl|rfl|rfl|rfl
 ·exact⟨_,QmD,fun q a=>by cases a;exact hx,.refl⟩
 ·exact⟨_,QvZ,fun q a=>by cases a;rfl,.refl⟩
 ·exact⟨_,Qv0,fun q a=>by cases a;rfl,.refl⟩
 ·exact⟨_,Qv1,fun q a=>by cases a;rfl,.refl⟩
 ·exact⟨_,Qv2,fun q a=>by cases a;rfl,.refl⟩
 ·exact⟨_,Qv3,fun q a=>by cases a;rfl,.refl⟩
 ·exact⟨_,Qv4,fun q a=>by cases a;rfl,.refl⟩
 ·exact⟨_,Qv5,fun q a=>by cases a;rfl,.refl⟩
 ·exact⟨_,Qv6,fun q a=>by cases a;rfl,.refl⟩
 ·exact⟨_,Qv7,fun q a=>by cases a;rfl,.refl⟩
 ·exact⟨_,Qv8,fun q a=>by cases a;rfl,.refl⟩
 ·exact⟨_,Qr6,fun q a=>by cases a;rfl,.refl⟩
 ·exact⟨_,Qr7,fun q a=>by cases a;rfl,.refl⟩
 ·exact⟨_,Qr8,fun q a=>by cases a;rfl,.refl⟩
 ·exact⟨_,Qr9,fun q a=>by cases a;rfl,.refl⟩
 ·exact⟨_,Qsa,fun q a=>by cases a;rfl,.refl⟩
 ·exact⟨_,Qsb,fun q a=>by cases a;rfl,.refl⟩
 ·exact⟨_,Qsc,fun q a=>by cases a;rfl,.refl⟩
 ·exact⟨_,Qsd,fun q a=>by cases a;rfl,.refl⟩
 ·exact⟨_,Qse,fun q a=>by cases a;rfl,.refl⟩
 ·exact⟨_,Qsf,fun q a=>by cases a;rfl,.refl⟩
 ·exact⟨_,Qsg,fun q a=>by cases a;rfl,.refl⟩
 ·exact⟨_,Qsh,fun q a=>by cases a;rfl,.refl⟩
 ·exact⟨_,Qsi,fun q a=>by cases a;rfl,.refl⟩
 ·exact⟨_,Qsj,fun q a=>by cases a;rfl,.refl⟩
 ·exact⟨_,Qsk,fun q a=>by cases a;rfl,.refl⟩
end Go.Proofs.YtofgbclopbmlcaaGreat

