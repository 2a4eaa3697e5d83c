/- Part 25 of the proof. Conditions: none. -/
import Derived.Test.YtofgbclopbmlcaaGreatG24
import Derived.Test.YtofgbclopbmlcaaGreatG17
import Derived.Test.YtofgbclopbmlcaaGreatG23
import Derived.Test.YtofgbclopbmlcaaGreatG20
namespace Go.Proofs.YtofgbclopbmlcaaGreat
open Go.IntKind (i64)
set_option maxHeartbeats 8000000
open Go.Fw
set_option linter.unusedVariables false
set_option linter.unusedSimpArgs false
set_option maxRecDepth 100000
def Qr6(p:Int→Bool):List Int→Int→Int
 | [],_=>-1
 |a::l,i=>if p a=true then i else Qr6 p l (i+1)
theorem QpP(p:Int→Bool):∀(l:List Int) (i:Int),0≤i→decide (Qr6 p l i≥0)=l.any p
 | [],i,h=>by simp[Qr6]
 |a::l,i,h=>by
  unfold Qr6;rw[List.any_cons];cases hp:p a with
  |true=>simpa using h
  |false=>simpa using QpP p l (i+1) (by omega)
theorem Qmf(p:Int→Bool){l:List Int}{k:Nat}(h:k<l.length):Qr6 p (l.drop k) k=if p (l.getD k 0)=true then (k:Int) else Qr6 p (l.drop (k+1)) ((k:Int)+1):=by
 rw[List.drop_eq_getElem_cons h,Qr6];simp[h]
def QAG:PSpec:=⟨[gl,gi],fun(l,v,_)=>(some (List.length l≤4611686018427387904),I (Qr6 (fun a=>decide (v=a)) l 0),[])⟩
theorem QyE:G0 195 QAG.spec:=by
 have hP:S0 _:=(Qb (T:=tree))
 have hT:=tabs hP Qc;refine QAG.gd hT hP Tryz.func195 fun(l:List Int) (v:Int) hp=>?_
 have hp:l.length≤4611686018427387904:=hp _ rfl
 repeat' first|(apply Ea;conv=>whnf)|apply Eb|apply Ec<;>intro _|apply Ed<;>intro _|apply Ee<;>intro _|apply Ef hT hP
 refine Qai hT hP (X:=Int) (fun i=>St.mk ((.cell (.ro (.int .i64) l))::(I v)::E5 ((I l.length)::(I i)::E10 [])) [])
  (fun i=>∃k:Nat,i=k∧k≤l.length∧Qr6 (fun a=>decide (v=a)) l 0=Qr6 (fun a=>decide (v=a)) (l.drop k) k) (fun i=>(l.length-i).toNat) 0 (Le.mk [] [] R R R ?_) ?_ fun i hi=>?_
 rotate_right
 repeat' first|(apply Ea;conv=>whnf)|apply Eb|apply Ec<;>intro _|apply Ed<;>intro _|apply Ee<;>intro _|apply Ef hT hP
 ·obtain⟨k,rfl,hk,h0⟩:=hi;omega
 ·rename_i hz;obtain⟨k,rfl,hk,h0⟩:=hi;have hlt:k<l.length:=by omega
  have hz:v=l.getD k 0:=by simpa[dflt] using hz
  refine .k [] [] _ rfl (Qd ?_);show(k:Int)=Qr6 (fun a=>decide (v=a)) l 0;rw[h0,Qmf _ hlt,if_pos (decide_eq_true hz)]
 ·rename_i hz;obtain⟨k,rfl,hk,h0⟩:=hi;have hlt:k<l.length:=by omega
  have hz:¬v=l.getD k 0:=by simpa[dflt] using hz
  have e:i64.wrap ((k:Int)+1)=((k+1:Nat):Int):=by rw[w64 (by omega) (by omega)];omega
  apply Exists.intro _;refine And.intro ?_ (And.intro ?_ (Le.k [] [] ?hh))
  case hh=>repeat' constructor
  ·refine⟨k+1,e,by omega,?_⟩;rw[h0,Qmf _ hlt,if_neg (by simpa using hz)];rfl
  ·show(l.length-i64.wrap ((k:Int)+1)).toNat<(l.length-(k:Int)).toNat;rw[e];omega
 ·obtain⟨k,rfl,hk,h0⟩:=hi;refine .k [] [] _ rfl (Qd ?_);show -1=Qr6 (fun a=>decide (v=a)) l 0;rw[h0,List.drop_of_length_le (by omega)];rfl
 ·repeat' constructor
 ·exact⟨0,rfl,by omega,rfl⟩
def Qmg:PSpec:=⟨[gl,gi],fun(l,v,_)=>(some (List.length l≤4611686018427387904),.cell (bv (l.any fun a=>decide (v=a))),[])⟩
theorem QnE:G0 105 Qmg.spec:=by
 have hP:S0 _:=Qa QyE (Qb (T:=tree));have hT:=tabs hP Qc;refine Qmg.gd hT hP Tryz.func105 fun(l:List Int) (v:Int) hp=>?_
 have hp:l.length≤4611686018427387904:=hp _ rfl
 repeat' first|(apply Ea;conv=>whnf)|apply Eb|apply Ec<;>intro _|apply Ed<;>intro _|apply Ee<;>intro _|apply Ef hT hP
 ·exact hp
 ·refine .k [] [] _ rfl (Qi ?_);exact QpP _ l 0 (by omega)
theorem QeM(c:Int):land .i64 c 1=c%2:=by
 have e:(BitVec.ofInt 64 c &&& BitVec.ofInt 64 1).toNat=(BitVec.ofInt 64 c).toNat%2:=by
  rw[BitVec.toNat_and];exact Nat.and_one_is_mod _
 show i64.wrap (((BitVec.ofInt 64 c &&& BitVec.ofInt 64 1).toNat:Nat):Int)=_;rw[e,Qac,w64 (by omega) (by omega)];unfold u64;omega
theorem QnF(x:Int)(k:Nat)(h:k≤64):shr .i64 x (k:Int)=x/2 ^ k:=by
 show x.fdiv (2 ^ (min ((k:Int).toNat) 64))=_;have:min ((k:Int).toNat) 64=k:=by omega
 rw[this];exact Int.fdiv_eq_ediv_of_nonneg _ (by have:(0:Int)≤((2 ^ k:Nat):Int):=Int.natCast_nonneg _;simpa using this)
theorem QJV(x:Int):shr .i64 x 8=x/256:=QnF x 8 (by omega)
theorem QLN(x:Int):shr .i64 x 1=x/2:=QnF x 1 (by omega)
theorem QLO(x:Int):shr .i64 x 7=x/128:=QnF x 7 (by omega)
theorem QeN:QaD 8=8:=by decide
theorem p8:(2:Int) ^ (8:Int).toNat=256:=by decide
theorem QJW(x:Int)(h:0≤x∧x<65536):shl .i64 x 1=2*x:=by
 show i64.wrap (x*2 ^ (min ((1:Int).toNat) 64))=_;have:min ((1:Int).toNat) 64=1:=by decide
 rw[this,w64 (by omega) (by omega)];omega
theorem QJX(x:Int)(h:0≤x∧x<65536):shl .i64 x 8=256*x:=by
 show i64.wrap (x*2 ^ (min ((8:Int).toNat) 64))=_;have:min ((8:Int).toNat) 64=8:=by decide
 rw[this,w64 (by omega) (by omega)];omega
theorem QFL:shl .i64 1 8=256:=by decide
theorem QFM(x c:Int)(h:0≤x∧x<256)(hc:c=0∨c=1):lor .i64 (2*x) c=2*x+c:=by
 rcases hc with rfl|rfl
 ·exact Qd4 (fun x=>lor .i64 (2*x) 0=2*x+0) (by decide +kernel) x h.1 h.2
 ·exact Qd4 (fun x=>lor .i64 (2*x) 1=2*x+1) (by decide +kernel) x h.1 h.2
theorem QCR(x c:Int)(h:0≤x∧x<256)(hc:c=0∨c=1):lor .i64 x (256*c)=x+256*c:=by
 rcases hc with rfl|rfl
 ·exact Qd4 (fun x=>lor .i64 x (256*0)=x+256*0) (by decide +kernel) x h.1 h.2
 ·exact Qd4 (fun x=>lor .i64 x (256*1)=x+256*1) (by decide +kernel) x h.1 h.2
abbrev QwK(c:Int):Prop:=c=0∨c=1
def QFN(a b c n:Int):Prop:=(0≤a∧a<256)∧(0≤b∧b<256)∧QwK c∧n=8
def QFO:PSpec:=⟨[gi,gi,gi,gi],fun(a,b,c,n,_)=>(some (QFN a b c n),.tup [I1 ((a+b+c)%256),I1 ((a+b+c)/256)],[])⟩
theorem QCS:G0 264 QFO.spec:=by
 have hP:S0 _:=Qa QcH (Qa QN (Qb (T:=tree)));have hT:=tabs hP Qc;refine QFO.gd hT hP Tryz.func264 fun(a b c n:Int) hp=>?_
 obtain⟨ha,hb,hc,rfl⟩:QFN a b c n:=hp _ rfl
 repeat' first|(apply Ea;conv=>whnf)|apply Eb|apply Ec<;>intro _|apply Ed<;>intro _|apply Ee<;>intro _|apply Ef hT hP
 all_goals first
  |exact of_decide_eq_true rfl
  |skip
 refine .k [] [] _ rfl (Qek ?_ ?_)
 ·rw[QeN,p8,QeM];simp only[Qk0];omega
 ·rw[QeN,p8,QeM,QJV];simp only[Qk0];omega
def Qkw(x:Int):Int:=if x<0 then 1 else 0
def QFP:PSpec:=⟨[gi,gi,gi,gi],fun(a,b,c,n,_)=>(some (QFN a b c n),.tup [I1 ((a-b-c)%256),I1 (Qkw (a-b-c))],[])⟩
theorem QCT:G0 267 QFP.spec:=by
 have hP:S0 _:=Qa QcH (Qa QN (Qb (T:=tree)));have hT:=tabs hP Qc;refine QFP.gd hT hP Tryz.func267 fun(a b c n:Int) hp=>?_
 obtain⟨ha,hb,hc,rfl⟩:QFN a b c n:=hp _ rfl
 repeat' first|(apply Ea;conv=>whnf)|apply Eb|apply Ec<;>intro _|apply Ed<;>intro _|apply Ee<;>intro _|apply Ef hT hP
 all_goals first
  |exact of_decide_eq_true rfl
  |skip
 all_goals
  rename_i h;dsimp only[gi,Den] at h;rw[QeN,p8,QeM] at h;simp only[Qk0] at h;refine .k [] [] _ rfl (Qek ?_ ?_)
  ·simp only[QeN,p8,QeM,QFL,Qk0];rcases hc with rfl|rfl<;>omega
  ·unfold Qkw;rcases hc with rfl|rfl<;>split<;>omega
def okN(n c b:Int):Prop:=QwK c∧b=8
def QFQ:PSpec:=⟨[gi,gi,gi],fun(n,c,b,_)=>(some (okN n c b),.tup [I1 ((n*2+c)%256),I1 (n%256/128)],[])⟩
theorem QCU:G0 268 QFQ.spec:=by
 have hP:S0 _:=Qa QcH (Qa QN (Qb (T:=tree)));have hT:=tabs hP Qc;refine QFQ.gd hT hP Tryz.func268 fun(n c b:Int) hp=>?_
 obtain⟨hc,rfl⟩:okN n c b:=hp _ rfl;have hcc:c%2=c:=by rcases hc with rfl|rfl<;>rfl
 repeat' first|(apply Ea;conv=>whnf)|apply Eb|apply Ec<;>intro _|apply Ed<;>intro _|apply Ee<;>intro _|apply Ef hT hP
 all_goals first
  |exact of_decide_eq_true rfl
  |skip
 have hor:=QFM (n%256) c (by omega) hc;refine .k [] [] _ rfl (Qek ?_ ?_)
 ·simp only[QeN,p8,QeM,hcc];rw[QJW _ (by omega),hor];rcases hc with rfl|rfl<;>omega
 ·simp only[QeN,p8,QeM,hcc];rw[QJW _ (by omega),hor,QJV];rcases hc with rfl|rfl<;>omega
def QFR:PSpec:=⟨[gi,gi,gi],fun(n,c,b,_)=>(some (okN n c b),.tup [I1 (n%256/2+128*c),I1 (n%2)],[])⟩
theorem QCV:G0 269 QFR.spec:=by
 have hP:S0 _:=Qa QcH (Qa QN (Qb (T:=tree)));have hT:=tabs hP Qc;refine QFR.gd hT hP Tryz.func269 fun(n c b:Int) hp=>?_
 obtain⟨hc,rfl⟩:okN n c b:=hp _ rfl;have hcc:c%2=c:=by rcases hc with rfl|rfl<;>rfl
 repeat' first|(apply Ea;conv=>whnf)|apply Eb|apply Ec<;>intro _|apply Ed<;>intro _|apply Ee<;>intro _|apply Ef hT hP
 all_goals first
  |exact of_decide_eq_true rfl
  |skip
 have hor:=QCR (n%256) c (by omega) hc;refine .k [] [] _ rfl (Qek ?_ ?_)
 ·simp only[QeN,p8,QeM,hcc];rw[QJX _ (by rcases hc with rfl|rfl<;>omega),hor,QLN];rcases hc with rfl|rfl<;>omega
 ·simp only[QeN,p8,hcc,QeM];rw[QJX _ (by rcases hc with rfl|rfl<;>omega),hor];rcases hc with rfl|rfl<;>omega
def QFS:PSpec:=⟨[gi,gi],fun(n,b,_)=>(some ((b:Int)=8),I (n%256-n%256/128*256),[])⟩
theorem QCW:G0 253 QFS.spec:=by
 have hP:S0 _:=Qa QcH (Qa QN (Qb (T:=tree)));have hT:=tabs hP Qc;refine QFS.gd hT hP Tryz.func253 fun(n b:Int) hp=>?_
 obtain rfl:b=8:=hp _ rfl
 repeat' first|(apply Ea;conv=>whnf)|apply Eb|apply Ec<;>intro _|apply Ed<;>intro _|apply Ee<;>intro _|apply Ef hT hP
 all_goals first
  |exact(by decide:0≤QaD 8∧QaD 8≤62)
  |exact(by decide:0≤i64.wrap (QaD 8-1))
  |exact(by decide:0≤QaD 8)
  |skip
 all_goals
  rename_i h;dsimp only[gi,Den] at h;rw[QeN,p8,show i64.wrap (8-1)=7 by decide,QLO] at h;refine .k [] [] _ rfl (Qd ?_);simp only[QeN,p8,QFL,Qk0];omega
def QcC(p f:Int)(on:Bool):Int:=cond on (lor .i64 (Q3 .i64 p f) f) (Q3 .i64 p f)
def QFT:PSpec:=⟨[gR,gi,gB],fun(r,f,on,_)=>(some (List.length r=9),.agg [.run .i64 9 (List.set r 4 (QcC (List.getD r 4 0) f on))],[])⟩
theorem Qkx:G0 252 QFT.spec:=by
 have hP:S0 _:=(Qb (T:=tree))
 have hT:=tabs hP Qc;refine QFT.gd hT hP Tryz.func252 fun(r:List Int) (f:Int) (on:Bool) hp=>?_
 have h9:r.length=9:=hp _ rfl;obtain⟨r0,r1,r2,r3,r4,r5,r6,r7,r8,rfl⟩:=nine h9;cases on
 all_goals
  repeat' first|(apply Ea;conv=>whnf)|apply Eb|apply Ec<;>intro _|apply Ed<;>intro _|apply Ee<;>intro _|apply Ef hT hP
 all_goals first
  |exact of_decide_eq_true rfl
  |exact .k [] [] _ R R
def nzV(p n:Int):Int:=QcC (QcC p 2 (decide (n=0))) 128 (decide (n≥128))
def nzS:PSpec:=⟨[gR,gi],fun(r,n,_)=>(some (List.length r=9),.agg [.run .i64 9 (List.set r 4 (nzV (List.getD r 4 0) n))],[])⟩
theorem QCX:G0 248 nzS.spec:=by
 have hP:S0 _:=Qa Qkx (Qb (T:=tree));have hT:=tabs hP Qc;refine nzS.gd hT hP Tryz.func248 fun(r:List Int) (n:Int) hp=>?_
 have h9:r.length=9:=hp _ rfl;obtain⟨r0,r1,r2,r3,r4,r5,r6,r7,r8,rfl⟩:=nine h9
 repeat' first|(apply Ea;conv=>whnf)|apply Eb|apply Ec<;>intro _|apply Ed<;>intro _|apply Ee<;>intro _|apply Ef hT hP
 all_goals first
  |exact of_decide_eq_true rfl
  |exact .k [] [] _ R R
def QAI:PSpec:=⟨[gR],fun(r,_)=>(some (List.length r=9),I (land .i64 (List.getD r 4 0) 1),[])⟩
theorem QpS:G0 265 QAI.spec:=by
 have hP:S0 _:=(Qb (T:=tree))
 have hT:=tabs hP Qc;refine QAI.gd hT hP Tryz.func265 fun(r:List Int) hp=>?_
 have h9:r.length=9:=hp _ rfl
 repeat' first|(apply Ea;conv=>whnf)|apply Eb|apply Ec<;>intro _|apply Ed<;>intro _|apply Ee<;>intro _|apply Ef hT hP
 all_goals first
  |exact of_decide_eq_true rfl
  |exact .k [] [] _ R R
def Qaj(n:Int):Int:=max 0 (min n 8)
def QuW:PSpec:=⟨[gi],fun(n,_)=>(none,I (Qaj n),[])⟩
theorem QuX:G0 247 QuW.spec:=by
 have hP:S0 _:=(Qb (T:=tree))
 have hT:=tabs hP Qc;refine QuW.gd hT hP Tryz.func247 fun(n:Int) hp=>?_
 repeat' first|(apply Ea;conv=>whnf)|apply Eb|apply Ec<;>intro _|apply Ed<;>intro _|apply Ee<;>intro _|apply Ef hT hP
 refine .k [] [] _ rfl (Qd ?_);rw[QT,QU];rfl
theorem Qg4(n:Int):0≤Qaj n∧Qaj n<9:=by unfold Qaj;omega
def okT(t:Int):Prop:=0≤t∧t<9
def Qk1(p n c:Int):Int:=QcC (nzV p n) 1 (decide (c=1))
def QuY:PSpec:=⟨[gR,gi,gi,gi],fun(r,t,n,c,_)=>(some (List.length r=9∧okT t),.agg [.run .i64 9 (List.set (List.set r 4 (Qk1 (List.getD r 4 0) n c)) (Int.toNat t) n)],[])⟩
theorem Qmh:G0 266 QuY.spec:=by
 have hP:S0 _:=Qa Qkx (Qa QCX (Qb (T:=tree)));have hT:=tabs hP Qc;refine QuY.gd hT hP Tryz.func266 fun(r:List Int) (t n c:Int) hp=>?_
 obtain⟨h9,ht⟩:r.length=9∧okT t:=hp _ rfl;obtain⟨r0,r1,r2,r3,r4,r5,r6,r7,r8,rfl⟩:=nine h9;have ht2:t.toNat<9:=by have:=ht;unfold okT at this;omega
 repeat' first|(apply Ea;conv=>whnf)|apply Eb|apply Ec<;>intro _|apply Ed<;>intro _|apply Ee<;>intro _|apply Ef hT hP
 all_goals first
  |exact of_decide_eq_true rfl
  |exact ht
  |exact ht2
  |exact .k [] [] _ R R
theorem Qib(r:List Int)(n:Nat):0≤(QE r).getD n 0∧(QE r).getD n 0<65536:=by
 match n with
 |0|1|2|3|4|5|6|7|8=>simp[QE];omega
 |n+9=>simp[QE]
theorem QCY(r:List Int):0≤(QE r).getD 4 0∧(QE r).getD 4 0<256:=by simp[QE];omega
theorem Qe4{t:Int}(h:okT t):0≤t∧t<((9:Nat):Int):=by unfold okT at h;omega
theorem QgH{t:Int}(h:okT t):t.toNat<9:=by unfold okT at h;omega
abbrev aV(t:Int)(F:List Int):Int:=F.getD t.toNat 0%256
abbrev cV(F:List Int):Int:=F.getD 4 0%2
def QHc(d a b:Int):Int:=if d=7 then land .i64 a b else if d=8 then lor .i64 a b else lxor .i64 a b
def QD8(d t f:Int)(F:List Int):List Int :=
 if d=4 then (F.set 4 (Qk1 (F.getD 4 0) ((aV t F+aV f F+cV F)%256) ((aV t F+aV f F+cV F)/256))).set t.toNat ((aV t F+aV f F+cV F)%256)
 else if d=5 then (F.set 4 (Qk1 (F.getD 4 0) ((aV t F-aV f F-(1-cV F))%256) (1-Qkw (aV t F-aV f F-(1-cV F))))).set t.toNat ((aV t F-aV f F-(1-cV F))%256)
 else if d=6 then F.set 4 (QcC (nzV (F.getD 4 0) ((aV t F-aV f F)%256)) 1 (decide (Qkw (aV t F-aV f F)=0)))
 else (F.set 4 (nzV (F.getD 4 0) (QHc d (aV t F) (aV f F)))).set t.toNat (QHc d (aV t F) (aV f F))
theorem QLP:(2:Int) ^ 8=256:=by decide
theorem wbor(x:Int):i64.wrap (1-Qkw x)=1-Qkw x:=by unfold Qkw;split<;>decide
theorem i8:Int.toNat 8=8:=rfl
def QFU(d t f:Int)(r:List Int):Prop:=okT t∧okT f∧∃q,r=QE q
theorem QyJ(F:List Int)(x y:Int):(F.set 4 x).set 4 y=F.set 4 y:=by simp
def QJY:PSpec:=⟨[gi,gi,gi,gR],fun(d,t,f,r,_)=>(some (QFU d t f r),.agg [.run .i64 9 (QD8 d t f r)],[])⟩
theorem QFV:G0 249 QJY.spec:=by
 have hP:S0 _:=Qa Qkx (Qa QCX (Qa QpS (Qa Qmh (Qa QCS (Qa QCT (Qa QN (Qb (T:=tree))))))));have hT:=tabs hP Qc;refine QJY.gd hT hP Tryz.func249 fun(d t f:Int) (r:List Int) hp=>?_
 obtain⟨ht,hf,q,rfl⟩:QFU d t f r:=hp _ rfl;have ht1:=Qe4 ht;have hf1:=Qe4 hf;have ht2:=QgH ht;have hf2:=QgH hf;have hl:(QE q).length=9:=rfl;have hc:=QCY q;have hlc:land .i64 ((QE q).getD 4 0) 1=(QE q).getD 4 0%2:=QeM _;have hw1:i64.wrap (1-(QE q).getD 4 0%2)=1-(QE q).getD 4 0%2:=w64 (by omega) (by omega);clear hp
 repeat' first|(apply Ea;conv=>whnf)|apply Eb|apply Ec<;>intro _|apply Ed<;>intro _|apply Ee<;>intro _|apply Ef hT hP
 all_goals first
  |exact of_decide_eq_true rfl
  |exact ht1
  |exact hf1
  |exact ht2
  |exact hf2
  |exact⟨rfl,ht⟩
  |exact rfl
  |skip
 all_goals(try refine .k [] [] _ rfl (QJM ?_))
 all_goals clear hT hP
 all_goals(simp only[i8,QLP,hlc,hw1,wbor])
 all_goals(try(unfold QFN QwK;omega))
 all_goals(clear ht1 hf1 ht2 hf2 hlc hw1)
 all_goals(try simp_all [QD8,QHc,aV,cV])
 all_goals(try rfl)
def shF(d t:Int)(F:List Int):List Int :=
 if d=12 then (F.set 4 (Qk1 (F.getD 4 0) ((F.getD t.toNat 0*2+0)%256) (F.getD t.toNat 0%256/128))).set t.toNat ((F.getD t.toNat 0*2+0)%256)
 else if d=14 then (F.set 4 (Qk1 (F.getD 4 0) ((F.getD t.toNat 0*2+cV F)%256) (F.getD t.toNat 0%256/128))).set t.toNat ((F.getD t.toNat 0*2+cV F)%256)
 else if d=13 then (F.set 4 (Qk1 (F.getD 4 0) (F.getD t.toNat 0%256/2+128*0) (F.getD t.toNat 0%2))).set t.toNat (F.getD t.toNat 0%256/2+128*0)
 else (F.set 4 (Qk1 (F.getD 4 0) (F.getD t.toNat 0%256/2+128*cV F) (F.getD t.toNat 0%2))).set t.toNat (F.getD t.toNat 0%256/2+128*cV F)
def QJZ(t:Int)(r:List Int):Prop:=okT t∧∃q,r=QE q
def shS:PSpec:=⟨[gi,gi,gR],fun(d,t,r,_)=>(some (QJZ t r),.agg [.run .i64 9 (shF d t r)],[])⟩
theorem QI3:G0 251 shS.spec:=by
 have hP:S0 _:=Qa QpS (Qa Qmh (Qa QCU (Qa QCV (Qb (T:=tree)))));have hT:=tabs hP Qc;refine shS.gd hT hP Tryz.func251 fun(d t:Int) (r:List Int) hp=>?_
 obtain⟨ht,q,rfl⟩:QJZ t r:=hp _ rfl;have ht1:=Qe4 ht;have ht2:=QgH ht;have hl:(QE q).length=9:=rfl;have hc:=QCY q;have hlc:land .i64 ((QE q).getD 4 0) 1=(QE q).getD 4 0%2:=QeM _;clear hp
 repeat' first|(apply Ea;conv=>whnf)|apply Eb|apply Ec<;>intro _|apply Ed<;>intro _|apply Ee<;>intro _|apply Ef hT hP
 all_goals first
  |exact of_decide_eq_true rfl
  |exact ht1
  |exact ht2
  |exact⟨rfl,ht⟩
  |exact rfl
  |exact⟨.inl rfl,rfl⟩
  |skip
 all_goals(try refine .k [] [] _ rfl (QJM ?_))
 all_goals clear hT hP
 all_goals(try rw[hlc])
 all_goals(try(unfold okN QwK;omega))
 all_goals(clear ht1 ht2 hlc)
 all_goals(try simp_all [shF,cV])
 all_goals trace_state
abbrev gS:Sig:=⟨true,Qv⟩
theorem w_0:i64.wrap 0=0:=by decide
theorem w_1:i64.wrap 1=1:=by decide
theorem w_2:i64.wrap 2=2:=by decide
theorem w_8:i64.wrap 8=8:=by decide
def QFW(d t:Int)(F:List Int):Int:=(F.getD t.toNat 0+1-2*(d-10))%cond (Q5 t) 65536 256
def QI4(d t:Int)(F:List Int):List Int:=if Q5 t=true then F.set t.toNat (QFW d t F) else (F.set 4 (nzV (F.getD 4 0) (QFW d t F))).set t.toNat (QFW d t F)
def QCZ(d n t f:Int)(F:List Int):List Int :=
 if d=1 then F.set t.toNat (F.getD f.toNat 0) else if d=2 then F.set t.toNat n else if d=3 then F.set 4 (nzV (F.getD 4 0) (F.getD t.toNat 0%256))
 else if 4≤d∧d≤9 then QD8 d t f F else if d=10∨d=11 then QI4 d t F else if 12≤d∧d≤15 then shF d t F
 else if d=16 then F.set 4 (QcC (F.getD 4 0) (n%256) true) else if d=17 then F.set 4 (QcC (F.getD 4 0) (n%256) false)
 else if d=18 then F.set t.toNat (256*(F.getD t.toNat 0/256)+F.getD f.toNat 0%256) else if d=19 then F.set t.toNat (256*(256*(F.getD t.toNat 0/65536)+F.getD f.toNat 0%256)+F.getD t.toNat 0%256)
 else if d=20 then F.set t.toNat (F.getD f.toNat 0%256) else if d=21 then F.set t.toNat (F.getD f.toNat 0/256%256)
 else if d=22 then F.set t.toNat (F.getD t.toNat 0+F.getD f.toNat 0%256) else if d=23 then F.set t.toNat (F.getD t.toNat 0+(F.getD f.toNat 0%256-F.getD f.toNat 0%256/128*256)) else F
theorem QyK(d t f:Int)(F:List Int):(QD8 d t f F).length=F.length:=by unfold QD8;(repeat' split)<;>simp
theorem QC0(d t:Int)(F:List Int):(shF d t F).length=F.length:=by unfold shF;(repeat' split)<;>simp
def doR(s:Stp)(r:List Int):List Int:=if s.1=24 then QE r else QE (QCZ s.1 s.2.2.2 (Qaj s.2.1) (Qaj s.2.2.1) (QE r))
def doE(s:Stp)(r:List Int):Bool:=decide (s.1=24)&&((land .i64 ((QE r).getD 4 0) (s.2.2.2%256) != 0) != decide (s.2.2.1=1))
theorem QFX{l l':List Int}{b b':Bool}(h:l=l')(h2:b=b'):AV.tup [.agg [.run .i64 9 l],.c (bv b)]=AV.tup [.agg [.run .i64 9 l'],.c (bv b')]:=by rw[h,h2]
def doS:PSpec:=⟨[gS,gR],fun(s,r,_)=>(some (List.length r=9),.tup [.agg [.run .i64 9 (doR s r)],.c (bv (doE s r))],[])⟩
theorem QC1(t:Int):0≤cond (Q5 t) (16:Int) 8∧cond (Q5 t) (16:Int) 8≤62:=by cases Q5 t<;>decide
theorem QI5:G0 213 doS.spec:=by
 have hP:S0 _:=Qa QuX (Qa Qnu (Qa Qkx (Qa QCX (Qa Qpw (Qa QfH (Qa QFV (Qa QI3 (Qa QN (Qa QhW (Qa QhX (Qa QCW (Qb (T:=tree)))))))))))));have hT:=tabs hP Qc;refine doS.gd hT hP Tryz.func213 fun(s:Stp) (r:List Int) hp=>?_
 obtain⟨d,to,fr,n⟩:=s;have h9:r.length=9:=hp _ rfl;have ht:okT (Qaj to):=Qg4 to;have hf:okT (Qaj fr):=Qg4 fr;have ht1:=Qe4 ht;have hf1:=Qe4 hf;have ht2:=QgH ht;have hf2:=QgH hf;have hl:(QE r).length=9:=rfl;have hb:=QC1 (Qaj to);clear hp
 repeat' first|(apply Ea;conv=>whnf)|apply Eb|apply Ec<;>intro _|apply Ed<;>intro _|apply Ee<;>intro _|apply Ef hT hP
 all_goals first
  |exact of_decide_eq_true rfl
  |exact h9
  |exact ht1
  |exact hf1
  |exact ht2
  |exact hf2
  |exact hb
  |exact⟨ht,hf,_,rfl⟩
  |exact⟨ht,_,rfl⟩
  |exact⟨rfl,ht⟩
  |exact rfl
  |skip
 all_goals(try refine .k [] [] _ rfl (QFX ?_ ?_))
 all_goals clear hT hP
 all_goals(dsimp only at *)
 all_goals(try(simp only[List.length_set,QyK,QC0,hl];done))
 all_goals(try(rename_i h;simp[doE,h];done))
 all_goals
  have bA:=Qib r (Qaj to).toNat;have bB:=Qib r (Qaj fr).toNat;clear ht1 hf1 ht2 hf2 hb
 all_goals(try simp only[doR,QCZ,QI4,QFW,doE])
 all_goals
  generalize(QE r).getD (Qaj to).toNat 0=A at *;generalize(QE r).getD (Qaj fr).toNat 0=B at *
 all_goals
  have hA1:i64.wrap (A+1)=A+1:=w64 (by omega) (by omega);have hA2:i64.wrap (A+1-2)=A+1-2:=w64 (by omega) (by omega);have hA3:i64.wrap (A+B%256)=A+B%256:=w64 (by omega) (by omega);have hA4:i64.wrap (A+(B%256-B%256/128*256))=A+(B%256-B%256/128*256):=w64 (by omega) (by omega);have hA5:A<4611686018427387904:=by omega
  have hA6:B<4611686018427387904:=by omega
 all_goals(try simp_all [w_0,w_1,w_2,w_8])
 all_goals(try omega)
 ·show((land .i64 (QE r)[4] (n%256) != 0)==decide (fr=1))=!((land .i64 (QE r)[4] (n%256) != 0) != decide (fr=1));cases(land .i64 (QE r)[4] (n%256) != 0)<;>cases decide (fr=1)<;>rfl
 ·rw[if_neg (by omega),if_neg (by omega)]
def QC2(n lo hi:Int):Int:=if n<lo then lo else if n>hi then hi else n
def QJ0:PSpec:=⟨[gi,gi,gi],fun(n,lo,hi,_)=>(none,I (QC2 n lo hi),[])⟩
theorem QFY:G0 80 QJ0.spec:=by
 have hP:S0 _:=(Qb (T:=tree))
 have hT:=tabs hP Qc;refine QJ0.gd hT hP Tryz.func80 fun(n lo hi:Int) hp=>?_
 repeat' first|(apply Ea;conv=>whnf)|apply Eb|apply Ec<;>intro _|apply Ed<;>intro _|apply Ee<;>intro _|apply Ef hT hP
 all_goals
  refine .k [] [] _ rfl (Qd ?_);show _=QC2 n lo hi;dsimp only[gi,Den] at *;unfold QC2;split<;>(try split)<;>omega
theorem Qic(n:Int):QC2 n 0 8=Qaj n:=by unfold QC2 Qaj;split<;>(try split)<;>omega
def rfV(p n c:Int):Int :=
 let q:=Q3 .i64 p 130;let q:=if n=0 then lor .i64 q 2 else q
 let q:=lor .i64 q (land .i64 n 128)
 if c≥0 then lor .i64 (Q3 .i64 q 1) c else q
def QuZ:PSpec:=⟨[gi,gi,gi],fun(p,n,c,_)=>(none,I (rfV p n c),[])⟩
theorem Qu0:G0 220 QuZ.spec:=by
 have hP:S0 _:=(Qb (T:=tree))
 have hT:=tabs hP Qc;refine QuZ.gd hT hP Tryz.func220 fun(p n c:Int) hp=>?_
 repeat' first|(apply Ea;conv=>whnf)|apply Eb|apply Ec<;>intro _|apply Ed<;>intro _|apply Ee<;>intro _|apply Ef hT hP
 all_goals
  refine .k [] [] _ rfl (Qd ?_);show _=rfV p n c
  simp_all [rfV]<;>(intro h;exfalso;omega)
theorem QC3:∀n:Int,0≤n→n<256→land .i64 n 128=if n≥128 then 128 else 0:=Qd4 (fun n=>land .i64 n 128=if n≥128 then 128 else 0) (by decide +kernel)
def rfB(p:Int)(z m:Bool):Int:=lor .i64 (cond z (lor .i64 (Q3 .i64 p 130) 2) (Q3 .i64 p 130)) (cond m 128 0)
theorem QAJ(z m:Bool):∀p:Int,0≤p→p<256→rfB p z m=QcC (QcC p 2 z) 128 m:=by
 cases z<;>cases m
 ·exact Qd4 (fun p=>rfB p false false=QcC (QcC p 2 false) 128 false) (by decide +kernel)
 ·exact Qd4 (fun p=>rfB p false true=QcC (QcC p 2 false) 128 true) (by decide +kernel)
 ·exact Qd4 (fun p=>rfB p true false=QcC (QcC p 2 true) 128 false) (by decide +kernel)
 ·exact Qd4 (fun p=>rfB p true true=QcC (QcC p 2 true) 128 true) (by decide +kernel)
theorem QJ1{p n:Int}(hn:0≤n∧n<256):lor .i64 (if n=0 then lor .i64 (Q3 .i64 p 130) 2 else Q3 .i64 p 130) (land .i64 n 128)=rfB p (decide (n=0)) (decide (n≥128)):=by
 rw[QC3 n hn.1 hn.2];unfold rfB;by_cases h1:n=0<;>by_cases h2:n≥128<;>simp[h1,h2]
theorem QyL{p n:Int}(hp:0≤p∧p<256)(hn:0≤n∧n<256):rfV p n (-1)=nzV p n:=by
 unfold rfV nzV;simp only[QJ1 hn];rw[if_neg (by omega),QAJ _ _ p hp.1 hp.2]
theorem QLQ(x:Int):lor .i64 (Q3 .i64 x 1) 0=Q3 .i64 x 1:=by
 show i64.wrap (((BitVec.ofInt 64 (Q3 .i64 x 1) ||| BitVec.ofInt 64 0).toNat:Nat):Int)=_;have:BitVec.ofInt 64 (Q3 .i64 x 1) ||| BitVec.ofInt 64 0=BitVec.ofInt 64 (Q3 .i64 x 1):=by simp
 rw[this,Qac];have hb:Q3 .i64 x 1=i64.wrap (((BitVec.ofInt 64 x &&& ~~~(BitVec.ofInt 64 1)).toNat:Nat):Int):=rfl;generalize((BitVec.ofInt 64 x &&& ~~~(BitVec.ofInt 64 1)).toNat:Nat)=m at hb;rw[hb,Qk0,Qk0];unfold u64;omega
theorem QfO{p n c:Int}(hp:0≤p∧p<256)(hn:0≤n∧n<256)(hc:c=0∨c=1):rfV p n c=Qk1 p n c:=by
 unfold rfV Qk1;simp only[QJ1 hn];rw[QAJ _ _ p hp.1 hp.2];rcases hc with rfl|rfl
 ·rw[if_pos (by omega)];show lor .i64 (Q3 .i64 (nzV p n) 1) 0=QcC (nzV p n) 1 (decide ((0:Int)=1));rw[QLQ];rfl
 ·rw[if_pos (by omega)];rfl
theorem QAK(p:Prop)[Decidable p]:QgK (Qag (kt:=.bool) (vt:=.int .i64) (Qaq (kt:=.bool) (vt:=.int .i64) [] true (1:Int)) (decide p)) (dflt (.int .i64))=if p then (1:Int) else 0:=by
 by_cases h:p
 ·rw[decide_eq_true h,if_pos h];rfl
 ·rw[decide_eq_false h,if_neg h];rfl
def QFZ(d a b c:Int):Prop:=(0≤a∧a<256)∧(0≤b∧b<256)∧QwK c
def QF0(d a b c:Int):Int:=if d=4 then (a+b+c)%256 else if d=5 then (a-b-(1-c))%256 else (a-b)%256
def QF1(d a b c:Int):Int:=if d=4 then (a+b+c)/256 else if d=5 then 1-Qkw (a-b-(1-c)) else 1-Qkw (a-b)
def QF2:PSpec:=⟨[gi,gi,gi,gi],fun(d,a,b,c,_)=>(some (QFZ d a b c),.tup [I1 (QF0 d a b c),I1 (QF1 d a b c)],[])⟩
theorem QC4:G0 221 QF2.spec:=by
 have hP:S0 _:=Qa Qco (Qb (T:=tree));have hT:=tabs hP Qc;refine QF2.gd hT hP Tryz.func221 fun(d a b c:Int) hp=>?_
 obtain⟨ha,hb,hc⟩:QFZ d a b c:=hp _ rfl
 repeat' first|(apply Ea;conv=>whnf)|apply Eb|apply Ec<;>intro _|apply Ed<;>intro _|apply Ee<;>intro _|apply Ef hT hP
 all_goals first
  |exact of_decide_eq_true rfl
  |skip
 all_goals(try refine .k [] [] _ rfl (Qek ?_ ?_))
 all_goals
  unfold QwK at hc;dsimp only[gi,Den] at *;clear hp hT hP
 ·rename_i h;simp only[QF0,if_pos h,Qk0,Quj];split<;>omega
 ·rename_i h;simp only[QF1,if_pos h,Qk0,QCB];split<;>omega
 ·rename_i h1 h2;simp only[QF0,if_neg h1,if_pos h2,Qk0];omega
 ·rename_i h1 h2;have e:i64.wrap (i64.wrap (a-b)-i64.wrap (1-c))=a-b-(1-c):=by simp only[Qk0];omega
  simp only[QF1,if_neg h1,if_pos h2];rw[e,QAK];unfold Qkw;split<;>omega
 ·rename_i h1 h2;simp only[QF0,if_neg h1,if_neg h2,Qk0];omega
 ·rename_i h1 h2;simp only[QF1,if_neg h1,if_neg h2];rw[QAK];unfold Qkw;split<;>omega
def tnN(d a c:Int):Int:=if d=12 then a*2%256 else if d=14 then a*2%256+c else if d=13 then a/2 else a/2+128*c
def tnC(d a:Int):Int:=if d=12∨d=14 then a/128 else a%2
def QJ2(a c:Int):Prop:=(0≤a∧a<256)∧QwK c
def Qu1:PSpec:=⟨[gi,gi,gi],fun(d,a,c,_)=>(some (QJ2 a c),.tup [I1 (tnN d a c),I1 (tnC d a)],[])⟩
theorem Qu2:G0 222 Qu1.spec:=by
 have hP:S0 _:=(Qb (T:=tree))
 have hT:=tabs hP Qc;refine Qu1.gd hT hP Tryz.func222 fun(d a c:Int) hp=>?_
 obtain⟨ha,hc⟩:QJ2 a c:=hp _ rfl
 repeat' first|(apply Ea;conv=>whnf)|apply Eb|apply Ec<;>intro _|apply Ed<;>intro _|apply Ee<;>intro _|apply Ef hT hP
 all_goals first
  |exact of_decide_eq_true rfl
  |skip
 all_goals(try refine .k [] [] _ rfl (Qek ?_ ?_))
 all_goals
  unfold QwK at hc;dsimp only[gi,Den] at *;clear hp hT hP
 all_goals
  simp only[tnN,tnC,Quj,QCB]
  simp_all [Qk0]
 all_goals omega
theorem Qu3(r:List Int)(n:Nat)(k:Int):((QE r).getD n 0).tmod k=(QE r).getD n 0%k:=Int.tmod_eq_emod_of_nonneg (Qib r n).1
theorem i4B:Int.toNat 4=4:=rfl
theorem Qmi(r:List Int):(QE r).set 4 ((QE r).getD 4 0)=QE r:=rfl
theorem sf3{P A:Int}(h:0≤P∧P<256):rfV P (A%256) (-1)=nzV P (A%256):=QyL h (by omega)
theorem sf4{P A B:Int}(h:0≤P∧P<256):rfV P ((A%256+B%256+P%2)%256) ((A%256+B%256+P%2)/256)=Qk1 P ((A%256+B%256+P%2)%256) ((A%256+B%256+P%2)/256):=QfO h (by omega) (by omega)
theorem QpT(x:Int):(1-Qkw x=0∨1-Qkw x=1):=by unfold Qkw;split<;>omega
theorem sf5{P A B x:Int}(h:0≤P∧P<256):rfV P ((A-B-(1-P%2))%256) (1-Qkw x)=Qk1 P ((A-B-(1-P%2))%256) (1-Qkw x):=QfO h (by omega) (QpT x)
theorem sf6{P A B x:Int}(h:0≤P∧P<256):rfV P ((A-B)%256) (1-Qkw x)=QcC (nzV P ((A-B)%256)) 1 (decide (Qkw x=0)):=by
 rw[QfO h (by omega) (QpT x),Qk1];congr 1;unfold Qkw;split<;>decide
theorem QbB(x:Int)(h:0≤x∧x<256):u64 x<256:=by unfold u64;omega
theorem Qid{A B:Int}:0≤land .i64 (A%256) (B%256)∧land .i64 (A%256) (B%256)<256:=by
 have h:=QbB (A%256) (by omega);have:=Nat.and_le_left (n:=u64 (A%256)) (m:=u64 (B%256));rw[Qfu _ _ (by omega)];omega
theorem QyM{A B:Int}:0≤lor .i64 (A%256) (B%256)∧lor .i64 (A%256) (B%256)<256:=by
 have h1:=QbB (A%256) (by omega);have h2:=QbB (B%256) (by omega);have:=Nat.or_lt_two_pow (n:=8) h1 h2;rw[Qgd _ _ (by omega)];omega
theorem Qu4{A B:Int}:0≤lxor .i64 (A%256) (B%256)∧lxor .i64 (A%256) (B%256)<256:=by
 have h1:=QbB (A%256) (by omega);have h2:=QbB (B%256) (by omega);have h3:=Nat.xor_lt_two_pow (n:=8) h1 h2
 have e:lxor .i64 (A%256) (B%256)=((u64 (A%256) ^^^ u64 (B%256):Nat):Int):=by
  show i64.wrap (((BitVec.ofInt 64 (A%256) ^^^ BitVec.ofInt 64 (B%256)).toNat:Nat):Int)=_;rw[BitVec.toNat_xor,Qac,Qac];exact w64 (by omega) (by omega)
 rw[e];omega
theorem sfl{P A B:Int}(h:0≤P∧P<256):rfV P (land .i64 (A%256) (B%256)) (-1)=nzV P (land .i64 (A%256) (B%256)):=QyL h Qid
theorem sfo{P A B:Int}(h:0≤P∧P<256):rfV P (lor .i64 (A%256) (B%256)) (-1)=nzV P (lor .i64 (A%256) (B%256)):=QyL h QyM
theorem sfx{P A B:Int}(h:0≤P∧P<256):rfV P (lxor .i64 (A%256) (B%256)) (-1)=nzV P (lxor .i64 (A%256) (B%256)):=QyL h Qu4
theorem sfs{P A:Int}(h:0≤P∧P<256):rfV P (A%256*2%256) (A%256/128)=Qk1 P (A%256*2%256) (A%256/128):=QfO h (by omega) (by omega)
theorem sfr{P A:Int}(h:0≤P∧P<256):rfV P (A%256*2%256+P%2) (A%256/128)=Qk1 P (A%256*2%256+P%2) (A%256/128):=QfO h (by omega) (by omega)
theorem sft{P A:Int}(h:0≤P∧P<256):rfV P (A%256/2) (A%256%2)=Qk1 P (A%256/2) (A%256%2):=QfO h (by omega) (by omega)
theorem sfu{P A:Int}(h:0≤P∧P<256):rfV P (A%256/2+128*(P%2)) (A%256%2)=Qk1 P (A%256/2+128*(P%2)) (A%256%2):=QfO h (by omega) (by omega)
theorem sft'{P A:Int}(h:0≤P∧P<256):rfV P (A%256/2) (A%2)=Qk1 P (A%256/2) (A%2):=QfO h (by omega) (by omega)
theorem sfu'{P A:Int}(h:0≤P∧P<256):rfV P (A%256/2+128*(P%2)) (A%2)=Qk1 P (A%256/2+128*(P%2)) (A%2):=QfO h (by omega) (by omega)
theorem QLR{α}(a b c d:α):[a,b,c].getD 0 d=a:=rfl
theorem QLS{α}(a b c d:α):[a,b,c].getD 1 d=b:=rfl
theorem QLT{α}(a b c d:α):[a,b,c].getD 2 d=c:=rfl
theorem QLU{α}(a b d:α):[a,b].getD 0 d=a:=rfl
theorem QLV{α}(a b d:α):[a,b].getD 1 d=b:=rfl
theorem Qu5(r:List Int):QE (QE r)=QE r:=by simp[QE]
theorem Qg5{r:List Int}{v:Int}(h:0≤v∧v<256):QE ((QE r).set 4 v)=(QE r).set 4 v:=by
 simp[QE];omega
theorem QpU(l:List Int)(n:Nat):l.set n (l.getD n 0)=l:=by
 apply List.ext_getElem?;intro i;rw[List.getElem?_set,List.getD_eq_getElem?_getD];by_cases h:n=i
 ·subst h;by_cases h2:n<l.length<;>simp[h2]
 ·simp[h]
theorem QyN(l:List Int)(n:Nat)(x:Int)(h:n≠4):(l.set 4 x).set n (l.getD n 0)=l.set 4 x:=by
 rw[List.set_comm _ _ (Ne.symm h),QpU]
theorem Qgo{F:List Int}{t i:Nat}{X Y m:Int}(h:X%m=Y%m):(F.set t X).getD i 0%m=(F.set t Y).getD i 0%m:=by
 rw[List.getD_eq_getElem?_getD,List.getD_eq_getElem?_getD,List.getElem?_set,List.getElem?_set];by_cases h1:t=i
 ·rw[if_pos h1,if_pos h1];by_cases h2:t<F.length
  ·rw[if_pos h2,if_pos h2];exact h
  ·rw[if_neg h2,if_neg h2]
 ·rw[if_neg h1,if_neg h1]
theorem Qmj{F:List Int}{t i:Nat}{X Y:Int}(h:t≠i):(F.set t X).getD i 0=(F.set t Y).getD i 0:=by
 rw[List.getD_eq_getElem?_getD,List.getD_eq_getElem?_getD,List.getElem?_set,List.getElem?_set,if_neg h,if_neg h]
theorem Qky{F:List Int}{t:Nat}{X Y:Int}(h:X%65536=Y%65536):QE (F.set t X)=QE (F.set t Y):=by
 have h2:X%256=Y%256:=by omega
 simp only[QE,Qgo (F:=F) (t:=t) h,Qgo (F:=F) (t:=t) h2]
theorem QpV{F:List Int}{t:Int}{X Y:Int}(ht:okT t)(hw:Q5 t=false)(h:X%256=Y%256):QE (F.set t.toNat X)=QE (F.set t.toNat Y):=by
 have h7:t.toNat≠7∧t.toNat≠8:=by
  unfold Q5 at hw;unfold okT at ht;have:=of_decide_eq_false hw;omega
 simp only[QE,Qgo (F:=F) (t:=t.toNat) h,Qmj (F:=F) (X:=X) (Y:=Y) h7.1,Qmj (F:=F) (X:=X) (Y:=Y) h7.2]
theorem QcK{x y:Int}(hx:0≤x∧x<256):0≤Q3 .i64 x y∧Q3 .i64 x y<256:=by
 have h:=QbB x hx;have h2:=Nat.and_le_left (n:=u64 x) (m:=u64 y);have h3:=Nat.xor_lt_two_pow (n:=8) h (show u64 x &&& u64 y<2 ^ 8 by omega);rw[Qds _ _ (by omega)];omega
theorem QF3{x y:Int}(hx:0≤x∧x<256)(hy:0≤y∧y<256):0≤lor .i64 x y∧lor .i64 x y<256:=by
 have h1:=QbB x hx;have h2:=QbB y hy;have:=Nat.or_lt_two_pow (n:=8) h1 h2;rw[Qgd _ _ (by omega)];omega
theorem Qeq{p f:Int}{on:Bool}(hp:0≤p∧p<256)(hf:0≤f∧f<256):0≤QcC p f on∧QcC p f on<256:=by
 cases on
 ·exact QcK hp
 ·exact QF3 (QcK hp) hf
theorem QpW{p n:Int}(hp:0≤p∧p<256):0≤nzV p n∧nzV p n<256:=Qeq (Qeq hp (by omega)) (by omega)
theorem QF4{a:Int}(h:0≤a∧a<256):((u64 a:Nat):Int)=a:=by unfold u64;omega
theorem QyO{p f:Int}(hp:0≤p∧p<256)(hf:0≤f∧f<256):QcC p f true=lor .i64 p f:=by
 have h1:=QbB p hp;have h2:=QbB f hf;have h3:=Nat.or_lt_two_pow (n:=8) h1 h2;have hb:=QcK (y:=f) hp;have h4:=QbB _ hb;have h5:=Nat.or_lt_two_pow (n:=8) h4 h2;show lor .i64 (Q3 .i64 p f) f=lor .i64 p f;rw[Qgd _ _ (by omega),Qgd _ _ (by omega)]
 have e:u64 (Q3 .i64 p f)=u64 p ^^^ (u64 p &&& u64 f):=by
  have:=QF4 hb;have e2:=Qds p f (by omega);omega
 rw[e];congr 1;apply Nat.eq_of_testBit_eq;intro i;simp only[Nat.testBit_or,Nat.testBit_xor,Nat.testBit_and];cases(u64 p).testBit i<;>cases(u64 f).testBit i<;>rfl
theorem QyP{P n:Int}(h:0≤P∧P<256):decide (0<land .i64 P (n%256))=(land .i64 P (n%256) != 0):=by
 have hb:=Qid (A:=P) (B:=n);rw[show P%256=P by omega] at hb;generalize land .i64 P (n%256)=z at *;by_cases h0:z=0
 ·subst h0;rfl
 ·have:0<z:=by omega
  simp[this,h0]
theorem Qrv:G0 147 doS.spec:=by
 have hP:S0 _:=Qa Qkj (Qa QFY (Qa Qu0 (Qa QC4 (Qa Qu2 (Qa QD (Qa Qco (Qb (T:=tree))))))));have hT:=tabs hP Qc;refine doS.gd hT hP Tryz.func147 fun(s:Stp) (r:List Int) hp=>?_
 obtain⟨d,to,fr,n⟩:=s;have h9:r.length=9:=hp _ rfl;have hl:(QE r).length=9:=rfl;have ht:okT (QC2 to 0 8):=by rw[Qic];exact Qg4 to
 have hf:okT (QC2 fr 0 8):=by rw[Qic];exact Qg4 fr
 have ht1:=Qe4 ht;have hf1:=Qe4 hf;have ht2:=QgH ht;have hf2:=QgH hf;clear hp
 repeat' first|(apply Ea;conv=>whnf)|apply Eb|apply Ec<;>intro _|apply Ed<;>intro _|apply Ee<;>intro _|apply Ef hT hP
 all_goals first
  |exact of_decide_eq_true rfl
  |exact h9
  |exact ht1
  |exact hf1
  |exact ht2
  |exact hf2
  |exact rfl
  |skip
 all_goals(try refine .k [] [] _ rfl (QFX ?_ ?_))
 all_goals clear hT hP
 all_goals(dsimp only at *)
 all_goals(try(simp only[List.length_set,hl];done))
 all_goals(try(rename_i h;simp[doE,h];done))
 all_goals(try simp only[Qic] at *)
 all_goals(try simp only[Qu3,i4B,Qmi])
 all_goals
  have bA:=Qib r (Qaj to).toNat;have bB:=Qib r (Qaj fr).toNat;have bP:=QCY r;have ht2:=QgH ht;clear ht1 hf1 hf2
  try subst_vars
 all_goals(try(rename_i h;exact absurd h (by decide)))
 all_goals(try exact⟨by omega,by omega,by unfold QwK;omega⟩)
 all_goals(try exact⟨by omega,by unfold QwK;omega⟩)
 all_goals(try exact(Qg5 (QpW bP)).symm)
 all_goals(try simp[-List.getD_eq_getElem?_getD,QLR,QLS,QLT,QLU,QLV,doR,QCZ,QD8,shF,QI4,QFW,QHc,QF0,QF1,tnN,tnC,doE,aV,cV,sf3 bP,sf4 bP,sf5 bP,sf6 bP,sfl bP,sfo bP,sfx bP,sfs bP,sfr bP,sft bP,sfu bP,sft' bP,sfu' bP,Qmi,w_0,w_1,w_2,w_8])
 all_goals(try exact(Qg5 (QpW bP)).symm)
 all_goals(try(rw[Qg5 (Qeq bP (by omega)),QyO bP (by omega)];done))
 all_goals(try(rw[Qg5 (Qeq bP (by omega))];rfl))
 all_goals(try(simp only[Qk0,QCB,Quj];exact Qky (by omega)))
 ·have h4:Qaj to=4:=by assumption
  rw[h4];exact congrArg QE (QyJ _ _ _)
 ·have h4:¬Qaj to=4:=by assumption
  rw[QyN _ _ _ (by unfold okT at ht;omega)]
 ·have hw:Q5 (Qaj to)=false:=by simp_all
  rw[w64 (by omega) (by omega)];simp only[hw,Bool.false_eq_true,if_false,cond_false];exact QpV ht hw (by omega)
 ·have hw:Q5 (Qaj to)=true:=by simp_all
  rw[w64 (by omega) (by omega)];simp only[hw,if_true,cond_true];exact Qky (by omega)
 ·have hw:Q5 (Qaj to)=false:=by simp_all
  rw[show i64.wrap (-1)=-1 by decide,w64 (by omega) (by omega),show(QE r).getD (Qaj to).toNat 0+1-2=(QE r).getD (Qaj to).toNat 0+-1 by omega];simp only[hw,Bool.false_eq_true,if_false,cond_false];exact QpV ht hw (by omega)
 ·have hw:Q5 (Qaj to)=true:=by simp_all
  rw[show i64.wrap (-1)=-1 by decide,w64 (by omega) (by omega),show(QE r).getD (Qaj to).toNat 0+1-2=(QE r).getD (Qaj to).toNat 0+-1 by omega];simp only[hw,if_true,cond_true];exact Qky (by omega)
 ·rw[show(QE r).getD (Qaj to).toNat 0%256*2%256=(QE r).getD (Qaj to).toNat 0*2%256 by omega]
 ·rw[show(QE r).getD (Qaj to).toNat 0%256*2%256+(QE r).getD 4 0%2=((QE r).getD (Qaj to).toNat 0*2+(QE r).getD 4 0%2)%256 by omega]
 ·rw[QyP bP];generalize(land .i64 ((QE r).getD 4 0) (n%256) != 0)=b;by_cases h:fr=1<;>cases b<;>simp[h]
 ·rw[QpU,Qu5]
  (repeat' split)<;>first|rfl|(exfalso;omega)|exact(Qu5 r).symm
 all_goals trace_state
end Go.Proofs.YtofgbclopbmlcaaGreat

