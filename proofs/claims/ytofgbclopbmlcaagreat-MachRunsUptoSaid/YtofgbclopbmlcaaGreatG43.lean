/- Part 43 of the proof. Conditions: none. -/
import Derived.Test.YtofgbclopbmlcaaGreatG42
import Derived.Test.YtofgbclopbmlcaaGreatG29
import Derived.Carry
import Derived.OpenShut
import Derived.Test.YtofgbclopbmlcaaGreatG24
import Derived.Test.YtofgbclopbmlcaaGreatG27
import Derived.Test.YtofgbclopbmlcaaGreatG41
import Derived.Test.YtofgbclopbmlcaaGreatG36
import Derived.Test.YtofgbclopbmlcaaGreatG35
import Derived.Test.YtofgbclopbmlcaaGreatG40
namespace Go.Proofs.YtofgbclopbmlcaaGreat
set_option maxHeartbeats 8000000
open Go.Fw
set_option linter.unusedVariables false
set_option linter.unusedSimpArgs false
set_option linter.constructorNameAsVariable false
set_option maxRecDepth 100000
structure RanP(b:Bd)(m:Mach)(l:List Inp)(n:Int):Prop where
 pl:l.length≤4611686018427387904
 pb:bdP b
 pt:Qa0 b.2.1 m.2.1
 pc:b.2.2.1.length≤12
 pz:0≤n
 pn:n≤100000
 po:∀k:Nat,(k:Int)<n→QwL (QbE b l k (m,[])).1.2.2.1
 pm:∃L,MOk L b m
def QKi:PSpec:=⟨[gBd,gM,gIn,gi],fun(b,m,l,n,_)=>(some (RanP b m l n),.tup [.agg (QGt (QbE b l n.toNat (m,[])).1),.c (.own 0)],[.arr Qw (QbE b l n.toNat (m,[])).2])⟩
theorem Qwc:G0 27 QKi.spec:=by
 have hP:S0 _:=Qa Qjw (Qb (T:=tree));have hT:=tabs hP Qc;refine QKi.gd hT hP Tryz.func27 fun(b:Bd) (m:Mach) (l:List Inp) (n:Int) hq=>?_
 have hp:RanP b m l n:=hq _ rfl;clear hq;have ht:=hp.pt;have hbd:=hp.pb;obtain⟨L,hMo⟩:=hp.pm;have hbl:=hp.pc;have hn:=hp.pn;have ho:=hp.po;have hl:=hp.pl;obtain⟨bn,⟨un,ui,ur,uq,um⟩,bc,bw⟩:=b;obtain⟨tm,⟨r,op,at_,nmi⟩,ds,bd,ba,bdt⟩:=m;have hbl:bc.length≤12:=hbl;have h0:=hp.pz
 ·obtain⟨N,rfl⟩:=Int.eq_ofNat_of_zero_le h0;clear hp
  repeat' first|(apply Ea;conv=>whnf)|apply Eb|apply Ec<;>intro _|apply Ed<;>intro _|apply Ee<;>intro _|apply Ef hT hP
  refine QH hT hP (A:=Mach×List Inp) N (fun i s=>St.mk (E2 ((.cell (.ro Qw l))::E1 ((.cell (.ptr 0 0))::(.cell (.ptr 1 0))::E2 ((.cell (.ptr 2 0))::E1 ((.cell (.own 3))::E1 ((I N)::(I i)::E10 (E3 (E1 []))))))))
   [some (.var [.imm (.string bn),.imm (.string un),.ro QaA ui,.ro Qs ur,.ro Qs uq,.ro Qs um,.ro Qe bc,.ro Qr bw]),some (.var [iv .i64 s.1.1,.run .i64 9 s.1.2.1.1,iv .i64 s.1.2.1.2.1,iv .i64 s.1.2.1.2.2.1,bv s.1.2.1.2.2.2,.ro Qj s.1.2.2.1,iv .i64 s.1.2.2.2.1,iv .i64 s.1.2.2.2.2.1,iv .i64 s.1.2.2.2.2.2]),
    some (.var [.imm (.int .i64 0),.run .i64 9 (List.replicate 9 0),.imm (.int .i64 0),.imm (.int .i64 0),.imm (.bool false),.imm (.slice none 0 0),.imm (.int .i64 0),.imm (.int .i64 0),.imm (.int .i64 0)]),some (.arr Qw s.2)])
   (fun k s=>s=QbE (bn,(un,ui,ur,uq,um),bc,bw) l k ((tm,(r,op,at_,nmi),ds,bd,ba,bdt),[])) ((tm,(r,op,at_,nmi),ds,bd,ba,bdt),[]) (.trans (Le.nil 10 Qw rfl) (Le.k [] [0,1,2,3] ?_)) rfl fun k s hk hi=>?_
  ·repeat' constructor
  have hro:=Qe7 (l:=l) hMo ht k;rw[←hi] at hro;have hok:(k:Int)<(N:Int)→QwL s.1.2.2.1:=fun h=>by rw[hi];exact ho k h
  have hnx:nxS (bn,(un,ui,ur,uq,um),bc,bw) l s.1 s.2=QbE (bn,(un,ui,ur,uq,um),bc,bw) l (k+1) ((tm,(r,op,at_,nmi),ds,bd,ba,bdt),[]):=by rw[Qa3,←hi];rfl
  obtain⟨⟨tm1,⟨r1,op1,at1,nmi1⟩,ds1,bd1,ba1,bdt1⟩,o⟩:=s;have hcl:(Qo (bn,(un,ui,ur,uq,um),bc,bw) (tm1,(r1,op1,at1,nmi1),ds1,bd1,ba1,bdt1) l).2.length≤bc.length:=Qbr _ _ _ _;have hol:o.length≤k*bc.length:=hro.2.2
  repeat' first|(apply Ea;conv=>whnf)|apply Eb|apply Ec<;>intro _|apply Ed<;>intro _|apply Ee<;>intro _|apply Ef hT hP
  all_goals(try dsimp only[Qf] at *)
  all_goals clear hT hP
  ·have g:(k:Int)<(N:Int):=by assumption
   exact⟨⟨hok g,hl,hbd⟩,hro.2.1,L,hro.1⟩
  ·have g:(k:Int)<(N:Int):=by assumption
   have h7:k*bc.length≤100000*12:=Nat.mul_le_mul (by omega) hbl;show(o.length+(Qo (bn,(un,ui,ur,uq,um),bc,bw) (tm1,(r1,op1,at1,nmi1),ds1,bd1,ba1,bdt1) l).2.length)*32≤140737488355328;omega
  ·rename_i g;have g:(k:Int)<(N:Int):=g;apply Ex (nxS (bn,(un,ui,ur,uq,um),bc,bw) l (tm1,(r1,op1,at1,nmi1),ds1,bd1,ba1,bdt1) o) [4] [0,1,2,6]
   ·repeat' constructor
   ·omega
   ·exact QL (by omega)
   exact hnx
  ·rename_i g;have g:¬(k:Int)<(N:Int):=g;have ek:k=N:=by omega
   subst ek;have e3:((tm1,(r1,op1,at1,nmi1),ds1,bd1,ba1,bdt1),o)=QbE (bn,(un,ui,ur,uq,um),bc,bw) l k ((tm,(r,op,at_,nmi),ds,bd,ba,bdt),[]):=hi;exact .mk [] [3] _ R R R R R (congrArg (fun z:Mach×List Inp=>[some (Blk.arr Qw z.2)]) e3) (congrArg (fun z:Mach×List Inp=>AV.tup [.agg (QGt z.1),.c (.own 0)]) e3)
end Go.Proofs.YtofgbclopbmlcaaGreat

namespace Go.Fw
set_option maxHeartbeats 8000000
open Go.ChangeShapes Go.WideShapes Go.RowKit
set_option linter.unusedVariables false
set_option linter.unusedSimpArgs false
def QnV(P:Program)(m:Nat)(g:Sig)(t:TypeId):Bool:=Qbe P m g.t t&&match P.underlying t with
 |some (.struct _)=>g.ag
 |some (.int _)=>!g.ag
 |some .bool=>!g.ag
 |some .string=>!g.ag
 |some (.slice _)=>!g.ag
 |some (.array _ _)=>g.ag
 |_=>false
def Qit(P:Program)(m:Nat):List Sig→List TypeId→Bool
 | [],[]=>true
 |g::gs,t::ts=>QnV P m g t&&Qit P m gs ts
 |_,_=>false
def WfA:(gs:List Sig)→Args gs→Prop
 | [],_=>True
 |g::gs,x=>Wf g.t x.1∧WfA gs x.2
section
variable {H:Type} {enc:TypeId×Value→H} {P:Program} {w:World} {base:Nat}
theorem CR.one{w:World}{S:Nat→Prop}{t:Ty}{d:Den t}{v:Value}(hc:CR w S t d [v])(h:(cells t d).length=1)(E:Env)(hw:E.w=w)(hS:E.S=S):∃c,cells t d=[c]∧QaK E c [v]:=by
 subst hw;subst hS;have:=hc.items
 match hh:cells t d,h with
 | [c],_ =>
   rw[hh] at this;obtain⟨r,s,e,h1,h2⟩:=this;simp only[IR] at h2;subst h2;simp at e;subst e;exact⟨c,rfl,h1⟩
variable {bk:DataW H→Nat} {ba:List (DataW H)→Nat}
theorem QDA(B:BulkLaw bk ba){m fuel:Nat}{g:Sig}{t:TypeId}{v:Value}{x:DataW H×List MemPlace}(hf:QnV P m g t=true)(hv:Value.okWide P w .any base t v)(hz:∀z∈DataW.weights P t x.1,z≤reachBytes)
 (h:DataW.trod enc P w 0 (fun _=>true) true fuel t v.cells.toList=some x):∃d:Den g.t,V1R (QdG w) (QcF g d) v∧Wf g.t d∧bd g.t d≤bk x.1:=by
 unfold QnV at hf;rw[Bool.and_eq_true] at hf;obtain⟨h1,h2⟩:=hf;obtain⟨d,hc,hw,hb⟩:=Qne B m h1 hz h;refine⟨d,?_,hw,hb⟩
 have single:∀u,v=u→(∀cs,v≠.agg cs)→g.ag=false→(cells g.t d).length=1→V1R (QdG w) (QcF g d) v:=by
  intro u e hn hg hl
  have hcl:v.cells.toList=[v]:=by
   cases v with
   |agg cs=>exact absurd rfl (hn cs)
   |_=>rfl
  rw[hcl] at hc;obtain⟨c,e1,e2⟩:=hc.one hl (QdG w) rfl rfl;unfold QcF;rw[hg];simp only[e1];exact e2
 cases m with
 |zero=>cases h1
 |succ m =>
 unfold Qbe at h1;split at h2
 ·rename_i F hu;obtain⟨cs,rfl,_⟩:=okWide_struct hu hv;unfold QcF;rw[h2];exact⟨cs,rfl,hc.items (E:=QdG w)⟩
 ·rename_i k hu;obtain⟨n,rfl⟩:=okWide_int hu hv;refine single _ rfl (by simp) (by simpa using h2) ?_;rw[hu] at h1
  match g,d,h1 with
  |⟨_,.int _⟩,_,_=>rfl
 ·rename_i hu;obtain⟨n,rfl⟩:=okWide_bool hu hv;refine single _ rfl (by simp) (by simpa using h2) ?_;rw[hu] at h1
  match g,d,h1 with
  |⟨_,.bool⟩,_,_=>rfl
 ·rename_i hu;obtain⟨n,rfl⟩:=okWide_string hu hv;refine single _ rfl (by simp) (by simpa using h2) ?_;rw[hu] at h1
  match g,d,h1 with
  |⟨_,.str⟩,_,_=>rfl
 ·rename_i e hu;obtain⟨a,len,cap,rfl⟩:=okWide_slice hu hv;refine single _ rfl (by simp) (by simpa using h2) ?_;rw[hu] at h1
  match g,d,h1 with
  |⟨_,.sl _⟩,_,_=>rfl
 ·rename_i n e hu
  obtain⟨cs,rfl⟩:∃cs,v=.agg cs:=by
   simp only[Value.okWide,hu] at hv;obtain⟨cs,h1,_⟩:=hv;exact⟨cs,h1⟩
  unfold QcF;rw[h2];exact⟨cs,rfl,hc.items (E:=QdG w)⟩
 ·cases h2
def bdA:(gs:List Sig)→Args gs→Nat
 | [],_=>0
 |g::gs,x=>bd g.t x.1+bdA gs x.2
theorem Qiu(B:BulkLaw bk ba){m:Nat}{vt:List TypeId}{gds:List (DataW H)}:∀{gs:List Sig} {ts:List TypeId} {vs:List Value} {ds:List (DataW H)} {ps:List MemPlace},Qit P m gs ts=true →
 (∀(j:Nat) t v,ts[j]?=some t→vs[j]?=some v→Value.okWide P w .any base t v)→(∀z∈DataW.weightsEach P (ts++vt) (ds++gds),z≤reachBytes) →
 DataW.TrodAll enc P w 0 (fun _=>true) true ts vs ds ps→∃xs:Args gs,VsR (QdG w) (QaM gs xs) vs∧WfA gs xs∧bdA gs xs≤ba ds
 | [],[],vs,ds,ps,_,_,_,h=>by
   obtain⟨rfl,rfl,rfl⟩:=trodAll_nil h;exact⟨(),rfl,trivial,Nat.zero_le _⟩
 |g::gs,t::ts,vs,ds,ps,hf,hv,hz,h=>by
  unfold Qit at hf;rw[Bool.and_eq_true] at hf;obtain⟨v,vs',d,ds',p,q,rfl,rfl,rfl,⟨fuel,h1⟩,h2⟩:=trodAll_cons h;rw[List.cons_append,List.cons_append,DataW.weightsEach] at hz;obtain⟨x,hx,wx,bx⟩:=QDA B (x:=(d,p)) hf.1 (hv 0 t v rfl rfl) (fun z hz'=>hz z (List.mem_append.2 (.inl hz'))) h1;obtain⟨xs,hxs,wxs,bxs⟩:=Qiu B hf.2 (fun j t v ht hvj=>hv (j+1) t v (by simpa using ht) (by simpa using hvj)) (fun z hz'=>hz z (List.mem_append.2 (.inr hz'))) h2;exact⟨(x,xs),VsR.cons hx hxs,⟨wx,wxs⟩,Nat.le_trans (Nat.add_le_add bx bxs) (B.cons _ _)⟩
 | [],_::_,_,_,_,hf,_,_,_=>by cases hf
 |_::_,[],_,_,_,hf,_,_,_=>by cases hf
theorem Qiv{look:Nat→Option Blk}:∀(t:Ty) (x:Den t) (r:List Cell),dec look t (cells t x++r)=some (x,[],r)
 |.int k,x,r=>by simp[cells,dec]
 |.ints k n,l,r=>by simp[cells,dec]
 |.bool,b,r=>rfl
 |.str,s,r=>rfl
 |.sl t,l,r=>by
  have:Qsa look t (.ro t l)=some l:=by
   unfold Qsa;simp only[Qar,QD2,dif_pos,Qf0]
  simp only[cells,List.cons_append,List.nil_append,dec,this,QHA]
 |.pair a b,x,r=>by
  simp only[cells,dec,List.append_assoc,Qiv a x.1,Qiv b x.2,List.append_nil]
theorem QgJ{look:Nat→Option Blk}(t:Ty)(x:Den t):Qb3 look t (cells t x)=some (x,[]):=by
 unfold Qb3;have:=Qiv (look:=look) t x [];rw[List.append_nil] at this;rw[this]
def Sig.fine(g:Sig):Bool:=g.ag||match g.t with|.int _=>true|.bool=>true|.str=>true|.sl _=>true|_=>false
theorem QrX{g:Sig}(h:g.fine=true)(d:Den g.t):QzQ g (QcF g d)=some d:=by
 obtain⟨ag,t⟩:=g;cases ag with
 |true =>
  unfold QzQ QcF;simp only[QgJ]
 |false =>
  have one:∃c,cells t d=[c]:=by
   cases t<;>simp[Sig.fine] at h<;>exact⟨_,rfl⟩
  obtain⟨c,hc⟩:=one;have e:QcF ⟨false,t⟩ d=.c c:=by unfold QcF;simp only[hc]
  have e2:Qb3 (fun _=>none) t [c]=some (d,[]):=by rw[←hc];exact QgJ t d
  unfold QzQ;simp only[e,e2,hc]
theorem QdD:∀{gs:List Sig} (h:gs.all Sig.fine=true) (xs:Args gs),Qdq gs (QaM gs xs)=some xs
 | [],_,()=>rfl
 |g::gs,h,(a,r)=>by
  rw[List.all_cons,Bool.and_eq_true] at h;show(match QzQ g (QcF g a) with|some d=>(match Qdq gs (QaM gs r) with|some r=>some (d,r)|none=>none)|none=>none)=_;rw[QrX h.1,QdD h.2]
def Qha(P:Program)(ts:List TypeId):Bool:=ts.all fun t=>P.readableRec t&&Nat.blt t P.types.size
theorem Qiw{W W':World}(hl:laidOutB P=true)(hb:Below W.heap.size W W'):∀{ts:List TypeId} {vs:List Value} {ds:List (DataW H)} {ps:List MemPlace},Qha P ts=true→(∀x∈ps,x.block<W.heap.size) →
 DataW.TrodAll enc P W 0 (fun _=>true) true ts vs ds ps→DataW.TrodAll enc P W' 0 (fun b=>decide (b<W.heap.size)) true ts vs ds ps
 | [],vs,ds,ps,_,_,h=>by
   obtain⟨rfl,rfl,rfl⟩:=trodAll_nil h;exact trodAll_mk0
 |t::ts,vs,ds,ps,hf,hlt,h=>by
  unfold Qha at hf;rw[List.all_cons,Bool.and_eq_true,Bool.and_eq_true] at hf;obtain⟨v,vs',d,ds',p,q,rfl,rfl,rfl,h1,h2⟩:=trodAll_cons h;exact trodAll_cons_mk (Below.trod hl hf.1.1 (by simpa[Nat.blt_eq] using hf.1.2) h1 hb fun x hx=>hlt x (List.mem_append.2 (.inl hx))) (Qiw hl hb hf.2 (fun x hx=>hlt x (List.mem_append.2 (.inr hx))) h2)
end
theorem PSpec.law_all{P:Program}{H:Type}{enc:TypeId×Value→H}{f:FuncId}{s:PSpec}(h:QQ P f s.spec){W:World}{base m:Nat}{ts vt:List TypeId}{args:Array Value}{ds gds:List (DataW H)}{p:List MemPlace}
 (hfit:Qit P m s.gs ts=true) (hfine:s.gs.all Sig.fine=true) (hrow:Qha P ts=true) (hl:laidOutB P=true)
 (hval:∀(j:Nat) t v,ts[j]?=some t→args.toList[j]?=some v→Value.okWide P W .any base t v)
 (hz:(DataW.weightsEach P (ts++vt) (ds++gds)).all (·≤reachBytes)=true) (hA:DataW.TrodAll enc P W 0 (fun _=>true) true ts args.toList ds p)
 (hs:∀xs,WfA s.gs xs→∃q,s.out xs=(q,.cell (bv true),[])∧∀z,q=some z→z) :
 Calls P f args W fun e w'=>e=.returned (.bool true)∧Below W.heap.size W w'∧DataW.TrodAll enc P w' 0 (fun b=>decide (b<W.heap.size)) true ts args.toList ds p:=by
 obtain⟨xs,hv,hw,_⟩:=Qiu (QsX H) hfit hval (fun z hz'=>by simpa using List.all_eq_true.1 hz z hz') hA;obtain⟨q,h1,h2⟩:=hs xs hw;refine(PSpec.law h xs hv (QdD hfine xs) h1 h2).mono fun e W' ⟨he,hb⟩=>⟨he,hb,?_⟩
 exact Qiw hl hb hrow (DataW.TrodAll.lt hA) hA
theorem PSpec.law_upto{P:Program}{H:Type}{enc:TypeId×Value→H}{f:FuncId}{s:PSpec}(h:QQ P f s.spec){W:World}{base m N:Nat}{ts vt:List TypeId}{args:Array Value}{ds gds:List (DataW H)}{p:List MemPlace}
 {bk:DataW H→Nat} {ba:List (DataW H)→Nat} (B:BulkLaw bk ba) (hN:ba ds≤N)
 (hfit:Qit P m s.gs ts=true) (hfine:s.gs.all Sig.fine=true) (hrow:Qha P ts=true) (hl:laidOutB P=true)
 (hval:∀(j:Nat) t v,ts[j]?=some t→args.toList[j]?=some v→Value.okWide P W .any base t v)
 (hz:(DataW.weightsEach P (ts++vt) (ds++gds)).all (·≤reachBytes)=true) (hA:DataW.TrodAll enc P W 0 (fun _=>true) true ts args.toList ds p)
 (hs:∀xs,WfA s.gs xs→bdA s.gs xs≤N→∃q,s.out xs=(q,.cell (bv true),[])∧∀z,q=some z→z) :
 Calls P f args W fun e w'=>e=.returned (.bool true)∧Below W.heap.size W w'∧DataW.TrodAll enc P w' 0 (fun b=>decide (b<W.heap.size)) true ts args.toList ds p:=by
 obtain⟨xs,hv,hw,hbd⟩:=Qiu B hfit hval (fun z hz'=>by simpa using List.all_eq_true.1 hz z hz') hA;obtain⟨q,h1,h2⟩:=hs xs hw (Nat.le_trans hbd hN);refine(PSpec.law h xs hv (QdD hfine xs) h1 h2).mono fun e W' ⟨he,hb⟩=>⟨he,hb,?_⟩
 exact Qiw hl hb hrow (DataW.TrodAll.lt hA) hA
end Go.Fw

namespace Go.Proofs.YtofgbclopbmlcaaGreat
set_option maxHeartbeats 8000000
open Go.Fw
set_option linter.unusedVariables false
set_option linter.unusedSimpArgs false
open Go.ChangeShapes Go.WideShapes in
theorem QcV{x:Int}(h:(Lit.int .i64 x).wf=true):Qam x:=by
 have:-9223372036854775808≤x∧x≤9223372036854775807:=by simpa[Lit.wf,IntKind.min,IntKind.max,IntKind.signed,IntKind.bits] using h
 exact this
theorem QfX{k:IntKind}(l:List Int):(List.map (bd (.int k)) l).sum=l.length:=by
 induction l with
 |nil=>rfl
 |cons x r ih =>
  show bd (.int k) x+(List.map (bd (.int k)) r).sum=_;rw[ih,List.length_cons];show 1+r.length=r.length+1;omega
theorem QGE(d:Dv):QbA d≤10*bd Qj d:=by
 have e:bd Qj d=((List.map (bd (.int .i64)) d.1).sum+1)+((List.map (bd (.int .u8)) d.2).sum+1):=rfl;rw[e,QfX,QfX];unfold QbA;omega
theorem QDB(ds:List Dv):(ds.map QbA).sum≤10*(List.map (bd Qj) ds).sum:=by
 induction ds with
 |nil=>simp
 |cons x r ih =>
  have:=QGE x;show QbA x+(r.map QbA).sum≤10*(bd Qj x+(List.map (bd Qj) r).sum);omega
theorem Qzy{m:Mach}(h:Wf QfK m)(hb:bd QfK m≤1048576):QcB m:=by
 obtain⟨tm,⟨r,op,at_,nmi⟩,ds,b1,b2,b3⟩:=m;obtain⟨w1,⟨⟨w2,w3⟩,w4,w5,_⟩,⟨w6,w7⟩,w8,w9,w10⟩:=h;have e:bd QfK (tm,(r,op,at_,nmi),ds,b1,b2,b3)=1+((9+(1+(1+1)))+(((List.map (bd Qj) ds).sum+1)+(1+(1+1)))):=rfl;rw[e] at hb;have h1:=QDB ds;have h2:=Qko ds;refine⟨?_,fun d hd n hn=>QcV ((w7 d hd).1.2 n hn),w2,by show(ds.map QbA).sum≤_;omega⟩;intro n hn;have hn:n∈[tm]++r++[op,at_,cond nmi 1 0,b1,b2,b3,(ds.length:Int)]:=hn;rcases List.mem_append.1 hn with hn|hn
 ·rcases List.mem_append.1 hn with hn|hn
  ·rw[List.mem_singleton] at hn;subst hn;exact QcV w1
  ·exact QcV (w3 n hn)
 ·simp only[List.mem_cons,List.not_mem_nil,or_false] at hn;rcases hn with rfl|rfl|rfl|rfl|rfl|rfl|rfl
  ·exact QcV w4
  ·exact QcV w5
  ·cases nmi<;>(unfold Qam;decide)
  ·exact QcV w8
  ·exact QcV w9
  ·exact QcV w10
  ·unfold Qam;omega
theorem QnW{α:Type}(m:α→Nat):∀{l:List α} {x:α},x∈l→m x≤(l.map m).sum
 | [],_,h=>by cases h
 |y::r,x,h=>by
  rw[List.map_cons,List.sum_cons];rcases List.mem_cons.1 h with rfl|h
  ·omega
  ·have:=QnW m h;omega
theorem Qhb{l:List Cyc}(h:Wf (.sl Qs) l):QdN l:=⟨h.1,fun x hx=>(h.2 x hx).2.2.2.1⟩
theorem Qwd{c:Cpu}(h:Wf QCz c):Qvf c∧(QdN c.2.2.1∧QdN c.2.2.2.1∧QdN c.2.2.2.2) :=
 ⟨⟨h.2.1.1,fun x hx=>Qhb (h.2.1.2 x hx).2.2.2⟩,Qhb h.2.2.1,Qhb h.2.2.2.1,Qhb h.2.2.2.2⟩
theorem Qzz{c:Cpu}{k:Kor}(hk:k.1.length=9)(h:Wf QCz c):Qa0 c k:=⟨(Qwd h).1,(Qwd h).2,hk⟩
set_option linter.constructorNameAsVariable false
set_option maxRecDepth 100000
theorem QfY{P:Int→Prop}(h0:P 0){l:List Int}(h:∀x∈l,P x)(a:Int):P (QbU l a):=by
 unfold QbU;split
 ·exact h0
 ·split
  ·exact h0
  ·rename_i h1 h2;rw[List.getD_eq_getElem?_getD,List.getElem?_eq_getElem (show a.toNat<l.length by omega)];exact h _ (List.getElem_mem _)
theorem Qb9{v:Int}(h:-1048576≤v∧v≤1048576):Qam v:=by unfold Qam;omega
theorem Qeb:Qam 0:=Qb9 (by decide)
theorem QzA(N:List Int):0≤Qq0 N∧Qq0 N<256:=by
 have h1:=Qid (A:=N.getD 1 0) (B:=N.getD 2 0);have h2:=QcK (x:=N.getD 0 0%256) (y:=N.getD 2 0%256) (by omega);exact QF3 h1 h2
theorem Qwe{c:Cv}(hc:cP c){d:Dv}(hu:u8s d.2)(a:Int):Qam (Qb2 c d a):=by
 unfold Qb2;split
 ·have:=Qkg (Qh2 c hu) (QB c (QcR c d) a).toNat;exact Qb9 (by omega)
 ·split
  ·have h:=(QpM hc d.1).1;generalize memN c d.1=l at *;cases l with
   |nil=>exact Qeb
   |cons x r=>exact h x (List.mem_cons_self ..)
  ·exact Qeb
theorem Qwf{c:Cv}(hc:cP c){d:Dv}(hu:u8s d.2)(a:Int):Qam (loadI c d a):=by
 have hb:=Qj5;refine Qgm _ (Qwe hc hu a) ?_ ?_ ?_ ?_ ?_ ?_ Qeb
 ·refine QfY Qeb (fun x hx=>Qb9 ?_) a;simp only[List.mem_cons,List.not_mem_nil,or_false] at hx;dsimp only[tA,tC,tF] at hx;rcases hx with rfl|rfl|rfl|rfl<;>omega
 ·refine QfY Qeb (fun x hx=>Qb9 ?_) a;have:=QzA d.1;simp only[List.mem_cons,List.not_mem_nil,or_false] at hx;rcases hx with rfl|rfl<;>omega
 ·refine QfY Qeb (fun x hx=>Qb9 ?_) a;have:=hb (decide (s1 d.1>0));simp only[List.mem_cons,List.not_mem_nil,or_false] at hx;generalize QdL (decide (s1 d.1>0))=z at *;dsimp only[s2,s3,s4,s5] at hx;rcases hx with rfl|rfl|rfl<;>omega
 ·have:=Qc4 d.1;have h2:=Qkg (Qd1 hu) a.toNat;refine Qb9 ?_;unfold vrF;dsimp only[vH,bA]
  repeat' split
  all_goals omega
 ·refine QfY Qeb (fun x hx=>Qb9 ?_) a;simp only[List.mem_cons,List.not_mem_nil,or_false] at hx;rcases hx with rfl|rfl|rfl|rfl|rfl|rfl|rfl|rfl<;>omega
 ·refine QfY Qeb (fun x hx=>Qb9 ?_) a;have h1:=hb (decide (e2 d.1>0));have h2:=hb (decide (e0 d.1 (qF d.2)=0));simp only[List.mem_cons,List.not_mem_nil,or_false] at hx;generalize QdL (decide (e2 d.1>0))=z at *;generalize QdL (decide (e0 d.1 (qF d.2)=0))=y at *;dsimp only[e1,e6,e7,e8,e9] at hx;rcases hx with rfl|rfl|rfl|rfl<;>omega
def QHk(c:Cpu):Prop:=∀op at_,Qam (doF c op at_).1
theorem QDC{c:Cpu}(h:Wf QCz c)(op:Int):∀x∈QP c op,Wf Qs x:=by
 unfold QP;split
 ·exact h.2.2.2.1.2
 ·split
  ·exact h.2.2.2.2.2
  ·split
   ·exact h.2.2.1.2
   ·split
    ·rename_i x hx;exact(h.2.1.2 x (List.mem_of_find?_eq_some hx)).2.2.2.2
    ·intro x hx;cases hx
theorem QDD{c:Cpu}(h:Wf QCz c):QHk c:=by
 intro op at_;unfold doF;split
 ·by_cases hk:at_.toNat<(QP c op).length
  ·rw[List.getD_eq_getElem?_getD,List.getElem?_eq_getElem hk];exact QcV (QDC h op _ (List.getElem_mem hk)).1
  ·rw[List.getD_eq_getElem?_getD,List.getElem?_eq_none (by omega)];exact Qeb
 ·exact Qeb
theorem Qwg{c:Cpu}{k:Kor}{i:Bool}(h:Qam k.2.1∧Qam k.2.2.1):Qam (Qbh c k i).2.1∧Qam (Qbh c k i).2.2.1:=by
 unfold Qbh;split
 ·exact⟨(Qb9 (by decide):Qam 257),Qeb⟩
 ·split
  ·exact⟨(Qb9 (by decide):Qam 256),Qeb⟩
  ·exact h
theorem QDE{c:Cpu}{k:Kor}{i:Bool}(hw:QHk c)(h:Qam k.2.1∧Qam k.2.2.1) :
 (Qam (Qk c k i).1.2.1∧Qam (Qk c k i).1.2.2.1)∧Qam (Qk c k i).2.1∧Qam (Qk c k i).2.2.1∧Qam (Qk c k i).2.2.2:=by
 have h16:r16 (QE k.1):=Qij k.1
 have hk1:(Qam (if k.2.1=-1 then Qbh c (QE k.1,k.2) i else (QE k.1,k.2)).2.1∧Qam (if k.2.1=-1 then Qbh c (QE k.1,k.2) i else (QE k.1,k.2)).2.2.1)∧r16 (if k.2.1=-1 then Qbh c (QE k.1,k.2) i else (QE k.1,k.2)).1:=by
  split
  ·exact⟨Qwg h,by rw[Qer];exact h16⟩
  ·exact⟨h,h16⟩
 unfold Qk;dsimp only;generalize(if k.2.1=-1 then Qbh c (QE k.1,k.2) i else (QE k.1,k.2))=k1 at *;obtain⟨k2,k3⟩:=hk1;have hA:∀a,Qam (plA a k1.1):=fun a=>by have:=Qvx a k3;exact Qb9 (by omega)
 split
 ·exact⟨k2,(Qb9 (by decide):Qam 1),hA 0,Qeb⟩
 ·split
  ·exact⟨k2,Qeb,Qeb,Qeb⟩
  ·refine⟨k2,hw _ _,hA _,?_⟩;dsimp only;split
   ·exact Qb9 (by omega)
   ·exact Qeb
theorem QzB{L:Nat}{b:Bd}{ds:List Dv}{x:Bsv}(hL:70000≤L)(hc:Qrz L b.2.2.1)(hd:Qg7 L ds)(hx:Qam x.2.2):Qam (QbY b ds x):=by
 unfold QbY;split
 ·split
  ·exact Qwf (hc.get hL _).1 (hd.get _).u _
  ·exact Qb9 (by decide)
 ·exact hx
theorem QzC{L:Nat}{b:Bd}{m:Mach}(l:List Inp)(h:MOk L b m)(hz:m.2.2.1.length*(L+200)≤1099511627776)(ht:Qa0 b.2.1 m.2.1)(hw:QHk b.2.1)(ho:Qam m.2.1.2.1∧Qam m.2.1.2.2.1) :
 (QcB (Qo b m l).1∧Qk2 (Qo b m l).1)∧Qam (Qo b m l).1.2.1.2.1∧Qam (Qo b m l).1.2.1.2.2.1:=by
 have h1:=Qeu (t:=m.1) h.c l (s:=(m.2.2.1,m.2.1.2.2.2)) h.d h.l;have hlen:=(Qp5 l h).2;have ha:=QDE (c:=b.2.1) (k:=(m.2.1.1,m.2.1.2.1,m.2.1.2.2.1,(QJ b.2.2.1 m.1 l (m.2.2.1,m.2.1.2.2.2)).2)) (i:=Qz b (QJ b.2.2.1 m.1 l (m.2.2.1,m.2.1.2.2.2)).1) hw ho;unfold Qo at hlen ⊢;dsimp only at hlen ⊢;generalize QJ b.2.2.1 m.1 l (m.2.2.1,m.2.1.2.2.2)=g at *;generalize Qk b.2.1 (m.2.1.1,m.2.1.2.1,m.2.1.2.2.1,g.2) (Qz b g.1)=a at *;have h2:=QdB (b:=b) (x:=a.2) h.L1 h.c h1.1;have h3:=QzB (b:=b) (x:=a.2) h.L1 h.c h1.1 ha.2.2.2
 have h4:∀d∈List.zipWith Qh b.2.2.1 (QaV b g.1 a.2),(Q0 d.1∧u8s d.2)∧List.length d.2≤L:=fun d hd=>by
  obtain⟨c,hc,e,he,rfl⟩:=QkJ hd;have h5:=Qh8 (h.c c hc).1 (h2.1 e he);have h6:=(h.c c hc).2;exact⟨⟨h5.n,h5.u⟩,by have:=h5.l;omega⟩
 have h5:=Qzd (c:=b.2.1) (k:=a.1) (d:=QbY b g.1 a.2) ha.1.1 ha.1.2
 have h6:Qam (QI b.2.1 a.1 (QbY b g.1 a.2)).2.2.1:=by
  rcases h5.2 with h5|h5
  ·exact h5
  ·have:=(QnG ht.1 ht.2.1 a.1.2.1).1;omega
 have h7:=Qih b.2.1 a.1 (QbY b g.1 a.2);have h8:=Qzc b.2.1 a.1 (QbY b g.1 a.2);generalize List.zipWith Qh b.2.2.1 (QaV b g.1 a.2)=ds at *;generalize QbY b g.1 a.2=I at *
 have hn:ds.length≤1099511627776:=by
  have:ds.length*1≤m.2.2.1.length*(L+200):=Nat.mul_le_mul (by omega) (by omega);omega
 refine⟨⟨⟨?_,fun d hd=>(h4 d hd).1.1.1,h7,?_⟩,fun d hd=>(h4 d hd).1.2⟩,h5.1,h6⟩
 ·intro n hn;have hn:n∈[Qcc m.1]++(QI b.2.1 a.1 I).1++[(QI b.2.1 a.1 I).2.1,(QI b.2.1 a.1 I).2.2.1,cond (QI b.2.1 a.1 I).2.2.2 1 0,a.2.1,a.2.2.1,I,(ds.length:Int)]:=hn;rcases List.mem_append.1 hn with hn|hn
  ·rcases List.mem_append.1 hn with hn|hn
   ·rw[List.mem_singleton] at hn;subst hn;unfold Qcc Qam;omega
   ·have:=h8 n hn;exact Qb9 (by omega)
  ·simp only[List.mem_cons,List.not_mem_nil,or_false] at hn;rcases hn with rfl|rfl|rfl|rfl|rfl|rfl|rfl
   ·exact h5.1
   ·exact h6
   ·cases(QI b.2.1 a.1 I).2.2.2<;>exact Qb9 (by decide)
   ·exact ha.2.1
   ·exact ha.2.2.1
   ·exact h3
   ·unfold Qam;omega
 ·have h9:=QA6 (f:=QbA) (B:=L+200) (l:=ds) fun d hd=>by
   have:=h4 d hd;have:=this.1.1.2;unfold QbA;omega
  show(ds.map QbA).sum≤_;rw[hlen] at h9;omega
theorem QmC{L:Nat}{b:Bd}{l:List Inp}{m:Mach}(h:MOk L b m)(hz:m.2.2.1.length*(L+200)≤1099511627776)(ht:Qa0 b.2.1 m.2.1)(hw:QHk b.2.1)(hm:QcB m∧Qk2 m) :
 ∀k,(QcB (QbE b l k (m,[])).1∧Qk2 (QbE b l k (m,[])).1)∧(Qam (QbE b l k (m,[])).1.2.1.2.1∧Qam (QbE b l k (m,[])).1.2.1.2.2.1)
 |0=>⟨hm,hm.1.1 m.2.1.2.1 (List.mem_append_right _ (List.mem_cons_self ..)),hm.1.1 m.2.1.2.2.1 (List.mem_append_right _ (List.mem_cons_of_mem _ (List.mem_cons_self ..)))⟩
 |k+1=>by
  have h1:=Qe7 (l:=l) h ht k;have h2:=QmC (l:=l) h hz ht hw hm k;rw[Qa3];refine QzC l h1.1 ?_ h1.2.1 hw h2.2;rw[←h1.1.l,h.l];exact hz
theorem QmD{m:Mach}(h:QcB m):QwL m.2.2.1:=by
 have h1:=h.2.2.2;have h2:=Qko m.2.2.1;refine⟨by omega,fun d hd=>?_⟩;have h3:=Qg1 hd;unfold QbA at h1 h3;constructor<;>omega
theorem QmE{x y:Inp}:QA Qw x y=true↔x=y:=⟨fun h=>Qdp (u:=Qw) rfl h,fun h=>by subst h;exact Qdf rfl⟩
noncomputable def QA9:PSpec:=⟨[⟨false,.sl Qw⟩,⟨false,.sl Qw⟩],fun(l,m,_)=>(some (List.length l≤4611686018427387904),.cell (bv (eqB (α:=List Inp) l m)),[])⟩
theorem Qqe:G0 24 QA9.spec:=by
 have hP:S0 _:=(Qb (T:=tree))
 have hT:=tabs hP Qc;refine QA9.gd hT hP Tryz.func24 fun(l m:List Inp) hq=>?_
 have hl:l.length≤4611686018427387904:=hq _ rfl;clear hq
 repeat' first|(apply Ea;conv=>whnf)|apply Eb|apply Ec<;>intro _|apply Ed<;>intro _|apply Ee<;>intro _|apply Ef hT hP
 ·rename_i h;have h:(l.length:Int)≠(m.length:Int):=by simpa using h
  exact .k [] [] _ rfl (Qi (QDc (fun e=>h (by rw[e]))).symm)
 rename_i h;have h:(l.length:Int)=(m.length:Int):=by simpa using h
 have hm:l.length=m.length:=by omega
 refine QH hT hP (A:=Unit) l.length (fun i _=>St.mk ((.cell (.ro Qw l))::(.cell (.ro Qw m))::E10 ((I (l.length:Int))::(I i)::E10 (E2 []))) [])
  (fun k _=>l.take k=m.take k) () (Le.mk [] [] R R R ?_) (by simp) fun k _ hk hi=>?_
 ·repeat' constructor
 repeat' first|(apply Ea;conv=>whnf)|apply Eb|apply Ec<;>intro _|apply Ed<;>intro _|apply Ee<;>intro _|apply Ef hT hP
 all_goals clear hT hP
 all_goals first
  |(rename_i g1
    have g1:(k:Int)<(l.length:Int):=g1
    first
     |(show 0≤(k:Int)∧(k:Int)<(l.length:Int)
       omega)
     |(show 0≤(k:Int)∧(k:Int)<(m.length:Int)
       omega))
  |(rename_i g1 h2
    have g1:(k:Int)<(l.length:Int):=g1;have h2:(!QA Qw (l.getD k (dflt Qw)) (m.getD k (dflt Qw)))=true:=h2
    have hne:l.getD k (dflt Qw)≠m.getD k (dflt Qw):=fun e=>by
     rw[QmE.2 e] at h2;cases h2
    exact .k [] [] _ rfl (Qi (QDc (QI8 (dflt Qw) hne)).symm))
  |(rename_i g1 h2
    have g1:(k:Int)<(l.length:Int):=g1;have h2:(!QA Qw (l.getD k (dflt Qw)) (m.getD k (dflt Qw)))=false:=h2;have he:l.getD k (dflt Qw)=m.getD k (dflt Qw):=QmE.1 (by simpa using h2);apply Ex () [] []
    ·repeat' constructor
    ·omega
    ·exact QL (by omega)
    exact QDb (dflt Qw) (by omega) (by omega) hi he)
  |(rename_i g1
    have g1:¬(k:Int)<(l.length:Int):=g1
    exact .k [] [] _ rfl (Qi (Qif (QDa hm (by omega) hi)).symm))
structure MrsP(b:Bd)(m:Mach)(l:List Inp):Prop where
 s:stP b m l
 o:QwL m.2.2.1
 t:Qa0 b.2.1 m.2.1
 gm:QcB m∧Qk2 m
 mo:b.2.2.1.length=m.2.2.1.length→∃L,MOk L b m
 gr:b.2.2.1.length=m.2.2.1.length→∀k,QcB (QbE b l k (m,[])).1∧Qk2 (QbE b l k (m,[])).1
theorem Qex:QcB QfV∧Qk2 QfV:=⟨QJf,fun d hd=>by cases hd⟩
theorem QkT{b:Bd}{m:Mach}{l:List Inp}{n:Int}(h:QaQ b m l n=0):Qaw b m l=0∧0≤n∧n≤100000:=by
 unfold QaQ at h;split at h
 ·rename_i h1;exact absurd h h1
 ·rename_i h1;split at h
  ·cases h
  ·split at h
   ·cases h
   ·exact⟨by simpa using h1,by omega,by omega⟩
theorem MrsP.len{b:Bd}{m:Mach}{l:List Inp}{n:Int}(h:QaQ b m l n=0):b.2.2.1.length=m.2.2.1.length:=(Qd9 (QkT h).1).2.1.symm
theorem MrsP.mrn{b:Bd}{m:Mach}{l:List Inp}(h:MrsP b m l):QEa b m l:=⟨⟨h.o,h.s.2,h.s.1⟩,fun _=>h.t,fun he=>h.mo (MrsP.len he)⟩
theorem MrsP.mcy{b:Bd}{m:Mach}{l:List Inp}(h:MrsP b m l):QJg b m l:=⟨⟨h.o,h.s.2,h.s.1.1⟩,h.t,h.mo⟩
theorem MrsP.rcy{b:Bd}{m:Mach}{l:List Inp}(h:MrsP b m l)(he:b.2.2.1.length=m.2.2.1.length):QJh b m l:=⟨⟨h.o,h.s.2,h.s.1.1⟩,h.t,h.mo he⟩
theorem MrsP.ran{b:Bd}{m:Mach}{l:List Inp}{n:Int}(h:MrsP b m l)(he:QaQ b m l n=0):RanP b m l n:=by
 have h1:=QkT he;have hl:=MrsP.len he;exact⟨h.s.2,h.s.1.1,h.t,(Qg9 (Qd9 h1.1).1).1,h1.2.1,h1.2.2,fun k _=>QmD (h.gr hl k).1,h.mo hl⟩
theorem MrsP.gcy{b:Bd}{m:Mach}{l:List Inp}(h:MrsP b m l):QcB (QgI b m l).1∧Qk2 (QgI b m l).1:=by
 unfold QgI;split
 ·rename_i he;exact h.gr he.symm 1
 ·exact h.gm
theorem MrsP.gcc{b:Bd}{m:Mach}{l:List Inp}(h:MrsP b m l)(he:b.2.2.1.length=m.2.2.1.length):QcB (Qo b m l).1∧Qk2 (Qo b m l).1:=h.gr he 1
theorem MrsP.grm{b:Bd}{m:Mach}{l:List Inp}(h:MrsP b m l)(n:Int):QcB (QcX b m l n).1∧Qk2 (QcX b m l n).1:=by
 unfold QcX;split
 ·rename_i he;exact h.gr (MrsP.len he) _
 ·exact Qex
theorem MrsP.grr{b:Bd}{m:Mach}{l:List Inp}{n:Int}(h:MrsP b m l)(he:QaQ b m l n=0):QcB (QbE b l n.toNat (m,[])).1∧Qk2 (QbE b l n.toNat (m,[])).1:=h.gr (MrsP.len he) _
theorem MrsP.lcy{b:Bd}{m:Mach}{l:List Inp}(h:MrsP b m l):(QgI b m l).2.length≤4611686018427387904:=by
 have h1:=h.s.1.1.1.1;unfold QgI;split
 ·have h2:(Qo b m l).2.length≤b.2.2.1.length:=Qbr _ _ _ _;omega
 ·exact Nat.zero_le _
theorem MrsP.lrm{b:Bd}{m:Mach}{l:List Inp}(h:MrsP b m l)(n:Int):(QcX b m l n).2.length≤4611686018427387904:=by
 unfold QcX;split
 ·rename_i he;obtain⟨L,hM⟩:=h.mo (MrsP.len he);have h1:=(Qe7 (l:=l) hM h.t n.toNat).2.2;have h2:=(Qg9 (Qd9 (QkT he).1).1).1;have h3:n.toNat*b.2.2.1.length≤100000*12:=Nat.mul_le_mul (by have:=QkT he;omega) h2;omega
 ·exact Nat.zero_le _
def QDF:PSpec:=⟨[gBd,gM,gIn,gi],fun(b,m,l,n,_)=>(some (MrsP b m l),.cell (bv true),[])⟩
theorem QGF:G0 5 QDF.spec:=by
 have hP:S0 _:=Qa QnT (Qa QmB (Qa Qmo (Qa Qjw (Qa Qqe (Qa Qv9 (Qa Qjv (Qa Qwc (Qa QnU (Qb (T:=tree))))))))));have hT:=tabs hP Qc;refine QDF.gd hT hP Tryz.func5 fun(b:Bd) (m:Mach) (l:List Inp) (n:Int) hq=>?_
 have hp:MrsP b m l:=hq _ rfl;clear hq;have hC1:¬m.2.2.1.length=b.2.2.1.length→QgI b m l=(m,[]):=fun h=>if_neg h
 have hC2:m.2.2.1.length=b.2.2.1.length→QgI b m l=Qo b m l:=fun h=>if_pos h
 have hM1:∀n,QaQ b m l n≠0→QcX b m l n=(QfV,[]):=fun n h=>if_neg h
 have hM2:∀n,QaQ b m l n=0→QcX b m l n=QbE b l n.toNat (m,[]):=fun n h=>if_pos h
 obtain⟨bn,⟨un,ui,ur,uq,um⟩,bc,bw⟩:=b;obtain⟨tm,⟨r,op,at_,nmi⟩,ds,bd,ba,bdt⟩:=m;have sA:¬ds.length=bc.length→(QgI (bn,(un,ui,ur,uq,um),bc,bw) (tm,(r,op,at_,nmi),ds,bd,ba,bdt) l).2=[]∧Qmn (QgI (bn,(un,ui,ur,uq,um),bc,bw) (tm,(r,op,at_,nmi),ds,bd,ba,bdt) l).1 (tm,(r,op,at_,nmi),ds,bd,ba,bdt)=true:=fun h=>by rw[hC1 h];exact⟨rfl,Qif rfl⟩
 have sB:ds.length=bc.length→eqB (α:=List Inp) (QgI (bn,(un,ui,ur,uq,um),bc,bw) (tm,(r,op,at_,nmi),ds,bd,ba,bdt) l).2 (Qo (bn,(un,ui,ur,uq,um),bc,bw) (tm,(r,op,at_,nmi),ds,bd,ba,bdt) l).2=true∧Qmn (QgI (bn,(un,ui,ur,uq,um),bc,bw) (tm,(r,op,at_,nmi),ds,bd,ba,bdt) l).1 (Qo (bn,(un,ui,ur,uq,um),bc,bw) (tm,(r,op,at_,nmi),ds,bd,ba,bdt) l).1=true:=fun h=>by rw[hC2 h];exact⟨Qif rfl,Qif rfl⟩
 have sC:∀n,QaQ (bn,(un,ui,ur,uq,um),bc,bw) (tm,(r,op,at_,nmi),ds,bd,ba,bdt) l n≠0→(QcX (bn,(un,ui,ur,uq,um),bc,bw) (tm,(r,op,at_,nmi),ds,bd,ba,bdt) l n).2=[]∧Qmn (QcX (bn,(un,ui,ur,uq,um),bc,bw) (tm,(r,op,at_,nmi),ds,bd,ba,bdt) l n).1 (0,(List.replicate 9 0,0,0,false),[],0,0,0)=true:=fun n h=>by rw[hM1 n h];exact⟨rfl,Qif rfl⟩
 have sD:∀n,QaQ (bn,(un,ui,ur,uq,um),bc,bw) (tm,(r,op,at_,nmi),ds,bd,ba,bdt) l n=0→eqB (α:=List Inp) (QcX (bn,(un,ui,ur,uq,um),bc,bw) (tm,(r,op,at_,nmi),ds,bd,ba,bdt) l n).2 (QbE (bn,(un,ui,ur,uq,um),bc,bw) l n.toNat ((tm,(r,op,at_,nmi),ds,bd,ba,bdt),[])).2=true∧Qmn (QcX (bn,(un,ui,ur,uq,um),bc,bw) (tm,(r,op,at_,nmi),ds,bd,ba,bdt) l n).1 (QbE (bn,(un,ui,ur,uq,um),bc,bw) l n.toNat ((tm,(r,op,at_,nmi),ds,bd,ba,bdt),[])).1=true:=fun n h=>by rw[hM2 n h];exact⟨Qif rfl,Qif rfl⟩
 have ff:∀{b:Bool},b=true→(!b)=true→False:=fun h h2=>by rw[h] at h2;cases h2
 have ft:∀{b:Bool},b=true→b=false→False:=fun h h2=>by rw[h] at h2;cases h2
 repeat' first|(apply Ea;conv=>whnf)|apply Eb|apply Ec<;>intro _|apply Ed<;>intro _|apply Ee<;>intro _|apply Ef hT hP
 all_goals(try dsimp only[Qf] at *)
 all_goals clear hT hP
 all_goals first
  |exact hp.mcy
  |exact hp.mrn
  |exact hp.s
  |exact⟨hp.gcy,hp.gm⟩
  |exact⟨hp.grm 1,Qex⟩
  |exact⟨hp.grm n,Qex⟩
  |exact hp.lcy
  |exact hp.lrm 1
  |exact hp.lrm n
  |exact hp.rcy (eqN (by assumption)).symm
  |exact hp.ran (Qap (by assumption))
  |exact⟨hp.gcy,hp.gcc (eqN (by assumption)).symm⟩
  |exact⟨hp.grm 1,hp.grr (Qap (by assumption))⟩
  |exact⟨hp.grm n,hp.grr (Qap (by assumption))⟩
  |(exfalso;exact absurd (show QaQ (bn,(un,ui,ur,uq,um),bc,bw) (tm,(r,op,at_,nmi),ds,bd,ba,bdt) l n=0 by assumption) (QbM (x:=QaQ (bn,(un,ui,ur,uq,um),bc,bw) (tm,(r,op,at_,nmi),ds,bd,ba,bdt) l n) (by assumption)))
  |(exfalso;exact absurd (Qap (x:=QaQ (bn,(un,ui,ur,uq,um),bc,bw) (tm,(r,op,at_,nmi),ds,bd,ba,bdt) l n) (by assumption)) (show¬QaQ (bn,(un,ui,ur,uq,um),bc,bw) (tm,(r,op,at_,nmi),ds,bd,ba,bdt) l n=0 by assumption))
  |(exfalso;exact absurd (show((QgI (bn,(un,ui,ur,uq,um),bc,bw) (tm,(r,op,at_,nmi),ds,bd,ba,bdt) l).2.length:Int)>0 by assumption) (by rw[(sA (neN (by assumption))).1];decide))
  |(exfalso;exact ff (sA (neN (by assumption))).2 (by assumption))
  |(exfalso;exact ff (sB (eqN (by assumption))).1 (by assumption))
  |(exfalso;exact ff (sB (eqN (by assumption))).2 (by assumption))
  |(exfalso;exact absurd (show(QaQ (bn,(un,ui,ur,uq,um),bc,bw) (tm,(r,op,at_,nmi),ds,bd,ba,bdt) l 1 != QaQ (bn,(un,ui,ur,uq,um),bc,bw) (tm,(r,op,at_,nmi),ds,bd,ba,bdt) l 1)=true by assumption) (by rw[bne_self_eq_false];decide))
  |(exfalso;exact absurd (show((QcX (bn,(un,ui,ur,uq,um),bc,bw) (tm,(r,op,at_,nmi),ds,bd,ba,bdt) l 1).2.length:Int)>0 by assumption) (by rw[(sC 1 (QbM (x:=QaQ (bn,(un,ui,ur,uq,um),bc,bw) (tm,(r,op,at_,nmi),ds,bd,ba,bdt) l 1) (by assumption))).1];decide))
  |(exfalso;exact ff (sC 1 (QbM (x:=QaQ (bn,(un,ui,ur,uq,um),bc,bw) (tm,(r,op,at_,nmi),ds,bd,ba,bdt) l 1) (by assumption))).2 (by assumption))
  |(exfalso;exact ff (sD 1 (Qap (x:=QaQ (bn,(un,ui,ur,uq,um),bc,bw) (tm,(r,op,at_,nmi),ds,bd,ba,bdt) l 1) (by assumption))).1 (by assumption))
  |(exfalso;exact ff (sD 1 (Qap (x:=QaQ (bn,(un,ui,ur,uq,um),bc,bw) (tm,(r,op,at_,nmi),ds,bd,ba,bdt) l 1) (by assumption))).2 (by assumption))
  |(exfalso;exact absurd rfl (show¬QaQ (bn,(un,ui,ur,uq,um),bc,bw) (tm,(r,op,at_,nmi),ds,bd,ba,bdt) l n=QaQ (bn,(un,ui,ur,uq,um),bc,bw) (tm,(r,op,at_,nmi),ds,bd,ba,bdt) l n by assumption))
  |(exfalso;exact absurd (show((QcX (bn,(un,ui,ur,uq,um),bc,bw) (tm,(r,op,at_,nmi),ds,bd,ba,bdt) l n).2.length:Int)=0 by rw[(sC n (QbM (x:=QaQ (bn,(un,ui,ur,uq,um),bc,bw) (tm,(r,op,at_,nmi),ds,bd,ba,bdt) l n) (by assumption))).1];rfl) (by assumption))
  |(exfalso;exact ft (sD n (Qap (x:=QaQ (bn,(un,ui,ur,uq,um),bc,bw) (tm,(r,op,at_,nmi),ds,bd,ba,bdt) l n) (by assumption))).1 (by assumption))
  |(exfalso;exact ft (b:=QaQ (bn,(un,ui,ur,uq,um),bc,bw) (tm,(r,op,at_,nmi),ds,bd,ba,bdt) l 1 != 0) (by assumption) (by assumption))
  |exact .k [] [] _ R R
  |exact .k [] [] _ rfl (Qi (sC n (QbM (x:=QaQ (bn,(un,ui,ur,uq,um),bc,bw) (tm,(r,op,at_,nmi),ds,bd,ba,bdt) l n) (by assumption))).2)
  |exact .k [] [] _ rfl (Qi (sD n (Qap (x:=QaQ (bn,(un,ui,ur,uq,um),bc,bw) (tm,(r,op,at_,nmi),ds,bd,ba,bdt) l n) (by assumption))).2)
end Go.Proofs.YtofgbclopbmlcaaGreat



