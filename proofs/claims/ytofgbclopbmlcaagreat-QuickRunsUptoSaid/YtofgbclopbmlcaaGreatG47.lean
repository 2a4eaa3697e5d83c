/- Part 47 of the proof. Conditions: none. -/
import Derived.Test.YtofgbclopbmlcaaGreatG46
import Derived.Test.YtofgbclopbmlcaaGreatG41
import Derived.Test.YtofgbclopbmlcaaGreatG34
import Derived.Test.YtofgbclopbmlcaaGreatG44
import Derived.Test.YtofgbclopbmlcaaGreatG43
namespace Go.Proofs.YtofgbclopbmlcaaGreat
set_option maxHeartbeats 8000000
open Go.Fw
set_option linter.unusedVariables false
set_option linter.unusedSimpArgs false
set_option linter.constructorNameAsVariable false
set_option maxRecDepth 100000
theorem Qn2:MOk 100000 QiV Qk3:=by
 refine⟨by decide,by decide,fun c hc=>?_,fun d hd=>?_,rfl⟩
 ·have hc:c∈[Qzt]:=hc;rw[List.mem_singleton] at hc;subst hc;exact⟨QkR,by decide⟩
 ·obtain⟨⟨h1,h2⟩,h3⟩:=QkS (List.all_eq_true.1 Qv8.2 d hd);exact⟨h3,by omega⟩
theorem QwF:Qa0 QiV.2.1 Qk3.2.1:=⟨⟨by decide,fun x hx=>by cases hx⟩,⟨⟨by decide,fun x hx=>by cases hx⟩,⟨by decide,fun x hx=>by cases hx⟩,⟨by decide,fun x hx=>by cases hx⟩⟩,rfl⟩
theorem QDV:bdP QiV:=by
 refine⟨⟨by decide,by decide⟩,fun c hc=>?_⟩;have hc:c∈[Qzt]:=hc;rw[List.mem_singleton] at hc;subst hc;exact⟨QkR,by decide⟩
theorem Qqr:QaQ QiV Qk3 [] 3=0:=by decide +kernel
theorem QDW:QHz QiV Qk3 []:=by
 have h:=Qv7 Qv8;exact⟨⟨⟨⟨h.2.1,by decide,QDV,fun w hw=>by cases hw⟩,fun _=>QwF,fun _=>⟨_,Qn2⟩⟩,fun x hx=>by cases hx⟩,fun _=>⟨_,Qn2,by decide⟩⟩
theorem QwG{b:Bd}{l:List Inp}{m:Mach}(h:0≤m.1∧m.1≤1099511627776):∀k:Nat,(QbE b l k (m,[])).1.1=min (m.1+k) 1099511627776
 |0=>by
  show m.1=min (m.1+(0:Nat)) 1099511627776;omega
 |k+1=>by
  have ih:=QwG (b:=b) (l:=l) h k;rw[Qa3];show Qcc (QbE b l k (m,[])).1.1=_;rw[ih,QmK (by omega)];omega
noncomputable def qx:Mach×List Inp:=Classical.choose (⟨_,rfl⟩:∃x,x=QcX QiV Qk3 [] 3)
theorem QGO:qx=QcX QiV Qk3 [] 3:=Classical.choose_spec (⟨_,rfl⟩:∃x,x=QcX QiV Qk3 [] 3)
theorem QBh:qx=QbE QiV [] 3 (Qk3,[]):=QGO.trans (if_pos Qqr)
theorem QDX:qx.1.1=3:=by rw[QBh,QwG (m:=Qk3) (by decide)];decide
theorem QGP:qx.1.2.2.1.length=1:=by rw[QBh];exact(Qe7 (l:=[]) Qn2 QwF 3).1.l.symm
noncomputable def QGQ:PSpec:=⟨[gBd,gM,gIn,gi],fun(b,m,l,n,_)=>(some (b=QiV∧m=Qk3∧l=[]∧n=3),.tup [.agg [iv .i64 3,.run .i64 9 qx.1.2.1.1,iv .i64 qx.1.2.1.2.1,iv .i64 qx.1.2.1.2.2.1,bv qx.1.2.1.2.2.2,.own 0,iv .i64 qx.1.2.2.2.1,iv .i64 qx.1.2.2.2.2.1,iv .i64 qx.1.2.2.2.2.2],.c (.own 1),I1 0],[.arr Qj qx.1.2.2.1,.arr Qw qx.2])⟩
theorem QzJ{p q:Mach×List Inp}{e:Int}(h:p=q)(h2:q.1.1=3)(h3:e=0):Conv (AV.tup [QeI p.1 0,.c (.own 1),I1 e],[Blk.arr Qj p.1.2.2.1,.arr Qw p.2])
 (AV.tup [.agg [iv .i64 3,.run .i64 9 q.1.2.1.1,iv .i64 q.1.2.1.2.1,iv .i64 q.1.2.1.2.2.1,bv q.1.2.1.2.2.2,.own 0,iv .i64 q.1.2.2.2.1,iv .i64 q.1.2.2.2.2.1,iv .i64 q.1.2.2.2.2.2],.c (.own 1),I1 0],[Blk.arr Qj q.1.2.2.1,.arr Qw q.2]):=by
 subst h h3;unfold QeI;rw[h2];exact .refl
theorem QzK:G0 32 QGQ.spec:=by
 refine QQ.sel Qn1 fun(b,m,l,n,_) hp=>?_
 obtain⟨rfl,rfl,rfl,rfl⟩:b=QiV∧m=Qk3∧l=[]∧n=3:=hp _ rfl;exact⟨_,Qn1,fun q hq=>by cases hq;exact QDW,QzJ (p:=QcX QiV Qk3 [] 3) QGO.symm QDX Qqr⟩
def QwH:PSpec:=⟨[],fun _=>(none,.cell (bv true),[])⟩
theorem QmM:G0 30 QwH.spec:=by
 have hP:S0 _:=Qa Qju (Qa Qqc (Qa QzK (Qb (T:=tree))));have hT:=tabs hP Qc;refine QwH.gd hT hP Tryz.func30 fun _=>?_
 have h2:qx.1.2.2.1.length=1:=QGP
 repeat' first|(apply Ea;conv=>whnf)|apply Eb|apply Ec<;>intro _|apply Ed<;>intro _|apply Ee<;>intro _|apply Ef hT hP
 all_goals(try dsimp only[Qf] at *)
 all_goals clear hT hP
 ·exact rfl
 ·exact⟨rfl,rfl,rfl,rfl⟩
 ·exact .k [] [] _ rfl (Qi (show(bif true then ((List.length qx.1.2.2.1:Int)==1) else false)=true by rw[h2];rfl))
def QGR:PSpec:=⟨[gBd,gM],fun(b,m,_)=>(some (Qwn b m),.cell (bv true),[])⟩
theorem QGS:G0 6 QGR.spec:=by
 have hP:S0 _:=Qa Quw (Qa QmM (Qa Qql (Qb (T:=tree))));have hT:=tabs hP Qc;refine QGR.gd hT hP Tryz.func6 fun(b:Bd) (m:Mach) hq=>?_
 have hs:Qwn b m:=hq _ rfl;clear hq;have hE:QaI b m=QcW b.2.2.1 m.2.2.1 100000:=rfl;have hl:=hs.1;have hc:=hs.2.1;have hd:=hs.2.2;obtain⟨bn,⟨un,ui,ur,uq,um⟩,bc,bw⟩:=b;obtain⟨tm,⟨r,op,at_,nmi⟩,ds,bd,ba,bdt⟩:=m;have hE:QaI (bn,(un,ui,ur,uq,um),bc,bw) (tm,(r,op,at_,nmi),ds,bd,ba,bdt)=QcW bc ds 100000:=hE;have hl:bc.length*64≤140737488351232:=hl;have hc:∀c∈bc,cP c:=hc;have hd:∀d∈ds,dP d:=hd
 repeat' first|(apply Ea;conv=>whnf)|apply Eb|apply Ec<;>intro _|apply Ed<;>intro _|apply Ee<;>intro _|apply Ef hT hP
 refine QH hT hP (A:=Int) bc.length (fun i o=>St.mk (E2 ((.cell (.ptr 0 0))::(.cell (.ptr 1 0))::E1 ((I o)::E3 ((.cell (.ro Qe bc))::(I bc.length)::(I i)::E20 (E5 (E2 []))))))
  [some (.var [.imm (.string bn),.imm (.string un),.ro QaA ui,.ro Qs ur,.ro Qs uq,.ro Qs um,.ro Qe bc,.ro Qr bw]),
   some (.var [.imm (.int .i64 tm),.run .i64 9 r,.imm (.int .i64 op),.imm (.int .i64 at_),.imm (.bool nmi),.ro Qj ds,.imm (.int .i64 bd),.imm (.int .i64 ba),.imm (.int .i64 bdt)])])
  (fun k o=>QcW (bc.drop k) (ds.drop k) o=QcW bc ds 100000) 100000 (Le.k [] [0,1] ?_) rfl fun k o hk hi=>?_
 ·repeat' constructor
 repeat' first|(apply Ea;conv=>whnf)|apply Eb|apply Ec<;>intro _|apply Ed<;>intro _|apply Ee<;>intro _|apply Ef hT hP
 all_goals(try dsimp only[Qf] at *)
 all_goals clear hT hP
 ·rename_i g;have g:(k:Int)<(bc.length:Int):=g;show 0≤(k:Int)∧(k:Int)<(bc.length:Int);omega
 ·rename_i g g2;have g2:(k:Int)<(ds.length:Int):=g2;show 0≤(k:Int)∧(k:Int)<(ds.length:Int);omega
 ·rename_i g g2;have g:(k:Int)<(bc.length:Int):=g;have g2:(k:Int)<(ds.length:Int):=g2;exact⟨hc _ (QG (dflt Qe) (show k<bc.length by omega)),hd _ (QG (dflt Qj) (show k<ds.length by omega))⟩
 ·rename_i g g2;have g:(k:Int)<(bc.length:Int):=g;have g2:(k:Int)<(ds.length:Int):=g2;apply Ex _ [] [0,1]
  ·repeat' constructor
  ·omega
  ·exact QL (by omega)
  rw[←hi,QeA (k:=k) (by omega),if_pos (by omega)];rfl
 ·rename_i g g2;have g:(k:Int)<(bc.length:Int):=g;have g2:¬(k:Int)<(ds.length:Int):=g2;apply Ex _ [] [0,1]
  ·repeat' constructor
  ·omega
  ·exact QL (by omega)
  rw[←hi,QeA (k:=k) (by omega),if_neg (by omega)]
 ·exact hs
 ·rename_i g;have g:¬(k:Int)<(bc.length:Int):=g;refine .k [] [] _ rfl (Qi ?_);have e:o=QcW bc ds 100000:=by rw[←hi,QmI (by omega)]
  show(QaI (bn,(un,ui,ur,uq,um),bc,bw) (tm,(r,op,at_,nmi),ds,bd,ba,bdt)==o)=true;rw[hE,e,beq_self_eq_true]
theorem QDY(xs:Args QGR.gs)(hw:WfA QGR.gs xs):Qwn xs.1 xs.2.1:=by
 have h1:Wf gBd.t xs.1:=hw.1;have h2:Wf QfK xs.2.1:=hw.2.1;have h3:=Qwj h1;exact⟨h3.1.1,fun c hc=>(h3.2 c hc).1,fun d hd=>QJj (h2.2.2.1.2 d hd)⟩
structure QrsP(b:Bd)(m:Mach)(l:List Inp):Prop where
 h:MrsP b m l
 i:∀x∈l,Qam x.1
 L:b.2.2.1.length=m.2.2.1.length→∃L,MOk L b m∧L≤140737488351232
theorem QrsP.qrn{b:Bd}{m:Mach}{l:List Inp}(h:QrsP b m l):QHz b m l:=⟨⟨h.h.mrn,h.i⟩,fun he=>h.L (MrsP.len he)⟩
def QDZ:PSpec:=⟨[gBd,gM,gIn,gi],fun(b,m,l,n,_)=>(some (QrsP b m l),.cell (bv true),[])⟩
theorem QGT:G0 7 QDZ.spec:=by
 have hP:S0 _:=Qa QmM (Qa Qmo (Qa Qqe (Qa Qjv (Qa Qwc (Qa Qn1 (Qb (T:=tree)))))));have hT:=tabs hP Qc;refine QDZ.gd hT hP Tryz.func7 fun(b:Bd) (m:Mach) (l:List Inp) (n:Int) hq=>?_
 have hp0:QrsP b m l:=hq _ rfl;clear hq;have hp:=hp0.h;have hqr:=hp0.qrn;have hM1:∀n,QaQ b m l n≠0→QcX b m l n=(QfV,[]):=fun n h=>if_neg h
 have hM2:∀n,QaQ b m l n=0→QcX b m l n=QbE b l n.toNat (m,[]):=fun n h=>if_pos h
 obtain⟨bn,⟨un,ui,ur,uq,um⟩,bc,bw⟩:=b;obtain⟨tm,⟨r,op,at_,nmi⟩,ds,bd,ba,bdt⟩:=m;have sC:∀n,QaQ (bn,(un,ui,ur,uq,um),bc,bw) (tm,(r,op,at_,nmi),ds,bd,ba,bdt) l n≠0→(QcX (bn,(un,ui,ur,uq,um),bc,bw) (tm,(r,op,at_,nmi),ds,bd,ba,bdt) l n).2=[]∧Qmn (QcX (bn,(un,ui,ur,uq,um),bc,bw) (tm,(r,op,at_,nmi),ds,bd,ba,bdt) l n).1 (0,(List.replicate 9 0,0,0,false),[],0,0,0)=true:=fun n h=>by rw[hM1 n h];exact⟨rfl,Qif rfl⟩
 have sD:∀n,QaQ (bn,(un,ui,ur,uq,um),bc,bw) (tm,(r,op,at_,nmi),ds,bd,ba,bdt) l n=0→eqB (α:=List Inp) (QcX (bn,(un,ui,ur,uq,um),bc,bw) (tm,(r,op,at_,nmi),ds,bd,ba,bdt) l n).2 (QbE (bn,(un,ui,ur,uq,um),bc,bw) l n.toNat ((tm,(r,op,at_,nmi),ds,bd,ba,bdt),[])).2=true∧Qmn (QcX (bn,(un,ui,ur,uq,um),bc,bw) (tm,(r,op,at_,nmi),ds,bd,ba,bdt) l n).1 (QbE (bn,(un,ui,ur,uq,um),bc,bw) l n.toNat ((tm,(r,op,at_,nmi),ds,bd,ba,bdt),[])).1=true:=fun n h=>by rw[hM2 n h];exact⟨Qif rfl,Qif rfl⟩
 have ft:∀{b:Bool},b=true→b=false→False:=fun h h2=>by rw[h] at h2;cases h2
 repeat' first|(apply Ea;conv=>whnf)|apply Eb|apply Ec<;>intro _|apply Ed<;>intro _|apply Ee<;>intro _|apply Ef hT hP
 all_goals(try dsimp only[Qf] at *)
 all_goals clear hT hP
 all_goals first
  |exact hp.s
  |exact hqr
  |exact⟨hp.grm n,Qex⟩
  |exact hp.lrm n
  |exact hp.ran (Qap (by assumption))
  |exact⟨hp.grm n,hp.grr (Qap (by assumption))⟩
  |(exfalso;exact absurd (show QaQ (bn,(un,ui,ur,uq,um),bc,bw) (tm,(r,op,at_,nmi),ds,bd,ba,bdt) l n=0 by assumption) (QbM (x:=QaQ (bn,(un,ui,ur,uq,um),bc,bw) (tm,(r,op,at_,nmi),ds,bd,ba,bdt) l n) (by assumption)))
  |(exfalso;exact absurd (Qap (x:=QaQ (bn,(un,ui,ur,uq,um),bc,bw) (tm,(r,op,at_,nmi),ds,bd,ba,bdt) l n) (by assumption)) (show¬QaQ (bn,(un,ui,ur,uq,um),bc,bw) (tm,(r,op,at_,nmi),ds,bd,ba,bdt) l n=0 by assumption))
  |(exfalso;exact absurd rfl (show¬QaQ (bn,(un,ui,ur,uq,um),bc,bw) (tm,(r,op,at_,nmi),ds,bd,ba,bdt) l n=QaQ (bn,(un,ui,ur,uq,um),bc,bw) (tm,(r,op,at_,nmi),ds,bd,ba,bdt) l n by assumption))
  |(exfalso;exact absurd (show((QcX (bn,(un,ui,ur,uq,um),bc,bw) (tm,(r,op,at_,nmi),ds,bd,ba,bdt) l n).2.length:Int)=0 by rw[(sC n (QbM (x:=QaQ (bn,(un,ui,ur,uq,um),bc,bw) (tm,(r,op,at_,nmi),ds,bd,ba,bdt) l n) (by assumption))).1];rfl) (by assumption))
  |(exfalso;exact ft (sD n (Qap (x:=QaQ (bn,(un,ui,ur,uq,um),bc,bw) (tm,(r,op,at_,nmi),ds,bd,ba,bdt) l n) (by assumption))).1 (by assumption))
  |exact .k [] [] _ R R
  |exact .k [] [] _ rfl (Qi (sC n (QbM (x:=QaQ (bn,(un,ui,ur,uq,um),bc,bw) (tm,(r,op,at_,nmi),ds,bd,ba,bdt) l n) (by assumption))).2)
  |exact .k [] [] _ rfl (Qi (sD n (Qap (x:=QaQ (bn,(un,ui,ur,uq,um),bc,bw) (tm,(r,op,at_,nmi),ds,bd,ba,bdt) l n) (by assumption))).2)
  |skip
theorem QD0{l:List Inp}(h:Wf (.sl Qw) l):∀x∈l,Qam x.1:=fun x hx=>QcV (h.2 x hx).1
theorem QwI{b:Bd}{m:Mach}{l:List Inp}(h1:Wf gBd.t b)(h2:Wf QfK m)(h3:Wf (.sl Qw) l)(hb:bd gBd.t b≤1048576)(hm:bd QfK m≤1048576):QrsP b m l :=
 ⟨QmF h1 h2 h3 hb hm,QD0 h3,fun hl=>⟨_,(Qiz h1 h2 hb hm hl).1,by decide⟩⟩
theorem QD1(xs:Args QDZ.gs)(hw:WfA QDZ.gs xs)(hb:Go.Fw.bdA QDZ.gs xs≤1048576):QrsP xs.1 xs.2.1 xs.2.2.1:=by
 obtain⟨b,m,l,n,u⟩:=xs;have e:Go.Fw.bdA QDZ.gs (b,m,l,n,u)=bd gBd.t b+(bd QfK m+(bd (.sl Qw) l+(1+0))):=rfl;rw[e] at hb;exact QwI (b:=b) (m:=m) (l:=l) hw.1 hw.2.1 hw.2.2.1 (by omega) (by omega)
end Go.Proofs.YtofgbclopbmlcaaGreat

