/- Part 27 of the proof. Conditions: none. -/
import Derived.Test.YtofgbclopbmlcaaGreatG26
import Derived.Test.YtofgbclopbmlcaaGreatG19
import Derived.Test.YtofgbclopbmlcaaGreatG17
import Derived.Test.YtofgbclopbmlcaaGreatG24
import Derived.Test.YtofgbclopbmlcaaGreatG23
namespace Go.Proofs.YtofgbclopbmlcaaGreat
open Go.IntKind (i64)
set_option maxHeartbeats 8000000
open Go.Fw
set_option linter.unusedVariables false
set_option linter.unusedSimpArgs false
set_option linter.constructorNameAsVariable false
set_option maxRecDepth 100000
def Qvt:List V1→List Blk→Option Kor:=fun a b=>match a,b with
 | [.c (.ptr 0 0)],[.var [.run .i64 9 r,.imm (.int .i64 op),.imm (.int .i64 at_),.imm (.bool nmi)]]=>some (r,op,at_,nmi)
 |_,_=>none
theorem Qvu{a:List V1}{b:List Blk}{x:Kor}(h:Qvt a b=some x):a=[.c (.ptr 0 0)]∧b=[.var [.run .i64 9 x.1,iv .i64 x.2.1,iv .i64 x.2.2.1,bv x.2.2.2]]:=by
 unfold Qvt at h;split at h
 ·injection h with h;subst h;exact⟨rfl,rfl⟩
 ·cases h
def QAW:WSpec:=⟨Kor,fun _=>[.c (.ptr 0 0)],fun x=>[.var [.run .i64 9 x.1,iv .i64 x.2.1,iv .i64 x.2.2.1,bv x.2.2.2]],Qvt,
 fun(r,op,at_,nmi)=>(none,.agg [.run .i64 9 r,iv .i64 (-1),iv .i64 0,bv nmi],[some (.var [.run .i64 9 r,iv .i64 (-1),iv .i64 0,bv nmi])],[])⟩
theorem QDh:G0 144 QAW.spec:=by
 have hP:S0 _:=(Qb (T:=tree))
 have hT:=tabs hP Qc;refine QAW.gd hT hP Tryz.func144 (fun _ _ _ h=>Qvu h) fun((r,op,at_,nmi):Kor) hq=>?_
 repeat' first|(apply Ea;conv=>whnf)|apply Eb|apply Ec<;>intro _|apply Ed<;>intro _|apply Ee<;>intro _|apply Ef hT hP
 all_goals exact .k [] [0] _ R R
theorem QGd{c:Cpu}{op at_:Int}(h:¬op=-1)(h0:0≤at_)(h1:at_<(QP c op).length):Qfc c op at_=true:=by
 unfold Qfc;rw[decide_eq_false h,decide_eq_true h0,decide_eq_true h1];rfl
theorem QGe{c:Cpu}{op at_:Int}(h:¬(0≤at_∧at_<(QP c op).length)):Qfc c op at_=false:=by
 unfold Qfc;by_cases h0:0≤at_
 ·rw[decide_eq_true h0,decide_eq_false (fun h1=>h ⟨h0,h1⟩)];simp
 ·rw[decide_eq_false h0];simp
theorem QnL:G0 78 QyY.spec:=by
 have hP:S0 _:=Qa Qkj (Qa Qco (Qa QDh (Qa QpY (Qa QAM (Qa Qp (Qa QD (Qa Qrv (Qa Qpy (Qb (T:=tree))))))))));have hT:=tabs hP Qc;refine QyY.gd hT hP Tryz.func78 fun(c:Cpu) (k:Kor) (data:Int) hq=>?_
 obtain⟨cn,ci,cr,cq,cm⟩:=c;obtain⟨r,op,at_,nmi⟩:=k;obtain⟨h1,h2,h3⟩:Qa0 (cn,ci,cr,cq,cm) (r,op,at_,nmi):=hq _ rfl;clear hq;have hC:=QnG h1 h2 op;have hS:=Qvh (at_:=at_) hC;have h1':ci.length*56≤140737488351232:=h1.1
 repeat' first|(apply Ea;conv=>whnf)|apply Eb|apply Ec<;>intro _|apply Ed<;>intro _|apply Ee<;>intro _|apply Ef hT hP
 all_goals first
  |exact of_decide_eq_true rfl
  |exact h3
  |exact h1
  |skip
 all_goals(try simp only[Qf] at *)
 all_goals(try dsimp only at *)
 all_goals first
  |exact⟨.inr trivial,by show ci.length≤_;omega⟩
  |exact⟨.inr rfl,by show ci.length≤_;omega⟩
  |(show ci.length≤4611686018427387904
    omega)
  |(have hi:=QkA ci (data%256)
    show 0≤Qgp ci (data%256)∧Qgp ci (data%256)<(ci.length:Int)
    omega)
  |(show 0≤at_∧at_<((QP (cn,ci,cr,cq,cm) op).length:Int)
    omega)
  |(rename_i hreg
    have hreg:0≤((QP (cn,ci,cr,cq,cm) op).getD at_.toNat Qay).2.2.1∧((QP (cn,ci,cr,cq,cm) op).getD at_.toNat Qay).2.2.1≤6:=hreg;have h9:((QP (cn,ci,cr,cq,cm) op).getD at_.toNat Qay).2.2.1.toNat<9:=by omega
    exact h9)
  |(rename_i hreg
    have hreg:((QP (cn,ci,cr,cq,cm) op).getD at_.toNat Qay).2.2.1=7∨((QP (cn,ci,cr,cq,cm) op).getD at_.toNat Qay).2.2.1=8:=hreg;have h9:((QP (cn,ci,cr,cq,cm) op).getD at_.toNat Qay).2.2.1.toNat<9:=by omega
    exact h9)
  |(rename_i hreg
    clear hT hP;have hreg:0≤((QP (cn,ci,cr,cq,cm) op).getD at_.toNat Qay).2.2.1∧((QP (cn,ci,cr,cq,cm) op).getD at_.toNat Qay).2.2.1≤6:=hreg
    exact(⟨hreg.1,by omega⟩:0≤((QP (cn,ci,cr,cq,cm) op).getD at_.toNat Qay).2.2.1∧((QP (cn,ci,cr,cq,cm) op).getD at_.toNat Qay).2.2.1<(9:Int)))
  |(rename_i hreg
    clear hT hP;have hreg:((QP (cn,ci,cr,cq,cm) op).getD at_.toNat Qay).2.2.1=7∨((QP (cn,ci,cr,cq,cm) op).getD at_.toNat Qay).2.2.1=8:=hreg
    exact(⟨by omega,by omega⟩:0≤((QP (cn,ci,cr,cq,cm) op).getD at_.toNat Qay).2.2.1∧((QP (cn,ci,cr,cq,cm) op).getD at_.toNat Qay).2.2.1<(9:Int)))
  |(show((QP (cn,ci,cr,cq,cm) op).getD at_.toNat Qay).2.2.1.toNat<9
    try simp only[QO,Q5,decide_eq_true_eq] at *
    omega)
  |(rename_i hop hlt
    have hh:QyV (cn,ci,cr,cq,cm) (data%256)=false:=decide_eq_false (by show¬0≤Qgp ci (data%256);omega);refine .k [] [] _ rfl (QpA ?_)
    rw[Qes hop,if_neg (by rw[hh];decide)])
  |(rename_i hop hge hlen
    have hlen:((ci.getD (Qgp ci (data%256)).toNat (dflt QaA)).2.2.2.length:Int)>0:=hlen;have hh:QyV (cn,ci,cr,cq,cm) (data%256)=true:=decide_eq_true (by show 0≤Qgp ci (data%256);omega);have hf:QiO (cn,ci,cr,cq,cm) (data%256)=ci.getD (Qgp ci (data%256)).toNat (dflt QaA):=if_pos hh;refine .k [] [] _ rfl (QpA ?_)
    rw[Qes hop,if_pos hh,hf,if_pos (by omega)])
  |(rename_i hop hge hlen
    have hlen:¬((ci.getD (Qgp ci (data%256)).toNat (dflt QaA)).2.2.2.length:Int)>0:=hlen;have hh:QyV (cn,ci,cr,cq,cm) (data%256)=true:=decide_eq_true (by show 0≤Qgp ci (data%256);omega);have hf:QiO (cn,ci,cr,cq,cm) (data%256)=ci.getD (Qgp ci (data%256)).toNat (dflt QaA):=if_pos hh;refine .k [] [] _ rfl (QpA ?_)
    rw[Qes hop,if_pos hh,hf,if_neg (by omega),hop])
  |(have hb:Qfc (cn,ci,cr,cq,cm) op at_=false:=QGe (by omega)
    refine .k [] [] _ rfl (QpA ?_);rw[Qie (by assumption) hb]
    simp_all
    done)
  |skip
 all_goals
  have hb:Qfc (cn,ci,cr,cq,cm) op at_=true:=QGd (by assumption) (by omega) (by omega);have hCl:(QP (cn,ci,cr,cq,cm) op).length*48≤140737488351232:=hC.1;have ewa:i64.wrap (at_+1)=at_+1:=w64 (by omega) (by omega);have hx:doF (cn,ci,cr,cq,cm) op at_=((QP (cn,ci,cr,cq,cm) op).getD at_.toNat Qay):=if_pos hb;rw[hx] at hS
 all_goals first
  |(have hbus:((QP (cn,ci,cr,cq,cm) op).getD at_.toNat Qay).1=1:=by assumption
    have hreg:0≤((QP (cn,ci,cr,cq,cm) op).getD at_.toNat Qay).2.2.1∧((QP (cn,ci,cr,cq,cm) op).getD at_.toNat Qay).2.2.1≤6:=by assumption
    have hR:QbJ ((QP (cn,ci,cr,cq,cm) op).getD at_.toNat Qay) (QE r) (data%256)=((QE r).set ((QP (cn,ci,cr,cq,cm) op).getD at_.toNat Qay).2.2.1.toNat (data%256)):=if_pos ⟨hbus,by omega,by omega⟩
    refine QH hT hP ((QP (cn,ci,cr,cq,cm) op).getD at_.toNat Qay).2.2.2.length (fun i (z:List Int)=>St.mk (E3 (E1 ((.cell (.ptr 0 0))::E1 ((.cell (.ptr 1 0))::(.cell (.fn 144 [0]))::E1 ((.cell (.ro Qs (QP (cn,ci,cr,cq,cm) op)))::E40 (E40 (E3 ((.cell (.ro Qv ((QP (cn,ci,cr,cq,cm) op).getD at_.toNat Qay).2.2.2))::(I (((QP (cn,ci,cr,cq,cm) op).getD at_.toNat Qay).2.2.2.length:Int))::(I i)::E20 (E3 []))))))))) [some (.var [.run .i64 9 z,iv .i64 op,iv .i64 (i64.wrap (at_+1)),bv nmi]),some (.var [.run .i64 9 [0,0,0,0,0,0,0,0,0],iv .i64 0,iv .i64 0,bv false])]) (fun j z=>QeO (((QP (cn,ci,cr,cq,cm) op).getD at_.toNat Qay).2.2.2.drop j) z=QeO ((QP (cn,ci,cr,cq,cm) op).getD at_.toNat Qay).2.2.2 (QbJ ((QP (cn,ci,cr,cq,cm) op).getD at_.toNat Qay) (QE r) (data%256))∧z.length=9) ((QE r).set ((QP (cn,ci,cr,cq,cm) op).getD at_.toNat Qay).2.2.1.toNat (data%256)) (Le.mk [] [1,3] R R (by exact rfl) (by repeat' constructor)) ⟨by rw[hR];rfl,by rw[List.length_set];rfl⟩ fun j z hj hi=>?_)
  |(have hbus:((QP (cn,ci,cr,cq,cm) op).getD at_.toNat Qay).1=1:=by assumption
    have hreg:((QP (cn,ci,cr,cq,cm) op).getD at_.toNat Qay).2.2.1=7∨((QP (cn,ci,cr,cq,cm) op).getD at_.toNat Qay).2.2.1=8:=by assumption
    have hR:QbJ ((QP (cn,ci,cr,cq,cm) op).getD at_.toNat Qay) (QE r) (data%256)=((QE r).set ((QP (cn,ci,cr,cq,cm) op).getD at_.toNat Qay).2.2.1.toNat (data%256)):=if_pos ⟨hbus,by omega,by omega⟩
    refine QH hT hP ((QP (cn,ci,cr,cq,cm) op).getD at_.toNat Qay).2.2.2.length (fun i (z:List Int)=>St.mk (E3 (E1 ((.cell (.ptr 0 0))::E1 ((.cell (.ptr 1 0))::(.cell (.fn 144 [0]))::E1 ((.cell (.ro Qs (QP (cn,ci,cr,cq,cm) op)))::E40 (E40 (E3 ((.cell (.ro Qv ((QP (cn,ci,cr,cq,cm) op).getD at_.toNat Qay).2.2.2))::(I (((QP (cn,ci,cr,cq,cm) op).getD at_.toNat Qay).2.2.2.length:Int))::(I i)::E20 (E3 []))))))))) [some (.var [.run .i64 9 z,iv .i64 op,iv .i64 (i64.wrap (at_+1)),bv nmi]),some (.var [.run .i64 9 [0,0,0,0,0,0,0,0,0],iv .i64 0,iv .i64 0,bv false])]) (fun j z=>QeO (((QP (cn,ci,cr,cq,cm) op).getD at_.toNat Qay).2.2.2.drop j) z=QeO ((QP (cn,ci,cr,cq,cm) op).getD at_.toNat Qay).2.2.2 (QbJ ((QP (cn,ci,cr,cq,cm) op).getD at_.toNat Qay) (QE r) (data%256))∧z.length=9) ((QE r).set ((QP (cn,ci,cr,cq,cm) op).getD at_.toNat Qay).2.2.1.toNat (data%256)) (Le.mk [] [1,3] R R (by exact rfl) (by repeat' constructor)) ⟨by rw[hR];rfl,by rw[List.length_set];rfl⟩ fun j z hj hi=>?_)
  |(have hreg:¬(0≤((QP (cn,ci,cr,cq,cm) op).getD at_.toNat Qay).2.2.1∧((QP (cn,ci,cr,cq,cm) op).getD at_.toNat Qay).2.2.1≤6):=by assumption
    have hreg2:¬(((QP (cn,ci,cr,cq,cm) op).getD at_.toNat Qay).2.2.1=7∨((QP (cn,ci,cr,cq,cm) op).getD at_.toNat Qay).2.2.1=8):=by assumption
    have hR:QbJ ((QP (cn,ci,cr,cq,cm) op).getD at_.toNat Qay) (QE r) (data%256)=QE r:=if_neg (fun h=>by obtain⟨a,b,c⟩:=h;omega)
    refine QH hT hP ((QP (cn,ci,cr,cq,cm) op).getD at_.toNat Qay).2.2.2.length (fun i (z:List Int)=>St.mk (E3 (E1 ((.cell (.ptr 0 0))::E1 ((.cell (.ptr 1 0))::(.cell (.fn 144 [0]))::E1 ((.cell (.ro Qs (QP (cn,ci,cr,cq,cm) op)))::E40 (E40 (E3 ((.cell (.ro Qv ((QP (cn,ci,cr,cq,cm) op).getD at_.toNat Qay).2.2.2))::(I (((QP (cn,ci,cr,cq,cm) op).getD at_.toNat Qay).2.2.2.length:Int))::(I i)::E20 (E3 []))))))))) [some (.var [.run .i64 9 z,iv .i64 op,iv .i64 (i64.wrap (at_+1)),bv nmi]),some (.var [.run .i64 9 [0,0,0,0,0,0,0,0,0],iv .i64 0,iv .i64 0,bv false])]) (fun j z=>QeO (((QP (cn,ci,cr,cq,cm) op).getD at_.toNat Qay).2.2.2.drop j) z=QeO ((QP (cn,ci,cr,cq,cm) op).getD at_.toNat Qay).2.2.2 (QbJ ((QP (cn,ci,cr,cq,cm) op).getD at_.toNat Qay) (QE r) (data%256))∧z.length=9) (QE r) (Le.mk [] [1,3] R R (by exact rfl) (by repeat' constructor)) ⟨by rw[hR];rfl,rfl⟩ fun j z hj hi=>?_)
  |(have hbus:¬((QP (cn,ci,cr,cq,cm) op).getD at_.toNat Qay).1=1:=by assumption
    have hR:QbJ ((QP (cn,ci,cr,cq,cm) op).getD at_.toNat Qay) (QE r) (data%256)=QE r:=if_neg (fun h=>hbus h.1)
    refine QH hT hP ((QP (cn,ci,cr,cq,cm) op).getD at_.toNat Qay).2.2.2.length (fun i (z:List Int)=>St.mk (E3 (E1 ((.cell (.ptr 0 0))::E1 ((.cell (.ptr 1 0))::(.cell (.fn 144 [0]))::E1 ((.cell (.ro Qs (QP (cn,ci,cr,cq,cm) op)))::E40 (E40 (E3 ((.cell (.ro Qv ((QP (cn,ci,cr,cq,cm) op).getD at_.toNat Qay).2.2.2))::(I (((QP (cn,ci,cr,cq,cm) op).getD at_.toNat Qay).2.2.2.length:Int))::(I i)::E20 (E3 []))))))))) [some (.var [.run .i64 9 z,iv .i64 op,iv .i64 (i64.wrap (at_+1)),bv nmi]),some (.var [.run .i64 9 [0,0,0,0,0,0,0,0,0],iv .i64 0,iv .i64 0,bv false])]) (fun j z=>QeO (((QP (cn,ci,cr,cq,cm) op).getD at_.toNat Qay).2.2.2.drop j) z=QeO ((QP (cn,ci,cr,cq,cm) op).getD at_.toNat Qay).2.2.2 (QbJ ((QP (cn,ci,cr,cq,cm) op).getD at_.toNat Qay) (QE r) (data%256))∧z.length=9) (QE r) (Le.mk [] [1,3] R R (by exact rfl) (by repeat' constructor)) ⟨by rw[hR];rfl,rfl⟩ fun j z hj hi=>?_)
  |skip
 all_goals
  obtain⟨hi,hz⟩:=hi;have hS':((QP (cn,ci,cr,cq,cm) op).getD at_.toNat Qay).2.2.2.length*32≤140737488351232:=hS
  repeat' first|(apply Ea;conv=>whnf)|apply Eb|apply Ec<;>intro _|apply Ed<;>intro _|apply Ee<;>intro _|apply Ef hT hP
 all_goals(try simp only[Qf] at *)
 all_goals(try dsimp only at *)
 all_goals first
  |exact of_decide_eq_true rfl
  |exact hz
  |(show ci.length≤4611686018427387904
    omega)
  |(show 0≤(j:Int)∧(j:Int)<(((QP (cn,ci,cr,cq,cm) op).getD at_.toNat Qay).2.2.2.length:Int)
    omega)
  |(show j<((QP (cn,ci,cr,cq,cm) op).getD at_.toNat Qay).2.2.2.length
    omega)
  |skip
 all_goals clear hT hP
 all_goals first
  |(rename_i g1 h
    have g1:(j:Int)<(((QP (cn,ci,cr,cq,cm) op).getD at_.toNat Qay).2.2.2.length:Int):=g1;have he:doE (((QP (cn,ci,cr,cq,cm) op).getD at_.toNat Qay).2.2.2.getD j (dflt Qv)) z=true:=h
    have hrun:QeO ((QP (cn,ci,cr,cq,cm) op).getD at_.toNat Qay).2.2.2 (QbJ ((QP (cn,ci,cr,cq,cm) op).getD at_.toNat Qay) (QE r) (data%256))=(doR (((QP (cn,ci,cr,cq,cm) op).getD at_.toNat Qay).2.2.2.getD j (dflt Qv)) z,true):=by
     rw[←hi,QkC (by omega),QeO,if_pos he]
    refine .k [] [] _ rfl (QpA ?_)
    rw[Qdd (by assumption) hb hx hrun,if_pos (.inl rfl)];rfl)
  |(rename_i g1 h
    have g1:(j:Int)<(((QP (cn,ci,cr,cq,cm) op).getD at_.toNat Qay).2.2.2.length:Int):=g1
    have he:¬doE (((QP (cn,ci,cr,cq,cm) op).getD at_.toNat Qay).2.2.2.getD j (dflt Qv)) z=true:=fun e=>by
     have h:doE (((QP (cn,ci,cr,cq,cm) op).getD at_.toNat Qay).2.2.2.getD j (dflt Qv)) z=false:=h;rw[h] at e;cases e
    apply Exists.intro;apply Exists.intro (doR (((QP (cn,ci,cr,cq,cm) op).getD at_.toNat Qay).2.2.2.getD j (dflt Qv)) z);refine And.intro (And.intro ?lt (And.intro ?ei ?inv)) (Le.k [] [0,1] ?hh)
    case hh=>repeat' constructor
    case lt=>omega
    case ei=>exact QL (by omega)
    case inv =>
     rw[QkC (by omega),QeO,if_neg he] at hi
     exact⟨hi,QkB _ _⟩)
  |(rename_i g1 h
    have g1:¬(j:Int)<(((QP (cn,ci,cr,cq,cm) op).getD at_.toNat Qay).2.2.2.length:Int):=g1;have h:i64.wrap (at_+1)=((QP (cn,ci,cr,cq,cm) op).length:Int):=h;rw[ewa] at h
    have hrun:QeO ((QP (cn,ci,cr,cq,cm) op).getD at_.toNat Qay).2.2.2 (QbJ ((QP (cn,ci,cr,cq,cm) op).getD at_.toNat Qay) (QE r) (data%256))=(z,false):=by
     rw[←hi,List.drop_of_length_le (by omega)];rfl
    refine .k [] [] _ rfl (QpA ?_)
    rw[Qdd (by assumption) hb hx hrun,if_pos (.inr (by omega))])
  |(rename_i g1 h
    have g1:¬(j:Int)<(((QP (cn,ci,cr,cq,cm) op).getD at_.toNat Qay).2.2.2.length:Int):=g1;have h:¬i64.wrap (at_+1)=((QP (cn,ci,cr,cq,cm) op).length:Int):=h;rw[ewa] at h
    have hrun:QeO ((QP (cn,ci,cr,cq,cm) op).getD at_.toNat Qay).2.2.2 (QbJ ((QP (cn,ci,cr,cq,cm) op).getD at_.toNat Qay) (QE r) (data%256))=(z,false):=by
     rw[←hi,List.drop_of_length_le (by omega)];rfl
    refine .k [] [] _ rfl (QpA ?_)
    rw[Qdd (by assumption) hb hx hrun,ewa,if_neg (fun e=>e.elim (fun e=>by cases e) (fun e=>by omega))])
  |skip
 all_goals trace_state
abbrev QHg:=List (Den (.int .i64)×Den (.int .i64))
structure mrX where
 s:Int
 M:QHg
 a:Int
structure mwX where
 s:Int
 M:QHg
 a:Int
 d:Int
structure wcX where
 c:Cpu
 k:Kor
 i:Bool
 s:Int
 M:QHg
theorem QnM{c:Cpu}{k:Kor}(h:Qa0 c k):QJ3 c k:=⟨by have:=h.1.1;omega,h.2.2⟩
theorem QDj(a:Int)(r:List Int):(plR a r).length=r.length:=by
 unfold plR
 repeat' split
 all_goals simp
theorem Qy5(c:Cpu)(k:Kor)(i:Bool):(Qk c k i).1.1.length=9:=by
 have h9:(QE k.1).length=9:=rfl;have hs:=Qer c (QE k.1,k.2) i
 have h1:(if k.2.1=-1 then Qbh c (QE k.1,k.2) i else (QE k.1,k.2)).1=QE k.1:=by
  split
  ·exact hs
  ·rfl
 unfold Qk;dsimp only;generalize(if k.2.1=-1 then Qbh c (QE k.1,k.2) i else (QE k.1,k.2))=k1 at *
 repeat' split
 all_goals first
  |(show(plR _ k1.1).length=9
    rw[QDj,h1];rfl)
  |(rw[h1];rfl)
theorem Qp4:∀(l:List Stp) (r:List Int),r.length=9→(QeO l r).1.length=9
 | [],r,h=>h
 |s::l,r,h=>by
  unfold QeO;split
  ·exact QkB _ _
  ·exact Qp4 l _ (QkB _ _)
theorem Qih(c:Cpu)(k:Kor)(d:Int):(QI c k d).1.length=9:=by
 have h9:(QE k.1).length=9:=rfl
 have h8:∀x D,(QbJ x (QE k.1) D).length=9:=fun x D=>by
  unfold QbJ;split
  ·rw[List.length_set];rfl
  ·rfl
 unfold QI
 repeat' split
 all_goals first
  |rfl
  |exact Qp4 _ _ (h8 _ _)
theorem Qii{c:Cpu}{k:Kor}(h:Qa0 c k)(i:Bool):Qa0 c (Qk c k i).1:=by
 refine⟨h.1,h.2.1,?_⟩;exact Qy5 c k i
abbrev QL0:Ty:=.pair (.int .i64) (.pair (.int .i64) (.int .i64))
structure wrX where
 c:Cpu
 k:Kor
 s:Int
 M:QHg
def QeH(r:Int):Bool:=bif decide (r≥0) then decide (r<9) else false
def QGf:PSpec:=⟨[gi],fun(r,_)=>(none,.cell (bv (QeH r)),[])⟩
theorem QnO:G0 261 QGf.spec:=by
 have hP:S0 _:=(Qb (T:=tree))
 have hT:=tabs hP Qc;refine QGf.gd hT hP Tryz.func261 fun(r:Int) _=>?_
 repeat' first|(apply Ea;conv=>whnf)|apply Eb|apply Ec<;>intro _|apply Ed<;>intro _|apply Ee<;>intro _|apply Ef hT hP
 all_goals(refine .k [] [] _ rfl (Qi ?_))
 all_goals(unfold QeH;simp_all)
 all_goals omega
def Qev(d:Int):Int×Int×Bool :=
 if d=1 then (115,115,false) else if d=2 then (97,0,true) else if d=3∨d=12∨d=13∨d=14∨d=15 then (98,0,false) else if d=4∨d=5∨d=6∨d=7∨d=8∨d=9 then (98,98,false)
 else if d=10∨d=11 then (97,0,false) else if d=16∨d=17 then (0,0,true) else if d=18∨d=19∨d=22∨d=23 then (119,98,false) else if d=20∨d=21 then (98,119,false) else (0,0,false)
def QAY:PSpec:=⟨[gi],fun(d,_)=>(none,.tup [.c (.imm (.int .u8 (Qev d).1)),.c (.imm (.int .u8 (Qev d).2.1)),.c (bv (Qev d).2.2)],[])⟩
theorem QJa{x y:Int×Int×Bool}(h:x=y):AV.tup [.c (.imm (.int .u8 x.1)),.c (.imm (.int .u8 x.2.1)),.c (bv x.2.2)]=AV.tup [.c (.imm (.int .u8 y.1)),.c (.imm (.int .u8 y.2.1)),.c (bv y.2.2)]:=by rw[h]
theorem Qze:G0 270 QAY.spec:=by
 have hP:S0 _:=(Qb (T:=tree))
 have hT:=tabs hP Qc;refine QAY.gd hT hP Tryz.func270 fun(d:Int) _=>?_
 repeat' first|(apply Ea;conv=>whnf)|apply Eb|apply Ec<;>intro _|apply Ed<;>intro _|apply Ee<;>intro _|apply Ef hT hP
 all_goals clear hT hP
 all_goals first
  |(rename_i g
    have g:d=_:=g;subst g
    exact .k [] [] _ R R)
  |skip
 refine .k [] [] _ rfl (QJa (x:=(0,0,false)) ?_);unfold Qev
 simp_all
def Qff(r n:Int):Bool:=if n=0 then decide (r=0) else if n=119 then (bif QeH r then Q5 r else false) else if n=98 then (bif QeH r then !Q5 r else false) else QeH r
def QAZ:PSpec:=⟨[gi,⟨false,.int .u8⟩],fun(r,n,_)=>(none,.cell (bv (Qff r n)),[])⟩
theorem Qzf:G0 271 QAZ.spec:=by
 have hP:S0 _:=Qa QnO (Qa QfH (Qb (T:=tree)));have hT:=tabs hP Qc;refine QAZ.gd hT hP Tryz.func271 fun(r n:Int) _=>?_
 repeat' first|(apply Ea;conv=>whnf)|apply Eb|apply Ec<;>intro _|apply Ed<;>intro _|apply Ee<;>intro _|apply Ef hT hP
 all_goals clear hT hP
 all_goals(refine .k [] [] _ rfl (Qi ?_))
 all_goals(show _=Qff r n;unfold Qff;simp_all)
 all_goals rfl
def QbL(s:Stp):Int:=if (Qev s.1).2.2=false then 0 else if s.1=2∧(QeH s.2.1=true∧Q5 s.2.1=true) then 65535 else 255
def Q1(s:Stp):Int :=
 if s.1<0∨s.1≥25 then 8 else
 if s.1=24 then (if s.2.1≠0∨s.2.2.1<0∨s.2.2.1>1∨s.2.2.2<0∨s.2.2.2>255 then 1 else 0) else
 if Qff s.2.1 (Qev s.1).1=false∨Qff s.2.2.1 (Qev s.1).2.1=false∨((Qev s.1).1=115∧Q5 s.2.1≠Q5 s.2.2.1)∨s.2.2.2<0∨s.2.2.2>QbL s then 1 else 0
abbrev Qzg:Sig:=⟨true,Qv⟩
def QvD:PSpec:=⟨[Qzg],fun(s,_)=>(none,I (Q1 s),[])⟩
theorem Qzh:G0 262 QvD.spec:=by
 have hP:S0 _:=Qa QnO (Qa QfH (Qa Qze (Qa Qzf (Qb (T:=tree)))));have hT:=tabs hP Qc;refine QvD.gd hT hP Tryz.func262 fun(s:Stp) _=>?_
 obtain⟨sd,st,sf,sn⟩:=s
 repeat' first|(apply Ea;conv=>whnf)|apply Eb|apply Ec<;>intro _|apply Ed<;>intro _|apply Ee<;>intro _|apply Ef hT hP
 all_goals clear hT hP
 all_goals(refine .k [] [] _ rfl (Qd ?_))
 all_goals(show _=Q1 (sd,st,sf,sn);unfold Q1 QbL Q5)
 all_goals(simp_all)
 all_goals(try omega)
 all_goals first
  |(exfalso
    have h2:(Qev 2).1=115:=by assumption
    exact absurd h2 (by decide))
  |(simp_all [Q5];done)
  |(simp_all [Q5];omega)
theorem QJb{k:Int}(h:k<0∨k>24)(g:¬k<0)(g2:¬k>24):False:=by omega
def QF(d:Int):PSpec:=⟨[Qzg],fun(s,_)=>(some (s.1=d),I (Q1 s),[])⟩
def QvE:PSpec:=⟨[Qzg],fun(s,_)=>(some (s.1<0∨s.1>24),I (Q1 s),[])⟩
theorem QvF:G0 199 (QF 0).spec:=by
 have hP:S0 _:=Qa Qp (Qa QD (Qb (T:=tree)));have hT:=tabs hP Qc;refine(QF 0).gd hT hP Tryz.func199 fun(s:Stp) hq=>?_
 obtain⟨sd,st,sf,sn⟩:=s;have hd:sd=0:=hq _ rfl;clear hq;subst hd
 repeat' first|(apply Ea;conv=>whnf)|apply Eb|apply Ec<;>intro _|apply Ed<;>intro _|apply Ee<;>intro _|apply Ef hT hP
 all_goals clear hT hP
 all_goals(refine .k [] [] _ rfl (Qd ?_))
 all_goals(show _=Q1 (0,st,sf,sn))
 all_goals(simp[Q1,QbL,Qev,Qff,QeH,Q5,QO] at *)
 all_goals first
  |omega
  |(simp_all;done)
  |(simp_all;omega)
  |(refine⟨by omega,by omega,?_,by omega,by omega⟩;rw[Bool.eq_iff_iff];simp;omega)
  |skip
theorem QvG:G0 199 (QF 1).spec:=by
 have hP:S0 _:=Qa Qp (Qa QD (Qb (T:=tree)));have hT:=tabs hP Qc;refine(QF 1).gd hT hP Tryz.func199 fun(s:Stp) hq=>?_
 obtain⟨sd,st,sf,sn⟩:=s;have hd:sd=1:=hq _ rfl;clear hq;subst hd
 repeat' first|(apply Ea;conv=>whnf)|apply Eb|apply Ec<;>intro _|apply Ed<;>intro _|apply Ee<;>intro _|apply Ef hT hP
 all_goals clear hT hP
 all_goals(refine .k [] [] _ rfl (Qd ?_))
 all_goals(show _=Q1 (1,st,sf,sn))
 all_goals(simp[Q1,QbL,Qev,Qff,QeH,Q5,QO] at *)
 all_goals first
  |omega
  |(simp_all;done)
  |(simp_all;omega)
  |(refine⟨by omega,by omega,?_,by omega,by omega⟩;rw[Bool.eq_iff_iff];simp;omega)
  |skip
theorem QvH:G0 199 (QF 2).spec:=by
 have hP:S0 _:=Qa Qp (Qa QD (Qb (T:=tree)));have hT:=tabs hP Qc;refine(QF 2).gd hT hP Tryz.func199 fun(s:Stp) hq=>?_
 obtain⟨sd,st,sf,sn⟩:=s;have hd:sd=2:=hq _ rfl;clear hq;subst hd
 repeat' first|(apply Ea;conv=>whnf)|apply Eb|apply Ec<;>intro _|apply Ed<;>intro _|apply Ee<;>intro _|apply Ef hT hP
 all_goals clear hT hP
 all_goals(refine .k [] [] _ rfl (Qd ?_))
 all_goals(show _=Q1 (2,st,sf,sn))
 all_goals(simp[Q1,QbL,Qev,Qff,QeH,Q5,QO] at *)
 all_goals first
  |omega
  |(simp_all;done)
  |(simp_all;omega)
  |(refine⟨by omega,by omega,?_,by omega,by omega⟩;rw[Bool.eq_iff_iff];simp;omega)
  |skip
theorem QvI:G0 199 (QF 3).spec:=by
 have hP:S0 _:=Qa Qp (Qa QD (Qb (T:=tree)));have hT:=tabs hP Qc;refine(QF 3).gd hT hP Tryz.func199 fun(s:Stp) hq=>?_
 obtain⟨sd,st,sf,sn⟩:=s;have hd:sd=3:=hq _ rfl;clear hq;subst hd
 repeat' first|(apply Ea;conv=>whnf)|apply Eb|apply Ec<;>intro _|apply Ed<;>intro _|apply Ee<;>intro _|apply Ef hT hP
 all_goals clear hT hP
 all_goals(refine .k [] [] _ rfl (Qd ?_))
 all_goals(show _=Q1 (3,st,sf,sn))
 all_goals(simp[Q1,QbL,Qev,Qff,QeH,Q5,QO] at *)
 all_goals first
  |omega
  |(simp_all;done)
  |(simp_all;omega)
  |(refine⟨by omega,by omega,?_,by omega,by omega⟩;rw[Bool.eq_iff_iff];simp;omega)
  |skip
theorem QvJ:G0 199 (QF 4).spec:=by
 have hP:S0 _:=Qa Qp (Qa QD (Qb (T:=tree)));have hT:=tabs hP Qc;refine(QF 4).gd hT hP Tryz.func199 fun(s:Stp) hq=>?_
 obtain⟨sd,st,sf,sn⟩:=s;have hd:sd=4:=hq _ rfl;clear hq;subst hd
 repeat' first|(apply Ea;conv=>whnf)|apply Eb|apply Ec<;>intro _|apply Ed<;>intro _|apply Ee<;>intro _|apply Ef hT hP
 all_goals clear hT hP
 all_goals(refine .k [] [] _ rfl (Qd ?_))
 all_goals(show _=Q1 (4,st,sf,sn))
 all_goals(simp[Q1,QbL,Qev,Qff,QeH,Q5,QO] at *)
 all_goals first
  |omega
  |(simp_all;done)
  |(simp_all;omega)
  |(refine⟨by omega,by omega,?_,by omega,by omega⟩;rw[Bool.eq_iff_iff];simp;omega)
  |skip
theorem QvK:G0 199 (QF 5).spec:=by
 have hP:S0 _:=Qa Qp (Qa QD (Qb (T:=tree)));have hT:=tabs hP Qc;refine(QF 5).gd hT hP Tryz.func199 fun(s:Stp) hq=>?_
 obtain⟨sd,st,sf,sn⟩:=s;have hd:sd=5:=hq _ rfl;clear hq;subst hd
 repeat' first|(apply Ea;conv=>whnf)|apply Eb|apply Ec<;>intro _|apply Ed<;>intro _|apply Ee<;>intro _|apply Ef hT hP
 all_goals clear hT hP
 all_goals(refine .k [] [] _ rfl (Qd ?_))
 all_goals(show _=Q1 (5,st,sf,sn))
 all_goals(simp[Q1,QbL,Qev,Qff,QeH,Q5,QO] at *)
 all_goals first
  |omega
  |(simp_all;done)
  |(simp_all;omega)
  |(refine⟨by omega,by omega,?_,by omega,by omega⟩;rw[Bool.eq_iff_iff];simp;omega)
  |skip
theorem QvL:G0 199 (QF 6).spec:=by
 have hP:S0 _:=Qa Qp (Qa QD (Qb (T:=tree)));have hT:=tabs hP Qc;refine(QF 6).gd hT hP Tryz.func199 fun(s:Stp) hq=>?_
 obtain⟨sd,st,sf,sn⟩:=s;have hd:sd=6:=hq _ rfl;clear hq;subst hd
 repeat' first|(apply Ea;conv=>whnf)|apply Eb|apply Ec<;>intro _|apply Ed<;>intro _|apply Ee<;>intro _|apply Ef hT hP
 all_goals clear hT hP
 all_goals(refine .k [] [] _ rfl (Qd ?_))
 all_goals(show _=Q1 (6,st,sf,sn))
 all_goals(simp[Q1,QbL,Qev,Qff,QeH,Q5,QO] at *)
 all_goals first
  |omega
  |(simp_all;done)
  |(simp_all;omega)
  |(refine⟨by omega,by omega,?_,by omega,by omega⟩;rw[Bool.eq_iff_iff];simp;omega)
  |skip
theorem QvM:G0 199 (QF 7).spec:=by
 have hP:S0 _:=Qa Qp (Qa QD (Qb (T:=tree)));have hT:=tabs hP Qc;refine(QF 7).gd hT hP Tryz.func199 fun(s:Stp) hq=>?_
 obtain⟨sd,st,sf,sn⟩:=s;have hd:sd=7:=hq _ rfl;clear hq;subst hd
 repeat' first|(apply Ea;conv=>whnf)|apply Eb|apply Ec<;>intro _|apply Ed<;>intro _|apply Ee<;>intro _|apply Ef hT hP
 all_goals clear hT hP
 all_goals(refine .k [] [] _ rfl (Qd ?_))
 all_goals(show _=Q1 (7,st,sf,sn))
 all_goals(simp[Q1,QbL,Qev,Qff,QeH,Q5,QO] at *)
 all_goals first
  |omega
  |(simp_all;done)
  |(simp_all;omega)
  |(refine⟨by omega,by omega,?_,by omega,by omega⟩;rw[Bool.eq_iff_iff];simp;omega)
  |skip
theorem QvN:G0 199 (QF 8).spec:=by
 have hP:S0 _:=Qa Qp (Qa QD (Qb (T:=tree)));have hT:=tabs hP Qc;refine(QF 8).gd hT hP Tryz.func199 fun(s:Stp) hq=>?_
 obtain⟨sd,st,sf,sn⟩:=s;have hd:sd=8:=hq _ rfl;clear hq;subst hd
 repeat' first|(apply Ea;conv=>whnf)|apply Eb|apply Ec<;>intro _|apply Ed<;>intro _|apply Ee<;>intro _|apply Ef hT hP
 all_goals clear hT hP
 all_goals(refine .k [] [] _ rfl (Qd ?_))
 all_goals(show _=Q1 (8,st,sf,sn))
 all_goals(simp[Q1,QbL,Qev,Qff,QeH,Q5,QO] at *)
 all_goals first
  |omega
  |(simp_all;done)
  |(simp_all;omega)
  |(refine⟨by omega,by omega,?_,by omega,by omega⟩;rw[Bool.eq_iff_iff];simp;omega)
  |skip
theorem QvO:G0 199 (QF 9).spec:=by
 have hP:S0 _:=Qa Qp (Qa QD (Qb (T:=tree)));have hT:=tabs hP Qc;refine(QF 9).gd hT hP Tryz.func199 fun(s:Stp) hq=>?_
 obtain⟨sd,st,sf,sn⟩:=s;have hd:sd=9:=hq _ rfl;clear hq;subst hd
 repeat' first|(apply Ea;conv=>whnf)|apply Eb|apply Ec<;>intro _|apply Ed<;>intro _|apply Ee<;>intro _|apply Ef hT hP
 all_goals clear hT hP
 all_goals(refine .k [] [] _ rfl (Qd ?_))
 all_goals(show _=Q1 (9,st,sf,sn))
 all_goals(simp[Q1,QbL,Qev,Qff,QeH,Q5,QO] at *)
 all_goals first
  |omega
  |(simp_all;done)
  |(simp_all;omega)
  |(refine⟨by omega,by omega,?_,by omega,by omega⟩;rw[Bool.eq_iff_iff];simp;omega)
  |skip
theorem QrA:G0 199 (QF 10).spec:=by
 have hP:S0 _:=Qa Qp (Qa QD (Qb (T:=tree)));have hT:=tabs hP Qc;refine(QF 10).gd hT hP Tryz.func199 fun(s:Stp) hq=>?_
 obtain⟨sd,st,sf,sn⟩:=s;have hd:sd=10:=hq _ rfl;clear hq;subst hd
 repeat' first|(apply Ea;conv=>whnf)|apply Eb|apply Ec<;>intro _|apply Ed<;>intro _|apply Ee<;>intro _|apply Ef hT hP
 all_goals clear hT hP
 all_goals(refine .k [] [] _ rfl (Qd ?_))
 all_goals(show _=Q1 (10,st,sf,sn))
 all_goals(simp[Q1,QbL,Qev,Qff,QeH,Q5,QO] at *)
 all_goals first
  |omega
  |(simp_all;done)
  |(simp_all;omega)
  |(refine⟨by omega,by omega,?_,by omega,by omega⟩;rw[Bool.eq_iff_iff];simp;omega)
  |skip
theorem QrB:G0 199 (QF 11).spec:=by
 have hP:S0 _:=Qa Qp (Qa QD (Qb (T:=tree)));have hT:=tabs hP Qc;refine(QF 11).gd hT hP Tryz.func199 fun(s:Stp) hq=>?_
 obtain⟨sd,st,sf,sn⟩:=s;have hd:sd=11:=hq _ rfl;clear hq;subst hd
 repeat' first|(apply Ea;conv=>whnf)|apply Eb|apply Ec<;>intro _|apply Ed<;>intro _|apply Ee<;>intro _|apply Ef hT hP
 all_goals clear hT hP
 all_goals(refine .k [] [] _ rfl (Qd ?_))
 all_goals(show _=Q1 (11,st,sf,sn))
 all_goals(simp[Q1,QbL,Qev,Qff,QeH,Q5,QO] at *)
 all_goals first
  |omega
  |(simp_all;done)
  |(simp_all;omega)
  |(refine⟨by omega,by omega,?_,by omega,by omega⟩;rw[Bool.eq_iff_iff];simp;omega)
  |skip
theorem QrC:G0 199 (QF 12).spec:=by
 have hP:S0 _:=Qa Qp (Qa QD (Qb (T:=tree)));have hT:=tabs hP Qc;refine(QF 12).gd hT hP Tryz.func199 fun(s:Stp) hq=>?_
 obtain⟨sd,st,sf,sn⟩:=s;have hd:sd=12:=hq _ rfl;clear hq;subst hd
 repeat' first|(apply Ea;conv=>whnf)|apply Eb|apply Ec<;>intro _|apply Ed<;>intro _|apply Ee<;>intro _|apply Ef hT hP
 all_goals clear hT hP
 all_goals(refine .k [] [] _ rfl (Qd ?_))
 all_goals(show _=Q1 (12,st,sf,sn))
 all_goals(simp[Q1,QbL,Qev,Qff,QeH,Q5,QO] at *)
 all_goals first
  |omega
  |(simp_all;done)
  |(simp_all;omega)
  |(refine⟨by omega,by omega,?_,by omega,by omega⟩;rw[Bool.eq_iff_iff];simp;omega)
  |skip
theorem QrD:G0 199 (QF 13).spec:=by
 have hP:S0 _:=Qa Qp (Qa QD (Qb (T:=tree)));have hT:=tabs hP Qc;refine(QF 13).gd hT hP Tryz.func199 fun(s:Stp) hq=>?_
 obtain⟨sd,st,sf,sn⟩:=s;have hd:sd=13:=hq _ rfl;clear hq;subst hd
 repeat' first|(apply Ea;conv=>whnf)|apply Eb|apply Ec<;>intro _|apply Ed<;>intro _|apply Ee<;>intro _|apply Ef hT hP
 all_goals clear hT hP
 all_goals(refine .k [] [] _ rfl (Qd ?_))
 all_goals(show _=Q1 (13,st,sf,sn))
 all_goals(simp[Q1,QbL,Qev,Qff,QeH,Q5,QO] at *)
 all_goals first
  |omega
  |(simp_all;done)
  |(simp_all;omega)
  |(refine⟨by omega,by omega,?_,by omega,by omega⟩;rw[Bool.eq_iff_iff];simp;omega)
  |skip
theorem QrE:G0 199 (QF 14).spec:=by
 have hP:S0 _:=Qa Qp (Qa QD (Qb (T:=tree)));have hT:=tabs hP Qc;refine(QF 14).gd hT hP Tryz.func199 fun(s:Stp) hq=>?_
 obtain⟨sd,st,sf,sn⟩:=s;have hd:sd=14:=hq _ rfl;clear hq;subst hd
 repeat' first|(apply Ea;conv=>whnf)|apply Eb|apply Ec<;>intro _|apply Ed<;>intro _|apply Ee<;>intro _|apply Ef hT hP
 all_goals clear hT hP
 all_goals(refine .k [] [] _ rfl (Qd ?_))
 all_goals(show _=Q1 (14,st,sf,sn))
 all_goals(simp[Q1,QbL,Qev,Qff,QeH,Q5,QO] at *)
 all_goals first
  |omega
  |(simp_all;done)
  |(simp_all;omega)
  |(refine⟨by omega,by omega,?_,by omega,by omega⟩;rw[Bool.eq_iff_iff];simp;omega)
  |skip
theorem QrF:G0 199 (QF 15).spec:=by
 have hP:S0 _:=Qa Qp (Qa QD (Qb (T:=tree)));have hT:=tabs hP Qc;refine(QF 15).gd hT hP Tryz.func199 fun(s:Stp) hq=>?_
 obtain⟨sd,st,sf,sn⟩:=s;have hd:sd=15:=hq _ rfl;clear hq;subst hd
 repeat' first|(apply Ea;conv=>whnf)|apply Eb|apply Ec<;>intro _|apply Ed<;>intro _|apply Ee<;>intro _|apply Ef hT hP
 all_goals clear hT hP
 all_goals(refine .k [] [] _ rfl (Qd ?_))
 all_goals(show _=Q1 (15,st,sf,sn))
 all_goals(simp[Q1,QbL,Qev,Qff,QeH,Q5,QO] at *)
 all_goals first
  |omega
  |(simp_all;done)
  |(simp_all;omega)
  |(refine⟨by omega,by omega,?_,by omega,by omega⟩;rw[Bool.eq_iff_iff];simp;omega)
  |skip
theorem QrG:G0 199 (QF 16).spec:=by
 have hP:S0 _:=Qa Qp (Qa QD (Qb (T:=tree)));have hT:=tabs hP Qc;refine(QF 16).gd hT hP Tryz.func199 fun(s:Stp) hq=>?_
 obtain⟨sd,st,sf,sn⟩:=s;have hd:sd=16:=hq _ rfl;clear hq;subst hd
 repeat' first|(apply Ea;conv=>whnf)|apply Eb|apply Ec<;>intro _|apply Ed<;>intro _|apply Ee<;>intro _|apply Ef hT hP
 all_goals clear hT hP
 all_goals(refine .k [] [] _ rfl (Qd ?_))
 all_goals(show _=Q1 (16,st,sf,sn))
 all_goals(simp[Q1,QbL,Qev,Qff,QeH,Q5,QO] at *)
 all_goals first
  |omega
  |(simp_all;done)
  |(simp_all;omega)
  |(refine⟨by omega,by omega,?_,by omega,by omega⟩;rw[Bool.eq_iff_iff];simp;omega)
  |skip
theorem QrH:G0 199 (QF 17).spec:=by
 have hP:S0 _:=Qa Qp (Qa QD (Qb (T:=tree)));have hT:=tabs hP Qc;refine(QF 17).gd hT hP Tryz.func199 fun(s:Stp) hq=>?_
 obtain⟨sd,st,sf,sn⟩:=s;have hd:sd=17:=hq _ rfl;clear hq;subst hd
 repeat' first|(apply Ea;conv=>whnf)|apply Eb|apply Ec<;>intro _|apply Ed<;>intro _|apply Ee<;>intro _|apply Ef hT hP
 all_goals clear hT hP
 all_goals(refine .k [] [] _ rfl (Qd ?_))
 all_goals(show _=Q1 (17,st,sf,sn))
 all_goals(simp[Q1,QbL,Qev,Qff,QeH,Q5,QO] at *)
 all_goals first
  |omega
  |(simp_all;done)
  |(simp_all;omega)
  |(refine⟨by omega,by omega,?_,by omega,by omega⟩;rw[Bool.eq_iff_iff];simp;omega)
  |skip
theorem QrI:G0 199 (QF 18).spec:=by
 have hP:S0 _:=Qa Qp (Qa QD (Qb (T:=tree)));have hT:=tabs hP Qc;refine(QF 18).gd hT hP Tryz.func199 fun(s:Stp) hq=>?_
 obtain⟨sd,st,sf,sn⟩:=s;have hd:sd=18:=hq _ rfl;clear hq;subst hd
 repeat' first|(apply Ea;conv=>whnf)|apply Eb|apply Ec<;>intro _|apply Ed<;>intro _|apply Ee<;>intro _|apply Ef hT hP
 all_goals clear hT hP
 all_goals(refine .k [] [] _ rfl (Qd ?_))
 all_goals(show _=Q1 (18,st,sf,sn))
 all_goals(simp[Q1,QbL,Qev,Qff,QeH,Q5,QO] at *)
 all_goals first
  |omega
  |(simp_all;done)
  |(simp_all;omega)
  |(refine⟨by omega,by omega,?_,by omega,by omega⟩;rw[Bool.eq_iff_iff];simp;omega)
  |skip
theorem QrJ:G0 199 (QF 19).spec:=by
 have hP:S0 _:=Qa Qp (Qa QD (Qb (T:=tree)));have hT:=tabs hP Qc;refine(QF 19).gd hT hP Tryz.func199 fun(s:Stp) hq=>?_
 obtain⟨sd,st,sf,sn⟩:=s;have hd:sd=19:=hq _ rfl;clear hq;subst hd
 repeat' first|(apply Ea;conv=>whnf)|apply Eb|apply Ec<;>intro _|apply Ed<;>intro _|apply Ee<;>intro _|apply Ef hT hP
 all_goals clear hT hP
 all_goals(refine .k [] [] _ rfl (Qd ?_))
 all_goals(show _=Q1 (19,st,sf,sn))
 all_goals(simp[Q1,QbL,Qev,Qff,QeH,Q5,QO] at *)
 all_goals first
  |omega
  |(simp_all;done)
  |(simp_all;omega)
  |(refine⟨by omega,by omega,?_,by omega,by omega⟩;rw[Bool.eq_iff_iff];simp;omega)
  |skip
theorem QrK:G0 199 (QF 20).spec:=by
 have hP:S0 _:=Qa Qp (Qa QD (Qb (T:=tree)));have hT:=tabs hP Qc;refine(QF 20).gd hT hP Tryz.func199 fun(s:Stp) hq=>?_
 obtain⟨sd,st,sf,sn⟩:=s;have hd:sd=20:=hq _ rfl;clear hq;subst hd
 repeat' first|(apply Ea;conv=>whnf)|apply Eb|apply Ec<;>intro _|apply Ed<;>intro _|apply Ee<;>intro _|apply Ef hT hP
 all_goals clear hT hP
 all_goals(refine .k [] [] _ rfl (Qd ?_))
 all_goals(show _=Q1 (20,st,sf,sn))
 all_goals(simp[Q1,QbL,Qev,Qff,QeH,Q5,QO] at *)
 all_goals first
  |omega
  |(simp_all;done)
  |(simp_all;omega)
  |(refine⟨by omega,by omega,?_,by omega,by omega⟩;rw[Bool.eq_iff_iff];simp;omega)
  |skip
theorem QrL:G0 199 (QF 21).spec:=by
 have hP:S0 _:=Qa Qp (Qa QD (Qb (T:=tree)));have hT:=tabs hP Qc;refine(QF 21).gd hT hP Tryz.func199 fun(s:Stp) hq=>?_
 obtain⟨sd,st,sf,sn⟩:=s;have hd:sd=21:=hq _ rfl;clear hq;subst hd
 repeat' first|(apply Ea;conv=>whnf)|apply Eb|apply Ec<;>intro _|apply Ed<;>intro _|apply Ee<;>intro _|apply Ef hT hP
 all_goals clear hT hP
 all_goals(refine .k [] [] _ rfl (Qd ?_))
 all_goals(show _=Q1 (21,st,sf,sn))
 all_goals(simp[Q1,QbL,Qev,Qff,QeH,Q5,QO] at *)
 all_goals first
  |omega
  |(simp_all;done)
  |(simp_all;omega)
  |(refine⟨by omega,by omega,?_,by omega,by omega⟩;rw[Bool.eq_iff_iff];simp;omega)
  |skip
theorem QrM:G0 199 (QF 22).spec:=by
 have hP:S0 _:=Qa Qp (Qa QD (Qb (T:=tree)));have hT:=tabs hP Qc;refine(QF 22).gd hT hP Tryz.func199 fun(s:Stp) hq=>?_
 obtain⟨sd,st,sf,sn⟩:=s;have hd:sd=22:=hq _ rfl;clear hq;subst hd
 repeat' first|(apply Ea;conv=>whnf)|apply Eb|apply Ec<;>intro _|apply Ed<;>intro _|apply Ee<;>intro _|apply Ef hT hP
 all_goals clear hT hP
 all_goals(refine .k [] [] _ rfl (Qd ?_))
 all_goals(show _=Q1 (22,st,sf,sn))
 all_goals(simp[Q1,QbL,Qev,Qff,QeH,Q5,QO] at *)
 all_goals first
  |omega
  |(simp_all;done)
  |(simp_all;omega)
  |(refine⟨by omega,by omega,?_,by omega,by omega⟩;rw[Bool.eq_iff_iff];simp;omega)
  |skip
theorem QrN:G0 199 (QF 23).spec:=by
 have hP:S0 _:=Qa Qp (Qa QD (Qb (T:=tree)));have hT:=tabs hP Qc;refine(QF 23).gd hT hP Tryz.func199 fun(s:Stp) hq=>?_
 obtain⟨sd,st,sf,sn⟩:=s;have hd:sd=23:=hq _ rfl;clear hq;subst hd
 repeat' first|(apply Ea;conv=>whnf)|apply Eb|apply Ec<;>intro _|apply Ed<;>intro _|apply Ee<;>intro _|apply Ef hT hP
 all_goals clear hT hP
 all_goals(refine .k [] [] _ rfl (Qd ?_))
 all_goals(show _=Q1 (23,st,sf,sn))
 all_goals(simp[Q1,QbL,Qev,Qff,QeH,Q5,QO] at *)
 all_goals first
  |omega
  |(simp_all;done)
  |(simp_all;omega)
  |(refine⟨by omega,by omega,?_,by omega,by omega⟩;rw[Bool.eq_iff_iff];simp;omega)
  |skip
theorem QrO:G0 199 (QF 24).spec:=by
 have hP:S0 _:=Qa Qp (Qa QD (Qb (T:=tree)));have hT:=tabs hP Qc;refine(QF 24).gd hT hP Tryz.func199 fun(s:Stp) hq=>?_
 obtain⟨sd,st,sf,sn⟩:=s;have hd:sd=24:=hq _ rfl;clear hq;subst hd
 repeat' first|(apply Ea;conv=>whnf)|apply Eb|apply Ec<;>intro _|apply Ed<;>intro _|apply Ee<;>intro _|apply Ef hT hP
 all_goals clear hT hP
 all_goals(refine .k [] [] _ rfl (Qd ?_))
 all_goals(show _=Q1 (24,st,sf,sn))
 all_goals(simp[Q1,QbL,Qev,Qff,QeH,Q5,QO] at *)
 all_goals first
  |omega
  |(simp_all;done)
  |(simp_all;omega)
  |(refine⟨by omega,by omega,?_,by omega,by omega⟩;rw[Bool.eq_iff_iff];simp;omega)
  |skip
theorem Qmq:G0 199 QvE.spec:=by
 have hP:S0 _:=Qa Qp (Qa QD (Qb (T:=tree)));have hT:=tabs hP Qc;refine QvE.gd hT hP Tryz.func199 fun(s:Stp) hq=>?_
 obtain⟨sd,st,sf,sn⟩:=s;have hx:sd<0∨sd>24:=hq _ rfl;clear hq
 repeat' first|(exfalso;rename_i g h;exact QJb hx g h)|(apply Ea;conv=>whnf)|apply Eb|apply Ec<;>intro _|apply Ed<;>intro _|apply Ee<;>intro _|apply Ef hT hP
 all_goals clear hT hP
 all_goals(refine .k [] [] _ rfl (Qd ?_))
 all_goals(show 8=Q1 (sd,st,sf,sn);unfold Q1)
 all_goals(rw[if_pos];show sd<0∨sd≥25;omega)
end Go.Proofs.YtofgbclopbmlcaaGreat

