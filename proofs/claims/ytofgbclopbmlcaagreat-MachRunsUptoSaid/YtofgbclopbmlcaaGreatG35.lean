/- Part 35 of the proof. Conditions: none. -/
import Derived.Test.YtofgbclopbmlcaaGreatG34
import Derived.Test.YtofgbclopbmlcaaGreatG26
import Derived.Test.YtofgbclopbmlcaaGreatG24
import Derived.Test.YtofgbclopbmlcaaGreatG19
import Derived.Test.YtofgbclopbmlcaaGreatG29
namespace Go.Proofs.YtofgbclopbmlcaaGreat
open Go.Fw
set_option linter.unusedVariables false
set_option linter.unusedSimpArgs false
set_option linter.constructorNameAsVariable false
set_option maxRecDepth 100000
theorem QpR{α:Type}(p:α→Bool):∀(l:List α) (k:Nat),decide (QdH p l k≥0)=l.any p
 | [],k=>rfl
 |x::r,k=>by
  unfold QdH;by_cases h:p x=true
  ·rw[if_pos h,List.any_cons,h,decide_eq_true (by omega)];rfl
  ·rw[if_neg h,List.any_cons,QpR p r (k+1)];have:p x=false:=by simpa using h
   rw[this];rfl
theorem Qia{α:Type}(p:α→Bool)(l:List α):decide (QbP p l≥0)=l.any p:=QpR p l 0
def Qg3:ByteArray:=⟨#[46,105,114,113]⟩
def Qbi:ByteArray:=⟨#[99,112,117,46,105,114,113]⟩
def Qdc(c:Cv)(w:Wr):Bool:=bif Qm w.1 (c.1++Qg3) then Qm w.2 Qbi else false
def Qjl(c:Cv):Prop:=c.1.size<4611686018427387900
structure loX where
 l:List Wr
 d:ByteArray
def QCQ:List V1→List Blk→Option (Wr×Cv):=fun a b=>match a,b with
 | [.agg [.imm (.string wa),.imm (.string wb)],.c (.ptr 0 0)],[.var [.imm (.string cn),.imm (.int .i64 ck),.imm (.int .i64 cb),.imm (.int .i64 cs),.ro (.int .u8) cd]]=>some ((wa,wb),(cn,ck,cb,cs,cd))
 |_,_=>none
theorem QyI{a:List V1}{b:List Blk}{x:Wr×Cv}(h:QCQ a b=some x):a=[.agg [.imm (.string x.1.1),.imm (.string x.1.2)],.c (.ptr 0 0)]∧b=[.var [.imm (.string x.2.1),iv .i64 x.2.2.1,iv .i64 x.2.2.2.1,iv .i64 x.2.2.2.2.1,.ro (.int .u8) x.2.2.2.2.2]]:=by
 unfold QCQ at h;split at h
 ·injection h with h;subst h;exact⟨rfl,rfl⟩
 ·cases h
def QJS:WSpec:=⟨Wr×Cv,fun x=>[.agg [.imm (.string x.1.1),.imm (.string x.1.2)],.c (.ptr 0 0)],fun x=>[.var [.imm (.string x.2.1),iv .i64 x.2.2.1,iv .i64 x.2.2.2.1,iv .i64 x.2.2.2.2.1,.ro (.int .u8) x.2.2.2.2.2]],QCQ,
 fun x=>(some ((Qjl) x.2),.cell (bv (Qdc x.2 x.1)),[some (.var [.imm (.string x.2.1),iv .i64 x.2.2.1,iv .i64 x.2.2.2.1,iv .i64 x.2.2.2.2.1,.ro (.int .u8) x.2.2.2.2.2])],[])⟩
theorem QFI:G0 124 QJS.spec:=by
 have hP:S0 _:=(Qb (T:=tree))
 have hT:=tabs hP Qc;refine QJS.gd hT hP Tryz.func124 (fun _ _ _ h=>QyI h) fun(x:Wr×Cv) hq=>?_
 have hq:(Qjl) x.2:=hq _ rfl
 repeat' first|(apply Ea;conv=>whnf)|apply Eb|apply Ec<;>intro _|apply Ed<;>intro _|apply Ee<;>intro _|apply Ef hT hP
 all_goals clear hT hP
 all_goals first
  |(show x.2.1.size+4<4611686018427387904
    have hq:x.2.1.size<4611686018427387900:=hq
    omega)
  |exact .k [] [0] _ R R
  |(rename_i g
    have g:Qm x.1.1 (x.2.1++Qg3)=true:=g;refine .k [] [0] _ rfl (Qi ?_);show _=bif Qm x.1.1 (x.2.1++Qg3) then Qm x.1.2 Qbi else false
    rw[g];rfl)
  |(rename_i g
    have g:Qm x.1.1 (x.2.1++Qg3)=false:=g;refine .k [] [0] _ rfl (Qi ?_);show _=bif Qm x.1.1 (x.2.1++Qg3) then Qm x.1.2 Qbi else false
    rw[g];rfl)
  |skip
structure heX where
 l:List Wr
 d:Cv
def QHb:List V1→List Blk→Option heX:=fun a b=>match a,b with
 | [.c (.ro (.pair .str .str) l),.c (.fn 124 [0])],[.var [.imm (.string cn),.imm (.int .i64 ck),.imm (.int .i64 cb),.imm (.int .i64 cs),.ro (.int .u8) cd]]=>some ⟨l,(cn,ck,cb,cs,cd)⟩
 |_,_=>none
theorem QuV{a:List V1}{b:List Blk}{x:heX}(h:QHb a b=some x):a=[.c (.ro Qr x.l),.c (.fn 124 [0])]∧b=[.var [.imm (.string x.d.1),iv .i64 x.d.2.1,iv .i64 x.d.2.2.1,iv .i64 x.d.2.2.2.1,.ro (.int .u8) x.d.2.2.2.2]]:=by
 unfold QHb at h;split at h
 ·injection h with h;subst h;exact⟨rfl,rfl⟩
 ·cases h
def QJT:WSpec:=⟨heX,fun x=>[.c (.ro Qr x.l),.c (.fn 124 [0])],fun x=>[.var [.imm (.string x.d.1),iv .i64 x.d.2.1,iv .i64 x.d.2.2.1,iv .i64 x.d.2.2.2.1,.ro (.int .u8) x.d.2.2.2.2]],QHb,
 fun x=>(some (x.l.length≤4611686018427387904∧(Qjl) x.d),I (QbP (Qdc x.d) x.l),[some (.var [.imm (.string x.d.1),iv .i64 x.d.2.1,iv .i64 x.d.2.2.1,iv .i64 x.d.2.2.2.1,.ro (.int .u8) x.d.2.2.2.2])],[])⟩
theorem QFJ:G0 201 QJT.spec:=by
 have hP:S0 _:=Qa QFI (Qb (T:=tree));have hT:=tabs hP Qc;refine QJT.gd hT hP Tryz.func201 (fun _ _ _ h=>QuV h) fun(x:heX) hq=>?_
 obtain⟨hl,hq⟩:x.l.length≤4611686018427387904∧(Qjl) x.d:=hq _ rfl;obtain⟨l,d⟩:=x;have hl:l.length≤4611686018427387904:=hl
 repeat' first|(apply Ea;conv=>whnf)|apply Eb|apply Ec<;>intro _|apply Ed<;>intro _|apply Ee<;>intro _|apply Ef hT hP
 refine QH hT hP (A:=Unit) l.length (fun i _=>St.mk ((.cell (.ro Qr l))::(.cell (.fn 124 [0]))::E5 ((I l.length)::(I i)::E10 [])) [some (.var [.imm (.string d.1),iv .i64 d.2.1,iv .i64 d.2.2.1,iv .i64 d.2.2.2.1,.ro (.int .u8) d.2.2.2.2])])
  (fun k _=>QdH (Qdc d) (l.drop k) k=QbP (Qdc d) l) () (Le.mk [] [0] R R R ?_) rfl fun k _ hk hi=>?_
 ·repeat' constructor
 repeat' first|(apply Ea;conv=>whnf)|apply Eb|apply Ec<;>intro _|apply Ed<;>intro _|apply Ee<;>intro _|apply Ef hT hP
 all_goals clear hT hP
 ·rename_i g1;have g1:(k:Int)<(l.length:Int):=g1;show 0≤(k:Int)∧(k:Int)<(l.length:Int);omega
 ·first|exact hq|exact trivial
 ·rename_i g1 g2;have g1:(k:Int)<(l.length:Int):=g1;exact .k [] [0] _ rfl (Qd (Qdz (dflt Qr) (by omega) g2 hi))
 ·rename_i g1 g2;have g1:(k:Int)<(l.length:Int):=g1
  have hp:¬Qdc d (l.getD k (dflt Qr))=true:=by
   have g2:Qdc d (l.getD k (dflt Qr))=false:=g2;rw[g2];decide
  apply Ex () [] [0]
  ·repeat' constructor
  ·omega
  ·exact QL (by omega)
  exact Qbq (dflt Qr) (by omega) hp hi
 ·rename_i g1;have g1:¬(k:Int)<(l.length:Int):=g1;exact .k [] [0] _ rfl (Qd (QcJ (by omega) hi))
def QJU:WSpec:=⟨heX,fun x=>[.c (.ro Qr x.l),.c (.fn 124 [0])],fun x=>[.var [.imm (.string x.d.1),iv .i64 x.d.2.1,iv .i64 x.d.2.2.1,iv .i64 x.d.2.2.2.1,.ro (.int .u8) x.d.2.2.2.2]],QHb,
 fun x=>(some (x.l.length≤4611686018427387904∧(Qjl) x.d),.cell (bv (x.l.any (Qdc x.d))),[some (.var [.imm (.string x.d.1),iv .i64 x.d.2.1,iv .i64 x.d.2.2.1,iv .i64 x.d.2.2.2.1,.ro (.int .u8) x.d.2.2.2.2])],[])⟩
theorem QFK:G0 123 QJU.spec:=by
 have hP:S0 _:=Qa QFJ (Qb (T:=tree));have hT:=tabs hP Qc;refine QJU.gd hT hP Tryz.func123 (fun _ _ _ h=>QuV h) fun(x:heX) hq=>?_
 have hq:x.l.length≤4611686018427387904∧(Qjl) x.d:=hq _ rfl;obtain⟨l,d⟩:=x
 repeat' first|(apply Ea;conv=>whnf)|apply Eb|apply Ec<;>intro _|apply Ed<;>intro _|apply Ee<;>intro _|apply Ef hT hP
 all_goals clear hT hP
 ·first|exact hq|exact trivial
 ·exact .k [] [0] _ rfl (Qi (Qia (Qdc d) l))
structure bfX where
 l:List Wr
 d:Cv
theorem QC{x y:ByteArray}:Qm x y=true↔x=y:=Lib.bytes_beq_iff x y
theorem Qvj{x y:Wr}:QA Qr x y=true↔x=y:=⟨fun h=>Qdp (u:=Qr) rfl h,fun h=>by subst h;show(Qm x.1 x.1&&Qm x.2 x.2)=true;rw[QC.2 rfl,QC.2 rfl];rfl⟩
abbrev gWr:Sig:=⟨true,Qr⟩
def QcT(v w:Wr):Bool:=QA Qr v w
def QF7:PSpec:=⟨[⟨false,.sl Qr⟩,gWr],fun(l,v,_)=>(some (List.length l≤4611686018427387904),I (QbP (QcT v) l),[])⟩
theorem QDd:G0 106 QF7.spec:=by
 have hP:S0 _:=(Qb (T:=tree))
 have hT:=tabs hP Qc;refine QF7.gd hT hP Tryz.func106 fun(l:List Wr) (v:Wr) hq=>?_
 have hl:l.length≤4611686018427387904:=hq _ rfl;obtain⟨va,vb⟩:=v;clear hq
 repeat' first|(apply Ea;conv=>whnf)|apply Eb|apply Ec<;>intro _|apply Ed<;>intro _|apply Ee<;>intro _|apply Ef hT hP
 refine QH hT hP (A:=Unit) l.length (fun i _=>St.mk ((.cell (.ro Qr l))::E2 ((.cell (.ptr 0 0))::E3 ((I l.length)::(I i)::E10 []))) [some (.var [.imm (.string va),.imm (.string vb)])])
  (fun k _=>QdH (QcT (va,vb)) (l.drop k) k=QbP (QcT (va,vb)) l) () (Le.mk [] [0] R R R ?_) rfl fun k _ hk hi=>?_
 ·repeat' constructor
 repeat' first|(apply Ea;conv=>whnf)|apply Eb|apply Ec<;>intro _|apply Ed<;>intro _|apply Ee<;>intro _|apply Ef hT hP
 all_goals clear hT hP
 ·rename_i g1;have g1:(k:Int)<(l.length:Int):=g1;show 0≤(k:Int)∧(k:Int)<(l.length:Int);omega
 ·rename_i g1 g2;have g1:(k:Int)<(l.length:Int):=g1;exact .k [] [] _ rfl (Qd (Qdz (dflt Qr) (by omega) g2 hi))
 ·rename_i g1 g2;have g1:(k:Int)<(l.length:Int):=g1
  have hp:¬QcT (va,vb) (l.getD k (dflt Qr))=true:=by
   have g2:QcT (va,vb) (l.getD k (dflt Qr))=false:=g2;rw[g2];decide
  apply Ex () [] [0]
  ·repeat' constructor
  ·omega
  ·exact QL (by omega)
  exact Qbq (dflt Qr) (by omega) hp hi
 ·rename_i g1;have g1:¬(k:Int)<(l.length:Int):=g1;exact .k [] [] _ rfl (Qd (QcJ (by omega) hi))
def QF8:PSpec:=⟨[⟨false,.sl Qr⟩,gWr],fun(l,v,_)=>(some (List.length l≤4611686018427387904),.cell (bv (l.any (QcT v))),[])⟩
theorem Qvk:G0 57 QF8.spec:=by
 have hP:S0 _:=Qa QDd (Qb (T:=tree));have hT:=tabs hP Qc;refine QF8.gd hT hP Tryz.func57 fun(l:List Wr) (v:Wr) hq=>?_
 have hl:l.length≤4611686018427387904:=hq _ rfl;obtain⟨va,vb⟩:=v;clear hq
 repeat' first|(apply Ea;conv=>whnf)|apply Eb|apply Ec<;>intro _|apply Ed<;>intro _|apply Ee<;>intro _|apply Ef hT hP
 all_goals clear hT hP
 ·exact hl
 ·exact .k [] [] _ rfl (Qi (Qia (QcT (va,vb)) l))
def bdP(b:Bd):Prop:=(b.2.2.1.length*64≤140737488351232∧b.2.2.2.length*32≤140737488351232)∧∀c∈b.2.2.1,cP c∧c.1.size≤140737488351232
theorem Qml{α:Type}{l:List α}{k:Nat}(d:α)(h:k<l.length):l.take (k+1)=l.take k++[l.getD k d]:=by
 rw[List.take_add_one,List.getD_eq_getElem?_getD,List.getElem?_eq_getElem h];rfl
def Qbj(w:List Wr)(l:List Cv):List Bool:=l.map fun c=>Qh9 c.2.1&&w.any (Qdc c)
theorem Qde(w:List Wr)(l:List Cv):(Qbj w l).length=l.length:=List.length_map ..
def QfP(w:List Wr)(l:List Cv)(k:Nat):List Bool:=Qbj w (l.take k)++List.replicate (l.length-k) false
theorem Qjm{w:List Wr}{l:List Cv}{k:Nat}(h:k<l.length){b:Bool}(hb:(Qh9 (l.getD k (dflt Qe)).2.1&&w.any (Qdc (l.getD k (dflt Qe))))=b):(QfP w l k).set k b=QfP w l (k+1):=by
 have hl:(Qbj w (l.take k)).length=k:=by rw[Qde,List.length_take];omega
 have e:l.length-k=(l.length-(k+1))+1:=by omega
 unfold QfP;rw[e,List.replicate_succ,List.set_append,if_neg (by omega),hl,Nat.sub_self,List.set_cons_zero,Qml (dflt Qe) h];unfold Qbj;rw[List.map_append,List.map_cons,List.map_nil,hb];simp
theorem Qet(w:List Wr)(l:List Cv){k:Nat}(h:k≤l.length):(QfP w l k).length=l.length:=by
 unfold QfP;rw[List.length_append,Qde,List.length_take,List.length_replicate];omega
def QpZ:PSpec:=⟨[gBd],fun(b,_)=>(some (bdP b),.cell (.own 0),[.arr .bool (Qbj b.2.2.2 b.2.2.1)])⟩
theorem Qvl:G0 66 QpZ.spec:=by
 have hP:S0 _:=Qa QpQ (Qa QFK (Qb (T:=tree)));have hT:=tabs hP Qc;refine QpZ.gd hT hP Tryz.func66 fun(b:Bd) hq=>?_
 obtain⟨⟨hl,hw⟩,hc⟩:bdP b:=hq _ rfl;obtain⟨bn,⟨un,ui,ur,uq,um⟩,bc,bw⟩:=b;have hl:bc.length*64≤140737488351232:=hl;have hw:bw.length*32≤140737488351232:=hw;have hc:∀c∈bc,cP c∧c.1.size≤140737488351232:=hc;clear hq
 repeat' first|(apply Ea;conv=>whnf)|apply Eb|apply Ec<;>intro _|apply Ed<;>intro _|apply Ee<;>intro _|apply Ef hT hP
 ·show(bc.length:Int)=bc.length∧0≤(bc.length:Int)∧(bc.length:Int)*1≤281474976710656∧(bc.length:Int)≤281474976710656;omega
 refine QH hT hP (A:=List Bool) bc.length (fun i o=>St.mk (E1 ((.cell (.ptr 0 0))::E1 ((.cell (.own 1))::E5 (E2 ((.cell (.ro Qe bc))::(I bc.length)::(I i)::E10 (E5 (E3 [])))))))
  [some (.var [.imm (.string bn),.imm (.string un),.ro QaA ui,.ro Qs ur,.ro Qs uq,.ro Qs um,.ro Qe bc,.ro Qr bw]),some (.arr .bool o)])
  (fun k o=>o=QfP bw bc k) (List.replicate (bc.length:Int).toNat false) (Le.k [] [0,1] ?_) (by unfold QfP Qbj;simp) fun k o hk hi=>?_
 ·repeat' constructor
 repeat' first|(apply Ea;conv=>whnf)|apply Eb|apply Ec<;>intro _|apply Ed<;>intro _|apply Ee<;>intro _|apply Ef hT hP
 all_goals(try dsimp only[Qf] at *)
 all_goals clear hT hP
 ·rename_i g1;have g1:(k:Int)<(bc.length:Int):=g1;show 0≤(k:Int)∧(k:Int)<(bc.length:Int);omega
 ·rename_i g1 g2;have g1:(k:Int)<(bc.length:Int):=g1;have:=(hc _ (QG (dflt Qe) (show k<bc.length by omega))).2;refine⟨by omega,?_⟩;show(bc.getD k (dflt Qe)).1.size<4611686018427387900;omega
 ·rename_i g1 g2;have g1:(k:Int)<(bc.length:Int):=g1;have:=Qet bw bc hk;show 0≤(k:Int)∧(k:Int)<(o.length:Int);rw[hi];omega
 ·rename_i g1 g2;have g1:(k:Int)<(bc.length:Int):=g1;have:=Qet bw bc hk;show k<o.length;rw[hi];omega
 ·rename_i g1 g2;have g1:(k:Int)<(bc.length:Int):=g1;have g2:Qh9 (bc.getD k (dflt Qe)).2.1=true:=g2;apply Ex _ [] [0,1]
  ·repeat' constructor
  ·omega
  ·exact QL (by omega)
  rw[hi];exact Qjm (by omega) (by rw[g2];rfl)
 ·rename_i g1 g2;have g1:(k:Int)<(bc.length:Int):=g1;have:=Qet bw bc hk;show 0≤(k:Int)∧(k:Int)<(o.length:Int);rw[hi];omega
 ·rename_i g1 g2;have g1:(k:Int)<(bc.length:Int):=g1;have:=Qet bw bc hk;show k<o.length;rw[hi];omega
 ·rename_i g1 g2;have g1:(k:Int)<(bc.length:Int):=g1;have g2:Qh9 (bc.getD k (dflt Qe)).2.1=false:=g2;apply Ex _ [] [0,1]
  ·repeat' constructor
  ·omega
  ·exact QL (by omega)
  rw[hi];exact Qjm (by omega) (by rw[g2];rfl)
 ·rename_i g1;have g1:¬(k:Int)<(bc.length:Int):=g1;refine .mk [] [1] _ R R R R R ?_ rfl;have e:k=bc.length:=by omega
  have e2:QfP bw bc k=Qbj bw bc:=by
   unfold QfP;rw[e,List.take_length,Nat.sub_self];simp
  rw[hi,e2];rfl
theorem Qig{w:List Wr}{l:List Cv}{k:Nat}(h:k<l.length){b:Bool}(hb:(Qh9 (l.getD k (dflt Qe)).2.1&&w.any (Qdc (l.getD k (dflt Qe))))=b):Qbj w (l.take k)++[b]=Qbj w (l.take (k+1)):=by
 unfold Qbj;rw[Qml (dflt Qe) h,List.map_append,List.map_cons,List.map_nil,hb]
theorem Qrw(c:Cv)(w:List Wr):w.any (Qdc c)=w.any (QcT (c.1++Qg3,Qbi)):=by
 have e:Qdc c=QcT (c.1++Qg3,Qbi):=by
  funext x
  have h1:Qm x.1 (c.1++Qg3)=Qm (c.1++Qg3) x.1:=by
   rw[Bool.eq_iff_iff,QC,QC];exact eq_comm
  have h2:Qm x.2 Qbi=Qm Qbi x.2:=by
   rw[Bool.eq_iff_iff,QC,QC];exact eq_comm
  show(bif Qm x.1 (c.1++Qg3) then Qm x.2 Qbi else false)=(Qm (c.1++Qg3) x.1&&Qm Qbi x.2)
  rw[h1,h2];cases Qm (c.1++Qg3) x.1<;>rfl
 rw[e]
theorem QnH:G0 15 QpZ.spec:=by
 have hP:S0 _:=Qa QeL (Qa Qvk (Qb (T:=tree)));have hT:=tabs hP Qc;refine QpZ.gd hT hP Tryz.func15 fun(b:Bd) hq=>?_
 obtain⟨⟨hl,hw⟩,hc⟩:bdP b:=hq _ rfl;obtain⟨bn,⟨un,ui,ur,uq,um⟩,bc,bw⟩:=b;have hl:bc.length*64≤140737488351232:=hl;have hw:bw.length*32≤140737488351232:=hw;have hc:∀c∈bc,cP c∧c.1.size≤140737488351232:=hc;clear hq
 repeat' first|(apply Ea;conv=>whnf)|apply Eb|apply Ec<;>intro _|apply Ed<;>intro _|apply Ee<;>intro _|apply Ef hT hP
 refine QH hT hP (A:=List Bool) bc.length (fun i o=>St.mk (E1 ((.cell (.ptr 0 0))::E1 ((.cell (.own 1))::E3 ((.cell (.ro Qe bc))::(I bc.length)::(I i)::E20 []))))
  [some (.var [.imm (.string bn),.imm (.string un),.ro QaA ui,.ro Qs ur,.ro Qs uq,.ro Qs um,.ro Qe bc,.ro Qr bw]),some (.arr .bool o)])
  (fun k o=>o=Qbj bw (bc.take k)) [] (.trans (Le.nil 3 .bool rfl) (Le.k [] [0,1] ?_)) rfl fun k o hk hi=>?_
 ·repeat' constructor
 repeat' first|(apply Ea;conv=>whnf)|apply Eb|apply Ec<;>intro _|apply Ed<;>intro _|apply Ee<;>intro _|apply Ef hT hP
 all_goals(try dsimp only[Qf] at *)
 all_goals clear hT hP
 all_goals(have hlen:(Qbj bw (bc.take k)).length=k:=by rw[Qde,List.length_take];omega)
 ·rename_i g1;have g1:(k:Int)<(bc.length:Int):=g1;show 0≤(k:Int)∧(k:Int)<(bc.length:Int);omega
 ·rename_i g1 g2;have g1:(k:Int)<(bc.length:Int):=g1;have:=(hc _ (QG (dflt Qe) (show k<bc.length by omega))).2;show(bc.getD k (dflt Qe)).1.size+4<4611686018427387904;omega
 ·omega
 ·rename_i g1 g2;have g1:(k:Int)<(bc.length:Int):=g1;show(o.length+1)*1≤140737488355328;rw[hi,hlen];omega
 ·rename_i g1 g2;have g1:(k:Int)<(bc.length:Int):=g1;have g2:Qh9 (bc.getD k (dflt Qe)).2.1=true:=g2;apply Ex _ [] [0,4]
  ·repeat' constructor
  ·omega
  ·exact QL (by omega)
  rw[hi];exact Qig (by omega) (by rw[g2,Bool.true_and,Qrw];rfl)
 ·rename_i g1 g2;have g1:(k:Int)<(bc.length:Int):=g1;show(o.length+1)*1≤140737488355328;rw[hi,hlen];omega
 ·rename_i g1 g2;have g1:(k:Int)<(bc.length:Int):=g1;have g2:Qh9 (bc.getD k (dflt Qe)).2.1=false:=g2;apply Ex _ [] [0,4]
  ·repeat' constructor
  ·omega
  ·exact QL (by omega)
  rw[hi];exact Qig (by omega) (by rw[g2];rfl)
 ·rename_i g1;have g1:¬(k:Int)<(bc.length:Int):=g1;refine .mk [] [1] _ R R R R R ?_ rfl;rw[List.take_of_length_le (by omega)] at hi;rw[hi];rfl
theorem Qvo{l m:List Int}(hl:u8s l)(hm:u8s m)(h:QmO l=QmO m):l=m:=by
 have h1:(l.map fun n=>UInt8.ofNat n.toNat)=m.map fun n=>UInt8.ofNat n.toNat:=by
  have h2:=congrArg (fun b:ByteArray=>b.data.toList) h;simpa[QmO] using h2
 clear h
 induction l generalizing m with
 |nil =>
  cases m with
  |nil=>rfl
  |cons y m=>simp at h1
 |cons x l ih =>
  cases m with
  |nil=>simp at h1
  |cons y m =>
   simp only[List.map_cons,List.cons.injEq] at h1;obtain⟨e1,e2⟩:=h1;have hx:=hl x (List.mem_cons_self ..);have hy:=hm y (List.mem_cons_self ..);have e3:=congrArg UInt8.toNat e1;simp only[UInt8.toNat_ofNat'] at e3;have e4:x=y:=by omega
   rw[e4,ih (fun z hz=>hl z (List.mem_cons_of_mem _ hz)) (fun z hz=>hm z (List.mem_cons_of_mem _ hz)) e2]
theorem Qy1:∀(u v:Nat) (a b:List Int),Qnw u++a=Qnw v++b→u=v∧a=b:=by
 intro u
 induction u using Nat.strongRecOn with
 |ind u ih =>
  intro v a b h;by_cases hu:u<128
  ·by_cases hv:v<128
   ·rw[Qdy hu,Qdy hv] at h;injection h with h1 h2
    exact⟨by omega,h2⟩
   ·rw[Qdy hu,Qd6 hv] at h;injection h with h1 h2
    omega
  ·by_cases hv:v<128
   ·rw[Qd6 hu,Qdy hv] at h;injection h with h1 h2
    omega
   ·rw[Qd6 hu,Qd6 hv] at h;injection h with h1 h2
    obtain⟨e1,e2⟩:=ih (u/128) (by omega) (v/128) a b h2;exact⟨by omega,e2⟩
theorem QkD{n m:Int}{a b:List Int}(h:Qfd n++a=Qfd m++b):n=m∧a=b:=by
 obtain⟨e1,e2⟩:=Qy1 _ _ _ _ h;refine⟨?_,e2⟩;unfold zig at e1;split at e1<;>split at e1<;>omega
theorem Qgq:∀{l m:List Int} {a b:List Int},l.length=m.length→QZ l++a=QZ m++b→l=m∧a=b
 | [],[],a,b,_,h=>⟨rfl,h⟩
 | [],_::_,_,_,hl,_=>by cases hl
 |_::_,[],_,_,hl,_=>by cases hl
 |x::l,y::m,a,b,hl,h=>by
  rw[Qe3,Qe3,List.append_assoc,List.append_assoc] at h;obtain⟨e1,e2⟩:=QkD h;obtain⟨e3,e4⟩:=Qgq (by simpa using hl) e2;exact⟨by rw[e1,e3],e4⟩
theorem QDe{l m a b:List Int}(hl:l.length=m.length)(h:l++a=m++b):l=m∧a=b:=List.append_inj h hl
theorem Qy2{x y:Dv}{a b:List Int}(h:Qkn x++a=Qkn y++b):x=y∧a=b:=by
 unfold Qkn at h;simp only[List.append_assoc] at h;obtain⟨e1,h⟩:=QkD h;obtain⟨e2,h⟩:=Qgq (by omega) h;obtain⟨e3,h⟩:=QkD h;obtain⟨e4,h⟩:=QDe (by omega) h;exact⟨Prod.ext e2 e4,h⟩
theorem Qp1:∀{l m:List Dv},l.length=m.length→l.flatMap Qkn=m.flatMap Qkn→l=m
 | [],[],_,_=>rfl
 | [],_::_,hl,_=>by cases hl
 |_::_,[],hl,_=>by cases hl
 |x::l,y::m,hl,h=>by
  simp only[List.flatMap_cons] at h;obtain⟨e1,e2⟩:=Qy2 h;rw[e1,Qp1 (by simpa using hl) e2]
theorem Qvp{m n:Mach}(hm:m.2.1.1.length=9)(hn:n.2.1.1.length=9)(h:QnA m=QnA n):m=n:=by
 unfold QnA at h;obtain⟨e1,e2⟩:=Qgq (by rw[Qh7 m hm,Qh7 n hn]) h;obtain⟨tm,⟨r,op,at_,nmi⟩,ds,b1,b2,b3⟩:=m;obtain⟨tm',⟨r',op',at',nmi'⟩,ds',b1',b2',b3'⟩:=n;unfold Qkm at e1;simp only[List.singleton_append,List.cons_append] at e1;injection e1 with e3 e1
 have hr:r.length=r'.length:=by
  have h1:r.length=9:=hm;have h2:r'.length=9:=hn;omega
 obtain⟨e4,e5⟩:=List.append_inj e1 hr;injection e5 with f1 e5
 injection e5 with f2 e5
 injection e5 with f3 e5
 injection e5 with f4 e5
 injection e5 with f5 e5
 injection e5 with f6 e5
 injection e5 with f7 e5
 have f7:(ds.length:Int)=ds'.length:=f7;have e6:=Qp1 (l:=ds) (m:=ds') (by omega) e2
 have f3:nmi=nmi':=by
  have f3:(cond nmi 1 0:Int)=cond nmi' 1 0:=f3;cases nmi<;>cases nmi'<;>first|rfl|(exact absurd f3 (by decide))
 have f1:op=op':=f1;have f2:at_=at':=f2;have f4:b1=b1':=f4;have f5:b2=b2':=f5;have f6:b3=b3':=f6;have e3:tm=tm':=e3;subst e3 e4 f1 f2 f3 f4 f5 f6 e6;rfl
theorem QnI:∀u:Nat,u8s (Qnw u):=by
 intro u
 induction u using Nat.strongRecOn with
 |ind u ih =>
  by_cases hu:u<128
  ·rw[Qdy hu];intro x hx;rw[List.mem_singleton] at hx;subst hx;omega
  ·rw[Qd6 hu];intro x hx;rcases List.mem_cons.1 hx with rfl|hx
   ·omega
   ·exact ih (u/128) (by omega) x hx
theorem QkE{l m:List Int}(h:u8s l)(h2:u8s m):u8s (l++m):=fun x hx=>(List.mem_append.1 hx).elim (h x) (h2 x)
theorem Qmm(l:List Int):u8s (QZ l):=fun x hx=>by
 obtain⟨n,_,hn⟩:=List.mem_flatMap.1 hx;exact QnI _ x hn
def Qk2(m:Mach):Prop:=∀d∈m.2.2.1,u8s d.2
theorem Qp2{m:Mach}(h:Qk2 m):u8s (QnA m):=by
 refine QkE (Qmm _) fun x hx=>?_
 obtain⟨d,hd,hx⟩:=List.mem_flatMap.1 hx;exact QkE (QkE (QkE (QnI _) (Qmm _)) (QnI _)) (h d hd) x hx
def QnJ(m:Mach)(b:Nat):AV:=.agg [iv .i64 m.1,.run .i64 9 m.2.1.1,iv .i64 m.2.1.2.1,iv .i64 m.2.1.2.2.1,bv m.2.1.2.2.2,.own b,iv .i64 m.2.2.2.1,iv .i64 m.2.2.2.2.1,iv .i64 m.2.2.2.2.2]
def QwL(l:List Dv):Prop:=l.length*48≤140737488351232∧∀x∈l,List.length x.1*8≤140737488351232∧List.length x.2*1≤140737488351232
def QAS:PSpec:=⟨[gM],fun(m,_)=>(some (QwL m.2.2.1),QnJ m 0,[.arr Qj m.2.2.1])⟩
theorem QkF:G0 69 QAS.spec:=by
 have hP:S0 _:=Qa Qp0 (Qa Qy0 (Qa Qvn (Qb (T:=tree))));have hT:=tabs hP Qc;refine QAS.gd hT hP Tryz.func69 fun(m:Mach) hq=>?_
 obtain⟨h1,h2⟩:QwL m.2.2.1:=hq _ rfl;clear hq;obtain⟨tm,⟨r,op,at_,nmi⟩,ds,bd,ba,bdt⟩:=m;have h1:ds.length*48≤140737488351232:=h1;have h2:∀x∈ds,List.length x.1*8≤140737488351232∧List.length x.2*1≤140737488351232:=h2
 repeat' first|(apply Ea;conv=>whnf)|apply Eb|apply Ec<;>intro _|apply Ed<;>intro _|apply Ee<;>intro _|apply Ef hT hP
 all_goals(try dsimp only[Qf] at *)
 ·exact h1
 refine QH hT hP (A:=Unit) ds.length (fun i _=>St.mk (E1 ((.cell (.ptr 0 0))::(.cell (.ptr 1 0))::E5 (E2 ((.cell (.own 2))::(I ds.length)::(I i)::E10 (E5 (E2 []))))))
  [some (.var [.imm (.int .i64 tm),.run .i64 9 r,.imm (.int .i64 op),.imm (.int .i64 at_),.imm (.bool nmi),.own 2,.imm (.int .i64 bd),.imm (.int .i64 ba),.imm (.int .i64 bdt)]),
   some (.var [.imm (.int .i64 0),.run .i64 9 (List.replicate 9 0),.imm (.int .i64 0),.imm (.int .i64 0),.imm (.bool false),.imm (.slice none 0 0),.imm (.int .i64 0),.imm (.int .i64 0),.imm (.int .i64 0)]),some (.arr Qj ds)])
  (fun k _=>True) () (Le.k [] [0,1,2] ?_) trivial fun k _ hk _=>?_
 ·repeat' constructor
 repeat' first|(apply Ea;conv=>whnf)|apply Eb|apply Ec<;>intro _|apply Ed<;>intro _|apply Ee<;>intro _|apply Ef hT hP
 all_goals(try dsimp only[Qf] at *)
 all_goals clear hT hP
 ·rename_i g;show 0≤(k:Int)∧(k:Int)<(ds.length:Int);omega
 ·rename_i g;show k<ds.length;omega
 ·rename_i g;exact(h2 _ (QG (dflt Qj) (show k<ds.length by omega))).1
 ·rename_i g;exact(h2 _ (QG (dflt Qj) (show k<ds.length by omega))).2
 ·rename_i g;show 0≤(k:Int)∧(k:Int)<(ds.length:Int);omega
 ·rename_i g;show k<ds.length;omega
 ·rename_i g;have g1:(k:Int)<(ds.length:Int):=g;apply Exists.intro;apply Exists.intro ();refine And.intro (And.intro ?lt (And.intro ?ei trivial)) (Le.mk [] [0,1,2] R R ?hh ?ht)
  case hh=>exact congrArg (fun z=>[some (.var [.imm (.int .i64 tm),.run .i64 9 r,.imm (.int .i64 op),.imm (.int .i64 at_),.imm (.bool nmi),.own 2,.imm (.int .i64 bd),.imm (.int .i64 ba),.imm (.int .i64 bdt)]),
   some (.var [.imm (.int .i64 0),.run .i64 9 (List.replicate 9 0),.imm (.int .i64 0),.imm (.int .i64 0),.imm (.bool false),.imm (.slice none 0 0),.imm (.int .i64 0),.imm (.int .i64 0),.imm (.int .i64 0)]),some (Blk.arr Qj z)]) (Qmk ds k (dflt Qj))
  case ht=>repeat' constructor
  case lt=>omega
  case ei=>exact QL (by omega)
 ·exact .k [] [2] _ R R
noncomputable def Qmn(m n:Mach):Bool:=eqB m n
noncomputable def Qvq:PSpec:=⟨[gM,gM],fun(m,n,_)=>(some ((QcB m∧Qk2 m)∧QcB n∧Qk2 n),.cell (bv (Qmn m n)),[])⟩
theorem Qvr{m n:Mach}(hm:QcB m∧Qk2 m)(hn:QcB n∧Qk2 n):Qm (QmO (QnA m)) (QmO (QnA n))=Qmn m n:=by
 by_cases e:m=n
 ·subst e;show Qm _ _=eqB m m;rw[Qif rfl];exact(Lib.bytes_beq_iff _ _).2 rfl
 ·show Qm _ _=eqB m n;rw[QDc e,Bool.eq_false_iff];intro h;exact e (Qvp hm.1.2.2.1 hn.1.2.2.1 (Qvo (Qp2 hm.2) (Qp2 hn.2) ((Lib.bytes_beq_iff _ _).1 h)))
theorem Qmo:G0 19 Qvq.spec:=by
 have hP:S0 _:=Qa QuH (Qb (T:=tree));have hT:=tabs hP Qc;refine Qvq.gd hT hP Tryz.func19 fun(m n:Mach) hq=>?_
 obtain⟨hm,hn⟩:(QcB m∧Qk2 m)∧QcB n∧Qk2 n:=hq _ rfl;clear hq;have e:=Qvr hm hn;obtain⟨tm,⟨r,op,at_,nmi⟩,ds,bd,ba,bdt⟩:=m;obtain⟨tm',⟨r',op',at',nmi'⟩,ds',bd',ba',bdt'⟩:=n
 repeat' first|(apply Ea;conv=>whnf)|apply Eb|apply Ec<;>intro _|apply Ed<;>intro _|apply Ee<;>intro _|apply Ef hT hP
 all_goals(try dsimp only[Qf] at *)
 all_goals clear hT hP
 ·exact hm.1
 ·exact hn.1
 ·exact .k [] [] _ rfl (Qi e)
def adI(a:Int):Int:=a%2 ^ Int.toNat 16
theorem QGa(a:Int):adI a=a%65536:=rfl
theorem QGb(a:Int):0≤adI a∧adI a<65536:=by rw[QGa];omega
def fI(b:Bd)(a:Int):Int:=if 0≤Qn b a then Qn b a else 0
def Qrx(b:Bd)(a:Int):Bool:=decide (0≤Qn b a)
theorem QeP{b:Bd}{a:Int}(h:(!Qrx b a)=false):(0≤Qn b a∧Qn b a<b.2.2.1.length)∧fI b a=Qn b a:=by
 have h1:0≤Qn b a:=by
  by_cases h1:0≤Qn b a
  ·exact h1
  ·unfold Qrx at h;rw[decide_eq_false h1] at h;cases h
 have hF:Qn b a=-1∨(0≤Qn b a∧Qn b a<b.2.2.1.length):=Qku (Qgn a) b.2.2.1;exact⟨by omega,if_pos h1⟩
theorem QGc{b:Bd}{a:Int}(h:(!Qrx b a)=true):¬0≤Qn b a:=fun h1=>by
 unfold Qrx at h;rw[decide_eq_true h1] at h;cases h
def QDg:PSpec:=⟨[gBd,gi],fun(b,a,_)=>(some (bP b a),.tup [I1 (fI b a),I1 (atF b a),.c (bv (Qrx b a))],[])⟩
theorem Qd7:G0 93 QDg.spec:=QyG
def Qr8(b:Bd)(a:Int):Cv:=b.2.2.1.getD (Qn b (adI a)).toNat (dflt Qe)
def QJ4(b:Bd)(m:Mach)(a:Int):Dv:=m.2.2.1.getD (Qn b (adI a)).toNat (dflt Qj)
def QkG(b:Bd)(m:Mach)(a:Int):Prop:=(0≤Qn b (adI a)∧Qn b (adI a)<(m.2.2.1.length:Nat))∧0≤(Qr8 b a).2.1∧(Qr8 b a).2.1≤2
instance (b:Bd) (m:Mach) (a:Int):Decidable (QkG b m a):=by unfold QkG;infer_instance
def QnK(b:Bd)(m:Mach)(a:Int):Int:=if QkG b m a then loadI (Qr8 b a) (QJ4 b m a) (adI a-(Qr8 b a).2.2.1) else 255
def QiQ(b:Bd)(m:Mach)(a k:Int):Mach:=if QkG b m a then (m.1,m.2.1,m.2.2.1.set (Qn b (adI a)).toNat (Qbb (Qr8 b a) (QJ4 b m a) (adI a-(Qr8 b a).2.2.1) k),m.2.2.2) else m
def Qry(b:Bd)(m:Mach):Prop:=(b.2.2.1.length*64≤140737488351232∧∀c∈b.2.2.1,cP c)∧QwL m.2.2.1∧∀d∈m.2.2.1,dP d
theorem Qvs{b:Bd}{m:Mach}(h:Qry b m)(a:Int):bP b (adI a):=by
 have:=QGb a;exact⟨by have:=h.1.1;omega,⟨by omega,by omega⟩,fun c hc=>⟨(h.1.2 c hc).1,(h.1.2 c hc).2.1⟩⟩
theorem QAT{b:Bd}{a:Int}(h:0≤Qn b (adI a)):atF b (adI a)=adI a-(Qr8 b a).2.2.1:=if_pos h
def QAU:PSpec:=⟨[gBd,gM,gi],fun(b,m,a,_)=>(some (Qry b m),I (QnK b m a),[])⟩
theorem Qy3:G0 45 QAU.spec:=by
 have hP:S0 _:=Qa QN (Qa Qd7 (Qa Qki (Qb (T:=tree))));have hT:=tabs hP Qc;refine QAU.gd hT hP Tryz.func45 fun(b:Bd) (m:Mach) (a:Int) hq=>?_
 have hpp:Qry b m:=hq _ rfl;have hbP:=Qvs hpp a;have hatF:=@QAT b a;obtain⟨⟨h1,h2⟩,h3,h4⟩:=hpp;clear hq;obtain⟨bn,⟨un,ui,ur,uq,um⟩,bc,bw⟩:=b;obtain⟨tm,⟨r,op,at_,nmi⟩,ds,bd,ba,bdt⟩:=m;have h1:bc.length*64≤140737488351232:=h1;have h2:∀c∈bc,cP c:=h2;have h4:∀d∈ds,dP d:=h4
 repeat' first|(apply Ea;conv=>whnf)|apply Eb|apply Ec<;>intro _|apply Ed<;>intro _|apply Ee<;>intro _|apply Ef hT hP
 all_goals(try dsimp only[Qf] at *)
 all_goals clear hT hP
 ·exact of_decide_eq_true rfl
 ·exact hbP
 ·rename_i g1;have g1:=QGc (a:=adI a) g1;refine .k [] [] _ rfl (Qd ?_);exact(if_neg fun h=>g1 h.1.1:QnK (bn,(un,ui,ur,uq,um),bc,bw) (tm,(r,op,at_,nmi),ds,bd,ba,bdt) a=255).symm
 ·rename_i g1 g2;obtain⟨⟨f1,f2⟩,f3⟩:=QeP (a:=adI a) g1;have g2:fI (bn,(un,ui,ur,uq,um),bc,bw) (adI a)≥(ds.length:Int):=g2;rw[f3] at g2;refine .k [] [] _ rfl (Qd ?_);exact(if_neg fun h=>by have h:=h.1.2;have h:Qn (bn,(un,ui,ur,uq,um),bc,bw) (adI a)<(ds.length:Nat):=h;omega:QnK (bn,(un,ui,ur,uq,um),bc,bw) (tm,(r,op,at_,nmi),ds,bd,ba,bdt) a=255).symm
 ·rename_i g1 g2;obtain⟨⟨f1,f2⟩,f3⟩:=QeP (a:=adI a) g1;show 0≤fI (bn,(un,ui,ur,uq,um),bc,bw) (adI a)∧fI (bn,(un,ui,ur,uq,um),bc,bw) (adI a)<(bc.length:Int);rw[f3];exact⟨f1,f2⟩
 ·rename_i g1 g2 g3;obtain⟨⟨f1,f2⟩,f3⟩:=QeP (a:=adI a) g1;have g3:(bc.getD (fI (bn,(un,ui,ur,uq,um),bc,bw) (adI a)).toNat (dflt Qe)).2.1<0:=g3;rw[f3] at g3;refine .k [] [] _ rfl (Qd ?_);exact(if_neg fun h=>by have h:=h.2.1;have g3:(Qr8 (bn,(un,ui,ur,uq,um),bc,bw) a).2.1<0:=g3;omega:QnK (bn,(un,ui,ur,uq,um),bc,bw) (tm,(r,op,at_,nmi),ds,bd,ba,bdt) a=255).symm
 ·rename_i g1 g2 g3;obtain⟨⟨f1,f2⟩,f3⟩:=QeP (a:=adI a) g1;show 0≤fI (bn,(un,ui,ur,uq,um),bc,bw) (adI a)∧fI (bn,(un,ui,ur,uq,um),bc,bw) (adI a)<(bc.length:Int);rw[f3];exact⟨f1,f2⟩
 ·rename_i g1 g2 g3 g4;obtain⟨⟨f1,f2⟩,f3⟩:=QeP (a:=adI a) g1;have g4:(bc.getD (fI (bn,(un,ui,ur,uq,um),bc,bw) (adI a)).toNat (dflt Qe)).2.1>2:=g4;rw[f3] at g4;refine .k [] [] _ rfl (Qd ?_);exact(if_neg fun h=>by have h:=h.2.2;have g4:(Qr8 (bn,(un,ui,ur,uq,um),bc,bw) a).2.1>2:=g4;omega:QnK (bn,(un,ui,ur,uq,um),bc,bw) (tm,(r,op,at_,nmi),ds,bd,ba,bdt) a=255).symm
 ·rename_i g1 g2 g3 g4;obtain⟨⟨f1,f2⟩,f3⟩:=QeP (a:=adI a) g1;show 0≤fI (bn,(un,ui,ur,uq,um),bc,bw) (adI a)∧fI (bn,(un,ui,ur,uq,um),bc,bw) (adI a)<(bc.length:Int);rw[f3];exact⟨f1,f2⟩
 ·rename_i g1 g2 g3 g4;obtain⟨⟨f1,f2⟩,f3⟩:=QeP (a:=adI a) g1;have g2:¬fI (bn,(un,ui,ur,uq,um),bc,bw) (adI a)≥(ds.length:Int):=g2;show 0≤fI (bn,(un,ui,ur,uq,um),bc,bw) (adI a)∧fI (bn,(un,ui,ur,uq,um),bc,bw) (adI a)<(ds.length:Int);rw[f3] at g2 ⊢;omega
 ·rename_i g1 g2 g3 g4;obtain⟨⟨f1,f2⟩,f3⟩:=QeP (a:=adI a) g1;have g2:¬fI (bn,(un,ui,ur,uq,um),bc,bw) (adI a)≥(ds.length:Int):=g2;have f2:Qn (bn,(un,ui,ur,uq,um),bc,bw) (adI a)<(bc.length:Int):=f2;show cP (bc.getD (fI (bn,(un,ui,ur,uq,um),bc,bw) (adI a)).toNat (dflt Qe))∧dP (ds.getD (fI (bn,(un,ui,ur,uq,um),bc,bw) (adI a)).toNat (dflt Qj));rw[f3] at g2 ⊢;exact⟨h2 _ (QG _ (by omega)),h4 _ (QG _ (by omega))⟩
 ·rename_i g1 g2 g3 g4;obtain⟨⟨f1,f2⟩,f3⟩:=QeP (a:=adI a) g1;have g2:¬fI (bn,(un,ui,ur,uq,um),bc,bw) (adI a)≥(ds.length:Int):=g2;have g3:¬(bc.getD (fI (bn,(un,ui,ur,uq,um),bc,bw) (adI a)).toNat (dflt Qe)).2.1<0:=g3;have g4:¬(bc.getD (fI (bn,(un,ui,ur,uq,um),bc,bw) (adI a)).toNat (dflt Qe)).2.1>2:=g4;rw[f3] at g2 g3 g4;refine .k [] [] _ rfl (Qd ?_);show loadI (bc.getD (fI (bn,(un,ui,ur,uq,um),bc,bw) (adI a)).toNat (dflt Qe)) (ds.getD (fI (bn,(un,ui,ur,uq,um),bc,bw) (adI a)).toNat (dflt Qj)) (atF (bn,(un,ui,ur,uq,um),bc,bw) (adI a))=_;rw[f3,hatF f1];exact(if_pos ⟨⟨f1,by show _<(ds.length:Int);omega⟩,by show 0≤(Qr8 (bn,(un,ui,ur,uq,um),bc,bw) a).2.1;have g3:¬(Qr8 (bn,(un,ui,ur,uq,um),bc,bw) a).2.1<0:=g3;omega,by have g4:¬(Qr8 (bn,(un,ui,ur,uq,um),bc,bw) a).2.1>2:=g4;omega⟩:QnK (bn,(un,ui,ur,uq,um),bc,bw) (tm,(r,op,at_,nmi),ds,bd,ba,bdt) a=_).symm
theorem QcU{b:Bd}{a:Int}(h1:0≤Qn b a):Qn b a<b.2.2.1.length∧fI b a=Qn b a:=by
 have hF:Qn b a=-1∨(0≤Qn b a∧Qn b a<b.2.2.1.length):=Qku (Qgn a) b.2.2.1;exact⟨by omega,if_pos h1⟩
def QAV:PSpec:=⟨[gBd,gM,gi,gi],fun(b,m,a,k,_)=>(some (Qry b m),QnJ (QiQ b m a k) 0,[.arr Qj (QiQ b m a k).2.2.1])⟩
theorem Qy4:G0 46 QAV.spec:=by
 have hP:S0 _:=Qa QkF (Qa QN (Qa Qd7 (Qa Qh3 (Qb (T:=tree)))));have hT:=tabs hP Qc;refine QAV.gd hT hP Tryz.func46 fun(b:Bd) (m:Mach) (a k:Int) hq=>?_
 have hpp:Qry b m:=hq _ rfl;have hbP:=Qvs hpp a;have hatF:=@QAT b a;obtain⟨⟨h1,h2⟩,h3,h4⟩:=hpp;clear hq;obtain⟨bn,⟨un,ui,ur,uq,um⟩,bc,bw⟩:=b;obtain⟨tm,⟨r,op,at_,nmi⟩,ds,bd,ba,bdt⟩:=m;have h1:bc.length*64≤140737488351232:=h1;have h2:∀c∈bc,cP c:=h2;have h4:∀d∈ds,dP d:=h4
 repeat' first|(apply Ea;conv=>whnf)|apply Eb|apply Ec<;>intro _|apply Ed<;>intro _|apply Ee<;>intro _|apply Ef hT hP
 all_goals(try dsimp only[Qf] at *)
 all_goals clear hT hP
 ·exact h3
 ·exact of_decide_eq_true rfl
 ·exact hbP
 ·rename_i g1 g2;obtain⟨f2,f3⟩:=QcU (a:=adI a) g1;show 0≤fI (bn,(un,ui,ur,uq,um),bc,bw) (adI a)∧fI (bn,(un,ui,ur,uq,um),bc,bw) (adI a)<(bc.length:Int);rw[f3];exact⟨g1,f2⟩
 ·rename_i g1 g2 g3;obtain⟨f2,f3⟩:=QcU (a:=adI a) g1;show 0≤fI (bn,(un,ui,ur,uq,um),bc,bw) (adI a)∧fI (bn,(un,ui,ur,uq,um),bc,bw) (adI a)<(bc.length:Int);rw[f3];exact⟨g1,f2⟩
 ·rename_i g1 g2 g3 g4;obtain⟨f2,f3⟩:=QcU (a:=adI a) g1;show 0≤fI (bn,(un,ui,ur,uq,um),bc,bw) (adI a)∧fI (bn,(un,ui,ur,uq,um),bc,bw) (adI a)<(bc.length:Int);rw[f3];exact⟨g1,f2⟩
 ·rename_i g1 g2 g3 g4;obtain⟨f2,f3⟩:=QcU (a:=adI a) g1;have g2:fI (bn,(un,ui,ur,uq,um),bc,bw) (adI a)<(ds.length:Int):=g2;show 0≤fI (bn,(un,ui,ur,uq,um),bc,bw) (adI a)∧fI (bn,(un,ui,ur,uq,um),bc,bw) (adI a)<(ds.length:Int);rw[f3] at g2 ⊢;exact⟨g1,g2⟩
 ·rename_i g1 g2 g3 g4;obtain⟨f2,f3⟩:=QcU (a:=adI a) g1;have g2:fI (bn,(un,ui,ur,uq,um),bc,bw) (adI a)<(ds.length:Int):=g2;show(fI (bn,(un,ui,ur,uq,um),bc,bw) (adI a)).toNat<ds.length;rw[f3] at g2 ⊢;have g1:0≤Qn (bn,(un,ui,ur,uq,um),bc,bw) (adI a):=g1;omega
 ·rename_i g1 g2 g3 g4;obtain⟨f2,f3⟩:=QcU (a:=adI a) g1;have g1:0≤Qn (bn,(un,ui,ur,uq,um),bc,bw) (adI a):=g1;have g2:fI (bn,(un,ui,ur,uq,um),bc,bw) (adI a)<(ds.length:Int):=g2;have f2:Qn (bn,(un,ui,ur,uq,um),bc,bw) (adI a)<(bc.length:Int):=f2;show cP (bc.getD (fI (bn,(un,ui,ur,uq,um),bc,bw) (adI a)).toNat (dflt Qe))∧dP (ds.getD (fI (bn,(un,ui,ur,uq,um),bc,bw) (adI a)).toNat (dflt Qj));rw[f3] at g2 ⊢;exact⟨h2 _ (QG _ (by omega)),h4 _ (QG _ (by omega))⟩
 ·rename_i g1 g2 g3 g4;obtain⟨f2,f3⟩:=QcU (a:=adI a) g1;have g2:fI (bn,(un,ui,ur,uq,um),bc,bw) (adI a)<(ds.length:Int):=g2;show 0≤fI (bn,(un,ui,ur,uq,um),bc,bw) (adI a)∧fI (bn,(un,ui,ur,uq,um),bc,bw) (adI a)<(ds.length:Int);rw[f3] at g2 ⊢;exact⟨g1,g2⟩
 ·rename_i g1 g2 g3 g4;obtain⟨f2,f3⟩:=QcU (a:=adI a) g1;have g2:fI (bn,(un,ui,ur,uq,um),bc,bw) (adI a)<(ds.length:Int):=g2;show(fI (bn,(un,ui,ur,uq,um),bc,bw) (adI a)).toNat<ds.length;rw[f3] at g2 ⊢;have g1:0≤Qn (bn,(un,ui,ur,uq,um),bc,bw) (adI a):=g1;omega
 ·rename_i g1 g2 g3 g4;obtain⟨f2,f3⟩:=QcU (a:=adI a) g1;have g2:fI (bn,(un,ui,ur,uq,um),bc,bw) (adI a)<(ds.length:Int):=g2;have g3:(bc.getD (fI (bn,(un,ui,ur,uq,um),bc,bw) (adI a)).toNat (dflt Qe)).2.1≥0:=g3;have g4:(bc.getD (fI (bn,(un,ui,ur,uq,um),bc,bw) (adI a)).toNat (dflt Qe)).2.1≤2:=g4;rw[f3] at g2 g3 g4
  have e:((tm,(r,op,at_,nmi),ds.set (fI (bn,(un,ui,ur,uq,um),bc,bw) (adI a)).toNat (Qbb (bc.getD (fI (bn,(un,ui,ur,uq,um),bc,bw) (adI a)).toNat (dflt Qe)) (ds.getD (fI (bn,(un,ui,ur,uq,um),bc,bw) (adI a)).toNat (dflt Qj)) (atF (bn,(un,ui,ur,uq,um),bc,bw) (adI a)) k),bd,ba,bdt):Mach)=QiQ (bn,(un,ui,ur,uq,um),bc,bw) (tm,(r,op,at_,nmi),ds,bd,ba,bdt) a k:=by
   rw[f3,hatF g1];exact(if_pos (c:=QkG (bn,(un,ui,ur,uq,um),bc,bw) (tm,(r,op,at_,nmi),ds,bd,ba,bdt) a) ⟨⟨g1,g2⟩,g3,g4⟩).symm
  exact .mk [] [3] _ R R R R R (congrArg (fun z:Mach=>[some (Blk.arr Qj z.2.2.1)]) e) (congrArg (fun z:Mach=>QnJ z 0) e)
 ·rename_i g1 g2 g3 g4;obtain⟨f2,f3⟩:=QcU (a:=adI a) g1;have g4:¬(bc.getD (fI (bn,(un,ui,ur,uq,um),bc,bw) (adI a)).toNat (dflt Qe)).2.1≤2:=g4;rw[f3] at g4;have e:((tm,(r,op,at_,nmi),ds,bd,ba,bdt):Mach)=QiQ (bn,(un,ui,ur,uq,um),bc,bw) (tm,(r,op,at_,nmi),ds,bd,ba,bdt) a k:=(if_neg (c:=QkG (bn,(un,ui,ur,uq,um),bc,bw) (tm,(r,op,at_,nmi),ds,bd,ba,bdt) a) fun h=>g4 h.2.2).symm;exact .mk [] [3] _ R R R R R (congrArg (fun z:Mach=>[some (Blk.arr Qj z.2.2.1)]) e) (congrArg (fun z:Mach=>QnJ z 0) e)
 ·rename_i g1 g2 g3;obtain⟨f2,f3⟩:=QcU (a:=adI a) g1;have g3:¬(bc.getD (fI (bn,(un,ui,ur,uq,um),bc,bw) (adI a)).toNat (dflt Qe)).2.1≥0:=g3;rw[f3] at g3;have e:((tm,(r,op,at_,nmi),ds,bd,ba,bdt):Mach)=QiQ (bn,(un,ui,ur,uq,um),bc,bw) (tm,(r,op,at_,nmi),ds,bd,ba,bdt) a k:=(if_neg (c:=QkG (bn,(un,ui,ur,uq,um),bc,bw) (tm,(r,op,at_,nmi),ds,bd,ba,bdt) a) fun h=>g3 h.2.1).symm;exact .mk [] [3] _ R R R R R (congrArg (fun z:Mach=>[some (Blk.arr Qj z.2.2.1)]) e) (congrArg (fun z:Mach=>QnJ z 0) e)
 ·rename_i g1 g2;obtain⟨f2,f3⟩:=QcU (a:=adI a) g1;have g2:¬fI (bn,(un,ui,ur,uq,um),bc,bw) (adI a)<(ds.length:Int):=g2;rw[f3] at g2;have e:((tm,(r,op,at_,nmi),ds,bd,ba,bdt):Mach)=QiQ (bn,(un,ui,ur,uq,um),bc,bw) (tm,(r,op,at_,nmi),ds,bd,ba,bdt) a k:=(if_neg (c:=QkG (bn,(un,ui,ur,uq,um),bc,bw) (tm,(r,op,at_,nmi),ds,bd,ba,bdt) a) fun h=>g2 h.1.2).symm;exact .mk [] [3] _ R R R R R (congrArg (fun z:Mach=>[some (Blk.arr Qj z.2.2.1)]) e) (congrArg (fun z:Mach=>QnJ z 0) e)
 ·rename_i g1;have g1:¬0≤Qn (bn,(un,ui,ur,uq,um),bc,bw) (adI a):=g1;have e:((tm,(r,op,at_,nmi),ds,bd,ba,bdt):Mach)=QiQ (bn,(un,ui,ur,uq,um),bc,bw) (tm,(r,op,at_,nmi),ds,bd,ba,bdt) a k:=(if_neg (c:=QkG (bn,(un,ui,ur,uq,um),bc,bw) (tm,(r,op,at_,nmi),ds,bd,ba,bdt) a) fun h=>g1 h.1.1).symm;exact .mk [] [3] _ R R R R R (congrArg (fun z:Mach=>[some (Blk.arr Qj z.2.2.1)]) e) (congrArg (fun z:Mach=>QnJ z 0) e)
end Go.Proofs.YtofgbclopbmlcaaGreat

