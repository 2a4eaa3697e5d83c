/- Part 24 of the proof. Conditions: none. -/
import Derived.Test.YtofgbclopbmlcaaGreatG13
import Derived.Test.YtofgbclopbmlcaaGreatG23
import Derived.Test.YtofgbclopbmlcaaGreatG14
import Derived.Test.YtofgbclopbmlcaaGreatG16
namespace Go.Proofs.YtofgbclopbmlcaaGreat
open Go.IntKind (i64)
set_option maxHeartbeats 8000000
open Go.Fw
set_option linter.unusedVariables false
set_option linter.unusedSimpArgs false
set_option linter.constructorNameAsVariable false
set_option maxRecDepth 100000
def QKK:List V1→List Blk→Option (Ins×Int):=fun a b=>match a,b with
 | [.agg [.imm (.int .i64 o),.imm (.string s),.imm (.int .i64 m),.ro (.pair (.int .i64) (.pair (.int .i64) (.pair (.int .i64) (.sl (.pair (.int .i64) (.pair (.int .i64) (.pair (.int .i64) (.int .i64)))))))) l],.c (.ptr 0 0)],[.var [.imm (.int .i64 op)]]=>some ((o,s,m,l),op)
 |_,_=>none
theorem Qvm{a:List V1}{b:List Blk}{x:Ins×Int}(h:QKK a b=some x):a=[.agg [iv .i64 x.1.1,.imm (.string x.1.2.1),iv .i64 x.1.2.2.1,.ro Qp x.1.2.2.2],.c (.ptr 0 0)]∧b=[.var [iv .i64 x.2]]:=by
 unfold QKK at h;split at h
 ·injection h with h;subst h;exact⟨rfl,rfl⟩
 ·cases h
def QIJ:WSpec:=⟨Ins×Int,fun x=>[.agg [iv .i64 x.1.1,.imm (.string x.1.2.1),iv .i64 x.1.2.2.1,.ro Qp x.1.2.2.2],.c (.ptr 0 0)],fun x=>[.var [iv .i64 x.2]],QKK,
 fun(x,op)=>(none,.cell (bv (x.1==op)),[some (.var [iv .i64 op])],[])⟩
theorem Qvn:G0 246 QIJ.spec:=by
 have q:S0 _:=(Qb (T:=tree))
 have C:=tabs q Qc;refine QIJ.gd C q Tryz.func246 (fun _ _ _ h=>Qvm h) fun(((o,s,m,l),op):Ins×Int) H=>?_
 repeat' first|(apply Ea;conv=>whnf)|apply Eb|apply Ec|apply Ed|apply Ee|(apply Ei;intro _)|apply Ef C q
 all_goals exact .k [] [0] _ R R
theorem Qqf:G0 146 QIJ.spec:=by
 have q:S0 _:=(Qb (T:=tree))
 have C:=tabs q Qc;refine QIJ.gd C q Tryz.func146 (fun _ _ _ h=>Qvm h) fun(((o,s,m,l),op):Ins×Int) H=>?_
 repeat' first|(apply Ea;conv=>whnf)|apply Eb|apply Ec|apply Ed|apply Ee|(apply Ei;intro _)|apply Ef C q
 all_goals exact .k [] [0] _ R R
def QsC(p:Ins→Bool):List Ins→Nat→Int
 | [],_=>-1
 |x::r,k=>if p x=true then (k:Int) else QsC p r (k+1)
def opP(op:Int)(x:Ins):Bool:=x.1==op
def Qgz(l:List Ins)(op:Int):Int:=QsC (opP op) l 0
theorem QkN{l:List Ins}{k:Nat}(h:k<l.length):l.drop k=l.getD k (dflt Qap)::l.drop (k+1):=by
 rw[YJ h,Yd,Ye h];rfl
theorem Qvo{p:Ins→Bool}:∀{l:List Ins} {k:Nat},QsC p l k=-1∨((k:Int)≤QsC p l k∧QsC p l k<k+l.length)
 | [],k=>.inl rfl
 |x::r,k=>by
  unfold QsC;by_cases h:p x=true
  ·rw[Yf h];right;simp only[Yx];omega
  ·rw[Yb h];rcases Qvo (p:=p) (l:=r) (k:=k+1) with N|N
   ·exact .inl N
   ·right;simp only[Yx];omega
theorem QkO(l:List Ins)(op:Int):Qgz l op=-1∨(0≤Qgz l op∧Qgz l op<l.length):=by
 have:=Qvo (p:=opP op) (l:=l) (k:=0);unfold Qgz;simpa using this
structure IdxX where
 g:Nat
 l:List Ins
 op:Int
def QD0:List V1→List Blk→Option IdxX:=fun a b=>match a,b with
 | [.c (.ro (.pair (.int .i64) (.pair .str (.pair (.int .i64) (.sl (.pair (.int .i64) (.pair (.int .i64) (.pair (.int .i64) (.sl (.pair (.int .i64) (.pair (.int .i64) (.pair (.int .i64) (.int .i64)))))))))))) l),.c (.fn g [0])],[.var [.imm (.int .i64 op)]]=>some ⟨g,l,op⟩
 |_,_=>none
theorem Qzl{a:List V1}{b:List Blk}{x:IdxX}(h:QD0 a b=some x):a=[.c (.ro Qap x.l),.c (.fn x.g [0])]∧b=[.var [iv .i64 x.op]]:=by
 unfold QD0 at h;split at h
 ·injection h with h;subst h;exact⟨rfl,rfl⟩
 ·cases h
def QHk:WSpec:=⟨IdxX,fun x=>[.c (.ro Qap x.l),.c (.fn x.g [0])],fun x=>[.var [iv .i64 x.op]],QD0,
 fun⟨g,l,op⟩=>(some ((g=246∨g=146)∧l.length≤4611686018427387904),I (Qgz l op),[some (.var [iv .i64 op])],[])⟩
theorem QBz:G0 145 QHk.spec:=by
 have q:S0 _:=Qa Qvn (Qa Qqf (Qb (T:=tree)));have C:=tabs q Qc;refine QHk.gd C q Tryz.func145 (fun _ _ _ h=>Qzl h) fun(⟨g,l,op⟩:IdxX) H=>?_
 obtain⟨hg,U⟩:(g=246∨g=146)∧l.length≤4611686018427387904:=H _ rfl;clear H;rcases hg with rfl|rfl
 ·repeat' first|(apply Ea;conv=>whnf)|apply Eb|apply Ec|apply Ed|apply Ee|(apply Ei;intro _)|apply Ef C q
  refine QA C q (A:=Unit) l.length (fun i _=>St.mk ((.cell (.ro Qap l))::(.cell (.fn 246 [0]))::E5 ((I l.length)::(I i)::E10 [])) [some (.var [iv .i64 op])])
   (fun k _=>QsC (opP op) (l.drop k) k=Qgz l op) () (Le.mk [] [0] R R R ?_) rfl fun k _ hk G=>?_
  rotate_right
  repeat' first|(apply Ea;conv=>whnf)|apply Eb|apply Ec|apply Ed|apply Ee|(apply Ei;intro _)|apply Ef C q
  all_goals(try(dsimp only[gi,Den] at *;omega))
  ·rename_i E P;have L:k<l.length:=by omega
   have O:opP op (l.getD k (dflt Qap))=true:=beq_iff_eq.2 P;refine .k [] [0] _ rfl (Qd ?_);rw[QkN L,QsC,Yf O] at G;exact G
  ·rename_i E P;have L:k<l.length:=by omega
   have O:¬opP op (l.getD k (dflt Qap))=true:=fun h=>P (beq_iff_eq.1 h)
   apply Ex () [] [0]
   ·repeat' constructor
   ·omega
   ·exact QJ (by omega)
   rw[QkN L,QsC,Yb O] at G;exact G
  ·rename_i E;refine .k [] [0] _ rfl (Qd ?_);rw[Yk (by omega)] at G;exact G
  ·repeat' constructor
 ·repeat' first|(apply Ea;conv=>whnf)|apply Eb|apply Ec|apply Ed|apply Ee|(apply Ei;intro _)|apply Ef C q
  refine QA C q (A:=Unit) l.length (fun i _=>St.mk ((.cell (.ro Qap l))::(.cell (.fn 146 [0]))::E5 ((I l.length)::(I i)::E10 [])) [some (.var [iv .i64 op])])
   (fun k _=>QsC (opP op) (l.drop k) k=Qgz l op) () (Le.mk [] [0] R R R ?_) rfl fun k _ hk G=>?_
  rotate_right
  repeat' first|(apply Ea;conv=>whnf)|apply Eb|apply Ec|apply Ed|apply Ee|(apply Ei;intro _)|apply Ef C q
  all_goals(try(dsimp only[gi,Den] at *;omega))
  ·rename_i E P;have L:k<l.length:=by omega
   have O:opP op (l.getD k (dflt Qap))=true:=beq_iff_eq.2 P;refine .k [] [0] _ rfl (Qd ?_);rw[QkN L,QsC,Yf O] at G;exact G
  ·rename_i E P;have L:k<l.length:=by omega
   have O:¬opP op (l.getD k (dflt Qap))=true:=fun h=>P (beq_iff_eq.1 h)
   apply Ex () [] [0]
   ·repeat' constructor
   ·omega
   ·exact QJ (by omega)
   rw[QkN L,QsC,Yb O] at G;exact G
  ·rename_i E;refine .k [] [0] _ rfl (Qd ?_);rw[Yk (by omega)] at G;exact G
  ·repeat' constructor
def Qvp:PSpec:=⟨[⟨false,.sl Qp⟩],fun(l,_)=>(some (List.length l*48≤140737488351232),.cell (.own 0),[.arr Qp l])⟩
theorem Qvq:G0 258 Qvp.spec:=by
 have q:S0 _:=(Qb (T:=tree))
 have C:=tabs q Qc;refine Qvp.gd C q Tryz.func258 fun(l:List Cyc) H=>?_
 have U:l.length*48≤140737488351232:=H _ rfl;clear H
 repeat' first|(apply Ea;conv=>whnf)|apply Eb|apply Ec|apply Ed|apply Ee|(apply Ei;intro _)|apply Ef C q
 all_goals first
  |exact Ya rfl
  |skip
 ·rename_i h;obtain rfl:l=[]:=Yr h;exact .le (Le.nil 2 Qp rfl) (.k [] [0] _ R R)
 ·show(0+l.length)*48≤140737488355328;omega
 ·exact .k [] [1] _ R R
def Qvr:PSpec:=⟨[⟨false,.sl Qx⟩],fun(l,_)=>(some (List.length l*32≤140737488351232),.cell (.own 0),[.arr Qx l])⟩
theorem Qvs:G0 259 Qvr.spec:=by
 have q:S0 _:=(Qb (T:=tree))
 have C:=tabs q Qc;refine Qvr.gd C q Tryz.func259 fun(l:List Stp) H=>?_
 have U:l.length*32≤140737488351232:=H _ rfl;clear H
 repeat' first|(apply Ea;conv=>whnf)|apply Eb|apply Ec|apply Ed|apply Ee|(apply Ei;intro _)|apply Ef C q
 all_goals first
  |exact Ya rfl
  |skip
 ·rename_i h;obtain rfl:l=[]:=Yr h;exact .le (Le.nil 2 Qx rfl) (.k [] [0] _ R R)
 ·show(0+l.length)*32≤140737488355328;omega
 ·exact .k [] [1] _ R R
def Qb9(l:List Cyc):Prop:=l.length*48≤140737488351232∧∀x∈l,x.2.2.2.length*32≤140737488351232
theorem QD1{l:List Cyc}{k:Nat}(h:k<l.length):l.getD k (dflt Qp)∈l:=by
 rw[Yd,Ye h];exact YW h
theorem QfT{α:Type}(l:List α)(n:Nat)(d:α):l.set n (l.getD n d)=l:=by
 apply List.ext_getElem?;intro i;rw[YY,Yd];by_cases h:n=i
 ·subst h;by_cases M:n<l.length<;>simp[M]
 ·simp[h]
def Qvt:PSpec:=⟨[⟨false,.sl Qp⟩],fun(l,_)=>(some (Qb9 l),.cell (.own 0),[.arr Qp l])⟩
theorem Qvu:G0 231 Qvt.spec:=by
 have q:S0 _:=Qa Qvq (Qa Qvs (Qb (T:=tree)));have C:=tabs q Qc;refine Qvt.gd C q Tryz.func231 fun(l:List Cyc) H=>?_
 obtain⟨N,M⟩:Qb9 l:=H _ rfl;clear H
 repeat' first|(apply Ea;conv=>whnf)|apply Eb|apply Ec|apply Ed|apply Ee|(apply Ei;intro _)|apply Ef C q
 ·exact N
 refine QA C q (A:=Unit) l.length (fun i _=>St.mk (E3 ((.cell (.own 0))::E3 (E1 ((I l.length)::(I i)::E10 (E3 (E1 [])))))) [some (.arr Qp l)])
  (fun k _=>True) () (Le.k [] [0] ?_) trivial fun k _ hk _=>?_
 ·repeat' constructor
 repeat' first|(apply Ea;conv=>whnf)|apply Eb|apply Ec|apply Ed|apply Ee|(apply Ei;intro _)|apply Ef C q
 all_goals first
  |exact Ya rfl
  |skip
 all_goals first
  |exact .k [] [0] _ R R
  |(rename_i E
    have E:(k:Int)<(l.length:Int):=E
    first
     |(show 0≤(k:Int)∧(k:Int)<(l.length:Int)
       omega)
     |(show k<l.length
       omega)
     |exact M _ (QD1 (k:=k) (by omega)))
  |skip
 ·rename_i E;have E:(k:Int)<(l.length:Int):=E;apply Yw;apply Yw ();refine Yo (Yo ?lt (Yo ?ei trivial)) (Le.mk [] [0] R R ?hh ?ht)
  case hh=>exact Yv (fun z=>[some (Blk.arr Qp z)]) (QfT l k (dflt Qp))
  case ht=>repeat' constructor
  case lt=>omega
  case ei=>exact QJ (by omega)
abbrev QNZ:Sig:=⟨true,Qap⟩
def QBA:PSpec:=⟨[QNZ],fun(x,_)=>(some (Qb9 x.2.2.2),.agg [iv .i64 x.1,.imm (.string x.2.1),iv .i64 x.2.2.1,.ro Qp x.2.2.2],[])⟩
theorem Qqg:G0 170 QBA.spec:=by
 have q:S0 _:=Qa Qvu (Qb (T:=tree));have C:=tabs q Qc;refine QBA.gd C q Tryz.func170 fun(x:Ins) H=>?_
 obtain⟨o,s,m,l⟩:=x;have U:Qb9 l:=H _ rfl;clear H
 repeat' first|(apply Ea;conv=>whnf)|apply Eb|apply Ec|apply Ed|apply Ee|(apply Ei;intro _)|apply Ef C q
 ·exact U
 ·exact .k [2] [] _ R R
def QrU(c:Cpu):Prop:=c.2.1.length*56≤140737488351232∧∀x∈c.2.1,Qb9 x.2.2.2
theorem Qvv{l:List Ins}{k:Nat}(h:k<l.length):l.getD k (dflt Qap)∈l:=by
 rw[Yd,Ye h];exact YW h
def Qzm(c:Cpu)(op:Int):Bool:=decide (0≤Qgz c.2.1 op)
def Qi4(c:Cpu)(op:Int):Ins:=if Qzm c op=true then c.2.1.getD (Qgz c.2.1 op).toNat (dflt Qap) else (0,ByteArray.empty,0,[])
theorem Qvw{x y:Ins}{b b':Bool}(h:x=y)(M:b=b'):AV.tup [.agg [iv .i64 x.1,.imm (.string x.2.1),iv .i64 x.2.2.1,.ro Qp x.2.2.2],.c (bv b)]=AV.tup [.agg [iv .i64 y.1,.imm (.string y.2.1),iv .i64 y.2.2.1,.ro Qp y.2.2.2],.c (bv b')]:=by rw[h,M]
def QBB:PSpec:=⟨[Qyu,gi],fun(c,op,_)=>(some (QrU c),.tup [.agg [iv .i64 (Qi4 c op).1,.imm (.string (Qi4 c op).2.1),iv .i64 (Qi4 c op).2.2.1,.ro Qp (Qi4 c op).2.2.2],.c (bv (Qzm c op))],[])⟩
theorem Qzn:G0 211 QBB.spec:=by
 have q:S0 _:=Qa Qqg (Qa QBz (Qb (T:=tree)));have C:=tabs q Qc;refine QBB.gd C q Tryz.func211 fun(c:Cpu) (op:Int) H=>?_
 obtain⟨w,f,t,u,B⟩:=c;obtain⟨N,M⟩:QrU (w,f,t,u,B):=H _ rfl;have N:f.length*56≤140737488351232:=N;have M:∀x∈f,Qb9 x.2.2.2:=M;clear H
 repeat' first|(apply Ea;conv=>whnf)|apply Eb|apply Ec|apply Ed|apply Ee|(apply Ei;intro _)|apply Ef C q
 all_goals first
  |exact Ya rfl
  |skip
 have G:=QkO f op
 all_goals first
  |exact⟨.inl rfl,by show f.length≤_;omega⟩
  |(rename_i E
    have E:¬Qgz f op<0:=E
    first
     |(show 0≤Qgz f op∧Qgz f op<(f.length:Int)
       have G:=QkO f op
       omega)
     |(have G:=QkO f op
       exact M _ (Qvv (k:=(Qgz f op).toNat) (by omega))))
  |skip
 ·rename_i E;have E:Qgz f op<0:=E;have J:Qzm (w,f,t,u,B) op=false:=Yn (by show¬0≤Qgz f op;omega)
  refine .le (Le.nilroH 2 [iv .i64 0,.imm (.string ByteArray.empty),iv .i64 0,.imm (.slice none 0 0)] [iv .i64 0,.imm (.string ByteArray.empty),iv .i64 0,.ro Qp []] rfl ⟨.inl rfl,.inl rfl,.inl rfl,.inr ⟨rfl,_,rfl⟩,trivial⟩)
   (.k [] [] _ rfl (Qvw (x:=(0,ByteArray.empty,0,[])) ?_ ?_))
  ·unfold Qi4;rw[J];rfl
  ·exact J.symm
 ·rename_i E;have E:¬Qgz f op<0:=E;have J:Qzm (w,f,t,u,B) op=true:=Yl (by show 0≤Qgz f op;omega);refine .k [] [] _ rfl (Qvw (x:=f.getD (Qgz f op).toNat (dflt Qap)) ?_ ?_)
  ·unfold Qi4;rw[J];rfl
  ·exact J.symm
def QeT:List Stp→List Int→List Int×Bool
 | [],r=>(r,false)
 |s::rest,r=>if doE s r=true then (doR s r,true) else QeT rest (doR s r)
theorem QkP(s:Stp)(r:List Int):(doR s r).length=9:=by unfold doR;split<;>rfl
theorem QkQ{l:List Stp}{k:Nat}(h:k<l.length):l.drop k=l.getD k (dflt Qx)::l.drop (k+1):=by
 rw[YJ h,Yd,Ye h];rfl
def QbR(x:Cyc)(r:List Int)(D:Int):List Int:=if x.1=1∧0≤x.2.2.1∧x.2.2.1<9 then r.set x.2.2.1.toNat D else r
def QL(c:Cpu)(k:Kor)(data:Int):Kor :=
 if k.2.1=-1 then (QH k.1,if Qzm c (data%256)=true then (if 0<(Qi4 c (data%256)).2.2.2.length then data%256 else -1) else 259,0,k.2.2.2)
 else if Qfg c k.2.1 k.2.2.1=true then
  (if (QeT (doF c k.2.1 k.2.2.1).2.2.2 (QbR (doF c k.2.1 k.2.2.1) (QH k.1) (data%256))).2=true∨k.2.2.1+1≥(QW c k.2.1).length
   then ((QeT (doF c k.2.1 k.2.2.1).2.2.2 (QbR (doF c k.2.1 k.2.2.1) (QH k.1) (data%256))).1,-1,0,k.2.2.2)
   else ((QeT (doF c k.2.1 k.2.2.1).2.2.2 (QbR (doF c k.2.1 k.2.2.1) (QH k.1) (data%256))).1,k.2.1,k.2.2.1+1,k.2.2.2))
 else if k.2.1=259 then (QH k.1,259,k.2.2.1,k.2.2.2) else (QH k.1,-1,0,k.2.2.2)
def Qbc(c:Cpu)(k:Kor):Prop:=QrU c∧(Qb9 c.2.2.1∧Qb9 c.2.2.2.1∧Qb9 c.2.2.2.2)∧k.1.length=9
theorem QnR{c:Cpu}(h:QrU c)(M:Qb9 c.2.2.1∧Qb9 c.2.2.2.1∧Qb9 c.2.2.2.2)(op:Int):Qb9 (QW c op):=by
 unfold QW;split
 ·exact M.2.1
 ·split
  ·exact M.2.2
  ·split
   ·exact M.1
   ·split
    ·rename_i x S;exact h.2 x (List.mem_of_find?_eq_some S)
    ·exact⟨by simp,fun x S=>by cases S⟩
theorem Qzo{l:List Cyc}{k:Nat}(h:k<l.length):l.getD k QaD∈l:=by
 rw[Yd,Ye h];exact YW h
theorem Qvx{c:Cpu}{op at_:Int}(h:Qb9 (QW c op)):(doF c op at_).2.2.2.length*32≤140737488351232:=by
 unfold doF;by_cases J:Qfg c op at_=true
 ·rw[Yf J]
  have:0≤at_∧at_<(QW c op).length:=by
   unfold Qfg at J;simp at J;exact J.2
  exact h.2 _ (Qzo (by omega))
 ·rw[Yb J];simp[QaD]
def Qzp:PSpec:=⟨[Qyu,gK,gi],fun(c,k,d,_)=>(some (Qbc c k),.agg [.run .i64 9 (QL c k d).1,iv .i64 (QL c k d).2.1,iv .i64 (QL c k d).2.2.1,bv (QL c k d).2.2.2],[])⟩
def QBC:PSpec:=⟨[Qyu,gK],fun(c,k,_)=>(none,.agg [.run .i64 9 k.1,iv .i64 (if k.2.1=259 then 259 else -1),iv .i64 (if k.2.1=259 then k.2.2.1 else 0),bv k.2.2.2],[])⟩
theorem Qzq:G0 212 QBC.spec:=by
 have q:S0 _:=(Qb (T:=tree))
 have C:=tabs q Qc;refine QBC.gd C q Tryz.func212 fun(c:Cpu) (k:Kor) H=>?_
 obtain⟨r,op,at_,F⟩:=k
 repeat' first|(apply Ea;conv=>whnf)|apply Eb|apply Ec|apply Ed|apply Ee|(apply Ei;intro _)|apply Ef C q
 all_goals first
  |exact Ya rfl
  |skip
 all_goals(refine .k [] [] _ rfl (QpN (x:=(r,if op=259 then 259 else -1,if op=259 then at_ else 0,F)) ?_))
 all_goals(simp_all)
theorem Qex{c:Cpu}{r:List Int}{op at_ d:Int}{F:Bool}(h:op=-1):QL c (r,op,at_,F) d=(QH r,if Qzm c (d%256)=true then (if 0<(Qi4 c (d%256)).2.2.2.length then d%256 else -1) else 259,0,F):=by
 unfold QL;rw[Yf h]
theorem Qiu{c:Cpu}{r:List Int}{op at_ d:Int}{F:Bool}(h:¬op=-1)(J:Qfg c op at_=false):QL c (r,op,at_,F) d=(QH r,if op=259 then 259 else -1,if op=259 then at_ else 0,F):=by
 unfold QL;rw[Yb h,Yb (by show¬Qfg c op at_=true;rw[J];decide)];by_cases Q:op=259
 ·rw[Yf Q,Yf Q,Yf Q]
 ·rw[Yb Q,Yb Q,Yb Q]
theorem Qdj{c:Cpu}{r z:List Int}{op at_ d:Int}{F e:Bool}{x:Cyc}(h:¬op=-1)(J:Qfg c op at_=true)(S:doF c op at_=x)(V:QeT x.2.2.2 (QbR x (QH r) (d%256))=(z,e)) :
 QL c (r,op,at_,F) d=if e=true∨at_+1≥(QW c op).length then (z,-1,0,F) else (z,op,at_+1,F):=by
 unfold QL;rw[Yb h,Yf (show Qfg c op at_=true from J)];show(if (QeT (doF c op at_).2.2.2 (QbR (doF c op at_) (QH r) (d%256))).2=true∨_ then _ else _)=_;rw[S,V]
theorem QD2{c:Cpu}{op at_:Int}(h:Qfg c op at_=true):0≤at_∧at_<(QW c op).length:=by
 unfold Qfg at h;simp at h;exact h.2
theorem Qvy:G0 134 Qzp.spec:=by
 have q:S0 _:=Qa QnH (Qa QU (Qa Qzn (Qa QpM (Qa Qzq (Qa QKI (Qa QuH (Qb (T:=tree))))))));have C:=tabs q Qc;refine Qzp.gd C q Tryz.func134 fun(c:Cpu) (k:Kor) (data:Int) H=>?_
 obtain⟨w,f,t,u,B⟩:=c;obtain⟨r,op,at_,F⟩:=k;obtain⟨N,M,h3⟩:Qbc (w,f,t,u,B) (r,op,at_,F):=H _ rfl;clear H;have hC:=QnR N M op;have hS:=Qvx (at_:=at_) hC;have h1':f.length*56≤140737488351232:=N.1
 repeat' first|(apply Ea;conv=>whnf)|apply Eb|apply Ec|apply Ed|apply Ee|(apply Ei;intro _)|apply Ef C q
 all_goals first
  |exact Ya rfl
  |exact h3
  |exact N
  |skip
 all_goals(try simp only[Qf] at *)
 all_goals(try dsimp only at *)
 all_goals(have h8:data%2 ^ (Int.toNat 8)=data%256:=rfl)
 all_goals(try simp only[h8] at *)
 all_goals clear h8
 all_goals first
  |(show f.length≤4611686018427387904
    omega)
  |(show 0≤(doF (w,f,t,u,B) op at_).2.2.1∧(doF (w,f,t,u,B) op at_).2.2.1<((9:Nat):Int)
    omega)
  |(show(doF (w,f,t,u,B) op at_).2.2.1.toNat<9
    omega)
  |(refine .k [] [] _ rfl (QpN ?_)
    rw[Qex (by assumption)]
    simp_all
    done)
  |(refine .k [] [] _ rfl (QpN ?_)
    rw[Qiu (by assumption) (by simp_all)]
    done)
  |skip
 all_goals
  have J:Qfg (w,f,t,u,B) op at_=true:=by simp_all
  have hin:=QD2 J;have hCl:(QW (w,f,t,u,B) op).length*48≤140737488351232:=hC.1;have ewa:i64.wrap (at_+1)=at_+1:=w64 (by omega) (by omega)
 all_goals first
  |(have X:QbR (doF (w,f,t,u,B) op at_) (QH r) (data%256)=((QH r).set (doF (w,f,t,u,B) op at_).2.2.1.toNat (data%256)):=Yf ⟨by assumption,by omega,by omega⟩
    refine QA C q (doF (w,f,t,u,B) op at_).2.2.2.length (fun i (z:List Int)=>St.mk (E3 ((.cell (.ptr 0 0))::(.cell (.ptr 1 0))::E1 ((.cell (.ptr 2 0))::E40 (E20 (E10 ((.cell (.ro Qx (doF (w,f,t,u,B) op at_).2.2.2))::(I ((doF (w,f,t,u,B) op at_).2.2.2.length:Int))::(I i)::E20 (E5 (E3 [])))))))) [some (.var [.imm (.string w),.ro Qap f,.ro Qp t,.ro Qp u,.ro Qp B]),some (.var [.run .i64 9 z,iv .i64 op,iv .i64 (i64.wrap (at_+1)),bv F]),some (.var [.run .i64 9 [0,0,0,0,0,0,0,0,0],iv .i64 0,iv .i64 0,bv false])]) (fun j z=>QeT ((doF (w,f,t,u,B) op at_).2.2.2.drop j) z=QeT (doF (w,f,t,u,B) op at_).2.2.2 (QbR (doF (w,f,t,u,B) op at_) (QH r) (data%256))∧z.length=9) ((QH r).set (doF (w,f,t,u,B) op at_).2.2.1.toNat (data%256)) (Le.mk [] [0,1,2] R R (by exact rfl) (by repeat' constructor)) ⟨by rw[X];rfl,by rw[YH];rfl⟩ fun j z hj G=>?_)
  |(have X:QbR (doF (w,f,t,u,B) op at_) (QH r) (data%256)=QH r:=Yb (fun⟨a,b,c⟩=>by omega)
    refine QA C q (doF (w,f,t,u,B) op at_).2.2.2.length (fun i (z:List Int)=>St.mk (E3 ((.cell (.ptr 0 0))::(.cell (.ptr 1 0))::E1 ((.cell (.ptr 2 0))::E40 (E20 (E10 ((.cell (.ro Qx (doF (w,f,t,u,B) op at_).2.2.2))::(I ((doF (w,f,t,u,B) op at_).2.2.2.length:Int))::(I i)::E20 (E5 (E3 [])))))))) [some (.var [.imm (.string w),.ro Qap f,.ro Qp t,.ro Qp u,.ro Qp B]),some (.var [.run .i64 9 z,iv .i64 op,iv .i64 (i64.wrap (at_+1)),bv F]),some (.var [.run .i64 9 [0,0,0,0,0,0,0,0,0],iv .i64 0,iv .i64 0,bv false])]) (fun j z=>QeT ((doF (w,f,t,u,B) op at_).2.2.2.drop j) z=QeT (doF (w,f,t,u,B) op at_).2.2.2 (QbR (doF (w,f,t,u,B) op at_) (QH r) (data%256))∧z.length=9) (QH r) (Le.mk [] [0,1,2] R R (by exact rfl) (by repeat' constructor)) ⟨by rw[X];rfl,rfl⟩ fun j z hj G=>?_)
  |skip
 all_goals
  obtain⟨G,V⟩:=G
  repeat' first|(apply Ea;conv=>whnf)|apply Eb|apply Ec|apply Ed|apply Ee|(apply Ei;intro _)|apply Ef C q
 all_goals(try simp only[Qf] at *)
 all_goals(try dsimp only at *)
 all_goals first
  |exact Ya rfl
  |exact V
  |(show f.length≤4611686018427387904
    omega)
  |(show 0≤(j:Int)∧(j:Int)<((doF (w,f,t,u,B) op at_).2.2.2.length:Int)
    omega)
  |(show j<(doF (w,f,t,u,B) op at_).2.2.2.length
    omega)
  |skip
 all_goals clear C q
 all_goals first
  |(rename_i E h
    have E:(j:Int)<((doF (w,f,t,u,B) op at_).2.2.2.length:Int):=E;have W:doE ((doF (w,f,t,u,B) op at_).2.2.2.getD j (dflt Qx)) z=true:=h
    have K:QeT (doF (w,f,t,u,B) op at_).2.2.2 (QbR (doF (w,f,t,u,B) op at_) (QH r) (data%256))=(doR ((doF (w,f,t,u,B) op at_).2.2.2.getD j (dflt Qx)) z,true):=by
     rw[←G,QkQ (by omega),QeT,Yf W]
    refine .k [] [] _ rfl (QpN ?_)
    rw[Qdj (by assumption) J rfl K,Yf (.inl rfl)];rfl)
  |(rename_i E h
    have E:(j:Int)<((doF (w,f,t,u,B) op at_).2.2.2.length:Int):=E
    have W:¬doE ((doF (w,f,t,u,B) op at_).2.2.2.getD j (dflt Qx)) z=true:=fun e=>by
     have h:doE ((doF (w,f,t,u,B) op at_).2.2.2.getD j (dflt Qx)) z=false:=h;rw[h] at e;cases e
    apply Yw;apply Yw (doR ((doF (w,f,t,u,B) op at_).2.2.2.getD j (dflt Qx)) z);refine Yo (Yo ?lt (Yo ?ei ?inv)) (Le.k [] [0,1,2] ?hh)
    case hh=>repeat' constructor
    case lt=>omega
    case ei=>exact QJ (by omega)
    case inv =>
     rw[QkQ (by omega),QeT,Yb W] at G
     exact⟨G,QkP _ _⟩)
  |(rename_i E h
    have E:¬(j:Int)<((doF (w,f,t,u,B) op at_).2.2.2.length:Int):=E;have h:i64.wrap (at_+1)≥((QW (w,f,t,u,B) op).length:Int):=h;rw[ewa] at h
    have K:QeT (doF (w,f,t,u,B) op at_).2.2.2 (QbR (doF (w,f,t,u,B) op at_) (QH r) (data%256))=(z,false):=by
     rw[←G,Yk (by omega)];rfl
    refine .k [] [] _ rfl (QpN ?_)
    rw[Qdj (by assumption) J rfl K,Yf (.inr h)])
  |(rename_i E h
    have E:¬(j:Int)<((doF (w,f,t,u,B) op at_).2.2.2.length:Int):=E;have h:¬i64.wrap (at_+1)≥((QW (w,f,t,u,B) op).length:Int):=h
    have K:QeT (doF (w,f,t,u,B) op at_).2.2.2 (QbR (doF (w,f,t,u,B) op at_) (QH r) (data%256))=(z,false):=by
     rw[←G,Yk (by omega)];rfl
    refine .k [] [] _ rfl (QpN ?_)
    rw[Qdj (by assumption) J rfl K,ewa,Yb (fun e=>e.elim (fun e=>by cases e) (fun e=>h (by rw[ewa];exact e)))])
  |skip
 all_goals trace_state
def QvJ:List V1→List Blk→Option Kor:=fun a b=>match a,b with
 | [.c (.ptr 0 0)],[.var [.run .i64 9 r,.imm (.int .i64 op),.imm (.int .i64 at_),.imm (.bool q)]]=>some (r,op,at_,q)
 |_,_=>none
theorem QvK{a:List V1}{b:List Blk}{x:Kor}(h:QvJ a b=some x):a=[.c (.ptr 0 0)]∧b=[.var [.run .i64 9 x.1,iv .i64 x.2.1,iv .i64 x.2.2.1,bv x.2.2.2]]:=by
 unfold QvJ at h;split at h
 ·injection h with h;subst h;exact⟨rfl,rfl⟩
 ·cases h
def QBJ:WSpec:=⟨Kor,fun _=>[.c (.ptr 0 0)],fun x=>[.var [.run .i64 9 x.1,iv .i64 x.2.1,iv .i64 x.2.2.1,bv x.2.2.2]],QvJ,
 fun(r,op,at_,q)=>(none,.agg [.run .i64 9 r,iv .i64 (-1),iv .i64 0,bv q],[some (.var [.run .i64 9 r,iv .i64 (-1),iv .i64 0,bv q])],[])⟩
theorem QEa:G0 144 QBJ.spec:=by
 have w:S0 _:=(Qb (T:=tree))
 have A:=tabs w Qc;refine QBJ.gd A w Tryz.func144 (fun _ _ _ h=>QvK h) fun((r,op,at_,q):Kor) J=>?_
 repeat' first|(apply Ea;conv=>whnf)|apply Eb|apply Ec|apply Ed|apply Ee|(apply Ei;intro _)|apply Ef A w
 all_goals exact .k [] [0] _ R R
theorem QHr{c:Cpu}{op at_:Int}(h:¬op=-1)(G:0≤at_)(E:at_<(QW c op).length):Qfg c op at_=true:=by
 unfold Qfg;rw[Yn h,Yl G,Yl E];rfl
theorem QHs{c:Cpu}{op at_:Int}(h:¬(0≤at_∧at_<(QW c op).length)):Qfg c op at_=false:=by
 unfold Qfg;by_cases G:0≤at_
 ·rw[Yl G,Yn (fun E=>h ⟨G,E⟩)];simp
 ·rw[Yn G];simp
theorem QnW:G0 78 Qzp.spec:=by
 have w:S0 _:=Qa QkA (Qa QbC (Qa QEa (Qa Qqf (Qa QBz (Qa Qq (Qa QG (Qa QrT (Qa QpL (Qb (T:=tree))))))))));have A:=tabs w Qc;refine Qzp.gd A w Tryz.func78 fun(c:Cpu) (k:Kor) (data:Int) J=>?_
 obtain⟨m,d,f,g,n⟩:=c;obtain⟨r,op,at_,q⟩:=k;obtain⟨E,h2,h3⟩:Qbc (m,d,f,g,n) (r,op,at_,q):=J _ rfl;clear J;have hC:=QnR E h2 op;have hS:=Qvx (at_:=at_) hC;have h1':d.length*56≤140737488351232:=E.1
 repeat' first|(apply Ea;conv=>whnf)|apply Eb|apply Ec|apply Ed|apply Ee|(apply Ei;intro _)|apply Ef A w
 all_goals first
  |exact Ya rfl
  |exact h3
  |exact E
  |skip
 all_goals(try simp only[Qf] at *)
 all_goals(try dsimp only at *)
 all_goals first
  |exact⟨.inr trivial,by show d.length≤_;omega⟩
  |exact⟨.inr rfl,by show d.length≤_;omega⟩
  |(show d.length≤4611686018427387904
    omega)
  |(have B:=QkO d (data%256)
    show 0≤Qgz d (data%256)∧Qgz d (data%256)<(d.length:Int)
    omega)
  |(show 0≤at_∧at_<((QW (m,d,f,g,n) op).length:Int)
    omega)
  |(rename_i p
    have p:0≤((QW (m,d,f,g,n) op).getD at_.toNat QaD).2.2.1∧((QW (m,d,f,g,n) op).getD at_.toNat QaD).2.2.1≤6:=p;have O:((QW (m,d,f,g,n) op).getD at_.toNat QaD).2.2.1.toNat<9:=by omega
    exact O)
  |(rename_i p
    have p:((QW (m,d,f,g,n) op).getD at_.toNat QaD).2.2.1=7∨((QW (m,d,f,g,n) op).getD at_.toNat QaD).2.2.1=8:=p;have O:((QW (m,d,f,g,n) op).getD at_.toNat QaD).2.2.1.toNat<9:=by omega
    exact O)
  |(rename_i p
    clear A w;have p:0≤((QW (m,d,f,g,n) op).getD at_.toNat QaD).2.2.1∧((QW (m,d,f,g,n) op).getD at_.toNat QaD).2.2.1≤6:=p
    exact(⟨p.1,by omega⟩:0≤((QW (m,d,f,g,n) op).getD at_.toNat QaD).2.2.1∧((QW (m,d,f,g,n) op).getD at_.toNat QaD).2.2.1<(9:Int)))
  |(rename_i p
    clear A w;have p:((QW (m,d,f,g,n) op).getD at_.toNat QaD).2.2.1=7∨((QW (m,d,f,g,n) op).getD at_.toNat QaD).2.2.1=8:=p
    exact(⟨by omega,by omega⟩:0≤((QW (m,d,f,g,n) op).getD at_.toNat QaD).2.2.1∧((QW (m,d,f,g,n) op).getD at_.toNat QaD).2.2.1<(9:Int)))
  |(show((QW (m,d,f,g,n) op).getD at_.toNat QaD).2.2.1.toNat<9
    try simp only[QV,Qaa,YB] at *
    omega)
  |(rename_i y hlt
    have hh:Qzm (m,d,f,g,n) (data%256)=false:=Yn (by show¬0≤Qgz d (data%256);omega);refine .k [] [] _ rfl (QpN ?_)
    rw[Qex y,Yb (by rw[hh];decide)])
  |(rename_i y L t
    have t:((d.getD (Qgz d (data%256)).toNat (dflt Qap)).2.2.2.length:Int)>0:=t;have hh:Qzm (m,d,f,g,n) (data%256)=true:=Yl (by show 0≤Qgz d (data%256);omega);have M:Qi4 (m,d,f,g,n) (data%256)=d.getD (Qgz d (data%256)).toNat (dflt Qap):=Yf hh;refine .k [] [] _ rfl (QpN ?_)
    rw[Qex y,Yf hh,M,Yf (by omega)])
  |(rename_i y L t
    have t:¬((d.getD (Qgz d (data%256)).toNat (dflt Qap)).2.2.2.length:Int)>0:=t;have hh:Qzm (m,d,f,g,n) (data%256)=true:=Yl (by show 0≤Qgz d (data%256);omega);have M:Qi4 (m,d,f,g,n) (data%256)=d.getD (Qgz d (data%256)).toNat (dflt Qap):=Yf hh;refine .k [] [] _ rfl (QpN ?_)
    rw[Qex y,Yf hh,M,Yb (by omega),y])
  |(have F:Qfg (m,d,f,g,n) op at_=false:=QHs (by omega)
    refine .k [] [] _ rfl (QpN ?_);rw[Qiu (by assumption) F]
    simp_all
    done)
  |skip
 all_goals
  have F:Qfg (m,d,f,g,n) op at_=true:=QHr (by assumption) (by omega) (by omega);have hCl:(QW (m,d,f,g,n) op).length*48≤140737488351232:=hC.1;have ewa:i64.wrap (at_+1)=at_+1:=w64 (by omega) (by omega);have H:doF (m,d,f,g,n) op at_=((QW (m,d,f,g,n) op).getD at_.toNat QaD):=Yf F;rw[H] at hS
 all_goals first
  |(have u:((QW (m,d,f,g,n) op).getD at_.toNat QaD).1=1:=by assumption
    have p:0≤((QW (m,d,f,g,n) op).getD at_.toNat QaD).2.2.1∧((QW (m,d,f,g,n) op).getD at_.toNat QaD).2.2.1≤6:=by assumption
    have D:QbR ((QW (m,d,f,g,n) op).getD at_.toNat QaD) (QH r) (data%256)=((QH r).set ((QW (m,d,f,g,n) op).getD at_.toNat QaD).2.2.1.toNat (data%256)):=Yf ⟨u,by omega,by omega⟩
    refine QA A w ((QW (m,d,f,g,n) op).getD at_.toNat QaD).2.2.2.length (fun i (z:List Int)=>St.mk (E3 (E1 ((.cell (.ptr 0 0))::E1 ((.cell (.ptr 1 0))::(.cell (.fn 144 [0]))::E1 ((.cell (.ro Qp (QW (m,d,f,g,n) op)))::E40 (E40 (E3 ((.cell (.ro Qx ((QW (m,d,f,g,n) op).getD at_.toNat QaD).2.2.2))::(I (((QW (m,d,f,g,n) op).getD at_.toNat QaD).2.2.2.length:Int))::(I i)::E20 (E3 []))))))))) [some (.var [.run .i64 9 z,iv .i64 op,iv .i64 (i64.wrap (at_+1)),bv q]),some (.var [.run .i64 9 [0,0,0,0,0,0,0,0,0],iv .i64 0,iv .i64 0,bv false])]) (fun j z=>QeT (((QW (m,d,f,g,n) op).getD at_.toNat QaD).2.2.2.drop j) z=QeT ((QW (m,d,f,g,n) op).getD at_.toNat QaD).2.2.2 (QbR ((QW (m,d,f,g,n) op).getD at_.toNat QaD) (QH r) (data%256))∧z.length=9) ((QH r).set ((QW (m,d,f,g,n) op).getD at_.toNat QaD).2.2.1.toNat (data%256)) (Le.mk [] [1,3] R R (by exact rfl) (by repeat' constructor)) ⟨by rw[D];rfl,by rw[YH];rfl⟩ fun j z K B=>?_)
  |(have u:((QW (m,d,f,g,n) op).getD at_.toNat QaD).1=1:=by assumption
    have p:((QW (m,d,f,g,n) op).getD at_.toNat QaD).2.2.1=7∨((QW (m,d,f,g,n) op).getD at_.toNat QaD).2.2.1=8:=by assumption
    have D:QbR ((QW (m,d,f,g,n) op).getD at_.toNat QaD) (QH r) (data%256)=((QH r).set ((QW (m,d,f,g,n) op).getD at_.toNat QaD).2.2.1.toNat (data%256)):=Yf ⟨u,by omega,by omega⟩
    refine QA A w ((QW (m,d,f,g,n) op).getD at_.toNat QaD).2.2.2.length (fun i (z:List Int)=>St.mk (E3 (E1 ((.cell (.ptr 0 0))::E1 ((.cell (.ptr 1 0))::(.cell (.fn 144 [0]))::E1 ((.cell (.ro Qp (QW (m,d,f,g,n) op)))::E40 (E40 (E3 ((.cell (.ro Qx ((QW (m,d,f,g,n) op).getD at_.toNat QaD).2.2.2))::(I (((QW (m,d,f,g,n) op).getD at_.toNat QaD).2.2.2.length:Int))::(I i)::E20 (E3 []))))))))) [some (.var [.run .i64 9 z,iv .i64 op,iv .i64 (i64.wrap (at_+1)),bv q]),some (.var [.run .i64 9 [0,0,0,0,0,0,0,0,0],iv .i64 0,iv .i64 0,bv false])]) (fun j z=>QeT (((QW (m,d,f,g,n) op).getD at_.toNat QaD).2.2.2.drop j) z=QeT ((QW (m,d,f,g,n) op).getD at_.toNat QaD).2.2.2 (QbR ((QW (m,d,f,g,n) op).getD at_.toNat QaD) (QH r) (data%256))∧z.length=9) ((QH r).set ((QW (m,d,f,g,n) op).getD at_.toNat QaD).2.2.1.toNat (data%256)) (Le.mk [] [1,3] R R (by exact rfl) (by repeat' constructor)) ⟨by rw[D];rfl,by rw[YH];rfl⟩ fun j z K B=>?_)
  |(have p:¬(0≤((QW (m,d,f,g,n) op).getD at_.toNat QaD).2.2.1∧((QW (m,d,f,g,n) op).getD at_.toNat QaD).2.2.1≤6):=by assumption
    have hreg2:¬(((QW (m,d,f,g,n) op).getD at_.toNat QaD).2.2.1=7∨((QW (m,d,f,g,n) op).getD at_.toNat QaD).2.2.1=8):=by assumption
    have D:QbR ((QW (m,d,f,g,n) op).getD at_.toNat QaD) (QH r) (data%256)=QH r:=Yb (fun h=>by obtain⟨a,b,c⟩:=h;omega)
    refine QA A w ((QW (m,d,f,g,n) op).getD at_.toNat QaD).2.2.2.length (fun i (z:List Int)=>St.mk (E3 (E1 ((.cell (.ptr 0 0))::E1 ((.cell (.ptr 1 0))::(.cell (.fn 144 [0]))::E1 ((.cell (.ro Qp (QW (m,d,f,g,n) op)))::E40 (E40 (E3 ((.cell (.ro Qx ((QW (m,d,f,g,n) op).getD at_.toNat QaD).2.2.2))::(I (((QW (m,d,f,g,n) op).getD at_.toNat QaD).2.2.2.length:Int))::(I i)::E20 (E3 []))))))))) [some (.var [.run .i64 9 z,iv .i64 op,iv .i64 (i64.wrap (at_+1)),bv q]),some (.var [.run .i64 9 [0,0,0,0,0,0,0,0,0],iv .i64 0,iv .i64 0,bv false])]) (fun j z=>QeT (((QW (m,d,f,g,n) op).getD at_.toNat QaD).2.2.2.drop j) z=QeT ((QW (m,d,f,g,n) op).getD at_.toNat QaD).2.2.2 (QbR ((QW (m,d,f,g,n) op).getD at_.toNat QaD) (QH r) (data%256))∧z.length=9) (QH r) (Le.mk [] [1,3] R R (by exact rfl) (by repeat' constructor)) ⟨by rw[D];rfl,rfl⟩ fun j z K B=>?_)
  |(have u:¬((QW (m,d,f,g,n) op).getD at_.toNat QaD).1=1:=by assumption
    have D:QbR ((QW (m,d,f,g,n) op).getD at_.toNat QaD) (QH r) (data%256)=QH r:=Yb (fun h=>u h.1)
    refine QA A w ((QW (m,d,f,g,n) op).getD at_.toNat QaD).2.2.2.length (fun i (z:List Int)=>St.mk (E3 (E1 ((.cell (.ptr 0 0))::E1 ((.cell (.ptr 1 0))::(.cell (.fn 144 [0]))::E1 ((.cell (.ro Qp (QW (m,d,f,g,n) op)))::E40 (E40 (E3 ((.cell (.ro Qx ((QW (m,d,f,g,n) op).getD at_.toNat QaD).2.2.2))::(I (((QW (m,d,f,g,n) op).getD at_.toNat QaD).2.2.2.length:Int))::(I i)::E20 (E3 []))))))))) [some (.var [.run .i64 9 z,iv .i64 op,iv .i64 (i64.wrap (at_+1)),bv q]),some (.var [.run .i64 9 [0,0,0,0,0,0,0,0,0],iv .i64 0,iv .i64 0,bv false])]) (fun j z=>QeT (((QW (m,d,f,g,n) op).getD at_.toNat QaD).2.2.2.drop j) z=QeT ((QW (m,d,f,g,n) op).getD at_.toNat QaD).2.2.2 (QbR ((QW (m,d,f,g,n) op).getD at_.toNat QaD) (QH r) (data%256))∧z.length=9) (QH r) (Le.mk [] [1,3] R R (by exact rfl) (by repeat' constructor)) ⟨by rw[D];rfl,rfl⟩ fun j z K B=>?_)
  |skip
 all_goals
  obtain⟨B,hz⟩:=B;have hS':((QW (m,d,f,g,n) op).getD at_.toNat QaD).2.2.2.length*32≤140737488351232:=hS
  repeat' first|(apply Ea;conv=>whnf)|apply Eb|apply Ec|apply Ed|apply Ee|(apply Ei;intro _)|apply Ef A w
 all_goals(try simp only[Qf] at *)
 all_goals(try dsimp only at *)
 all_goals first
  |exact Ya rfl
  |exact hz
  |(show d.length≤4611686018427387904
    omega)
  |(show 0≤(j:Int)∧(j:Int)<(((QW (m,d,f,g,n) op).getD at_.toNat QaD).2.2.2.length:Int)
    omega)
  |(show j<((QW (m,d,f,g,n) op).getD at_.toNat QaD).2.2.2.length
    omega)
  |skip
 all_goals clear A w
 all_goals first
  |(rename_i C h
    have C:(j:Int)<(((QW (m,d,f,g,n) op).getD at_.toNat QaD).2.2.2.length:Int):=C;have N:doE (((QW (m,d,f,g,n) op).getD at_.toNat QaD).2.2.2.getD j (dflt Qx)) z=true:=h
    have s:QeT ((QW (m,d,f,g,n) op).getD at_.toNat QaD).2.2.2 (QbR ((QW (m,d,f,g,n) op).getD at_.toNat QaD) (QH r) (data%256))=(doR (((QW (m,d,f,g,n) op).getD at_.toNat QaD).2.2.2.getD j (dflt Qx)) z,true):=by
     rw[←B,QkQ (by omega),QeT,Yf N]
    refine .k [] [] _ rfl (QpN ?_)
    rw[Qdj (by assumption) F H s,Yf (.inl rfl)];rfl)
  |(rename_i C h
    have C:(j:Int)<(((QW (m,d,f,g,n) op).getD at_.toNat QaD).2.2.2.length:Int):=C
    have N:¬doE (((QW (m,d,f,g,n) op).getD at_.toNat QaD).2.2.2.getD j (dflt Qx)) z=true:=fun e=>by
     have h:doE (((QW (m,d,f,g,n) op).getD at_.toNat QaD).2.2.2.getD j (dflt Qx)) z=false:=h;rw[h] at e;cases e
    apply Yw;apply Yw (doR (((QW (m,d,f,g,n) op).getD at_.toNat QaD).2.2.2.getD j (dflt Qx)) z);refine Yo (Yo ?lt (Yo ?ei ?inv)) (Le.k [] [0,1] ?hh)
    case hh=>repeat' constructor
    case lt=>omega
    case ei=>exact QJ (by omega)
    case inv =>
     rw[QkQ (by omega),QeT,Yb N] at B
     exact⟨B,QkP _ _⟩)
  |(rename_i C h
    have C:¬(j:Int)<(((QW (m,d,f,g,n) op).getD at_.toNat QaD).2.2.2.length:Int):=C;have h:i64.wrap (at_+1)=((QW (m,d,f,g,n) op).length:Int):=h;rw[ewa] at h
    have s:QeT ((QW (m,d,f,g,n) op).getD at_.toNat QaD).2.2.2 (QbR ((QW (m,d,f,g,n) op).getD at_.toNat QaD) (QH r) (data%256))=(z,false):=by
     rw[←B,Yk (by omega)];rfl
    refine .k [] [] _ rfl (QpN ?_)
    rw[Qdj (by assumption) F H s,Yf (.inr (by omega))])
  |(rename_i C h
    have C:¬(j:Int)<(((QW (m,d,f,g,n) op).getD at_.toNat QaD).2.2.2.length:Int):=C;have h:¬i64.wrap (at_+1)=((QW (m,d,f,g,n) op).length:Int):=h;rw[ewa] at h
    have s:QeT ((QW (m,d,f,g,n) op).getD at_.toNat QaD).2.2.2 (QbR ((QW (m,d,f,g,n) op).getD at_.toNat QaD) (QH r) (data%256))=(z,false):=by
     rw[←B,Yk (by omega)];rfl
    refine .k [] [] _ rfl (QpN ?_)
    rw[Qdj (by assumption) F H s,ewa,Yb (fun e=>e.elim (fun e=>by cases e) (fun e=>by omega))])
  |skip
 all_goals trace_state
theorem QD3{α:Type}{l m:List α}(h:l.length=m.length){k:Nat}(hk:¬k<l.length)(b:l.take k=m.take k):l=m:=by
 rwa[Yh (by omega),Yh (by omega)] at b
theorem QD4{α:Type}{l m:List α}{k:Nat}(d:α)(h:k<l.length)(h3:k<m.length)(b:l.take k=m.take k)(a:l.getD k d=m.getD k d):l.take (k+1)=m.take (k+1):=by
 rw[Yd,Yd,Ye h,Ye h3] at a;rw[Je,Je,b,Ye h,Ye h3];have a:l[k]=m[k]:=a;rw[a]
theorem QKL{α:Type}{l m:List α}{k:Nat}(d:α)(a:l.getD k d≠m.getD k d):l≠m:=fun e=>a (by rw[e])
noncomputable def eqB{α:Type}(x y:α):Bool:=@decide (x=y) (Classical.propDecidable _)
theorem Qzr{α:Type}{x y:α}(h:x=y):eqB x y=true:=@Yl _ (Classical.propDecidable _) h
theorem QD5{α:Type}{x y:α}(h:x≠y):eqB x y=false:=@Yn _ (Classical.propDecidable _) h
structure EqcX where
 g:Nat
 l:List Cyc
 m:List Cyc
end Go.Proofs.YtofgbclopbmlcaaGreat

