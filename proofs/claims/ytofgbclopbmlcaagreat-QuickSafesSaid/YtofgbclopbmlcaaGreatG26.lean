/- Part 26 of the proof. Conditions: none. -/
import Derived.Test.YtofgbclopbmlcaaGreatG23
import Derived.Test.YtofgbclopbmlcaaGreatG25
import Derived.Test.YtofgbclopbmlcaaGreatG24
namespace Go.Proofs.YtofgbclopbmlcaaGreat
open Go.IntKind (i64)
set_option maxHeartbeats 8000000
open Go.Fw
set_option linter.unusedVariables false
set_option linter.unusedSimpArgs false
set_option maxRecDepth 100000
abbrev Bsv:=Int×Int×Int
def Qk(c:Cpu)(k:Kor)(irq:Bool):Kor×Bsv :=
 let k1:Kor:=if k.2.1=-1 then Qbh c (QE k.1,k.2) irq else (QE k.1,k.2)
 if k1.2.1=-1 then ((plR 0 k1.1,k1.2),(1,plA 0 k1.1,0))
 else if Qfc c k1.2.1 k1.2.2.1=false∨(doF c k1.2.1 k1.2.2.1).1=0 then (k1,(0,0,0))
 else
  let x:=doF c k1.2.1 k1.2.2.1
  ((plR x.2.1 k1.1,k1.2),(x.1,plA x.2.1 k1.1,if x.1=2∧0≤x.2.2.1∧x.2.2.1<9 then k1.1.getD x.2.2.1.toNat 0%256 else 0))
theorem QF5{r:List Int}{a b:Int}{n:Bool}{p q s:Int}{x:Kor×Bsv}(h:((r,a,b,n),(p,q,s))=x):AV.tup [.agg [.run .i64 9 r,iv .i64 a,iv .i64 b,bv n],.agg [iv .i64 p,iv .i64 q,iv .i64 s]] =
 AV.tup [.agg [.run .i64 9 x.1.1,iv .i64 x.1.2.1,iv .i64 x.1.2.2.1,bv x.1.2.2.2],.agg [iv .i64 x.2.1,iv .i64 x.2.2.1,iv .i64 x.2.2.2]]:=by subst h;rfl
def QJ3(c:Cpu)(k:Kor):Prop:=c.2.1.length≤4611686018427387904∧k.1.length=9
theorem Qer(c:Cpu)(k:Kor)(i:Bool):(Qbh c k i).1=k.1:=by
 unfold Qbh;split
 ·rfl
 ·split<;>rfl
def QHd:PSpec:=⟨[Qx5,gK,gB],fun(c,k,i,_)=>(some (QJ3 c k),.tup [.agg [.run .i64 9 (Qk c k i).1.1,iv .i64 (Qk c k i).1.2.1,iv .i64 (Qk c k i).1.2.2.1,bv (Qk c k i).1.2.2.2],.agg [iv .i64 (Qk c k i).2.1,iv .i64 (Qk c k i).2.2.1,iv .i64 (Qk c k i).2.2.2]],[])⟩
theorem QAL:G0 132 QHd.spec:=by
 have hP:S0 _:=Qa Qnu (Qa Qx9 (Qa Qum (Qa Qpz (Qa QN (Qb (T:=tree))))));have hT:=tabs hP Qc;refine QHd.gd hT hP Tryz.func132 fun(c:Cpu) (k:Kor) (i:Bool) hp=>?_
 obtain⟨cn,ci,cr,cq,cm⟩:=c;obtain⟨r,op,at_,n⟩:=k;obtain⟨hz,h9⟩:ci.length≤4611686018427387904∧r.length=9:=hp _ rfl;clear hp
 repeat' first|(apply Ea;conv=>whnf)|apply Eb|apply Ec<;>intro _|apply Ed<;>intro _|apply Ee<;>intro _|apply Ef hT hP
 all_goals first
  |exact of_decide_eq_true rfl
  |exact hz
  |exact h9
  |exact⟨hz,_,rfl⟩
  |exact⟨_,rfl⟩
  |skip
 all_goals(try refine .k [] [] _ rfl (QF5 ?_))
 all_goals(simp only[Qf,Qk] at *)
 all_goals
  have hs:=Qer (cn,ci,cr,cq,cm) (QE r,op,at_,n) i;generalize Qbh (cn,ci,cr,cq,cm) (QE r,op,at_,n) i=z at *;obtain⟨r2,o2,a2,n2⟩:=z;dsimp only at *;subst hs
 all_goals(try exact⟨_,rfl⟩)
 all_goals(try omega)
 all_goals clear hT hP
 all_goals(try simp_all)
 all_goals(try omega)
theorem QpX(r:List Int)(n:Nat):0≤(QE r).getD n 0∧(QE r).getD n 0<65536:=by
 match n with
 |0|1|2|3|4|5|6|7|8=>simp[QE];omega
 |n+9=>simp[QE]
theorem QyQ(r:List Int)(n:Nat)(k:Int):((QE r).getD n 0).tmod k=(QE r).getD n 0%k:=Int.tmod_eq_emod_of_nonneg (QpX r n).1
theorem QyR(r:List Int)(n:Nat)(k:Int):((QE r).getD n 0).tdiv k=(QE r).getD n 0/k:=Int.tdiv_eq_ediv_of_nonneg (QpX r n).1
theorem QC5(r:List Int)(n:Nat):(i64.wrap ((QE r).getD n 0+1)).tmod 65536=((QE r).getD n 0+1)%65536:=by
 have:=QpX r n;rw[w64 (by omega) (by omega),Int.tmod_eq_emod_of_nonneg (by omega)]
theorem QLW(r:List Int):(i64.wrap ((QE r).getD 4 0/4)).tmod 2=(QE r).getD 4 0/4%2:=by
 have:=QpX r 4;rw[w64 (by omega) (by omega),Int.tmod_eq_emod_of_nonneg (by omega)]
theorem QI6:(dflt Qs:Cyc)=Qay:=rfl
theorem i0:Int.toNat 0=0:=rfl
theorem i4:Int.toNat 4=4:=rfl
theorem i7:Int.toNat 7=7:=rfl
theorem QLX(c:Cpu):QP c 256=c.2.2.2.1:=rfl
theorem QLY(c:Cpu):QP c 257=c.2.2.2.2:=rfl
theorem QyS:G0 74 QHd.spec:=by
 have hP:S0 _:=Qa Qkj (Qa Qpy (Qa Qx7 (Qa QD (Qa Qp (Qb (T:=tree))))));have hT:=tabs hP Qc;refine QHd.gd hT hP Tryz.func74 fun(c:Cpu) (k:Kor) (i:Bool) hp=>?_
 obtain⟨cn,ci,cr,cq,cm⟩:=c;obtain⟨r,op,at_,n⟩:=k;obtain⟨hz,h9⟩:ci.length≤4611686018427387904∧r.length=9:=hp _ rfl;clear hp
 repeat' first|(apply Ea;conv=>whnf)|apply Eb|apply Ec<;>intro _|apply Ed<;>intro _|apply Ee<;>intro _|apply Ef hT hP
 all_goals first
  |exact of_decide_eq_true rfl
  |exact hz
  |exact h9
  |exact⟨_,rfl⟩
  |skip
 all_goals(try refine .k [] [] _ rfl (QF5 ?_))
 all_goals(simp only[Qf] at *)
 all_goals(try omega)
 all_goals clear hT hP
 all_goals(try simp only[QyR,i4,i7,i0] at *)
 all_goals(try simp only[QyQ,QLW,QC5,QI6] at *)
 all_goals(try simp_all [Qk,Qbh,Qfc,doF,QLX,QLY,plA,plR])
 all_goals(try omega)
 ·exfalso;rename_i g1 g2 g3 g4;have g4:(0:Int)≥(cm.length:Int):=g4;omega
 ·rename_i g1 g2;have hc:Qfc (cn,ci,cr,cq,cm) op at_=false:=by unfold Qfc;rw[decide_eq_false (show¬0≤at_ by omega)];simp
  simp only[Qk,if_neg g1,hc,true_or,if_true]
set_option linter.constructorNameAsVariable false
def QI7:List V1→List Blk→Option (Ins×Int):=fun a b=>match a,b with
 | [.agg [.imm (.int .i64 o),.imm (.string s),.imm (.int .i64 m),.ro (.pair (.int .i64) (.pair (.int .i64) (.pair (.int .i64) (.sl (.pair (.int .i64) (.pair (.int .i64) (.pair (.int .i64) (.int .i64)))))))) l],.c (.ptr 0 0)],[.var [.imm (.int .i64 op)]]=>some ((o,s,m,l),op)
 |_,_=>none
theorem Qu6{a:List V1}{b:List Blk}{x:Ins×Int}(h:QI7 a b=some x):a=[.agg [iv .i64 x.1.1,.imm (.string x.1.2.1),iv .i64 x.1.2.2.1,.ro Qs x.1.2.2.2],.c (.ptr 0 0)]∧b=[.var [iv .i64 x.2]]:=by
 unfold QI7 at h;split at h
 ·injection h with h;subst h;exact⟨rfl,rfl⟩
 ·cases h
def QHe:WSpec:=⟨Ins×Int,fun x=>[.agg [iv .i64 x.1.1,.imm (.string x.1.2.1),iv .i64 x.1.2.2.1,.ro Qs x.1.2.2.2],.c (.ptr 0 0)],fun x=>[.var [iv .i64 x.2]],QI7,
 fun(x,op)=>(none,.cell (bv (x.1==op)),[some (.var [iv .i64 op])],[])⟩
theorem Qu7:G0 246 QHe.spec:=by
 have hP:S0 _:=(Qb (T:=tree))
 have hT:=tabs hP Qc;refine QHe.gd hT hP Tryz.func246 (fun _ _ _ h=>Qu6 h) fun(((o,s,m,l),op):Ins×Int) hq=>?_
 repeat' first|(apply Ea;conv=>whnf)|apply Eb|apply Ec<;>intro _|apply Ed<;>intro _|apply Ee<;>intro _|apply Ef hT hP
 all_goals exact .k [] [0] _ R R
theorem QpY:G0 146 QHe.spec:=by
 have hP:S0 _:=(Qb (T:=tree))
 have hT:=tabs hP Qc;refine QHe.gd hT hP Tryz.func146 (fun _ _ _ h=>Qu6 h) fun(((o,s,m,l),op):Ins×Int) hq=>?_
 repeat' first|(apply Ea;conv=>whnf)|apply Eb|apply Ec<;>intro _|apply Ed<;>intro _|apply Ee<;>intro _|apply Ef hT hP
 all_goals exact .k [] [0] _ R R
def Qr7(p:Ins→Bool):List Ins→Nat→Int
 | [],_=>-1
 |x::r,k=>if p x=true then (k:Int) else Qr7 p r (k+1)
def opP(op:Int)(x:Ins):Bool:=x.1==op
def Qgp(l:List Ins)(op:Int):Int:=Qr7 (opP op) l 0
theorem Qkz{l:List Ins}{k:Nat}(h:k<l.length):l.drop k=l.getD k (dflt QaA)::l.drop (k+1):=by
 rw[List.drop_eq_getElem_cons h,List.getD_eq_getElem?_getD,List.getElem?_eq_getElem h];rfl
theorem Qu8{p:Ins→Bool}:∀{l:List Ins} {k:Nat},Qr7 p l k=-1∨((k:Int)≤Qr7 p l k∧Qr7 p l k<k+l.length)
 | [],k=>.inl rfl
 |x::r,k=>by
  unfold Qr7;by_cases h:p x=true
  ·rw[if_pos h];right;simp only[List.length_cons];omega
  ·rw[if_neg h];rcases Qu8 (p:=p) (l:=r) (k:=k+1) with h1|h1
   ·exact .inl h1
   ·right;simp only[List.length_cons];omega
theorem QkA(l:List Ins)(op:Int):Qgp l op=-1∨(0≤Qgp l op∧Qgp l op<l.length):=by
 have:=Qu8 (p:=opP op) (l:=l) (k:=0);unfold Qgp;simpa using this
structure IdxX where
 g:Nat
 l:List Ins
 op:Int
def QC6:List V1→List Blk→Option IdxX:=fun a b=>match a,b with
 | [.c (.ro (.pair (.int .i64) (.pair .str (.pair (.int .i64) (.sl (.pair (.int .i64) (.pair (.int .i64) (.pair (.int .i64) (.sl (.pair (.int .i64) (.pair (.int .i64) (.pair (.int .i64) (.int .i64)))))))))))) l),.c (.fn g [0])],[.var [.imm (.int .i64 op)]]=>some ⟨g,l,op⟩
 |_,_=>none
theorem QyT{a:List V1}{b:List Blk}{x:IdxX}(h:QC6 a b=some x):a=[.c (.ro QaA x.l),.c (.fn x.g [0])]∧b=[.var [iv .i64 x.op]]:=by
 unfold QC6 at h;split at h
 ·injection h with h;subst h;exact⟨rfl,rfl⟩
 ·cases h
def QF6:WSpec:=⟨IdxX,fun x=>[.c (.ro QaA x.l),.c (.fn x.g [0])],fun x=>[.var [iv .i64 x.op]],QC6,
 fun⟨g,l,op⟩=>(some ((g=246∨g=146)∧l.length≤4611686018427387904),I (Qgp l op),[some (.var [iv .i64 op])],[])⟩
theorem QAM:G0 145 QF6.spec:=by
 have hP:S0 _:=Qa Qu7 (Qa QpY (Qb (T:=tree)));have hT:=tabs hP Qc;refine QF6.gd hT hP Tryz.func145 (fun _ _ _ h=>QyT h) fun(⟨g,l,op⟩:IdxX) hq=>?_
 obtain⟨hg,hl⟩:(g=246∨g=146)∧l.length≤4611686018427387904:=hq _ rfl;clear hq;rcases hg with rfl|rfl
 ·repeat' first|(apply Ea;conv=>whnf)|apply Eb|apply Ec<;>intro _|apply Ed<;>intro _|apply Ee<;>intro _|apply Ef hT hP
  refine QH hT hP (A:=Unit) l.length (fun i _=>St.mk ((.cell (.ro QaA l))::(.cell (.fn 246 [0]))::E5 ((I l.length)::(I i)::E10 [])) [some (.var [iv .i64 op])])
   (fun k _=>Qr7 (opP op) (l.drop k) k=Qgp l op) () (Le.mk [] [0] R R R ?_) rfl fun k _ hk hi=>?_
  rotate_right
  repeat' first|(apply Ea;conv=>whnf)|apply Eb|apply Ec<;>intro _|apply Ed<;>intro _|apply Ee<;>intro _|apply Ef hT hP
  all_goals(try(dsimp only[gi,Den] at *;omega))
  ·rename_i g1 g2;have hlt:k<l.length:=by omega
   have hp:opP op (l.getD k (dflt QaA))=true:=beq_iff_eq.2 g2;refine .k [] [0] _ rfl (Qd ?_);rw[Qkz hlt,Qr7,if_pos hp] at hi;exact hi
  ·rename_i g1 g2;have hlt:k<l.length:=by omega
   have hp:¬opP op (l.getD k (dflt QaA))=true:=fun h=>g2 (beq_iff_eq.1 h)
   apply Ex () [] [0]
   ·repeat' constructor
   ·omega
   ·exact QL (by omega)
   rw[Qkz hlt,Qr7,if_neg hp] at hi;exact hi
  ·rename_i g1;refine .k [] [0] _ rfl (Qd ?_);rw[List.drop_of_length_le (by omega)] at hi;exact hi
  ·repeat' constructor
 ·repeat' first|(apply Ea;conv=>whnf)|apply Eb|apply Ec<;>intro _|apply Ed<;>intro _|apply Ee<;>intro _|apply Ef hT hP
  refine QH hT hP (A:=Unit) l.length (fun i _=>St.mk ((.cell (.ro QaA l))::(.cell (.fn 146 [0]))::E5 ((I l.length)::(I i)::E10 [])) [some (.var [iv .i64 op])])
   (fun k _=>Qr7 (opP op) (l.drop k) k=Qgp l op) () (Le.mk [] [0] R R R ?_) rfl fun k _ hk hi=>?_
  rotate_right
  repeat' first|(apply Ea;conv=>whnf)|apply Eb|apply Ec<;>intro _|apply Ed<;>intro _|apply Ee<;>intro _|apply Ef hT hP
  all_goals(try(dsimp only[gi,Den] at *;omega))
  ·rename_i g1 g2;have hlt:k<l.length:=by omega
   have hp:opP op (l.getD k (dflt QaA))=true:=beq_iff_eq.2 g2;refine .k [] [0] _ rfl (Qd ?_);rw[Qkz hlt,Qr7,if_pos hp] at hi;exact hi
  ·rename_i g1 g2;have hlt:k<l.length:=by omega
   have hp:¬opP op (l.getD k (dflt QaA))=true:=fun h=>g2 (beq_iff_eq.1 h)
   apply Ex () [] [0]
   ·repeat' constructor
   ·omega
   ·exact QL (by omega)
   rw[Qkz hlt,Qr7,if_neg hp] at hi;exact hi
  ·rename_i g1;refine .k [] [0] _ rfl (Qd ?_);rw[List.drop_of_length_le (by omega)] at hi;exact hi
  ·repeat' constructor
def Qu9:PSpec:=⟨[⟨false,.sl Qs⟩],fun(l,_)=>(some (List.length l*48≤140737488351232),.cell (.own 0),[.arr Qs l])⟩
theorem Qva:G0 258 Qu9.spec:=by
 have hP:S0 _:=(Qb (T:=tree))
 have hT:=tabs hP Qc;refine Qu9.gd hT hP Tryz.func258 fun(l:List Cyc) hq=>?_
 have hl:l.length*48≤140737488351232:=hq _ rfl;clear hq
 repeat' first|(apply Ea;conv=>whnf)|apply Eb|apply Ec<;>intro _|apply Ed<;>intro _|apply Ee<;>intro _|apply Ef hT hP
 all_goals first
  |exact of_decide_eq_true rfl
  |skip
 ·rename_i h;obtain rfl:l=[]:=List.eq_nil_of_length_eq_zero h;exact .le (Le.nil 2 Qs rfl) (.k [] [0] _ R R)
 ·show(0+l.length)*48≤140737488355328;omega
 ·exact .k [] [1] _ R R
def Qvb:PSpec:=⟨[⟨false,.sl Qv⟩],fun(l,_)=>(some (List.length l*32≤140737488351232),.cell (.own 0),[.arr Qv l])⟩
theorem Qvc:G0 259 Qvb.spec:=by
 have hP:S0 _:=(Qb (T:=tree))
 have hT:=tabs hP Qc;refine Qvb.gd hT hP Tryz.func259 fun(l:List Stp) hq=>?_
 have hl:l.length*32≤140737488351232:=hq _ rfl;clear hq
 repeat' first|(apply Ea;conv=>whnf)|apply Eb|apply Ec<;>intro _|apply Ed<;>intro _|apply Ee<;>intro _|apply Ef hT hP
 all_goals first
  |exact of_decide_eq_true rfl
  |skip
 ·rename_i h;obtain rfl:l=[]:=List.eq_nil_of_length_eq_zero h;exact .le (Le.nil 2 Qv rfl) (.k [] [0] _ R R)
 ·show(0+l.length)*32≤140737488355328;omega
 ·exact .k [] [1] _ R R
def QdN(l:List Cyc):Prop:=l.length*48≤140737488351232∧∀x∈l,x.2.2.2.length*32≤140737488351232
theorem QC7{l:List Cyc}{k:Nat}(h:k<l.length):l.getD k (dflt Qs)∈l:=by
 rw[List.getD_eq_getElem?_getD,List.getElem?_eq_getElem h];exact List.getElem_mem h
theorem Qmk{α:Type}(l:List α)(n:Nat)(d:α):l.set n (l.getD n d)=l:=by
 apply List.ext_getElem?;intro i;rw[List.getElem?_set,List.getD_eq_getElem?_getD];by_cases h:n=i
 ·subst h;by_cases h2:n<l.length<;>simp[h2]
 ·simp[h]
def Qvd:PSpec:=⟨[⟨false,.sl Qs⟩],fun(l,_)=>(some (QdN l),.cell (.own 0),[.arr Qs l])⟩
theorem Qve:G0 231 Qvd.spec:=by
 have hP:S0 _:=Qa Qva (Qa Qvc (Qb (T:=tree)));have hT:=tabs hP Qc;refine Qvd.gd hT hP Tryz.func231 fun(l:List Cyc) hq=>?_
 obtain⟨h1,h2⟩:QdN l:=hq _ rfl;clear hq
 repeat' first|(apply Ea;conv=>whnf)|apply Eb|apply Ec<;>intro _|apply Ed<;>intro _|apply Ee<;>intro _|apply Ef hT hP
 ·exact h1
 refine QH hT hP (A:=Unit) l.length (fun i _=>St.mk (E3 ((.cell (.own 0))::E3 (E1 ((I l.length)::(I i)::E10 (E3 (E1 [])))))) [some (.arr Qs l)])
  (fun k _=>True) () (Le.k [] [0] ?_) trivial fun k _ hk _=>?_
 ·repeat' constructor
 repeat' first|(apply Ea;conv=>whnf)|apply Eb|apply Ec<;>intro _|apply Ed<;>intro _|apply Ee<;>intro _|apply Ef hT hP
 all_goals first
  |exact of_decide_eq_true rfl
  |skip
 all_goals first
  |exact .k [] [0] _ R R
  |(rename_i g1
    have g1:(k:Int)<(l.length:Int):=g1
    first
     |(show 0≤(k:Int)∧(k:Int)<(l.length:Int)
       omega)
     |(show k<l.length
       omega)
     |exact h2 _ (QC7 (k:=k) (by omega)))
  |skip
 ·rename_i g1;have g1:(k:Int)<(l.length:Int):=g1;apply Exists.intro;apply Exists.intro ();refine And.intro (And.intro ?lt (And.intro ?ei trivial)) (Le.mk [] [0] R R ?hh ?ht)
  case hh=>exact congrArg (fun z=>[some (Blk.arr Qs z)]) (Qmk l k (dflt Qs))
  case ht=>repeat' constructor
  case lt=>omega
  case ei=>exact QL (by omega)
abbrev QLZ:Sig:=⟨true,QaA⟩
def QAN:PSpec:=⟨[QLZ],fun(x,_)=>(some (QdN x.2.2.2),.agg [iv .i64 x.1,.imm (.string x.2.1),iv .i64 x.2.2.1,.ro Qs x.2.2.2],[])⟩
theorem QyU:G0 170 QAN.spec:=by
 have hP:S0 _:=Qa Qve (Qb (T:=tree));have hT:=tabs hP Qc;refine QAN.gd hT hP Tryz.func170 fun(x:Ins) hq=>?_
 obtain⟨o,s,m,l⟩:=x;have hl:QdN l:=hq _ rfl;clear hq
 repeat' first|(apply Ea;conv=>whnf)|apply Eb|apply Ec<;>intro _|apply Ed<;>intro _|apply Ee<;>intro _|apply Ef hT hP
 ·exact hl
 ·exact .k [2] [] _ R R
def Qvf(c:Cpu):Prop:=c.2.1.length*56≤140737488351232∧∀x∈c.2.1,QdN x.2.2.2
theorem QC8{l:List Ins}{k:Nat}(h:k<l.length):l.getD k (dflt QaA)∈l:=by
 rw[List.getD_eq_getElem?_getD,List.getElem?_eq_getElem h];exact List.getElem_mem h
def QyV(c:Cpu)(op:Int):Bool:=decide (0≤Qgp c.2.1 op)
def QiO(c:Cpu)(op:Int):Ins:=if QyV c op=true then c.2.1.getD (Qgp c.2.1 op).toNat (dflt QaA) else (0,ByteArray.empty,0,[])
theorem Qvg{x y:Ins}{b b':Bool}(h:x=y)(h2:b=b'):AV.tup [.agg [iv .i64 x.1,.imm (.string x.2.1),iv .i64 x.2.2.1,.ro Qs x.2.2.2],.c (bv b)]=AV.tup [.agg [iv .i64 y.1,.imm (.string y.2.1),iv .i64 y.2.2.1,.ro Qs y.2.2.2],.c (bv b')]:=by rw[h,h2]
def QAO:PSpec:=⟨[Qx5,gi],fun(c,op,_)=>(some (Qvf c),.tup [.agg [iv .i64 (QiO c op).1,.imm (.string (QiO c op).2.1),iv .i64 (QiO c op).2.2.1,.ro Qs (QiO c op).2.2.2],.c (bv (QyV c op))],[])⟩
theorem QyW:G0 211 QAO.spec:=by
 have hP:S0 _:=Qa QyU (Qa QAM (Qb (T:=tree)));have hT:=tabs hP Qc;refine QAO.gd hT hP Tryz.func211 fun(c:Cpu) (op:Int) hq=>?_
 obtain⟨cn,ci,cr,cq,cm⟩:=c;obtain⟨h1,h2⟩:Qvf (cn,ci,cr,cq,cm):=hq _ rfl;have h1:ci.length*56≤140737488351232:=h1;have h2:∀x∈ci,QdN x.2.2.2:=h2;clear hq
 repeat' first|(apply Ea;conv=>whnf)|apply Eb|apply Ec<;>intro _|apply Ed<;>intro _|apply Ee<;>intro _|apply Ef hT hP
 all_goals first
  |exact of_decide_eq_true rfl
  |skip
 have hi:=QkA ci op
 all_goals first
  |exact⟨.inl rfl,by show ci.length≤_;omega⟩
  |(rename_i g1
    have g1:¬Qgp ci op<0:=g1
    first
     |(show 0≤Qgp ci op∧Qgp ci op<(ci.length:Int)
       have hi:=QkA ci op
       omega)
     |(have hi:=QkA ci op
       exact h2 _ (QC8 (k:=(Qgp ci op).toNat) (by omega))))
  |skip
 ·rename_i g1;have g1:Qgp ci op<0:=g1;have hb:QyV (cn,ci,cr,cq,cm) op=false:=decide_eq_false (by show¬0≤Qgp ci op;omega)
  refine .le (Le.nilroH 2 [iv .i64 0,.imm (.string ByteArray.empty),iv .i64 0,.imm (.slice none 0 0)] [iv .i64 0,.imm (.string ByteArray.empty),iv .i64 0,.ro Qs []] rfl ⟨.inl rfl,.inl rfl,.inl rfl,.inr ⟨rfl,_,rfl⟩,trivial⟩)
   (.k [] [] _ rfl (Qvg (x:=(0,ByteArray.empty,0,[])) ?_ ?_))
  ·unfold QiO;rw[hb];rfl
  ·exact hb.symm
 ·rename_i g1;have g1:¬Qgp ci op<0:=g1;have hb:QyV (cn,ci,cr,cq,cm) op=true:=decide_eq_true (by show 0≤Qgp ci op;omega);refine .k [] [] _ rfl (Qvg (x:=ci.getD (Qgp ci op).toNat (dflt QaA)) ?_ ?_)
  ·unfold QiO;rw[hb];rfl
  ·exact hb.symm
def QeO:List Stp→List Int→List Int×Bool
 | [],r=>(r,false)
 |s::rest,r=>if doE s r=true then (doR s r,true) else QeO rest (doR s r)
theorem QkB(s:Stp)(r:List Int):(doR s r).length=9:=by unfold doR;split<;>rfl
theorem QkC{l:List Stp}{k:Nat}(h:k<l.length):l.drop k=l.getD k (dflt Qv)::l.drop (k+1):=by
 rw[List.drop_eq_getElem_cons h,List.getD_eq_getElem?_getD,List.getElem?_eq_getElem h];rfl
def QbJ(x:Cyc)(r:List Int)(D:Int):List Int:=if x.1=1∧0≤x.2.2.1∧x.2.2.1<9 then r.set x.2.2.1.toNat D else r
def QI(c:Cpu)(k:Kor)(data:Int):Kor :=
 if k.2.1=-1 then (QE k.1,if QyV c (data%256)=true then (if 0<(QiO c (data%256)).2.2.2.length then data%256 else -1) else 259,0,k.2.2.2)
 else if Qfc c k.2.1 k.2.2.1=true then
  (if (QeO (doF c k.2.1 k.2.2.1).2.2.2 (QbJ (doF c k.2.1 k.2.2.1) (QE k.1) (data%256))).2=true∨k.2.2.1+1≥(QP c k.2.1).length
   then ((QeO (doF c k.2.1 k.2.2.1).2.2.2 (QbJ (doF c k.2.1 k.2.2.1) (QE k.1) (data%256))).1,-1,0,k.2.2.2)
   else ((QeO (doF c k.2.1 k.2.2.1).2.2.2 (QbJ (doF c k.2.1 k.2.2.1) (QE k.1) (data%256))).1,k.2.1,k.2.2.1+1,k.2.2.2))
 else if k.2.1=259 then (QE k.1,259,k.2.2.1,k.2.2.2) else (QE k.1,-1,0,k.2.2.2)
def Qa0(c:Cpu)(k:Kor):Prop:=Qvf c∧(QdN c.2.2.1∧QdN c.2.2.2.1∧QdN c.2.2.2.2)∧k.1.length=9
theorem QnG{c:Cpu}(h:Qvf c)(h2:QdN c.2.2.1∧QdN c.2.2.2.1∧QdN c.2.2.2.2)(op:Int):QdN (QP c op):=by
 unfold QP;split
 ·exact h2.2.1
 ·split
  ·exact h2.2.2
  ·split
   ·exact h2.1
   ·split
    ·rename_i x hx;exact h.2 x (List.mem_of_find?_eq_some hx)
    ·exact⟨by simp,fun x hx=>by cases hx⟩
theorem QyX{l:List Cyc}{k:Nat}(h:k<l.length):l.getD k Qay∈l:=by
 rw[List.getD_eq_getElem?_getD,List.getElem?_eq_getElem h];exact List.getElem_mem h
theorem Qvh{c:Cpu}{op at_:Int}(h:QdN (QP c op)):(doF c op at_).2.2.2.length*32≤140737488351232:=by
 unfold doF;by_cases hb:Qfc c op at_=true
 ·rw[if_pos hb]
  have:0≤at_∧at_<(QP c op).length:=by
   unfold Qfc at hb;simp at hb;exact hb.2
  exact h.2 _ (QyX (by omega))
 ·rw[if_neg hb];simp[Qay]
def QyY:PSpec:=⟨[Qx5,gK,gi],fun(c,k,d,_)=>(some (Qa0 c k),.agg [.run .i64 9 (QI c k d).1,iv .i64 (QI c k d).2.1,iv .i64 (QI c k d).2.2.1,bv (QI c k d).2.2.2],[])⟩
def QAP:PSpec:=⟨[Qx5,gK],fun(c,k,_)=>(none,.agg [.run .i64 9 k.1,iv .i64 (if k.2.1=259 then 259 else -1),iv .i64 (if k.2.1=259 then k.2.2.1 else 0),bv k.2.2.2],[])⟩
theorem QyZ:G0 212 QAP.spec:=by
 have hP:S0 _:=(Qb (T:=tree))
 have hT:=tabs hP Qc;refine QAP.gd hT hP Tryz.func212 fun(c:Cpu) (k:Kor) hq=>?_
 obtain⟨r,op,at_,nmi⟩:=k
 repeat' first|(apply Ea;conv=>whnf)|apply Eb|apply Ec<;>intro _|apply Ed<;>intro _|apply Ee<;>intro _|apply Ef hT hP
 all_goals first
  |exact of_decide_eq_true rfl
  |skip
 all_goals(refine .k [] [] _ rfl (QpA (x:=(r,if op=259 then 259 else -1,if op=259 then at_ else 0,nmi)) ?_))
 all_goals(simp_all)
theorem Qes{c:Cpu}{r:List Int}{op at_ d:Int}{nmi:Bool}(h:op=-1):QI c (r,op,at_,nmi) d=(QE r,if QyV c (d%256)=true then (if 0<(QiO c (d%256)).2.2.2.length then d%256 else -1) else 259,0,nmi):=by
 unfold QI;rw[if_pos h]
theorem Qie{c:Cpu}{r:List Int}{op at_ d:Int}{nmi:Bool}(h:¬op=-1)(hb:Qfc c op at_=false):QI c (r,op,at_,nmi) d=(QE r,if op=259 then 259 else -1,if op=259 then at_ else 0,nmi):=by
 unfold QI;rw[if_neg h,if_neg (by show¬Qfc c op at_=true;rw[hb];decide)];by_cases h9:op=259
 ·rw[if_pos h9,if_pos h9,if_pos h9]
 ·rw[if_neg h9,if_neg h9,if_neg h9]
theorem Qdd{c:Cpu}{r z:List Int}{op at_ d:Int}{nmi e:Bool}{x:Cyc}(h:¬op=-1)(hb:Qfc c op at_=true)(hx:doF c op at_=x)(hz:QeO x.2.2.2 (QbJ x (QE r) (d%256))=(z,e)) :
 QI c (r,op,at_,nmi) d=if e=true∨at_+1≥(QP c op).length then (z,-1,0,nmi) else (z,op,at_+1,nmi):=by
 unfold QI;rw[if_neg h,if_pos (show Qfc c op at_=true from hb)];show(if (QeO (doF c op at_).2.2.2 (QbJ (doF c op at_) (QE r) (d%256))).2=true∨_ then _ else _)=_;rw[hx,hz]
theorem QC9{c:Cpu}{op at_:Int}(h:Qfc c op at_=true):0≤at_∧at_<(QP c op).length:=by
 unfold Qfc at h;simp at h;exact h.2
theorem Qvi:G0 134 QyY.spec:=by
 have hP:S0 _:=Qa Qnu (Qa QN (Qa QyW (Qa Qpz (Qa QyZ (Qa QI5 (Qa Quo (Qb (T:=tree))))))));have hT:=tabs hP Qc;refine QyY.gd hT hP Tryz.func134 fun(c:Cpu) (k:Kor) (data:Int) hq=>?_
 obtain⟨cn,ci,cr,cq,cm⟩:=c;obtain⟨r,op,at_,nmi⟩:=k;obtain⟨h1,h2,h3⟩:Qa0 (cn,ci,cr,cq,cm) (r,op,at_,nmi):=hq _ rfl;clear hq;have hC:=QnG h1 h2 op;have hS:=Qvh (at_:=at_) hC;have h1':ci.length*56≤140737488351232:=h1.1
 repeat' first|(apply Ea;conv=>whnf)|apply Eb|apply Ec<;>intro _|apply Ed<;>intro _|apply Ee<;>intro _|apply Ef hT hP
 all_goals first
  |exact of_decide_eq_true rfl
  |exact h3
  |exact h1
  |skip
 all_goals(try simp only[Qf] at *)
 all_goals(try dsimp only at *)
 all_goals(have h8:data%2 ^ (Int.toNat 8)=data%256:=rfl)
 all_goals(try simp only[h8] at *)
 all_goals clear h8
 all_goals first
  |(show ci.length≤4611686018427387904
    omega)
  |(show 0≤(doF (cn,ci,cr,cq,cm) op at_).2.2.1∧(doF (cn,ci,cr,cq,cm) op at_).2.2.1<((9:Nat):Int)
    omega)
  |(show(doF (cn,ci,cr,cq,cm) op at_).2.2.1.toNat<9
    omega)
  |(refine .k [] [] _ rfl (QpA ?_)
    rw[Qes (by assumption)]
    simp_all
    done)
  |(refine .k [] [] _ rfl (QpA ?_)
    rw[Qie (by assumption) (by simp_all)]
    done)
  |skip
 all_goals
  have hb:Qfc (cn,ci,cr,cq,cm) op at_=true:=by simp_all
  have hin:=QC9 hb;have hCl:(QP (cn,ci,cr,cq,cm) op).length*48≤140737488351232:=hC.1;have ewa:i64.wrap (at_+1)=at_+1:=w64 (by omega) (by omega)
 all_goals first
  |(have hR:QbJ (doF (cn,ci,cr,cq,cm) op at_) (QE r) (data%256)=((QE r).set (doF (cn,ci,cr,cq,cm) op at_).2.2.1.toNat (data%256)):=if_pos ⟨by assumption,by omega,by omega⟩
    refine QH hT hP (doF (cn,ci,cr,cq,cm) op at_).2.2.2.length (fun i (z:List Int)=>St.mk (E3 ((.cell (.ptr 0 0))::(.cell (.ptr 1 0))::E1 ((.cell (.ptr 2 0))::E40 (E20 (E10 ((.cell (.ro Qv (doF (cn,ci,cr,cq,cm) op at_).2.2.2))::(I ((doF (cn,ci,cr,cq,cm) op at_).2.2.2.length:Int))::(I i)::E20 (E5 (E3 [])))))))) [some (.var [.imm (.string cn),.ro QaA ci,.ro Qs cr,.ro Qs cq,.ro Qs cm]),some (.var [.run .i64 9 z,iv .i64 op,iv .i64 (i64.wrap (at_+1)),bv nmi]),some (.var [.run .i64 9 [0,0,0,0,0,0,0,0,0],iv .i64 0,iv .i64 0,bv false])]) (fun j z=>QeO ((doF (cn,ci,cr,cq,cm) op at_).2.2.2.drop j) z=QeO (doF (cn,ci,cr,cq,cm) op at_).2.2.2 (QbJ (doF (cn,ci,cr,cq,cm) op at_) (QE r) (data%256))∧z.length=9) ((QE r).set (doF (cn,ci,cr,cq,cm) op at_).2.2.1.toNat (data%256)) (Le.mk [] [0,1,2] R R (by exact rfl) (by repeat' constructor)) ⟨by rw[hR];rfl,by rw[List.length_set];rfl⟩ fun j z hj hi=>?_)
  |(have hR:QbJ (doF (cn,ci,cr,cq,cm) op at_) (QE r) (data%256)=QE r:=if_neg (fun⟨a,b,c⟩=>by omega)
    refine QH hT hP (doF (cn,ci,cr,cq,cm) op at_).2.2.2.length (fun i (z:List Int)=>St.mk (E3 ((.cell (.ptr 0 0))::(.cell (.ptr 1 0))::E1 ((.cell (.ptr 2 0))::E40 (E20 (E10 ((.cell (.ro Qv (doF (cn,ci,cr,cq,cm) op at_).2.2.2))::(I ((doF (cn,ci,cr,cq,cm) op at_).2.2.2.length:Int))::(I i)::E20 (E5 (E3 [])))))))) [some (.var [.imm (.string cn),.ro QaA ci,.ro Qs cr,.ro Qs cq,.ro Qs cm]),some (.var [.run .i64 9 z,iv .i64 op,iv .i64 (i64.wrap (at_+1)),bv nmi]),some (.var [.run .i64 9 [0,0,0,0,0,0,0,0,0],iv .i64 0,iv .i64 0,bv false])]) (fun j z=>QeO ((doF (cn,ci,cr,cq,cm) op at_).2.2.2.drop j) z=QeO (doF (cn,ci,cr,cq,cm) op at_).2.2.2 (QbJ (doF (cn,ci,cr,cq,cm) op at_) (QE r) (data%256))∧z.length=9) (QE r) (Le.mk [] [0,1,2] R R (by exact rfl) (by repeat' constructor)) ⟨by rw[hR];rfl,rfl⟩ fun j z hj hi=>?_)
  |skip
 all_goals
  obtain⟨hi,hz⟩:=hi
  repeat' first|(apply Ea;conv=>whnf)|apply Eb|apply Ec<;>intro _|apply Ed<;>intro _|apply Ee<;>intro _|apply Ef hT hP
 all_goals(try simp only[Qf] at *)
 all_goals(try dsimp only at *)
 all_goals first
  |exact of_decide_eq_true rfl
  |exact hz
  |(show ci.length≤4611686018427387904
    omega)
  |(show 0≤(j:Int)∧(j:Int)<((doF (cn,ci,cr,cq,cm) op at_).2.2.2.length:Int)
    omega)
  |(show j<(doF (cn,ci,cr,cq,cm) op at_).2.2.2.length
    omega)
  |skip
 all_goals clear hT hP
 all_goals first
  |(rename_i g1 h
    have g1:(j:Int)<((doF (cn,ci,cr,cq,cm) op at_).2.2.2.length:Int):=g1;have he:doE ((doF (cn,ci,cr,cq,cm) op at_).2.2.2.getD j (dflt Qv)) z=true:=h
    have hrun:QeO (doF (cn,ci,cr,cq,cm) op at_).2.2.2 (QbJ (doF (cn,ci,cr,cq,cm) op at_) (QE r) (data%256))=(doR ((doF (cn,ci,cr,cq,cm) op at_).2.2.2.getD j (dflt Qv)) z,true):=by
     rw[←hi,QkC (by omega),QeO,if_pos he]
    refine .k [] [] _ rfl (QpA ?_)
    rw[Qdd (by assumption) hb rfl hrun,if_pos (.inl rfl)];rfl)
  |(rename_i g1 h
    have g1:(j:Int)<((doF (cn,ci,cr,cq,cm) op at_).2.2.2.length:Int):=g1
    have he:¬doE ((doF (cn,ci,cr,cq,cm) op at_).2.2.2.getD j (dflt Qv)) z=true:=fun e=>by
     have h:doE ((doF (cn,ci,cr,cq,cm) op at_).2.2.2.getD j (dflt Qv)) z=false:=h;rw[h] at e;cases e
    apply Exists.intro;apply Exists.intro (doR ((doF (cn,ci,cr,cq,cm) op at_).2.2.2.getD j (dflt Qv)) z);refine And.intro (And.intro ?lt (And.intro ?ei ?inv)) (Le.k [] [0,1,2] ?hh)
    case hh=>repeat' constructor
    case lt=>omega
    case ei=>exact QL (by omega)
    case inv =>
     rw[QkC (by omega),QeO,if_neg he] at hi
     exact⟨hi,QkB _ _⟩)
  |(rename_i g1 h
    have g1:¬(j:Int)<((doF (cn,ci,cr,cq,cm) op at_).2.2.2.length:Int):=g1;have h:i64.wrap (at_+1)≥((QP (cn,ci,cr,cq,cm) op).length:Int):=h;rw[ewa] at h
    have hrun:QeO (doF (cn,ci,cr,cq,cm) op at_).2.2.2 (QbJ (doF (cn,ci,cr,cq,cm) op at_) (QE r) (data%256))=(z,false):=by
     rw[←hi,List.drop_of_length_le (by omega)];rfl
    refine .k [] [] _ rfl (QpA ?_)
    rw[Qdd (by assumption) hb rfl hrun,if_pos (.inr h)])
  |(rename_i g1 h
    have g1:¬(j:Int)<((doF (cn,ci,cr,cq,cm) op at_).2.2.2.length:Int):=g1;have h:¬i64.wrap (at_+1)≥((QP (cn,ci,cr,cq,cm) op).length:Int):=h
    have hrun:QeO (doF (cn,ci,cr,cq,cm) op at_).2.2.2 (QbJ (doF (cn,ci,cr,cq,cm) op at_) (QE r) (data%256))=(z,false):=by
     rw[←hi,List.drop_of_length_le (by omega)];rfl
    refine .k [] [] _ rfl (QpA ?_)
    rw[Qdd (by assumption) hb rfl hrun,ewa,if_neg (fun e=>e.elim (fun e=>by cases e) (fun e=>h (by rw[ewa];exact e)))])
  |skip
 all_goals trace_state
theorem QDa{α:Type}{l m:List α}(h:l.length=m.length){k:Nat}(hk:¬k<l.length)(h2:l.take k=m.take k):l=m:=by
 rwa[List.take_of_length_le (by omega),List.take_of_length_le (by omega)] at h2
theorem QDb{α:Type}{l m:List α}{k:Nat}(d:α)(h:k<l.length)(h3:k<m.length)(h2:l.take k=m.take k)(he:l.getD k d=m.getD k d):l.take (k+1)=m.take (k+1):=by
 rw[List.getD_eq_getElem?_getD,List.getD_eq_getElem?_getD,List.getElem?_eq_getElem h,List.getElem?_eq_getElem h3] at he;rw[List.take_add_one,List.take_add_one,h2,List.getElem?_eq_getElem h,List.getElem?_eq_getElem h3];have he:l[k]=m[k]:=he;rw[he]
theorem QI8{α:Type}{l m:List α}{k:Nat}(d:α)(he:l.getD k d≠m.getD k d):l≠m:=fun e=>he (by rw[e])
noncomputable def eqB{α:Type}(x y:α):Bool:=@decide (x=y) (Classical.propDecidable _)
theorem Qif{α:Type}{x y:α}(h:x=y):eqB x y=true:=@decide_eq_true _ (Classical.propDecidable _) h
theorem QDc{α:Type}{x y:α}(h:x≠y):eqB x y=false:=@decide_eq_false _ (Classical.propDecidable _) h
structure EqcX where
 g:Nat
 l:List Cyc
 m:List Cyc
def QAQ:PSpec:=⟨[⟨false,.sl (Qj)⟩],fun(l,_)=>(some (List.length l*48≤140737488351232),.cell (.own 0),[.arr (Qj) l])⟩
theorem Qp0:G0 71 QAQ.spec:=by
 have hP:S0 _:=(Qb (T:=tree))
 have hT:=tabs hP Qc;refine QAQ.gd hT hP Tryz.func71 fun(l:List (Den (Qj))) hq=>?_
 have hl:l.length*48≤140737488351232:=hq _ rfl;clear hq
 repeat' first|(apply Ea;conv=>whnf)|apply Eb|apply Ec<;>intro _|apply Ed<;>intro _|apply Ee<;>intro _|apply Ef hT hP
 all_goals first
  |exact of_decide_eq_true rfl
  |skip
 ·rename_i h;obtain rfl:l=[]:=List.eq_nil_of_length_eq_zero h;exact .le (Le.nil 2 (Qj) rfl) (.k [] [0] _ R R)
 ·show(0+l.length)*48≤140737488355328;omega
 ·exact .k [] [1] _ R R
def QAR:PSpec:=⟨[⟨false,.sl (.int .i64)⟩],fun(l,_)=>(some (List.length l*8≤140737488351232),.cell (.own 0),[.arr (.int .i64) l])⟩
theorem Qy0:G0 128 QAR.spec:=by
 have hP:S0 _:=(Qb (T:=tree))
 have hT:=tabs hP Qc;refine QAR.gd hT hP Tryz.func128 fun(l:List (Den (.int .i64))) hq=>?_
 have hl:l.length*8≤140737488351232:=hq _ rfl;clear hq
 repeat' first|(apply Ea;conv=>whnf)|apply Eb|apply Ec<;>intro _|apply Ed<;>intro _|apply Ee<;>intro _|apply Ef hT hP
 all_goals first
  |exact of_decide_eq_true rfl
  |skip
 ·rename_i h;obtain rfl:l=[]:=List.eq_nil_of_length_eq_zero h;exact .le (Le.nil 2 (.int .i64) rfl) (.k [] [0] _ R R)
 ·show(0+l.length)*8≤140737488355328;omega
 ·exact .k [] [1] _ R R
def Qvm:PSpec:=⟨[⟨false,.sl (.int .u8)⟩],fun(l,_)=>(some (List.length l*1≤140737488351232),.cell (.own 0),[.arr (.int .u8) l])⟩
theorem Qvn:G0 129 Qvm.spec:=by
 have hP:S0 _:=(Qb (T:=tree))
 have hT:=tabs hP Qc;refine Qvm.gd hT hP Tryz.func129 fun(l:List (Den (.int .u8))) hq=>?_
 have hl:l.length*1≤140737488351232:=hq _ rfl;clear hq
 repeat' first|(apply Ea;conv=>whnf)|apply Eb|apply Ec<;>intro _|apply Ed<;>intro _|apply Ee<;>intro _|apply Ef hT hP
 all_goals first
  |exact of_decide_eq_true rfl
  |skip
 ·rename_i h;obtain rfl:l=[]:=List.eq_nil_of_length_eq_zero h;exact .le (Le.nil 2 (.int .u8) rfl) (.k [] [0] _ R R)
 ·show(0+l.length)*1≤140737488355328;omega
 ·exact .k [] [1] _ R R
theorem Qdf:∀{u:Ty} {x:Den u},u.flat=true→QA u x x=true
 |.int _,x,_=>by simp[QA]
 |.ints _ _,x,_=>by simp[QA]
 |.bool,x,_=>by simp[QA]
 |.str,x,_=>by simp[QA,Qm]
 |.sl _,_,h=>by cases h
 |.pair a b,x,h=>by
  simp only[Ty.flat,Bool.and_eq_true] at h;simp only[QA,Qdf h.1,Qdf h.2,Bool.and_self]
def QF9:PSpec:=⟨[gK],fun(k,_)=>(none,.agg [.run .i64 9 k.1,iv .i64 k.2.1,iv .i64 k.2.2.1,bv true],[])⟩
theorem QDf:G0 205 QF9.spec:=by
 have hP:S0 _:=(Qb (T:=tree))
 have hT:=tabs hP Qc;refine QF9.gd hT hP Tryz.func205 fun(k:Kor) _=>?_
 obtain⟨r,op,at_,n⟩:=k
 repeat' first|(apply Ea;conv=>whnf)|apply Eb|apply Ec<;>intro _|apply Ed<;>intro _|apply Ee<;>intro _|apply Ef hT hP
 all_goals first
  |exact of_decide_eq_true rfl
  |exact .k [] [] _ R R
end Go.Proofs.YtofgbclopbmlcaaGreat

