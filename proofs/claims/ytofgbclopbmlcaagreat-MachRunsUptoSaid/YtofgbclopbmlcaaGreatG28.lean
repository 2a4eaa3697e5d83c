/- Part 28 of the proof. Conditions: none. -/
import Derived.Test.YtofgbclopbmlcaaGreatG27
import Derived.Test.YtofgbclopbmlcaaGreatG23
import Derived.Test.YtofgbclopbmlcaaGreatG24
namespace Go.Proofs.YtofgbclopbmlcaaGreat
open Go.Fw
set_option linter.unusedVariables false
set_option linter.unusedSimpArgs false
set_option linter.constructorNameAsVariable false
set_option maxRecDepth 100000
theorem doings(d:Int):(d<0∨d>24)∨d=0∨d=1∨d=2∨d=3∨d=4∨d=5∨d=6∨d=7∨d=8∨d=9∨d=10∨d=11∨d=12∨d=13∨d=14∨d=15∨d=16∨d=17∨d=18∨d=19∨d=20∨d=21∨d=22∨d=23∨d=24:=by omega
theorem Qzi:G0 199 QvD.spec:=by
 refine QQ.sel Qmq fun(s,_) hp=>?_
 obtain⟨sd,st,sf,sn⟩:=s;clear hp;show∃o1:Args [Qzg]→Option Prop×AV×List Blk,_;rcases doings sd with hx|rfl|rfl|rfl|rfl|rfl|rfl|rfl|rfl|rfl|rfl|rfl|rfl|rfl|rfl|rfl|rfl|rfl|rfl|rfl|rfl|rfl|rfl|rfl|rfl|rfl
 ·exact⟨_,Qmq,fun q hq=>by cases hq;exact hx,.refl⟩
 ·exact⟨_,QvF,fun q hq=>by cases hq;rfl,.refl⟩
 ·exact⟨_,QvG,fun q hq=>by cases hq;rfl,.refl⟩
 ·exact⟨_,QvH,fun q hq=>by cases hq;rfl,.refl⟩
 ·exact⟨_,QvI,fun q hq=>by cases hq;rfl,.refl⟩
 ·exact⟨_,QvJ,fun q hq=>by cases hq;rfl,.refl⟩
 ·exact⟨_,QvK,fun q hq=>by cases hq;rfl,.refl⟩
 ·exact⟨_,QvL,fun q hq=>by cases hq;rfl,.refl⟩
 ·exact⟨_,QvM,fun q hq=>by cases hq;rfl,.refl⟩
 ·exact⟨_,QvN,fun q hq=>by cases hq;rfl,.refl⟩
 ·exact⟨_,QvO,fun q hq=>by cases hq;rfl,.refl⟩
 ·exact⟨_,QrA,fun q hq=>by cases hq;rfl,.refl⟩
 ·exact⟨_,QrB,fun q hq=>by cases hq;rfl,.refl⟩
 ·exact⟨_,QrC,fun q hq=>by cases hq;rfl,.refl⟩
 ·exact⟨_,QrD,fun q hq=>by cases hq;rfl,.refl⟩
 ·exact⟨_,QrE,fun q hq=>by cases hq;rfl,.refl⟩
 ·exact⟨_,QrF,fun q hq=>by cases hq;rfl,.refl⟩
 ·exact⟨_,QrG,fun q hq=>by cases hq;rfl,.refl⟩
 ·exact⟨_,QrH,fun q hq=>by cases hq;rfl,.refl⟩
 ·exact⟨_,QrI,fun q hq=>by cases hq;rfl,.refl⟩
 ·exact⟨_,QrJ,fun q hq=>by cases hq;rfl,.refl⟩
 ·exact⟨_,QrK,fun q hq=>by cases hq;rfl,.refl⟩
 ·exact⟨_,QrL,fun q hq=>by cases hq;rfl,.refl⟩
 ·exact⟨_,QrM,fun q hq=>by cases hq;rfl,.refl⟩
 ·exact⟨_,QrN,fun q hq=>by cases hq;rfl,.refl⟩
 ·exact⟨_,QrO,fun q hq=>by cases hq;rfl,.refl⟩
def QA2:ByteArray:=⟨#[46]⟩
def QbS(s:ByteArray):Int:=Lib.indexByte s.data.toList 46
def QvV:PSpec:=⟨[Qya,Qya],fun(s,p,_)=>(some (p=QA2),I (QbS s),[])⟩
theorem QvW:G0 263 QvV.spec:=by
 have hP:S0 _:=Qa Quq (Qb (T:=tree));have hT:=tabs hP Qc;refine QvV.gd hT hP Tryz.func263 fun(s p:ByteArray) hq=>?_
 obtain rfl:p=QA2:=hq _ rfl;clear hq
 repeat' first|(apply Ea;conv=>whnf)|apply Eb|apply Ec<;>intro _|apply Ed<;>intro _|apply Ee<;>intro _|apply Ef hT hP
 ·rename_i g;have g:Qm QA2 s=true:=g;have e:QA2=s:=(Lib.bytes_beq_iff _ _).1 g;subst e;refine .k [] [] _ rfl (Qd ?_);show 0=QbS QA2;decide +kernel
 ·exact of_decide_eq_true rfl
 ·exact .k [] [] _ R R
theorem Qin(c:UInt8):∀l:List UInt8,Lib.indexByte l c=-1∨(0≤Lib.indexByte l c∧Lib.indexByte l c<l.length)
 | []=>.inl rfl
 |x::r=>by
  have ih:=Qin c r;have hl:(x::r).length=r.length+1:=rfl;unfold Lib.indexByte;by_cases h1:(x==c)=true
  ·rw[if_pos h1,hl];right;omega
  ·rw[if_neg h1];by_cases h2:(Lib.indexByte r c == -1)=true
   ·rw[if_pos h2];exact .inl rfl
   ·rw[if_neg h2,hl];have h3:Lib.indexByte r c≠-1:=fun h=>h2 (beq_iff_eq.2 h)
    right;omega
theorem Qio{s:ByteArray}(h:QbS s≥0):QbS s<s.size:=by
 have:=Qin 46 s.data.toList;have e:s.data.toList.length=s.size:=Array.length_toList;unfold QbS at *;omega
def QdJ(s:ByteArray):ByteArray:=if 0≤QbS s then s.extract 0 (QbS s).toNat else s
def cutA(s:ByteArray):ByteArray:=if 0≤QbS s then s.extract (QbS s+1).toNat s.size else ⟨#[]⟩
def QHj:PSpec:=⟨[Qya,Qya],fun(s,p,_)=>(some (p=QA2∧s.size≤140737488351232),.tup [.c (.imm (.string (QdJ s))),.c (.imm (.string (cutA s))),.c (bv (decide (0≤QbS s)))],[])⟩
theorem Qzo:G0 240 QHj.spec:=by
 have hP:S0 _:=Qa QvW (Qb (T:=tree));have hT:=tabs hP Qc;refine QHj.gd hT hP Tryz.func240 fun(s p:ByteArray) hq=>?_
 obtain⟨hp,hl⟩:p=QA2∧s.size≤140737488351232:=hq _ rfl;clear hq;subst hp
 repeat' first|(apply Ea;conv=>whnf)|apply Eb|apply Ec<;>intro _|apply Ed<;>intro _|apply Ee<;>intro _|apply Ef hT hP
 ·exact rfl
 ·rename_i g;have g:QbS s≥0:=g;have:=Qio g;show 0≤QbS s∧QbS s≤(s.size:Int);omega
 ·rename_i g;have g:QbS s≥0:=g;have:=Qio g;show 0≤IntKind.i64.wrap (QbS s+1)∧IntKind.i64.wrap (QbS s+1)≤(s.size:Int);rw[w64 (by omega) (by omega)];omega
 ·rename_i g;have g:QbS s≥0:=g;have hin:=Qio g;have hw:IntKind.i64.wrap (QbS s+1)=QbS s+1:=w64 (by omega) (by omega);have e1:QdJ s=s.extract 0 (QbS s).toNat:=if_pos g;have e2:cutA s=s.extract (IntKind.i64.wrap (QbS s+1)).toNat s.size:=by rw[hw];exact if_pos g
  refine .k [] [] _ rfl ?_;show AV.tup [.c (.imm (.string (s.extract 0 (QbS s).toNat))),.c (.imm (.string (s.extract (IntKind.i64.wrap (QbS s+1)).toNat s.size))),.c (bv true)]=AV.tup [.c (.imm (.string (QdJ s))),.c (.imm (.string (cutA s))),.c (bv (decide (0≤QbS s)))];rw[e1,e2,decide_eq_true (show 0≤QbS s from g)]
 ·rename_i g;have g:¬QbS s≥0:=g;have e1:QdJ s=s:=if_neg g;have e2:cutA s=⟨#[]⟩:=if_neg g;refine .k [] [] _ rfl ?_;show AV.tup [.c (.imm (.string s)),.c (.imm (.string ⟨#[]⟩)),.c (bv false)]=AV.tup [.c (.imm (.string (QdJ s))),.c (.imm (.string (cutA s))),.c (bv (decide (0≤QbS s)))];rw[e1,e2,decide_eq_false (show¬0≤QbS s from g)]
theorem QGr:G0 193 QHj.spec:=by
 have hP:S0 _:=Qa Qzo (Qb (T:=tree));have hT:=tabs hP Qc;refine QHj.gd hT hP Tryz.func193 fun(s p:ByteArray) hq=>?_
 have hp:p=QA2∧s.size≤140737488351232:=hq _ rfl;clear hq
 repeat' first|(apply Ea;conv=>whnf)|apply Eb|apply Ec<;>intro _|apply Ed<;>intro _|apply Ee<;>intro _|apply Ef hT hP
 ·exact hp
 ·exact .k [] [] _ R R
theorem Qdj(N:List Int):Qah (Qah N)=Qah N:=Qpe (Qaf N 0) (Qaf N 6)
theorem Qgu(N:List Int)(n:Nat):Qah (Qq QaO n (Qah N))=Qq QaO n (Qah N):=by
 have e:Qq QaO n (Qah N)=Qq (Qx 1) n (vo N 0)++Qq (Qx 1) n (vo N 6):=Qh1 (Qaf N 0) (Qaf N 6) n;rw[e];exact Qpe (QfG (Qaf N 0) n) (QfG (Qaf N 6) n)
end Go.Proofs.YtofgbclopbmlcaaGreat

