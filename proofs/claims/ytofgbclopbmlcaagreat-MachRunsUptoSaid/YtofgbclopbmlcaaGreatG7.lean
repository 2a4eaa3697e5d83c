/- Part 7 of the proof: Core Name Byte EncLaw Enc Pack Pack2 Tables RefLaw PinLaw Pin Alu Alu2 Alu3 StepRef. No statement is handed in here; conditions: none. -/
import Derived.Test.YtofgbclopbmlcaaGreatG5
import Derived.Test.YtofgbclopbmlcaaGreatG6
import Derived.WalkKit
import Derived.Lib.Walk
import Derived.Lib.Bytealg
import Derived.Laws.Bits64
namespace Go.Proofs.YtofgbclopbmlcaaGreat
open Go.Fw
set_option linter.unusedVariables false
set_option linter.unusedSimpArgs false
set_option maxRecDepth 100000
abbrev QC:Ty:=.pair (.int .i64) (.pair (.int .i64) (.pair (.int .i64) (.int .i64)))
abbrev QA:Ty:=.pair (.int .i64) (.pair (.int .i64) (.pair (.int .i64) (.sl QC)))
abbrev Qaw:Ty:=.pair (.int .i64) (.pair .str (.pair (.int .i64) (.sl QA)))
abbrev QAe:Ty:=.pair .str (.pair (.sl Qaw) (.pair (.sl QA) (.pair (.sl QA) (.sl QA))))
abbrev QAf:Ty:=.pair (.ints .i64 9) (.pair (.int .i64) (.pair (.int .i64) .bool))
abbrev gR:Sig:=⟨true,.ints .i64 9⟩
abbrev QvZ:Sig:=⟨true,QAe⟩
abbrev gK:Sig:=⟨true,QAf⟩
abbrev gB:Sig:=⟨false,.bool⟩
abbrev Stp:=Int × Int × Int × Int
abbrev Cyc:=Int × Int × Int × List Stp
abbrev Ins:=Int × ByteArray × Int × List Cyc
abbrev Cpu:=ByteArray × List Ins × List Cyc × List Cyc × List Cyc
abbrev Kor:=List Int × Int × Int × Bool
theorem QjY (x:Int):IntKind.i64.wrap x=(x+9223372036854775808)%18446744073709551616-9223372036854775808:=by
 rw [IntKind.wrap_i64]
theorem QW {k:Nat} (h:k≤4611686018427387904):IntKind.i64.wrap ((k:Int)+1)=((k+1:Nat):Int):=by
 rw [w64 (by omega) (by omega)];omega
theorem QsE (x k:Int):x.tmod k=if 0≤x then x%k else -((-x)%k):=by
 split
 ·rename_i h;exact Int.tmod_eq_emod_of_nonneg h
 ·rename_i h
  have:=Int.neg_tmod (-x) k
  rw [Int.neg_neg] at this
  rw [this,Int.tmod_eq_emod_of_nonneg (by omega)]
theorem QAg (x k:Int):x.tdiv k=if 0≤x then x/k else -((-x)/k):=by
 split
 ·rename_i h;exact Int.tdiv_eq_ediv_of_nonneg h
 ·rename_i h
  have:=Int.neg_tdiv (-x) k
  rw [Int.neg_neg] at this
  rw [this,Int.tdiv_eq_ediv_of_nonneg (by omega)]
def QJ (l:List Int):List Int:=[l.getD 0 0%256,l.getD 1 0%256,l.getD 2 0%256,l.getD 3 0%256,l.getD 4 0%256,l.getD 5 0%256,l.getD 6 0%256,l.getD 7 0%65536,l.getD 8 0%65536]
theorem nine {l:List Int} (h:l.length=9):∃ a b c d e f g h i,l=[a,b,c,d,e,f,g,h,i]:=by
 match l,h with
 | [a,b,c,d,e,f,g,h,i],_=>exact ⟨a,b,c,d,e,f,g,h,i,rfl⟩
theorem QGy {l l':List Int} (h:l=l'):AV.agg [.run .i64 9 l]=AV.agg [.run .i64 9 l']:=by rw [h]
def Q4 (r:Int):Bool:=decide (r=7∨r=8)
def QU (r:Int):Bool:=decide (0≤r∧r≤6)
def Qv0:Qk:=⟨[gi],fun (r,_)=>(none,.cell (bv (Q4 r)),[])⟩
def QsF:Qk:=⟨[gi],fun (r,_)=>(none,.cell (bv (QU r)),[])⟩
theorem Qe5:Qi Tryz.prog 250 Qv0.spec:=by
 have hP:Qe Tryz.prog _:=(Qc (T:=tree))
 have hT:=tabs hP Qf
 refine Qv0.good (fn:=Tryz.f250) hT hP Tryz.func250 (by kernel_rfl) rfl fun (r:Int) _=>?_
 repeat' first |(refine Go.mk ?_;conv=>whnf) |refine Ql.go ?_ ?_ |refine Qm.go (fun _=>?_) (fun _=>?_) |refine Br.dec (fun _=>?_) (fun _=>?_) |refine Br.go (fun _=>?_) (fun _=>?_) |refine Qd hT hP mixed ?_ |refine Qb hT hP ?_
 all_goals
  refine .mk [] [] _ R R R R R R (Qo ?_)
  show _=Q4 r
  simp_all [Q4]<;>first |rfl |omega
theorem QI:Qi Tryz.prog 140 Qv0.spec:=by
 have hP:Qe Tryz.prog _:=(Qc (T:=tree))
 have hT:=tabs hP Qf
 refine Qv0.good (fn:=Tryz.f140) hT hP Tryz.func140 (by kernel_rfl) rfl fun (r:Int) _=>?_
 repeat' first |(refine Go.mk ?_;conv=>whnf) |refine Ql.go ?_ ?_ |refine Qm.go (fun _=>?_) (fun _=>?_) |refine Br.dec (fun _=>?_) (fun _=>?_) |refine Br.go (fun _=>?_) (fun _=>?_) |refine Qd hT hP mixed ?_ |refine Qb hT hP ?_
 all_goals
  refine .mk [] [] _ R R R R R R (Qo ?_)
  show _=Q4 r
  simp_all [Q4]<;>first |rfl |omega
theorem Qu:Qi Tryz.prog 139 QsF.spec:=by
 have hP:Qe Tryz.prog _:=(Qc (T:=tree))
 have hT:=tabs hP Qf
 refine QsF.good (fn:=Tryz.f139) hT hP Tryz.func139 (by kernel_rfl) rfl fun (r:Int) _=>?_
 repeat' first |(refine Go.mk ?_;conv=>whnf) |refine Ql.go ?_ ?_ |refine Qm.go (fun _=>?_) (fun _=>?_) |refine Br.dec (fun _=>?_) (fun _=>?_) |refine Br.go (fun _=>?_) (fun _=>?_) |refine Qd hT hP mixed ?_ |refine Qb hT hP ?_
 all_goals
  refine .mk [] [] _ R R R R R R (Qo ?_)
  show _=QU r
  simp_all [QU]<;>first |rfl |omega
def Qyh:Qk:=⟨[gi],fun (r,_)=>(none,I (cond (Q4 r) 16 8),[])⟩
theorem Qoo:Qi Tryz.prog 244 Qyh.spec:=by
 have hP:Qe Tryz.prog _:=Qa Qe5 (Qc (T:=tree))
 have hT:=tabs hP Qf
 refine Qyh.good (fn:=Tryz.f244) hT hP Tryz.func244 (by kernel_rfl) rfl fun (r:Int) _=>?_
 repeat' first |(refine Go.mk ?_;conv=>whnf) |refine Ql.go ?_ ?_ |refine Qm.go (fun _=>?_) (fun _=>?_) |refine Br.dec (fun _=>?_) (fun _=>?_) |refine Br.go (fun _=>?_) (fun _=>?_) |refine Qd hT hP mixed ?_ |refine Qb hT hP ?_
 ·rename_i h
  refine .mk [] [] _ R R R R R R (Qg ?_)
  show _=cond (Q4 r) 16 8
  rw [show Q4 r=true from decide_eq_true h];rfl
 ·rename_i h
  refine .mk [] [] _ R R R R R R (Qg ?_)
  show _=cond (Q4 r) 16 8
  rw [show Q4 r=false from decide_eq_false h];rfl
def QEh:Qk:=⟨[gR],fun (l,_)=>(some (List.length l=9),.agg [.run .i64 9 (QJ l)],[])⟩
theorem Qmt:Qi Tryz.prog 207 QEh.spec:=by
 have hP:Qe Tryz.prog _:=Qa Qoo (Qa QT (Qc (T:=tree)))
 have hT:=tabs hP Qf
 refine QEh.good (fn:=Tryz.f207) hT hP Tryz.func207 (by kernel_rfl) rfl fun (l:List Int) hp=>?_
 have hp:l.length=9:=hp _ rfl
 obtain ⟨a,b,c,d,e,f,g,h,i,rfl⟩:=nine hp
 repeat' first |(refine Go.mk ?_;conv=>whnf) |refine Ql.go ?_ ?_ |refine Qm.go (fun _=>?_) (fun _=>?_) |refine Br.dec (fun _=>?_) (fun _=>?_) |refine Br.go (fun _=>?_) (fun _=>?_) |refine Qd hT hP mixed ?_ |refine Qb hT hP ?_
 refine QZ 10 ?_
 repeat' first |(refine Go.mk ?_;conv=>whnf) |refine Ql.go ?_ ?_ |refine Qm.go (fun _=>?_) (fun _=>?_) |refine Br.dec (fun _=>?_) (fun _=>?_) |refine Br.go (fun _=>?_) (fun _=>?_) |refine Qd hT hP mixed ?_ |refine Qb hT hP ?_
 all_goals first
  |exact of_decide_eq_true rfl
  |exact .mk [] [] _ R R R R R R R
theorem Qjm:Qi Tryz.prog 137 QEh.spec:=by
 have hP:Qe Tryz.prog _:=Qa QI (Qa Qb0 (Qc (T:=tree)))
 have hT:=tabs hP Qf
 refine QEh.good (fn:=Tryz.f137) hT hP Tryz.func137 (by kernel_rfl) rfl fun (l:List Int) hp=>?_
 have hp:l.length=9:=hp _ rfl
 obtain ⟨a,b,c,d,e,f,g,h,i,rfl⟩:=nine hp
 repeat' first |(refine Go.mk ?_;conv=>whnf) |refine Ql.go ?_ ?_ |refine Qm.go (fun _=>?_) (fun _=>?_) |refine Br.dec (fun _=>?_) (fun _=>?_) |refine Br.go (fun _=>?_) (fun _=>?_) |refine Qd hT hP mixed ?_ |refine Qb hT hP ?_
 refine QZ 10 ?_
 repeat' first |(refine Go.mk ?_;conv=>whnf) |refine Ql.go ?_ ?_ |refine Qm.go (fun _=>?_) (fun _=>?_) |refine Br.dec (fun _=>?_) (fun _=>?_) |refine Br.go (fun _=>?_) (fun _=>?_) |refine Qd hT hP mixed ?_ |refine Qb hT hP ?_
 all_goals first
  |exact of_decide_eq_true rfl
  |exact .mk [] [] _ R R R R R R R
def QEi (a:Int):Int:=([65534,65535,65530,65531,65532,65533]:List Int).getD (a-6).toNat 0
def plA (a:Int) (r:List Int):Int :=
 if a=0∨a=1 then r.getD 7 0 else if a=2 then r.getD 8 0 else if a=3 then (r.getD 8 0+1)%65536 else if a=4 then 256+r.getD 3 0 else if a=5 then 256+(r.getD 3 0+1)%256
 else if a < 0∨a≥12 then 0 else QEi a
def plR (a:Int) (r:List Int):List Int :=
 if a=0 then r.set 7 ((r.getD 7 0+1)%65536) else if a=4 then r.set 3 ((r.getD 3 0-1)%256) else if a=5 then r.set 3 ((r.getD 3 0+1)%256) else r
theorem QGz {x y:Int} {l l':List Int} (h:x=y) (h2:l=l'):AV.tup [I1 x,.agg [.run .i64 9 l]]=AV.tup [I1 y,.agg [.run .i64 9 l']]:=by rw [h,h2]
def QGA:Qk:=⟨[gi],fun (a,_)=>(some (6≤a∧a < 12),I (QEi a),[])⟩
theorem QCy:Qi Tryz.prog 245 QGA.spec:=by
 have hP:Qe Tryz.prog _:=(Qc (T:=tree))
 have hT:=tabs hP Qf
 refine QGA.good (fn:=Tryz.f245) hT hP Tryz.func245 (by kernel_rfl) rfl fun (a:Int) hp=>?_
 have hp:6≤a∧a < 12:=hp _ rfl
 have e:IntKind.i64.wrap (a-6)=a-6:=w64 (by omega) (by omega)
 repeat' first |(refine Go.mk ?_;conv=>whnf) |refine Ql.go ?_ ?_ |refine Qm.go (fun _=>?_) (fun _=>?_) |refine Br.dec (fun _=>?_) (fun _=>?_) |refine Br.go (fun _=>?_) (fun _=>?_) |refine Qd hT hP mixed ?_ |refine Qb hT hP ?_
 ·rw [e];show 0≤a-6∧a-6 < 6;omega
 ·rw [e];show (a-6).toNat < 6;omega
 ·refine .mk [] [] _ R R R R R R (Qg ?_)
  rw [e];rfl
def QsG:Qk:=⟨[gi,gR],fun (a,r,_)=>(some (∃ q,r=QJ q),.tup [I1 (plA a r),.agg [.run .i64 9 (plR a r)]],[])⟩
theorem QsH:Qi Tryz.prog 209 QsG.spec:=by
 have hP:Qe Tryz.prog _:=Qa QT (Qa QCy (Qc (T:=tree)))
 have hT:=tabs hP Qf
 refine QsG.good (fn:=Tryz.f209) hT hP Tryz.func209 (by kernel_rfl) rfl fun (a:Int) (r:List Int) hp=>?_
 obtain ⟨q,rfl⟩:∃ q,r=QJ q:=hp _ rfl
 repeat' first |(refine Go.mk ?_;conv=>whnf) |refine Ql.go ?_ ?_ |refine Qm.go (fun _=>?_) (fun _=>?_) |refine Br.dec (fun _=>?_) (fun _=>?_) |refine Br.go (fun _=>?_) (fun _=>?_) |refine Qd hT hP mixed ?_ |refine Qb hT hP ?_
 all_goals first
  |exact of_decide_eq_true rfl
  |omega
  |skip
 all_goals (try refine .mk [] [] _ R R R R R R (QGz ?_ ?_))
 all_goals (try (dsimp only [gi,Den] at *;omega))
 all_goals clear hp
 all_goals (try simp_all [plA,plR,QJ,QjY])
 all_goals (try omega)
 all_goals (try (simp only [QsE];split<;>omega))
def QCz:Qk:=⟨[gi,gR],fun (a,r,_)=>(some (∃ q,r=QJ q),.tup [I1 (plA a r),.agg [.run .i64 9 (plR a r)]],[])⟩
theorem Qv1:Qi Tryz.prog 141 QCz.spec:=by
 have hP:Qe Tryz.prog _:=Qa Qjm (Qc (T:=tree))
 have hT:=tabs hP Qf
 refine QCz.good (fn:=Tryz.f141) hT hP Tryz.func141 (by kernel_rfl) rfl fun (a:Int) (r:List Int) hp=>?_
 obtain ⟨q,rfl⟩:∃ q,r=QJ q:=hp _ rfl
 repeat' first |(refine Go.mk ?_;conv=>whnf) |refine Ql.go ?_ ?_ |refine Qm.go (fun _=>?_) (fun _=>?_) |refine Br.dec (fun _=>?_) (fun _=>?_) |refine Br.go (fun _=>?_) (fun _=>?_) |refine Qd hT hP mixed ?_ |refine Qb hT hP ?_
 all_goals first
  |exact of_decide_eq_true rfl
  |exact rfl
  |skip
 all_goals (try refine .mk [] [] _ R R R R R R (QGz ?_ ?_))
 all_goals (try (dsimp only [gi,Den] at *;omega))
 all_goals clear hp
 all_goals (try simp_all [plA,plR,QJ,QjY,QEi])
 all_goals (try omega)
 all_goals (try (simp only [QsE];split<;>omega))
def QCA (op:Int) (x:Ins):Bool:=decide (x.1=op∧0≤op∧op≤255)
def QV (c:Cpu) (op:Int):List Cyc :=
 if op=256 then c.2.2.2.1 else if op=257 then c.2.2.2.2 else if op=258 then c.2.2.1 else match c.2.1.find? (QCA op) with |some x=>x.2.2.2 |none=>[]
theorem QsI {α:Type} {l:List α} {p:α→Bool} {k:Nat} (d:α) (h0:(l.take k).find? p=none) (h:k < l.length) (hp:p (l.getD k d)=true):l.find? p=some (l.getD k d):=by
 have e:l=l.take k++l.drop k:=(List.take_append_drop k l).symm
 have e2:l.drop k=l.getD k d :: l.drop (k+1):=by
  rw [List.drop_eq_getElem_cons h];simp [h]
 have:(l.take k++l.drop k).find? p=some (l.getD k d):=by
  rw [List.find?_append,h0,e2,List.find?_cons,hp];rfl
 rwa [List.take_append_drop] at this
theorem QcP {α:Type} {l:List α} {p:α→Bool} {k:Nat} (d:α) (h0:(l.take k).find? p=none) (h:k < l.length) (hp:p (l.getD k d)=false):(l.take (k+1)).find? p=none:=by
 have e2:l.getD k d=l[k]:=by simp [h]
 rw [e2] at hp
 rw [List.take_succ_eq_append_getElem h,List.find?_append,h0]
 simp [hp]
theorem Qop {α:Type} {l:List α} {p:α→Bool} {k:Nat} (h0:(l.take k).find? p=none) (h:l.length≤k):l.find? p=none:=by
 rwa [List.take_of_length_le h] at h0
def QEj:Qk:=⟨[QvZ,gi],fun (c,op,_)=>(some (List.length c.2.1≤4611686018427387904),.cell (.ro QA (QV c op)),[])⟩
theorem QsJ:Qi Tryz.prog 214 QEj.spec:=by
 have hP:Qe Tryz.prog _:=(Qc (T:=tree))
 have hT:=tabs hP Qf
 refine QEj.good (fn:=Tryz.f214) hT hP Tryz.func214 (by kernel_rfl) rfl fun (c:Cpu) (op:Int) hp=>?_
 obtain ⟨cn,ci,cr,cq,cm⟩:=c
 have hp:ci.length≤4611686018427387904:=hp _ rfl
 repeat' first |(refine Go.mk ?_;conv=>whnf) |refine Ql.go ?_ ?_ |refine Qm.go (fun _=>?_) (fun _=>?_) |refine Br.dec (fun _=>?_) (fun _=>?_) |refine Br.go (fun _=>?_) (fun _=>?_) |refine Qd hT hP mixed ?_ |refine Qb hT hP ?_
 ·rename_i h
  refine .mk [] [] _ R R R R R R (QhO ?_)
  simp_all [QV]
 ·rename_i h
  refine .mk [] [] _ R R R R R R (QhO ?_)
  simp_all [QV]
 ·rename_i h
  refine .mk [] [] _ R R R R R R (QhO ?_)
  simp_all [QV]
 rename_i n1 n2 n3
 have n1:¬ op=256:=n1
 have n2:¬ op=257:=n2
 have n3:¬ op=258:=n3
 have hF:QV (cn,ci,cr,cq,cm) op=match ci.find? (QCA op) with |some x=>x.2.2.2 |none=>[]:=by
  unfold QV;rw [if_neg n1,if_neg n2,if_neg n3]
 refine QO hT hP (A:=Unit) ci.length (fun i _=>St.mk (E1 ((I op) :: E10 (E5 (E3 (E1 ((.cell (.ro Qaw ci)) :: (I ci.length) :: (I i) :: E10 (E5 (E3 [])))))))) [])
  (fun k _=>(ci.take k).find? (QCA op)=none) () (Le.mk [] [] R R R ?_) (by simp) fun k _ hk hi=>?_
 rotate_right
 repeat' first |(refine Go.mk ?_;conv=>whnf) |refine Ql.go ?_ ?_ |refine Qm.go (fun _=>?_) (fun _=>?_) |refine Br.dec (fun _=>?_) (fun _=>?_) |refine Br.go (fun _=>?_) (fun _=>?_) |refine Qd hT hP mixed ?_ |refine Qb hT hP ?_
 all_goals (try (dsimp only [gi,Den] at *;omega))
 ·rename_i g1 g2 g3 g4
  have hlt:k < ci.length:=by omega
  refine .mk [] [] _ R R R R R R (QhO ?_)
  show _=QV (cn,ci,cr,cq,cm) op
  rw [hF,QsI (dflt Qaw) hi hlt (decide_eq_true ⟨g2,g3,g4⟩)];rfl
 ·rename_i g1 g2 g3 g4
  have hlt:k < ci.length:=by omega
  apply Exists.intro
  apply Exists.intro ()
  refine And.intro (And.intro ?lt235 (And.intro ?ei235 ?inv235)) (Le.mk [] [] R R ?hh235 ?ht235)
  case hh235=>exact rfl
  case ht235=>repeat' first |exact trivial |exact ⟨rfl,rfl⟩ |refine And.intro ?_ ?_
  case lt235=>omega
  case ei235=>exact QW (by omega)
  exact QcP (dflt Qaw) hi hlt (decide_eq_false fun h=>g4 h.2.2)
 ·rename_i g1 g2 g3
  have hlt:k < ci.length:=by omega
  apply Exists.intro
  apply Exists.intro ()
  refine And.intro (And.intro ?lt245 (And.intro ?ei245 ?inv245)) (Le.mk [] [] R R ?hh245 ?ht245)
  case hh245=>exact rfl
  case ht245=>repeat' first |exact trivial |exact ⟨rfl,rfl⟩ |refine And.intro ?_ ?_
  case lt245=>omega
  case ei245=>exact QW (by omega)
  exact QcP (dflt Qaw) hi hlt (decide_eq_false fun h=>g3 h.2.1)
 ·rename_i g1 g2
  have hlt:k < ci.length:=by omega
  apply Exists.intro
  apply Exists.intro ()
  refine And.intro (And.intro ?lt255 (And.intro ?ei255 ?inv255)) (Le.mk [] [] R R ?hh255 ?ht255)
  case hh255=>exact rfl
  case ht255=>repeat' first |exact trivial |exact ⟨rfl,rfl⟩ |refine And.intro ?_ ?_
  case lt255=>omega
  case ei255=>exact QW (by omega)
  exact QcP (dflt Qaw) hi hlt (decide_eq_false fun h=>g2 h.1)
 ·rename_i g1
  refine .le (Le.nilro 4 QA rfl) (.mk [] [] _ R R R R R R (QhO ?_))
  show _=QV (cn,ci,cr,cq,cm) op
  rw [hF,Qop hi (by omega)]
 ·repeat' first |exact trivial |exact ⟨rfl,rfl⟩ |refine And.intro ?_ ?_
theorem Qoq:Qi Tryz.prog 138 QEj.spec:=by
 have hP:Qe Tryz.prog _:=(Qc (T:=tree))
 have hT:=tabs hP Qf
 refine QEj.good (fn:=Tryz.f138) hT hP Tryz.func138 (by kernel_rfl) rfl fun (c:Cpu) (op:Int) hp=>?_
 obtain ⟨cn,ci,cr,cq,cm⟩:=c
 have hp:ci.length≤4611686018427387904:=hp _ rfl
 repeat' first |(refine Go.mk ?_;conv=>whnf) |refine Ql.go ?_ ?_ |refine Qm.go (fun _=>?_) (fun _=>?_) |refine Br.dec (fun _=>?_) (fun _=>?_) |refine Br.go (fun _=>?_) (fun _=>?_) |refine Qd hT hP mixed ?_ |refine Qb hT hP ?_
 ·rename_i h
  refine .mk [] [] _ R R R R R R (QhO ?_)
  simp_all [QV]
 ·rename_i h
  refine .mk [] [] _ R R R R R R (QhO ?_)
  simp_all [QV]
 ·rename_i h
  refine .mk [] [] _ R R R R R R (QhO ?_)
  simp_all [QV]
 rename_i n1 n2 n3
 have n1:¬ op=256:=n1
 have n2:¬ op=257:=n2
 have n3:¬ op=258:=n3
 have hF:QV (cn,ci,cr,cq,cm) op=match ci.find? (QCA op) with |some x=>x.2.2.2 |none=>[]:=by
  unfold QV;rw [if_neg n1,if_neg n2,if_neg n3]
 refine QO hT hP (A:=Unit) ci.length (fun i _=>St.mk (E1 ((I op) :: (.cell (.ptr 0 0)) :: E10 (E5 (E3 ((I ci.length) :: (I i) :: E20 (E5 [])))))) [some (.var [.imm (.string cn),.ro Qaw ci,.ro QA cr,.ro QA cq,.ro QA cm])])
  (fun k _=>(ci.take k).find? (QCA op)=none) () (Le.mk [] [0] R R R ?_) (by simp) fun k _ hk hi=>?_
 rotate_right
 repeat' first |(refine Go.mk ?_;conv=>whnf) |refine Ql.go ?_ ?_ |refine Qm.go (fun _=>?_) (fun _=>?_) |refine Br.dec (fun _=>?_) (fun _=>?_) |refine Br.go (fun _=>?_) (fun _=>?_) |refine Qd hT hP mixed ?_ |refine Qb hT hP ?_
 all_goals (try (dsimp only [gi,Den] at *;omega))
 ·rename_i g1 g2 g3 g4
  have hlt:k < ci.length:=by omega
  refine .mk [] [] _ R R R R R R (QhO ?_)
  show _=QV (cn,ci,cr,cq,cm) op
  rw [hF,QsI (dflt Qaw) hi hlt (decide_eq_true ⟨g2,g3,g4⟩)];rfl
 ·rename_i g1 g2 g3 g4
  have hlt:k < ci.length:=by omega
  apply Exists.intro
  apply Exists.intro ()
  refine And.intro (And.intro ?lt303 (And.intro ?ei303 ?inv303)) (Le.mk [] [0] R R ?hh303 ?ht303)
  case hh303=>exact rfl
  case ht303=>repeat' first |exact trivial |exact ⟨rfl,rfl⟩ |refine And.intro ?_ ?_
  case lt303=>omega
  case ei303=>exact QW (by omega)
  exact QcP (dflt Qaw) hi hlt (decide_eq_false fun h=>g4 h.2.2)
 ·rename_i g1 g2 g3
  have hlt:k < ci.length:=by omega
  apply Exists.intro
  apply Exists.intro ()
  refine And.intro (And.intro ?lt313 (And.intro ?ei313 ?inv313)) (Le.mk [] [0] R R ?hh313 ?ht313)
  case hh313=>exact rfl
  case ht313=>repeat' first |exact trivial |exact ⟨rfl,rfl⟩ |refine And.intro ?_ ?_
  case lt313=>omega
  case ei313=>exact QW (by omega)
  exact QcP (dflt Qaw) hi hlt (decide_eq_false fun h=>g3 h.2.1)
 ·rename_i g1 g2
  have hlt:k < ci.length:=by omega
  apply Exists.intro
  apply Exists.intro ()
  refine And.intro (And.intro ?lt323 (And.intro ?ei323 ?inv323)) (Le.mk [] [0] R R ?hh323 ?ht323)
  case hh323=>exact rfl
  case ht323=>repeat' first |exact trivial |exact ⟨rfl,rfl⟩ |refine And.intro ?_ ?_
  case lt323=>omega
  case ei323=>exact QW (by omega)
  exact QcP (dflt Qaw) hi hlt (decide_eq_false fun h=>g2 h.1)
 ·rename_i g1
  refine .le (Le.nilro 4 QA rfl) (.mk [] [] _ R R R R R R (QhO ?_))
  show _=QV (cn,ci,cr,cq,cm) op
  rw [hF,Qop hi (by omega)]
 ·repeat' first |exact trivial |exact ⟨rfl,rfl⟩ |refine And.intro ?_ ?_
def Qaq:Cyc:=(0,0,0,[])
def QeD (c:Cpu) (op at_:Int):Bool:=!decide (op=-1)&&(decide (0≤at_)&&decide (at_ < (QV c op).length))
def doF (c:Cpu) (op at_:Int):Cyc:=if QeD c op at_ then (QV c op).getD at_.toNat Qaq else Qaq
theorem Qv2 {a b c:Int} {l:List Stp} {o:Bool} {x:Cyc} {o':Bool} (h:(a,b,c,l)=x) (h2:o=o'):AV.tup [.agg [iv .i64 a,iv .i64 b,iv .i64 c,.ro QC l],.c (bv o)]=AV.tup [.agg [iv .i64 x.1,iv .i64 x.2.1,iv .i64 x.2.2.1,.ro QC x.2.2.2],.c (bv o')]:=by subst h;subst h2;rfl
def Qyi:Qk:=⟨[QvZ,gK],fun (c,k,_)=>(some (List.length c.2.1≤4611686018427387904),.tup [.agg [iv .i64 (doF c k.2.1 k.2.2.1).1,iv .i64 (doF c k.2.1 k.2.2.1).2.1,iv .i64 (doF c k.2.1 k.2.2.1).2.2.1,.ro QC (doF c k.2.1 k.2.2.1).2.2.2],.c (bv (QeD c k.2.1 k.2.2.1))],[])⟩
theorem Qor:Qi Tryz.prog 210 Qyi.spec:=by
 have hP:Qe Tryz.prog _:=Qa QsJ (Qc (T:=tree))
 have hT:=tabs hP Qf
 refine Qyi.good (fn:=Tryz.f210) hT hP Tryz.func210 (by kernel_rfl) rfl fun (c:Cpu) (k:Kor) hp=>?_
 obtain ⟨cn,ci,cr,cq,cm⟩:=c
 obtain ⟨r,op,at_,n⟩:=k
 have hp:ci.length≤4611686018427387904:=hp _ rfl
 repeat' first |(refine Go.mk ?_;conv=>whnf) |refine Ql.go ?_ ?_ |refine Qm.go (fun _=>?_) (fun _=>?_) |refine Br.dec (fun _=>?_) (fun _=>?_) |refine Br.go (fun _=>?_) (fun _=>?_) |refine Qd hT hP mixed ?_ |refine Qb hT hP ?_
 all_goals (try (dsimp only [gi,Den] at *;omega))
 ·exact hp
 ·rename_i g
  have g:op=-1:=g
  have hc:QeD (cn,ci,cr,cq,cm) op at_=false:=by unfold QeD;rw [decide_eq_true g];rfl
  refine .le (Le.nilroH 2 _ [iv .i64 0,iv .i64 0,iv .i64 0,.ro QC []] rfl ⟨.inl rfl,.inl rfl,.inl rfl,.inr ⟨rfl,_,rfl⟩,trivial⟩) (.mk [] [] _ R R R R R R (Qv2 ?_ hc.symm))
  show Qaq=doF _ _ _
  unfold doF;rw [if_neg (by rw [hc];decide)]
 ·rename_i g g2
  have g2:at_ < 0:=g2
  have hc:QeD (cn,ci,cr,cq,cm) op at_=false:=by unfold QeD;rw [decide_eq_false (show ¬ 0≤at_ by omega)];simp
  refine .le (Le.nilroH 2 _ [iv .i64 0,iv .i64 0,iv .i64 0,.ro QC []] rfl ⟨.inl rfl,.inl rfl,.inl rfl,.inr ⟨rfl,_,rfl⟩,trivial⟩) (.mk [] [] _ R R R R R R (Qv2 ?_ hc.symm))
  show Qaq=doF _ _ _
  unfold doF;rw [if_neg (by rw [hc];decide)]
 ·rename_i g g2 g3
  have g3:at_≥((QV (cn,ci,cr,cq,cm) op).length:Int):=g3
  have hc:QeD (cn,ci,cr,cq,cm) op at_=false:=by unfold QeD;rw [decide_eq_false (show ¬ at_ < ((QV (cn,ci,cr,cq,cm) op).length:Int) by omega)];simp
  refine .le (Le.nilroH 2 _ [iv .i64 0,iv .i64 0,iv .i64 0,.ro QC []] rfl ⟨.inl rfl,.inl rfl,.inl rfl,.inr ⟨rfl,_,rfl⟩,trivial⟩) (.mk [] [] _ R R R R R R (Qv2 ?_ hc.symm))
  show Qaq=doF _ _ _
  unfold doF;rw [if_neg (by rw [hc];decide)]
 ·rename_i g g2 g3
  have g:¬ op=-1:=g
  have g2:¬ at_ < 0:=g2
  have g3:¬ at_≥((QV (cn,ci,cr,cq,cm) op).length:Int):=g3
  have hc:QeD (cn,ci,cr,cq,cm) op at_=true:=by unfold QeD;rw [decide_eq_false g,decide_eq_true (show 0≤at_ by omega),decide_eq_true (show at_ < ((QV (cn,ci,cr,cq,cm) op).length:Int) by omega)];rfl
  refine .mk [] [] _ R R R R R R (Qv2 ?_ hc.symm)
  unfold doF;rw [if_pos hc];rfl
theorem QdJ (p:Int→Prop) [DecidablePred p] (h:∀ n:Fin 256,p (n.val:Int)) (x:Int) (h1:0≤x) (h2:x < 256):p x:=by
 have:=h ⟨x.toNat,by omega⟩
 have e:((x.toNat:Nat):Int)=x:=by omega
 simpa [e] using this
theorem QFW:∀ x:Int,0≤x→x < 256→(decide (land .i64 x 4=0))=decide (x/4%2=0):=QdJ (fun x=>(decide (land .i64 x 4=0))=decide (x/4%2=0)) (by decide +kernel)
def Qa0 (c:Cpu) (k:Kor) (irq:Bool):Kor :=
 if (k.2.2.2&&decide (0 < c.2.2.2.2.length))=true then (k.1,257,0,false) else if (irq&&(decide (k.1.getD 4 0/4%2=0)&&decide (0 < c.2.2.2.1.length)))=true then (k.1,256,0,k.2.2.2) else k
theorem Qos {r:List Int} {a b:Int} {n:Bool} {x:Kor} (h:(r,a,b,n)=x):AV.agg [.run .i64 9 r,iv .i64 a,iv .i64 b,bv n]=AV.agg [.run .i64 9 x.1,iv .i64 x.2.1,iv .i64 x.2.2.1,bv x.2.2.2]:=by subst h;rfl
def Qyj:Qk:=⟨[QvZ,gK,gB],fun (c,k,i,_)=>(some (List.length c.2.1≤4611686018427387904∧∃ q,k.1=QJ q),.agg [.run .i64 9 (Qa0 c k i).1,iv .i64 (Qa0 c k i).2.1,iv .i64 (Qa0 c k i).2.2.1,bv (Qa0 c k i).2.2.2],[])⟩
theorem Qv3:Qi Tryz.prog 208 Qyj.spec:=by
 have hP:Qe Tryz.prog _:=Qa QsJ (Qc (T:=tree))
 have hT:=tabs hP Qf
 refine Qyj.good (fn:=Tryz.f208) hT hP Tryz.func208 (by kernel_rfl) rfl fun (c:Cpu) (k:Kor) (i:Bool) hp=>?_
 obtain ⟨cn,ci,cr,cq,cm⟩:=c
 obtain ⟨r,op,at_,n⟩:=k
 obtain ⟨hz,q,rfl⟩:ci.length≤4611686018427387904∧∃ q,r=QJ q:=hp _ rfl
 clear hp
 have hl:land .i64 (q.getD 4 0%256) 4=0 ↔ q.getD 4 0%256/4%2=0:=by
  have:=QFW (q.getD 4 0%256) (by omega) (by omega)
  simpa using this
 repeat' first |(refine Go.mk ?_;conv=>whnf) |refine Ql.go ?_ ?_ |refine Qm.go (fun _=>?_) (fun _=>?_) |refine Br.dec (fun _=>?_) (fun _=>?_) |refine Br.go (fun _=>?_) (fun _=>?_) |refine Qd hT hP mixed ?_ |refine Qb hT hP ?_
 refine QZ 3 ?_
 repeat' first |(refine Go.mk ?_;conv=>whnf) |refine Ql.go ?_ ?_ |refine Qm.go (fun _=>?_) (fun _=>?_) |refine Br.dec (fun _=>?_) (fun _=>?_) |refine Br.go (fun _=>?_) (fun _=>?_) |refine Qd hT hP mixed ?_ |refine Qb hT hP ?_
 all_goals first
  |exact of_decide_eq_true rfl
  |exact hz
  |skip
 all_goals (try refine .mk [] [] _ R R R R R R (Qos ?_))
 all_goals (simp only [Qj] at *)
 all_goals (try simp_all [Qa0,QJ,QV,QjY])
 all_goals trace_state
set_option linter.constructorNameAsVariable false
abbrev Qv4:Sig:=⟨false,.str⟩
def QhS (c:Int):Bool:=decide ((97≤c∧c≤122)∨(48≤c∧c≤57)∨c=45)
def Qau (l:List Int):Bool:=decide (l.length≠0∧l.length≤20∧97≤l.getD 0 0∧l.getD 0 0≤122)&&l.all QhS
theorem Qlb (s:ByteArray):(bytesOf s).length=s.size:=by
 unfold bytesOf
 rw [List.length_map,Array.length_toList];rfl
theorem Qhi (s:ByteArray) (i:Nat):QeH s i=(bytesOf s).getD i 0:=by
 unfold QeH bytesOf
 rw [List.getD_eq_getElem?_getD,List.getD_eq_getElem?_getD,List.getElem?_map]
 cases s.data.toList[i]?<;>rfl
theorem Qgq (s:ByteArray):∀ c ∈ bytesOf s,0≤c∧c < 256:=by
 intro c hc
 unfold bytesOf at hc
 obtain ⟨b,_,rfl⟩:=List.mem_map.1 hc
 have:=b.toNat_lt
 omega
theorem QsK {s:ByteArray}:Qs s ⟨#[]⟩=decide ((bytesOf s).length=0):=by
 unfold Qs bytesOf
 rw [ByteArray.toList_eq,ByteArray.toList_eq,List.length_map]
 cases s.data.toList with
 |nil=>rfl
 |cons a r=>rfl
theorem Qew {l:List Int} (h:l.length=0∨l.length > 20∨l.getD 0 0 < 97∨l.getD 0 0 > 122∨l.all QhS=false):Qau l=false:=by
 unfold Qau
 by_cases h2:l.all QhS=false
 ·rw [h2,Bool.and_false]
 ·rw [decide_eq_false (by rcases h with h |h |h |h |h<;>first |omega |exact absurd h h2),Bool.false_and]
theorem Qot {l:List Int} {k:Nat} (h:k < l.length) (h1:(l.take k).all QhS=true) (h2:QhS (l.getD k 0)=true):(l.take (k+1)).all QhS=true:=by
 rw [List.getD_eq_getElem?_getD,List.getElem?_eq_getElem h] at h2
 rw [List.take_add_one,List.all_append,h1,List.getElem?_eq_getElem h]
 simpa using h2
theorem Qyk {l:List Int} {k:Nat} (h:k < l.length) (h2:QhS (l.getD k 0)=false):l.all QhS=false:=by
 rw [List.getD_eq_getElem?_getD,List.getElem?_eq_getElem h] at h2
 rw [← Bool.not_eq_true]
 intro e
 have:=List.all_eq_true.1 e _ (List.getElem_mem h)
 have h2:QhS l[k]=false:=h2
 rw [h2] at this
 cases this
def Qv5:Qk:=⟨[Qv4],fun (s,_)=>(none,.cell (bv (Qau (bytesOf s))),[])⟩
theorem Qe6:Qi Tryz.prog 100 Qv5.spec:=by
 have hP:Qe Tryz.prog _:=(Qc (T:=tree))
 have hT:=tabs hP Qf
 refine Qv5.good (fn:=Tryz.f100) hT hP Tryz.func100 (by kernel_rfl) rfl fun (s:ByteArray) _=>?_
 repeat' first |(refine Go.mk ?_;conv=>whnf) |refine Ql.go ?_ ?_ |refine Qm.go (fun _=>?_) (fun _=>?_) |refine Br.dec (fun _=>?_) (fun _=>?_) |refine Br.go (fun _=>?_) (fun _=>?_) |refine Qd hT hP mixed ?_ |refine Qb hT hP ?_
 all_goals first
  |exact of_decide_eq_true rfl
  |skip
 all_goals (have hL:=Qlb s)
 all_goals (simp only [QsK,Qhi] at *)
 all_goals (have h0:Int.toNat 0=0:=rfl)
 all_goals (try simp only [h0] at *)
 all_goals first
  |(rename_i h
     have h:=of_decide_eq_true h
     exact .mk [] [] _ R R R R R R (Qo (Qew (.inl h)).symm))
  |(have h:(s.size:Int) > 20:=by assumption
     refine .mk [] [] _ R R R R R R (Qo (Qew (.inr (.inl ?_))).symm)
     rw [hL]
     omega)
  |(have h1:decide ((bytesOf s).length=0)=false:=by assumption
     have h1:=of_decide_eq_false h1
     show 0≤(0:Int)∧(0:Int) < (s.size:Int)
     omega)
  |(rename_i h
     exact .mk [] [] _ R R R R R R (Qo (Qew (.inr (.inr (.inl h)))).symm))
  |(rename_i h
     exact .mk [] [] _ R R R R R R (Qo (Qew (.inr (.inr (.inr (.inl h))))).symm))
  |skip
 have g1:decide ((bytesOf s).length=0)=false:=by assumption
 have g1:=of_decide_eq_false g1
 have g2:¬ (s.size:Int) > 20:=by assumption
 have g3:¬ (bytesOf s).getD 0 0 < 97:=by assumption
 have g4:¬ (bytesOf s).getD 0 0 > 122:=by assumption
 have hF:Qau (bytesOf s)=(bytesOf s).all QhS:=by
  unfold Qau
  rw [decide_eq_true ⟨g1,by omega,by omega,by omega⟩,Bool.true_and]
 refine QO hT hP (A:=Unit) (bytesOf s).length (fun i _=>St.mk (E20 (E3 ((.cell (.ro (.int .u8) (bytesOf s))) :: (I ((bytesOf s).length:Int)) :: (I i) :: E20 (E3 [])))) [])
  (fun k _=>((bytesOf s).take k).all QhS=true) () (Le.mk [] [] R R R ?_) (by simp) fun k _ hk hi=>?_
 ·repeat' first |exact trivial |exact ⟨rfl,rfl⟩ |refine And.intro ?_ ?_
 repeat' first |(refine Go.mk ?_;conv=>whnf) |refine Ql.go ?_ ?_ |refine Qm.go (fun _=>?_) (fun _=>?_) |refine Br.dec (fun _=>?_) (fun _=>?_) |refine Br.go (fun _=>?_) (fun _=>?_) |refine Qd hT hP mixed ?_ |refine Qb hT hP ?_
 all_goals
  have ec:List.getD (α:=Den (.int .u8)) (bytesOf s) ((k:Int)).toNat (dflt (.int .u8))=(bytesOf s).getD k 0:=rfl
  try simp only [ec] at *
  clear ec
 all_goals clear hT hP
 all_goals
  generalize hc:(bytesOf s).getD k 0=c at *
 all_goals (try simp only [cond_false,Bool.not_eq_true',Bool.not_eq_false',beq_iff_eq,beq_eq_false_iff_ne] at *)
 have hlen:(bytesOf s).length≤20:=by omega
 all_goals first
  |exact of_decide_eq_true rfl
  |(show 0≤(k:Int)∧(k:Int) < ((bytesOf s).length:Int)
     omega)
  |(have hb:QhS c=false:=decide_eq_false (by omega)
     refine .mk [] [] _ R R R R R R (Qo ?_)
     rw [hF,Qyk (k:=k) (by omega) (by rw [hc];exact hb)])
  |(have hb:QhS c=true:=decide_eq_true (by omega)
     apply Exists.intro
     apply Exists.intro ()
     refine And.intro (And.intro ?lt (And.intro ?ei ?inv)) (Le.mk [] [] R R ?hh ?ht)
     case hh=>exact rfl
     case ht=>repeat' first |exact trivial |exact ⟨rfl,rfl⟩ |refine And.intro ?_ ?_
     case lt=>omega
     case ei=>exact QW (by omega)
     case inv=>exact Qot (by omega) hi (by rw [hc];exact hb))
  |(refine .mk [] [] _ R R R R R R (Qo ?_)
     rw [hF]
     rw [List.take_of_length_le (by omega)] at hi
     exact hi.symm)
  |skip
 all_goals trace_state
abbrev gu8:Sig:=⟨false,.int .u8⟩
set_option maxHeartbeats 1000000 in
theorem Qv6 (s:ByteArray) (c:Int) (w:World) :
 Calls Tryz.prog 118 #[.string s,.int .u8 c] w fun e w'=>e=.returned (.int .i64 (Lib.indexByte s.data.toList c.toNat.toUInt8))∧w'=w:=by
 have mixed:Tryz.prog.follows .mixedOrders=true:=mixed
 go_enter Tryz.func118,Tryz.ntmps118
 go_wp2
 rw [run_callFunc_extern Tryz.func200 (by kernel_rfl) (by kernel_rfl) (by kernel_rfl) (e:=Extern.BytealgIndexByte.indexByte) (by kernel_rfl),Lib.run_indexByteString]
 simp only [Result.andThen]
 rw [Oper.upon_value]
 go_wp2
 go_ret
 exact ⟨rfl,rfl⟩
def Qv7:Qk:=⟨[Qv4,gu8],fun (s,c,_)=>(none,I (Lib.indexByte s.data.toList (Int.toNat c).toUInt8),[])⟩
theorem QsL:Qi Tryz.prog 118 Qv7.spec:=by
 refine Qk.of_calls Tryz.func118 (by kernel_rfl) rfl Qv7 (fun _=>rfl) fun E (s,c,_) vs hv _=>?_
 obtain ⟨v1,r1,e1,⟨h1,_⟩,v2,r2,e2,⟨h2,_⟩,h3⟩:=hv
 injection h1 with h1
 injection h2 with h2
 have h3:r2=[]:=h3
 have e:vs=#[.string s,.int .u8 c]:=by
  apply Array.ext'
  rw [e1,e2,h3,h1,h2]
 subst e
 refine (Qv6 s c E.w).mono ?_
 rintro e w' ⟨rfl,rfl⟩
 exact ⟨⟨_,rfl,rfl,rfl⟩,rfl⟩
theorem Qe7:Qi Tryz.prog 64 Qv7.spec:=by
 have hP:Qe Tryz.prog _:=Qa QsL (Qc (T:=tree))
 have hT:=tabs hP Qf
 refine Qv7.good (fn:=Tryz.f64) hT hP Tryz.func64 (by kernel_rfl) rfl fun (s:ByteArray) (c:Int) _=>?_
 repeat' first |(refine Go.mk ?_;conv=>whnf) |refine Ql.go ?_ ?_ |refine Qm.go (fun _=>?_) (fun _=>?_) |refine Br.dec (fun _=>?_) (fun _=>?_) |refine Br.go (fun _=>?_) (fun _=>?_) |refine Qd hT hP mixed ?_ |refine Qb hT hP ?_
 exact .mk [] [] _ R R R R R R R
def lets:List UInt8:=[97,98,99,100,101,102,103,104,105,106,107,108,109,110,111,112,113,114,115,116,117,118,119,120,121,122]
def Qv8:List UInt8:=lets++[48,49,50,51,52,53,54,55,56,57,45]
theorem Qv9:(List.range 256).all (fun n=>decide (Lib.indexByte lets n.toUInt8 < 0) == !decide (97≤n∧n≤122))=true:=by decide +kernel
theorem QsM:(List.range 256).all (fun n=>decide (Lib.indexByte Qv8 n.toUInt8 < 0) == !QhS (n:Int))=true:=by decide +kernel
theorem QsN {c:Int} (h:0≤c∧c < 256):decide (Lib.indexByte lets c.toNat.toUInt8 < 0)=!decide (97≤c∧c≤122):=by
 have:=List.all_eq_true.1 Qv9 c.toNat (List.mem_range.2 (by omega))
 rw [beq_iff_eq] at this
 rw [this]
 congr 1
 by_cases h2:97≤c∧c≤122
 ·rw [decide_eq_true h2,decide_eq_true (by omega)]
 ·rw [decide_eq_false h2,decide_eq_false (by omega)]
theorem Qou {c:Int} (h:0≤c∧c < 256):decide (Lib.indexByte Qv8 c.toNat.toUInt8 < 0)=!QhS c:=by
 have:=List.all_eq_true.1 QsM c.toNat (List.mem_range.2 (by omega))
 rw [beq_iff_eq] at this
 rw [this]
 have:((c.toNat:Nat):Int)=c:=by omega
 rw [this]
theorem Qhj:Qi Tryz.prog 61 Qv5.spec:=by
 have hP:Qe Tryz.prog _:=Qa Qe7 (Qc (T:=tree))
 have hT:=tabs hP Qf
 refine Qv5.good (fn:=Tryz.f61) hT hP Tryz.func61 (by kernel_rfl) rfl fun (s:ByteArray) _=>?_
 have hL:=Qlb s
 repeat' first |(refine Go.mk ?_;conv=>whnf) |refine Ql.go ?_ ?_ |refine Qm.go (fun _=>?_) (fun _=>?_) |refine Br.dec (fun _=>?_) (fun _=>?_) |refine Br.go (fun _=>?_) (fun _=>?_) |refine Qd hT hP mixed ?_ |refine Qb hT hP ?_
 ·rename_i h
  have h:(s.size:Int) < 1:=h
  exact .mk [] [] _ R R R R R R (Qo (Qew (.inl (by omega))).symm)
 ·rename_i h
  have h:(s.size:Int) > 20:=h
  exact .mk [] [] _ R R R R R R (Qo (Qew (.inr (.inl (by omega)))).symm)
 ·rename_i h _
  have h:¬ (s.size:Int) < 1:=h
  show 0≤(0:Int)∧(0:Int) < (s.size:Int)
  omega
 ·rename_i h1 h2 h3
  have h1:¬ (s.size:Int) < 1:=h1
  have hc:=Qgq s ((bytesOf s).getD 0 0) (by rw [List.getD_eq_getElem?_getD,List.getElem?_eq_getElem (by omega)];exact List.getElem_mem _)
  have h3:Lib.indexByte lets (QeH s 0).toNat.toUInt8 < 0:=h3
  rw [Qhi] at h3
  have e:=QsN hc
  rw [decide_eq_true h3] at e
  have e:decide (97≤(bytesOf s).getD 0 0∧(bytesOf s).getD 0 0≤122)=false:=by
   cases hd:decide (97≤(bytesOf s).getD 0 0∧(bytesOf s).getD 0 0≤122) with
   |true=>rw [hd] at e;cases e
   |false=>rfl
  have e:=of_decide_eq_false e
  exact .mk [] [] _ R R R R R R (Qo (Qew (by omega)).symm)
 rename_i h1 h2 h3
 have h1:¬ (s.size:Int) < 1:=h1
 have h2:¬ (s.size:Int) > 20:=h2
 have hc0:=Qgq s ((bytesOf s).getD 0 0) (by rw [List.getD_eq_getElem?_getD,List.getElem?_eq_getElem (by omega)];exact List.getElem_mem _)
 have h3:¬ Lib.indexByte lets (QeH s 0).toNat.toUInt8 < 0:=h3
 rw [Qhi] at h3
 have e:=QsN hc0
 rw [decide_eq_false h3] at e
 have e:decide (97≤(bytesOf s).getD 0 0∧(bytesOf s).getD 0 0≤122)=true:=by
  cases hd:decide (97≤(bytesOf s).getD 0 0∧(bytesOf s).getD 0 0≤122) with
  |true=>rfl
  |false=>rw [hd] at e;cases e
 have e:=of_decide_eq_true e
 have hF:Qau (bytesOf s)=(bytesOf s).all QhS:=by
  unfold Qau
  rw [decide_eq_true ⟨by omega,by omega,by omega,by omega⟩,Bool.true_and]
 refine QO hT hP (A:=Unit) (bytesOf s).length (fun i _=>St.mk ((.imm (.string s)) :: E10 (E5 (E3 ((I (s.size:Int)) :: (I i) :: E5 (E3 []))))) [])
  (fun k _=>((bytesOf s).take k).all QhS=true) () (Le.mk [] [] R R R ?_) (by simp) fun k _ hk hi=>?_
 ·repeat' first |exact trivial |exact ⟨rfl,rfl⟩ |refine And.intro ?_ ?_
 repeat' first |(refine Go.mk ?_;conv=>whnf) |refine Ql.go ?_ ?_ |refine Qm.go (fun _=>?_) (fun _=>?_) |refine Br.dec (fun _=>?_) (fun _=>?_) |refine Br.go (fun _=>?_) (fun _=>?_) |refine Qd hT hP mixed ?_ |refine Qb hT hP ?_
 ·rename_i g1
  have g1:(k:Int) < (s.size:Int):=g1
  show 0≤(k:Int)∧(k:Int) < (s.size:Int)
  omega
 ·rename_i g1 g2
  have g1:(k:Int) < (s.size:Int):=g1
  have hk2:k < (bytesOf s).length:=by omega
  have hc:=Qgq s ((bytesOf s).getD k 0) (by rw [List.getD_eq_getElem?_getD,List.getElem?_eq_getElem hk2];exact List.getElem_mem _)
  have g2:Lib.indexByte Qv8 (QeH s k).toNat.toUInt8 < 0:=g2
  rw [Qhi] at g2
  have e:=Qou hc
  rw [decide_eq_true g2] at e
  have e:QhS ((bytesOf s).getD k 0)=false:=by
   cases hd:QhS ((bytesOf s).getD k 0) with
   |true=>rw [hd] at e;cases e
   |false=>rfl
  refine .mk [] [] _ R R R R R R (Qo ?_)
  rw [hF,Qyk hk2 e]
 ·rename_i g1 g2
  have g1:(k:Int) < (s.size:Int):=g1
  have hk2:k < (bytesOf s).length:=by omega
  have hc:=Qgq s ((bytesOf s).getD k 0) (by rw [List.getD_eq_getElem?_getD,List.getElem?_eq_getElem hk2];exact List.getElem_mem _)
  have g2:¬ Lib.indexByte Qv8 (QeH s k).toNat.toUInt8 < 0:=g2
  rw [Qhi] at g2
  have e:=Qou hc
  rw [decide_eq_false g2] at e
  have e:QhS ((bytesOf s).getD k 0)=true:=by
   cases hd:QhS ((bytesOf s).getD k 0) with
   |true=>rfl
   |false=>rw [hd] at e;cases e
  apply Exists.intro
  apply Exists.intro ()
  refine And.intro (And.intro ?lt145 (And.intro ?ei145 ?inv145)) (Le.mk [] [] R R ?hh145 ?ht145)
  case hh145=>exact rfl
  case ht145=>repeat' first |exact trivial |exact ⟨rfl,rfl⟩ |refine And.intro ?_ ?_
  case lt145=>omega
  case ei145=>exact QW (by omega)
  exact Qot hk2 hi e
 ·rename_i g1
  have g1:¬ (k:Int) < (s.size:Int):=g1
  refine .mk [] [] _ R R R R R R (Qo ?_)
  rw [hF]
  rw [List.take_of_length_le (by omega)] at hi
  exact hi.symm
def Qmv (u:Nat):List Int:=if u < 128 then [(u:Int)] else ((u%128+128:Nat):Int) :: Qmv (u/128)
termination_by u
decreasing_by omega
theorem Qdf {u:Nat} (h:u < 128):Qmv u=[(u:Int)]:=by rw [Qmv,if_pos h]
theorem QdL {u:Nat} (h:¬ u < 128):Qmv u=((u%128+128:Nat):Int) :: Qmv (u/128):=by rw [Qmv,if_neg h]
theorem QoA:∀ (k u:Nat),u < 128 ^ (k+1)→(Qmv u).length≤k+1
 |0,u,h=>by rw [Qdf (by simpa using h)];simp
 |k+1,u,h=>by
   by_cases h1:u < 128
   ·rw [Qdf h1];simp
   ·rw [QdL h1]
    have h2:u/128 < 128 ^ (k+1):=by
     rw [Nat.pow_succ] at h
     exact Nat.div_lt_of_lt_mul (by rw [Nat.mul_comm];exact h)
    have:=QoA k (u/128) h2
    simp only [List.length_cons];omega
theorem QAl {u:Nat} (h:u < 18446744073709551616):(Qmv u).length≤10:=QoA 9 u (Nat.lt_of_lt_of_le h (by decide))
def zig (n:Int):Nat:=if n < 0 then (-(2*n)-1).toNat else (2*n).toNat
def Qao (n:Int):Prop:=-9223372036854775808≤n∧n≤9223372036854775807
theorem QCJ {n:Int} (h:Qao n):zig n < 18446744073709551616:=by
 unfold Qao at h;unfold zig;split<;>omega
def QeE (n:Int):List Int:=Qmv (zig n)
theorem QaH {n:Int} (h:Qao n):(QeE n).length≤10:=QAl (QCJ h)
def Q0 (l:List Int):List Int:=l.flatMap QeE
theorem Qex (n:Int) (l:List Int):Q0 (n :: l)=QeE n++Q0 l:=rfl
theorem Qjn (l m:List Int):Q0 (l++m)=Q0 l++Q0 m:=by unfold Q0;rw [List.flatMap_append]
theorem QcQ {l:List Int} (h:∀ n ∈ l,Qao n):(Q0 l).length≤10*l.length:=by
 induction l with
 |nil=>simp [Q0]
 |cons x r ih =>
   have h1:=QaH (h x (List.mem_cons_self ..))
   have h2:=ih fun n hn=>h n (List.mem_cons_of_mem _ hn)
   rw [Qex,List.length_append,List.length_cons];omega
def Qhl (d:Int) (u:Nat):List Int:=if u=0 then [d] else (d+128) :: Qmv u
theorem Qwh {d:Int} {u:Nat} (h:u≠0):Qhl d u=(d+128) :: Qhl ((u%128:Nat):Int) (u/128):=by
 rw [Qhl,if_neg h,Qhl]
 by_cases h1:u < 128
 ·rw [Qdf h1,if_pos (by omega),Nat.mod_eq_of_lt h1]
 ·rw [QdL h1,if_neg (by omega)]
  rfl
theorem Qmw (u:Nat) (b:Nat) (hb:b < 2):Qhl ((u%64*2+b:Nat):Int) (u/64)=Qmv (2*u+b):=by
 rw [Qhl]
 by_cases h:u/64=0
 ·rw [if_pos h,Qdf (u:=2*u+b) (by omega),show u%64*2+b=2*u+b by omega]
 ·rw [if_neg h,QdL (u:=2*u+b) (by omega),show (2*u+b)/128=u/64 by omega,show (2*u+b)%128=u%64*2+b by omega]
  rfl
theorem QGC (x:Int):IntKind.u64.wrap x=x%18446744073709551616:=rfl
theorem wu8 (x:Int):IntKind.u8.wrap x=x%256:=rfl
theorem QsT (x:Int) (k:Nat) (hk:k≤64):shr .u64 x k=x/2 ^ k:=by
 unfold shr
 rw [Int.toNat_natCast,show IntKind.u64.bits=64 from rfl,Nat.min_eq_left hk,Int.fdiv_eq_ediv_of_nonneg _ (by exact_mod_cast Nat.zero_le _)]
theorem Qjo (x:Int):shr .u64 x 7=x/128:=QsT x 7 (by decide)
theorem QoB (x:Int):shr .u64 x 6=x/64:=QsT x 6 (by decide)
theorem QsU {a b:Nat} (ha:a < 2 ^ 64) (hb:b < 2 ^ 64):land .u64 (a:Int) (b:Int)=((a &&& b:Nat):Int):=by
 show (((BitVec.ofInt 64 (a:Int) &&& BitVec.ofInt 64 (b:Int)).toNat:Nat):Int)%18446744073709551616=_
 rw [BitVec.toNat_and,Qab,Qab,Qal ha,Qal hb]
 have:=Nat.and_lt_two_pow a hb
 omega
theorem QoC {x:Int} (h:0≤x∧x < 18446744073709551616) (k:Nat) (hk:k < 63):land .u64 x ((2 ^ k-1:Nat):Int)=x%((2 ^ k:Nat):Int):=by
 obtain ⟨n,rfl⟩:=Int.eq_ofNat_of_zero_le h.1
 have hp:2 ^ k≤2 ^ 63:=Nat.pow_le_pow_right (by omega) (by omega)
 rw [QsU (by omega) (by omega),Nat.and_two_pow_sub_one_eq_mod,Int.natCast_emod]
theorem Qip {x:Int} (h:0≤x∧x < 18446744073709551616):land .u64 x 63=x%64:=QoC h 6 (by decide)
theorem Qmx {x:Int} (h:0≤x∧x < 18446744073709551616):land .u64 x 127=x%128:=QoC h 7 (by decide)
theorem Qwi:∀ x:Int,0≤x→x < 256→lor .u8 x 128=x%128+128:=QdJ (fun x=>lor .u8 x 128=x%128+128) (by decide +kernel)
theorem QsV (x:Int):shl .u8 x 1=(x*2)%256:=rfl
structure QIG where
 nil:Bool
 l:List Int
 n:Int
theorem QsW {l l':List Int} (h:l=l'):[some (Blk.arr (.int .u8) l)]=[some (Blk.arr (.int .u8) l')]:=by rw [h]
def Qwj (n:Int) (l:List Int) (d u:Int):Prop:=(0≤u∧u < 18446744073709551616)∧(0≤d∧d < 128)∧l++Qhl d u.toNat=QeE n
theorem Qwk {l:List Int} {n d u:Int} (hn:Qao n) (h:Qwj n l d u):l.length+1≤10:=by
 have h1:=congrArg List.length h.2.2
 rw [List.length_append] at h1
 have h3:=QaH hn
 have h2:0 < (Qhl d u.toNat).length:=by unfold Qhl;split<;>simp
 omega
theorem Qwl (l:List Int) (d v:Int) {i:Int} (h:i=(l.length:Int)):(l++[d]).set i.toNat v=l++[v]:=by
 subst h
 rw [Int.toNat_natCast,List.set_append,if_neg (by omega),Nat.sub_self];rfl
theorem Qwm (l:List Int) (d:Int) {i:Int} (h:i=(l.length:Int)):(l++[d]).getD i.toNat 0=d:=by
 subst h
 rw [Int.toNat_natCast,List.getD_eq_getElem?_getD,List.getElem?_append_right (by omega),Nat.sub_self];rfl
theorem QsX {l:List Int} {d:Int} (h:l.length≤100):IntKind.i64.wrap (((l++[d]).length:Int)-1)=(l.length:Int):=by
 have e:((l++[d]).length:Int)=(l.length:Int)+1:=by simp
 rw [e,w64 (by omega) (by omega)];omega
theorem QAm {l:List Int} {n d u:Int} (h:Qwj n l d u) (hu:u > 0):Qwj n (l++[lor .u8 d 128]) (IntKind.u8.wrap (land .u64 u 127)) (shr .u64 u 7):=by
 obtain ⟨h1,h2,h3⟩:=h
 have a1:lor .u8 d 128=d+128:=by rw [Qwi _ h2.1 (by omega)];omega
 have a2:IntKind.u8.wrap (land .u64 u 127)=((u.toNat%128:Nat):Int):=by rw [Qmx h1,wu8];omega
 have a3:(shr .u64 u 7).toNat=u.toNat/128:=by rw [Qjo];omega
 refine ⟨by rw [Qjo];omega,by rw [a2];omega,?_⟩
 rw [a1,a2,a3,← h3,Qwh (u:=u.toNat) (d:=d) (by omega),List.append_assoc];rfl
theorem Qwn {l:List Int} {n d u:Int} (h:Qwj n l d u) (hu:¬ u > 0):l++[d]=QeE n:=by
 obtain ⟨h1,h2,h3⟩:=h
 rw [← h3,Qhl,if_pos (by omega)]
theorem QCK {l:List Int} {d:Int} (h:l.length≤100):(l++[d]).set (IntKind.i64.wrap (((l++[d]).length:Int)-1)).toNat (lor .u8 ((l++[d]).getD (IntKind.i64.wrap (((l++[d]).length:Int)-1)).toNat 0) 128)=l++[lor .u8 d 128]:=by
 rw [Qwm l d (QsX h),Qwl l d _ (QsX h)]
theorem Qiq {n U:Int} {b:Nat} (hb:b < 2) (hU:0≤U∧U < 9223372036854775808) (he:zig n=2*U.toNat+b):Qwj n [] (U%64*2+b) (U/64):=by
 refine ⟨by omega,by omega,?_⟩
 show Qhl _ _=Qmv _
 have e1:U%64*2+(b:Int)=((U.toNat%64*2+b:Nat):Int):=by omega
 have e2:(U/64).toNat=U.toNat/64:=by omega
 rw [he,← Qmw U.toNat b hb,e1,e2]
theorem Qwo {n:Int} (hn:Qao n) (h:¬ n < 0):Qwj n [] (shl .u8 (IntKind.u8.wrap (land .u64 (IntKind.u64.wrap n) 63)) 1) (shr .u64 (IntKind.u64.wrap n) 6):=by
 unfold Qao at hn
 have e:IntKind.u64.wrap n=n:=by rw [QGC];omega
 have a1:shl .u8 (IntKind.u8.wrap (land .u64 (IntKind.u64.wrap n) 63)) 1=n%64*2+((0:Nat):Int):=by rw [e,Qip (by omega),wu8,QsV];omega
 rw [a1,e,QoB]
 exact Qiq (by decide) (by omega) (by unfold zig;rw [if_neg h];omega)
theorem Qwp {n:Int} (hn:Qao n) (h:n < 0):Qwj n [] (IntKind.u8.wrap (shl .u8 (IntKind.u8.wrap (land .u64 (IntKind.u64.wrap (IntKind.i64.wrap (0-IntKind.i64.wrap (n+1)))) 63)) 1+1)) (shr .u64 (IntKind.u64.wrap (IntKind.i64.wrap (0-IntKind.i64.wrap (n+1)))) 6):=by
 unfold Qao at hn
 have e:IntKind.u64.wrap (IntKind.i64.wrap (0-IntKind.i64.wrap (n+1)))=-n-1:=by
  rw [w64 (x:=n+1) (by omega) (by omega),w64 (by omega) (by omega),QGC];omega
 have a1:IntKind.u8.wrap (shl .u8 (IntKind.u8.wrap (land .u64 (IntKind.u64.wrap (IntKind.i64.wrap (0-IntKind.i64.wrap (n+1)))) 63)) 1+1)=(-n-1)%64*2+((1:Nat):Int):=by rw [e,Qip (by omega),wu8,wu8,QsV];omega
 rw [a1,e,QoB]
 exact Qiq (by decide) (by omega) (by unfold zig;rw [if_pos h];omega)
def QCL:Qk:=⟨[gi],fun (n,_)=>(some (Qao n),.cell (.own 0),[.arr (.int .u8) (QeE n)])⟩
set_option maxHeartbeats 4000000 in
theorem QAn:Qi Tryz.prog 121 QCL.spec:=by
 have hP:Qe Tryz.prog _:=(Qc (T:=tree))
 have hT:=tabs hP Qf
 refine QCL.good (fn:=Tryz.f121) hT hP Tryz.func121 (by kernel_rfl) rfl fun (n:Int) hq=>?_
 have hn:Qao n:=hq _ rfl
 clear hq
 have hn':=hn
 unfold Qao at hn'
 repeat' first |(refine Go.mk ?_;conv=>whnf) |refine Ql.go ?_ ?_ |refine Qm.go (fun _=>?_) (fun _=>?_) |refine Br.dec (fun _=>?_) (fun _=>?_) |refine Br.go (fun _=>?_) (fun _=>?_) |refine Qd hT hP mixed ?_ |refine Qb hT hP ?_
 all_goals first
  |exact of_decide_eq_true rfl
  |skip
 all_goals first
  |(exfalso;simp_all;done)
  |refine Qay hT hP (X:=List Int × Int × Int) (fun (l,d,u)=>St.mk (E3 ((.cell (.own 0)) :: (.cell (iv .u64 u)) :: E40 (E3 []))) [some (.arr (.int .u8) (l++[d]))]) (fun (l,d,u)=>Qwj n l d u) (fun (l,d,u)=>u.toNat) ([],shl .u8 (IntKind.u8.wrap (land .u64 (IntKind.u64.wrap n) 63)) 1,shr .u64 (IntKind.u64.wrap n) 6) (Le.mk [] [1] R R (by exact rfl) (by repeat' first |exact trivial |exact ⟨rfl,rfl⟩ |refine And.intro ?_ ?_)) (Qwo hn (by assumption)) fun (l,d,u) hi=>?_
  |refine Qay hT hP (X:=List Int × Int × Int) (fun (l,d,u)=>St.mk (E3 ((.cell (.own 0)) :: (.cell (iv .u64 u)) :: E40 (E3 []))) [some (.arr (.int .u8) (l++[d]))]) (fun (l,d,u)=>Qwj n l d u) (fun (l,d,u)=>u.toNat) ([],IntKind.u8.wrap (shl .u8 (IntKind.u8.wrap (land .u64 (IntKind.u64.wrap (IntKind.i64.wrap (0-IntKind.i64.wrap (n+1)))) 63)) 1+1),shr .u64 (IntKind.u64.wrap (IntKind.i64.wrap (0-IntKind.i64.wrap (n+1)))) 6) (Le.mk [] [1] R R (by exact rfl) (by repeat' first |exact trivial |exact ⟨rfl,rfl⟩ |refine And.intro ?_ ?_)) (Qwp hn (by assumption)) fun (l,d,u) hi=>?_
 all_goals
  have hlen:=Qwk hn hi
  have hla:=QsX (l:=l) (d:=d) (by omega)
  repeat' first |(refine Go.mk ?_;conv=>whnf) |refine Ql.go ?_ ?_ |refine Qm.go (fun _=>?_) (fun _=>?_) |refine Br.dec (fun _=>?_) (fun _=>?_) |refine Br.go (fun _=>?_) (fun _=>?_) |refine Qd hT hP mixed ?_ |refine Qb hT hP ?_
 all_goals
  have hL:(l++[d]).length=l.length+1:=by simp
 all_goals first
  |exact of_decide_eq_true rfl
  |(show 0≤IntKind.i64.wrap (((l++[d]).length:Int)-1)∧IntKind.i64.wrap (((l++[d]).length:Int)-1) < (((l++[d]).length:Nat):Int)
     rw [hla,hL];omega)
  |(show (IntKind.i64.wrap (((l++[d]).length:Int)-1)).toNat < (l++[d]).length
     rw [hla,hL];omega)
  |(rw [List.length_set]
     show ((l++[d]).length+1)*1≤140737488355328
     rw [hL];omega)
  |(rename_i h
     have h:u > 0:=h
     apply Exists.intro (l++[lor .u8 d 128],IntKind.u8.wrap (land .u64 u 127),shr .u64 u 7)
     refine And.intro ?_ (And.intro ?_ (Le.mk [] [2] R R ?hh ?ht))
     case hh=>exact QsW (congrArg (·++[IntKind.u8.wrap (land .u64 u 127)]) (QCK (by omega)))
     case ht=>repeat' first |exact trivial |exact ⟨rfl,rfl⟩ |refine And.intro ?_ ?_
     ·exact QAm hi h
     ·show (shr .u64 u 7).toNat < u.toNat
      rw [Qjo];omega)
  |(rename_i h
     exact .mk [] [0] _ R R R R R (QsW (Qwn hi h)) rfl)
  |skip
theorem Qa8 {l:List Int} {k:Nat} (h:k < l.length):l.getD k 0 ∈ l:=by
 rw [List.getD_eq_getElem?_getD,List.getElem?_eq_getElem h]
 exact List.getElem_mem h
theorem Qmy {l:List Int} {k:Nat} (h:k < l.length):Q0 (l.take (k+1))=Q0 (l.take k)++QeE (l.getD k 0):=by
 rw [List.take_add_one,Qjn,List.getD_eq_getElem?_getD,List.getElem?_eq_getElem h]
 simp [Q0]
theorem Qb9 {l:List Int} (h:∀ n ∈ l,Qao n) (k:Nat):(Q0 (l.take k)).length≤10*l.length:=by
 have h1:=QcQ (l:=l.take k) fun n hn=>h n (List.mem_of_mem_take hn)
 have h2:(l.take k).length≤l.length:=by rw [List.length_take];omega
 omega
inductive QiC where
 |N0 (l:List Int)
 |O1 (l o:List Int)
 |R1 (l o:List Int)
def QiC.l:QiC→List Int
 |.N0 l=>l
 |.O1 l _=>l
 |.R1 l _=>l
def QiC.out:QiC→List Int
 |.N0 _=>[]
 |.O1 _ o=>o
 |.R1 _ o=>o
def QAo:List V1→List Blk→Option QiC:=fun a b=>match a,b with
 | [.c (.own 0),.c (.ptr 1 0)],[.arr (.int .i64) l,.var [.imm (.slice none 0 0)]]=>some (.N0 l)
 | [.c (.own 0),.c (.ptr 1 0)],[.arr (.int .i64) l,.var [.own 2],.arr (.int .u8) o]=>some (.O1 l o)
 | [.c (.ro (.int .i64) l),.c (.ptr 0 0)],[.var [.own 1],.arr (.int .u8) o]=>some (.R1 l o)
 |_,_=>none
def QsY:QiC→List V1
 |.N0 l=>[.c (.own 0),.c (.ptr 1 0)]
 |.O1 l o=>[.c (.own 0),.c (.ptr 1 0)]
 |.R1 l o=>[.c (.ro (.int .i64) l),.c (.ptr 0 0)]
def QCM:QiC→List Blk
 |.N0 l=>[.arr (.int .i64) l,.var [.imm (.slice none 0 0)]]
 |.O1 l o=>[.arr (.int .i64) l,.var [.own 2],.arr (.int .u8) o]
 |.R1 l o=>[.var [.own 1],.arr (.int .u8) o]
theorem Qwq {a:List V1} {b:List Blk} {x:QiC} (h:QAo a b=some x):a=QsY x∧b=QCM x:=by
 unfold QAo at h
 split at h
 ·injection h with h;subst h;exact ⟨rfl,rfl⟩
 ·injection h with h;subst h;exact ⟨rfl,rfl⟩
 ·injection h with h;subst h;exact ⟨rfl,rfl⟩
 ·cases h
def QAp (x:QiC):Prop:=(∀ n ∈ x.l,Qao n)∧x.out.length+10*x.l.length≤35184372088832
def QCN (x:QiC):Option Prop × AV × List (Option Blk) × List Blk:=match x with
 |.N0 l=>match l with
   | []=>(some (QAp x),.tup [],[some (.arr (.int .i64) l),some (.var [.imm (.slice none 0 0)])],[])
   |_ :: _=>(some (QAp x),.tup [],[some (.arr (.int .i64) l),some (.var [.own 2])],[.arr (.int .u8) (Q0 l)])
 |.O1 l o=>match l with
   | []=>(some (QAp x),.tup [],[some (.arr (.int .i64) l),some (.var [.own 2]),some (.arr (.int .u8) o)],[])
   |_ :: _=>(some (QAp x),.tup [],[some (.arr (.int .i64) l),some (.var [.own 3]),none],[.arr (.int .u8) (o++Q0 l)])
 |.R1 l o=>match l with
   | []=>(some (QAp x),.tup [],[some (.var [.own 1]),some (.arr (.int .u8) o)],[])
   |_ :: _=>(some (QAp x),.tup [],[some (.var [.own 2]),none],[.arr (.int .u8) (o++Q0 l)])
def QCO:QaV:=⟨QiC,QsY,QCM,QAo,QCN⟩
def QsZ:QiC→Bool × Int × List Int→St:=fun x (f,i,o')=>match x with
 |.N0 l=>match f with
   |true=>St.mk (E1 ((.cell (.ptr 1 0)) :: E3 ((.cell (.own 0)) :: (I (l.length:Int)) :: (I i) :: E5 (E3 [])))) [some (.arr (.int .i64) l),some (.var [.imm (.slice none 0 0)])]
   |false=>St.mk (E1 ((.cell (.ptr 1 0)) :: E3 ((.cell (.own 0)) :: (I (l.length:Int)) :: (I i) :: E5 (E3 [])))) [some (.arr (.int .i64) l),some (.var [.own 2]),some (.arr (.int .u8) o')]
 |.O1 l o=>match f with
   |true=>St.mk (E1 ((.cell (.ptr 1 0)) :: E3 ((.cell (.own 0)) :: (I (l.length:Int)) :: (I i) :: E5 (E3 [])))) [some (.arr (.int .i64) l),some (.var [.own 2]),some (.arr (.int .u8) o')]
   |false=>St.mk (E1 ((.cell (.ptr 1 0)) :: E3 ((.cell (.own 0)) :: (I (l.length:Int)) :: (I i) :: E5 (E3 [])))) [some (.arr (.int .i64) l),some (.var [.own 3]),none,some (.arr (.int .u8) o')]
 |.R1 l o=>match f with
   |true=>St.mk (E1 ((.cell (.ptr 0 0)) :: E3 ((.cell (.ro (.int .i64) l)) :: (I (l.length:Int)) :: (I i) :: E5 (E3 [])))) [some (.var [.own 1]),some (.arr (.int .u8) o')]
   |false=>St.mk (E1 ((.cell (.ptr 0 0)) :: E3 ((.cell (.ro (.int .i64) l)) :: (I (l.length:Int)) :: (I i) :: E5 (E3 [])))) [some (.var [.own 2]),none,some (.arr (.int .u8) o')]
def QEl (x:QiC):Bool × Int × List Int→Prop:=fun (f,i,o')=>∃ k:Nat,i=k∧k≤x.l.length∧o'=x.out++Q0 (x.l.take k)∧(f=true ↔ k=0)
def QF2 (x:QiC):Bool × Int × List Int→Nat:=fun (f,i,o')=>((x.l.length:Int)-i).toNat
theorem QfJ {x:QiC} {f:Bool} {k:Nat} {o':List Int} (hk:k < x.l.length) (ho:o'=x.out++Q0 (x.l.take k)) (hl:k≤4611686018427387904):QEl x (false,IntKind.i64.wrap ((k:Int)+1),o'++QeE (x.l.getD k 0)) :=
 ⟨k+1,QW hl,hk,by rw [ho,Qmy hk,List.append_assoc],by simp⟩
set_option maxHeartbeats 8000000 in
theorem Qwr:Qi Tryz.prog 120 QCO.spec:=by
 have hP:Qe Tryz.prog _:=Qa QAn (Qc (T:=tree))
 have hT:=tabs hP Qf
 refine QCO.good (fn:=Tryz.f120) hT hP Tryz.func120 (by kernel_rfl) rfl (fun _ _ _ h=>Qwq h) fun (x:QiC) hq=>?_
 have hp:QAp x:=by
  cases x with
  |N0 l=>cases l<;>exact hq _ rfl
  |O1 l o=>cases l<;>exact hq _ rfl
  |R1 l o=>cases l<;>exact hq _ rfl
 clear hq
 obtain ⟨h1,h2⟩:=hp
 cases x with
 |N0 l =>
   have h1:∀ n ∈ l,Qao n:=h1
   have h2:([]:List Int).length+10*l.length≤35184372088832:=h2
   repeat' first |(refine Go.mk ?_;conv=>whnf) |refine Ql.go ?_ ?_ |refine Qm.go (fun _=>?_) (fun _=>?_) |refine Br.dec (fun _=>?_) (fun _=>?_) |refine Br.go (fun _=>?_) (fun _=>?_) |refine Qd hT hP mixed ?_ |refine Qb hT hP ?_
   all_goals first
    |exact of_decide_eq_true rfl
    |skip
   refine Qay hT hP (X:=Bool × Int × List Int) (QsZ (.N0 l)) (QEl (.N0 l)) (QF2 (.N0 l)) (true,0,([]:List Int)) (Le.mk [] [0,1] R R ?_ ?_) ?_ fun (f,i,o') hi=>?_
   ·exact rfl
   ·repeat' first |exact trivial |exact ⟨rfl,rfl⟩ |refine And.intro ?_ ?_
   ·exact ⟨0,rfl,Nat.zero_le _,by simp [Q0,QiC.out],by simp⟩
   obtain ⟨k,rfl,hk,ho,hf⟩:=hi
   have hk:k≤l.length:=hk
   have ho:o'=([]:List Int)++Q0 (l.take k):=ho
   have hlo:o'.length≤([]:List Int).length+10*l.length:=by rw [ho,List.length_append];have:=Qb9 h1 k;omega
   cases f with
   |true =>
     obtain rfl:k=0:=hf.1 rfl
     have ho2:o'=([]:List Int):=by rw [ho];simp [Q0]
     repeat' first |(refine Go.mk ?_;conv=>whnf) |refine Ql.go ?_ ?_ |refine Qm.go (fun _=>?_) (fun _=>?_) |refine Br.dec (fun _=>?_) (fun _=>?_) |refine Br.go (fun _=>?_) (fun _=>?_) |refine Qd hT hP mixed ?_ |refine Qb hT hP ?_
     all_goals first
      |exact of_decide_eq_true rfl
      |(show 0≤((0:Nat):Int)∧((0:Nat):Int) < (l.length:Int)
         omega)
      |(show (((0:Nat):Int)).toNat < l.length
         omega)
      |(rename_i h
         have h:((0:Nat):Int) < (l.length:Int):=h
         exact h1 _ (Qa8 (k:=0) (by omega)))
      |(rename_i h
         have h:((0:Nat):Int) < (l.length:Int):=h
         have hz:=QaH (h1 _ (Qa8 (k:=0) (by omega)))
         show ((QeE (l.getD 0 0)).length)*1≤140737488355328
         omega)
      |(rename_i h
         have h:((0:Nat):Int) < (l.length:Int):=h
         apply Exists.intro (false,_,_)
         refine And.intro ?_ (And.intro ?_ (Le.mk [] [0,1,3] R R ?hh ?ht))
         case hh=>exact rfl
         case ht=>repeat' first |exact trivial |exact ⟨rfl,rfl⟩ |refine And.intro ?_ ?_
         ·exact QfJ (x:=.N0 l) (f:=true) (k:=0) (o':=[]) (by show 0 < l.length;omega) (by simp [Q0,QiC.out]) (by omega)
         ·show ((l.length:Int)-IntKind.i64.wrap (((0:Nat):Int)+1)).toNat < ((l.length:Int)-((0:Nat):Int)).toNat
          rw [QW (by omega)];omega)
      |(rename_i h
         have h:¬ ((0:Nat):Int) < (l.length:Int):=h
         obtain rfl:l=[]:=List.eq_nil_of_length_eq_zero (by omega)
         subst ho2
         exact .mk [] [0,1] _ R R R R R R R)
      |skip
   |false =>
     repeat' first |(refine Go.mk ?_;conv=>whnf) |refine Ql.go ?_ ?_ |refine Qm.go (fun _=>?_) (fun _=>?_) |refine Br.dec (fun _=>?_) (fun _=>?_) |refine Br.go (fun _=>?_) (fun _=>?_) |refine Qd hT hP mixed ?_ |refine Qb hT hP ?_
     all_goals first
      |exact of_decide_eq_true rfl
      |(show 0≤(k:Int)∧(k:Int) < (l.length:Int)
         omega)
      |(show ((k:Int)).toNat < l.length
         omega)
      |(rename_i h
         have h:(k:Int) < (l.length:Int):=h
         exact h1 _ (Qa8 (k:=k) (by omega)))
      |(rename_i h
         have h:(k:Int) < (l.length:Int):=h
         have hz:=QaH (h1 _ (Qa8 (k:=k) (by omega)))
         show (o'.length+(QeE (l.getD k 0)).length)*1≤140737488355328
         omega)
      |(rename_i h
         have h:(k:Int) < (l.length:Int):=h
         apply Exists.intro (false,_,_)
         refine And.intro ?_ (And.intro ?_ (Le.mk [] [0,1,4] R R ?hh ?ht))
         case hh=>exact rfl
         case ht=>repeat' first |exact trivial |exact ⟨rfl,rfl⟩ |refine And.intro ?_ ?_
         ·exact QfJ (x:=.N0 l) (f:=false) (k:=k) (by show k < l.length;omega) ho (by omega)
         ·show ((l.length:Int)-IntKind.i64.wrap ((k:Int)+1)).toNat < ((l.length:Int)-(k:Int)).toNat
          rw [QW (by omega)];omega)
      |(rename_i h
         have h:¬ (k:Int) < (l.length:Int):=h
         rw [List.take_of_length_le (by omega)] at ho
         subst ho
         cases l with
         |nil=>exact absurd (hf.2 (by simp at hk;omega)) (by decide)
         |cons a r=>exact .mk [] [0,1,2] _ R R R R R R R)
      |skip
 |O1 l o =>
   have h1:∀ n ∈ l,Qao n:=h1
   have h2:o.length+10*l.length≤35184372088832:=h2
   repeat' first |(refine Go.mk ?_;conv=>whnf) |refine Ql.go ?_ ?_ |refine Qm.go (fun _=>?_) (fun _=>?_) |refine Br.dec (fun _=>?_) (fun _=>?_) |refine Br.go (fun _=>?_) (fun _=>?_) |refine Qd hT hP mixed ?_ |refine Qb hT hP ?_
   all_goals first
    |exact of_decide_eq_true rfl
    |skip
   refine Qay hT hP (X:=Bool × Int × List Int) (QsZ (.O1 l o)) (QEl (.O1 l o)) (QF2 (.O1 l o)) (true,0,o) (Le.mk [] [0,1,2] R R ?_ ?_) ?_ fun (f,i,o') hi=>?_
   ·exact rfl
   ·repeat' first |exact trivial |exact ⟨rfl,rfl⟩ |refine And.intro ?_ ?_
   ·exact ⟨0,rfl,Nat.zero_le _,by simp [Q0,QiC.out],by simp⟩
   obtain ⟨k,rfl,hk,ho,hf⟩:=hi
   have hk:k≤l.length:=hk
   have ho:o'=o++Q0 (l.take k):=ho
   have hlo:o'.length≤o.length+10*l.length:=by rw [ho,List.length_append];have:=Qb9 h1 k;omega
   cases f with
   |true =>
     obtain rfl:k=0:=hf.1 rfl
     have ho2:o'=o:=by rw [ho];simp [Q0]
     repeat' first |(refine Go.mk ?_;conv=>whnf) |refine Ql.go ?_ ?_ |refine Qm.go (fun _=>?_) (fun _=>?_) |refine Br.dec (fun _=>?_) (fun _=>?_) |refine Br.go (fun _=>?_) (fun _=>?_) |refine Qd hT hP mixed ?_ |refine Qb hT hP ?_
     all_goals first
      |exact of_decide_eq_true rfl
      |(show 0≤((0:Nat):Int)∧((0:Nat):Int) < (l.length:Int)
         omega)
      |(show (((0:Nat):Int)).toNat < l.length
         omega)
      |(rename_i h
         have h:((0:Nat):Int) < (l.length:Int):=h
         exact h1 _ (Qa8 (k:=0) (by omega)))
      |(rename_i h
         have h:((0:Nat):Int) < (l.length:Int):=h
         have hz:=QaH (h1 _ (Qa8 (k:=0) (by omega)))
         show (o'.length+(QeE (l.getD 0 0)).length)*1≤140737488355328
         omega)
      |(rename_i h
         have h:((0:Nat):Int) < (l.length:Int):=h
         apply Exists.intro (false,_,_)
         refine And.intro ?_ (And.intro ?_ (Le.mk [] [0,1,2,4] R R ?hh ?ht))
         case hh=>exact rfl
         case ht=>repeat' first |exact trivial |exact ⟨rfl,rfl⟩ |refine And.intro ?_ ?_
         ·exact QfJ (x:=.O1 l o) (f:=true) (k:=0) (by show 0 < l.length;omega) ho (by omega)
         ·show ((l.length:Int)-IntKind.i64.wrap (((0:Nat):Int)+1)).toNat < ((l.length:Int)-((0:Nat):Int)).toNat
          rw [QW (by omega)];omega)
      |(rename_i h
         have h:¬ ((0:Nat):Int) < (l.length:Int):=h
         obtain rfl:l=[]:=List.eq_nil_of_length_eq_zero (by omega)
         subst ho2
         exact .mk [] [0,1,2] _ R R R R R R R)
      |skip
   |false =>
     repeat' first |(refine Go.mk ?_;conv=>whnf) |refine Ql.go ?_ ?_ |refine Qm.go (fun _=>?_) (fun _=>?_) |refine Br.dec (fun _=>?_) (fun _=>?_) |refine Br.go (fun _=>?_) (fun _=>?_) |refine Qd hT hP mixed ?_ |refine Qb hT hP ?_
     all_goals first
      |exact of_decide_eq_true rfl
      |(show 0≤(k:Int)∧(k:Int) < (l.length:Int)
         omega)
      |(show ((k:Int)).toNat < l.length
         omega)
      |(rename_i h
         have h:(k:Int) < (l.length:Int):=h
         exact h1 _ (Qa8 (k:=k) (by omega)))
      |(rename_i h
         have h:(k:Int) < (l.length:Int):=h
         have hz:=QaH (h1 _ (Qa8 (k:=k) (by omega)))
         show (o'.length+(QeE (l.getD k 0)).length)*1≤140737488355328
         omega)
      |(rename_i h
         have h:(k:Int) < (l.length:Int):=h
         apply Exists.intro (false,_,_)
         refine And.intro ?_ (And.intro ?_ (Le.mk [] [0,1,2,5] R R ?hh ?ht))
         case hh=>exact rfl
         case ht=>repeat' first |exact trivial |exact ⟨rfl,rfl⟩ |refine And.intro ?_ ?_
         ·exact QfJ (x:=.O1 l o) (f:=false) (k:=k) (by show k < l.length;omega) ho (by omega)
         ·show ((l.length:Int)-IntKind.i64.wrap ((k:Int)+1)).toNat < ((l.length:Int)-(k:Int)).toNat
          rw [QW (by omega)];omega)
      |(rename_i h
         have h:¬ (k:Int) < (l.length:Int):=h
         rw [List.take_of_length_le (by omega)] at ho
         subst ho
         cases l with
         |nil=>exact absurd (hf.2 (by simp at hk;omega)) (by decide)
         |cons a r=>exact .mk [] [0,1,2,3] _ R R R R R R R)
      |skip
 |R1 l o =>
   have h1:∀ n ∈ l,Qao n:=h1
   have h2:o.length+10*l.length≤35184372088832:=h2
   repeat' first |(refine Go.mk ?_;conv=>whnf) |refine Ql.go ?_ ?_ |refine Qm.go (fun _=>?_) (fun _=>?_) |refine Br.dec (fun _=>?_) (fun _=>?_) |refine Br.go (fun _=>?_) (fun _=>?_) |refine Qd hT hP mixed ?_ |refine Qb hT hP ?_
   all_goals first
    |exact of_decide_eq_true rfl
    |skip
   refine Qay hT hP (X:=Bool × Int × List Int) (QsZ (.R1 l o)) (QEl (.R1 l o)) (QF2 (.R1 l o)) (true,0,o) (Le.mk [] [0,1] R R ?_ ?_) ?_ fun (f,i,o') hi=>?_
   ·exact rfl
   ·repeat' first |exact trivial |exact ⟨rfl,rfl⟩ |refine And.intro ?_ ?_
   ·exact ⟨0,rfl,Nat.zero_le _,by simp [Q0,QiC.out],by simp⟩
   obtain ⟨k,rfl,hk,ho,hf⟩:=hi
   have hk:k≤l.length:=hk
   have ho:o'=o++Q0 (l.take k):=ho
   have hlo:o'.length≤o.length+10*l.length:=by rw [ho,List.length_append];have:=Qb9 h1 k;omega
   cases f with
   |true =>
     obtain rfl:k=0:=hf.1 rfl
     have ho2:o'=o:=by rw [ho];simp [Q0]
     repeat' first |(refine Go.mk ?_;conv=>whnf) |refine Ql.go ?_ ?_ |refine Qm.go (fun _=>?_) (fun _=>?_) |refine Br.dec (fun _=>?_) (fun _=>?_) |refine Br.go (fun _=>?_) (fun _=>?_) |refine Qd hT hP mixed ?_ |refine Qb hT hP ?_
     all_goals first
      |exact of_decide_eq_true rfl
      |(show 0≤((0:Nat):Int)∧((0:Nat):Int) < (l.length:Int)
         omega)
      |(show (((0:Nat):Int)).toNat < l.length
         omega)
      |(rename_i h
         have h:((0:Nat):Int) < (l.length:Int):=h
         exact h1 _ (Qa8 (k:=0) (by omega)))
      |(rename_i h
         have h:((0:Nat):Int) < (l.length:Int):=h
         have hz:=QaH (h1 _ (Qa8 (k:=0) (by omega)))
         show (o'.length+(QeE (l.getD 0 0)).length)*1≤140737488355328
         omega)
      |(rename_i h
         have h:((0:Nat):Int) < (l.length:Int):=h
         apply Exists.intro (false,_,_)
         refine And.intro ?_ (And.intro ?_ (Le.mk [] [0,1,3] R R ?hh ?ht))
         case hh=>exact rfl
         case ht=>repeat' first |exact trivial |exact ⟨rfl,rfl⟩ |refine And.intro ?_ ?_
         ·exact QfJ (x:=.R1 l o) (f:=true) (k:=0) (by show 0 < l.length;omega) ho (by omega)
         ·show ((l.length:Int)-IntKind.i64.wrap (((0:Nat):Int)+1)).toNat < ((l.length:Int)-((0:Nat):Int)).toNat
          rw [QW (by omega)];omega)
      |(rename_i h
         have h:¬ ((0:Nat):Int) < (l.length:Int):=h
         obtain rfl:l=[]:=List.eq_nil_of_length_eq_zero (by omega)
         subst ho2
         exact .mk [] [0,1] _ R R R R R R R)
      |skip
   |false =>
     repeat' first |(refine Go.mk ?_;conv=>whnf) |refine Ql.go ?_ ?_ |refine Qm.go (fun _=>?_) (fun _=>?_) |refine Br.dec (fun _=>?_) (fun _=>?_) |refine Br.go (fun _=>?_) (fun _=>?_) |refine Qd hT hP mixed ?_ |refine Qb hT hP ?_
     all_goals first
      |exact of_decide_eq_true rfl
      |(show 0≤(k:Int)∧(k:Int) < (l.length:Int)
         omega)
      |(show ((k:Int)).toNat < l.length
         omega)
      |(rename_i h
         have h:(k:Int) < (l.length:Int):=h
         exact h1 _ (Qa8 (k:=k) (by omega)))
      |(rename_i h
         have h:(k:Int) < (l.length:Int):=h
         have hz:=QaH (h1 _ (Qa8 (k:=k) (by omega)))
         show (o'.length+(QeE (l.getD k 0)).length)*1≤140737488355328
         omega)
      |(rename_i h
         have h:(k:Int) < (l.length:Int):=h
         apply Exists.intro (false,_,_)
         refine And.intro ?_ (And.intro ?_ (Le.mk [] [0,1,4] R R ?hh ?ht))
         case hh=>exact rfl
         case ht=>repeat' first |exact trivial |exact ⟨rfl,rfl⟩ |refine And.intro ?_ ?_
         ·exact QfJ (x:=.R1 l o) (f:=false) (k:=k) (by show k < l.length;omega) ho (by omega)
         ·show ((l.length:Int)-IntKind.i64.wrap ((k:Int)+1)).toNat < ((l.length:Int)-(k:Int)).toNat
          rw [QW (by omega)];omega)
      |(rename_i h
         have h:¬ (k:Int) < (l.length:Int):=h
         rw [List.take_of_length_le (by omega)] at ho
         subst ho
         cases l with
         |nil=>exact absurd (hf.2 (by simp at hk;omega)) (by decide)
         |cons a r=>exact .mk [] [0,1,2] _ R R R R R R R)
      |skip
abbrev Qp:Ty:=.pair (.sl (.int .i64)) (.sl (.int .u8))
abbrev QhT:Ty:=.pair (.int .i64) (.pair QAf (.pair (.sl Qp) (.pair (.int .i64) (.pair (.int .i64) (.int .i64)))))
abbrev gM:Sig:=⟨true,QhT⟩
abbrev Mach:=Int × Kor × List Dv × Int × Int × Int
def Qjp (m:Mach):List Int:=[m.1]++m.2.1.1++[m.2.1.2.1,m.2.1.2.2.1,cond m.2.1.2.2.2 1 0,m.2.2.2.1,m.2.2.2.2.1,m.2.2.2.2.2,(m.2.2.1.length:Int)]
def Qjq (d:Dv):List Int:=QeE (d.1.length:Int)++Q0 d.1++QeE (d.2.length:Int)++d.2
def Qmz (m:Mach):List Int:=Q0 (Qjp m)++m.2.2.1.flatMap Qjq
def Qbj (d:Dv):Nat:=10*d.1.length+d.2.length+20
def Qci (m:Mach):Prop:=(∀ n ∈ Qjp m,Qao n)∧(∀ d ∈ m.2.2.1,∀ n ∈ d.1,Qao n)∧m.2.1.1.length=9∧(m.2.2.1.map Qbj).sum≤1099511627776
def Qyo:Qk:=⟨[gB],fun (b,_)=>(none,I (cond b 1 0),[])⟩
theorem Qws:Qi Tryz.prog 119 Qyo.spec:=by
 have hP:Qe Tryz.prog _:=(Qc (T:=tree))
 have hT:=tabs hP Qf
 refine Qyo.good (fn:=Tryz.f119) hT hP Tryz.func119 (by kernel_rfl) rfl fun (b:Bool) _=>?_
 cases b
 all_goals
  repeat' first |(refine Go.mk ?_;conv=>whnf) |refine Ql.go ?_ ?_ |refine Qm.go (fun _=>?_) (fun _=>?_) |refine Br.dec (fun _=>?_) (fun _=>?_) |refine Br.go (fun _=>?_) (fun _=>?_) |refine Qd hT hP mixed ?_ |refine Qb hT hP ?_
 all_goals exact .mk [] [] _ R R R R R R R
theorem Qhm (m:Mach) (h:m.2.1.1.length=9):(Qjp m).length=17:=by unfold Qjp;simp [h]
theorem QmA (l:List Nat) (k:Nat):(l.take k).sum≤l.sum:=by
 have:=List.sum_append_nat (l₁:=l.take k) (l₂:=l.drop k)
 rw [List.take_append_drop] at this
 omega
theorem Qwt {d:Dv} (h:∀ n ∈ d.1,Qao n) (h2:d.1.length≤4611686018427387904) (h3:d.2.length≤4611686018427387904):(Qjq d).length≤Qbj d:=by
 have a1:=QcQ h
 have a2:=QaH (n:=(d.1.length:Int)) (by unfold Qao;omega)
 have a3:=QaH (n:=(d.2.length:Int)) (by unfold Qao;omega)
 unfold Qjq Qbj
 simp only [List.length_append]
 omega
theorem Qs0 {ds:List Dv} {k:Nat} (h:k < ds.length):(ds.take (k+1)).flatMap Qjq=(ds.take k).flatMap Qjq++Qjq (ds.getD k ([],[])):=by
 rw [List.take_add_one,List.flatMap_append,List.getD_eq_getElem?_getD,List.getElem?_eq_getElem h]
 simp
theorem Qs1 {ds:List Dv} {k:Nat} (h:k < ds.length):ds.getD k ([],[]) ∈ ds:=by
 rw [List.getD_eq_getElem?_getD,List.getElem?_eq_getElem h]
 exact List.getElem_mem h
theorem Qgr {ds:List Dv} {d:Dv} (h:d ∈ ds):Qbj d≤(ds.map Qbj).sum:=by
 induction ds with
 |nil=>cases h
 |cons x r ih =>
   simp only [List.map_cons,List.sum_cons]
   rcases List.mem_cons.1 h with rfl |h
   ·omega
   ·have:=ih h;omega
theorem Qjr (ds:List Dv):20*ds.length≤(ds.map Qbj).sum:=by
 induction ds with
 |nil=>simp
 |cons x r ih=>simp only [List.map_cons,List.sum_cons,List.length_cons];unfold Qbj at *;omega
theorem Qwu {ds:List Dv} (h:∀ d ∈ ds,∀ n ∈ d.1,Qao n) (hs:(ds.map Qbj).sum≤1099511627776):(ds.flatMap Qjq).length≤(ds.map Qbj).sum:=by
 induction ds with
 |nil=>simp
 |cons x r ih =>
   have h1:=Qgr (List.mem_cons_self (a:=x) (l:=r))
   have h2:Qbj x≤1099511627776:=Nat.le_trans h1 hs
   unfold Qbj at h2
   have h3:=Qwt (h x (List.mem_cons_self ..)) (by omega) (by omega)
   simp only [List.map_cons,List.sum_cons] at hs
   have h4:=ih (fun d hd=>h d (List.mem_cons_of_mem _ hd)) (by omega)
   simp only [List.flatMap_cons,List.length_append,List.map_cons,List.sum_cons]
   omega
theorem Qe8 {ds:List Dv} (h:∀ d ∈ ds,∀ n ∈ d.1,Qao n) (hs:(ds.map Qbj).sum≤1099511627776) (k:Nat):((ds.take k).flatMap Qjq).length≤(ds.map Qbj).sum:=by
 have e:=QmA (ds.map Qbj) k
 rw [← List.map_take] at e
 exact Nat.le_trans (Qwu (fun d hd=>h d (List.mem_of_mem_take hd)) (by omega)) e
def QCP:Qk:=⟨[gM],fun (m,_)=>(some (Qci m),.cell (.own 0),[.arr (.int .u8) (Qmz m)])⟩
set_option maxHeartbeats 8000000 in
theorem Qs2:Qi Tryz.prog 65 QCP.spec:=by
 have hP:Qe Tryz.prog _:=Qa Qws (Qa Qwr (Qc (T:=tree)))
 have hT:=tabs hP Qf
 refine QCP.good (fn:=Tryz.f65) hT hP Tryz.func65 (by kernel_rfl) rfl fun (m:Mach) hq=>?_
 have hp:Qci m:=hq _ rfl
 clear hq
 obtain ⟨tm,⟨r,op,at_,nmi⟩,ds,bd,ba,bdt⟩:=m
 obtain ⟨h1,h2,h3,h4⟩:=hp
 have h3:r.length=9:=h3
 repeat' first |(refine Go.mk ?_;conv=>whnf) |refine Ql.go ?_ ?_ |refine Qm.go (fun _=>?_) (fun _=>?_) |refine Br.dec (fun _=>?_) (fun _=>?_) |refine Br.go (fun _=>?_) (fun _=>?_) |refine Qd hT hP mixed ?_ |refine Qb hT hP ?_
 all_goals first
  |exact of_decide_eq_true rfl
  |skip
 all_goals
  have h1:∀ n ∈ Qjp (tm,(r,op,at_,nmi),ds,bd,ba,bdt),Qao n:=h1
  have h2:∀ d ∈ ds,∀ n ∈ d.1,Qao n:=h2
  have h4:(ds.map Qbj).sum≤1099511627776:=h4
  have hH:=Qhm (tm,(r,op,at_,nmi),ds,bd,ba,bdt) h3
  have hHl:=QcQ h1
  rw [hH] at hHl
 ·show (1+r.length)*8≤140737488355328
  omega
 ·show (([tm]++r).length+7)*8≤140737488355328
  simp;omega
 ·exact ⟨h1,by show 0+10*(Qjp (tm,(r,op,at_,nmi),ds,bd,ba,bdt)).length≤_;omega⟩
 ·have hds:=Qjr ds
  refine QO hT hP ds.length (fun i (o:List Int)=>St.mk (E3 (E1 ((.cell (.ptr 0 0)) :: (.cell (.fn 120 [0])) :: E40 (E2 ((.cell (.ro Qp ds)) :: (I (ds.length:Int)) :: (I i) :: E20 (E5 [])))))) [some (.var [.own 1]),some (.arr (.int .u8) o)])
   (fun k o=>o=Q0 (Qjp (tm,(r,op,at_,nmi),ds,bd,ba,bdt))++(ds.take k).flatMap Qjq) (Q0 (Qjp (tm,(r,op,at_,nmi),ds,bd,ba,bdt))) (Le.mk [] [6,7] R R ?_ ?_) ?_ fun k o hk hi=>?_
  ·exact rfl
  ·repeat' first |exact trivial |exact ⟨rfl,rfl⟩ |refine And.intro ?_ ?_
  ·simp
  repeat' first |(refine Go.mk ?_;conv=>whnf) |refine Ql.go ?_ ?_ |refine Qm.go (fun _=>?_) (fun _=>?_) |refine Br.dec (fun _=>?_) (fun _=>?_) |refine Br.go (fun _=>?_) (fun _=>?_) |refine Qd hT hP mixed ?_ |refine Qb hT hP ?_
  all_goals first
   |exact of_decide_eq_true rfl
   |skip
  ·rename_i hlt
   have hlt:(k:Int) < (ds.length:Int):=hlt
   show 0≤(k:Int)∧(k:Int) < (ds.length:Int)
   omega
  ·rename_i hlt
   have hlt:(k:Int) < (ds.length:Int):=hlt
   have hm:List.getD (α:=Den Qp) ds ((k:Int)).toNat (dflt Qp) ∈ ds:=Qs1 (by omega)
   have hlo:o.length≤170+(ds.map Qbj).sum:=by
    rw [hi,List.length_append]
    have:=Qe8 h2 h4 k
    omega
   have hz:=Qgr hm
   generalize List.getD (α:=Den Qp) ds ((k:Int)).toNat (dflt Qp)=D at *
   obtain ⟨N,M⟩:=D
   have hz:10*N.length+M.length+20≤(ds.map Qbj).sum:=hz
   refine ⟨fun n hn=>?_,?_⟩
   ·have hn:n ∈ [((N.length:Nat):Int)]:=hn
    rw [List.mem_singleton] at hn
    subst hn
    unfold Qao
    omega
   ·show o.length+10*1≤35184372088832
    omega
  ·rename_i hlt
   have hlt:(k:Int) < (ds.length:Int):=hlt
   have hm:List.getD (α:=Den Qp) ds ((k:Int)).toNat (dflt Qp) ∈ ds:=Qs1 (by omega)
   have hft:(ds.take (k+1)).flatMap Qjq=(ds.take k).flatMap Qjq++Qjq (List.getD (α:=Den Qp) ds ((k:Int)).toNat (dflt Qp)):=Qs0 (by omega)
   have hlo:o.length≤170+(ds.map Qbj).sum:=by
    rw [hi,List.length_append]
    have:=Qe8 h2 h4 k
    omega
   generalize List.getD (α:=Den Qp) ds ((k:Int)).toNat (dflt Qp)=D at *
   have hD:=h2 D hm
   have hz:=Qgr hm
   obtain ⟨N,M⟩:=D
   have hD:∀ n ∈ N,Qao n:=hD
   have hz:10*N.length+M.length+20≤(ds.map Qbj).sum:=hz
   cases N with
   |nil =>
     conv=>whnf
     repeat' first |(refine Go.mk ?_;conv=>whnf) |refine Ql.go ?_ ?_ |refine Qm.go (fun _=>?_) (fun _=>?_) |refine Br.dec (fun _=>?_) (fun _=>?_) |refine Br.go (fun _=>?_) (fun _=>?_) |refine Qd hT hP mixed ?_ |refine Qb hT hP ?_
     all_goals
      have eN:=QaH (n:=(((([]:List Int)).length:Nat):Int)) (by unfold Qao;omega)
      have eM:=QaH (n:=((M.length:Nat):Int)) (by unfold Qao;omega)
      have eA:=QcQ hD
     all_goals first
      |exact of_decide_eq_true rfl
      |(refine ⟨hD,?_⟩
         show (o++(QeE (((([]:List Int)).length:Nat):Int)++[])).length+10*(([]:List Int)).length≤35184372088832
         simp only [List.length_append,List.length_nil];first |omega |(simp only [List.length_nil] at eN;omega))
      |(refine ⟨fun n hn=>?_,?_⟩
         ·have hn:n ∈ [((M.length:Nat):Int)]:=hn
          rw [List.mem_singleton] at hn
          subst hn
          unfold Qao
          omega
         ·show (o++(QeE (((([]:List Int)).length:Nat):Int)++[])).length+10*1≤35184372088832
          simp only [List.length_append,List.length_nil];first |omega |(simp only [List.length_nil] at eN;omega))
      |(show ((o++(QeE (((([]:List Int)).length:Nat):Int)++[])++(QeE ((M.length:Nat):Int)++[])).length+M.length)*1≤140737488355328
         simp only [List.length_append,List.length_nil];first |omega |(simp only [List.length_nil] at eN;omega))
      |skip
     apply Exists.intro
     apply Exists.intro _
     refine And.intro (And.intro ?lt173 (And.intro ?ei173 ?inv173)) (Le.mk [] [0,7] R R ?hh173 ?ht173)
     case hh173=>exact rfl
     case ht173=>repeat' first |exact trivial |exact ⟨rfl,rfl⟩ |refine And.intro ?_ ?_
     case lt173=>omega
     case ei173=>exact QW (by omega)
     ·show o++(QeE (((([]:List Int)).length:Nat):Int)++[])++(QeE ((M.length:Nat):Int)++[])++M=_
      rw [hft,hi]
      simp [Qjq,Q0]
   |cons a N' =>
     conv=>whnf
     repeat' first |(refine Go.mk ?_;conv=>whnf) |refine Ql.go ?_ ?_ |refine Qm.go (fun _=>?_) (fun _=>?_) |refine Br.dec (fun _=>?_) (fun _=>?_) |refine Br.go (fun _=>?_) (fun _=>?_) |refine Qd hT hP mixed ?_ |refine Qb hT hP ?_
     all_goals
      have eN:=QaH (n:=(((a :: N').length:Nat):Int)) (by unfold Qao;omega)
      have eM:=QaH (n:=((M.length:Nat):Int)) (by unfold Qao;omega)
      have eA:=QcQ hD
     all_goals first
      |exact of_decide_eq_true rfl
      |(refine ⟨hD,?_⟩
         show (o++(QeE (((a :: N').length:Nat):Int)++[])).length+10*(a :: N').length≤35184372088832
         simp only [List.length_append,List.length_nil];first |omega |(simp only [List.length_nil] at eN;omega))
      |(refine ⟨fun n hn=>?_,?_⟩
         ·have hn:n ∈ [((M.length:Nat):Int)]:=hn
          rw [List.mem_singleton] at hn
          subst hn
          unfold Qao
          omega
         ·show (o++(QeE (((a :: N').length:Nat):Int)++[])++Q0 (a :: N')).length+10*1≤35184372088832
          simp only [List.length_append,List.length_nil];first |omega |(simp only [List.length_nil] at eN;omega))
      |(show ((o++(QeE (((a :: N').length:Nat):Int)++[])++Q0 (a :: N')++(QeE ((M.length:Nat):Int)++[])).length+M.length)*1≤140737488355328
         simp only [List.length_append,List.length_nil];first |omega |(simp only [List.length_nil] at eN;omega))
      |skip
     apply Exists.intro
     apply Exists.intro _
     refine And.intro (And.intro ?lt206 (And.intro ?ei206 ?inv206)) (Le.mk [] [0,8] R R ?hh206 ?ht206)
     case hh206=>exact rfl
     case ht206=>repeat' first |exact trivial |exact ⟨rfl,rfl⟩ |refine And.intro ?_ ?_
     case lt206=>omega
     case ei206=>exact QW (by omega)
     ·show o++(QeE (((a :: N').length:Nat):Int)++[])++Q0 (a :: N')++(QeE ((M.length:Nat):Int)++[])++M=_
      rw [hft,hi]
      simp [Qjq,Q0]
  ·rename_i hlt
   have hlt:¬ (k:Int) < (ds.length:Int):=hlt
   refine .mk [] [1] _ R R R R R (QsW ?_) rfl
   rw [hi,List.take_of_length_le (by omega)];rfl
def QcB (m:Int):Int:=if m=0 then 0 else if m=4∨m=5∨m=6 then 2 else if m=1∨m=2∨m=3∨m=7∨m=8 then 1 else -1
def QoF:Qk:=⟨[gi],fun (m,_)=>(none,I (QcB m),[])⟩
theorem Qww:Qi Tryz.prog 186 QoF.spec:=by
 have hP:Qe Tryz.prog _:=(Qc (T:=tree))
 have hT:=tabs hP Qf
 refine QoF.good (fn:=Tryz.f186) hT hP Tryz.func186 (by kernel_rfl) rfl fun (m:Int) _=>?_
 repeat' first |(refine Go.mk ?_;conv=>whnf) |refine Ql.go ?_ ?_ |refine Qm.go (fun _=>?_) (fun _=>?_) |refine Br.dec (fun _=>?_) (fun _=>?_) |refine Br.go (fun _=>?_) (fun _=>?_) |refine Qd hT hP mixed ?_ |refine Qb hT hP ?_
 all_goals (refine .mk [] [] _ R R R R R R (Qg ?_))
 all_goals clear hT hP
 all_goals (show _=QcB m;unfold QcB;dsimp only [gi,Den] at *)
 all_goals ((repeat' split)<;>first |rfl |omega)
theorem QmD:Qi Tryz.prog 116 QoF.spec:=by
 have hP:Qe Tryz.prog _:=(Qc (T:=tree))
 have hT:=tabs hP Qf
 refine QoF.good (fn:=Tryz.f116) hT hP Tryz.func116 (by kernel_rfl) rfl fun (m:Int) _=>?_
 repeat' first |(refine Go.mk ?_;conv=>whnf) |refine Ql.go ?_ ?_ |refine Qm.go (fun _=>?_) (fun _=>?_) |refine Br.dec (fun _=>?_) (fun _=>?_) |refine Br.go (fun _=>?_) (fun _=>?_) |refine Qd hT hP mixed ?_ |refine Qb hT hP ?_
 all_goals first
  |exact of_decide_eq_true rfl
  |(dsimp only [gi,Den] at *;simp only [List.length_cons,List.length_nil] at *;omega)
  |skip
 all_goals (refine .mk [] [] _ R R R R R R (Qg ?_))
 all_goals clear hT hP
 all_goals (dsimp only [gi,Den] at *)
 all_goals (try simp only [List.length_cons,List.length_nil] at *)
 all_goals first
  |(show _=QcB m;unfold QcB;(repeat' split)<;>first |rfl |omega)
  |skip
 ·have hm:m=0∨m=1∨m=2∨m=3∨m=4∨m=5∨m=6∨m=7∨m=8:=by omega
  rcases hm with rfl |rfl |rfl |rfl |rfl |rfl |rfl |rfl |rfl<;>rfl
def QoG:Qk:=⟨[⟨false,.sl QA⟩],fun (l,_)=>(some (l=[]),I 0,[])⟩
theorem Qp6:Qi Tryz.prog 189 QoG.spec:=by
 have hP:Qe Tryz.prog _:=(Qc (T:=tree))
 have hT:=tabs hP Qf
 refine QoG.good (fn:=Tryz.f189) hT hP Tryz.func189 (by kernel_rfl) rfl fun (l:List Cyc) hq=>?_
 obtain rfl:l=[]:=hq _ rfl
 clear hq
 repeat' first |(refine Go.mk ?_;conv=>whnf) |refine Ql.go ?_ ?_ |refine Qm.go (fun _=>?_) (fun _=>?_) |refine Br.dec (fun _=>?_) (fun _=>?_) |refine Br.go (fun _=>?_) (fun _=>?_) |refine Qd hT hP mixed ?_ |refine Qb hT hP ?_
 refine QZ 1 ?_
 repeat' first |(refine Go.mk ?_;conv=>whnf) |refine Ql.go ?_ ?_ |refine Qm.go (fun _=>?_) (fun _=>?_) |refine Br.dec (fun _=>?_) (fun _=>?_) |refine Br.go (fun _=>?_) (fun _=>?_) |refine Qd hT hP mixed ?_ |refine Qb hT hP ?_
 all_goals exact .mk [] [] _ R R R R R R R
def Qtc:Qk:=⟨[QvZ],fun (c,_)=>(some (c.2=([],[],[],[])),I (if Qau (bytesOf c.1)=true then 0 else 15),[])⟩
theorem Qtd:Qi Tryz.prog 101 Qtc.spec:=by
 have hP:Qe Tryz.prog _:=Qa Qe6 (Qa Qp6 (Qc (T:=tree)))
 have hT:=tabs hP Qf
 refine Qtc.good (fn:=Tryz.f101) hT hP Tryz.func101 (by kernel_rfl) rfl fun (c:Cpu) hq=>?_
 obtain ⟨cn,c2⟩:=c
 obtain rfl:c2=([],[],[],[]):=hq _ rfl
 clear hq
 repeat' first |(refine Go.mk ?_;conv=>whnf) |refine Ql.go ?_ ?_ |refine Qm.go (fun _=>?_) (fun _=>?_) |refine Br.dec (fun _=>?_) (fun _=>?_) |refine Br.go (fun _=>?_) (fun _=>?_) |refine Qd hT hP mixed ?_ |refine Qb hT hP ?_
 all_goals first
  |exact of_decide_eq_true rfl
  |skip
 ·rename_i h
  have hn:Qau (bytesOf cn)=false:=by
   have h:(!Qau (bytesOf cn))=true:=h
   simpa using h
  refine .mk [] [] _ R R R R R R (Qg ?_)
  show 15=if Qau (bytesOf cn)=true then 0 else 15
  rw [hn];rfl
 rename_i h
 have hn:Qau (bytesOf cn)=true:=by
  have h:(!Qau (bytesOf cn))=false:=h
  simpa using h
 refine QZ 1 ?_
 repeat' first |(refine Go.mk ?_;conv=>whnf) |refine Ql.go ?_ ?_ |refine Qm.go (fun _=>?_) (fun _=>?_) |refine Br.dec (fun _=>?_) (fun _=>?_) |refine Br.go (fun _=>?_) (fun _=>?_) |refine Qd hT hP mixed ?_ |refine Qb hT hP ?_
 refine QZ 4 ?_
 repeat' first |(refine Go.mk ?_;conv=>whnf) |refine Ql.go ?_ ?_ |refine Qm.go (fun _=>?_) (fun _=>?_) |refine Br.dec (fun _=>?_) (fun _=>?_) |refine Br.go (fun _=>?_) (fun _=>?_) |refine Qd hT hP mixed ?_ |refine Qb hT hP ?_
 all_goals first
  |exact of_decide_eq_true rfl
  |exact rfl
  |skip
 all_goals (refine .mk [] [] _ R R R R R R (Qg ?_))
 all_goals (show 0=if Qau (bytesOf cn)=true then 0 else 15;rw [hn];rfl)
def QqE (p:Int→Bool):List Int→Int→Int
 | [],_=>-1
 |a :: l,i=>if p a=true then i else QqE p l (i+1)
theorem QoH (p:Int→Bool):∀ (l:List Int) (i:Int),0≤i→decide (QqE p l i≥0)=l.any p
 | [],i,h=>by simp [QqE]
 |a :: l,i,h=>by
   unfold QqE
   rw [List.any_cons]
   cases hp:p a with
   |true=>simpa using h
   |false=>simpa using QoH p l (i+1) (by omega)
theorem Qli (p:Int→Bool) {l:List Int} {k:Nat} (h:k < l.length):QqE p (l.drop k) k=if p (l.getD k 0)=true then (k:Int) else QqE p (l.drop (k+1)) ((k:Int)+1):=by
 rw [List.drop_eq_getElem_cons h,QqE]
 simp [h]
def Qyp:Qk:=⟨[gl,gi],fun (l,v,_)=>(some (List.length l≤4611686018427387904),I (QqE (fun a=>decide (v=a)) l 0),[])⟩
theorem Qwx:Qi Tryz.prog 195 Qyp.spec:=by
 have hP:Qe Tryz.prog _:=(Qc (T:=tree))
 have hT:=tabs hP Qf
 refine Qyp.good (fn:=Tryz.f195) hT hP Tryz.func195 (by kernel_rfl) rfl fun (l:List Int) (v:Int) hp=>?_
 have hp:l.length≤4611686018427387904:=hp _ rfl
 repeat' first |(refine Go.mk ?_;conv=>whnf) |refine Ql.go ?_ ?_ |refine Qm.go (fun _=>?_) (fun _=>?_) |refine Br.dec (fun _=>?_) (fun _=>?_) |refine Br.go (fun _=>?_) (fun _=>?_) |refine Qd hT hP mixed ?_ |refine Qb hT hP ?_
 refine Qay hT hP (X:=Int) (fun i=>St.mk ((.cell (.ro (.int .i64) l)) :: (I v) :: E5 ((I l.length) :: (I i) :: E10 [])) [])
  (fun i=>∃ k:Nat,i=k∧k≤l.length∧QqE (fun a=>decide (v=a)) l 0=QqE (fun a=>decide (v=a)) (l.drop k) k) (fun i=>(l.length-i).toNat) 0 (Le.mk [] [] R R R ?_) ?_ fun i hi=>?_
 rotate_right
 repeat' first |(refine Go.mk ?_;conv=>whnf) |refine Ql.go ?_ ?_ |refine Qm.go (fun _=>?_) (fun _=>?_) |refine Br.dec (fun _=>?_) (fun _=>?_) |refine Br.go (fun _=>?_) (fun _=>?_) |refine Qd hT hP mixed ?_ |refine Qb hT hP ?_
 ·obtain ⟨k,rfl,hk,h0⟩:=hi
  omega
 ·rename_i hz
  obtain ⟨k,rfl,hk,h0⟩:=hi
  have hlt:k < l.length:=by omega
  have hz:v=l.getD k 0:=by simpa [dflt] using hz
  refine .mk [] [] _ R R R R R R (Qg ?_)
  show (k:Int)=QqE (fun a=>decide (v=a)) l 0
  rw [h0,Qli _ hlt,if_pos (decide_eq_true hz)]
 ·rename_i hz
  obtain ⟨k,rfl,hk,h0⟩:=hi
  have hlt:k < l.length:=by omega
  have hz:¬ v=l.getD k 0:=by simpa [dflt] using hz
  have e:IntKind.i64.wrap ((k:Int)+1)=((k+1:Nat):Int):=by rw [w64 (by omega) (by omega)];omega
  apply Exists.intro _
  refine And.intro ?_ (And.intro ?_ (Le.mk [] [] R R ?hh ?ht))
  case hh=>exact rfl
  case ht=>repeat' first |exact trivial |exact ⟨rfl,rfl⟩ |refine And.intro ?_ ?_
  ·refine ⟨k+1,e,by omega,?_⟩
   rw [h0,Qli _ hlt,if_neg (by simpa using hz)]
   rfl
  ·show (l.length-IntKind.i64.wrap ((k:Int)+1)).toNat < (l.length-(k:Int)).toNat
   rw [e];omega
 ·obtain ⟨k,rfl,hk,h0⟩:=hi
  refine .mk [] [] _ R R R R R R (Qg ?_)
  show -1=QqE (fun a=>decide (v=a)) l 0
  rw [h0,List.drop_of_length_le (by omega)];rfl
 ·repeat' first |exact trivial |exact ⟨rfl,rfl⟩ |refine And.intro ?_ ?_
 ·exact ⟨0,rfl,by omega,rfl⟩
def Qlj:Qk:=⟨[gl,gi],fun (l,v,_)=>(some (List.length l≤4611686018427387904),.cell (bv (l.any fun a=>decide (v=a))),[])⟩
theorem QmE:Qi Tryz.prog 105 Qlj.spec:=by
 have hP:Qe Tryz.prog _:=Qa Qwx (Qc (T:=tree))
 have hT:=tabs hP Qf
 refine Qlj.good (fn:=Tryz.f105) hT hP Tryz.func105 (by kernel_rfl) rfl fun (l:List Int) (v:Int) hp=>?_
 have hp:l.length≤4611686018427387904:=hp _ rfl
 repeat' first |(refine Go.mk ?_;conv=>whnf) |refine Ql.go ?_ ?_ |refine Qm.go (fun _=>?_) (fun _=>?_) |refine Br.dec (fun _=>?_) (fun _=>?_) |refine Br.go (fun _=>?_) (fun _=>?_) |refine Qd hT hP mixed ?_ |refine Qb hT hP ?_
 ·exact hp
 ·refine .mk [] [] _ R R R R R R (Qo ?_)
  exact QoH _ l 0 (by omega)
theorem Qei (c:Int):land .i64 c 1=c%2:=by
 have e:(BitVec.ofInt 64 c &&& BitVec.ofInt 64 1).toNat=(BitVec.ofInt 64 c).toNat%2:=by
  rw [BitVec.toNat_and]
  exact Nat.and_one_is_mod _
 show IntKind.i64.wrap (((BitVec.ofInt 64 c &&& BitVec.ofInt 64 1).toNat:Nat):Int)=_
 rw [e,Qab,w64 (by omega) (by omega)]
 unfold u64
 omega
theorem QmF (x:Int) (k:Nat) (h:k≤64):shr .i64 x (k:Int)=x/2 ^ k:=by
 show x.fdiv (2 ^ (min ((k:Int).toNat) 64))=_
 have:min ((k:Int).toNat) 64=k:=by omega
 rw [this]
 exact Int.fdiv_eq_ediv_of_nonneg _ (by have:(0:Int)≤((2 ^ k:Nat):Int):=Int.natCast_nonneg _;simpa using this)
theorem QGH (x:Int):shr .i64 x 8=x/256:=QmF x 8 (by omega)
theorem QIq (x:Int):shr .i64 x 1=x/2:=QmF x 1 (by omega)
theorem QIr (x:Int):shr .i64 x 7=x/128:=QmF x 7 (by omega)
theorem Qej:Qat 8=8:=by decide
theorem p8:(2:Int) ^ (8:Int).toNat=256:=by decide
theorem QGI (x:Int) (h:0≤x∧x < 65536):shl .i64 x 1=2*x:=by
 show IntKind.i64.wrap (x*2 ^ (min ((1:Int).toNat) 64))=_
 have:min ((1:Int).toNat) 64=1:=by decide
 rw [this,w64 (by omega) (by omega)];omega
theorem QGJ (x:Int) (h:0≤x∧x < 65536):shl .i64 x 8=256*x:=by
 show IntKind.i64.wrap (x*2 ^ (min ((8:Int).toNat) 64))=_
 have:min ((8:Int).toNat) 64=8:=by decide
 rw [this,w64 (by omega) (by omega)];omega
theorem QC8:shl .i64 1 8=256:=by decide
theorem QC9 (x c:Int) (h:0≤x∧x < 256) (hc:c=0∨c=1):lor .i64 (2*x) c=2*x+c:=by
 rcases hc with rfl |rfl
 ·exact QdJ (fun x=>lor .i64 (2*x) 0=2*x+0) (by decide +kernel) x h.1 h.2
 ·exact QdJ (fun x=>lor .i64 (2*x) 1=2*x+1) (by decide +kernel) x h.1 h.2
theorem QAv (x c:Int) (h:0≤x∧x < 256) (hc:c=0∨c=1):lor .i64 x (256*c)=x+256*c:=by
 rcases hc with rfl |rfl
 ·exact QdJ (fun x=>lor .i64 x (256*0)=x+256*0) (by decide +kernel) x h.1 h.2
 ·exact QdJ (fun x=>lor .i64 x (256*1)=x+256*1) (by decide +kernel) x h.1 h.2
abbrev QuH (c:Int):Prop:=c=0∨c=1
def QDa (a b c n:Int):Prop:=(0≤a∧a < 256)∧(0≤b∧b < 256)∧QuH c∧n=8
def QDb:Qk:=⟨[gi,gi,gi,gi],fun (a,b,c,n,_)=>(some (QDa a b c n),.tup [I1 ((a+b+c)%256),I1 ((a+b+c)/256)],[])⟩
theorem QAw:Qi Tryz.prog 264 QDb.spec:=by
 have hP:Qe Tryz.prog _:=Qa Qcr (Qa QT (Qc (T:=tree)))
 have hT:=tabs hP Qf
 refine QDb.good (fn:=Tryz.f264) hT hP Tryz.func264 (by kernel_rfl) rfl fun (a b c n:Int) hp=>?_
 obtain ⟨ha,hb,hc,rfl⟩:QDa a b c n:=hp _ rfl
 repeat' first |(refine Go.mk ?_;conv=>whnf) |refine Ql.go ?_ ?_ |refine Qm.go (fun _=>?_) (fun _=>?_) |refine Br.dec (fun _=>?_) (fun _=>?_) |refine Br.go (fun _=>?_) (fun _=>?_) |refine Qd hT hP mixed ?_ |refine Qb hT hP ?_
 all_goals first
  |exact of_decide_eq_true rfl
  |skip
 refine .mk [] [] _ R R R R R R (QdY ?_ ?_)
 ·rw [Qej,p8,Qei];simp only [QjY];omega
 ·rw [Qej,p8,Qei,QGH];simp only [QjY];omega
def Qjx (x:Int):Int:=if x < 0 then 1 else 0
def QDc:Qk:=⟨[gi,gi,gi,gi],fun (a,b,c,n,_)=>(some (QDa a b c n),.tup [I1 ((a-b-c)%256),I1 (Qjx (a-b-c))],[])⟩
theorem QAx:Qi Tryz.prog 267 QDc.spec:=by
 have hP:Qe Tryz.prog _:=Qa Qcr (Qa QT (Qc (T:=tree)))
 have hT:=tabs hP Qf
 refine QDc.good (fn:=Tryz.f267) hT hP Tryz.func267 (by kernel_rfl) rfl fun (a b c n:Int) hp=>?_
 obtain ⟨ha,hb,hc,rfl⟩:QDa a b c n:=hp _ rfl
 repeat' first |(refine Go.mk ?_;conv=>whnf) |refine Ql.go ?_ ?_ |refine Qm.go (fun _=>?_) (fun _=>?_) |refine Br.dec (fun _=>?_) (fun _=>?_) |refine Br.go (fun _=>?_) (fun _=>?_) |refine Qd hT hP mixed ?_ |refine Qb hT hP ?_
 all_goals first
  |exact of_decide_eq_true rfl
  |skip
 all_goals
  rename_i h
  dsimp only [gi,Den] at h
  rw [Qej,p8,Qei] at h
  simp only [QjY] at h
  refine .mk [] [] _ R R R R R R (QdY ?_ ?_)
  ·simp only [Qej,p8,Qei,QC8,QjY];rcases hc with rfl |rfl<;>omega
  ·unfold Qjx;rcases hc with rfl |rfl<;>split<;>omega
def okN (n c b:Int):Prop:=QuH c∧b=8
def QDd:Qk:=⟨[gi,gi,gi],fun (n,c,b,_)=>(some (okN n c b),.tup [I1 ((n*2+c)%256),I1 (n%256/128)],[])⟩
theorem QAy:Qi Tryz.prog 268 QDd.spec:=by
 have hP:Qe Tryz.prog _:=Qa Qcr (Qa QT (Qc (T:=tree)))
 have hT:=tabs hP Qf
 refine QDd.good (fn:=Tryz.f268) hT hP Tryz.func268 (by kernel_rfl) rfl fun (n c b:Int) hp=>?_
 obtain ⟨hc,rfl⟩:okN n c b:=hp _ rfl
 have hcc:c%2=c:=by rcases hc with rfl |rfl<;>rfl
 repeat' first |(refine Go.mk ?_;conv=>whnf) |refine Ql.go ?_ ?_ |refine Qm.go (fun _=>?_) (fun _=>?_) |refine Br.dec (fun _=>?_) (fun _=>?_) |refine Br.go (fun _=>?_) (fun _=>?_) |refine Qd hT hP mixed ?_ |refine Qb hT hP ?_
 all_goals first
  |exact of_decide_eq_true rfl
  |skip
 have hor:=QC9 (n%256) c (by omega) hc
 refine .mk [] [] _ R R R R R R (QdY ?_ ?_)
 ·simp only [Qej,p8,Qei,hcc]
  rw [QGI _ (by omega),hor]
  rcases hc with rfl |rfl<;>omega
 ·simp only [Qej,p8,Qei,hcc]
  rw [QGI _ (by omega),hor,QGH]
  rcases hc with rfl |rfl<;>omega
def QDe:Qk:=⟨[gi,gi,gi],fun (n,c,b,_)=>(some (okN n c b),.tup [I1 (n%256/2+128*c),I1 (n%2)],[])⟩
theorem QAz:Qi Tryz.prog 269 QDe.spec:=by
 have hP:Qe Tryz.prog _:=Qa Qcr (Qa QT (Qc (T:=tree)))
 have hT:=tabs hP Qf
 refine QDe.good (fn:=Tryz.f269) hT hP Tryz.func269 (by kernel_rfl) rfl fun (n c b:Int) hp=>?_
 obtain ⟨hc,rfl⟩:okN n c b:=hp _ rfl
 have hcc:c%2=c:=by rcases hc with rfl |rfl<;>rfl
 repeat' first |(refine Go.mk ?_;conv=>whnf) |refine Ql.go ?_ ?_ |refine Qm.go (fun _=>?_) (fun _=>?_) |refine Br.dec (fun _=>?_) (fun _=>?_) |refine Br.go (fun _=>?_) (fun _=>?_) |refine Qd hT hP mixed ?_ |refine Qb hT hP ?_
 all_goals first
  |exact of_decide_eq_true rfl
  |skip
 have hor:=QAv (n%256) c (by omega) hc
 refine .mk [] [] _ R R R R R R (QdY ?_ ?_)
 ·simp only [Qej,p8,Qei,hcc]
  rw [QGJ _ (by rcases hc with rfl |rfl<;>omega),hor,QIq]
  rcases hc with rfl |rfl<;>omega
 ·simp only [Qej,p8,hcc,Qei]
  rw [QGJ _ (by rcases hc with rfl |rfl<;>omega),hor]
  rcases hc with rfl |rfl<;>omega
def QDf:Qk:=⟨[gi,gi],fun (n,b,_)=>(some ((b:Int)=8),I (n%256-n%256/128*256),[])⟩
theorem QAA:Qi Tryz.prog 253 QDf.spec:=by
 have hP:Qe Tryz.prog _:=Qa Qcr (Qa QT (Qc (T:=tree)))
 have hT:=tabs hP Qf
 refine QDf.good (fn:=Tryz.f253) hT hP Tryz.func253 (by kernel_rfl) rfl fun (n b:Int) hp=>?_
 obtain rfl:b=8:=hp _ rfl
 repeat' first |(refine Go.mk ?_;conv=>whnf) |refine Ql.go ?_ ?_ |refine Qm.go (fun _=>?_) (fun _=>?_) |refine Br.dec (fun _=>?_) (fun _=>?_) |refine Br.go (fun _=>?_) (fun _=>?_) |refine Qd hT hP mixed ?_ |refine Qb hT hP ?_
 all_goals first
  |exact (by decide:0≤Qat 8∧Qat 8≤62)
  |exact (by decide:0≤IntKind.i64.wrap (Qat 8-1))
  |exact (by decide:0≤Qat 8)
  |skip
 all_goals
  rename_i h
  dsimp only [gi,Den] at h
  rw [Qej,p8,show IntKind.i64.wrap (8-1)=7 by decide,QIr] at h
  refine .mk [] [] _ R R R R R R (Qg ?_)
  simp only [Qej,p8,QC8,QjY];omega
def Qcj (p f:Int) (on:Bool):Int:=cond on (lor .i64 (Q3 .i64 p f) f) (Q3 .i64 p f)
def QDg:Qk:=⟨[gR,gi,gB],fun (r,f,on,_)=>(some (List.length r=9),.agg [.run .i64 9 (List.set r 4 (Qcj (List.getD r 4 0) f on))],[])⟩
theorem Qjy:Qi Tryz.prog 252 QDg.spec:=by
 have hP:Qe Tryz.prog _:=(Qc (T:=tree))
 have hT:=tabs hP Qf
 refine QDg.good (fn:=Tryz.f252) hT hP Tryz.func252 (by kernel_rfl) rfl fun (r:List Int) (f:Int) (on:Bool) hp=>?_
 have h9:r.length=9:=hp _ rfl
 obtain ⟨r0,r1,r2,r3,r4,r5,r6,r7,r8,rfl⟩:=nine h9
 cases on
 all_goals
  repeat' first |(refine Go.mk ?_;conv=>whnf) |refine Ql.go ?_ ?_ |refine Qm.go (fun _=>?_) (fun _=>?_) |refine Br.dec (fun _=>?_) (fun _=>?_) |refine Br.go (fun _=>?_) (fun _=>?_) |refine Qd hT hP mixed ?_ |refine Qb hT hP ?_
 all_goals first
  |exact of_decide_eq_true rfl
  |exact .mk [] [] _ R R R R R R R
def nzV (p n:Int):Int:=Qcj (Qcj p 2 (decide (n=0))) 128 (decide (n≥128))
def nzS:Qk:=⟨[gR,gi],fun (r,n,_)=>(some (List.length r=9),.agg [.run .i64 9 (List.set r 4 (nzV (List.getD r 4 0) n))],[])⟩
theorem QAB:Qi Tryz.prog 248 nzS.spec:=by
 have hP:Qe Tryz.prog _:=Qa Qjy (Qc (T:=tree))
 have hT:=tabs hP Qf
 refine nzS.good (fn:=Tryz.f248) hT hP Tryz.func248 (by kernel_rfl) rfl fun (r:List Int) (n:Int) hp=>?_
 have h9:r.length=9:=hp _ rfl
 obtain ⟨r0,r1,r2,r3,r4,r5,r6,r7,r8,rfl⟩:=nine h9
 repeat' first |(refine Go.mk ?_;conv=>whnf) |refine Ql.go ?_ ?_ |refine Qm.go (fun _=>?_) (fun _=>?_) |refine Br.dec (fun _=>?_) (fun _=>?_) |refine Br.go (fun _=>?_) (fun _=>?_) |refine Qd hT hP mixed ?_ |refine Qb hT hP ?_
 all_goals first
  |exact of_decide_eq_true rfl
  |exact .mk [] [] _ R R R R R R R
def Qyr:Qk:=⟨[gR],fun (r,_)=>(some (List.length r=9),I (land .i64 (List.getD r 4 0) 1),[])⟩
theorem QoK:Qi Tryz.prog 265 Qyr.spec:=by
 have hP:Qe Tryz.prog _:=(Qc (T:=tree))
 have hT:=tabs hP Qf
 refine Qyr.good (fn:=Tryz.f265) hT hP Tryz.func265 (by kernel_rfl) rfl fun (r:List Int) hp=>?_
 have h9:r.length=9:=hp _ rfl
 repeat' first |(refine Go.mk ?_;conv=>whnf) |refine Ql.go ?_ ?_ |refine Qm.go (fun _=>?_) (fun _=>?_) |refine Br.dec (fun _=>?_) (fun _=>?_) |refine Br.go (fun _=>?_) (fun _=>?_) |refine Qd hT hP mixed ?_ |refine Qb hT hP ?_
 all_goals first
  |exact of_decide_eq_true rfl
  |exact .mk [] [] _ R R R R R R R
def Qag (n:Int):Int:=max 0 (min n 8)
def Qti:Qk:=⟨[gi],fun (n,_)=>(none,I (Qag n),[])⟩
theorem Qtj:Qi Tryz.prog 247 Qti.spec:=by
 have hP:Qe Tryz.prog _:=(Qc (T:=tree))
 have hT:=tabs hP Qf
 refine Qti.good (fn:=Tryz.f247) hT hP Tryz.func247 (by kernel_rfl) rfl fun (n:Int) hp=>?_
 repeat' first |(refine Go.mk ?_;conv=>whnf) |refine Ql.go ?_ ?_ |refine Qm.go (fun _=>?_) (fun _=>?_) |refine Br.dec (fun _=>?_) (fun _=>?_) |refine Br.go (fun _=>?_) (fun _=>?_) |refine Qd hT hP mixed ?_ |refine Qb hT hP ?_
 refine .mk [] [] _ R R R R R R (Qg ?_)
 rw [Q9,QbZ];rfl
theorem Qgv (n:Int):0≤Qag n∧Qag n < 9:=by unfold Qag;omega
def okT (t:Int):Prop:=0≤t∧t < 9
def QjZ (p n c:Int):Int:=Qcj (nzV p n) 1 (decide (c=1))
def Qtk:Qk:=⟨[gR,gi,gi,gi],fun (r,t,n,c,_)=>(some (List.length r=9∧okT t),.agg [.run .i64 9 (List.set (List.set r 4 (QjZ (List.getD r 4 0) n c)) (Int.toNat t) n)],[])⟩
theorem Qlk:Qi Tryz.prog 266 Qtk.spec:=by
 have hP:Qe Tryz.prog _:=Qa Qjy (Qa QAB (Qc (T:=tree)))
 have hT:=tabs hP Qf
 refine Qtk.good (fn:=Tryz.f266) hT hP Tryz.func266 (by kernel_rfl) rfl fun (r:List Int) (t n c:Int) hp=>?_
 obtain ⟨h9,ht⟩:r.length=9∧okT t:=hp _ rfl
 obtain ⟨r0,r1,r2,r3,r4,r5,r6,r7,r8,rfl⟩:=nine h9
 have ht2:t.toNat < 9:=by have:=ht;unfold okT at this;omega
 repeat' first |(refine Go.mk ?_;conv=>whnf) |refine Ql.go ?_ ?_ |refine Qm.go (fun _=>?_) (fun _=>?_) |refine Br.dec (fun _=>?_) (fun _=>?_) |refine Br.go (fun _=>?_) (fun _=>?_) |refine Qd hT hP mixed ?_ |refine Qb hT hP ?_
 all_goals first
  |exact of_decide_eq_true rfl
  |exact ht
  |exact ht2
  |exact .mk [] [] _ R R R R R R R
theorem Qhq (r:List Int) (n:Nat):0≤(QJ r).getD n 0∧(QJ r).getD n 0 < 65536:=by
 match n with
 |0 |1 |2 |3 |4 |5 |6 |7 |8=>simp [QJ];omega
 |n+9=>simp [QJ]
theorem QAC (r:List Int):0≤(QJ r).getD 4 0∧(QJ r).getD 4 0 < 256:=by simp [QJ];omega
theorem Qey {t:Int} (h:okT t):0≤t∧t < ((9:Nat):Int):=by unfold okT at h;omega
theorem Qf3 {t:Int} (h:okT t):t.toNat < 9:=by unfold okT at h;omega
abbrev aV (t:Int) (F:List Int):Int:=F.getD t.toNat 0%256
abbrev cV (F:List Int):Int:=F.getD 4 0%2
def QEo (d a b:Int):Int:=if d=7 then land .i64 a b else if d=8 then lor .i64 a b else lxor .i64 a b
def QBx (d t f:Int) (F:List Int):List Int :=
 if d=4 then (F.set 4 (QjZ (F.getD 4 0) ((aV t F+aV f F+cV F)%256) ((aV t F+aV f F+cV F)/256))).set t.toNat ((aV t F+aV f F+cV F)%256)
 else if d=5 then (F.set 4 (QjZ (F.getD 4 0) ((aV t F-aV f F-(1-cV F))%256) (1-Qjx (aV t F-aV f F-(1-cV F))))).set t.toNat ((aV t F-aV f F-(1-cV F))%256)
 else if d=6 then F.set 4 (Qcj (nzV (F.getD 4 0) ((aV t F-aV f F)%256)) 1 (decide (Qjx (aV t F-aV f F)=0)))
 else (F.set 4 (nzV (F.getD 4 0) (QEo d (aV t F) (aV f F)))).set t.toNat (QEo d (aV t F) (aV f F))
theorem QIs:(2:Int) ^ 8=256:=by decide
theorem wbor (x:Int):IntKind.i64.wrap (1-Qjx x)=1-Qjx x:=by unfold Qjx;split<;>decide
theorem i8:Int.toNat 8=8:=rfl
def QDh (d t f:Int) (r:List Int):Prop:=okT t∧okT f∧∃ q,r=QJ q
theorem QwC (F:List Int) (x y:Int):(F.set 4 x).set 4 y=F.set 4 y:=by simp
def QGK:Qk:=⟨[gi,gi,gi,gR],fun (d,t,f,r,_)=>(some (QDh d t f r),.agg [.run .i64 9 (QBx d t f r)],[])⟩
theorem QDi:Qi Tryz.prog 249 QGK.spec:=by
 have hP:Qe Tryz.prog _:=Qa Qjy (Qa QAB (Qa QoK (Qa Qlk (Qa QAw (Qa QAx (Qa QT (Qc (T:=tree))))))))
 have hT:=tabs hP Qf
 refine QGK.good (fn:=Tryz.f249) hT hP Tryz.func249 (by kernel_rfl) rfl fun (d t f:Int) (r:List Int) hp=>?_
 obtain ⟨ht,hf,q,rfl⟩:QDh d t f r:=hp _ rfl
 have ht1:=Qey ht
 have hf1:=Qey hf
 have ht2:=Qf3 ht
 have hf2:=Qf3 hf
 have hl:(QJ q).length=9:=rfl
 have hc:=QAC q
 have hlc:land .i64 ((QJ q).getD 4 0) 1=(QJ q).getD 4 0%2:=Qei _
 have hw1:IntKind.i64.wrap (1-(QJ q).getD 4 0%2)=1-(QJ q).getD 4 0%2:=w64 (by omega) (by omega)
 clear hp
 repeat' first |(refine Go.mk ?_;conv=>whnf) |refine Ql.go ?_ ?_ |refine Qm.go (fun _=>?_) (fun _=>?_) |refine Br.dec (fun _=>?_) (fun _=>?_) |refine Br.go (fun _=>?_) (fun _=>?_) |refine Qd hT hP mixed ?_ |refine Qb hT hP ?_
 all_goals first
  |exact of_decide_eq_true rfl
  |exact ht1
  |exact hf1
  |exact ht2
  |exact hf2
  |exact ⟨rfl,ht⟩
  |exact rfl
  |skip
 all_goals (try refine .mk [] [] _ R R R R R R (QGy ?_))
 all_goals clear hT hP
 all_goals (simp only [i8,QIs,hlc,hw1,wbor])
 all_goals (try (unfold QDa QuH;omega))
 all_goals (clear ht1 hf1 ht2 hf2 hlc hw1)
 all_goals (try simp_all [QBx,QEo,aV,cV])
 all_goals (try rfl)
def shF (d t:Int) (F:List Int):List Int :=
 if d=12 then (F.set 4 (QjZ (F.getD 4 0) ((F.getD t.toNat 0*2+0)%256) (F.getD t.toNat 0%256/128))).set t.toNat ((F.getD t.toNat 0*2+0)%256)
 else if d=14 then (F.set 4 (QjZ (F.getD 4 0) ((F.getD t.toNat 0*2+cV F)%256) (F.getD t.toNat 0%256/128))).set t.toNat ((F.getD t.toNat 0*2+cV F)%256)
 else if d=13 then (F.set 4 (QjZ (F.getD 4 0) (F.getD t.toNat 0%256/2+128*0) (F.getD t.toNat 0%2))).set t.toNat (F.getD t.toNat 0%256/2+128*0)
 else (F.set 4 (QjZ (F.getD 4 0) (F.getD t.toNat 0%256/2+128*cV F) (F.getD t.toNat 0%2))).set t.toNat (F.getD t.toNat 0%256/2+128*cV F)
def QGL (t:Int) (r:List Int):Prop:=okT t∧∃ q,r=QJ q
def shS:Qk:=⟨[gi,gi,gR],fun (d,t,r,_)=>(some (QGL t r),.agg [.run .i64 9 (shF d t r)],[])⟩
theorem QF3:Qi Tryz.prog 251 shS.spec:=by
 have hP:Qe Tryz.prog _:=Qa QoK (Qa Qlk (Qa QAy (Qa QAz (Qc (T:=tree)))))
 have hT:=tabs hP Qf
 refine shS.good (fn:=Tryz.f251) hT hP Tryz.func251 (by kernel_rfl) rfl fun (d t:Int) (r:List Int) hp=>?_
 obtain ⟨ht,q,rfl⟩:QGL t r:=hp _ rfl
 have ht1:=Qey ht
 have ht2:=Qf3 ht
 have hl:(QJ q).length=9:=rfl
 have hc:=QAC q
 have hlc:land .i64 ((QJ q).getD 4 0) 1=(QJ q).getD 4 0%2:=Qei _
 clear hp
 repeat' first |(refine Go.mk ?_;conv=>whnf) |refine Ql.go ?_ ?_ |refine Qm.go (fun _=>?_) (fun _=>?_) |refine Br.dec (fun _=>?_) (fun _=>?_) |refine Br.go (fun _=>?_) (fun _=>?_) |refine Qd hT hP mixed ?_ |refine Qb hT hP ?_
 all_goals first
  |exact of_decide_eq_true rfl
  |exact ht1
  |exact ht2
  |exact ⟨rfl,ht⟩
  |exact rfl
  |exact ⟨.inl rfl,rfl⟩
  |skip
 all_goals (try refine .mk [] [] _ R R R R R R (QGy ?_))
 all_goals clear hT hP
 all_goals (try rw [hlc])
 all_goals (try (unfold okN QuH;omega))
 all_goals (clear ht1 ht2 hlc)
 all_goals (try simp_all [shF,cV])
 all_goals trace_state
abbrev gS:Sig:=⟨true,QC⟩
theorem w_0:IntKind.i64.wrap 0=0:=by decide
theorem w_1:IntKind.i64.wrap 1=1:=by decide
theorem w_2:IntKind.i64.wrap 2=2:=by decide
theorem w_8:IntKind.i64.wrap 8=8:=by decide
def QDj (d t:Int) (F:List Int):Int:=(F.getD t.toNat 0+1-2*(d-10))%cond (Q4 t) 65536 256
def QF4 (d t:Int) (F:List Int):List Int:=if Q4 t=true then F.set t.toNat (QDj d t F) else (F.set 4 (nzV (F.getD 4 0) (QDj d t F))).set t.toNat (QDj d t F)
def QAD (d n t f:Int) (F:List Int):List Int :=
 if d=1 then F.set t.toNat (F.getD f.toNat 0) else if d=2 then F.set t.toNat n else if d=3 then F.set 4 (nzV (F.getD 4 0) (F.getD t.toNat 0%256))
 else if 4≤d∧d≤9 then QBx d t f F else if d=10∨d=11 then QF4 d t F else if 12≤d∧d≤15 then shF d t F
 else if d=16 then F.set 4 (Qcj (F.getD 4 0) (n%256) true) else if d=17 then F.set 4 (Qcj (F.getD 4 0) (n%256) false)
 else if d=18 then F.set t.toNat (256*(F.getD t.toNat 0/256)+F.getD f.toNat 0%256) else if d=19 then F.set t.toNat (256*(256*(F.getD t.toNat 0/65536)+F.getD f.toNat 0%256)+F.getD t.toNat 0%256)
 else if d=20 then F.set t.toNat (F.getD f.toNat 0%256) else if d=21 then F.set t.toNat (F.getD f.toNat 0/256%256)
 else if d=22 then F.set t.toNat (F.getD t.toNat 0+F.getD f.toNat 0%256) else if d=23 then F.set t.toNat (F.getD t.toNat 0+(F.getD f.toNat 0%256-F.getD f.toNat 0%256/128*256)) else F
theorem QwD (d t f:Int) (F:List Int):(QBx d t f F).length=F.length:=by unfold QBx;(repeat' split)<;>simp
theorem QAE (d t:Int) (F:List Int):(shF d t F).length=F.length:=by unfold shF;(repeat' split)<;>simp
def doR (s:Stp) (r:List Int):List Int:=if s.1=24 then QJ r else QJ (QAD s.1 s.2.2.2 (Qag s.2.1) (Qag s.2.2.1) (QJ r))
def doE (s:Stp) (r:List Int):Bool:=decide (s.1=24)&&((land .i64 ((QJ r).getD 4 0) (s.2.2.2%256) != 0) != decide (s.2.2.1=1))
theorem QDk {l l':List Int} {b b':Bool} (h:l=l') (h2:b=b'):AV.tup [.agg [.run .i64 9 l],.c (bv b)]=AV.tup [.agg [.run .i64 9 l'],.c (bv b')]:=by rw [h,h2]
def doS:Qk:=⟨[gS,gR],fun (s,r,_)=>(some (List.length r=9),.tup [.agg [.run .i64 9 (doR s r)],.c (bv (doE s r))],[])⟩
theorem QAF (t:Int):0≤cond (Q4 t) (16:Int) 8∧cond (Q4 t) (16:Int) 8≤62:=by cases Q4 t<;>decide
set_option maxHeartbeats 8000000 in
theorem QF5:Qi Tryz.prog 213 doS.spec:=by
 have hP:Qe Tryz.prog _:=Qa Qtj (Qa Qmt (Qa Qjy (Qa QAB (Qa Qoo (Qa Qe5 (Qa QDi (Qa QF3 (Qa QT (Qa Qhd (Qa Qhe (Qa QAA (Qc (T:=tree)))))))))))))
 have hT:=tabs hP Qf
 refine doS.good (fn:=Tryz.f213) hT hP Tryz.func213 (by kernel_rfl) rfl fun (s:Stp) (r:List Int) hp=>?_
 obtain ⟨d,to,fr,n⟩:=s
 have h9:r.length=9:=hp _ rfl
 have ht:okT (Qag to):=Qgv to
 have hf:okT (Qag fr):=Qgv fr
 have ht1:=Qey ht
 have hf1:=Qey hf
 have ht2:=Qf3 ht
 have hf2:=Qf3 hf
 have hl:(QJ r).length=9:=rfl
 have hb:=QAF (Qag to)
 clear hp
 repeat' first |(refine Go.mk ?_;conv=>whnf) |refine Ql.go ?_ ?_ |refine Qm.go (fun _=>?_) (fun _=>?_) |refine Br.dec (fun _=>?_) (fun _=>?_) |refine Br.go (fun _=>?_) (fun _=>?_) |refine Qd hT hP mixed ?_ |refine Qb hT hP ?_
 all_goals first
  |exact of_decide_eq_true rfl
  |exact h9
  |exact ht1
  |exact hf1
  |exact ht2
  |exact hf2
  |exact hb
  |exact ⟨ht,hf,_,rfl⟩
  |exact ⟨ht,_,rfl⟩
  |exact ⟨rfl,ht⟩
  |exact rfl
  |skip
 all_goals (try refine .mk [] [] _ R R R R R R (QDk ?_ ?_))
 all_goals clear hT hP
 all_goals (dsimp only at *)
 all_goals (try (simp only [List.length_set,QwD,QAE,hl];done))
 all_goals (try (rename_i h;simp [doE,h];done))
 all_goals
  have bA:=Qhq r (Qag to).toNat
  have bB:=Qhq r (Qag fr).toNat
  clear ht1 hf1 ht2 hf2 hb
 all_goals (try simp only [doR,QAD,QF4,QDj,doE])
 all_goals
  generalize (QJ r).getD (Qag to).toNat 0=A at *
  generalize (QJ r).getD (Qag fr).toNat 0=B at *
 all_goals
  have hA1:IntKind.i64.wrap (A+1)=A+1:=w64 (by omega) (by omega)
  have hA2:IntKind.i64.wrap (A+1-2)=A+1-2:=w64 (by omega) (by omega)
  have hA3:IntKind.i64.wrap (A+B%256)=A+B%256:=w64 (by omega) (by omega)
  have hA4:IntKind.i64.wrap (A+(B%256-B%256/128*256))=A+(B%256-B%256/128*256):=w64 (by omega) (by omega)
  have hA5:A < 4611686018427387904:=by omega
  have hA6:B < 4611686018427387904:=by omega
 all_goals (try simp_all [w_0,w_1,w_2,w_8])
 all_goals (try omega)
 ·show ((land .i64 (QJ r)[4] (n%256) != 0) == decide (fr=1))=!((land .i64 (QJ r)[4] (n%256) != 0) != decide (fr=1))
  cases (land .i64 (QJ r)[4] (n%256) != 0)<;>cases decide (fr=1)<;>rfl
 ·rw [if_neg (by omega),if_neg (by omega)]
def QAG (n lo hi:Int):Int:=if n < lo then lo else if n > hi then hi else n
def QGM:Qk:=⟨[gi,gi,gi],fun (n,lo,hi,_)=>(none,I (QAG n lo hi),[])⟩
theorem QDl:Qi Tryz.prog 80 QGM.spec:=by
 have hP:Qe Tryz.prog _:=(Qc (T:=tree))
 have hT:=tabs hP Qf
 refine QGM.good (fn:=Tryz.f80) hT hP Tryz.func80 (by kernel_rfl) rfl fun (n lo hi:Int) hp=>?_
 repeat' first |(refine Go.mk ?_;conv=>whnf) |refine Ql.go ?_ ?_ |refine Qm.go (fun _=>?_) (fun _=>?_) |refine Br.dec (fun _=>?_) (fun _=>?_) |refine Br.go (fun _=>?_) (fun _=>?_) |refine Qd hT hP mixed ?_ |refine Qb hT hP ?_
 all_goals
  refine .mk [] [] _ R R R R R R (Qg ?_)
  show _=QAG n lo hi
  dsimp only [gi,Den] at *
  unfold QAG
  split<;>(try split)<;>omega
theorem Qhr (n:Int):QAG n 0 8=Qag n:=by unfold QAG Qag;split<;>(try split)<;>omega
def rfV (p n c:Int):Int :=
 let q:=Q3 .i64 p 130
 let q:=if n=0 then lor .i64 q 2 else q
 let q:=lor .i64 q (land .i64 n 128)
 if c≥0 then lor .i64 (Q3 .i64 q 1) c else q
def Qtl:Qk:=⟨[gi,gi,gi],fun (p,n,c,_)=>(none,I (rfV p n c),[])⟩
theorem Qtm:Qi Tryz.prog 220 Qtl.spec:=by
 have hP:Qe Tryz.prog _:=(Qc (T:=tree))
 have hT:=tabs hP Qf
 refine Qtl.good (fn:=Tryz.f220) hT hP Tryz.func220 (by kernel_rfl) rfl fun (p n c:Int) hp=>?_
 repeat' first |(refine Go.mk ?_;conv=>whnf) |refine Ql.go ?_ ?_ |refine Qm.go (fun _=>?_) (fun _=>?_) |refine Br.dec (fun _=>?_) (fun _=>?_) |refine Br.go (fun _=>?_) (fun _=>?_) |refine Qd hT hP mixed ?_ |refine Qb hT hP ?_
 all_goals
  refine .mk [] [] _ R R R R R R (Qg ?_)
  show _=rfV p n c
  simp_all [rfV]<;>(intro h;exfalso;omega)
theorem QAH:∀ n:Int,0≤n→n < 256→land .i64 n 128=if n≥128 then 128 else 0:=QdJ (fun n=>land .i64 n 128=if n≥128 then 128 else 0) (by decide +kernel)
def rfB (p:Int) (z m:Bool):Int:=lor .i64 (cond z (lor .i64 (Q3 .i64 p 130) 2) (Q3 .i64 p 130)) (cond m 128 0)
theorem Qys (z m:Bool):∀ p:Int,0≤p→p < 256→rfB p z m=Qcj (Qcj p 2 z) 128 m:=by
 cases z<;>cases m
 ·exact QdJ (fun p=>rfB p false false=Qcj (Qcj p 2 false) 128 false) (by decide +kernel)
 ·exact QdJ (fun p=>rfB p false true=Qcj (Qcj p 2 false) 128 true) (by decide +kernel)
 ·exact QdJ (fun p=>rfB p true false=Qcj (Qcj p 2 true) 128 false) (by decide +kernel)
 ·exact QdJ (fun p=>rfB p true true=Qcj (Qcj p 2 true) 128 true) (by decide +kernel)
theorem QGN {p n:Int} (hn:0≤n∧n < 256):lor .i64 (if n=0 then lor .i64 (Q3 .i64 p 130) 2 else Q3 .i64 p 130) (land .i64 n 128)=rfB p (decide (n=0)) (decide (n≥128)):=by
 rw [QAH n hn.1 hn.2]
 unfold rfB
 by_cases h1:n=0<;>by_cases h2:n≥128<;>simp [h1,h2]
theorem QwE {p n:Int} (hp:0≤p∧p < 256) (hn:0≤n∧n < 256):rfV p n (-1)=nzV p n:=by
 unfold rfV nzV
 simp only [QGN hn]
 rw [if_neg (by omega),Qys _ _ p hp.1 hp.2]
theorem QIt (x:Int):lor .i64 (Q3 .i64 x 1) 0=Q3 .i64 x 1:=by
 show IntKind.i64.wrap (((BitVec.ofInt 64 (Q3 .i64 x 1) ||| BitVec.ofInt 64 0).toNat:Nat):Int)=_
 have:BitVec.ofInt 64 (Q3 .i64 x 1) ||| BitVec.ofInt 64 0=BitVec.ofInt 64 (Q3 .i64 x 1):=by simp
 rw [this,Qab]
 have hb:Q3 .i64 x 1=IntKind.i64.wrap (((BitVec.ofInt 64 x &&& ~~~(BitVec.ofInt 64 1)).toNat:Nat):Int):=rfl
 generalize ((BitVec.ofInt 64 x &&& ~~~(BitVec.ofInt 64 1)).toNat:Nat)=m at hb
 rw [hb,QjY,QjY]
 unfold u64
 omega
theorem Qe9 {p n c:Int} (hp:0≤p∧p < 256) (hn:0≤n∧n < 256) (hc:c=0∨c=1):rfV p n c=QjZ p n c:=by
 unfold rfV QjZ
 simp only [QGN hn]
 rw [Qys _ _ p hp.1 hp.2]
 rcases hc with rfl |rfl
 ·rw [if_pos (by omega)]
  show lor .i64 (Q3 .i64 (nzV p n) 1) 0=Qcj (nzV p n) 1 (decide ((0:Int)=1))
  rw [QIt];rfl
 ·rw [if_pos (by omega)];rfl
theorem Qyt (p:Prop) [Decidable p]:Qf6 (Qaf (kt:=.bool) (vt:=.int .i64) (Qaj (kt:=.bool) (vt:=.int .i64) [] true (1:Int)) (decide p)) (dflt (.int .i64))=if p then (1:Int) else 0:=by
 by_cases h:p
 ·rw [decide_eq_true h,if_pos h];rfl
 ·rw [decide_eq_false h,if_neg h];rfl
def QDm (d a b c:Int):Prop:=(0≤a∧a < 256)∧(0≤b∧b < 256)∧QuH c
def QDn (d a b c:Int):Int:=if d=4 then (a+b+c)%256 else if d=5 then (a-b-(1-c))%256 else (a-b)%256
def QDo (d a b c:Int):Int:=if d=4 then (a+b+c)/256 else if d=5 then 1-Qjx (a-b-(1-c)) else 1-Qjx (a-b)
def QDp:Qk:=⟨[gi,gi,gi,gi],fun (d,a,b,c,_)=>(some (QDm d a b c),.tup [I1 (QDn d a b c),I1 (QDo d a b c)],[])⟩
theorem QAI:Qi Tryz.prog 221 QDp.spec:=by
 have hP:Qe Tryz.prog _:=Qa Qb0 (Qc (T:=tree))
 have hT:=tabs hP Qf
 refine QDp.good (fn:=Tryz.f221) hT hP Tryz.func221 (by kernel_rfl) rfl fun (d a b c:Int) hp=>?_
 obtain ⟨ha,hb,hc⟩:QDm d a b c:=hp _ rfl
 repeat' first |(refine Go.mk ?_;conv=>whnf) |refine Ql.go ?_ ?_ |refine Qm.go (fun _=>?_) (fun _=>?_) |refine Br.dec (fun _=>?_) (fun _=>?_) |refine Br.go (fun _=>?_) (fun _=>?_) |refine Qd hT hP mixed ?_ |refine Qb hT hP ?_
 all_goals first
  |exact of_decide_eq_true rfl
  |skip
 all_goals (try refine .mk [] [] _ R R R R R R (QdY ?_ ?_))
 all_goals
  unfold QuH at hc
  dsimp only [gi,Den] at *
  clear hp hT hP
 ·rename_i h;simp only [QDn,if_pos h,QjY,QsE];split<;>omega
 ·rename_i h;simp only [QDo,if_pos h,QjY,QAg];split<;>omega
 ·rename_i h1 h2;simp only [QDn,if_neg h1,if_pos h2,QjY];omega
 ·rename_i h1 h2
  have e:IntKind.i64.wrap (IntKind.i64.wrap (a-b)-IntKind.i64.wrap (1-c))=a-b-(1-c):=by simp only [QjY];omega
  simp only [QDo,if_neg h1,if_pos h2]
  rw [e,Qyt]
  unfold Qjx
  split<;>omega
 ·rename_i h1 h2;simp only [QDn,if_neg h1,if_neg h2,QjY];omega
 ·rename_i h1 h2
  simp only [QDo,if_neg h1,if_neg h2]
  rw [Qyt]
  unfold Qjx
  split<;>omega
def tnN (d a c:Int):Int:=if d=12 then a*2%256 else if d=14 then a*2%256+c else if d=13 then a/2 else a/2+128*c
def tnC (d a:Int):Int:=if d=12∨d=14 then a/128 else a%2
def QGO (a c:Int):Prop:=(0≤a∧a < 256)∧QuH c
def Qtn:Qk:=⟨[gi,gi,gi],fun (d,a,c,_)=>(some (QGO a c),.tup [I1 (tnN d a c),I1 (tnC d a)],[])⟩
theorem Qto:Qi Tryz.prog 222 Qtn.spec:=by
 have hP:Qe Tryz.prog _:=(Qc (T:=tree))
 have hT:=tabs hP Qf
 refine Qtn.good (fn:=Tryz.f222) hT hP Tryz.func222 (by kernel_rfl) rfl fun (d a c:Int) hp=>?_
 obtain ⟨ha,hc⟩:QGO a c:=hp _ rfl
 repeat' first |(refine Go.mk ?_;conv=>whnf) |refine Ql.go ?_ ?_ |refine Qm.go (fun _=>?_) (fun _=>?_) |refine Br.dec (fun _=>?_) (fun _=>?_) |refine Br.go (fun _=>?_) (fun _=>?_) |refine Qd hT hP mixed ?_ |refine Qb hT hP ?_
 all_goals first
  |exact of_decide_eq_true rfl
  |skip
 all_goals (try refine .mk [] [] _ R R R R R R (QdY ?_ ?_))
 all_goals
  unfold QuH at hc
  dsimp only [gi,Den] at *
  clear hp hT hP
 all_goals
  simp only [tnN,tnC,QsE,QAg]
  simp_all [QjY]
 all_goals omega
end Go.Proofs.YtofgbclopbmlcaaGreat

