/- Part 13 of the proof: StrHas MchRef Boards Machs MchNew Unp SaveBytes SvReads MchChecks MchRun MchErr MchCyc MchRan Fw32. No statement is handed in here; conditions: none. -/
import Derived.Test.YtofgbclopbmlcaaGreatG10
import Derived.Test.YtofgbclopbmlcaaGreatG12
import Derived.Test.YtofgbclopbmlcaaGreatG11
import Derived.Test.YtofgbclopbmlcaaGreatG9
import Derived.Carry
import Derived.OpenShut
namespace Go.Proofs.YtofgbclopbmlcaaGreat
open Go.Fw
set_option linter.unusedVariables false
set_option linter.unusedSimpArgs false
set_option linter.constructorNameAsVariable false
set_option maxRecDepth 100000
def QDS:Qk:=⟨[⟨false,.sl .str⟩,Qv4],fun (l,v,_)=>(some (List.length l≤4611686018427387904),I (Qby (Qs v) l),[])⟩
theorem QBc:Qi Tryz.prog 104 QDS.spec:=by
 have hP:Qe Tryz.prog _:=(Qc (T:=tree))
 have hT:=tabs hP Qf
 refine QDS.good (fn:=Tryz.f104) hT hP Tryz.func104 (by kernel_rfl) rfl fun (l:List ByteArray) (v:ByteArray) hq=>?_
 have hl:l.length≤4611686018427387904:=hq _ rfl
 clear hq
 repeat' first |(refine Go.mk ?_;conv=>whnf) |refine Ql.go ?_ ?_ |refine Qm.go (fun _=>?_) (fun _=>?_) |refine Br.dec (fun _=>?_) (fun _=>?_) |refine Br.go (fun _=>?_) (fun _=>?_) |refine Qd hT hP mixed ?_ |refine Qb hT hP ?_
 refine QO hT hP (A:=Unit) l.length (fun i _=>St.mk ((.cell (.ro .str l)) :: (.cell (.imm (.string v))) :: E5 ((I l.length) :: (I i) :: E10 [])) [])
  (fun k _=>Qdm (Qs v) (l.drop k) k=Qby (Qs v) l) () (Le.mk [] [] R R R ?_) rfl fun k _ hk hi=>?_
 ·repeat' first |exact trivial |exact ⟨rfl,rfl⟩ |refine And.intro ?_ ?_
 repeat' first |(refine Go.mk ?_;conv=>whnf) |refine Ql.go ?_ ?_ |refine Qm.go (fun _=>?_) (fun _=>?_) |refine Br.dec (fun _=>?_) (fun _=>?_) |refine Br.go (fun _=>?_) (fun _=>?_) |refine Qd hT hP mixed ?_ |refine Qb hT hP ?_
 all_goals clear hT hP
 ·rename_i g1
  have g1:(k:Int) < (l.length:Int):=g1
  show 0≤(k:Int)∧(k:Int) < (l.length:Int)
  omega
 ·rename_i g1 g2
  have g1:(k:Int) < (l.length:Int):=g1
  exact .mk [] [] _ R R R R R R (Qg (Qdg (dflt .str) (by omega) g2 hi))
 ·rename_i g1 g2
  have g1:(k:Int) < (l.length:Int):=g1
  have hp:¬ Qs v (l.getD k (dflt .str))=true:=by
   have g2:Qs v (l.getD k (dflt .str))=false:=g2
   rw [g2];decide
  apply Exists.intro
  apply Exists.intro ()
  refine And.intro (And.intro ?lt35 (And.intro ?ei35 ?inv35)) (Le.mk [] [] R R ?hh35 ?ht35)
  case hh35=>exact rfl
  case ht35=>repeat' first |exact trivial |exact ⟨rfl,rfl⟩ |refine And.intro ?_ ?_
  case lt35=>omega
  case ei35=>exact QW (by omega)
  exact Qa9 (dflt .str) (by omega) hp hi
 ·rename_i g1
  have g1:¬ (k:Int) < (l.length:Int):=g1
  exact .mk [] [] _ R R R R R R (Qg (Qcu (by omega) hi))
def QDT:Qk:=⟨[⟨false,.sl .str⟩,Qv4],fun (l,v,_)=>(some (List.length l≤4611686018427387904),.cell (bv (l.any (Qs v))),[])⟩
theorem QBd:Qi Tryz.prog 55 QDT.spec:=by
 have hP:Qe Tryz.prog _:=Qa QBc (Qc (T:=tree))
 have hT:=tabs hP Qf
 refine QDT.good (fn:=Tryz.f55) hT hP Tryz.func55 (by kernel_rfl) rfl fun (l:List ByteArray) (v:ByteArray) hq=>?_
 have hl:l.length≤4611686018427387904:=hq _ rfl
 clear hq
 repeat' first |(refine Go.mk ?_;conv=>whnf) |refine Ql.go ?_ ?_ |refine Qm.go (fun _=>?_) (fun _=>?_) |refine Br.dec (fun _=>?_) (fun _=>?_) |refine Br.go (fun _=>?_) (fun _=>?_) |refine Qd hT hP mixed ?_ |refine Qb hT hP ?_
 all_goals clear hT hP
 ·exact hl
 ·exact .mk [] [] _ R R R R R R (Qo (Qhp (Qs v) l))
theorem QDU {bc:List Cv} {ns:List ByteArray} {s:ByteArray} (hn:QcY bc=ns) (h:(!ns.any (Qs s))=false):Qs s QaE=true∨bc.any (nmB s)=true:=(Qiz bc s).1 (by rw [hn];simpa using h)
theorem QDV {bc:List Cv} {ns:List ByteArray} {s:ByteArray} (hn:QcY bc=ns) (h:(!ns.any (Qs s))=true):¬ (Qs s QaE=true∨bc.any (nmB s)=true):=fun hh=>by
 have:=(Qiz bc s).2 hh
 rw [hn] at this;rw [this] at h;cases h
set_option maxHeartbeats 4000000 in
theorem Qun:Qi Tryz.prog 14 QjQ.spec:=by
 have hP:Qe Tryz.prog _:=Qa QlE (Qa QBd (Qc (T:=tree)))
 have hT:=tabs hP Qf
 refine QjQ.good (fn:=Tryz.f14) hT hP Tryz.func14 (by kernel_rfl) rfl fun (b:Bd) (m:Mach) (l:List Inp) hq=>?_
 obtain ⟨hck,hln⟩:stP b m l:=hq _ rfl
 clear hq
 have hBE:QaU b m l=if Qah b≠0 then Qah b else if m.2.2.1.length≠b.2.2.1.length then 3
  else if m.1 < 0∨m.1 > 1099511627776 then 1 else if l.length > 500 then 2 else Q6 (Qqw b.2.2.1 l) (List.range l.length):=rfl
 have hcl:b.2.2.1.length*64≤140737488351232:=hck.1.1.1
 obtain ⟨bn,⟨un,ui,ur,uq,um⟩,bc,bw⟩:=b
 obtain ⟨tm,⟨r,op,at_,nmi⟩,ds,bd,ba,bdt⟩:=m
 have hcl:bc.length*64≤140737488351232:=hcl
 have hBE:QaU (bn,(un,ui,ur,uq,um),bc,bw) (tm,(r,op,at_,nmi),ds,bd,ba,bdt) l=if Qah (bn,(un,ui,ur,uq,um),bc,bw)≠0 then Qah (bn,(un,ui,ur,uq,um),bc,bw) else if ds.length≠bc.length then 3
  else if tm < 0∨tm > 1099511627776 then 1 else if l.length > 500 then 2 else Q6 (Qqw bc l) (List.range l.length):=hBE
 repeat' first |(refine Go.mk ?_;conv=>whnf) |refine Ql.go ?_ ?_ |refine Qm.go (fun _=>?_) (fun _=>?_) |refine Br.dec (fun _=>?_) (fun _=>?_) |refine Br.go (fun _=>?_) (fun _=>?_) |refine Qd hT hP mixed ?_ |refine Qb hT hP ?_
 all_goals (try dsimp only [Qj] at *)
 ·exact hck
 ·rename_i g
  have g:=Qcl (x:=Qah (bn,(un,ui,ur,uq,um),bc,bw)) g
  refine .mk [] [] _ R R R R R R (Qg ?_)
  rw [hBE,if_pos g]
 ·rename_i g0 g
  have g0:=Qav (x:=Qah (bn,(un,ui,ur,uq,um),bc,bw)) g0
  have g:=neN g
  refine .mk [] [] _ R R R R R R (Qg ?_)
  rw [hBE,if_neg (fun h=>h g0),if_pos g]
 ·rename_i g0 g1 g2
  have g0:=Qav (x:=Qah (bn,(un,ui,ur,uq,um),bc,bw)) g0
  have g1:=eqN g1
  have g2:tm < 0:=g2
  refine .mk [] [] _ R R R R R R (Qg ?_)
  rw [hBE,if_neg (fun h=>h g0),if_neg (fun h=>h g1),if_pos (.inl g2)]
 ·rename_i g0 g1 g2 g3
  have g0:=Qav (x:=Qah (bn,(un,ui,ur,uq,um),bc,bw)) g0
  have g1:=eqN g1
  have g3:tm > 1099511627776:=g3
  refine .mk [] [] _ R R R R R R (Qg ?_)
  rw [hBE,if_neg (fun h=>h g0),if_neg (fun h=>h g1),if_pos (.inr g3)]
 ·rename_i g0 g1 g2 g3 g4
  have g0:=Qav (x:=Qah (bn,(un,ui,ur,uq,um),bc,bw)) g0
  have g1:=eqN g1
  have g2:¬ tm < 0:=g2
  have g3:¬ tm > 1099511627776:=g3
  have g4:(l.length:Int) > 500:=g4
  refine .mk [] [] _ R R R R R R (Qg ?_)
  rw [hBE,if_neg (fun h=>h g0),if_neg (fun h=>h g1),if_neg (by omega),if_pos (by omega)]
 rename_i g0 g1 g2 g3 g4
 have g0:=Qav (x:=Qah (bn,(un,ui,ur,uq,um),bc,bw)) g0
 have g1:=eqN g1
 have g2:¬ tm < 0:=g2
 have g3:¬ tm > 1099511627776:=g3
 have g4:¬ (l.length:Int) > 500:=g4
 rw [if_neg (fun h=>h g0),if_neg (fun h=>h g1),if_neg (by omega),if_neg (by omega)] at hBE
 refine QO hT hP (A:=List ByteArray) bc.length (fun i o=>St.mk (E2 ((.cell (.ro QL l)) :: E5 ((.cell (.own 0)) :: E20 (E5 (E3 (E1 ((.cell (.ro Qh bc)) :: (I bc.length) :: (I i) :: E20 (E10 (E5 [])))))))))
  [some (.arr .str o)])
  (fun k o=>o=QcY (bc.take k)) [QaE] (Le.mk [] [2] R R ?_ ?_) rfl fun k o hk hi=>?_
 ·exact rfl
 ·repeat' first |exact trivial |exact ⟨rfl,rfl⟩ |refine And.intro ?_ ?_
 repeat' first |(refine Go.mk ?_;conv=>whnf) |refine Ql.go ?_ ?_ |refine Qm.go (fun _=>?_) (fun _=>?_) |refine Br.dec (fun _=>?_) (fun _=>?_) |refine Br.go (fun _=>?_) (fun _=>?_) |refine Qd hT hP mixed ?_ |refine Qb hT hP ?_
 all_goals (try dsimp only [Qj] at *)
 ·rename_i g
  have g:(k:Int) < (bc.length:Int):=g
  show 0≤(k:Int)∧(k:Int) < (bc.length:Int)
  omega
 ·rename_i g
  have g:(k:Int) < (bc.length:Int):=g
  have hz:o.length≤bc.length+1:=by rw [hi,QcY,List.length_cons,List.length_map,List.length_take];omega
  show (o.length+1)*16≤140737488355328
  omega
 ·rename_i g
  have g:(k:Int) < (bc.length:Int):=g
  apply Exists.intro
  apply Exists.intro _
  refine And.intro (And.intro ?lt86 (And.intro ?ei86 ?inv86)) (Le.mk [] [3] R R ?hh86 ?ht86)
  case hh86=>exact rfl
  case ht86=>repeat' first |exact trivial |exact ⟨rfl,rfl⟩ |refine And.intro ?_ ?_
  case lt86=>omega
  case ei86=>exact QW (by omega)
  rw [hi]
  exact (QmS (show k < bc.length by omega)).symm
 rename_i gg
 have gg:¬ (k:Int) < (bc.length:Int):=gg
 have e:o=QcY bc:=by rw [hi,List.take_of_length_le (by omega)]
 subst e
 clear hi hk gg
 have hnl:(QcY bc).length≤4611686018427387904:=by rw [QcY,List.length_cons,List.length_map];omega
 generalize hn:QcY bc=ns at *
 refine QO hT hP (A:=Unit) l.length (fun i _=>St.mk (E2 ((.cell (.ro QL l)) :: E5 ((.cell (.own 0)) :: E40 (E1 ((.cell (.ro QL l)) :: (I l.length) :: (I i) :: E20 (E3 []))))))
  [some (.arr .str ns)])
  (fun k _=>Q6 (Qqw bc l) ((List.range l.length).drop k)=Q6 (Qqw bc l) (List.range l.length)) () (Le.mk [] [0] R R ?_ ?_) rfl fun k _ hk hi=>?_
 ·exact rfl
 ·repeat' first |exact trivial |exact ⟨rfl,rfl⟩ |refine And.intro ?_ ?_
 have hs:=fun h=>QhD (f:=Qqw bc l) (k:=k) h hi
 have hp:0 < k→(IntKind.i64.wrap ((k:Int)-1))=((k-1:Nat):Int):=fun h=>by rw [w64 (by omega) (by omega)];omega
 have hA:Qqw bc l k=if 0 < k∧(l.getD k (dflt QL)).1 < (l.getD (k-1) (dflt QL)).1 then 9
  else if Qs (l.getD k (dflt QL)).2.1 QaE=true∨bc.any (nmB (l.getD k (dflt QL)).2.1)=true then 0 else 4:=rfl
 clear g0 g1 g2 g3 hck
 repeat' first |(refine Go.mk ?_;conv=>whnf) |refine Ql.go ?_ ?_ |refine Qm.go (fun _=>?_) (fun _=>?_) |refine Br.dec (fun _=>?_) (fun _=>?_) |refine Br.go (fun _=>?_) (fun _=>?_) |refine Qd hT hP mixed ?_ |refine Qb hT hP ?_
 all_goals (try dsimp only [Qj] at *)
 all_goals clear hT hP
 ·rename_i g
  have g:(k:Int) < (l.length:Int):=by assumption
  show 0≤(k:Int)∧(k:Int) < (l.length:Int)
  omega
 ·rename_i g g2
  have g:(k:Int) < (l.length:Int):=by assumption
  have g2:(k:Int) > 0:=by assumption
  show 0≤IntKind.i64.wrap ((k:Int)-1)∧IntKind.i64.wrap ((k:Int)-1) < (l.length:Int)
  rw [hp (by omega)];omega
 ·rename_i g g2 g3
  have g:(k:Int) < (l.length:Int):=g
  have g2:(k:Int) > 0:=g2
  have g3:(l.getD (IntKind.i64.wrap ((k:Int)-1)).toNat (dflt QL)).1 > (l.getD k (dflt QL)).1:=g3
  rw [hp (by omega)] at g3
  have g3:(l.getD k (dflt QL)).1 < (l.getD (k-1) (dflt QL)).1:=g3
  rw [if_pos ⟨by omega,g3⟩] at hA
  refine .mk [] [] _ R R R R R R (Qg ?_)
  rw [hBE,← (hs (by omega)).1 (by rw [hA];decide),hA]
 ·exact hnl
 ·rename_i g g2 g3 g5
  have g:(k:Int) < (l.length:Int):=g
  have g2:(k:Int) > 0:=g2
  have g3:¬ (l.getD (IntKind.i64.wrap ((k:Int)-1)).toNat (dflt QL)).1 > (l.getD k (dflt QL)).1:=g3
  rw [hp (by omega)] at g3
  have g3:¬ (l.getD k (dflt QL)).1 < (l.getD (k-1) (dflt QL)).1:=g3
  have g5:(!ns.any (Qs (l.getD k (dflt QL)).2.1))=true:=g5
  rw [if_neg (fun h=>g3 h.2),if_neg (QDV hn g5)] at hA
  refine .mk [] [] _ R R R R R R (Qg ?_)
  rw [hBE,← (hs (by omega)).1 (by rw [hA];decide),hA]
 ·rename_i g g2 g3 g5
  have g:(k:Int) < (l.length:Int):=g
  have g2:(k:Int) > 0:=g2
  have g3:¬ (l.getD (IntKind.i64.wrap ((k:Int)-1)).toNat (dflt QL)).1 > (l.getD k (dflt QL)).1:=g3
  rw [hp (by omega)] at g3
  have g3:¬ (l.getD k (dflt QL)).1 < (l.getD (k-1) (dflt QL)).1:=g3
  have g5:(!ns.any (Qs (l.getD k (dflt QL)).2.1))=false:=g5
  rw [if_neg (fun h=>g3 h.2),if_pos (QDU hn g5)] at hA
  apply Exists.intro
  apply Exists.intro ()
  refine And.intro (And.intro ?lt152 (And.intro ?ei152 ?inv152)) (Le.mk [] [0] R R ?hh152 ?ht152)
  case hh152=>exact rfl
  case ht152=>repeat' first |exact trivial |exact ⟨rfl,rfl⟩ |refine And.intro ?_ ?_
  case lt152=>omega
  case ei152=>exact QW (by omega)
  exact (hs (by omega)).2 hA
 ·exact hnl
 ·rename_i g g2 g5
  have g:(k:Int) < (l.length:Int):=g
  have g2:¬ (k:Int) > 0:=g2
  have g5:(!ns.any (Qs (l.getD k (dflt QL)).2.1))=true:=g5
  rw [if_neg (fun h=>by have:=h.1;omega),if_neg (QDV hn g5)] at hA
  refine .mk [] [] _ R R R R R R (Qg ?_)
  rw [hBE,← (hs (by omega)).1 (by rw [hA];decide),hA]
 ·rename_i g g2 g5
  have g:(k:Int) < (l.length:Int):=g
  have g2:¬ (k:Int) > 0:=g2
  have g5:(!ns.any (Qs (l.getD k (dflt QL)).2.1))=false:=g5
  rw [if_neg (fun h=>by have:=h.1;omega),if_pos (QDU hn g5)] at hA
  apply Exists.intro
  apply Exists.intro ()
  refine And.intro (And.intro ?lt173 (And.intro ?ei173 ?inv173)) (Le.mk [] [0] R R ?hh173 ?ht173)
  case hh173=>exact rfl
  case ht173=>repeat' first |exact trivial |exact ⟨rfl,rfl⟩ |refine And.intro ?_ ?_
  case lt173=>omega
  case ei173=>exact QW (by omega)
  exact (hs (by omega)).2 hA
 ·rename_i g
  have g:¬ (k:Int) < (l.length:Int):=g
  refine .mk [] [] _ R R R R R R (Qg ?_)
  rw [hBE,Qiy (by omega) hi]
def Qxn:Bd:=(⟨#[98]⟩,(⟨#[99]⟩,[],[],[],[]),[(⟨#[114,97,109]⟩,0,8,4,[])],[])
def Qo3:Qk:=⟨[gBd],fun (b,_)=>(some (b=Qxn),I 0,[])⟩
theorem Qqx:Qi Tryz.prog 53 Qo3.spec:=by
 have hP:Qe Tryz.prog _:=Qa Qe6 (Qa Qtd (Qa Qlc (Qc (T:=tree))))
 have hT:=tabs hP Qf
 refine Qo3.good (fn:=Tryz.f53) hT hP Tryz.func53 (by kernel_rfl) rfl fun (b:Bd) hq=>?_
 obtain rfl:b=Qxn:=hq _ rfl
 clear hq
 repeat' first |(refine Go.mk ?_;conv=>whnf) |refine Ql.go ?_ ?_ |refine Qm.go (fun _=>?_) (fun _=>?_) |refine Br.dec (fun _=>?_) (fun _=>?_) |refine Br.go (fun _=>?_) (fun _=>?_) |refine Qd hT hP mixed ?_ |refine Qb hT hP ?_
 ·exact rfl
 refine QZ 2 ?_
 repeat' first |(refine Go.mk ?_;conv=>whnf) |refine Ql.go ?_ ?_ |refine Qm.go (fun _=>?_) (fun _=>?_) |refine Br.dec (fun _=>?_) (fun _=>?_) |refine Br.go (fun _=>?_) (fun _=>?_) |refine Qd hT hP mixed ?_ |refine Qb hT hP ?_
 ·exact of_decide_eq_true rfl
 ·exact ⟨⟨by decide,by decide⟩,⟨by decide,by decide⟩,by decide⟩
 ·rename_i h
  exfalso
  have h:(QX (⟨#[114,97,109]⟩,0,8,4,[]) != 0)=true:=h
  revert h;decide +kernel
 ·exact of_decide_eq_true rfl
 rename_i h
 clear h
 refine QZ 1 ?_
 repeat' first |(refine Go.mk ?_;conv=>whnf) |refine Ql.go ?_ ?_ |refine Qm.go (fun _=>?_) (fun _=>?_) |refine Br.dec (fun _=>?_) (fun _=>?_) |refine Br.go (fun _=>?_) (fun _=>?_) |refine Qd hT hP mixed ?_ |refine Qb hT hP ?_
 refine QZ 1 ?_
 repeat' first |(refine Go.mk ?_;conv=>whnf) |refine Ql.go ?_ ?_ |refine Qm.go (fun _=>?_) (fun _=>?_) |refine Br.dec (fun _=>?_) (fun _=>?_) |refine Br.go (fun _=>?_) (fun _=>?_) |refine Qd hT hP mixed ?_ |refine Qb hT hP ?_
 all_goals first
  |exact of_decide_eq_true rfl
  |exact .mk [] [] _ R R R R R R R
  |skip
def QDW:Qk:=⟨[],fun _=>(none,.agg [.run .i64 9 [0,0,0,0,4,0,0,0,0],iv .i64 258,iv .i64 0,bv false],[])⟩
theorem QBe:Qi Tryz.prog 59 QDW.spec:=by
 have hP:Qe Tryz.prog _:=(Qc (T:=tree))
 have hT:=tabs hP Qf
 refine QDW.good (fn:=Tryz.f59) hT hP Tryz.func59 (by kernel_rfl) rfl fun _=>?_
 repeat' first |(refine Go.mk ?_;conv=>whnf) |refine Ql.go ?_ ?_ |refine Qm.go (fun _=>?_) (fun _=>?_) |refine Br.dec (fun _=>?_) (fun _=>?_) |refine Br.go (fun _=>?_) (fun _=>?_) |refine Qd hT hP mixed ?_ |refine Qb hT hP ?_
 all_goals first
  |exact of_decide_eq_true rfl
  |exact .mk [] [] _ R R R R R R R
  |skip
def QBf:Cv:=(⟨#[114,97,109]⟩,0,8,4,[])
def QBz:Mach:=(0,([0,0,0,0,4,0,0,0,0],258,0,false),[QdK QBf],0,0,0)
def QGe (m:Mach):V1:=.agg [iv .i64 m.1,.run .i64 9 m.2.1.1,iv .i64 m.2.1.2.1,iv .i64 m.2.1.2.2.1,bv m.2.1.2.2.2,.ro Qp m.2.2.1,iv .i64 m.2.2.2.1,iv .i64 m.2.2.2.2.1,iv .i64 m.2.2.2.2.2]
def QyS:Qk:=⟨[gBd],fun (b,_)=>(some (b=Qxn),.tup [QGe QBz,I1 0],[])⟩
theorem Quo:cP QBf:=⟨⟨by decide,by decide⟩,⟨by decide,by decide⟩,by decide⟩
theorem Qxo:Qi Tryz.prog 17 QyS.spec:=by
 have hP:Qe Tryz.prog _:=Qa Qqx (Qa QBe (Qa QAh (Qc (T:=tree))))
 have hT:=tabs hP Qf
 refine QyS.good (fn:=Tryz.f17) hT hP Tryz.func17 (by kernel_rfl) rfl fun (b:Bd) hq=>?_
 obtain rfl:b=Qxn:=hq _ rfl
 clear hq
 repeat' first |(refine Go.mk ?_;conv=>whnf) |refine Ql.go ?_ ?_ |refine Qm.go (fun _=>?_) (fun _=>?_) |refine Br.dec (fun _=>?_) (fun _=>?_) |refine Br.go (fun _=>?_) (fun _=>?_) |refine Qd hT hP mixed ?_ |refine Qb hT hP ?_
 ·exact rfl
 refine QO hT hP (A:=List Dv) 1 (fun i o=>St.mk (E2 ((.cell (.ptr 0 0)) :: E2 ((.cell (.ptr 1 0)) :: E10 (E1 ((.cell (.ro Qh [QBf])) :: (I 1) :: (I i) :: E10 (E2 []))))))
  [some (.var [.imm (.int .i64 0),.run .i64 9 (List.replicate 9 0),.imm (.int .i64 0),.imm (.int .i64 0),.imm (.bool false),.imm (.slice none 0 0),.imm (.int .i64 0),.imm (.int .i64 0),.imm (.int .i64 0)]),some (.var [.imm (.int .i64 0),.run .i64 9 [0,0,0,0,4,0,0,0,0],.imm (.int .i64 258),.imm (.int .i64 0),.imm (.bool false),.own 2,.imm (.int .i64 0),.imm (.int .i64 0),.imm (.int .i64 0)]),some (.arr Qp o)])
  (fun k o=>o=[QdK QBf].take k) [] (.trans (Le.nilH 2 Qp _ _ R R R) (Le.mk [] [1,2,3] R R ?_ ?_)) rfl fun k o hk hi=>?_
 ·exact rfl
 ·repeat' first |exact trivial |exact ⟨rfl,rfl⟩ |refine And.intro ?_ ?_
 repeat' first |(refine Go.mk ?_;conv=>whnf) |refine Ql.go ?_ ?_ |refine Qm.go (fun _=>?_) (fun _=>?_) |refine Br.dec (fun _=>?_) (fun _=>?_) |refine Br.go (fun _=>?_) (fun _=>?_) |refine Qd hT hP mixed ?_ |refine Qb hT hP ?_
 all_goals (try dsimp only [Qj] at *)
 all_goals clear hT hP
 ·rename_i g
  have g:(k:Int) < 1:=g
  show 0≤(k:Int)∧(k:Int) < 1
  omega
 ·rename_i g
  have g:(k:Int) < 1:=g
  obtain rfl:k=0:=by omega
  exact Quo
 ·rename_i g
  have g:(k:Int) < 1:=g
  have hl:o.length≤1:=by rw [hi,List.length_take];exact Nat.min_le_right _ _
  show (o.length+1)*48≤140737488355328
  omega
 ·rename_i g
  have g:(k:Int) < 1:=g
  obtain rfl:k=0:=by omega
  obtain rfl:o=[]:=hi
  apply Exists.intro
  apply Exists.intro _
  refine And.intro (And.intro ?lt58 (And.intro ?ei58 ?inv58)) (Le.mk [] [0,1,7] R R ?hh58 ?ht58)
  case hh58=>exact rfl
  case ht58=>repeat' first |exact trivial |exact ⟨rfl,rfl⟩ |refine And.intro ?_ ?_
  case lt58=>omega
  case ei58=>exact QW (by omega)
  rfl
 ·rename_i g
  have g:¬ (k:Int) < 1:=g
  obtain rfl:k=1:=by omega
  obtain rfl:o=[QdK QBf]:=hi
  exact .mk [2] [] _ R R R R R R R
def Qup (d:Dv):Bool:=decide (List.length d.1≤100)&&(decide (List.length d.2≤100)&&d.2.all fun x=>decide (0≤x∧x < 256))
theorem Qo4 {d:Dv} (h:Qup d=true):(List.length d.1≤100∧List.length d.2≤100)∧u8s d.2:=by
 unfold Qup at h
 simp only [Bool.and_eq_true,decide_eq_true_eq,List.all_eq_true] at h
 exact ⟨⟨h.1,h.2.1⟩,fun x hx=>h.2.2 x hx⟩
theorem QyT {m:Mach} (h:m.2.2.1.length≤10∧m.2.2.1.all Qup=true):Qqa Qxn m:=by
 refine ⟨⟨by decide,fun c hc=>?_⟩,⟨by have:=h.1;omega,fun d hd=>?_⟩,fun d hd=>?_⟩
 ·have hc:c ∈ [QBf]:=hc
  rw [List.mem_singleton] at hc
  subst hc;exact Quo
 ·obtain ⟨⟨h1,h2⟩,h3⟩:=Qo4 (List.all_eq_true.1 h.2 d hd)
  omega
 ·obtain ⟨⟨h1,h2⟩,h3⟩:=Qo4 (List.all_eq_true.1 h.2 d hd)
  exact ⟨by omega,h3⟩
theorem QDX:QBz.2.2.1.length≤10∧QBz.2.2.1.all Qup=true:=by decide +kernel
theorem QBg:(QhV Qxn QBz 9 77).2.2.1.length≤10∧(QhV Qxn QBz 9 77).2.2.1.all Qup=true:=by decide +kernel
theorem Qxp:(bif true then (QmK Qxn (QhV Qxn QBz 9 77) 9 == 77) else false)=true:=by decide +kernel
def Qo5:Qk:=⟨[],fun _=>(none,.agg [.imm (.string ⟨#[98]⟩),.imm (.string ⟨#[99]⟩),.imm (.slice none 0 0),.imm (.slice none 0 0),.imm (.slice none 0 0),.imm (.slice none 0 0),.ro Qh [QBf],.imm (.slice none 0 0)],[])⟩
theorem Qqy:Qi Tryz.prog 44 Qo5.spec:=by
 have hP:Qe Tryz.prog _:=(Qc (T:=tree))
 have hT:=tabs hP Qf
 refine Qo5.good (fn:=Tryz.f44) hT hP Tryz.func44 (by kernel_rfl) rfl fun _=>?_
 repeat' first |(refine Go.mk ?_;conv=>whnf) |refine Ql.go ?_ ?_ |refine Qm.go (fun _=>?_) (fun _=>?_) |refine Br.dec (fun _=>?_) (fun _=>?_) |refine Br.go (fun _=>?_) (fun _=>?_) |refine Qd hT hP mixed ?_ |refine Qb hT hP ?_
 all_goals first
  |exact of_decide_eq_true rfl
  |exact .mk [1] [] _ R R R R R R R
  |skip
def QlF:Qk:=⟨[],fun _=>(none,.cell (bv true),[])⟩
theorem QmT:Qi Tryz.prog 10 QlF.spec:=by
 have hP:Qe Tryz.prog _:=Qa Qqy (Qa Qxo (Qa QwX (Qa QwW (Qc (T:=tree)))))
 have hT:=tabs hP Qf
 refine QlF.good (fn:=Tryz.f10) hT hP Tryz.func10 (by kernel_rfl) rfl fun _=>?_
 repeat' first |(refine Go.mk ?_;conv=>whnf) |refine Ql.go ?_ ?_ |refine Qm.go (fun _=>?_) (fun _=>?_) |refine Br.dec (fun _=>?_) (fun _=>?_) |refine Br.go (fun _=>?_) (fun _=>?_) |refine Qd hT hP mixed ?_ |refine Qb hT hP ?_
 all_goals (try dsimp only [Qj] at *)
 all_goals clear hT hP
 ·exact rfl
 ·exact QyT QDX
 ·exact QyT QBg
 ·exact .mk [] [] _ R R R R R R (Qo Qxp)
def QIE (b:Bd):Mach:=(0,([0,0,0,0,4,0,0,0,0],258,0,false),b.2.2.1.map QdK,0,0,0)
def newM (b:Bd):Mach:=if Qah b=0 then QIE b else Qh0
theorem QGf:Qci Qh0:=by
 refine ⟨fun n hn=>?_,fun d hd=>(by cases hd),rfl,by decide⟩
 have hn:n ∈ [0,0,0,0,0,0,0,0,0,0,0,0,(0:Int),0,0,0,0]:=hn
 simp at hn
 unfold Qao
 omega
theorem QyU {α:Type} {f:α→Nat} {B:Nat}:∀ {l:List α},(∀ x ∈ l,f x≤B)→(l.map f).sum≤l.length*B
 | [],_=>Nat.zero_le _
 |x :: r,h=>by
   have h1:=h x (List.mem_cons_self ..)
   have h2:=QyU (l:=r) fun y hy=>h y (List.mem_cons_of_mem _ hy)
   rw [List.map_cons,List.sum_cons,List.length_cons,Nat.add_mul]
   omega
theorem QjR {b:Bd} (h:Qah b=0):b.2.2.1.length≤12∧QaT b.2.2.1=0:=by
 unfold Qah at h
 split at h
 ·cases h
 ·split at h
  ·rename_i h1;exact absurd h h1
  ·split at h
   ·cases h
   ·rename_i h2
    split at h
    ·rename_i h3;exact absurd h h3
    ·rename_i h3
     exact ⟨by omega,by omega⟩
structure QIH (b:Bd) (m:Mach) (l:List Inp):Prop where
 s:stP b m l
 l:QA5 b m
 c:∀ c ∈ b.2.2.1,u8s c.2.2.2.2
theorem QdO (b:Bd) (l:List Inp):∀ (k:Nat) (s:Mach × List Inp),Qel b l (k+1) s=((Qz b (Qel b l k s).1 l).1,(Qel b l k s).2++(Qz b (Qel b l k s).1 l).2)
 |0,s=>rfl
 |k+1,s=>by
   show Qel b l (k+1) ((Qz b s.1 l).1,s.2++(Qz b s.1 l).2)=_
   rw [QdO b l k];rfl
def QjS (b:Bd) (m:Mach) (l:List Inp):Mach × List Inp:=if m.2.2.1.length=b.2.2.1.length then Qz b m l else (m,[])
def QfQ (m:Mach) (i:Nat):V1:=.agg [iv .i64 m.1,.run .i64 9 m.2.1.1,iv .i64 m.2.1.2.1,iv .i64 m.2.1.2.2.1,bv m.2.1.2.2.2,.own i,iv .i64 m.2.2.2.1,iv .i64 m.2.2.2.2.1,iv .i64 m.2.2.2.2.2]
def QGg (b:Bd) (m:Mach) (l:List Inp):Prop:=(QuI m.2.2.1∧l.length≤4611686018427387904∧bdP b)∧Qck b.2.1 m.2.1∧(b.2.2.1.length=m.2.2.1.length→∃ L,MOk L b m)
def QDY:Qk:=⟨[gBd,gM,gIn],fun (b,m,l,_)=>(some (QGg b m l),.tup [QfQ (QjS b m l).1 0,.c (.own 1)],[.arr Qp (QjS b m l).1.2.2.1,.arr QL (QjS b m l).2])⟩
set_option maxHeartbeats 4000000 in
theorem Quq:Qi Tryz.prog 22 QDY.spec:=by
 have hP:Qe Tryz.prog _:=Qa QjG (Qa Qo0 (Qc (T:=tree)))
 have hT:=tabs hP Qf
 refine QDY.good (fn:=Tryz.f22) hT hP Tryz.func22 (by kernel_rfl) rfl fun (b:Bd) (m:Mach) (l:List Inp) hq=>?_
 obtain ⟨⟨h1,h2,h3⟩,h4,h5⟩:QGg b m l:=hq _ rfl
 clear hq
 have hE1:¬ m.2.2.1.length=b.2.2.1.length→QjS b m l=(m,[]):=fun h=>if_neg h
 have hE2:m.2.2.1.length=b.2.2.1.length→QjS b m l=Qz b m l:=fun h=>if_pos h
 obtain ⟨bn,⟨un,ui,ur,uq,um⟩,bc,bw⟩:=b
 obtain ⟨tm,⟨r,op,at_,nmi⟩,ds,bd,ba,bdt⟩:=m
 repeat' first |(refine Go.mk ?_;conv=>whnf) |refine Ql.go ?_ ?_ |refine Qm.go (fun _=>?_) (fun _=>?_) |refine Br.dec (fun _=>?_) (fun _=>?_) |refine Br.go (fun _=>?_) (fun _=>?_) |refine Qd hT hP mixed ?_ |refine Qb hT hP ?_
 all_goals (try dsimp only [Qj] at *)
 all_goals clear hT hP
 ·exact h1
 ·rename_i g
  have g:=neN g
  have e:=hE1 g
  have e:QjS (bn,(un,ui,ur,uq,um),bc,bw) (tm,(r,op,at_,nmi),ds,bd,ba,bdt) l=((tm,(r,op,at_,nmi),ds,bd,ba,bdt),[]):=e
  exact .le (Le.nil 7 QL rfl) (.mk [] [3,4] _ R R R R R (congrArg (fun z:Mach × List Inp=>[some (Blk.arr Qp z.1.2.2.1),some (Blk.arr QL z.2)]) e.symm) (congrArg (fun z:Mach × List Inp=>AV.tup [QfQ z.1 0,.c (.own 1)]) e.symm))
 ·rename_i g
  have g:=eqN g
  exact ⟨⟨⟨h2,h3⟩,h4⟩,h5 g.symm⟩
 ·rename_i g
  have g:=eqN g
  have e:QjS (bn,(un,ui,ur,uq,um),bc,bw) (tm,(r,op,at_,nmi),ds,bd,ba,bdt) l=Qz (bn,(un,ui,ur,uq,um),bc,bw) (tm,(r,op,at_,nmi),ds,bd,ba,bdt) l:=hE2 g
  exact .mk [] [3,4] _ R R R R R (congrArg (fun z:Mach × List Inp=>[some (Blk.arr Qp z.1.2.2.1),some (Blk.arr QL z.2)]) e.symm) (congrArg (fun z:Mach × List Inp=>AV.tup [QfQ z.1 0,.c (.own 1)]) e.symm)
def nxS (b:Bd) (l:List Inp) (m:Mach) (o:List Inp):Mach × List Inp:=((Qz b m l).1,o++(Qz b m l).2)
theorem QjT {p q:Mach × List Inp} {e e':Int} (h:p=q) (h2:e=e'):AV.tup [QfQ p.1 0,.c (.own 1),I1 e]=AV.tup [QfQ q.1 0,.c (.own 1),I1 e']:=by rw [h,h2]
def QhE (b:Bd) (m:Mach) (l:List Inp) (n:Int):Mach × List Inp:=if QcX b m l n=0 then Qel b l n.toNat (m,[]) else (Qh0,[])
def QDZ (b:Bd) (m:Mach) (l:List Inp):Prop:=(QuI m.2.2.1∧l.length≤4611686018427387904∧QBy b)∧(QcX b m l 0=0→Qck b.2.1 m.2.1)∧(QcX b m l 0=0→∃ L,MOk L b m)
def QD0:Qk:=⟨[gBd,gM,gIn,gi],fun (b,m,l,n,_)=>(some (QDZ b m l),.tup [QfQ (QhE b m l n).1 0,.c (.own 1),I1 (QcX b m l n)],[.arr Qp (QhE b m l n).1.2.2.1,.arr QL (QhE b m l n).2])⟩
theorem QhF {L:Nat} {b:Bd} {l:List Inp} {m:Mach} (h:MOk L b m) (ht:Qck b.2.1 m.2.1):∀ k,MOk L b (Qel b l k (m,[])).1∧Qck b.2.1 (Qel b l k (m,[])).1.2.1∧(Qel b l k (m,[])).2.length≤k*b.2.2.1.length
 |0=>⟨h,ht,Nat.zero_le _⟩
 |k+1=>by
   obtain ⟨h1,h2,h3⟩:=QhF h ht k
   rw [QdO]
   refine ⟨Qw3 l h1,⟨h2.1,h2.2.1,Qls _ _ _⟩,?_⟩
   have h4:(Qz b (Qel b l k (m,[])).1 l).2.length≤b.2.2.1.length:=Qbm _ _ _ _
   rw [List.length_append,Nat.add_mul];omega
set_option maxHeartbeats 4000000 in
theorem Qur:Qi Tryz.prog 28 QD0.spec:=by
 have hP:Qe Tryz.prog _:=Qa Qum (Qa QjG (Qa Qo0 (Qc (T:=tree))))
 have hT:=tabs hP Qf
 refine QD0.good (fn:=Tryz.f28) hT hP Tryz.func28 (by kernel_rfl) rfl fun (b:Bd) (m:Mach) (l:List Inp) (n:Int) hq=>?_
 obtain ⟨⟨h1,h2,h3⟩,h4,h5⟩:QDZ b m l:=hq _ rfl
 clear hq
 have hE:QcX b m l n=if QaU b m l≠0 then QaU b m l else if n < 0 then 1 else if n > 100000 then 2 else 0:=rfl
 have hM1:QcX b m l n≠0→QhE b m l n=(Qh0,[]):=fun h=>if_neg h
 have hM2:QcX b m l n=0→QhE b m l n=Qel b l n.toNat (m,[]):=fun h=>if_pos h
 have hE0:QaU b m l=0→QcX b m l 0=0:=fun h=>by
  show (if QaU b m l≠0 then QaU b m l else if (0:Int) < 0 then 1 else if (0:Int) > 100000 then 2 else 0)=0
  rw [if_neg (fun hh=>hh h)];rfl
 have hS:=fun h=>Qfg (b:=b) (m:=m) (l:=l) h
 have h6:=h3.1
 obtain ⟨bn,⟨un,ui,ur,uq,um⟩,bc,bw⟩:=b
 obtain ⟨tm,⟨r,op,at_,nmi⟩,ds,bd,ba,bdt⟩:=m
 repeat' first |(refine Go.mk ?_;conv=>whnf) |refine Ql.go ?_ ?_ |refine Qm.go (fun _=>?_) (fun _=>?_) |refine Br.dec (fun _=>?_) (fun _=>?_) |refine Br.go (fun _=>?_) (fun _=>?_) |refine Qd hT hP mixed ?_ |refine Qb hT hP ?_
 all_goals (try dsimp only [Qj] at *)
 ·exact ⟨h3,h2⟩
 ·rename_i g
  have g:=Qcl (x:=QaU (bn,(un,ui,ur,uq,um),bc,bw) (tm,(r,op,at_,nmi),ds,bd,ba,bdt) l) g
  have e:QcX (bn,(un,ui,ur,uq,um),bc,bw) (tm,(r,op,at_,nmi),ds,bd,ba,bdt) l n=QaU (bn,(un,ui,ur,uq,um),bc,bw) (tm,(r,op,at_,nmi),ds,bd,ba,bdt) l:=by rw [hE];exact if_pos g
  have e2:=hM1 (by rw [e];exact g)
  exact .le (.trans (Le.nilH 2 Qp _ _ R R R) (Le.nil 9 QL rfl)) (.mk [] [3,4] _ R R R R R (congrArg (fun z:Mach × List Inp=>[some (Blk.arr Qp z.1.2.2.1),some (Blk.arr QL z.2)]) e2.symm) (QjT (p:=(Qh0,[])) e2.symm e.symm))
 ·rename_i g0 g
  have g0:=Qav (x:=QaU (bn,(un,ui,ur,uq,um),bc,bw) (tm,(r,op,at_,nmi),ds,bd,ba,bdt) l) g0
  have g:n < 0:=g
  have e:QcX (bn,(un,ui,ur,uq,um),bc,bw) (tm,(r,op,at_,nmi),ds,bd,ba,bdt) l n=1:=by rw [hE];exact (if_neg (fun h=>h g0)).trans (if_pos g)
  have e2:=hM1 (by rw [e];decide)
  exact .le (.trans (Le.nilH 2 Qp _ _ R R R) (Le.nil 9 QL rfl)) (.mk [] [3,4] _ R R R R R (congrArg (fun z:Mach × List Inp=>[some (Blk.arr Qp z.1.2.2.1),some (Blk.arr QL z.2)]) e2.symm) (QjT (p:=(Qh0,[])) e2.symm e.symm))
 ·rename_i g0 g1 g
  have g0:=Qav (x:=QaU (bn,(un,ui,ur,uq,um),bc,bw) (tm,(r,op,at_,nmi),ds,bd,ba,bdt) l) g0
  have g:n > 100000:=g
  have e:QcX (bn,(un,ui,ur,uq,um),bc,bw) (tm,(r,op,at_,nmi),ds,bd,ba,bdt) l n=2:=by rw [hE];exact (if_neg (fun h=>h g0)).trans ((if_neg g1).trans (if_pos g))
  have e2:=hM1 (by rw [e];decide)
  exact .le (.trans (Le.nilH 2 Qp _ _ R R R) (Le.nil 9 QL rfl)) (.mk [] [3,4] _ R R R R R (congrArg (fun z:Mach × List Inp=>[some (Blk.arr Qp z.1.2.2.1),some (Blk.arr QL z.2)]) e2.symm) (QjT (p:=(Qh0,[])) e2.symm e.symm))
 ·exact h1
 rename_i g0 g1 g2
 have g0:=Qav (x:=QaU (bn,(un,ui,ur,uq,um),bc,bw) (tm,(r,op,at_,nmi),ds,bd,ba,bdt) l) g0
 have g1:¬ n < 0:=g1
 have g2:¬ n > 100000:=g2
 obtain ⟨N,rfl⟩:=Int.eq_ofNat_of_zero_le (show 0≤n by omega)
 have e:QcX (bn,(un,ui,ur,uq,um),bc,bw) (tm,(r,op,at_,nmi),ds,bd,ba,bdt) l (N:Int)=0:=by rw [hE];exact (if_neg (fun h=>h g0)).trans ((if_neg g1).trans (if_neg g2))
 have e2:QhE (bn,(un,ui,ur,uq,um),bc,bw) (tm,(r,op,at_,nmi),ds,bd,ba,bdt) l (N:Int)=Qel (bn,(un,ui,ur,uq,um),bc,bw) l N ((tm,(r,op,at_,nmi),ds,bd,ba,bdt),[]):=hM2 e
 have ht:=h4 (hE0 g0)
 obtain ⟨L,hMo⟩:=h5 (hE0 g0)
 have hbl:bc.length≤12:=(QjR (b:=(bn,(un,ui,ur,uq,um),bc,bw)) (hS g0).1).1
 refine QO hT hP (A:=Mach × List Inp) N (fun i s=>St.mk (E2 ((.cell (.ro QL l)) :: E1 ((.cell (.ptr 0 0)) :: (.cell (.ptr 1 0)) :: E2 ((.cell (.ptr 2 0)) :: E3 ((.cell (.own 4)) :: E10 (E5 (E3 ((I N) :: (I i) :: E5 (E3 (E1 []))))))))))
  [some (.var [.imm (.string bn),.imm (.string un),.ro Qaw ui,.ro QA ur,.ro QA uq,.ro QA um,.ro Qh bc,.ro Qx bw]),
   some (.var [iv .i64 s.1.1,.run .i64 9 s.1.2.1.1,iv .i64 s.1.2.1.2.1,iv .i64 s.1.2.1.2.2.1,bv s.1.2.1.2.2.2,.own 3,iv .i64 s.1.2.2.2.1,iv .i64 s.1.2.2.2.2.1,iv .i64 s.1.2.2.2.2.2]),
   some (.var [.imm (.int .i64 0),.run .i64 9 (List.replicate 9 0),.imm (.int .i64 0),.imm (.int .i64 0),.imm (.bool false),.imm (.slice none 0 0),.imm (.int .i64 0),.imm (.int .i64 0),.imm (.int .i64 0)]),some (.arr Qp s.1.2.2.1),some (.arr QL s.2)])
  (fun k s=>s=Qel (bn,(un,ui,ur,uq,um),bc,bw) l k ((tm,(r,op,at_,nmi),ds,bd,ba,bdt),[])) ((tm,(r,op,at_,nmi),ds,bd,ba,bdt),[]) (.trans (Le.nil 12 QL rfl) (Le.mk [] [0,1,2,3,4] R R ?_ ?_)) rfl fun k s hk hi=>?_
 ·exact rfl
 ·repeat' first |exact trivial |exact ⟨rfl,rfl⟩ |refine And.intro ?_ ?_
 have hro:=QhF (l:=l) hMo ht k
 rw [← hi] at hro
 have hnx:nxS (bn,(un,ui,ur,uq,um),bc,bw) l s.1 s.2=Qel (bn,(un,ui,ur,uq,um),bc,bw) l (k+1) ((tm,(r,op,at_,nmi),ds,bd,ba,bdt),[]):=by rw [QdO,← hi];rfl
 obtain ⟨⟨tm1,⟨r1,op1,at1,nmi1⟩,ds1,bd1,ba1,bdt1⟩,o⟩:=s
 have hcl:(Qz (bn,(un,ui,ur,uq,um),bc,bw) (tm1,(r1,op1,at1,nmi1),ds1,bd1,ba1,bdt1) l).2.length≤bc.length:=Qbm _ _ _ _
 have hol:o.length≤k*bc.length:=hro.2.2
 repeat' first |(refine Go.mk ?_;conv=>whnf) |refine Ql.go ?_ ?_ |refine Qm.go (fun _=>?_) (fun _=>?_) |refine Br.dec (fun _=>?_) (fun _=>?_) |refine Br.go (fun _=>?_) (fun _=>?_) |refine Qd hT hP mixed ?_ |refine Qb hT hP ?_
 all_goals (try dsimp only [Qj] at *)
 all_goals clear hT hP
 ·exact ⟨⟨⟨h2,h6⟩,hro.2.1⟩,L,hro.1⟩
 ·have g:(k:Int) < (N:Int):=by assumption
  have h7:k*bc.length≤100000*12:=Nat.mul_le_mul (by omega) hbl
  show (o.length+(Qz (bn,(un,ui,ur,uq,um),bc,bw) (tm1,(r1,op1,at1,nmi1),ds1,bd1,ba1,bdt1) l).2.length)*32≤140737488355328
  omega
 ·rename_i g
  have g:(k:Int) < (N:Int):=g
  apply Exists.intro
  apply Exists.intro (nxS (bn,(un,ui,ur,uq,um),bc,bw) l (tm1,(r1,op1,at1,nmi1),ds1,bd1,ba1,bdt1) o)
  refine And.intro (And.intro ?lt136 (And.intro ?ei136 ?inv136)) (Le.mk [] [0,1,2,3,6] R R ?hh136 ?ht136)
  case hh136=>exact rfl
  case ht136=>repeat' first |exact trivial |exact ⟨rfl,rfl⟩ |refine And.intro ?_ ?_
  case lt136=>omega
  case ei136=>exact QW (by omega)
  exact hnx
 ·rename_i g
  have g:¬ (k:Int) < (N:Int):=g
  have ek:k=N:=by omega
  subst ek
  have e3:((tm1,(r1,op1,at1,nmi1),ds1,bd1,ba1,bdt1),o)=QhE (bn,(un,ui,ur,uq,um),bc,bw) (tm,(r,op,at_,nmi),ds,bd,ba,bdt) l (k:Int):=by rw [e2];exact hi
  exact .mk [] [3,4] _ R R R R R (congrArg (fun z:Mach × List Inp=>[some (Blk.arr Qp z.1.2.2.1),some (Blk.arr QL z.2)]) e3) (QjT (p:=((tm1,(r1,op1,at1,nmi1),ds1,bd1,ba1,bdt1),o)) e3 e.symm)
def QD1:Qk:=⟨[gBd,gM,gIn,gi],fun (b,m,l,n,_)=>(some (stP b m l),I (QcX b m l n),[])⟩
theorem Qqz:Qi Tryz.prog 26 QD1.spec:=by
 have hP:Qe Tryz.prog _:=Qa Qun (Qc (T:=tree))
 have hT:=tabs hP Qf
 refine QD1.good (fn:=Tryz.f26) hT hP Tryz.func26 (by kernel_rfl) rfl fun (b:Bd) (m:Mach) (l:List Inp) (n:Int) hq=>?_
 have h:stP b m l:=hq _ rfl
 clear hq
 have hE:QcX b m l n=if QaU b m l≠0 then QaU b m l else if n < 0 then 1 else if n > 100000 then 2 else 0:=rfl
 obtain ⟨bn,⟨un,ui,ur,uq,um⟩,bc,bw⟩:=b
 obtain ⟨tm,⟨r,op,at_,nmi⟩,ds,bd,ba,bdt⟩:=m
 generalize hb:((bn,(un,ui,ur,uq,um),bc,bw):Bd)=b at *
 generalize hm:((tm,(r,op,at_,nmi),ds,bd,ba,bdt):Mach)=m at *
 subst hb hm
 repeat' first |(refine Go.mk ?_;conv=>whnf) |refine Ql.go ?_ ?_ |refine Qm.go (fun _=>?_) (fun _=>?_) |refine Br.dec (fun _=>?_) (fun _=>?_) |refine Br.go (fun _=>?_) (fun _=>?_) |refine Qd hT hP mixed ?_ |refine Qb hT hP ?_
 all_goals (try dsimp only [Qj] at *)
 all_goals clear hT hP
 all_goals first
  |exact h
  |(refine .mk [] [] _ R R R R R R (Qg ?_)
     rw [hE]
     repeat' split
     all_goals omega)
  |skip
def QyV:Qk:=⟨[gBd,gM,gIn],fun (b,m,l,_)=>(some (QDZ b m l),.tup [QfQ (QhE b m l 1).1 0,.c (.own 1),I1 (QcX b m l 1)],[.arr Qp (QhE b m l 1).1.2.2.1,.arr QL (QhE b m l 1).2])⟩
theorem Qus:Qi Tryz.prog 25 QyV.spec:=by
 have hP:Qe Tryz.prog _:=Qa Qur (Qc (T:=tree))
 have hT:=tabs hP Qf
 refine QyV.good (fn:=Tryz.f25) hT hP Tryz.func25 (by kernel_rfl) rfl fun (b:Bd) (m:Mach) (l:List Inp) hq=>?_
 have h:QDZ b m l:=hq _ rfl
 clear hq
 obtain ⟨bn,⟨un,ui,ur,uq,um⟩,bc,bw⟩:=b
 obtain ⟨tm,⟨r,op,at_,nmi⟩,ds,bd,ba,bdt⟩:=m
 repeat' first |(refine Go.mk ?_;conv=>whnf) |refine Ql.go ?_ ?_ |refine Qm.go (fun _=>?_) (fun _=>?_) |refine Br.dec (fun _=>?_) (fun _=>?_) |refine Br.go (fun _=>?_) (fun _=>?_) |refine Qd hT hP mixed ?_ |refine Qb hT hP ?_
 all_goals (try dsimp only [Qj] at *)
 all_goals clear hT hP
 ·exact h
 ·exact .mk [] [3,4] _ R R R R R R R
def QuJ (cs:List Cv) (ds:List Dv) (k:Nat):List Int:=List.zipWith Qbi (cs.take k) (ds.take k)++List.replicate (cs.length-k) 0
theorem Qxq {cs:List Cv} {ds:List Dv} {k:Nat} (h:cs.length=ds.length) (hk:k≤cs.length):(QuJ cs ds k).length=cs.length:=by
 unfold QuJ
 rw [List.length_append,List.length_zipWith,List.length_replicate,List.length_take,List.length_take];omega
theorem QD2 {cs:List Cv} {ds:List Dv}:QuJ cs ds 0=List.replicate cs.length 0:=by unfold QuJ;simp
theorem Qxr {cs:List Cv} {ds:List Dv} {k:Nat} (h:cs.length=ds.length) (hk:cs.length≤k):QuJ cs ds k=List.zipWith Qbi cs ds:=by
 unfold QuJ
 rw [List.take_of_length_le hk,List.take_of_length_le (by omega),show cs.length-k=0 by omega];simp
theorem Qut {cs:List Cv} {ds:List Dv} {k:Nat} (h:cs.length=ds.length) (hk:k < cs.length):(QuJ cs ds k).set k (Qbi (cs.getD k (dflt Qh)) (ds.getD k (dflt Qp)))=QuJ cs ds (k+1):=by
 unfold QuJ
 have hl:(List.zipWith Qbi (cs.take k) (ds.take k)).length=k:=by rw [List.length_zipWith,List.length_take,List.length_take];omega
 rw [← Qlv h hk,List.set_append,if_neg (by omega),hl,Nat.sub_self,show cs.length-k=(cs.length-(k+1))+1 by omega,List.replicate_succ,List.set_cons_zero,List.append_assoc];rfl
def gvC (t:Int) (x:Inp) (c:Cv) (d:Dv):Dv:=if x.1=t∧Qs x.2.1 QaE=false then Qfc x c d else d
theorem QyW {cs:List Cv} {ds:List Dv} (h:cs.length=ds.length):List.zipWith (fun (_:Cv) (d:Dv)=>d) cs ds=ds:=by
 apply List.ext_getElem?
 intro i
 rw [List.getElem?_zipWith]
 by_cases hi:i < ds.length
 ·rw [List.getElem?_eq_getElem hi,List.getElem?_eq_getElem (show i < cs.length by omega)]
 ·rw [List.getElem?_eq_none (show ds.length≤i by omega),List.getElem?_eq_none (show cs.length≤i by omega)]
theorem Qxs {cs:List Cv} {t:Int} {d0:List Dv} {n0:Bool} {x:Inp} (h:cs.length=d0.length):Qgc cs t (d0,n0) x=(List.zipWith (gvC t x) cs d0,n0||(decide (x.1=t)&&Qs x.2.1 QaE)):=by
 unfold Qgc
 by_cases h1:x.1=t
 ·cases h2:Qs x.2.1 QaE with
  |true =>
    have e:gvC t x=fun _ d=>d:=by funext c d;exact if_neg (fun hh=>by rw [h2] at hh;cases hh.2)
    rw [if_neg (fun hh=>hh h1),if_pos rfl,e,QyW h,decide_eq_true h1];simp
  |false =>
    have e:gvC t x=Qfc x:=by funext c d;exact if_pos ⟨h1,h2⟩
    rw [if_neg (fun hh=>hh h1),if_neg (by decide),e,decide_eq_true h1];simp
 ·have e:gvC t x=fun _ d=>d:=by funext c d;exact if_neg (fun hh=>h1 hh.1)
  rw [if_pos h1,e,QyW h,decide_eq_false h1];simp
theorem QhG {tm:Int} {c:Cpu} {A:Kor × Bsv} {R:Option Blk} {i i':Int} {d d':List Dv} {N:List Int} (h:i=i') (h2:d=d') :
 [some (Blk.var [iv .i64 tm,.run .i64 9 (QS c A.1 i).1,iv .i64 (QS c A.1 i).2.1,iv .i64 (QS c A.1 i).2.2.1,bv (QS c A.1 i).2.2.2,.own 2,iv .i64 A.2.1,iv .i64 A.2.2.1,iv .i64 i]),R,some (.arr Qp d),some (.arr (.int .i64) N),some (.arr QL [])] =
 [some (Blk.var [iv .i64 tm,.run .i64 9 (QS c A.1 i').1,iv .i64 (QS c A.1 i').2.1,iv .i64 (QS c A.1 i').2.2.1,bv (QS c A.1 i').2.2.2,.own 2,iv .i64 A.2.1,iv .i64 A.2.2.1,iv .i64 i']),R,some (.arr Qp d'),some (.arr (.int .i64) N),some (.arr QL [])]:=by
 subst h h2;rfl
theorem Qfh (tm:Int):IntKind.i64.wrap (Qad tm (-1) 1099511627775+1)=Qed tm:=by
 have h:Qad tm (-1) 1099511627775=max (-1) (min tm 1099511627775):=by unfold Qad;repeat' split
                                                                               all_goals omega
 rw [h,w64 (by omega) (by omega)];rfl
theorem Quu {b:Bd} {a:Int} (h:bP b a) (hf:0≤Qv b a):IntKind.i64.wrap (a-(b.2.2.1.getD (Qv b a).toNat (dflt Qh)).2.2.1)=atF b a:=by
 have ho:QfK a (b.2.2.1.getD (Qv b a).toNat (dflt Qh))=true:=Qwy (dflt Qh) hf
 unfold QfK at ho
 simp only [Bool.and_eq_true,decide_eq_true_eq] at ho
 have h1:=(Qez hf).1
 have hcc:=h.2.2 _ (QQ (dflt Qh) (show (Qv b a).toNat < b.2.2.1.length by omega))
 have h3:=ho.1
 have h4:=ho.2.2
 have h5:=hcc.2.2
 have h6:=h.2.1.2
 have h7:=hcc.1.1
 have e:atF b a=a-(b.2.2.1.getD (Qv b a).toNat (dflt Qh)).2.2.1:=if_pos hf
 rw [e]
 exact w64 (by omega) (by omega)
def QGh (b:Bd) (m:Mach) (l:List Inp):Prop:=(QuI m.2.2.1∧l.length≤4611686018427387904∧bdP b)∧Qck b.2.1 m.2.1∧∃ L,MOk L b m
def QD3:Qk:=⟨[gBd,gM,gIn],fun (b,m,l,_)=>(some (QGh b m l),.tup [QfQ (Qz b m l).1 0,.c (.own 1)],[.arr Qp (Qz b m l).1.2.2.1,.arr QL (Qz b m l).2])⟩
set_option maxHeartbeats 8000000 in
theorem QiA:Qi Tryz.prog 23 QD3.spec:=by
 have hP:Qe Tryz.prog _:=Qa QoS (Qa QsR (Qa QsQ (Qa QmH (Qa Qp3 (Qa QwL (Qa Qtg (Qa Qp1 (Qa Qp2 (Qa QmL (Qa QpY (Qa Qgn (Qc (T:=tree)))))))))))))
 have hT:=tabs hP Qf
 refine QD3.good (fn:=Tryz.f23) hT hP Tryz.func23 (by kernel_rfl) rfl fun (b:Bd) (m:Mach) (l:List Inp) hq=>?_
 obtain ⟨⟨h1,hl,hbd⟩,htl,L,hM⟩:QGh b m l:=hq _ rfl
 clear hq
 obtain ⟨bn,⟨un,ui,ur,uq,um⟩,bc,bw⟩:=b
 obtain ⟨tm,⟨r,op,at_,nmi⟩,ds,bd,ba,bdt⟩:=m
 have hbd:bdP (bn,(un,ui,ur,uq,um),bc,bw):=hbd
 have htl:Qck (un,ui,ur,uq,um) (r,op,at_,nmi):=htl
 have hbl:bc.length*64≤140737488351232:=hbd.1.1
 have h2:bc.length=ds.length:=hM.l
 have h3:QqH L bc:=hM.c
 have h4:Qgy L ds:=hM.d
 have hL:=hM.L2
 have hL1:=hM.L1
 have hc:∀ c ∈ bc,cP c:=fun c h=>(h3 c h).1
 have hd:∀ d ∈ ds,dP d:=fun d h=>(h4 d h).dP hL
 repeat' first |(refine Go.mk ?_;conv=>whnf) |refine Ql.go ?_ ?_ |refine Qm.go (fun _=>?_) (fun _=>?_) |refine Br.dec (fun _=>?_) (fun _=>?_) |refine Br.go (fun _=>?_) (fun _=>?_) |refine Qd hT hP mixed ?_ |refine Qb hT hP ?_
 all_goals (try dsimp only [Qj] at *)
 ·exact h1.1
 ·refine ⟨rfl,by omega,?_,by omega⟩
  show (bc.length:Int)*8≤281474976710656
  omega
 refine QO hT hP (A:=List Int) bc.length (fun i w=>St.mk (E2 ((.cell (.ro QL l)) :: (.cell (.ptr 0 0)) :: (.cell (.ptr 1 0)) :: E1 ((.cell (.ptr 2 0)) :: E1 ((.cell (.own 4)) :: E20 (E3 ((.cell (.ro Qh bc)) :: (I bc.length) :: (I i) :: E40 (E40 (E40 (E40 (E40 (E40 (E10 (E2 [])))))))))))))
  [some (.var [.imm (.string bn),.imm (.string un),.ro Qaw ui,.ro QA ur,.ro QA uq,.ro QA um,.ro Qh bc,.ro Qx bw]),
   some (.var [iv .i64 tm,.run .i64 9 r,iv .i64 op,iv .i64 at_,bv nmi,.own 3,iv .i64 bd,iv .i64 ba,iv .i64 bdt]),
   some (.var [.imm (.int .i64 0),.run .i64 9 (List.replicate 9 0),.imm (.int .i64 0),.imm (.int .i64 0),.imm (.bool false),.imm (.slice none 0 0),.imm (.int .i64 0),.imm (.int .i64 0),.imm (.int .i64 0)]),some (.arr Qp ds),some (.arr (.int .i64) w)])
  (fun k w=>w=QuJ bc ds k) (List.replicate bc.length 0) (Le.mk [] [0,1,2,3,4] R R ?_ ?_) QD2.symm fun k w hk hi=>?_
 ·exact rfl
 ·repeat' first |exact trivial |exact ⟨rfl,rfl⟩ |refine And.intro ?_ ?_
 have hwl:w.length=bc.length:=by rw [hi];exact Qxq h2 hk
 repeat' first |(refine Go.mk ?_;conv=>whnf) |refine Ql.go ?_ ?_ |refine Qm.go (fun _=>?_) (fun _=>?_) |refine Br.dec (fun _=>?_) (fun _=>?_) |refine Br.go (fun _=>?_) (fun _=>?_) |refine Qd hT hP mixed ?_ |refine Qb hT hP ?_
 all_goals (try dsimp only [Qj] at *)
 ·have g:(k:Int) < (bc.length:Int):=by assumption
  show 0≤(k:Int)∧(k:Int) < (bc.length:Int)
  omega
 ·have g:(k:Int) < (bc.length:Int):=by assumption
  show 0≤(k:Int)∧(k:Int) < (ds.length:Int)
  omega
 ·have g:(k:Int) < (bc.length:Int):=by assumption
  show k < ds.length
  omega
 ·have g:(k:Int) < (bc.length:Int):=by assumption
  exact ⟨hc _ (QQ (dflt Qh) (show k < bc.length by omega)),hd _ (QQ (dflt Qp) (show k < ds.length by omega))⟩
 ·have g:(k:Int) < (bc.length:Int):=by assumption
  show 0≤(k:Int)∧(k:Int) < (w.length:Int)
  omega
 ·have g:(k:Int) < (bc.length:Int):=by assumption
  show k < w.length
  omega
 ·rename_i g
  have g:(k:Int) < (bc.length:Int):=g
  apply Exists.intro
  apply Exists.intro _
  refine And.intro (And.intro ?lt120 (And.intro ?ei120 ?inv120)) (Le.mk [] [0,1,2,3,4] R R ?hh120 ?ht120)
  case hh120=>exact rfl
  case ht120=>repeat' first |exact trivial |exact ⟨rfl,rfl⟩ |refine And.intro ?_ ?_
  case lt120=>omega
  case ei120=>exact QW (by omega)
  have e:=Qut h2 (show k < bc.length by omega)
  rw [← hi] at e
  exact e
 rename_i gg
 have gg:¬ (k:Int) < (bc.length:Int):=gg
 have hw:w=List.zipWith Qbi bc ds:=by rw [hi,Qxr h2 (by omega)]
 subst hw
 clear hi hk gg hwl
 generalize hN0:List.zipWith Qbi bc ds=N0 at *
 have hNl:N0.length=bc.length:=by rw [← hN0];exact QoZ h2
 refine QO hT hP (A:=List Dv × Bool) l.length (fun i s=>St.mk (E3 ((.cell (.ptr 0 0)) :: (.cell (.ptr 1 0)) :: E1 ((.cell (.ptr 2 0)) :: E1 ((.cell (.own 4)) :: E40 (E1 ((.cell (.ro QL l)) :: (I l.length) :: (I i) :: E40 (E40 (E40 (E40 (E40 (E20 (E10 (E3 (E1 []))))))))))))))
  [some (.var [.imm (.string bn),.imm (.string un),.ro Qaw ui,.ro QA ur,.ro QA uq,.ro QA um,.ro Qh bc,.ro Qx bw]),
   some (.var [iv .i64 tm,.run .i64 9 r,iv .i64 op,iv .i64 at_,bv s.2,.own 3,iv .i64 bd,iv .i64 ba,iv .i64 bdt]),
   some (.var [.imm (.int .i64 0),.run .i64 9 (List.replicate 9 0),.imm (.int .i64 0),.imm (.int .i64 0),.imm (.bool false),.imm (.slice none 0 0),.imm (.int .i64 0),.imm (.int .i64 0),.imm (.int .i64 0)]),some (.arr Qp s.1),some (.arr (.int .i64) N0)])
  (fun k s=>s=QjJ bc tm l (ds,nmi) k) (ds,nmi) (Le.mk [] [0,1,2,3,4] R R ?_ ?_) rfl fun k s hk hi=>?_
 ·exact rfl
 ·repeat' first |exact trivial |exact ⟨rfl,rfl⟩ |refine And.intro ?_ ?_
 obtain ⟨d0,n0⟩:=s
 have hok:Qgy L d0∧d0.length=ds.length:=by
  have:=Qd5 (t:=tm) h3 (l.take k) (s:=(ds,nmi)) h4 h2
  have e:QR bc tm (l.take k) (ds,nmi)=(d0,n0):=hi.symm
  rw [e] at this;exact this
 have hst:k < l.length→QjJ bc tm l (ds,nmi) (k+1)=Qgc bc tm (d0,n0) (l.getD k (dflt QL)):=fun h=>by rw [Qit h (dflt QL),← hi]
 repeat' first |(refine Go.mk ?_;conv=>whnf) |refine Ql.go ?_ ?_ |refine Qm.go (fun _=>?_) (fun _=>?_) |refine Br.dec (fun _=>?_) (fun _=>?_) |refine Br.go (fun _=>?_) (fun _=>?_) |refine Qd hT hP mixed ?_ |refine Qb hT hP ?_
 all_goals (try dsimp only [Qj] at *)
 ·have g:(k:Int) < (l.length:Int):=by assumption
  show 0≤(k:Int)∧(k:Int) < (l.length:Int)
  omega
 ·rename_i g
  have g:(k:Int) < (l.length:Int):=g
  have hst:=hst (by omega)
  have hdl:bc.length=d0.length:=by rw [hok.2];exact h2
  rw [Qxs hdl] at hst
  have hkk:l.getD (k:Int).toNat (dflt QL)=l.getD k (dflt QL):=rfl
  rw [hkk]
  clear hkk
  generalize l.getD k (dflt QL)=x at *
  obtain ⟨xa,xc,xn⟩:=x
  refine QO hT hP (A:=List Dv) bc.length (fun j d=>St.mk (E3 ((.cell (.ptr 0 0)) :: (.cell (.ptr 1 0)) :: E1 ((.cell (.ptr 2 0)) :: E1 ((.cell (.own 4)) :: E3 ((.cell (.ptr 5 0)) :: E20 (E10 (E5 (E2 ((.cell (.ro QL l)) :: (I l.length) :: (I k) :: E3 (E1 ((.cell (.ro Qh bc)) :: (I bc.length) :: (I j) :: E40 (E40 (E40 (E40 (E40 (E20 (E5 (E2 []))))))))))))))))))
   [some (.var [.imm (.string bn),.imm (.string un),.ro Qaw ui,.ro QA ur,.ro QA uq,.ro QA um,.ro Qh bc,.ro Qx bw]),
    some (.var [iv .i64 tm,.run .i64 9 r,iv .i64 op,iv .i64 at_,bv n0,.own 3,iv .i64 bd,iv .i64 ba,iv .i64 bdt]),
    some (.var [.imm (.int .i64 0),.run .i64 9 (List.replicate 9 0),.imm (.int .i64 0),.imm (.int .i64 0),.imm (.bool false),.imm (.slice none 0 0),.imm (.int .i64 0),.imm (.int .i64 0),.imm (.int .i64 0)]),some (.arr Qp d),some (.arr (.int .i64) N0),some (.var [iv .i64 xa,.imm (.string xc),iv .i64 xn])])
   (fun j d=>d=Qdr (gvC tm (xa,xc,xn)) bc d0 j) d0 (Le.mk [] [0,1,2,3,4,5] R R ?_ ?_) (Qf4 _ _ _).symm fun j d hj hi2=>?_
  ·exact rfl
  ·repeat' first |exact trivial |exact ⟨rfl,rfl⟩ |refine And.intro ?_ ?_
  have hdl2:d.length=d0.length:=by rw [hi2];exact QbP hdl hj
  have hdg:j < bc.length→d.getD j (dflt Qp)=d0.getD j (dflt Qp):=fun h=>by rw [hi2];exact QbQ hdl h _
  have hds:j < bc.length→d.set j (gvC tm (xa,xc,xn) (bc.getD j (dflt Qh)) (d0.getD j (dflt Qp)))=Qdr (gvC tm (xa,xc,xn)) bc d0 (j+1):=fun h=>by rw [hi2];exact Qbl hdl h _ _
  repeat' first |(refine Go.mk ?_;conv=>whnf) |refine Ql.go ?_ ?_ |refine Qm.go (fun _=>?_) (fun _=>?_) |refine Br.dec (fun _=>?_) (fun _=>?_) |refine Br.go (fun _=>?_) (fun _=>?_) |refine Qd hT hP mixed ?_ |refine Qb hT hP ?_
  all_goals (try dsimp only [Qj] at *)
  ·have g:(j:Int) < (bc.length:Int):=by assumption
   show 0≤(j:Int)∧(j:Int) < (bc.length:Int)
   omega
  ·have g:(j:Int) < (bc.length:Int):=by assumption
   show 0≤(j:Int)∧(j:Int) < (d.length:Int)
   omega
  ·have g:(j:Int) < (bc.length:Int):=by assumption
   show j < d.length
   omega
  ·have g:(j:Int) < (bc.length:Int):=by assumption
   refine ⟨hc _ (QQ (dflt Qh) (show j < bc.length by omega)),?_⟩
   show dP (d.getD j (dflt Qp))
   rw [hdg (by omega)]
   exact (hok.1.get j).dP hL
  ·have g:(j:Int) < (bc.length:Int):=by assumption
   show 0≤(j:Int)∧(j:Int) < (d.length:Int)
   omega
  ·have g:(j:Int) < (bc.length:Int):=by assumption
   show j < d.length
   omega
  ·rename_i g a1 a2 a3
   have g:(j:Int) < (bc.length:Int):=g
   have a1:xa=tm:=a1
   have a2:Qs xc (bc.getD j (dflt Qh)).1=true:=a2
   have a3:(!Qs xc QaE)=true:=a3
   have e:gvC tm (xa,xc,xn) (bc.getD j (dflt Qh)) (d0.getD j (dflt Qp))=QqD (bc.getD j (dflt Qh)) (d.getD j (dflt Qp)) xn:=by
    unfold gvC Qfc
    rw [if_pos ⟨a1,by simpa using a3⟩,if_pos (QH.2 (QH.1 a2).symm),hdg (by omega)]
   apply Exists.intro
   apply Exists.intro _
   refine And.intro (And.intro ?lt205 (And.intro ?ei205 ?inv205)) (Le.mk [] [0,1,2,3,4,5] R R ?hh205 ?ht205)
   case hh205=>exact rfl
   case ht205=>repeat' first |exact trivial |exact ⟨rfl,rfl⟩ |refine And.intro ?_ ?_
   case lt205=>omega
   case ei205=>exact QW (by omega)
   exact (congrArg (fun z=>d.set j z) e.symm).trans (hds (by omega))
  ·rename_i g a1 a2 a3
   have g:(j:Int) < (bc.length:Int):=g
   have a3:(!Qs xc QaE)=false:=a3
   have e:gvC tm (xa,xc,xn) (bc.getD j (dflt Qh)) (d0.getD j (dflt Qp))=d0.getD j (dflt Qp):=by
    unfold gvC
    rw [if_neg (fun hh=>by rw [hh.2] at a3;cases a3)]
   apply Exists.intro
   apply Exists.intro d
   refine And.intro (And.intro ?lt219 (And.intro ?ei219 ?inv219)) (Le.mk [] [0,1,2,3,4,5] R R ?hh219 ?ht219)
   case hh219=>exact rfl
   case ht219=>repeat' first |exact trivial |exact ⟨rfl,rfl⟩ |refine And.intro ?_ ?_
   case lt219=>omega
   case ei219=>exact QW (by omega)
   exact hi2.trans (QjI hdl (by omega) e)
  ·rename_i g a1 a2
   have g:(j:Int) < (bc.length:Int):=g
   have a2:Qs xc (bc.getD j (dflt Qh)).1=false:=a2
   have e:gvC tm (xa,xc,xn) (bc.getD j (dflt Qh)) (d0.getD j (dflt Qp))=d0.getD j (dflt Qp):=by
    unfold gvC
    split
    ·unfold Qfc
     rw [if_neg (fun hh=>by rw [QH.2 (QH.1 hh).symm] at a2;cases a2)]
    ·rfl
   apply Exists.intro
   apply Exists.intro d
   refine And.intro (And.intro ?lt236 (And.intro ?ei236 ?inv236)) (Le.mk [] [0,1,2,3,4,5] R R ?hh236 ?ht236)
   case hh236=>exact rfl
   case ht236=>repeat' first |exact trivial |exact ⟨rfl,rfl⟩ |refine And.intro ?_ ?_
   case lt236=>omega
   case ei236=>exact QW (by omega)
   exact hi2.trans (QjI hdl (by omega) e)
  ·rename_i g a1
   have g:(j:Int) < (bc.length:Int):=g
   have a1:¬ xa=tm:=a1
   have e:gvC tm (xa,xc,xn) (bc.getD j (dflt Qh)) (d0.getD j (dflt Qp))=d0.getD j (dflt Qp):=by
    unfold gvC
    rw [if_neg (fun hh=>a1 hh.1)]
   apply Exists.intro
   apply Exists.intro d
   refine And.intro (And.intro ?lt250 (And.intro ?ei250 ?inv250)) (Le.mk [] [0,1,2,3,4,5] R R ?hh250 ?ht250)
   case hh250=>exact rfl
   case ht250=>repeat' first |exact trivial |exact ⟨rfl,rfl⟩ |refine And.intro ?_ ?_
   case lt250=>omega
   case ei250=>exact QW (by omega)
   exact hi2.trans (QjI hdl (by omega) e)
  ·rename_i g a1
   have g:¬ (j:Int) < (bc.length:Int):=g
   have e:d=List.zipWith (gvC tm (xa,xc,xn)) bc d0:=by rw [hi2,Qbz hdl (by omega)]
   apply Exists.intro
   apply Exists.intro (d,_)
   refine And.intro (And.intro ?lt261 (And.intro ?ei261 ?inv261)) (Le.mk [] [0,1,2,3,4] R R ?hh261 ?ht261)
   case hh261=>exact rfl
   case ht261=>repeat' first |exact trivial |exact ⟨rfl,rfl⟩ |refine And.intro ?_ ?_
   case lt261=>omega
   case ei261=>exact QW (by omega)
   rw [hst,← e]
   have a1:n0=true:=a1
   rw [a1];rfl
  ·rename_i g a1 a2
   have g:¬ (j:Int) < (bc.length:Int):=g
   have e:d=List.zipWith (gvC tm (xa,xc,xn)) bc d0:=by rw [hi2,Qbz hdl (by omega)]
   apply Exists.intro
   apply Exists.intro (d,_)
   refine And.intro (And.intro ?lt274 (And.intro ?ei274 ?inv274)) (Le.mk [] [0,1,2,3,4] R R ?hh274 ?ht274)
   case hh274=>exact rfl
   case ht274=>repeat' first |exact trivial |exact ⟨rfl,rfl⟩ |refine And.intro ?_ ?_
   case lt274=>omega
   case ei274=>exact QW (by omega)
   rw [hst,← e]
   have a1:n0=false:=a1
   have a2:xa=tm:=a2
   rw [a1,decide_eq_true a2];rfl
  ·rename_i g a1 a2
   have g:¬ (j:Int) < (bc.length:Int):=g
   have e:d=List.zipWith (gvC tm (xa,xc,xn)) bc d0:=by rw [hi2,Qbz hdl (by omega)]
   apply Exists.intro
   apply Exists.intro (d,_)
   refine And.intro (And.intro ?lt288 (And.intro ?ei288 ?inv288)) (Le.mk [] [0,1,2,3,4] R R ?hh288 ?ht288)
   case hh288=>exact rfl
   case ht288=>repeat' first |exact trivial |exact ⟨rfl,rfl⟩ |refine And.intro ?_ ?_
   case lt288=>omega
   case ei288=>exact QW (by omega)
   rw [hst,← e]
   have a1:n0=false:=a1
   have a2:¬ xa=tm:=a2
   rw [a1,decide_eq_false a2];rfl
 ·exact hbd
 rename_i gg
 have gg:¬ (k:Int) < (l.length:Int):=gg
 have eG:QR bc tm l (ds,nmi)=(d0,n0):=by rw [hi,Qlr (by omega)]
 have hhl:=QcT bw bc
 have hhl:(Qa2 bw bc).length=bc.length:=hhl
 have hlE:Qax (bn,(un,ui,ur,uq,um),bc,bw) d0=QcV (Qa2 bw bc) bc d0:=rfl
 have hdl:bc.length=d0.length:=by rw [hok.2];exact h2
 have hdd:∀ d ∈ d0,dP d:=fun d h=>(hok.1 d h).dP hL
 clear hi hk gg hst
 generalize Qa2 bw bc=hs at *
 rw [hhl]
 refine QO hT hP (A:=Bool) bc.length (fun i o=>St.mk (E3 ((.cell (.ptr 0 0)) :: (.cell (.ptr 1 0)) :: E1 ((.cell (.ptr 2 0)) :: E1 ((.cell (.own 4)) :: E5 (E1 ((.cell (bv o)) :: E40 (E40 (E10 (E5 (E3 ((.cell (.own 5)) :: (I bc.length) :: (I i) :: E40 (E40 (E40 (E40 (E10 [])))))))))))))))
  [some (.var [.imm (.string bn),.imm (.string un),.ro Qaw ui,.ro QA ur,.ro QA uq,.ro QA um,.ro Qh bc,.ro Qx bw]),
   some (.var [iv .i64 tm,.run .i64 9 r,iv .i64 op,iv .i64 at_,bv n0,.own 3,iv .i64 bd,iv .i64 ba,iv .i64 bdt]),
   some (.var [.imm (.int .i64 0),.run .i64 9 (List.replicate 9 0),.imm (.int .i64 0),.imm (.int .i64 0),.imm (.bool false),.imm (.slice none 0 0),.imm (.int .i64 0),.imm (.int .i64 0),.imm (.int .i64 0)]),some (.arr Qp d0),some (.arr (.int .i64) N0),some (.arr .bool hs)])
  (fun k o=>(o||QcV (hs.drop k) (bc.drop k) (d0.drop k))=QcV hs bc d0) false (Le.mk [] [0,1,2,3,4,5] R R ?_ ?_) rfl fun q o hq hj=>?_
 ·exact rfl
 ·repeat' first |exact trivial |exact ⟨rfl,rfl⟩ |refine And.intro ?_ ?_
 have hst:=fun h=>Qca (ds:=d0) (k:=q) hhl h
 have hLine:¬ (q:Int) < (bc.length:Int)→o=Qax (bn,(un,ui,ur,uq,um),bc,bw) d0:=fun h=>by
  rw [hlE,← hj,Qiw hhl (by omega),Bool.or_false]
 have hAd:=Qlw (un,ui,ur,uq,um) (r,op,at_,n0) o
 have hbP:bP (bn,(un,ui,ur,uq,um),bc,bw) (Qw (un,ui,ur,uq,um) (r,op,at_,n0) o).2.2.1:=⟨by show bc.length≤_;omega,⟨by omega,by omega⟩,fun c h=>⟨(hc c h).1,(hc c h).2.1⟩⟩
 have hfin:0≤Qv (bn,(un,ui,ur,uq,um),bc,bw) (Qw (un,ui,ur,uq,um) (r,op,at_,n0) o).2.2.1→Qv (bn,(un,ui,ur,uq,um),bc,bw) (Qw (un,ui,ur,uq,um) (r,op,at_,n0) o).2.2.1 < (bc.length:Int):=fun h=>(Qez h).1
 repeat' first |(refine Go.mk ?_;conv=>whnf) |refine Ql.go ?_ ?_ |refine Qm.go (fun _=>?_) (fun _=>?_) |refine Br.dec (fun _=>?_) (fun _=>?_) |refine Br.go (fun _=>?_) (fun _=>?_) |refine Qd hT hP mixed ?_ |refine Qb hT hP ?_
 all_goals (try dsimp only [Qj] at *)
 ·have g:(q:Int) < (bc.length:Int):=by assumption
  show 0≤(q:Int)∧(q:Int) < (hs.length:Int)
  omega
 ·have g:(q:Int) < (bc.length:Int):=by assumption
  show q < hs.length
  omega
 ·rename_i g a1
  have g:(q:Int) < (bc.length:Int):=g
  have a1:o=true:=a1
  apply Exists.intro
  apply Exists.intro _
  refine And.intro (And.intro ?lt335 (And.intro ?ei335 ?inv335)) (Le.mk [] [0,1,2,3,4,5] R R ?hh335 ?ht335)
  case hh335=>exact rfl
  case ht335=>repeat' first |exact trivial |exact ⟨rfl,rfl⟩ |refine And.intro ?_ ?_
  case lt335=>omega
  case ei335=>exact QW (by omega)
  rw [← hj,a1];rfl
 ·have g:(q:Int) < (bc.length:Int):=by assumption
  show 0≤(q:Int)∧(q:Int) < (bc.length:Int)
  omega
 ·have g:(q:Int) < (bc.length:Int):=by assumption
  show 0≤(q:Int)∧(q:Int) < (d0.length:Int)
  omega
 ·have g:(q:Int) < (bc.length:Int):=by assumption
  show q < d0.length
  omega
 ·have g:(q:Int) < (bc.length:Int):=by assumption
  exact ⟨hc _ (QQ (dflt Qh) (show q < bc.length by omega)),hdd _ (QQ (dflt Qp) (show q < d0.length by omega))⟩
 ·rename_i g a1 a2
  have g:(q:Int) < (bc.length:Int):=g
  have a1:o=false:=a1
  have a2:hs.getD q (dflt .bool)=true:=a2
  have hst:=hst (by omega)
  rw [decide_eq_true (show q < d0.length by omega),show hs.getD q false=true from a2] at hst
  apply Exists.intro
  apply Exists.intro _
  refine And.intro (And.intro ?lt360 (And.intro ?ei360 ?inv360)) (Le.mk [] [0,1,2,3,4,5] R R ?hh360 ?ht360)
  case hh360=>exact rfl
  case ht360=>repeat' first |exact trivial |exact ⟨rfl,rfl⟩ |refine And.intro ?_ ?_
  case lt360=>omega
  case ei360=>exact QW (by omega)
  rw [← hj,hst,a1];rfl
 ·rename_i g a1 a2
  have g:(q:Int) < (bc.length:Int):=g
  have a1:o=false:=a1
  have a2:hs.getD q (dflt .bool)=false:=a2
  have hst:=hst (by omega)
  rw [show hs.getD q false=false from a2] at hst
  apply Exists.intro
  apply Exists.intro _
  refine And.intro (And.intro ?lt374 (And.intro ?ei374 ?inv374)) (Le.mk [] [0,1,2,3,4,5] R R ?hh374 ?ht374)
  case hh374=>exact rfl
  case ht374=>repeat' first |exact trivial |exact ⟨rfl,rfl⟩ |refine And.intro ?_ ?_
  case lt374=>omega
  case ei374=>exact QW (by omega)
  rw [← hj,hst,a1];simp
 ·exact QtS (Qfd htl n0)
 ·exact hbP
 all_goals first
  |(show 0≤Qv (bn,(un,ui,ur,uq,um),bc,bw) (Qw (un,ui,ur,uq,um) (r,op,at_,n0) o).2.2.1∧Qv (bn,(un,ui,ur,uq,um),bc,bw) (Qw (un,ui,ur,uq,um) (r,op,at_,n0) o).2.2.1 < (bc.length:Int);have h0:0≤Qv (bn,(un,ui,ur,uq,um),bc,bw) (Qw (un,ui,ur,uq,um) (r,op,at_,n0) o).2.2.1:=by assumption
     exact ⟨h0,hfin h0⟩)
  |(show 0≤Qv (bn,(un,ui,ur,uq,um),bc,bw) (Qw (un,ui,ur,uq,um) (r,op,at_,n0) o).2.2.1∧Qv (bn,(un,ui,ur,uq,um),bc,bw) (Qw (un,ui,ur,uq,um) (r,op,at_,n0) o).2.2.1 < (d0.length:Int);have h0:0≤Qv (bn,(un,ui,ur,uq,um),bc,bw) (Qw (un,ui,ur,uq,um) (r,op,at_,n0) o).2.2.1:=by assumption
     have:=hfin h0;omega)
  |(show (Qv (bn,(un,ui,ur,uq,um),bc,bw) (Qw (un,ui,ur,uq,um) (r,op,at_,n0) o).2.2.1).toNat < d0.length;have h0:0≤Qv (bn,(un,ui,ur,uq,um),bc,bw) (Qw (un,ui,ur,uq,um) (r,op,at_,n0) o).2.2.1:=by assumption
     have:=hfin h0;omega)
  |(have h0:0≤Qv (bn,(un,ui,ur,uq,um),bc,bw) (Qw (un,ui,ur,uq,um) (r,op,at_,n0) o).2.2.1:=by assumption
     have:=hfin h0
     exact ⟨hc _ (QQ (dflt Qh) (show (Qv (bn,(un,ui,ur,uq,um),bc,bw) (Qw (un,ui,ur,uq,um) (r,op,at_,n0) o).2.2.1).toNat < bc.length by omega)),hdd _ (QQ (dflt Qp) (show (Qv (bn,(un,ui,ur,uq,um),bc,bw) (Qw (un,ui,ur,uq,um) (r,op,at_,n0) o).2.2.1).toNat < d0.length by omega))⟩)
  |exact Qlt (Qfd htl _) _
  |skip
 ·rename_i gx gb hf
  have gx:¬ (q:Int) < (bc.length:Int):=gx
  have ho:=hLine gx
  have hac:=QdM (b:=(bn,(un,ui,ur,uq,um),bc,bw)) (ds:=d0) (x:=(Qw (un,ui,ur,uq,um) (r,op,at_,n0) o).2) hL1 h3 hok.1
  have hI:QfI (bc.getD (Qv (bn,(un,ui,ur,uq,um),bc,bw) (Qw (un,ui,ur,uq,um) (r,op,at_,n0) o).2.2.1).toNat (dflt Qh)) (d0.getD (Qv (bn,(un,ui,ur,uq,um),bc,bw) (Qw (un,ui,ur,uq,um) (r,op,at_,n0) o).2.2.1).toNat (dflt Qp)) (IntKind.i64.wrap ((Qw (un,ui,ur,uq,um) (r,op,at_,n0) o).2.2.1-(bc.getD (Qv (bn,(un,ui,ur,uq,um),bc,bw) (Qw (un,ui,ur,uq,um) (r,op,at_,n0) o).2.2.1).toNat (dflt Qh)).2.2.1))=Qc0 (bn,(un,ui,ur,uq,um),bc,bw) d0 (Qw (un,ui,ur,uq,um) (r,op,at_,n0) o).2:=by
   rw [Quu (b:=(bn,(un,ui,ur,uq,um),bc,bw)) hbP hf]
   exact (QyG (b:=(bn,(un,ui,ur,uq,um),bc,bw)) (x:=(Qw (un,ui,ur,uq,um) (r,op,at_,n0) o).2) hf gb).symm
  have hD:d0.set (Qv (bn,(un,ui,ur,uq,um),bc,bw) (Qw (un,ui,ur,uq,um) (r,op,at_,n0) o).2.2.1).toNat (Qe4 (bc.getD (Qv (bn,(un,ui,ur,uq,um),bc,bw) (Qw (un,ui,ur,uq,um) (r,op,at_,n0) o).2.2.1).toNat (dflt Qh)) (d0.getD (Qv (bn,(un,ui,ur,uq,um),bc,bw) (Qw (un,ui,ur,uq,um) (r,op,at_,n0) o).2.2.1).toNat (dflt Qp)) (IntKind.i64.wrap ((Qw (un,ui,ur,uq,um) (r,op,at_,n0) o).2.2.1-(bc.getD (Qv (bn,(un,ui,ur,uq,um),bc,bw) (Qw (un,ui,ur,uq,um) (r,op,at_,n0) o).2.2.1).toNat (dflt Qh)).2.2.1)))=Qbo (bn,(un,ui,ur,uq,um),bc,bw) d0 (Qw (un,ui,ur,uq,um) (r,op,at_,n0) o).2:=by
   rw [Quu (b:=(bn,(un,ui,ur,uq,um),bc,bw)) hbP hf]
   exact (QyI (b:=(bn,(un,ui,ur,uq,um),bc,bw)) (x:=(Qw (un,ui,ur,uq,um) (r,op,at_,n0) o).2) hf gb).symm
  have hcy:Qz (bn,(un,ui,ur,uq,um),bc,bw) (tm,(r,op,at_,nmi),ds,bd,ba,bdt) l=((Qed tm,QS (un,ui,ur,uq,um) (Qw (un,ui,ur,uq,um) (r,op,at_,n0) o).1 (Qc0 (bn,(un,ui,ur,uq,um),bc,bw) d0 (Qw (un,ui,ur,uq,um) (r,op,at_,n0) o).2),List.zipWith Qn bc (Qbo (bn,(un,ui,ur,uq,um),bc,bw) d0 (Qw (un,ui,ur,uq,um) (r,op,at_,n0) o).2),(Qw (un,ui,ur,uq,um) (r,op,at_,n0) o).2.1,(Qw (un,ui,ur,uq,um) (r,op,at_,n0) o).2.2.1,Qc0 (bn,(un,ui,ur,uq,um),bc,bw) d0 (Qw (un,ui,ur,uq,um) (r,op,at_,n0) o).2),Qgd tm bc (List.zipWith Qn bc (Qbo (bn,(un,ui,ur,uq,um),bc,bw) d0 (Qw (un,ui,ur,uq,um) (r,op,at_,n0) o).2)) N0):=by
   subst ho
   unfold Qz
   simp only [eG]
   rw [← hN0]
  have hDl:(Qbo (bn,(un,ui,ur,uq,um),bc,bw) d0 (Qw (un,ui,ur,uq,um) (r,op,at_,n0) o).2).length=bc.length:=by rw [hac.2];exact hdl.symm
  have hDd:∀ d ∈ Qbo (bn,(un,ui,ur,uq,um),bc,bw) d0 (Qw (un,ui,ur,uq,um) (r,op,at_,n0) o).2,dP d:=fun d h=>(hac.1 d h).dP hL
  have hTd:∀ d ∈ List.zipWith Qn bc (Qbo (bn,(un,ui,ur,uq,um),bc,bw) d0 (Qw (un,ui,ur,uq,um) (r,op,at_,n0) o).2),dP d:=fun d h=>(Qbv h3 hac.1 d h).dP hL
  generalize hD1:Qbo (bn,(un,ui,ur,uq,um),bc,bw) d0 (Qw (un,ui,ur,uq,um) (r,op,at_,n0) o).2=D0 at *
  generalize hI1:Qc0 (bn,(un,ui,ur,uq,um),bc,bw) d0 (Qw (un,ui,ur,uq,um) (r,op,at_,n0) o).2=I0 at *
  refine QO hT hP (A:=List Dv × List Inp) bc.length (fun i s=>St.mk (E3 (E1 ((.cell (.ptr 0 0)) :: E1 ((.cell (.ptr 1 0)) :: E1 ((.cell (.own 3)) :: E10 ((.cell (.own 4)) :: E40 (E40 (E40 (E40 (E40 (E10 (E5 (E3 (E1 ((.cell (.ro Qh bc)) :: (I bc.length) :: (I i) :: E40 (E5 []))))))))))))))))
   [some (.var [iv .i64 tm,.run .i64 9 (QS (un,ui,ur,uq,um) (Qw (un,ui,ur,uq,um) (r,op,at_,n0) o).1 I0).1,iv .i64 (QS (un,ui,ur,uq,um) (Qw (un,ui,ur,uq,um) (r,op,at_,n0) o).1 I0).2.1,iv .i64 (QS (un,ui,ur,uq,um) (Qw (un,ui,ur,uq,um) (r,op,at_,n0) o).1 I0).2.2.1,bv (QS (un,ui,ur,uq,um) (Qw (un,ui,ur,uq,um) (r,op,at_,n0) o).1 I0).2.2.2,.own 2,iv .i64 (Qw (un,ui,ur,uq,um) (r,op,at_,n0) o).2.1,iv .i64 (Qw (un,ui,ur,uq,um) (r,op,at_,n0) o).2.2.1,iv .i64 I0]),
    some (.var [.imm (.int .i64 0),.run .i64 9 (List.replicate 9 0),.imm (.int .i64 0),.imm (.int .i64 0),.imm (.bool false),.imm (.slice none 0 0),.imm (.int .i64 0),.imm (.int .i64 0),.imm (.int .i64 0)]),some (.arr Qp s.1),some (.arr (.int .i64) N0),some (.arr QL s.2)])
   (fun k s=>s.1=Qdr Qn bc D0 k∧s.2=newK tm bc (List.zipWith Qn bc D0) N0 k) (D0,[]) (.trans (Le.nil 19 QL rfl) (Le.mk [] [1,2,3,4,8] R R ?_ ?_)) ⟨(Qf4 _ _ _).symm,rfl⟩ fun u s hu hi=>?_
  ·exact QhG hI hD
  ·repeat' first |exact trivial |exact ⟨rfl,rfl⟩ |refine And.intro ?_ ?_
  generalize hT0:QS (un,ui,ur,uq,um) (Qw (un,ui,ur,uq,um) (r,op,at_,n0) o).1 I0=T0 at *
  generalize (Qw (un,ui,ur,uq,um) (r,op,at_,n0) o)=A0 at *
  obtain ⟨d,v⟩:=s
  obtain ⟨hi1,hi2⟩:=hi
  have hi1:d=Qdr Qn bc D0 u:=hi1
  have hi2:v=newK tm bc (List.zipWith Qn bc D0) N0 u:=hi2
  have hdl1:d.length=bc.length:=by rw [hi1,QbP hDl.symm hu];exact hDl
  have hdg:u < bc.length→d.getD u (dflt Qp)=D0.getD u (dflt Qp):=fun h=>by rw [hi1];exact QbQ hDl.symm h _
  have hds:u < bc.length→d.set u (Qn (bc.getD u (dflt Qh)) (D0.getD u (dflt Qp)))=Qdr Qn bc D0 (u+1):=fun h=>by rw [hi1];exact Qbl hDl.symm h _ _
  have hzl:bc.length=(List.zipWith Qn bc D0).length:=by rw [List.length_zipWith];omega
  have hzg:u < bc.length→(List.zipWith Qn bc D0).getD u (dflt Qp)=Qn (bc.getD u (dflt Qh)) (D0.getD u (dflt Qp)):=fun h=>QfP hDl.symm h
  have hns:u < bc.length→newK tm bc (List.zipWith Qn bc D0) N0 (u+1)=v++(if Qbi (bc.getD u (dflt Qh)) (Qn (bc.getD u (dflt Qh)) (D0.getD u (dflt Qp)))=N0.getD u 0 then [] else [(tm,(bc.getD u (dflt Qh)).1,Qbi (bc.getD u (dflt Qh)) (Qn (bc.getD u (dflt Qh)) (D0.getD u (dflt Qp))))]):=fun h=>by
   rw [QcW hzl hNl.symm h (dflt Qh) (dflt Qp),hzg h,hi2]
  have hol:v.length≤bc.length:=by
   rw [hi2]
   refine Nat.le_trans (Qbm _ _ _ _) ?_
   rw [List.length_take];omega
  repeat' first |(refine Go.mk ?_;conv=>whnf) |refine Ql.go ?_ ?_ |refine Qm.go (fun _=>?_) (fun _=>?_) |refine Br.dec (fun _=>?_) (fun _=>?_) |refine Br.go (fun _=>?_) (fun _=>?_) |refine Qd hT hP mixed ?_ |refine Qb hT hP ?_
  all_goals (try dsimp only [Qj] at *)
  ·have g:(u:Int) < (bc.length:Int):=by assumption
   show 0≤(u:Int)∧(u:Int) < (bc.length:Int)
   omega
  ·have g:(u:Int) < (bc.length:Int):=by assumption
   show 0≤(u:Int)∧(u:Int) < (d.length:Int)
   omega
  ·have g:(u:Int) < (bc.length:Int):=by assumption
   show u < d.length
   omega
  ·have g:(u:Int) < (bc.length:Int):=by assumption
   refine ⟨hc _ (QQ (dflt Qh) (show u < bc.length by omega)),?_⟩
   show dP (d.getD u (dflt Qp))
   rw [hdg (by omega)]
   exact hDd _ (QQ (dflt Qp) (show u < D0.length by omega))
  ·have g:(u:Int) < (bc.length:Int):=by assumption
   show 0≤(u:Int)∧(u:Int) < (d.length:Int)
   omega
  ·have g:(u:Int) < (bc.length:Int):=by assumption
   show u < d.length
   omega
  ·have g:(u:Int) < (bc.length:Int):=by assumption
   show 0≤(u:Int)∧(u:Int) < (List.length (d.set _ _):Int)
   rw [List.length_set];omega
  ·have g:(u:Int) < (bc.length:Int):=by assumption
   show u < List.length (d.set _ _)
   rw [List.length_set];omega
  ·have g:(u:Int) < (bc.length:Int):=by assumption
   refine ⟨hc _ (QQ (dflt Qh) (show u < bc.length by omega)),?_⟩
   show dP ((d.set u (Qn (bc.getD u (dflt Qh)) (d.getD u (dflt Qp)))).getD u (dflt Qp))
   rw [Qai (show u < d.length by omega),hdg (by omega),← hzg (by omega)]
   exact hTd _ (QQ (dflt Qp) (show u < (List.zipWith Qn bc D0).length by omega))
  ·have g:(u:Int) < (bc.length:Int):=by assumption
   show 0≤(u:Int)∧(u:Int) < (N0.length:Int)
   omega
  ·have g:(u:Int) < (bc.length:Int):=by assumption
   show u < N0.length
   omega
  ·have g:(u:Int) < (bc.length:Int):=by assumption
   show (v.length+1)*32≤140737488355328
   omega
  ·rename_i g g2
   have g:(u:Int) < (bc.length:Int):=g
   have e1:(d.set u (Qn (bc.getD u (dflt Qh)) (d.getD u (dflt Qp)))).getD u (dflt Qp)=Qn (bc.getD u (dflt Qh)) (D0.getD u (dflt Qp)):=by rw [Qai (show u < d.length by omega),hdg (by omega)]
   have g2:(Qbi (bc.getD u (dflt Qh)) ((d.set u (Qn (bc.getD u (dflt Qh)) (d.getD u (dflt Qp)))).getD u (dflt Qp)) != N0.getD u 0)=true:=g2
   rw [e1] at g2
   have g3:¬ Qbi (bc.getD u (dflt Qh)) (Qn (bc.getD u (dflt Qh)) (D0.getD u (dflt Qp)))=N0.getD u 0:=by simpa using g2
   have hns:=hns (by omega)
   rw [if_neg g3] at hns
   have hds:=hds (by omega)
   rw [← hdg (by omega)] at hds
   apply Exists.intro
   apply Exists.intro (_,_)
   refine And.intro (And.intro ?lt491 (And.intro ?ei491 ?inv491)) (Le.mk [] [0,1,2,3,9] R R ?hh491 ?ht491)
   case hh491=>exact rfl
   case ht491=>repeat' first |exact trivial |exact ⟨rfl,rfl⟩ |refine And.intro ?_ ?_
   case lt491=>omega
   case ei491=>exact QW (by omega)
   refine ⟨hds,?_⟩
   rw [hns,← e1]
   try rfl
  ·rename_i g g2
   have g:(u:Int) < (bc.length:Int):=g
   have e1:(d.set u (Qn (bc.getD u (dflt Qh)) (d.getD u (dflt Qp)))).getD u (dflt Qp)=Qn (bc.getD u (dflt Qh)) (D0.getD u (dflt Qp)):=by rw [Qai (show u < d.length by omega),hdg (by omega)]
   have g2:(Qbi (bc.getD u (dflt Qh)) ((d.set u (Qn (bc.getD u (dflt Qh)) (d.getD u (dflt Qp)))).getD u (dflt Qp)) != N0.getD u 0)=false:=g2
   rw [e1] at g2
   have g3:Qbi (bc.getD u (dflt Qh)) (Qn (bc.getD u (dflt Qh)) (D0.getD u (dflt Qp)))=N0.getD u 0:=by simpa using g2
   have hns:=hns (by omega)
   rw [if_pos g3,List.append_nil] at hns
   have hds:=hds (by omega)
   rw [← hdg (by omega)] at hds
   apply Exists.intro
   apply Exists.intro (_,v)
   refine And.intro (And.intro ?lt511 (And.intro ?ei511 ?inv511)) (Le.mk [] [0,1,2,3,4] R R ?hh511 ?ht511)
   case hh511=>exact rfl
   case ht511=>repeat' first |exact trivial |exact ⟨rfl,rfl⟩ |refine And.intro ?_ ?_
   case lt511=>omega
   case ei511=>exact QW (by omega)
   exact ⟨hds,hns.symm⟩
  ·rename_i g
   have g:¬ (u:Int) < (bc.length:Int):=g
   have e1:d=List.zipWith Qn bc D0:=by rw [hi1,Qbz hDl.symm (by omega)]
   have e2:v=Qgd tm bc (List.zipWith Qn bc D0) N0:=by
    rw [hi2];unfold newK
    rw [List.take_of_length_le (by omega),List.take_of_length_le (by omega),List.take_of_length_le (by omega)]
   have e3:IntKind.i64.wrap (Qad tm (-1) 1099511627775+1)=Qed tm:=Qfh tm
   have e:((IntKind.i64.wrap (Qad tm (-1) 1099511627775+1),T0,d,A0.2.1,A0.2.2.1,I0),v)=Qz (bn,(un,ui,ur,uq,um),bc,bw) (tm,(r,op,at_,nmi),ds,bd,ba,bdt) l:=by rw [hcy,e1,e2,e3]
   exact .mk [] [2,4] _ R R R R R (congrArg (fun z:Mach × List Inp=>[some (Blk.arr Qp z.1.2.2.1),some (Blk.arr QL z.2)]) e) (congrArg (fun z:Mach × List Inp=>AV.tup [QfQ z.1 0,.c (.own 1)]) e)
 ·rename_i gx gb hf
  have gx:¬ (q:Int) < (bc.length:Int):=gx
  have ho:=hLine gx
  have hac:=QdM (b:=(bn,(un,ui,ur,uq,um),bc,bw)) (ds:=d0) (x:=(Qw (un,ui,ur,uq,um) (r,op,at_,n0) o).2) hL1 h3 hok.1
  have hI:255=Qc0 (bn,(un,ui,ur,uq,um),bc,bw) d0 (Qw (un,ui,ur,uq,um) (r,op,at_,n0) o).2:=by
   exact (QyH (b:=(bn,(un,ui,ur,uq,um),bc,bw)) (x:=(Qw (un,ui,ur,uq,um) (r,op,at_,n0) o).2) hf gb).symm
  have hD:d0=Qbo (bn,(un,ui,ur,uq,um),bc,bw) d0 (Qw (un,ui,ur,uq,um) (r,op,at_,n0) o).2:=by
   exact (QoY (b:=(bn,(un,ui,ur,uq,um),bc,bw)) (x:=(Qw (un,ui,ur,uq,um) (r,op,at_,n0) o).2) hf).symm
  have hcy:Qz (bn,(un,ui,ur,uq,um),bc,bw) (tm,(r,op,at_,nmi),ds,bd,ba,bdt) l=((Qed tm,QS (un,ui,ur,uq,um) (Qw (un,ui,ur,uq,um) (r,op,at_,n0) o).1 (Qc0 (bn,(un,ui,ur,uq,um),bc,bw) d0 (Qw (un,ui,ur,uq,um) (r,op,at_,n0) o).2),List.zipWith Qn bc (Qbo (bn,(un,ui,ur,uq,um),bc,bw) d0 (Qw (un,ui,ur,uq,um) (r,op,at_,n0) o).2),(Qw (un,ui,ur,uq,um) (r,op,at_,n0) o).2.1,(Qw (un,ui,ur,uq,um) (r,op,at_,n0) o).2.2.1,Qc0 (bn,(un,ui,ur,uq,um),bc,bw) d0 (Qw (un,ui,ur,uq,um) (r,op,at_,n0) o).2),Qgd tm bc (List.zipWith Qn bc (Qbo (bn,(un,ui,ur,uq,um),bc,bw) d0 (Qw (un,ui,ur,uq,um) (r,op,at_,n0) o).2)) N0):=by
   subst ho
   unfold Qz
   simp only [eG]
   rw [← hN0]
  have hDl:(Qbo (bn,(un,ui,ur,uq,um),bc,bw) d0 (Qw (un,ui,ur,uq,um) (r,op,at_,n0) o).2).length=bc.length:=by rw [hac.2];exact hdl.symm
  have hDd:∀ d ∈ Qbo (bn,(un,ui,ur,uq,um),bc,bw) d0 (Qw (un,ui,ur,uq,um) (r,op,at_,n0) o).2,dP d:=fun d h=>(hac.1 d h).dP hL
  have hTd:∀ d ∈ List.zipWith Qn bc (Qbo (bn,(un,ui,ur,uq,um),bc,bw) d0 (Qw (un,ui,ur,uq,um) (r,op,at_,n0) o).2),dP d:=fun d h=>(Qbv h3 hac.1 d h).dP hL
  generalize hD1:Qbo (bn,(un,ui,ur,uq,um),bc,bw) d0 (Qw (un,ui,ur,uq,um) (r,op,at_,n0) o).2=D0 at *
  generalize hI1:Qc0 (bn,(un,ui,ur,uq,um),bc,bw) d0 (Qw (un,ui,ur,uq,um) (r,op,at_,n0) o).2=I0 at *
  refine QO hT hP (A:=List Dv × List Inp) bc.length (fun i s=>St.mk (E3 (E1 ((.cell (.ptr 0 0)) :: E1 ((.cell (.ptr 1 0)) :: E1 ((.cell (.own 3)) :: E10 ((.cell (.own 4)) :: E40 (E40 (E40 (E40 (E40 (E10 (E5 (E3 (E1 ((.cell (.ro Qh bc)) :: (I bc.length) :: (I i) :: E40 (E5 []))))))))))))))))
   [some (.var [iv .i64 tm,.run .i64 9 (QS (un,ui,ur,uq,um) (Qw (un,ui,ur,uq,um) (r,op,at_,n0) o).1 I0).1,iv .i64 (QS (un,ui,ur,uq,um) (Qw (un,ui,ur,uq,um) (r,op,at_,n0) o).1 I0).2.1,iv .i64 (QS (un,ui,ur,uq,um) (Qw (un,ui,ur,uq,um) (r,op,at_,n0) o).1 I0).2.2.1,bv (QS (un,ui,ur,uq,um) (Qw (un,ui,ur,uq,um) (r,op,at_,n0) o).1 I0).2.2.2,.own 2,iv .i64 (Qw (un,ui,ur,uq,um) (r,op,at_,n0) o).2.1,iv .i64 (Qw (un,ui,ur,uq,um) (r,op,at_,n0) o).2.2.1,iv .i64 I0]),
    some (.var [.imm (.int .i64 0),.run .i64 9 (List.replicate 9 0),.imm (.int .i64 0),.imm (.int .i64 0),.imm (.bool false),.imm (.slice none 0 0),.imm (.int .i64 0),.imm (.int .i64 0),.imm (.int .i64 0)]),some (.arr Qp s.1),some (.arr (.int .i64) N0),some (.arr QL s.2)])
   (fun k s=>s.1=Qdr Qn bc D0 k∧s.2=newK tm bc (List.zipWith Qn bc D0) N0 k) (D0,[]) (.trans (Le.nil 19 QL rfl) (Le.mk [] [1,2,3,4,6] R R ?_ ?_)) ⟨(Qf4 _ _ _).symm,rfl⟩ fun u s hu hi=>?_
  ·exact QhG hI hD
  ·repeat' first |exact trivial |exact ⟨rfl,rfl⟩ |refine And.intro ?_ ?_
  generalize hT0:QS (un,ui,ur,uq,um) (Qw (un,ui,ur,uq,um) (r,op,at_,n0) o).1 I0=T0 at *
  generalize (Qw (un,ui,ur,uq,um) (r,op,at_,n0) o)=A0 at *
  obtain ⟨d,v⟩:=s
  obtain ⟨hi1,hi2⟩:=hi
  have hi1:d=Qdr Qn bc D0 u:=hi1
  have hi2:v=newK tm bc (List.zipWith Qn bc D0) N0 u:=hi2
  have hdl1:d.length=bc.length:=by rw [hi1,QbP hDl.symm hu];exact hDl
  have hdg:u < bc.length→d.getD u (dflt Qp)=D0.getD u (dflt Qp):=fun h=>by rw [hi1];exact QbQ hDl.symm h _
  have hds:u < bc.length→d.set u (Qn (bc.getD u (dflt Qh)) (D0.getD u (dflt Qp)))=Qdr Qn bc D0 (u+1):=fun h=>by rw [hi1];exact Qbl hDl.symm h _ _
  have hzl:bc.length=(List.zipWith Qn bc D0).length:=by rw [List.length_zipWith];omega
  have hzg:u < bc.length→(List.zipWith Qn bc D0).getD u (dflt Qp)=Qn (bc.getD u (dflt Qh)) (D0.getD u (dflt Qp)):=fun h=>QfP hDl.symm h
  have hns:u < bc.length→newK tm bc (List.zipWith Qn bc D0) N0 (u+1)=v++(if Qbi (bc.getD u (dflt Qh)) (Qn (bc.getD u (dflt Qh)) (D0.getD u (dflt Qp)))=N0.getD u 0 then [] else [(tm,(bc.getD u (dflt Qh)).1,Qbi (bc.getD u (dflt Qh)) (Qn (bc.getD u (dflt Qh)) (D0.getD u (dflt Qp))))]):=fun h=>by
   rw [QcW hzl hNl.symm h (dflt Qh) (dflt Qp),hzg h,hi2]
  have hol:v.length≤bc.length:=by
   rw [hi2]
   refine Nat.le_trans (Qbm _ _ _ _) ?_
   rw [List.length_take];omega
  repeat' first |(refine Go.mk ?_;conv=>whnf) |refine Ql.go ?_ ?_ |refine Qm.go (fun _=>?_) (fun _=>?_) |refine Br.dec (fun _=>?_) (fun _=>?_) |refine Br.go (fun _=>?_) (fun _=>?_) |refine Qd hT hP mixed ?_ |refine Qb hT hP ?_
  all_goals (try dsimp only [Qj] at *)
  ·have g:(u:Int) < (bc.length:Int):=by assumption
   show 0≤(u:Int)∧(u:Int) < (bc.length:Int)
   omega
  ·have g:(u:Int) < (bc.length:Int):=by assumption
   show 0≤(u:Int)∧(u:Int) < (d.length:Int)
   omega
  ·have g:(u:Int) < (bc.length:Int):=by assumption
   show u < d.length
   omega
  ·have g:(u:Int) < (bc.length:Int):=by assumption
   refine ⟨hc _ (QQ (dflt Qh) (show u < bc.length by omega)),?_⟩
   show dP (d.getD u (dflt Qp))
   rw [hdg (by omega)]
   exact hDd _ (QQ (dflt Qp) (show u < D0.length by omega))
  ·have g:(u:Int) < (bc.length:Int):=by assumption
   show 0≤(u:Int)∧(u:Int) < (d.length:Int)
   omega
  ·have g:(u:Int) < (bc.length:Int):=by assumption
   show u < d.length
   omega
  ·have g:(u:Int) < (bc.length:Int):=by assumption
   show 0≤(u:Int)∧(u:Int) < (List.length (d.set _ _):Int)
   rw [List.length_set];omega
  ·have g:(u:Int) < (bc.length:Int):=by assumption
   show u < List.length (d.set _ _)
   rw [List.length_set];omega
  ·have g:(u:Int) < (bc.length:Int):=by assumption
   refine ⟨hc _ (QQ (dflt Qh) (show u < bc.length by omega)),?_⟩
   show dP ((d.set u (Qn (bc.getD u (dflt Qh)) (d.getD u (dflt Qp)))).getD u (dflt Qp))
   rw [Qai (show u < d.length by omega),hdg (by omega),← hzg (by omega)]
   exact hTd _ (QQ (dflt Qp) (show u < (List.zipWith Qn bc D0).length by omega))
  ·have g:(u:Int) < (bc.length:Int):=by assumption
   show 0≤(u:Int)∧(u:Int) < (N0.length:Int)
   omega
  ·have g:(u:Int) < (bc.length:Int):=by assumption
   show u < N0.length
   omega
  ·have g:(u:Int) < (bc.length:Int):=by assumption
   show (v.length+1)*32≤140737488355328
   omega
  ·rename_i g g2
   have g:(u:Int) < (bc.length:Int):=g
   have e1:(d.set u (Qn (bc.getD u (dflt Qh)) (d.getD u (dflt Qp)))).getD u (dflt Qp)=Qn (bc.getD u (dflt Qh)) (D0.getD u (dflt Qp)):=by rw [Qai (show u < d.length by omega),hdg (by omega)]
   have g2:(Qbi (bc.getD u (dflt Qh)) ((d.set u (Qn (bc.getD u (dflt Qh)) (d.getD u (dflt Qp)))).getD u (dflt Qp)) != N0.getD u 0)=true:=g2
   rw [e1] at g2
   have g3:¬ Qbi (bc.getD u (dflt Qh)) (Qn (bc.getD u (dflt Qh)) (D0.getD u (dflt Qp)))=N0.getD u 0:=by simpa using g2
   have hns:=hns (by omega)
   rw [if_neg g3] at hns
   have hds:=hds (by omega)
   rw [← hdg (by omega)] at hds
   apply Exists.intro
   apply Exists.intro (_,_)
   refine And.intro (And.intro ?lt621 (And.intro ?ei621 ?inv621)) (Le.mk [] [0,1,2,3,9] R R ?hh621 ?ht621)
   case hh621=>exact rfl
   case ht621=>repeat' first |exact trivial |exact ⟨rfl,rfl⟩ |refine And.intro ?_ ?_
   case lt621=>omega
   case ei621=>exact QW (by omega)
   refine ⟨hds,?_⟩
   rw [hns,← e1]
   try rfl
  ·rename_i g g2
   have g:(u:Int) < (bc.length:Int):=g
   have e1:(d.set u (Qn (bc.getD u (dflt Qh)) (d.getD u (dflt Qp)))).getD u (dflt Qp)=Qn (bc.getD u (dflt Qh)) (D0.getD u (dflt Qp)):=by rw [Qai (show u < d.length by omega),hdg (by omega)]
   have g2:(Qbi (bc.getD u (dflt Qh)) ((d.set u (Qn (bc.getD u (dflt Qh)) (d.getD u (dflt Qp)))).getD u (dflt Qp)) != N0.getD u 0)=false:=g2
   rw [e1] at g2
   have g3:Qbi (bc.getD u (dflt Qh)) (Qn (bc.getD u (dflt Qh)) (D0.getD u (dflt Qp)))=N0.getD u 0:=by simpa using g2
   have hns:=hns (by omega)
   rw [if_pos g3,List.append_nil] at hns
   have hds:=hds (by omega)
   rw [← hdg (by omega)] at hds
   apply Exists.intro
   apply Exists.intro (_,v)
   refine And.intro (And.intro ?lt641 (And.intro ?ei641 ?inv641)) (Le.mk [] [0,1,2,3,4] R R ?hh641 ?ht641)
   case hh641=>exact rfl
   case ht641=>repeat' first |exact trivial |exact ⟨rfl,rfl⟩ |refine And.intro ?_ ?_
   case lt641=>omega
   case ei641=>exact QW (by omega)
   exact ⟨hds,hns.symm⟩
  ·rename_i g
   have g:¬ (u:Int) < (bc.length:Int):=g
   have e1:d=List.zipWith Qn bc D0:=by rw [hi1,Qbz hDl.symm (by omega)]
   have e2:v=Qgd tm bc (List.zipWith Qn bc D0) N0:=by
    rw [hi2];unfold newK
    rw [List.take_of_length_le (by omega),List.take_of_length_le (by omega),List.take_of_length_le (by omega)]
   have e3:IntKind.i64.wrap (Qad tm (-1) 1099511627775+1)=Qed tm:=Qfh tm
   have e:((IntKind.i64.wrap (Qad tm (-1) 1099511627775+1),T0,d,A0.2.1,A0.2.2.1,I0),v)=Qz (bn,(un,ui,ur,uq,um),bc,bw) (tm,(r,op,at_,nmi),ds,bd,ba,bdt) l:=by rw [hcy,e1,e2,e3]
   exact .mk [] [2,4] _ R R R R R (congrArg (fun z:Mach × List Inp=>[some (Blk.arr Qp z.1.2.2.1),some (Blk.arr QL z.2)]) e) (congrArg (fun z:Mach × List Inp=>AV.tup [QfQ z.1 0,.c (.own 1)]) e)
 ·rename_i gx gb gc hf
  have gx:¬ (q:Int) < (bc.length:Int):=gx
  have ho:=hLine gx
  have hac:=QdM (b:=(bn,(un,ui,ur,uq,um),bc,bw)) (ds:=d0) (x:=(Qw (un,ui,ur,uq,um) (r,op,at_,n0) o).2) hL1 h3 hok.1
  have hI:(Qw (un,ui,ur,uq,um) (r,op,at_,n0) o).2.2.2=Qc0 (bn,(un,ui,ur,uq,um),bc,bw) d0 (Qw (un,ui,ur,uq,um) (r,op,at_,n0) o).2:=by
   exact (Qiu (b:=(bn,(un,ui,ur,uq,um),bc,bw)) (x:=(Qw (un,ui,ur,uq,um) (r,op,at_,n0) o).2) gb).symm
  have hD:d0.set (Qv (bn,(un,ui,ur,uq,um),bc,bw) (Qw (un,ui,ur,uq,um) (r,op,at_,n0) o).2.2.1).toNat (QbL (bc.getD (Qv (bn,(un,ui,ur,uq,um),bc,bw) (Qw (un,ui,ur,uq,um) (r,op,at_,n0) o).2.2.1).toNat (dflt Qh)) (d0.getD (Qv (bn,(un,ui,ur,uq,um),bc,bw) (Qw (un,ui,ur,uq,um) (r,op,at_,n0) o).2.2.1).toNat (dflt Qp)) (IntKind.i64.wrap ((Qw (un,ui,ur,uq,um) (r,op,at_,n0) o).2.2.1-(bc.getD (Qv (bn,(un,ui,ur,uq,um),bc,bw) (Qw (un,ui,ur,uq,um) (r,op,at_,n0) o).2.2.1).toNat (dflt Qh)).2.2.1)) (Qw (un,ui,ur,uq,um) (r,op,at_,n0) o).2.2.2)=Qbo (bn,(un,ui,ur,uq,um),bc,bw) d0 (Qw (un,ui,ur,uq,um) (r,op,at_,n0) o).2:=by
   rw [Quu (b:=(bn,(un,ui,ur,uq,um),bc,bw)) hbP hf]
   exact (QyJ (b:=(bn,(un,ui,ur,uq,um),bc,bw)) (x:=(Qw (un,ui,ur,uq,um) (r,op,at_,n0) o).2) hf gc).symm
  have hcy:Qz (bn,(un,ui,ur,uq,um),bc,bw) (tm,(r,op,at_,nmi),ds,bd,ba,bdt) l=((Qed tm,QS (un,ui,ur,uq,um) (Qw (un,ui,ur,uq,um) (r,op,at_,n0) o).1 (Qc0 (bn,(un,ui,ur,uq,um),bc,bw) d0 (Qw (un,ui,ur,uq,um) (r,op,at_,n0) o).2),List.zipWith Qn bc (Qbo (bn,(un,ui,ur,uq,um),bc,bw) d0 (Qw (un,ui,ur,uq,um) (r,op,at_,n0) o).2),(Qw (un,ui,ur,uq,um) (r,op,at_,n0) o).2.1,(Qw (un,ui,ur,uq,um) (r,op,at_,n0) o).2.2.1,Qc0 (bn,(un,ui,ur,uq,um),bc,bw) d0 (Qw (un,ui,ur,uq,um) (r,op,at_,n0) o).2),Qgd tm bc (List.zipWith Qn bc (Qbo (bn,(un,ui,ur,uq,um),bc,bw) d0 (Qw (un,ui,ur,uq,um) (r,op,at_,n0) o).2)) N0):=by
   subst ho
   unfold Qz
   simp only [eG]
   rw [← hN0]
  have hDl:(Qbo (bn,(un,ui,ur,uq,um),bc,bw) d0 (Qw (un,ui,ur,uq,um) (r,op,at_,n0) o).2).length=bc.length:=by rw [hac.2];exact hdl.symm
  have hDd:∀ d ∈ Qbo (bn,(un,ui,ur,uq,um),bc,bw) d0 (Qw (un,ui,ur,uq,um) (r,op,at_,n0) o).2,dP d:=fun d h=>(hac.1 d h).dP hL
  have hTd:∀ d ∈ List.zipWith Qn bc (Qbo (bn,(un,ui,ur,uq,um),bc,bw) d0 (Qw (un,ui,ur,uq,um) (r,op,at_,n0) o).2),dP d:=fun d h=>(Qbv h3 hac.1 d h).dP hL
  generalize hD1:Qbo (bn,(un,ui,ur,uq,um),bc,bw) d0 (Qw (un,ui,ur,uq,um) (r,op,at_,n0) o).2=D0 at *
  generalize hI1:Qc0 (bn,(un,ui,ur,uq,um),bc,bw) d0 (Qw (un,ui,ur,uq,um) (r,op,at_,n0) o).2=I0 at *
  refine QO hT hP (A:=List Dv × List Inp) bc.length (fun i s=>St.mk (E3 (E1 ((.cell (.ptr 0 0)) :: E1 ((.cell (.ptr 1 0)) :: E1 ((.cell (.own 3)) :: E10 ((.cell (.own 4)) :: E40 (E40 (E40 (E40 (E40 (E10 (E5 (E3 (E1 ((.cell (.ro Qh bc)) :: (I bc.length) :: (I i) :: E40 (E5 []))))))))))))))))
   [some (.var [iv .i64 tm,.run .i64 9 (QS (un,ui,ur,uq,um) (Qw (un,ui,ur,uq,um) (r,op,at_,n0) o).1 I0).1,iv .i64 (QS (un,ui,ur,uq,um) (Qw (un,ui,ur,uq,um) (r,op,at_,n0) o).1 I0).2.1,iv .i64 (QS (un,ui,ur,uq,um) (Qw (un,ui,ur,uq,um) (r,op,at_,n0) o).1 I0).2.2.1,bv (QS (un,ui,ur,uq,um) (Qw (un,ui,ur,uq,um) (r,op,at_,n0) o).1 I0).2.2.2,.own 2,iv .i64 (Qw (un,ui,ur,uq,um) (r,op,at_,n0) o).2.1,iv .i64 (Qw (un,ui,ur,uq,um) (r,op,at_,n0) o).2.2.1,iv .i64 I0]),
    some (.var [.imm (.int .i64 0),.run .i64 9 (List.replicate 9 0),.imm (.int .i64 0),.imm (.int .i64 0),.imm (.bool false),.imm (.slice none 0 0),.imm (.int .i64 0),.imm (.int .i64 0),.imm (.int .i64 0)]),some (.arr Qp s.1),some (.arr (.int .i64) N0),some (.arr QL s.2)])
   (fun k s=>s.1=Qdr Qn bc D0 k∧s.2=newK tm bc (List.zipWith Qn bc D0) N0 k) (D0,[]) (.trans (Le.nil 19 QL rfl) (Le.mk [] [1,2,3,4,8] R R ?_ ?_)) ⟨(Qf4 _ _ _).symm,rfl⟩ fun u s hu hi=>?_
  ·exact QhG hI hD
  ·repeat' first |exact trivial |exact ⟨rfl,rfl⟩ |refine And.intro ?_ ?_
  generalize hT0:QS (un,ui,ur,uq,um) (Qw (un,ui,ur,uq,um) (r,op,at_,n0) o).1 I0=T0 at *
  generalize (Qw (un,ui,ur,uq,um) (r,op,at_,n0) o)=A0 at *
  obtain ⟨d,v⟩:=s
  obtain ⟨hi1,hi2⟩:=hi
  have hi1:d=Qdr Qn bc D0 u:=hi1
  have hi2:v=newK tm bc (List.zipWith Qn bc D0) N0 u:=hi2
  have hdl1:d.length=bc.length:=by rw [hi1,QbP hDl.symm hu];exact hDl
  have hdg:u < bc.length→d.getD u (dflt Qp)=D0.getD u (dflt Qp):=fun h=>by rw [hi1];exact QbQ hDl.symm h _
  have hds:u < bc.length→d.set u (Qn (bc.getD u (dflt Qh)) (D0.getD u (dflt Qp)))=Qdr Qn bc D0 (u+1):=fun h=>by rw [hi1];exact Qbl hDl.symm h _ _
  have hzl:bc.length=(List.zipWith Qn bc D0).length:=by rw [List.length_zipWith];omega
  have hzg:u < bc.length→(List.zipWith Qn bc D0).getD u (dflt Qp)=Qn (bc.getD u (dflt Qh)) (D0.getD u (dflt Qp)):=fun h=>QfP hDl.symm h
  have hns:u < bc.length→newK tm bc (List.zipWith Qn bc D0) N0 (u+1)=v++(if Qbi (bc.getD u (dflt Qh)) (Qn (bc.getD u (dflt Qh)) (D0.getD u (dflt Qp)))=N0.getD u 0 then [] else [(tm,(bc.getD u (dflt Qh)).1,Qbi (bc.getD u (dflt Qh)) (Qn (bc.getD u (dflt Qh)) (D0.getD u (dflt Qp))))]):=fun h=>by
   rw [QcW hzl hNl.symm h (dflt Qh) (dflt Qp),hzg h,hi2]
  have hol:v.length≤bc.length:=by
   rw [hi2]
   refine Nat.le_trans (Qbm _ _ _ _) ?_
   rw [List.length_take];omega
  repeat' first |(refine Go.mk ?_;conv=>whnf) |refine Ql.go ?_ ?_ |refine Qm.go (fun _=>?_) (fun _=>?_) |refine Br.dec (fun _=>?_) (fun _=>?_) |refine Br.go (fun _=>?_) (fun _=>?_) |refine Qd hT hP mixed ?_ |refine Qb hT hP ?_
  all_goals (try dsimp only [Qj] at *)
  ·have g:(u:Int) < (bc.length:Int):=by assumption
   show 0≤(u:Int)∧(u:Int) < (bc.length:Int)
   omega
  ·have g:(u:Int) < (bc.length:Int):=by assumption
   show 0≤(u:Int)∧(u:Int) < (d.length:Int)
   omega
  ·have g:(u:Int) < (bc.length:Int):=by assumption
   show u < d.length
   omega
  ·have g:(u:Int) < (bc.length:Int):=by assumption
   refine ⟨hc _ (QQ (dflt Qh) (show u < bc.length by omega)),?_⟩
   show dP (d.getD u (dflt Qp))
   rw [hdg (by omega)]
   exact hDd _ (QQ (dflt Qp) (show u < D0.length by omega))
  ·have g:(u:Int) < (bc.length:Int):=by assumption
   show 0≤(u:Int)∧(u:Int) < (d.length:Int)
   omega
  ·have g:(u:Int) < (bc.length:Int):=by assumption
   show u < d.length
   omega
  ·have g:(u:Int) < (bc.length:Int):=by assumption
   show 0≤(u:Int)∧(u:Int) < (List.length (d.set _ _):Int)
   rw [List.length_set];omega
  ·have g:(u:Int) < (bc.length:Int):=by assumption
   show u < List.length (d.set _ _)
   rw [List.length_set];omega
  ·have g:(u:Int) < (bc.length:Int):=by assumption
   refine ⟨hc _ (QQ (dflt Qh) (show u < bc.length by omega)),?_⟩
   show dP ((d.set u (Qn (bc.getD u (dflt Qh)) (d.getD u (dflt Qp)))).getD u (dflt Qp))
   rw [Qai (show u < d.length by omega),hdg (by omega),← hzg (by omega)]
   exact hTd _ (QQ (dflt Qp) (show u < (List.zipWith Qn bc D0).length by omega))
  ·have g:(u:Int) < (bc.length:Int):=by assumption
   show 0≤(u:Int)∧(u:Int) < (N0.length:Int)
   omega
  ·have g:(u:Int) < (bc.length:Int):=by assumption
   show u < N0.length
   omega
  ·have g:(u:Int) < (bc.length:Int):=by assumption
   show (v.length+1)*32≤140737488355328
   omega
  ·rename_i g g2
   have g:(u:Int) < (bc.length:Int):=g
   have e1:(d.set u (Qn (bc.getD u (dflt Qh)) (d.getD u (dflt Qp)))).getD u (dflt Qp)=Qn (bc.getD u (dflt Qh)) (D0.getD u (dflt Qp)):=by rw [Qai (show u < d.length by omega),hdg (by omega)]
   have g2:(Qbi (bc.getD u (dflt Qh)) ((d.set u (Qn (bc.getD u (dflt Qh)) (d.getD u (dflt Qp)))).getD u (dflt Qp)) != N0.getD u 0)=true:=g2
   rw [e1] at g2
   have g3:¬ Qbi (bc.getD u (dflt Qh)) (Qn (bc.getD u (dflt Qh)) (D0.getD u (dflt Qp)))=N0.getD u 0:=by simpa using g2
   have hns:=hns (by omega)
   rw [if_neg g3] at hns
   have hds:=hds (by omega)
   rw [← hdg (by omega)] at hds
   apply Exists.intro
   apply Exists.intro (_,_)
   refine And.intro (And.intro ?lt752 (And.intro ?ei752 ?inv752)) (Le.mk [] [0,1,2,3,9] R R ?hh752 ?ht752)
   case hh752=>exact rfl
   case ht752=>repeat' first |exact trivial |exact ⟨rfl,rfl⟩ |refine And.intro ?_ ?_
   case lt752=>omega
   case ei752=>exact QW (by omega)
   refine ⟨hds,?_⟩
   rw [hns,← e1]
   try rfl
  ·rename_i g g2
   have g:(u:Int) < (bc.length:Int):=g
   have e1:(d.set u (Qn (bc.getD u (dflt Qh)) (d.getD u (dflt Qp)))).getD u (dflt Qp)=Qn (bc.getD u (dflt Qh)) (D0.getD u (dflt Qp)):=by rw [Qai (show u < d.length by omega),hdg (by omega)]
   have g2:(Qbi (bc.getD u (dflt Qh)) ((d.set u (Qn (bc.getD u (dflt Qh)) (d.getD u (dflt Qp)))).getD u (dflt Qp)) != N0.getD u 0)=false:=g2
   rw [e1] at g2
   have g3:Qbi (bc.getD u (dflt Qh)) (Qn (bc.getD u (dflt Qh)) (D0.getD u (dflt Qp)))=N0.getD u 0:=by simpa using g2
   have hns:=hns (by omega)
   rw [if_pos g3,List.append_nil] at hns
   have hds:=hds (by omega)
   rw [← hdg (by omega)] at hds
   apply Exists.intro
   apply Exists.intro (_,v)
   refine And.intro (And.intro ?lt772 (And.intro ?ei772 ?inv772)) (Le.mk [] [0,1,2,3,4] R R ?hh772 ?ht772)
   case hh772=>exact rfl
   case ht772=>repeat' first |exact trivial |exact ⟨rfl,rfl⟩ |refine And.intro ?_ ?_
   case lt772=>omega
   case ei772=>exact QW (by omega)
   exact ⟨hds,hns.symm⟩
  ·rename_i g
   have g:¬ (u:Int) < (bc.length:Int):=g
   have e1:d=List.zipWith Qn bc D0:=by rw [hi1,Qbz hDl.symm (by omega)]
   have e2:v=Qgd tm bc (List.zipWith Qn bc D0) N0:=by
    rw [hi2];unfold newK
    rw [List.take_of_length_le (by omega),List.take_of_length_le (by omega),List.take_of_length_le (by omega)]
   have e3:IntKind.i64.wrap (Qad tm (-1) 1099511627775+1)=Qed tm:=Qfh tm
   have e:((IntKind.i64.wrap (Qad tm (-1) 1099511627775+1),T0,d,A0.2.1,A0.2.2.1,I0),v)=Qz (bn,(un,ui,ur,uq,um),bc,bw) (tm,(r,op,at_,nmi),ds,bd,ba,bdt) l:=by rw [hcy,e1,e2,e3]
   exact .mk [] [2,4] _ R R R R R (congrArg (fun z:Mach × List Inp=>[some (Blk.arr Qp z.1.2.2.1),some (Blk.arr QL z.2)]) e) (congrArg (fun z:Mach × List Inp=>AV.tup [QfQ z.1 0,.c (.own 1)]) e)
 ·rename_i gx gb gc hf
  have gx:¬ (q:Int) < (bc.length:Int):=gx
  have ho:=hLine gx
  have hac:=QdM (b:=(bn,(un,ui,ur,uq,um),bc,bw)) (ds:=d0) (x:=(Qw (un,ui,ur,uq,um) (r,op,at_,n0) o).2) hL1 h3 hok.1
  have hI:(Qw (un,ui,ur,uq,um) (r,op,at_,n0) o).2.2.2=Qc0 (bn,(un,ui,ur,uq,um),bc,bw) d0 (Qw (un,ui,ur,uq,um) (r,op,at_,n0) o).2:=by
   exact (Qiu (b:=(bn,(un,ui,ur,uq,um),bc,bw)) (x:=(Qw (un,ui,ur,uq,um) (r,op,at_,n0) o).2) gb).symm
  have hD:d0=Qbo (bn,(un,ui,ur,uq,um),bc,bw) d0 (Qw (un,ui,ur,uq,um) (r,op,at_,n0) o).2:=by
   exact (QoY (b:=(bn,(un,ui,ur,uq,um),bc,bw)) (x:=(Qw (un,ui,ur,uq,um) (r,op,at_,n0) o).2) hf).symm
  have hcy:Qz (bn,(un,ui,ur,uq,um),bc,bw) (tm,(r,op,at_,nmi),ds,bd,ba,bdt) l=((Qed tm,QS (un,ui,ur,uq,um) (Qw (un,ui,ur,uq,um) (r,op,at_,n0) o).1 (Qc0 (bn,(un,ui,ur,uq,um),bc,bw) d0 (Qw (un,ui,ur,uq,um) (r,op,at_,n0) o).2),List.zipWith Qn bc (Qbo (bn,(un,ui,ur,uq,um),bc,bw) d0 (Qw (un,ui,ur,uq,um) (r,op,at_,n0) o).2),(Qw (un,ui,ur,uq,um) (r,op,at_,n0) o).2.1,(Qw (un,ui,ur,uq,um) (r,op,at_,n0) o).2.2.1,Qc0 (bn,(un,ui,ur,uq,um),bc,bw) d0 (Qw (un,ui,ur,uq,um) (r,op,at_,n0) o).2),Qgd tm bc (List.zipWith Qn bc (Qbo (bn,(un,ui,ur,uq,um),bc,bw) d0 (Qw (un,ui,ur,uq,um) (r,op,at_,n0) o).2)) N0):=by
   subst ho
   unfold Qz
   simp only [eG]
   rw [← hN0]
  have hDl:(Qbo (bn,(un,ui,ur,uq,um),bc,bw) d0 (Qw (un,ui,ur,uq,um) (r,op,at_,n0) o).2).length=bc.length:=by rw [hac.2];exact hdl.symm
  have hDd:∀ d ∈ Qbo (bn,(un,ui,ur,uq,um),bc,bw) d0 (Qw (un,ui,ur,uq,um) (r,op,at_,n0) o).2,dP d:=fun d h=>(hac.1 d h).dP hL
  have hTd:∀ d ∈ List.zipWith Qn bc (Qbo (bn,(un,ui,ur,uq,um),bc,bw) d0 (Qw (un,ui,ur,uq,um) (r,op,at_,n0) o).2),dP d:=fun d h=>(Qbv h3 hac.1 d h).dP hL
  generalize hD1:Qbo (bn,(un,ui,ur,uq,um),bc,bw) d0 (Qw (un,ui,ur,uq,um) (r,op,at_,n0) o).2=D0 at *
  generalize hI1:Qc0 (bn,(un,ui,ur,uq,um),bc,bw) d0 (Qw (un,ui,ur,uq,um) (r,op,at_,n0) o).2=I0 at *
  refine QO hT hP (A:=List Dv × List Inp) bc.length (fun i s=>St.mk (E3 (E1 ((.cell (.ptr 0 0)) :: E1 ((.cell (.ptr 1 0)) :: E1 ((.cell (.own 3)) :: E10 ((.cell (.own 4)) :: E40 (E40 (E40 (E40 (E40 (E10 (E5 (E3 (E1 ((.cell (.ro Qh bc)) :: (I bc.length) :: (I i) :: E40 (E5 []))))))))))))))))
   [some (.var [iv .i64 tm,.run .i64 9 (QS (un,ui,ur,uq,um) (Qw (un,ui,ur,uq,um) (r,op,at_,n0) o).1 I0).1,iv .i64 (QS (un,ui,ur,uq,um) (Qw (un,ui,ur,uq,um) (r,op,at_,n0) o).1 I0).2.1,iv .i64 (QS (un,ui,ur,uq,um) (Qw (un,ui,ur,uq,um) (r,op,at_,n0) o).1 I0).2.2.1,bv (QS (un,ui,ur,uq,um) (Qw (un,ui,ur,uq,um) (r,op,at_,n0) o).1 I0).2.2.2,.own 2,iv .i64 (Qw (un,ui,ur,uq,um) (r,op,at_,n0) o).2.1,iv .i64 (Qw (un,ui,ur,uq,um) (r,op,at_,n0) o).2.2.1,iv .i64 I0]),
    some (.var [.imm (.int .i64 0),.run .i64 9 (List.replicate 9 0),.imm (.int .i64 0),.imm (.int .i64 0),.imm (.bool false),.imm (.slice none 0 0),.imm (.int .i64 0),.imm (.int .i64 0),.imm (.int .i64 0)]),some (.arr Qp s.1),some (.arr (.int .i64) N0),some (.arr QL s.2)])
   (fun k s=>s.1=Qdr Qn bc D0 k∧s.2=newK tm bc (List.zipWith Qn bc D0) N0 k) (D0,[]) (.trans (Le.nil 19 QL rfl) (Le.mk [] [1,2,3,4,6] R R ?_ ?_)) ⟨(Qf4 _ _ _).symm,rfl⟩ fun u s hu hi=>?_
  ·exact QhG hI hD
  ·repeat' first |exact trivial |exact ⟨rfl,rfl⟩ |refine And.intro ?_ ?_
  generalize hT0:QS (un,ui,ur,uq,um) (Qw (un,ui,ur,uq,um) (r,op,at_,n0) o).1 I0=T0 at *
  generalize (Qw (un,ui,ur,uq,um) (r,op,at_,n0) o)=A0 at *
  obtain ⟨d,v⟩:=s
  obtain ⟨hi1,hi2⟩:=hi
  have hi1:d=Qdr Qn bc D0 u:=hi1
  have hi2:v=newK tm bc (List.zipWith Qn bc D0) N0 u:=hi2
  have hdl1:d.length=bc.length:=by rw [hi1,QbP hDl.symm hu];exact hDl
  have hdg:u < bc.length→d.getD u (dflt Qp)=D0.getD u (dflt Qp):=fun h=>by rw [hi1];exact QbQ hDl.symm h _
  have hds:u < bc.length→d.set u (Qn (bc.getD u (dflt Qh)) (D0.getD u (dflt Qp)))=Qdr Qn bc D0 (u+1):=fun h=>by rw [hi1];exact Qbl hDl.symm h _ _
  have hzl:bc.length=(List.zipWith Qn bc D0).length:=by rw [List.length_zipWith];omega
  have hzg:u < bc.length→(List.zipWith Qn bc D0).getD u (dflt Qp)=Qn (bc.getD u (dflt Qh)) (D0.getD u (dflt Qp)):=fun h=>QfP hDl.symm h
  have hns:u < bc.length→newK tm bc (List.zipWith Qn bc D0) N0 (u+1)=v++(if Qbi (bc.getD u (dflt Qh)) (Qn (bc.getD u (dflt Qh)) (D0.getD u (dflt Qp)))=N0.getD u 0 then [] else [(tm,(bc.getD u (dflt Qh)).1,Qbi (bc.getD u (dflt Qh)) (Qn (bc.getD u (dflt Qh)) (D0.getD u (dflt Qp))))]):=fun h=>by
   rw [QcW hzl hNl.symm h (dflt Qh) (dflt Qp),hzg h,hi2]
  have hol:v.length≤bc.length:=by
   rw [hi2]
   refine Nat.le_trans (Qbm _ _ _ _) ?_
   rw [List.length_take];omega
  repeat' first |(refine Go.mk ?_;conv=>whnf) |refine Ql.go ?_ ?_ |refine Qm.go (fun _=>?_) (fun _=>?_) |refine Br.dec (fun _=>?_) (fun _=>?_) |refine Br.go (fun _=>?_) (fun _=>?_) |refine Qd hT hP mixed ?_ |refine Qb hT hP ?_
  all_goals (try dsimp only [Qj] at *)
  ·have g:(u:Int) < (bc.length:Int):=by assumption
   show 0≤(u:Int)∧(u:Int) < (bc.length:Int)
   omega
  ·have g:(u:Int) < (bc.length:Int):=by assumption
   show 0≤(u:Int)∧(u:Int) < (d.length:Int)
   omega
  ·have g:(u:Int) < (bc.length:Int):=by assumption
   show u < d.length
   omega
  ·have g:(u:Int) < (bc.length:Int):=by assumption
   refine ⟨hc _ (QQ (dflt Qh) (show u < bc.length by omega)),?_⟩
   show dP (d.getD u (dflt Qp))
   rw [hdg (by omega)]
   exact hDd _ (QQ (dflt Qp) (show u < D0.length by omega))
  ·have g:(u:Int) < (bc.length:Int):=by assumption
   show 0≤(u:Int)∧(u:Int) < (d.length:Int)
   omega
  ·have g:(u:Int) < (bc.length:Int):=by assumption
   show u < d.length
   omega
  ·have g:(u:Int) < (bc.length:Int):=by assumption
   show 0≤(u:Int)∧(u:Int) < (List.length (d.set _ _):Int)
   rw [List.length_set];omega
  ·have g:(u:Int) < (bc.length:Int):=by assumption
   show u < List.length (d.set _ _)
   rw [List.length_set];omega
  ·have g:(u:Int) < (bc.length:Int):=by assumption
   refine ⟨hc _ (QQ (dflt Qh) (show u < bc.length by omega)),?_⟩
   show dP ((d.set u (Qn (bc.getD u (dflt Qh)) (d.getD u (dflt Qp)))).getD u (dflt Qp))
   rw [Qai (show u < d.length by omega),hdg (by omega),← hzg (by omega)]
   exact hTd _ (QQ (dflt Qp) (show u < (List.zipWith Qn bc D0).length by omega))
  ·have g:(u:Int) < (bc.length:Int):=by assumption
   show 0≤(u:Int)∧(u:Int) < (N0.length:Int)
   omega
  ·have g:(u:Int) < (bc.length:Int):=by assumption
   show u < N0.length
   omega
  ·have g:(u:Int) < (bc.length:Int):=by assumption
   show (v.length+1)*32≤140737488355328
   omega
  ·rename_i g g2
   have g:(u:Int) < (bc.length:Int):=g
   have e1:(d.set u (Qn (bc.getD u (dflt Qh)) (d.getD u (dflt Qp)))).getD u (dflt Qp)=Qn (bc.getD u (dflt Qh)) (D0.getD u (dflt Qp)):=by rw [Qai (show u < d.length by omega),hdg (by omega)]
   have g2:(Qbi (bc.getD u (dflt Qh)) ((d.set u (Qn (bc.getD u (dflt Qh)) (d.getD u (dflt Qp)))).getD u (dflt Qp)) != N0.getD u 0)=true:=g2
   rw [e1] at g2
   have g3:¬ Qbi (bc.getD u (dflt Qh)) (Qn (bc.getD u (dflt Qh)) (D0.getD u (dflt Qp)))=N0.getD u 0:=by simpa using g2
   have hns:=hns (by omega)
   rw [if_neg g3] at hns
   have hds:=hds (by omega)
   rw [← hdg (by omega)] at hds
   apply Exists.intro
   apply Exists.intro (_,_)
   refine And.intro (And.intro ?lt882 (And.intro ?ei882 ?inv882)) (Le.mk [] [0,1,2,3,9] R R ?hh882 ?ht882)
   case hh882=>exact rfl
   case ht882=>repeat' first |exact trivial |exact ⟨rfl,rfl⟩ |refine And.intro ?_ ?_
   case lt882=>omega
   case ei882=>exact QW (by omega)
   refine ⟨hds,?_⟩
   rw [hns,← e1]
   try rfl
  ·rename_i g g2
   have g:(u:Int) < (bc.length:Int):=g
   have e1:(d.set u (Qn (bc.getD u (dflt Qh)) (d.getD u (dflt Qp)))).getD u (dflt Qp)=Qn (bc.getD u (dflt Qh)) (D0.getD u (dflt Qp)):=by rw [Qai (show u < d.length by omega),hdg (by omega)]
   have g2:(Qbi (bc.getD u (dflt Qh)) ((d.set u (Qn (bc.getD u (dflt Qh)) (d.getD u (dflt Qp)))).getD u (dflt Qp)) != N0.getD u 0)=false:=g2
   rw [e1] at g2
   have g3:Qbi (bc.getD u (dflt Qh)) (Qn (bc.getD u (dflt Qh)) (D0.getD u (dflt Qp)))=N0.getD u 0:=by simpa using g2
   have hns:=hns (by omega)
   rw [if_pos g3,List.append_nil] at hns
   have hds:=hds (by omega)
   rw [← hdg (by omega)] at hds
   apply Exists.intro
   apply Exists.intro (_,v)
   refine And.intro (And.intro ?lt902 (And.intro ?ei902 ?inv902)) (Le.mk [] [0,1,2,3,4] R R ?hh902 ?ht902)
   case hh902=>exact rfl
   case ht902=>repeat' first |exact trivial |exact ⟨rfl,rfl⟩ |refine And.intro ?_ ?_
   case lt902=>omega
   case ei902=>exact QW (by omega)
   exact ⟨hds,hns.symm⟩
  ·rename_i g
   have g:¬ (u:Int) < (bc.length:Int):=g
   have e1:d=List.zipWith Qn bc D0:=by rw [hi1,Qbz hDl.symm (by omega)]
   have e2:v=Qgd tm bc (List.zipWith Qn bc D0) N0:=by
    rw [hi2];unfold newK
    rw [List.take_of_length_le (by omega),List.take_of_length_le (by omega),List.take_of_length_le (by omega)]
   have e3:IntKind.i64.wrap (Qad tm (-1) 1099511627775+1)=Qed tm:=Qfh tm
   have e:((IntKind.i64.wrap (Qad tm (-1) 1099511627775+1),T0,d,A0.2.1,A0.2.2.1,I0),v)=Qz (bn,(un,ui,ur,uq,um),bc,bw) (tm,(r,op,at_,nmi),ds,bd,ba,bdt) l:=by rw [hcy,e1,e2,e3]
   exact .mk [] [2,4] _ R R R R R (congrArg (fun z:Mach × List Inp=>[some (Blk.arr Qp z.1.2.2.1),some (Blk.arr QL z.2)]) e) (congrArg (fun z:Mach × List Inp=>AV.tup [QfQ z.1 0,.c (.own 1)]) e)
 ·rename_i gx gb gc
  have gx:¬ (q:Int) < (bc.length:Int):=gx
  have ho:=hLine gx
  have hac:=QdM (b:=(bn,(un,ui,ur,uq,um),bc,bw)) (ds:=d0) (x:=(Qw (un,ui,ur,uq,um) (r,op,at_,n0) o).2) hL1 h3 hok.1
  have hI:(Qw (un,ui,ur,uq,um) (r,op,at_,n0) o).2.2.2=Qc0 (bn,(un,ui,ur,uq,um),bc,bw) d0 (Qw (un,ui,ur,uq,um) (r,op,at_,n0) o).2:=by
   exact (Qiu (b:=(bn,(un,ui,ur,uq,um),bc,bw)) (x:=(Qw (un,ui,ur,uq,um) (r,op,at_,n0) o).2) gb).symm
  have hD:d0=Qbo (bn,(un,ui,ur,uq,um),bc,bw) d0 (Qw (un,ui,ur,uq,um) (r,op,at_,n0) o).2:=by
   exact (QyK (b:=(bn,(un,ui,ur,uq,um),bc,bw)) (x:=(Qw (un,ui,ur,uq,um) (r,op,at_,n0) o).2) gb gc).symm
  have hcy:Qz (bn,(un,ui,ur,uq,um),bc,bw) (tm,(r,op,at_,nmi),ds,bd,ba,bdt) l=((Qed tm,QS (un,ui,ur,uq,um) (Qw (un,ui,ur,uq,um) (r,op,at_,n0) o).1 (Qc0 (bn,(un,ui,ur,uq,um),bc,bw) d0 (Qw (un,ui,ur,uq,um) (r,op,at_,n0) o).2),List.zipWith Qn bc (Qbo (bn,(un,ui,ur,uq,um),bc,bw) d0 (Qw (un,ui,ur,uq,um) (r,op,at_,n0) o).2),(Qw (un,ui,ur,uq,um) (r,op,at_,n0) o).2.1,(Qw (un,ui,ur,uq,um) (r,op,at_,n0) o).2.2.1,Qc0 (bn,(un,ui,ur,uq,um),bc,bw) d0 (Qw (un,ui,ur,uq,um) (r,op,at_,n0) o).2),Qgd tm bc (List.zipWith Qn bc (Qbo (bn,(un,ui,ur,uq,um),bc,bw) d0 (Qw (un,ui,ur,uq,um) (r,op,at_,n0) o).2)) N0):=by
   subst ho
   unfold Qz
   simp only [eG]
   rw [← hN0]
  have hDl:(Qbo (bn,(un,ui,ur,uq,um),bc,bw) d0 (Qw (un,ui,ur,uq,um) (r,op,at_,n0) o).2).length=bc.length:=by rw [hac.2];exact hdl.symm
  have hDd:∀ d ∈ Qbo (bn,(un,ui,ur,uq,um),bc,bw) d0 (Qw (un,ui,ur,uq,um) (r,op,at_,n0) o).2,dP d:=fun d h=>(hac.1 d h).dP hL
  have hTd:∀ d ∈ List.zipWith Qn bc (Qbo (bn,(un,ui,ur,uq,um),bc,bw) d0 (Qw (un,ui,ur,uq,um) (r,op,at_,n0) o).2),dP d:=fun d h=>(Qbv h3 hac.1 d h).dP hL
  generalize hD1:Qbo (bn,(un,ui,ur,uq,um),bc,bw) d0 (Qw (un,ui,ur,uq,um) (r,op,at_,n0) o).2=D0 at *
  generalize hI1:Qc0 (bn,(un,ui,ur,uq,um),bc,bw) d0 (Qw (un,ui,ur,uq,um) (r,op,at_,n0) o).2=I0 at *
  refine QO hT hP (A:=List Dv × List Inp) bc.length (fun i s=>St.mk (E3 (E1 ((.cell (.ptr 0 0)) :: E1 ((.cell (.ptr 1 0)) :: E1 ((.cell (.own 3)) :: E10 ((.cell (.own 4)) :: E40 (E40 (E40 (E40 (E40 (E10 (E5 (E3 (E1 ((.cell (.ro Qh bc)) :: (I bc.length) :: (I i) :: E40 (E5 []))))))))))))))))
   [some (.var [iv .i64 tm,.run .i64 9 (QS (un,ui,ur,uq,um) (Qw (un,ui,ur,uq,um) (r,op,at_,n0) o).1 I0).1,iv .i64 (QS (un,ui,ur,uq,um) (Qw (un,ui,ur,uq,um) (r,op,at_,n0) o).1 I0).2.1,iv .i64 (QS (un,ui,ur,uq,um) (Qw (un,ui,ur,uq,um) (r,op,at_,n0) o).1 I0).2.2.1,bv (QS (un,ui,ur,uq,um) (Qw (un,ui,ur,uq,um) (r,op,at_,n0) o).1 I0).2.2.2,.own 2,iv .i64 (Qw (un,ui,ur,uq,um) (r,op,at_,n0) o).2.1,iv .i64 (Qw (un,ui,ur,uq,um) (r,op,at_,n0) o).2.2.1,iv .i64 I0]),
    some (.var [.imm (.int .i64 0),.run .i64 9 (List.replicate 9 0),.imm (.int .i64 0),.imm (.int .i64 0),.imm (.bool false),.imm (.slice none 0 0),.imm (.int .i64 0),.imm (.int .i64 0),.imm (.int .i64 0)]),some (.arr Qp s.1),some (.arr (.int .i64) N0),some (.arr QL s.2)])
   (fun k s=>s.1=Qdr Qn bc D0 k∧s.2=newK tm bc (List.zipWith Qn bc D0) N0 k) (D0,[]) (.trans (Le.nil 19 QL rfl) (Le.mk [] [1,2,3,4,6] R R ?_ ?_)) ⟨(Qf4 _ _ _).symm,rfl⟩ fun u s hu hi=>?_
  ·exact QhG hI hD
  ·repeat' first |exact trivial |exact ⟨rfl,rfl⟩ |refine And.intro ?_ ?_
  generalize hT0:QS (un,ui,ur,uq,um) (Qw (un,ui,ur,uq,um) (r,op,at_,n0) o).1 I0=T0 at *
  generalize (Qw (un,ui,ur,uq,um) (r,op,at_,n0) o)=A0 at *
  obtain ⟨d,v⟩:=s
  obtain ⟨hi1,hi2⟩:=hi
  have hi1:d=Qdr Qn bc D0 u:=hi1
  have hi2:v=newK tm bc (List.zipWith Qn bc D0) N0 u:=hi2
  have hdl1:d.length=bc.length:=by rw [hi1,QbP hDl.symm hu];exact hDl
  have hdg:u < bc.length→d.getD u (dflt Qp)=D0.getD u (dflt Qp):=fun h=>by rw [hi1];exact QbQ hDl.symm h _
  have hds:u < bc.length→d.set u (Qn (bc.getD u (dflt Qh)) (D0.getD u (dflt Qp)))=Qdr Qn bc D0 (u+1):=fun h=>by rw [hi1];exact Qbl hDl.symm h _ _
  have hzl:bc.length=(List.zipWith Qn bc D0).length:=by rw [List.length_zipWith];omega
  have hzg:u < bc.length→(List.zipWith Qn bc D0).getD u (dflt Qp)=Qn (bc.getD u (dflt Qh)) (D0.getD u (dflt Qp)):=fun h=>QfP hDl.symm h
  have hns:u < bc.length→newK tm bc (List.zipWith Qn bc D0) N0 (u+1)=v++(if Qbi (bc.getD u (dflt Qh)) (Qn (bc.getD u (dflt Qh)) (D0.getD u (dflt Qp)))=N0.getD u 0 then [] else [(tm,(bc.getD u (dflt Qh)).1,Qbi (bc.getD u (dflt Qh)) (Qn (bc.getD u (dflt Qh)) (D0.getD u (dflt Qp))))]):=fun h=>by
   rw [QcW hzl hNl.symm h (dflt Qh) (dflt Qp),hzg h,hi2]
  have hol:v.length≤bc.length:=by
   rw [hi2]
   refine Nat.le_trans (Qbm _ _ _ _) ?_
   rw [List.length_take];omega
  repeat' first |(refine Go.mk ?_;conv=>whnf) |refine Ql.go ?_ ?_ |refine Qm.go (fun _=>?_) (fun _=>?_) |refine Br.dec (fun _=>?_) (fun _=>?_) |refine Br.go (fun _=>?_) (fun _=>?_) |refine Qd hT hP mixed ?_ |refine Qb hT hP ?_
  all_goals (try dsimp only [Qj] at *)
  ·have g:(u:Int) < (bc.length:Int):=by assumption
   show 0≤(u:Int)∧(u:Int) < (bc.length:Int)
   omega
  ·have g:(u:Int) < (bc.length:Int):=by assumption
   show 0≤(u:Int)∧(u:Int) < (d.length:Int)
   omega
  ·have g:(u:Int) < (bc.length:Int):=by assumption
   show u < d.length
   omega
  ·have g:(u:Int) < (bc.length:Int):=by assumption
   refine ⟨hc _ (QQ (dflt Qh) (show u < bc.length by omega)),?_⟩
   show dP (d.getD u (dflt Qp))
   rw [hdg (by omega)]
   exact hDd _ (QQ (dflt Qp) (show u < D0.length by omega))
  ·have g:(u:Int) < (bc.length:Int):=by assumption
   show 0≤(u:Int)∧(u:Int) < (d.length:Int)
   omega
  ·have g:(u:Int) < (bc.length:Int):=by assumption
   show u < d.length
   omega
  ·have g:(u:Int) < (bc.length:Int):=by assumption
   show 0≤(u:Int)∧(u:Int) < (List.length (d.set _ _):Int)
   rw [List.length_set];omega
  ·have g:(u:Int) < (bc.length:Int):=by assumption
   show u < List.length (d.set _ _)
   rw [List.length_set];omega
  ·have g:(u:Int) < (bc.length:Int):=by assumption
   refine ⟨hc _ (QQ (dflt Qh) (show u < bc.length by omega)),?_⟩
   show dP ((d.set u (Qn (bc.getD u (dflt Qh)) (d.getD u (dflt Qp)))).getD u (dflt Qp))
   rw [Qai (show u < d.length by omega),hdg (by omega),← hzg (by omega)]
   exact hTd _ (QQ (dflt Qp) (show u < (List.zipWith Qn bc D0).length by omega))
  ·have g:(u:Int) < (bc.length:Int):=by assumption
   show 0≤(u:Int)∧(u:Int) < (N0.length:Int)
   omega
  ·have g:(u:Int) < (bc.length:Int):=by assumption
   show u < N0.length
   omega
  ·have g:(u:Int) < (bc.length:Int):=by assumption
   show (v.length+1)*32≤140737488355328
   omega
  ·rename_i g g2
   have g:(u:Int) < (bc.length:Int):=g
   have e1:(d.set u (Qn (bc.getD u (dflt Qh)) (d.getD u (dflt Qp)))).getD u (dflt Qp)=Qn (bc.getD u (dflt Qh)) (D0.getD u (dflt Qp)):=by rw [Qai (show u < d.length by omega),hdg (by omega)]
   have g2:(Qbi (bc.getD u (dflt Qh)) ((d.set u (Qn (bc.getD u (dflt Qh)) (d.getD u (dflt Qp)))).getD u (dflt Qp)) != N0.getD u 0)=true:=g2
   rw [e1] at g2
   have g3:¬ Qbi (bc.getD u (dflt Qh)) (Qn (bc.getD u (dflt Qh)) (D0.getD u (dflt Qp)))=N0.getD u 0:=by simpa using g2
   have hns:=hns (by omega)
   rw [if_neg g3] at hns
   have hds:=hds (by omega)
   rw [← hdg (by omega)] at hds
   apply Exists.intro
   apply Exists.intro (_,_)
   refine And.intro (And.intro ?lt1012 (And.intro ?ei1012 ?inv1012)) (Le.mk [] [0,1,2,3,9] R R ?hh1012 ?ht1012)
   case hh1012=>exact rfl
   case ht1012=>repeat' first |exact trivial |exact ⟨rfl,rfl⟩ |refine And.intro ?_ ?_
   case lt1012=>omega
   case ei1012=>exact QW (by omega)
   refine ⟨hds,?_⟩
   rw [hns,← e1]
   try rfl
  ·rename_i g g2
   have g:(u:Int) < (bc.length:Int):=g
   have e1:(d.set u (Qn (bc.getD u (dflt Qh)) (d.getD u (dflt Qp)))).getD u (dflt Qp)=Qn (bc.getD u (dflt Qh)) (D0.getD u (dflt Qp)):=by rw [Qai (show u < d.length by omega),hdg (by omega)]
   have g2:(Qbi (bc.getD u (dflt Qh)) ((d.set u (Qn (bc.getD u (dflt Qh)) (d.getD u (dflt Qp)))).getD u (dflt Qp)) != N0.getD u 0)=false:=g2
   rw [e1] at g2
   have g3:Qbi (bc.getD u (dflt Qh)) (Qn (bc.getD u (dflt Qh)) (D0.getD u (dflt Qp)))=N0.getD u 0:=by simpa using g2
   have hns:=hns (by omega)
   rw [if_pos g3,List.append_nil] at hns
   have hds:=hds (by omega)
   rw [← hdg (by omega)] at hds
   apply Exists.intro
   apply Exists.intro (_,v)
   refine And.intro (And.intro ?lt1032 (And.intro ?ei1032 ?inv1032)) (Le.mk [] [0,1,2,3,4] R R ?hh1032 ?ht1032)
   case hh1032=>exact rfl
   case ht1032=>repeat' first |exact trivial |exact ⟨rfl,rfl⟩ |refine And.intro ?_ ?_
   case lt1032=>omega
   case ei1032=>exact QW (by omega)
   exact ⟨hds,hns.symm⟩
  ·rename_i g
   have g:¬ (u:Int) < (bc.length:Int):=g
   have e1:d=List.zipWith Qn bc D0:=by rw [hi1,Qbz hDl.symm (by omega)]
   have e2:v=Qgd tm bc (List.zipWith Qn bc D0) N0:=by
    rw [hi2];unfold newK
    rw [List.take_of_length_le (by omega),List.take_of_length_le (by omega),List.take_of_length_le (by omega)]
   have e3:IntKind.i64.wrap (Qad tm (-1) 1099511627775+1)=Qed tm:=Qfh tm
   have e:((IntKind.i64.wrap (Qad tm (-1) 1099511627775+1),T0,d,A0.2.1,A0.2.2.1,I0),v)=Qz (bn,(un,ui,ur,uq,um),bc,bw) (tm,(r,op,at_,nmi),ds,bd,ba,bdt) l:=by rw [hcy,e1,e2,e3]
   exact .mk [] [2,4] _ R R R R R (congrArg (fun z:Mach × List Inp=>[some (Blk.arr Qp z.1.2.2.1),some (Blk.arr QL z.2)]) e) (congrArg (fun z:Mach × List Inp=>AV.tup [QfQ z.1 0,.c (.own 1)]) e)
structure QGj (b:Bd) (m:Mach) (l:List Inp) (n:Int):Prop where
 pl:l.length≤4611686018427387904
 pb:bdP b
 pt:Qck b.2.1 m.2.1
 pc:b.2.2.1.length≤12
 pz:0≤n
 pn:n≤100000
 po:∀ k:Nat,(k:Int) < n→QuI (Qel b l k (m,[])).1.2.2.1
 pm:∃ L,MOk L b m
def QG4:Qk:=⟨[gBd,gM,gIn,gi],fun (b,m,l,n,_)=>(some (QGj b m l n),.tup [.agg (QDR (Qel b l n.toNat (m,[])).1),.c (.own 0)],[.arr QL (Qel b l n.toNat (m,[])).2])⟩
set_option maxHeartbeats 4000000 in
theorem QBh:Qi Tryz.prog 27 QG4.spec:=by
 have hP:Qe Tryz.prog _:=Qa QiA (Qc (T:=tree))
 have hT:=tabs hP Qf
 refine QG4.good (fn:=Tryz.f27) hT hP Tryz.func27 (by kernel_rfl) rfl fun (b:Bd) (m:Mach) (l:List Inp) (n:Int) hq=>?_
 have hp:QGj b m l n:=hq _ rfl
 clear hq
 have ht:=hp.pt
 have hbd:=hp.pb
 obtain ⟨L,hMo⟩:=hp.pm
 have hbl:=hp.pc
 have hn:=hp.pn
 have ho:=hp.po
 have hl:=hp.pl
 obtain ⟨bn,⟨un,ui,ur,uq,um⟩,bc,bw⟩:=b
 obtain ⟨tm,⟨r,op,at_,nmi⟩,ds,bd,ba,bdt⟩:=m
 have hbl:bc.length≤12:=hbl
 have h0:=hp.pz
 ·obtain ⟨N,rfl⟩:=Int.eq_ofNat_of_zero_le h0
  clear hp
  repeat' first |(refine Go.mk ?_;conv=>whnf) |refine Ql.go ?_ ?_ |refine Qm.go (fun _=>?_) (fun _=>?_) |refine Br.dec (fun _=>?_) (fun _=>?_) |refine Br.go (fun _=>?_) (fun _=>?_) |refine Qd hT hP mixed ?_ |refine Qb hT hP ?_
  refine QO hT hP (A:=Mach × List Inp) N (fun i s=>St.mk (E2 ((.cell (.ro QL l)) :: E1 ((.cell (.ptr 0 0)) :: (.cell (.ptr 1 0)) :: E2 ((.cell (.ptr 2 0)) :: E1 ((.cell (.own 3)) :: E1 ((I N) :: (I i) :: E10 (E3 (E1 []))))))))
   [some (.var [.imm (.string bn),.imm (.string un),.ro Qaw ui,.ro QA ur,.ro QA uq,.ro QA um,.ro Qh bc,.ro Qx bw]),some (.var [iv .i64 s.1.1,.run .i64 9 s.1.2.1.1,iv .i64 s.1.2.1.2.1,iv .i64 s.1.2.1.2.2.1,bv s.1.2.1.2.2.2,.ro Qp s.1.2.2.1,iv .i64 s.1.2.2.2.1,iv .i64 s.1.2.2.2.2.1,iv .i64 s.1.2.2.2.2.2]),
    some (.var [.imm (.int .i64 0),.run .i64 9 (List.replicate 9 0),.imm (.int .i64 0),.imm (.int .i64 0),.imm (.bool false),.imm (.slice none 0 0),.imm (.int .i64 0),.imm (.int .i64 0),.imm (.int .i64 0)]),some (.arr QL s.2)])
   (fun k s=>s=Qel (bn,(un,ui,ur,uq,um),bc,bw) l k ((tm,(r,op,at_,nmi),ds,bd,ba,bdt),[])) ((tm,(r,op,at_,nmi),ds,bd,ba,bdt),[]) (.trans (Le.nil 10 QL rfl) (Le.mk [] [0,1,2,3] R R ?_ ?_)) rfl fun k s hk hi=>?_
  ·exact rfl
  ·repeat' first |exact trivial |exact ⟨rfl,rfl⟩ |refine And.intro ?_ ?_
  have hro:=QhF (l:=l) hMo ht k
  rw [← hi] at hro
  have hok:(k:Int) < (N:Int)→QuI s.1.2.2.1:=fun h=>by rw [hi];exact ho k h
  have hnx:nxS (bn,(un,ui,ur,uq,um),bc,bw) l s.1 s.2=Qel (bn,(un,ui,ur,uq,um),bc,bw) l (k+1) ((tm,(r,op,at_,nmi),ds,bd,ba,bdt),[]):=by rw [QdO,← hi];rfl
  obtain ⟨⟨tm1,⟨r1,op1,at1,nmi1⟩,ds1,bd1,ba1,bdt1⟩,o⟩:=s
  have hcl:(Qz (bn,(un,ui,ur,uq,um),bc,bw) (tm1,(r1,op1,at1,nmi1),ds1,bd1,ba1,bdt1) l).2.length≤bc.length:=Qbm _ _ _ _
  have hol:o.length≤k*bc.length:=hro.2.2
  repeat' first |(refine Go.mk ?_;conv=>whnf) |refine Ql.go ?_ ?_ |refine Qm.go (fun _=>?_) (fun _=>?_) |refine Br.dec (fun _=>?_) (fun _=>?_) |refine Br.go (fun _=>?_) (fun _=>?_) |refine Qd hT hP mixed ?_ |refine Qb hT hP ?_
  all_goals (try dsimp only [Qj] at *)
  all_goals clear hT hP
  ·have g:(k:Int) < (N:Int):=by assumption
   exact ⟨⟨hok g,hl,hbd⟩,hro.2.1,L,hro.1⟩
  ·have g:(k:Int) < (N:Int):=by assumption
   have h7:k*bc.length≤100000*12:=Nat.mul_le_mul (by omega) hbl
   show (o.length+(Qz (bn,(un,ui,ur,uq,um),bc,bw) (tm1,(r1,op1,at1,nmi1),ds1,bd1,ba1,bdt1) l).2.length)*32≤140737488355328
   omega
  ·rename_i g
   have g:(k:Int) < (N:Int):=g
   apply Exists.intro
   apply Exists.intro (nxS (bn,(un,ui,ur,uq,um),bc,bw) l (tm1,(r1,op1,at1,nmi1),ds1,bd1,ba1,bdt1) o)
   refine And.intro (And.intro ?lt64 (And.intro ?ei64 ?inv64)) (Le.mk [4] [0,1,2,6] R R ?hh64 ?ht64)
   case hh64=>exact rfl
   case ht64=>repeat' first |exact trivial |exact ⟨rfl,rfl⟩ |refine And.intro ?_ ?_
   case lt64=>omega
   case ei64=>exact QW (by omega)
   exact hnx
  ·rename_i g
   have g:¬ (k:Int) < (N:Int):=g
   have ek:k=N:=by omega
   subst ek
   have e3:((tm1,(r1,op1,at1,nmi1),ds1,bd1,ba1,bdt1),o)=Qel (bn,(un,ui,ur,uq,um),bc,bw) l k ((tm,(r,op,at_,nmi),ds,bd,ba,bdt),[]):=hi
   exact .mk [] [3] _ R R R R R (congrArg (fun z:Mach × List Inp=>[some (Blk.arr QL z.2)]) e3) (congrArg (fun z:Mach × List Inp=>AV.tup [.agg (QDR z.1),.c (.own 0)]) e3)
end Go.Proofs.YtofgbclopbmlcaaGreat

namespace Go.Fw
open Go.ChangeShapes Go.WideShapes Go.RowKit
set_option linter.unusedVariables false
set_option linter.unusedSimpArgs false
def QmU (P:Program) (m:Nat) (g:Sig) (t:TypeId):Bool:=QaX P m g.t t&&match P.underlying t with
 |some (.struct _)=>g.ag
 |some (.int _)=>!g.ag
 |some .bool=>!g.ag
 |some .string=>!g.ag
 |some (.slice _)=>!g.ag
 |some (.array _ _)=>g.ag
 |_=>false
def QjU (P:Program) (m:Nat):List Sig→List TypeId→Bool
 | [],[]=>true
 |g :: gs,t :: ts=>QmU P m g t&&QjU P m gs ts
 |_,_=>false
def WfA:(gs:List Sig)→Args gs→Prop
 | [],_=>True
 |g :: gs,x=>Wf g.t x.1∧WfA gs x.2
section
variable {H:Type} {enc:TypeId × Value→H} {P:Program} {w:World} {base:Nat}
theorem CR.one {w:World} {S:Nat→Prop} {t:Ty} {d:Den t} {v:Value} (hc:CR w S t d [v]) (h:(cells t d).length=1) (E:Env) (hw:E.w=w) (hS:E.S=S):∃ c,cells t d=[c]∧QaC E c [v]:=by
 subst hw;subst hS
 have:=hc.items
 match hh:cells t d,h with
 | [c],_ =>
   rw [hh] at this
   obtain ⟨r,s,e,h1,h2⟩:=this
   simp only [IR] at h2
   subst h2
   simp at e
   subst e
   exact ⟨c,rfl,h1⟩
variable {bk:DataW H→Nat} {ba:List (DataW H)→Nat}
theorem QBi (B:BulkLaw bk ba) {m fuel:Nat} {g:Sig} {t:TypeId} {v:Value} {x:DataW H × List MemPlace} (hf:QmU P m g t=true) (hv:Value.okWide P w .any base t v) (hz:∀ z ∈ DataW.weights P t x.1,z≤reachBytes)
 (h:DataW.trod enc P w 0 (fun _=>true) true fuel t v.cells.toList=some x):∃ d:Den g.t,V1R (Qdl w) (Qcp g d) v∧Wf g.t d∧bd g.t d≤bk x.1:=by
 unfold QmU at hf
 rw [Bool.and_eq_true] at hf
 obtain ⟨h1,h2⟩:=hf
 obtain ⟨d,hc,hw,hb⟩:=Qmc B m h1 hz h
 refine ⟨d,?_,hw,hb⟩
 have single:∀ u,v=u→(∀ cs,v≠.agg cs)→g.ag=false→(cells g.t d).length=1→V1R (Qdl w) (Qcp g d) v:=by
  intro u e hn hg hl
  have hcl:v.cells.toList=[v]:=by
   cases v with
   |agg cs=>exact absurd rfl (hn cs)
   |_=>rfl
  rw [hcl] at hc
  obtain ⟨c,e1,e2⟩:=hc.one hl (Qdl w) rfl rfl
  unfold Qcp
  rw [hg]
  simp only [e1]
  exact e2
 cases m with
 |zero=>cases h1
 |succ m =>
 unfold QaX at h1
 split at h2
 ·rename_i F hu
  obtain ⟨cs,rfl,_⟩:=okWide_struct hu hv
  unfold Qcp
  rw [h2]
  exact ⟨cs,rfl,hc.items (E:=Qdl w)⟩
 ·rename_i k hu
  obtain ⟨n,rfl⟩:=okWide_int hu hv
  refine single _ rfl (by simp) (by simpa using h2) ?_
  rw [hu] at h1
  match g,d,h1 with
  |⟨_,.int _⟩,_,_=>rfl
 ·rename_i hu
  obtain ⟨n,rfl⟩:=okWide_bool hu hv
  refine single _ rfl (by simp) (by simpa using h2) ?_
  rw [hu] at h1
  match g,d,h1 with
  |⟨_,.bool⟩,_,_=>rfl
 ·rename_i hu
  obtain ⟨n,rfl⟩:=okWide_string hu hv
  refine single _ rfl (by simp) (by simpa using h2) ?_
  rw [hu] at h1
  match g,d,h1 with
  |⟨_,.str⟩,_,_=>rfl
 ·rename_i e hu
  obtain ⟨a,len,cap,rfl⟩:=okWide_slice hu hv
  refine single _ rfl (by simp) (by simpa using h2) ?_
  rw [hu] at h1
  match g,d,h1 with
  |⟨_,.sl _⟩,_,_=>rfl
 ·rename_i n e hu
  obtain ⟨cs,rfl⟩:∃ cs,v=.agg cs:=by
   simp only [Value.okWide,hu] at hv
   obtain ⟨cs,h1,_⟩:=hv
   exact ⟨cs,h1⟩
  unfold Qcp
  rw [h2]
  exact ⟨cs,rfl,hc.items (E:=Qdl w)⟩
 ·cases h2
def bdA:(gs:List Sig)→Args gs→Nat
 | [],_=>0
 |g :: gs,x=>bd g.t x.1+bdA gs x.2
theorem QlG (B:BulkLaw bk ba) {m:Nat} {vt:List TypeId} {gds:List (DataW H)}:∀ {gs:List Sig} {ts:List TypeId} {vs:List Value} {ds:List (DataW H)} {ps:List MemPlace},QjU P m gs ts=true →
 (∀ (j:Nat) t v,ts[j]?=some t→vs[j]?=some v→Value.okWide P w .any base t v)→(∀ z ∈ DataW.weightsEach P (ts++vt) (ds++gds),z≤reachBytes) →
 DataW.TrodAll enc P w 0 (fun _=>true) true ts vs ds ps→∃ xs:Args gs,VsR (Qdl w) (QaK gs xs) vs∧WfA gs xs∧bdA gs xs≤ba ds
 | [],[],vs,ds,ps,_,_,_,h=>by
   obtain ⟨rfl,rfl,rfl⟩:=trodAll_nil h
   exact ⟨(),rfl,trivial,Nat.zero_le _⟩
 |g :: gs,t :: ts,vs,ds,ps,hf,hv,hz,h=>by
   unfold QjU at hf
   rw [Bool.and_eq_true] at hf
   obtain ⟨v,vs',d,ds',p,q,rfl,rfl,rfl,⟨fuel,h1⟩,h2⟩:=trodAll_cons h
   rw [List.cons_append,List.cons_append,DataW.weightsEach] at hz
   obtain ⟨x,hx,wx,bx⟩:=QBi B (x:=(d,p)) hf.1 (hv 0 t v rfl rfl) (fun z hz'=>hz z (List.mem_append.2 (.inl hz'))) h1
   obtain ⟨xs,hxs,wxs,bxs⟩:=QlG B hf.2 (fun j t v ht hvj=>hv (j+1) t v (by simpa using ht) (by simpa using hvj)) (fun z hz'=>hz z (List.mem_append.2 (.inr hz'))) h2
   exact ⟨(x,xs),VsR.cons hx hxs,⟨wx,wxs⟩,Nat.le_trans (Nat.add_le_add bx bxs) (B.cons _ _)⟩
 | [],_ :: _,_,_,_,hf,_,_,_=>by cases hf
 |_ :: _,[],_,_,_,hf,_,_,_=>by cases hf
theorem QhH {look:Nat→Option Blk}:∀ (t:Ty) (x:Den t) (r:List QD),dec look t (cells t x++r)=some (x,[],r)
 |.int k,x,r=>by simp [cells,dec]
 |.ints k n,l,r=>by simp [cells,dec]
 |.bool,b,r=>rfl
 |.str,s,r=>rfl
 |.sl t,l,r=>by
   have:QqI look t (.ro t l)=some l:=by
    unfold QqI
    simp only [Qak,QBr,dif_pos,Qfn]
   simp only [cells,List.cons_append,List.nil_append,dec,this,QEA]
 |.pair a b,x,r=>by
   simp only [cells,dec,List.append_assoc,QhH a x.1,QhH b x.2,List.append_nil]
theorem Qf5 {look:Nat→Option Blk} (t:Ty) (x:Den t):QbJ look t (cells t x)=some (x,[]):=by
 unfold QbJ
 have:=QhH (look:=look) t x []
 rw [List.append_nil] at this
 rw [this]
def Sig.fine (g:Sig):Bool:=g.ag||match g.t with |.int _=>true |.bool=>true |.str=>true |.sl _=>true |_=>false
theorem QqA {g:Sig} (h:g.fine=true) (d:Den g.t):QxG g (Qcp g d)=some d:=by
 obtain ⟨ag,t⟩:=g
 cases ag with
 |true =>
   unfold QxG Qcp
   simp only [Qf5]
 |false =>
   have one:∃ c,cells t d=[c]:=by
    cases t<;>simp [Sig.fine] at h<;>exact ⟨_,rfl⟩
   obtain ⟨c,hc⟩:=one
   have e:Qcp ⟨false,t⟩ d=.c c:=by unfold Qcp;simp only [hc]
   have e2:QbJ (fun _=>none) t [c]=some (d,[]):=by rw [← hc];exact Qf5 t d
   unfold QxG
   simp only [e,e2,hc]
theorem Qfi:∀ {gs:List Sig} (h:gs.all Sig.fine=true) (xs:Args gs),Qc6 gs (QaK gs xs)=some xs
 | [],_,()=>rfl
 |g :: gs,h,(a,r)=>by
   rw [List.all_cons,Bool.and_eq_true] at h
   show (match QxG g (Qcp g a) with |some d=>(match Qc6 gs (QaK gs r) with |some r=>some (d,r) |none=>none) |none=>none)=_
   rw [QqA h.1,Qfi h.2]
def QjV (P:Program) (ts:List TypeId):Bool:=ts.all fun t=>P.readableRec t&&Nat.blt t P.types.size
theorem QlH {W W':World} (hl:laidOutB P=true) (hb:Below W.heap.size W W'):∀ {ts:List TypeId} {vs:List Value} {ds:List (DataW H)} {ps:List MemPlace},QjV P ts=true→(∀ x ∈ ps,x.block < W.heap.size) →
 DataW.TrodAll enc P W 0 (fun _=>true) true ts vs ds ps→DataW.TrodAll enc P W' 0 (fun b=>decide (b < W.heap.size)) true ts vs ds ps
 | [],vs,ds,ps,_,_,h=>by
   obtain ⟨rfl,rfl,rfl⟩:=trodAll_nil h
   exact trodAll_mk0
 |t :: ts,vs,ds,ps,hf,hlt,h=>by
   unfold QjV at hf
   rw [List.all_cons,Bool.and_eq_true,Bool.and_eq_true] at hf
   obtain ⟨v,vs',d,ds',p,q,rfl,rfl,rfl,h1,h2⟩:=trodAll_cons h
   exact trodAll_cons_mk (Below.trod hl hf.1.1 (by simpa [Nat.blt_eq] using hf.1.2) h1 hb fun x hx=>hlt x (List.mem_append.2 (.inl hx))) (QlH hl hb hf.2 (fun x hx=>hlt x (List.mem_append.2 (.inr hx))) h2)
end
theorem Qk.law_upto {P:Program} {H:Type} {enc:TypeId × Value→H} {f:FuncId} {s:Qk} (h:Qi P f s.spec) {W:World} {base m N:Nat} {ts vt:List TypeId} {args:Array Value} {ds gds:List (DataW H)} {p:List MemPlace}
 {bk:DataW H→Nat} {ba:List (DataW H)→Nat} (B:BulkLaw bk ba) (hN:ba ds≤N)
 (hfit:QjU P m s.gs ts=true) (hfine:s.gs.all Sig.fine=true) (hrow:QjV P ts=true) (hl:laidOutB P=true)
 (hval:∀ (j:Nat) t v,ts[j]?=some t→args.toList[j]?=some v→Value.okWide P W .any base t v)
 (hz:(DataW.weightsEach P (ts++vt) (ds++gds)).all (·≤reachBytes)=true) (hA:DataW.TrodAll enc P W 0 (fun _=>true) true ts args.toList ds p)
 (hs:∀ xs,WfA s.gs xs→bdA s.gs xs≤N→∃ q,s.out xs=(q,.cell (bv true),[])∧∀ z,q=some z→z) :
 Calls P f args W fun e w'=>e=.returned (.bool true)∧Below W.heap.size W w'∧DataW.TrodAll enc P w' 0 (fun b=>decide (b < W.heap.size)) true ts args.toList ds p:=by
 obtain ⟨xs,hv,hw,hbd⟩:=QlG B hfit hval (fun z hz'=>by simpa using List.all_eq_true.1 hz z hz') hA
 obtain ⟨q,h1,h2⟩:=hs xs hw (Nat.le_trans hbd hN)
 refine (Qk.law h xs hv (Qfi hfine xs) h1 h2).mono fun e W' ⟨he,hb⟩=>⟨he,hb,?_⟩
 exact QlH hl hb hrow (DataW.TrodAll.lt hA) hA
end Go.Fw

