/- Part 44 of the proof. Conditions: none. -/
import Derived.Test.YtofgbclopbmlcaaGreatG43
import Derived.Test.YtofgbclopbmlcaaGreatG41
import Derived.Test.YtofgbclopbmlcaaGreatG40
namespace Go.Proofs.YtofgbclopbmlcaaGreat
open Go.Fw
set_option linter.unusedVariables false
set_option linter.unusedSimpArgs false
set_option linter.constructorNameAsVariable false
set_option maxRecDepth 100000
structure MrsP(b:Bd)(m:Mach)(l:List Inp):Prop where
 s:stP b m l
 o:Qw9 m.2.2.1
 t:Qbc b.2.1 m.2.1
 gm:QcY m∧Qm3 m
 mo:b.2.2.1.length=m.2.2.1.length→∃L,MOk L b m
 gr:b.2.2.1.length=m.2.2.1.length→∀k,QcY (Qbz b l k (m,[])).1∧Qm3 (Qbz b l k (m,[])).1
theorem QwR{b:Bd}{m:Mach}{l:List Inp}{n:Int}(h:QbH b m l n=0):QN b m l=0∧0≤n∧n≤100000:=by
 unfold QbH at h;split at h
 ·rename_i a;exact YD h a
 ·rename_i a;split at h
  ·cases h
  ·split at h
   ·cases h
   ·exact⟨by simpa using a,by omega,by omega⟩
theorem MrsP.len{b:Bd}{m:Mach}{l:List Inp}{n:Int}(h:QbH b m l n=0):b.2.2.1.length=m.2.2.1.length:=(QaT (QwR h).1).2.1.symm
theorem MrsP.mrn{b:Bd}{m:Mach}{l:List Inp}(h:MrsP b m l):Qz9 b m l:=⟨⟨h.o,h.s.2,h.s.1⟩,fun _=>h.t,fun c=>h.mo (MrsP.len c)⟩
theorem MrsP.ran{b:Bd}{m:Mach}{l:List Inp}{n:Int}(h:MrsP b m l)(c:QbH b m l n=0):RanP b m l n:=by
 have a:=QwR c;have hl:=MrsP.len c;exact⟨h.s.2,h.s.1.1,h.t,(Qho (QaT a.1).1).1,a.2.1,a.2.2,fun k _=>QiO (h.gr hl k).1,h.mo hl⟩
end Go.Proofs.YtofgbclopbmlcaaGreat

