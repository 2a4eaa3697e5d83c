/- Part 35 of the proof. Conditions: none. -/
import Derived.Test.YtofgbclopbmlcaaGreatG34
namespace Go.Proofs.YtofgbclopbmlcaaGreat
open Go.Fw
set_option linter.unusedVariables false
set_option linter.unusedSimpArgs false
set_option linter.constructorNameAsVariable false
set_option maxRecDepth 100000
structure BdX where
 bn:ByteArray
 un:ByteArray
 ui:List Ins
 ur:List Cyc
 uq:List Cyc
 um:List Cyc
 bc:List Cv
 bw:List Wr
structure McX where
 tm:Int
 r:List Int
 op:Int
 at_:Int
 nmi:Bool
 ds:List Dv
 bd:Int
 ba:Int
 bdt:Int
@[reducible] def bdA(b:BdX):List Cell:=[.imm (.string b.bn),.imm (.string b.un),.ro Qap b.ui,.ro Qp b.ur,.ro Qp b.uq,.ro Qp b.um,.ro Qe b.bc,.ro Qo b.bw]
@[reducible] def mcA(m:McX):List Cell:=[iv .i64 m.tm,.run .i64 9 m.r,iv .i64 m.op,iv .i64 m.at_,bv m.nmi,.own 1,iv .i64 m.bd,iv .i64 m.ba,iv .i64 m.bdt]
structure StX where
 b:BdX
 m:McX
 l:List Inp
def QKM:List V1→List Blk→Option StX:=fun a b=>match a,b with
 | [.agg [.imm (.string bn),.imm (.string un),.ro (.pair (.int .i64) (.pair .str (.pair (.int .i64) (.sl (.pair (.int .i64) (.pair (.int .i64) (.pair (.int .i64) (.sl (.pair (.int .i64) (.pair (.int .i64) (.pair (.int .i64) (.int .i64)))))))))))) ui,.ro (.pair (.int .i64) (.pair (.int .i64) (.pair (.int .i64) (.sl (.pair (.int .i64) (.pair (.int .i64) (.pair (.int .i64) (.int .i64)))))))) ur,.ro (.pair (.int .i64) (.pair (.int .i64) (.pair (.int .i64) (.sl (.pair (.int .i64) (.pair (.int .i64) (.pair (.int .i64) (.int .i64)))))))) uq,.ro (.pair (.int .i64) (.pair (.int .i64) (.pair (.int .i64) (.sl (.pair (.int .i64) (.pair (.int .i64) (.pair (.int .i64) (.int .i64)))))))) um,.ro (.pair .str (.pair (.int .i64) (.pair (.int .i64) (.pair (.int .i64) (.sl (.int .u8)))))) bc,.ro (.pair .str .str) bw],.c (.ptr 0 0)],[.var [.imm (.int .i64 tm),.run .i64 9 r,.imm (.int .i64 op),.imm (.int .i64 at_),.imm (.bool nmi),.own 1,.imm (.int .i64 bd),.imm (.int .i64 ba),.imm (.int .i64 bdt)],.arr (.pair (.sl (.int .i64)) (.sl (.int .u8))) ds]=>some ⟨⟨bn,un,ui,ur,uq,um,bc,bw⟩,⟨tm,r,op,at_,nmi,ds,bd,ba,bdt⟩,[]⟩
 |_,_=>none
theorem QEb{a:List V1}{b:List Blk}{x:StX}(h:QKM a b=some x):a=[.agg (bdA x.b),.c (.ptr 0 0)]∧b=[.var (mcA x.m),.arr Qh x.m.ds]:=by
 unfold QKM at h;split at h
 ·injection h with h;subst h;exact⟨rfl,rfl⟩
 ·cases h
def QIK:List V1→List Blk→Option StX:=fun a b=>match a,b with
 | [.agg [.imm (.string bn),.imm (.string un),.ro (.pair (.int .i64) (.pair .str (.pair (.int .i64) (.sl (.pair (.int .i64) (.pair (.int .i64) (.pair (.int .i64) (.sl (.pair (.int .i64) (.pair (.int .i64) (.pair (.int .i64) (.int .i64)))))))))))) ui,.ro (.pair (.int .i64) (.pair (.int .i64) (.pair (.int .i64) (.sl (.pair (.int .i64) (.pair (.int .i64) (.pair (.int .i64) (.int .i64)))))))) ur,.ro (.pair (.int .i64) (.pair (.int .i64) (.pair (.int .i64) (.sl (.pair (.int .i64) (.pair (.int .i64) (.pair (.int .i64) (.int .i64)))))))) uq,.ro (.pair (.int .i64) (.pair (.int .i64) (.pair (.int .i64) (.sl (.pair (.int .i64) (.pair (.int .i64) (.pair (.int .i64) (.int .i64)))))))) um,.ro (.pair .str (.pair (.int .i64) (.pair (.int .i64) (.pair (.int .i64) (.sl (.int .u8)))))) bc,.ro (.pair .str .str) bw],.c (.ptr 0 0),.c (.ro (.pair (.int .i64) (.pair .str (.int .i64))) l)],[.var [.imm (.int .i64 tm),.run .i64 9 r,.imm (.int .i64 op),.imm (.int .i64 at_),.imm (.bool nmi),.own 1,.imm (.int .i64 bd),.imm (.int .i64 ba),.imm (.int .i64 bdt)],.arr (.pair (.sl (.int .i64)) (.sl (.int .u8))) ds]=>some ⟨⟨bn,un,ui,ur,uq,um,bc,bw⟩,⟨tm,r,op,at_,nmi,ds,bd,ba,bdt⟩,l⟩
 |_,_=>none
theorem QvL{a:List V1}{b:List Blk}{x:StX}(h:QIK a b=some x):a=[.agg (bdA x.b),.c (.ptr 0 0),.c (.ro Qv x.l)]∧b=[.var (mcA x.m),.arr Qh x.m.ds]:=by
 unfold QIK at h;split at h
 ·injection h with h;subst h;exact⟨rfl,rfl⟩
 ·cases h
def BdX.v(b:BdX):Bd:=(b.bn,(b.un,b.ui,b.ur,b.uq,b.um),b.bc,b.bw)
def McX.v(m:McX):Mach:=(m.tm,(m.r,m.op,m.at_,m.nmi),m.ds,m.bd,m.ba,m.bdt)
end Go.Proofs.YtofgbclopbmlcaaGreat

