/- Part 37 of the proof. Conditions: none. -/
import Derived.Test.YtofgbclopbmlcaaGreatG35
namespace Go.Proofs.YtofgbclopbmlcaaGreat
set_option maxHeartbeats 8000000
open Go.Fw
set_option linter.unusedVariables false
set_option linter.unusedSimpArgs false
set_option linter.constructorNameAsVariable false
set_option maxRecDepth 100000
structure TpX where
 b:BdX
 l:List Inp
 ms:List Mach
 m:McX
 ev:Int
 n:Int
@[reducible] def tpC(b:BdX)(l:List Inp)(m:McX)(ev:Int):List Cell:=[.imm (.string b.bn),.imm (.string b.un),.ro Qap b.ui,.ro Qp b.ur,.ro Qp b.uq,.ro Qp b.um,.ro Qe b.bc,.ro Qo b.bw,.ro Qv l,.own 1,iv .i64 m.tm,.run .i64 9 m.r,iv .i64 m.op,iv .i64 m.at_,bv m.nmi,.ro Qh m.ds,iv .i64 m.bd,iv .i64 m.ba,iv .i64 m.bdt,iv .i64 ev]
noncomputable def QrY:List V1→List Blk→Option TpX:=fun a b=>match a,b with
 | [.c (.ptr 0 0),.c (.imm (.int .i64 n))],[.var [.imm (.string s),.imm (.string i),.ro (.pair (.int .i64) (.pair .str (.pair (.int .i64) (.sl (.pair (.int .i64) (.pair (.int .i64) (.pair (.int .i64) (.sl (.pair (.int .i64) (.pair (.int .i64) (.pair (.int .i64) (.int .i64)))))))))))) p,.ro (.pair (.int .i64) (.pair (.int .i64) (.pair (.int .i64) (.sl (.pair (.int .i64) (.pair (.int .i64) (.pair (.int .i64) (.int .i64)))))))) f,.ro (.pair (.int .i64) (.pair (.int .i64) (.pair (.int .i64) (.sl (.pair (.int .i64) (.pair (.int .i64) (.pair (.int .i64) (.int .i64)))))))) g,.ro (.pair (.int .i64) (.pair (.int .i64) (.pair (.int .i64) (.sl (.pair (.int .i64) (.pair (.int .i64) (.pair (.int .i64) (.int .i64)))))))) j,.ro (.pair .str (.pair (.int .i64) (.pair (.int .i64) (.pair (.int .i64) (.sl (.int .u8)))))) t,.ro (.pair .str .str) q,.ro (.pair (.int .i64) (.pair .str (.int .i64))) l,.own 1,.imm (.int .i64 tm),.run .i64 9 r,.imm (.int .i64 op),.imm (.int .i64 at_),.imm (.bool d),.ro (.pair (.sl (.int .i64)) (.sl (.int .u8))) ds,.imm (.int .i64 bd),.imm (.int .i64 u),.imm (.int .i64 e),.imm (.int .i64 ev)],.arr (.pair (.int .i64) (.pair (.pair (.ints .i64 9) (.pair (.int .i64) (.pair (.int .i64) .bool))) (.pair (.sl (.pair (.sl (.int .i64)) (.sl (.int .u8)))) (.pair (.int .i64) (.pair (.int .i64) (.int .i64)))))) ms]=>some ⟨⟨s,i,p,f,g,j,t,q⟩,l,ms,⟨tm,r,op,at_,d,ds,bd,u,e⟩,ev,n⟩
 |_,_=>none
theorem Qhk{a:List V1}{b:List Blk}{x:TpX}(h:QrY a b=some x):a=[.c (.ptr 0 0),I1 x.n]∧b=[.var (tpC x.b x.l x.m x.ev),.arr Qt x.ms]:=by
 unfold QrY at h;split at h
 ·injection h with h;subst h;exact⟨rfl,rfl⟩
 ·cases h
noncomputable def Qzy:List V1→List Blk→Option TpX:=fun a b=>match a,b with
 | [.c (.ptr 0 0)],[.var [.imm (.string s),.imm (.string i),.ro (.pair (.int .i64) (.pair .str (.pair (.int .i64) (.sl (.pair (.int .i64) (.pair (.int .i64) (.pair (.int .i64) (.sl (.pair (.int .i64) (.pair (.int .i64) (.pair (.int .i64) (.int .i64)))))))))))) p,.ro (.pair (.int .i64) (.pair (.int .i64) (.pair (.int .i64) (.sl (.pair (.int .i64) (.pair (.int .i64) (.pair (.int .i64) (.int .i64)))))))) f,.ro (.pair (.int .i64) (.pair (.int .i64) (.pair (.int .i64) (.sl (.pair (.int .i64) (.pair (.int .i64) (.pair (.int .i64) (.int .i64)))))))) g,.ro (.pair (.int .i64) (.pair (.int .i64) (.pair (.int .i64) (.sl (.pair (.int .i64) (.pair (.int .i64) (.pair (.int .i64) (.int .i64)))))))) j,.ro (.pair .str (.pair (.int .i64) (.pair (.int .i64) (.pair (.int .i64) (.sl (.int .u8)))))) t,.ro (.pair .str .str) q,.ro (.pair (.int .i64) (.pair .str (.int .i64))) l,.own 1,.imm (.int .i64 tm),.run .i64 9 r,.imm (.int .i64 op),.imm (.int .i64 at_),.imm (.bool d),.ro (.pair (.sl (.int .i64)) (.sl (.int .u8))) ds,.imm (.int .i64 bd),.imm (.int .i64 u),.imm (.int .i64 e),.imm (.int .i64 ev)],.arr (.pair (.int .i64) (.pair (.pair (.ints .i64 9) (.pair (.int .i64) (.pair (.int .i64) .bool))) (.pair (.sl (.pair (.sl (.int .i64)) (.sl (.int .u8)))) (.pair (.int .i64) (.pair (.int .i64) (.int .i64)))))) ms]=>some ⟨⟨s,i,p,f,g,j,t,q⟩,l,ms,⟨tm,r,op,at_,d,ds,bd,u,e⟩,ev,0⟩
 |_,_=>none
theorem Qqm{a:List V1}{b:List Blk}{x:TpX}(h:Qzy a b=some x):a=[.c (.ptr 0 0)]∧b=[.var (tpC x.b x.l x.m x.ev),.arr Qt x.ms]:=by
 unfold Qzy at h;split at h
 ·injection h with h;subst h;exact⟨rfl,rfl⟩
 ·cases h
end Go.Proofs.YtofgbclopbmlcaaGreat

