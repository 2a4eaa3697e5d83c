/- Part 49 of the proof. Conditions: none. -/
import Derived.Test.YtofgbclopbmlcaaGreatG48
import Derived.Test.YtofgbclopbmlcaaGreatG46
import Derived.Test.YtofgbclopbmlcaaGreatG28
namespace Go.Proofs.YtofgbclopbmlcaaGreat
open Go.Fw
set_option linter.unusedVariables false
set_option linter.unusedSimpArgs false
def QFj:PSpec:=⟨[gBd,gM,gIn,gi,⟨false,.sl (.int .i64)⟩],fun(b,m,l,n,w,_)=>(some (TpsP b m l),.cell (bv true),[])⟩
theorem QIm:G0 9 QFj.spec:=QR.cases QE2 QE3 fun(b,m,l,n,w,_) c=>by
 have c:TpsP b m l:=c _ rfl;by_cases h:newE b m l n=0
 ·exact .inr ⟨fun q e=>by cases e;exact⟨c,h⟩,rfl⟩
 ·exact .inl ⟨fun q e=>by cases e;exact⟨c,h⟩,rfl⟩
theorem QE7(xs:Args QFj.gs)(a:WfA QFj.gs xs)(hb:Go.Fw.bdA QFj.gs xs≤1048576):TpsP xs.1 xs.2.1 xs.2.2.1:=by
 obtain⟨b,m,l,n,w,u⟩:=xs;have e:Go.Fw.bdA QFj.gs (b,m,l,n,w,u)=bd gBd.t b+(bd Qt m+(bd (.sl Qv) l+(1+(bd (.sl (.int .i64)) w+0)))):=rfl;rw[e] at hb;exact⟨Qw5 (b:=b) (m:=m) (l:=l) a.1 a.2.1 a.2.2.1 (by omega) (by omega),Qn9 a.1.2.1⟩
end Go.Proofs.YtofgbclopbmlcaaGreat

