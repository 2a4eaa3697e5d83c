/- Part 8 of the proof: Stepped CoreAsks Tell2 Sames Clones CoreLaw CoreTells Fw38 Whole TabStep TabStep0 TabStepA TabStepB TabStepC TabStep2 Cut Save SoundTicks. No statement is handed in here; conditions: none. -/
import Derived.Test.YtofgbclopbmlcaaGreatG7
import Derived.Test.YtofgbclopbmlcaaGreatG6
import Derived.Test.YtofgbclopbmlcaaGreatG5
namespace Go.Proofs.YtofgbclopbmlcaaGreat
open Go.Fw
set_option linter.unusedVariables false
set_option linter.unusedSimpArgs false
set_option maxRecDepth 100000
theorem Qtp (r:List Int) (n:Nat) (k:Int):((QJ r).getD n 0).tmod k=(QJ r).getD n 0%k:=Int.tmod_eq_emod_of_nonneg (Qhq r n).1
theorem i4B:Int.toNat 4=4:=rfl
theorem Qll (r:List Int):(QJ r).set 4 ((QJ r).getD 4 0)=QJ r:=rfl
theorem sf3 {P A:Int} (h:0≤P∧P < 256):rfV P (A%256) (-1)=nzV P (A%256):=QwE h (by omega)
theorem sf4 {P A B:Int} (h:0≤P∧P < 256):rfV P ((A%256+B%256+P%2)%256) ((A%256+B%256+P%2)/256)=QjZ P ((A%256+B%256+P%2)%256) ((A%256+B%256+P%2)/256):=Qe9 h (by omega) (by omega)
theorem QoL (x:Int):(1-Qjx x=0∨1-Qjx x=1):=by unfold Qjx;split<;>omega
theorem sf5 {P A B x:Int} (h:0≤P∧P < 256):rfV P ((A-B-(1-P%2))%256) (1-Qjx x)=QjZ P ((A-B-(1-P%2))%256) (1-Qjx x):=Qe9 h (by omega) (QoL x)
theorem sf6 {P A B x:Int} (h:0≤P∧P < 256):rfV P ((A-B)%256) (1-Qjx x)=Qcj (nzV P ((A-B)%256)) 1 (decide (Qjx x=0)):=by
 rw [Qe9 h (by omega) (QoL x),QjZ]
 congr 1
 unfold Qjx
 split<;>decide
theorem Qbk (x:Int) (h:0≤x∧x < 256):u64 x < 256:=by unfold u64;omega
theorem Qhs {A B:Int}:0≤land .i64 (A%256) (B%256)∧land .i64 (A%256) (B%256) < 256:=by
 have h:=Qbk (A%256) (by omega)
 have:=Nat.and_le_left (n:=u64 (A%256)) (m:=u64 (B%256))
 rw [QeV _ _ (by omega)]
 omega
theorem QwF {A B:Int}:0≤lor .i64 (A%256) (B%256)∧lor .i64 (A%256) (B%256) < 256:=by
 have h1:=Qbk (A%256) (by omega)
 have h2:=Qbk (B%256) (by omega)
 have:=Nat.or_lt_two_pow (n:=8) h1 h2
 rw [QfA _ _ (by omega)]
 omega
theorem Qtq {A B:Int}:0≤lxor .i64 (A%256) (B%256)∧lxor .i64 (A%256) (B%256) < 256:=by
 have h1:=Qbk (A%256) (by omega)
 have h2:=Qbk (B%256) (by omega)
 have h3:=Nat.xor_lt_two_pow (n:=8) h1 h2
 have e:lxor .i64 (A%256) (B%256)=((u64 (A%256) ^^^ u64 (B%256):Nat):Int):=by
  show IntKind.i64.wrap (((BitVec.ofInt 64 (A%256) ^^^ BitVec.ofInt 64 (B%256)).toNat:Nat):Int)=_
  rw [BitVec.toNat_xor,Qab,Qab]
  exact w64 (by omega) (by omega)
 rw [e]
 omega
theorem sfl {P A B:Int} (h:0≤P∧P < 256):rfV P (land .i64 (A%256) (B%256)) (-1)=nzV P (land .i64 (A%256) (B%256)):=QwE h Qhs
theorem sfo {P A B:Int} (h:0≤P∧P < 256):rfV P (lor .i64 (A%256) (B%256)) (-1)=nzV P (lor .i64 (A%256) (B%256)):=QwE h QwF
theorem sfx {P A B:Int} (h:0≤P∧P < 256):rfV P (lxor .i64 (A%256) (B%256)) (-1)=nzV P (lxor .i64 (A%256) (B%256)):=QwE h Qtq
theorem sfs {P A:Int} (h:0≤P∧P < 256):rfV P (A%256*2%256) (A%256/128)=QjZ P (A%256*2%256) (A%256/128):=Qe9 h (by omega) (by omega)
theorem sfr {P A:Int} (h:0≤P∧P < 256):rfV P (A%256*2%256+P%2) (A%256/128)=QjZ P (A%256*2%256+P%2) (A%256/128):=Qe9 h (by omega) (by omega)
theorem sft {P A:Int} (h:0≤P∧P < 256):rfV P (A%256/2) (A%256%2)=QjZ P (A%256/2) (A%256%2):=Qe9 h (by omega) (by omega)
theorem sfu {P A:Int} (h:0≤P∧P < 256):rfV P (A%256/2+128*(P%2)) (A%256%2)=QjZ P (A%256/2+128*(P%2)) (A%256%2):=Qe9 h (by omega) (by omega)
theorem sft' {P A:Int} (h:0≤P∧P < 256):rfV P (A%256/2) (A%2)=QjZ P (A%256/2) (A%2):=Qe9 h (by omega) (by omega)
theorem sfu' {P A:Int} (h:0≤P∧P < 256):rfV P (A%256/2+128*(P%2)) (A%2)=QjZ P (A%256/2+128*(P%2)) (A%2):=Qe9 h (by omega) (by omega)
theorem QIu {α} (a b c d:α):[a,b,c].getD 0 d=a:=rfl
theorem QIv {α} (a b c d:α):[a,b,c].getD 1 d=b:=rfl
theorem QIw {α} (a b c d:α):[a,b,c].getD 2 d=c:=rfl
theorem QIx {α} (a b d:α):[a,b].getD 0 d=a:=rfl
theorem QIy {α} (a b d:α):[a,b].getD 1 d=b:=rfl
theorem Qtr (r:List Int):QJ (QJ r)=QJ r:=by simp [QJ]
theorem Qgw {r:List Int} {v:Int} (h:0≤v∧v < 256):QJ ((QJ r).set 4 v)=(QJ r).set 4 v:=by
 simp [QJ];omega
theorem QoM (l:List Int) (n:Nat):l.set n (l.getD n 0)=l:=by
 apply List.ext_getElem?
 intro i
 rw [List.getElem?_set,List.getD_eq_getElem?_getD]
 by_cases h:n=i
 ·subst h;by_cases h2:n < l.length<;>simp [h2]
 ·simp [h]
theorem QwG (l:List Int) (n:Nat) (x:Int) (h:n≠4):(l.set 4 x).set n (l.getD n 0)=l.set 4 x:=by
 rw [List.set_comm _ _ (Ne.symm h),QoM]
theorem QfL {F:List Int} {t i:Nat} {X Y m:Int} (h:X%m=Y%m):(F.set t X).getD i 0%m=(F.set t Y).getD i 0%m:=by
 rw [List.getD_eq_getElem?_getD,List.getD_eq_getElem?_getD,List.getElem?_set,List.getElem?_set]
 by_cases h1:t=i
 ·rw [if_pos h1,if_pos h1]
  by_cases h2:t < F.length
  ·rw [if_pos h2,if_pos h2];exact h
  ·rw [if_neg h2,if_neg h2]
 ·rw [if_neg h1,if_neg h1]
theorem Qlm {F:List Int} {t i:Nat} {X Y:Int} (h:t≠i):(F.set t X).getD i 0=(F.set t Y).getD i 0:=by
 rw [List.getD_eq_getElem?_getD,List.getD_eq_getElem?_getD,List.getElem?_set,List.getElem?_set,if_neg h,if_neg h]
theorem Qjz {F:List Int} {t:Nat} {X Y:Int} (h:X%65536=Y%65536):QJ (F.set t X)=QJ (F.set t Y):=by
 have h2:X%256=Y%256:=by omega
 simp only [QJ,QfL (F:=F) (t:=t) h,QfL (F:=F) (t:=t) h2]
theorem QoN {F:List Int} {t:Int} {X Y:Int} (ht:okT t) (hw:Q4 t=false) (h:X%256=Y%256):QJ (F.set t.toNat X)=QJ (F.set t.toNat Y):=by
 have h7:t.toNat≠7∧t.toNat≠8:=by
  unfold Q4 at hw;unfold okT at ht
  have:=of_decide_eq_false hw
  omega
 simp only [QJ,QfL (F:=F) (t:=t.toNat) h,Qlm (F:=F) (X:=X) (Y:=Y) h7.1,Qlm (F:=F) (X:=X) (Y:=Y) h7.2]
theorem Qcv {x y:Int} (hx:0≤x∧x < 256):0≤Q3 .i64 x y∧Q3 .i64 x y < 256:=by
 have h:=Qbk x hx
 have h2:=Nat.and_le_left (n:=u64 x) (m:=u64 y)
 have h3:=Nat.xor_lt_two_pow (n:=8) h (show u64 x &&& u64 y < 2 ^ 8 by omega)
 rw [Qc9 _ _ (by omega)]
 omega
theorem QDq {x y:Int} (hx:0≤x∧x < 256) (hy:0≤y∧y < 256):0≤lor .i64 x y∧lor .i64 x y < 256:=by
 have h1:=Qbk x hx
 have h2:=Qbk y hy
 have:=Nat.or_lt_two_pow (n:=8) h1 h2
 rw [QfA _ _ (by omega)]
 omega
theorem Qd1 {p f:Int} {on:Bool} (hp:0≤p∧p < 256) (hf:0≤f∧f < 256):0≤Qcj p f on∧Qcj p f on < 256:=by
 cases on
 ·exact Qcv hp
 ·exact QDq (Qcv hp) hf
theorem QoO {p n:Int} (hp:0≤p∧p < 256):0≤nzV p n∧nzV p n < 256:=Qd1 (Qd1 hp (by omega)) (by omega)
theorem QDr {a:Int} (h:0≤a∧a < 256):((u64 a:Nat):Int)=a:=by unfold u64;omega
theorem QwH {p f:Int} (hp:0≤p∧p < 256) (hf:0≤f∧f < 256):Qcj p f true=lor .i64 p f:=by
 have h1:=Qbk p hp
 have h2:=Qbk f hf
 have h3:=Nat.or_lt_two_pow (n:=8) h1 h2
 have hb:=Qcv (y:=f) hp
 have h4:=Qbk _ hb
 have h5:=Nat.or_lt_two_pow (n:=8) h4 h2
 show lor .i64 (Q3 .i64 p f) f=lor .i64 p f
 rw [QfA _ _ (by omega),QfA _ _ (by omega)]
 have e:u64 (Q3 .i64 p f)=u64 p ^^^ (u64 p &&& u64 f):=by
  have:=QDr hb
  have e2:=Qc9 p f (by omega)
  omega
 rw [e]
 congr 1
 apply Nat.eq_of_testBit_eq
 intro i
 simp only [Nat.testBit_or,Nat.testBit_xor,Nat.testBit_and]
 cases (u64 p).testBit i<;>cases (u64 f).testBit i<;>rfl
theorem QwI {P n:Int} (h:0≤P∧P < 256):decide (0 < land .i64 P (n%256))=(land .i64 P (n%256) != 0):=by
 have hb:=Qhs (A:=P) (B:=n)
 rw [show P%256=P by omega] at hb
 generalize land .i64 P (n%256)=z at *
 by_cases h0:z=0
 ·subst h0;rfl
 ·have:0 < z:=by omega
  simp [this,h0]
set_option maxHeartbeats 8000000 in
theorem Qp7:Qi Tryz.prog 147 doS.spec:=by
 have hP:Qe Tryz.prog _:=Qa Qjm (Qa QDl (Qa Qtm (Qa QAI (Qa Qto (Qa QI (Qa Qb0 (Qc (T:=tree))))))))
 have hT:=tabs hP Qf
 refine doS.good (fn:=Tryz.f147) hT hP Tryz.func147 (by kernel_rfl) rfl fun (s:Stp) (r:List Int) hp=>?_
 obtain ⟨d,to,fr,n⟩:=s
 have h9:r.length=9:=hp _ rfl
 have hl:(QJ r).length=9:=rfl
 have ht:okT (QAG to 0 8):=by rw [Qhr];exact Qgv to
 have hf:okT (QAG fr 0 8):=by rw [Qhr];exact Qgv fr
 have ht1:=Qey ht
 have hf1:=Qey hf
 have ht2:=Qf3 ht
 have hf2:=Qf3 hf
 clear hp
 repeat' first |(refine Go.mk ?_;conv=>whnf) |refine Ql.go ?_ ?_ |refine Qm.go (fun _=>?_) (fun _=>?_) |refine Br.dec (fun _=>?_) (fun _=>?_) |refine Br.go (fun _=>?_) (fun _=>?_) |refine Qd hT hP mixed ?_ |refine Qb hT hP ?_
 all_goals first
  |exact of_decide_eq_true rfl
  |exact h9
  |exact ht1
  |exact hf1
  |exact ht2
  |exact hf2
  |exact rfl
  |skip
 all_goals (try refine .mk [] [] _ R R R R R R (QDk ?_ ?_))
 all_goals clear hT hP
 all_goals (dsimp only at *)
 all_goals (try (simp only [List.length_set,hl];done))
 all_goals (try (rename_i h;simp [doE,h];done))
 all_goals (try simp only [Qhr] at *)
 all_goals (try simp only [Qtp,i4B,Qll])
 all_goals
  have bA:=Qhq r (Qag to).toNat
  have bB:=Qhq r (Qag fr).toNat
  have bP:=QAC r
  have ht2:=Qf3 ht
  clear ht1 hf1 hf2
  try subst_vars
 all_goals (try (rename_i h;exact absurd h (by decide)))
 all_goals (try exact ⟨by omega,by omega,by unfold QuH;omega⟩)
 all_goals (try exact ⟨by omega,by unfold QuH;omega⟩)
 all_goals (try exact (Qgw (QoO bP)).symm)
 all_goals (try simp [-List.getD_eq_getElem?_getD,QIu,QIv,QIw,QIx,QIy,doR,QAD,QBx,shF,QF4,QDj,QEo,QDn,QDo,tnN,tnC,doE,aV,cV,sf3 bP,sf4 bP,sf5 bP,sf6 bP,sfl bP,sfo bP,sfx bP,sfs bP,sfr bP,sft bP,sfu bP,sft' bP,sfu' bP,Qll,w_0,w_1,w_2,w_8])
 all_goals (try exact (Qgw (QoO bP)).symm)
 all_goals (try (rw [Qgw (Qd1 bP (by omega)),QwH bP (by omega)];done))
 all_goals (try (rw [Qgw (Qd1 bP (by omega))];rfl))
 all_goals (try (simp only [QjY,QAg,QsE];exact Qjz (by omega)))
 ·have h4:Qag to=4:=by assumption
  rw [h4]
  exact congrArg QJ (QwC _ _ _)
 ·have h4:¬Qag to=4:=by assumption
  rw [QwG _ _ _ (by unfold okT at ht;omega)]
 ·have hw:Q4 (Qag to)=false:=by simp_all
  rw [w64 (by omega) (by omega)]
  simp only [hw,Bool.false_eq_true,if_false,cond_false]
  exact QoN ht hw (by omega)
 ·have hw:Q4 (Qag to)=true:=by simp_all
  rw [w64 (by omega) (by omega)]
  simp only [hw,if_true,cond_true]
  exact Qjz (by omega)
 ·have hw:Q4 (Qag to)=false:=by simp_all
  rw [show IntKind.i64.wrap (-1)=-1 by decide,w64 (by omega) (by omega),show (QJ r).getD (Qag to).toNat 0+1-2=(QJ r).getD (Qag to).toNat 0+-1 by omega]
  simp only [hw,Bool.false_eq_true,if_false,cond_false]
  exact QoN ht hw (by omega)
 ·have hw:Q4 (Qag to)=true:=by simp_all
  rw [show IntKind.i64.wrap (-1)=-1 by decide,w64 (by omega) (by omega),show (QJ r).getD (Qag to).toNat 0+1-2=(QJ r).getD (Qag to).toNat 0+-1 by omega]
  simp only [hw,if_true,cond_true]
  exact Qjz (by omega)
 ·rw [show (QJ r).getD (Qag to).toNat 0%256*2%256=(QJ r).getD (Qag to).toNat 0*2%256 by omega]
 ·rw [show (QJ r).getD (Qag to).toNat 0%256*2%256+(QJ r).getD 4 0%2=((QJ r).getD (Qag to).toNat 0*2+(QJ r).getD 4 0%2)%256 by omega]
 ·rw [QwI bP]
  generalize (land .i64 ((QJ r).getD 4 0) (n%256) != 0)=b
  by_cases h:fr=1<;>cases b<;>simp [h]
 ·rw [QoM,Qtr]
  (repeat' split)<;>first |rfl |(exfalso;omega) |exact (Qtr r).symm
 all_goals trace_state
abbrev Bsv:=Int × Int × Int
def Qw (c:Cpu) (k:Kor) (irq:Bool):Kor × Bsv :=
 let k1:Kor:=if k.2.1=-1 then Qa0 c (QJ k.1,k.2) irq else (QJ k.1,k.2)
 if k1.2.1=-1 then ((plR 0 k1.1,k1.2),(1,plA 0 k1.1,0))
 else if QeD c k1.2.1 k1.2.2.1=false∨(doF c k1.2.1 k1.2.2.1).1=0 then (k1,(0,0,0))
 else
  let x:=doF c k1.2.1 k1.2.2.1
  ((plR x.2.1 k1.1,k1.2),(x.1,plA x.2.1 k1.1,if x.1=2∧0≤x.2.2.1∧x.2.2.1 < 9 then k1.1.getD x.2.2.1.toNat 0%256 else 0))
theorem QDs {r:List Int} {a b:Int} {n:Bool} {p q s:Int} {x:Kor × Bsv} (h:((r,a,b,n),(p,q,s))=x):AV.tup [.agg [.run .i64 9 r,iv .i64 a,iv .i64 b,bv n],.agg [iv .i64 p,iv .i64 q,iv .i64 s]] =
 AV.tup [.agg [.run .i64 9 x.1.1,iv .i64 x.1.2.1,iv .i64 x.1.2.2.1,bv x.1.2.2.2],.agg [iv .i64 x.2.1,iv .i64 x.2.2.1,iv .i64 x.2.2.2]]:=by subst h;rfl
def QGP (c:Cpu) (k:Kor):Prop:=c.2.1.length≤4611686018427387904∧k.1.length=9
theorem Qd2 (c:Cpu) (k:Kor) (i:Bool):(Qa0 c k i).1=k.1:=by
 unfold Qa0;split
 ·rfl
 ·split<;>rfl
def QEp:Qk:=⟨[QvZ,gK,gB],fun (c,k,i,_)=>(some (QGP c k),.tup [.agg [.run .i64 9 (Qw c k i).1.1,iv .i64 (Qw c k i).1.2.1,iv .i64 (Qw c k i).1.2.2.1,bv (Qw c k i).1.2.2.2],.agg [iv .i64 (Qw c k i).2.1,iv .i64 (Qw c k i).2.2.1,iv .i64 (Qw c k i).2.2.2]],[])⟩
set_option maxHeartbeats 4000000 in
theorem QDt:Qi Tryz.prog 132 QEp.spec:=by
 have hP:Qe Tryz.prog _:=Qa Qmt (Qa Qv3 (Qa QsH (Qa Qor (Qa QT (Qc (T:=tree))))))
 have hT:=tabs hP Qf
 refine QEp.good (fn:=Tryz.f132) hT hP Tryz.func132 (by kernel_rfl) rfl fun (c:Cpu) (k:Kor) (i:Bool) hp=>?_
 obtain ⟨cn,ci,cr,cq,cm⟩:=c
 obtain ⟨r,op,at_,n⟩:=k
 obtain ⟨hz,h9⟩:ci.length≤4611686018427387904∧r.length=9:=hp _ rfl
 clear hp
 repeat' first |(refine Go.mk ?_;conv=>whnf) |refine Ql.go ?_ ?_ |refine Qm.go (fun _=>?_) (fun _=>?_) |refine Br.dec (fun _=>?_) (fun _=>?_) |refine Br.go (fun _=>?_) (fun _=>?_) |refine Qd hT hP mixed ?_ |refine Qb hT hP ?_
 all_goals first
  |exact of_decide_eq_true rfl
  |exact hz
  |exact h9
  |exact ⟨hz,_,rfl⟩
  |exact ⟨_,rfl⟩
  |skip
 all_goals (try refine .mk [] [] _ R R R R R R (QDs ?_))
 all_goals (simp only [Qj,Qw] at *)
 all_goals
  have hs:=Qd2 (cn,ci,cr,cq,cm) (QJ r,op,at_,n) i
  generalize Qa0 (cn,ci,cr,cq,cm) (QJ r,op,at_,n) i=z at *
  obtain ⟨r2,o2,a2,n2⟩:=z
  dsimp only at *
  subst hs
 all_goals (try exact ⟨_,rfl⟩)
 all_goals (try omega)
 all_goals clear hT hP
 all_goals (try simp_all)
 all_goals (try omega)
theorem QoP (r:List Int) (n:Nat):0≤(QJ r).getD n 0∧(QJ r).getD n 0 < 65536:=by
 match n with
 |0 |1 |2 |3 |4 |5 |6 |7 |8=>simp [QJ];omega
 |n+9=>simp [QJ]
theorem QwJ (r:List Int) (n:Nat) (k:Int):((QJ r).getD n 0).tmod k=(QJ r).getD n 0%k:=Int.tmod_eq_emod_of_nonneg (QoP r n).1
theorem QwK (r:List Int) (n:Nat) (k:Int):((QJ r).getD n 0).tdiv k=(QJ r).getD n 0/k:=Int.tdiv_eq_ediv_of_nonneg (QoP r n).1
theorem QAJ (r:List Int) (n:Nat):(IntKind.i64.wrap ((QJ r).getD n 0+1)).tmod 65536=((QJ r).getD n 0+1)%65536:=by
 have:=QoP r n
 rw [w64 (by omega) (by omega),Int.tmod_eq_emod_of_nonneg (by omega)]
theorem QIz (r:List Int):(IntKind.i64.wrap ((QJ r).getD 4 0/4)).tmod 2=(QJ r).getD 4 0/4%2:=by
 have:=QoP r 4
 rw [w64 (by omega) (by omega),Int.tmod_eq_emod_of_nonneg (by omega)]
theorem QF6:(dflt QA:Cyc)=Qaq:=rfl
theorem i0:Int.toNat 0=0:=rfl
theorem i4:Int.toNat 4=4:=rfl
theorem i7:Int.toNat 7=7:=rfl
theorem QIA (c:Cpu):QV c 256=c.2.2.2.1:=rfl
theorem QIB (c:Cpu):QV c 257=c.2.2.2.2:=rfl
set_option maxHeartbeats 4000000 in
theorem QwL:Qi Tryz.prog 74 QEp.spec:=by
 have hP:Qe Tryz.prog _:=Qa Qjm (Qa Qoq (Qa Qv1 (Qa QI (Qa Qu (Qc (T:=tree))))))
 have hT:=tabs hP Qf
 refine QEp.good (fn:=Tryz.f74) hT hP Tryz.func74 (by kernel_rfl) rfl fun (c:Cpu) (k:Kor) (i:Bool) hp=>?_
 obtain ⟨cn,ci,cr,cq,cm⟩:=c
 obtain ⟨r,op,at_,n⟩:=k
 obtain ⟨hz,h9⟩:ci.length≤4611686018427387904∧r.length=9:=hp _ rfl
 clear hp
 repeat' first |(refine Go.mk ?_;conv=>whnf) |refine Ql.go ?_ ?_ |refine Qm.go (fun _=>?_) (fun _=>?_) |refine Br.dec (fun _=>?_) (fun _=>?_) |refine Br.go (fun _=>?_) (fun _=>?_) |refine Qd hT hP mixed ?_ |refine Qb hT hP ?_
 all_goals first
  |exact of_decide_eq_true rfl
  |exact hz
  |exact h9
  |exact ⟨_,rfl⟩
  |skip
 all_goals (try refine .mk [] [] _ R R R R R R (QDs ?_))
 all_goals (simp only [Qj] at *)
 all_goals (try omega)
 all_goals clear hT hP
 all_goals (try simp only [QwK,i4,i7,i0] at *)
 all_goals (try simp only [QwJ,QIz,QAJ,QF6] at *)
 all_goals (try simp_all [Qw,Qa0,QeD,doF,QIA,QIB,plA,plR])
 all_goals (try omega)
 ·exfalso
  rename_i g1 g2 g3 g4
  have g4:(0:Int)≥(cm.length:Int):=g4
  omega
 ·rename_i g1 g2
  have hc:QeD (cn,ci,cr,cq,cm) op at_=false:=by unfold QeD;rw [decide_eq_false (show ¬ 0≤at_ by omega)];simp
  simp only [Qw,if_neg g1,hc,true_or,if_true]
set_option linter.constructorNameAsVariable false
def QF7:List V1→List Blk→Option (Ins × Int):=fun a b=>match a,b with
 | [.agg [.imm (.int .i64 o),.imm (.string s),.imm (.int .i64 m),.ro (.pair (.int .i64) (.pair (.int .i64) (.pair (.int .i64) (.sl (.pair (.int .i64) (.pair (.int .i64) (.pair (.int .i64) (.int .i64)))))))) l],.c (.ptr 0 0)],[.var [.imm (.int .i64 op)]]=>some ((o,s,m,l),op)
 |_,_=>none
theorem Qts {a:List V1} {b:List Blk} {x:Ins × Int} (h:QF7 a b=some x):a=[.agg [iv .i64 x.1.1,.imm (.string x.1.2.1),iv .i64 x.1.2.2.1,.ro QA x.1.2.2.2],.c (.ptr 0 0)]∧b=[.var [iv .i64 x.2]]:=by
 unfold QF7 at h
 split at h
 ·injection h with h;subst h;exact ⟨rfl,rfl⟩
 ·cases h
def QEq:QaV:=⟨Ins × Int,fun x=>[.agg [iv .i64 x.1.1,.imm (.string x.1.2.1),iv .i64 x.1.2.2.1,.ro QA x.1.2.2.2],.c (.ptr 0 0)],fun x=>[.var [iv .i64 x.2]],QF7,
 fun (x,op)=>(none,.cell (bv (x.1 == op)),[some (.var [iv .i64 op])],[])⟩
theorem Qtt:Qi Tryz.prog 246 QEq.spec:=by
 have hP:Qe Tryz.prog _:=(Qc (T:=tree))
 have hT:=tabs hP Qf
 refine QEq.good (fn:=Tryz.f246) hT hP Tryz.func246 (by kernel_rfl) rfl (fun _ _ _ h=>Qts h) fun (((o,s,m,l),op):Ins × Int) hq=>?_
 repeat' first |(refine Go.mk ?_;conv=>whnf) |refine Ql.go ?_ ?_ |refine Qm.go (fun _=>?_) (fun _=>?_) |refine Br.dec (fun _=>?_) (fun _=>?_) |refine Br.go (fun _=>?_) (fun _=>?_) |refine Qd hT hP mixed ?_ |refine Qb hT hP ?_
 all_goals exact .mk [] [0] _ R R R R R R R
theorem QoQ:Qi Tryz.prog 146 QEq.spec:=by
 have hP:Qe Tryz.prog _:=(Qc (T:=tree))
 have hT:=tabs hP Qf
 refine QEq.good (fn:=Tryz.f146) hT hP Tryz.func146 (by kernel_rfl) rfl (fun _ _ _ h=>Qts h) fun (((o,s,m,l),op):Ins × Int) hq=>?_
 repeat' first |(refine Go.mk ?_;conv=>whnf) |refine Ql.go ?_ ?_ |refine Qm.go (fun _=>?_) (fun _=>?_) |refine Br.dec (fun _=>?_) (fun _=>?_) |refine Br.go (fun _=>?_) (fun _=>?_) |refine Qd hT hP mixed ?_ |refine Qb hT hP ?_
 all_goals exact .mk [] [0] _ R R R R R R R
def QqF (p:Ins→Bool):List Ins→Nat→Int
 | [],_=>-1
 |x :: r,k=>if p x=true then (k:Int) else QqF p r (k+1)
def opP (op:Int) (x:Ins):Bool:=x.1 == op
def QfM (l:List Ins) (op:Int):Int:=QqF (opP op) l 0
theorem QjA {l:List Ins} {k:Nat} (h:k < l.length):l.drop k=l.getD k (dflt Qaw) :: l.drop (k+1):=by
 rw [List.drop_eq_getElem_cons h,List.getD_eq_getElem?_getD,List.getElem?_eq_getElem h];rfl
theorem Qtu {p:Ins→Bool}:∀ {l:List Ins} {k:Nat},QqF p l k=-1∨((k:Int)≤QqF p l k∧QqF p l k < k+l.length)
 | [],k=>.inl rfl
 |x :: r,k=>by
   unfold QqF
   by_cases h:p x=true
   ·rw [if_pos h];right;simp only [List.length_cons];omega
   ·rw [if_neg h]
    rcases Qtu (p:=p) (l:=r) (k:=k+1) with h1 |h1
    ·exact .inl h1
    ·right;simp only [List.length_cons];omega
theorem QjB (l:List Ins) (op:Int):QfM l op=-1∨(0≤QfM l op∧QfM l op < l.length):=by
 have:=Qtu (p:=opP op) (l:=l) (k:=0)
 unfold QfM
 simpa using this
structure QEy where
 g:Nat
 l:List Ins
 op:Int
def QAK:List V1→List Blk→Option QEy:=fun a b=>match a,b with
 | [.c (.ro (.pair (.int .i64) (.pair .str (.pair (.int .i64) (.sl (.pair (.int .i64) (.pair (.int .i64) (.pair (.int .i64) (.sl (.pair (.int .i64) (.pair (.int .i64) (.pair (.int .i64) (.int .i64)))))))))))) l),.c (.fn g [0])],[.var [.imm (.int .i64 op)]]=>some ⟨g,l,op⟩
 |_,_=>none
theorem QwM {a:List V1} {b:List Blk} {x:QEy} (h:QAK a b=some x):a=[.c (.ro Qaw x.l),.c (.fn x.g [0])]∧b=[.var [iv .i64 x.op]]:=by
 unfold QAK at h
 split at h
 ·injection h with h;subst h;exact ⟨rfl,rfl⟩
 ·cases h
def QDu:QaV:=⟨QEy,fun x=>[.c (.ro Qaw x.l),.c (.fn x.g [0])],fun x=>[.var [iv .i64 x.op]],QAK,
 fun ⟨g,l,op⟩=>(some ((g=246∨g=146)∧l.length≤4611686018427387904),I (QfM l op),[some (.var [iv .i64 op])],[])⟩
theorem Qyu:Qi Tryz.prog 145 QDu.spec:=by
 have hP:Qe Tryz.prog _:=Qa Qtt (Qa QoQ (Qc (T:=tree)))
 have hT:=tabs hP Qf
 refine QDu.good (fn:=Tryz.f145) hT hP Tryz.func145 (by kernel_rfl) rfl (fun _ _ _ h=>QwM h) fun (⟨g,l,op⟩:QEy) hq=>?_
 obtain ⟨hg,hl⟩:(g=246∨g=146)∧l.length≤4611686018427387904:=hq _ rfl
 clear hq
 rcases hg with rfl |rfl
 ·repeat' first |(refine Go.mk ?_;conv=>whnf) |refine Ql.go ?_ ?_ |refine Qm.go (fun _=>?_) (fun _=>?_) |refine Br.dec (fun _=>?_) (fun _=>?_) |refine Br.go (fun _=>?_) (fun _=>?_) |refine Qd hT hP mixed ?_ |refine Qb hT hP ?_
  refine QO hT hP (A:=Unit) l.length (fun i _=>St.mk ((.cell (.ro Qaw l)) :: (.cell (.fn 246 [0])) :: E5 ((I l.length) :: (I i) :: E10 [])) [some (.var [iv .i64 op])])
   (fun k _=>QqF (opP op) (l.drop k) k=QfM l op) () (Le.mk [] [0] R R R ?_) rfl fun k _ hk hi=>?_
  rotate_right
  repeat' first |(refine Go.mk ?_;conv=>whnf) |refine Ql.go ?_ ?_ |refine Qm.go (fun _=>?_) (fun _=>?_) |refine Br.dec (fun _=>?_) (fun _=>?_) |refine Br.go (fun _=>?_) (fun _=>?_) |refine Qd hT hP mixed ?_ |refine Qb hT hP ?_
  all_goals (try (dsimp only [gi,Den] at *;omega))
  ·rename_i g1 g2
   have hlt:k < l.length:=by omega
   have hp:opP op (l.getD k (dflt Qaw))=true:=beq_iff_eq.2 g2
   refine .mk [] [0] _ R R R R R R (Qg ?_)
   rw [QjA hlt,QqF,if_pos hp] at hi
   exact hi
  ·rename_i g1 g2
   have hlt:k < l.length:=by omega
   have hp:¬ opP op (l.getD k (dflt Qaw))=true:=fun h=>g2 (beq_iff_eq.1 h)
   apply Exists.intro
   apply Exists.intro ()
   refine And.intro (And.intro ?lt91 (And.intro ?ei91 ?inv91)) (Le.mk [] [0] R R ?hh91 ?ht91)
   case hh91=>exact rfl
   case ht91=>repeat' first |exact trivial |exact ⟨rfl,rfl⟩ |refine And.intro ?_ ?_
   case lt91=>omega
   case ei91=>exact QW (by omega)
   rw [QjA hlt,QqF,if_neg hp] at hi
   exact hi
  ·rename_i g1
   refine .mk [] [0] _ R R R R R R (Qg ?_)
   rw [List.drop_of_length_le (by omega)] at hi
   exact hi
  ·repeat' first |exact trivial |exact ⟨rfl,rfl⟩ |refine And.intro ?_ ?_
 ·repeat' first |(refine Go.mk ?_;conv=>whnf) |refine Ql.go ?_ ?_ |refine Qm.go (fun _=>?_) (fun _=>?_) |refine Br.dec (fun _=>?_) (fun _=>?_) |refine Br.go (fun _=>?_) (fun _=>?_) |refine Qd hT hP mixed ?_ |refine Qb hT hP ?_
  refine QO hT hP (A:=Unit) l.length (fun i _=>St.mk ((.cell (.ro Qaw l)) :: (.cell (.fn 146 [0])) :: E5 ((I l.length) :: (I i) :: E10 [])) [some (.var [iv .i64 op])])
   (fun k _=>QqF (opP op) (l.drop k) k=QfM l op) () (Le.mk [] [0] R R R ?_) rfl fun k _ hk hi=>?_
  rotate_right
  repeat' first |(refine Go.mk ?_;conv=>whnf) |refine Ql.go ?_ ?_ |refine Qm.go (fun _=>?_) (fun _=>?_) |refine Br.dec (fun _=>?_) (fun _=>?_) |refine Br.go (fun _=>?_) (fun _=>?_) |refine Qd hT hP mixed ?_ |refine Qb hT hP ?_
  all_goals (try (dsimp only [gi,Den] at *;omega))
  ·rename_i g1 g2
   have hlt:k < l.length:=by omega
   have hp:opP op (l.getD k (dflt Qaw))=true:=beq_iff_eq.2 g2
   refine .mk [] [0] _ R R R R R R (Qg ?_)
   rw [QjA hlt,QqF,if_pos hp] at hi
   exact hi
  ·rename_i g1 g2
   have hlt:k < l.length:=by omega
   have hp:¬ opP op (l.getD k (dflt Qaw))=true:=fun h=>g2 (beq_iff_eq.1 h)
   apply Exists.intro
   apply Exists.intro ()
   refine And.intro (And.intro ?lt120 (And.intro ?ei120 ?inv120)) (Le.mk [] [0] R R ?hh120 ?ht120)
   case hh120=>exact rfl
   case ht120=>repeat' first |exact trivial |exact ⟨rfl,rfl⟩ |refine And.intro ?_ ?_
   case lt120=>omega
   case ei120=>exact QW (by omega)
   rw [QjA hlt,QqF,if_neg hp] at hi
   exact hi
  ·rename_i g1
   refine .mk [] [0] _ R R R R R R (Qg ?_)
   rw [List.drop_of_length_le (by omega)] at hi
   exact hi
  ·repeat' first |exact trivial |exact ⟨rfl,rfl⟩ |refine And.intro ?_ ?_
def Qtv:Qk:=⟨[⟨false,.sl QA⟩],fun (l,_)=>(some (List.length l*48≤140737488351232),.cell (.own 0),[.arr QA l])⟩
theorem Qtw:Qi Tryz.prog 258 Qtv.spec:=by
 have hP:Qe Tryz.prog _:=(Qc (T:=tree))
 have hT:=tabs hP Qf
 refine Qtv.good (fn:=Tryz.f258) hT hP Tryz.func258 (by kernel_rfl) rfl fun (l:List Cyc) hq=>?_
 have hl:l.length*48≤140737488351232:=hq _ rfl
 clear hq
 repeat' first |(refine Go.mk ?_;conv=>whnf) |refine Ql.go ?_ ?_ |refine Qm.go (fun _=>?_) (fun _=>?_) |refine Br.dec (fun _=>?_) (fun _=>?_) |refine Br.go (fun _=>?_) (fun _=>?_) |refine Qd hT hP mixed ?_ |refine Qb hT hP ?_
 all_goals first
  |exact of_decide_eq_true rfl
  |skip
 ·rename_i h
  obtain rfl:l=[]:=List.eq_nil_of_length_eq_zero h
  exact .le (Le.nil 2 QA rfl) (.mk [] [0] _ R R R R R R R)
 ·show (0+l.length)*48≤140737488355328
  omega
 ·exact .mk [] [1] _ R R R R R R R
def Qtx:Qk:=⟨[⟨false,.sl QC⟩],fun (l,_)=>(some (List.length l*32≤140737488351232),.cell (.own 0),[.arr QC l])⟩
theorem Qty:Qi Tryz.prog 259 Qtx.spec:=by
 have hP:Qe Tryz.prog _:=(Qc (T:=tree))
 have hT:=tabs hP Qf
 refine Qtx.good (fn:=Tryz.f259) hT hP Tryz.func259 (by kernel_rfl) rfl fun (l:List Stp) hq=>?_
 have hl:l.length*32≤140737488351232:=hq _ rfl
 clear hq
 repeat' first |(refine Go.mk ?_;conv=>whnf) |refine Ql.go ?_ ?_ |refine Qm.go (fun _=>?_) (fun _=>?_) |refine Br.dec (fun _=>?_) (fun _=>?_) |refine Br.go (fun _=>?_) (fun _=>?_) |refine Qd hT hP mixed ?_ |refine Qb hT hP ?_
 all_goals first
  |exact of_decide_eq_true rfl
  |skip
 ·rename_i h
  obtain rfl:l=[]:=List.eq_nil_of_length_eq_zero h
  exact .le (Le.nil 2 QC rfl) (.mk [] [0] _ R R R R R R R)
 ·show (0+l.length)*32≤140737488355328
  omega
 ·exact .mk [] [1] _ R R R R R R R
def Qdp (l:List Cyc):Prop:=l.length*48≤140737488351232∧∀ x ∈ l,x.2.2.2.length*32≤140737488351232
theorem QAL {l:List Cyc} {k:Nat} (h:k < l.length):l.getD k (dflt QA) ∈ l:=by
 rw [List.getD_eq_getElem?_getD,List.getElem?_eq_getElem h]
 exact List.getElem_mem h
theorem Qln {α:Type} (l:List α) (n:Nat) (d:α):l.set n (l.getD n d)=l:=by
 apply List.ext_getElem?
 intro i
 rw [List.getElem?_set,List.getD_eq_getElem?_getD]
 by_cases h:n=i
 ·subst h;by_cases h2:n < l.length<;>simp [h2]
 ·simp [h]
def Qtz:Qk:=⟨[⟨false,.sl QA⟩],fun (l,_)=>(some (Qdp l),.cell (.own 0),[.arr QA l])⟩
theorem QtA:Qi Tryz.prog 231 Qtz.spec:=by
 have hP:Qe Tryz.prog _:=Qa Qtw (Qa Qty (Qc (T:=tree)))
 have hT:=tabs hP Qf
 refine Qtz.good (fn:=Tryz.f231) hT hP Tryz.func231 (by kernel_rfl) rfl fun (l:List Cyc) hq=>?_
 obtain ⟨h1,h2⟩:Qdp l:=hq _ rfl
 clear hq
 repeat' first |(refine Go.mk ?_;conv=>whnf) |refine Ql.go ?_ ?_ |refine Qm.go (fun _=>?_) (fun _=>?_) |refine Br.dec (fun _=>?_) (fun _=>?_) |refine Br.go (fun _=>?_) (fun _=>?_) |refine Qd hT hP mixed ?_ |refine Qb hT hP ?_
 ·exact h1
 refine QO hT hP (A:=Unit) l.length (fun i _=>St.mk (E3 ((.cell (.own 0)) :: E3 (E1 ((I l.length) :: (I i) :: E10 (E3 (E1 [])))))) [some (.arr QA l)])
  (fun k _=>True) () (Le.mk [] [0] R R ?_ ?_) trivial fun k _ hk _=>?_
 ·exact rfl
 ·repeat' first |exact trivial |exact ⟨rfl,rfl⟩ |refine And.intro ?_ ?_
 repeat' first |(refine Go.mk ?_;conv=>whnf) |refine Ql.go ?_ ?_ |refine Qm.go (fun _=>?_) (fun _=>?_) |refine Br.dec (fun _=>?_) (fun _=>?_) |refine Br.go (fun _=>?_) (fun _=>?_) |refine Qd hT hP mixed ?_ |refine Qb hT hP ?_
 all_goals first
  |exact of_decide_eq_true rfl
  |skip
 all_goals first
  |exact .mk [] [0] _ R R R R R R R
  |(rename_i g1
     have g1:(k:Int) < (l.length:Int):=g1
     first
      |(show 0≤(k:Int)∧(k:Int) < (l.length:Int)
         omega)
      |(show k < l.length
         omega)
      |exact h2 _ (QAL (k:=k) (by omega)))
  |skip
 ·rename_i g1
  have g1:(k:Int) < (l.length:Int):=g1
  apply Exists.intro
  apply Exists.intro ()
  refine And.intro (And.intro ?lt (And.intro ?ei trivial)) (Le.mk [] [0] R R ?hh ?ht)
  case hh=>exact congrArg (fun z=>[some (Blk.arr QA z)]) (Qln l k (dflt QA))
  case ht=>repeat' first |exact trivial |exact ⟨rfl,rfl⟩ |refine And.intro ?_ ?_
  case lt=>omega
  case ei=>exact QW (by omega)
abbrev QIC:Sig:=⟨true,Qaw⟩
def Qyv:Qk:=⟨[QIC],fun (x,_)=>(some (Qdp x.2.2.2),.agg [iv .i64 x.1,.imm (.string x.2.1),iv .i64 x.2.2.1,.ro QA x.2.2.2],[])⟩
theorem QwN:Qi Tryz.prog 170 Qyv.spec:=by
 have hP:Qe Tryz.prog _:=Qa QtA (Qc (T:=tree))
 have hT:=tabs hP Qf
 refine Qyv.good (fn:=Tryz.f170) hT hP Tryz.func170 (by kernel_rfl) rfl fun (x:Ins) hq=>?_
 obtain ⟨o,s,m,l⟩:=x
 have hl:Qdp l:=hq _ rfl
 clear hq
 repeat' first |(refine Go.mk ?_;conv=>whnf) |refine Ql.go ?_ ?_ |refine Qm.go (fun _=>?_) (fun _=>?_) |refine Br.dec (fun _=>?_) (fun _=>?_) |refine Br.go (fun _=>?_) (fun _=>?_) |refine Qd hT hP mixed ?_ |refine Qb hT hP ?_
 ·exact hl
 ·exact .mk [2] [] _ R R R R R R R
def QtB (c:Cpu):Prop:=c.2.1.length*56≤140737488351232∧∀ x ∈ c.2.1,Qdp x.2.2.2
theorem QAM {l:List Ins} {k:Nat} (h:k < l.length):l.getD k (dflt Qaw) ∈ l:=by
 rw [List.getD_eq_getElem?_getD,List.getElem?_eq_getElem h]
 exact List.getElem_mem h
def QwO (c:Cpu) (op:Int):Bool:=decide (0≤QfM c.2.1 op)
def QhU (c:Cpu) (op:Int):Ins:=if QwO c op=true then c.2.1.getD (QfM c.2.1 op).toNat (dflt Qaw) else (0,ByteArray.empty,0,[])
theorem QtC {x y:Ins} {b b':Bool} (h:x=y) (h2:b=b'):AV.tup [.agg [iv .i64 x.1,.imm (.string x.2.1),iv .i64 x.2.2.1,.ro QA x.2.2.2],.c (bv b)]=AV.tup [.agg [iv .i64 y.1,.imm (.string y.2.1),iv .i64 y.2.2.1,.ro QA y.2.2.2],.c (bv b')]:=by rw [h,h2]
def Qyw:Qk:=⟨[QvZ,gi],fun (c,op,_)=>(some (QtB c),.tup [.agg [iv .i64 (QhU c op).1,.imm (.string (QhU c op).2.1),iv .i64 (QhU c op).2.2.1,.ro QA (QhU c op).2.2.2],.c (bv (QwO c op))],[])⟩
theorem QwP:Qi Tryz.prog 211 Qyw.spec:=by
 have hP:Qe Tryz.prog _:=Qa QwN (Qa Qyu (Qc (T:=tree)))
 have hT:=tabs hP Qf
 refine Qyw.good (fn:=Tryz.f211) hT hP Tryz.func211 (by kernel_rfl) rfl fun (c:Cpu) (op:Int) hq=>?_
 obtain ⟨cn,ci,cr,cq,cm⟩:=c
 obtain ⟨h1,h2⟩:QtB (cn,ci,cr,cq,cm):=hq _ rfl
 have h1:ci.length*56≤140737488351232:=h1
 have h2:∀ x ∈ ci,Qdp x.2.2.2:=h2
 clear hq
 repeat' first |(refine Go.mk ?_;conv=>whnf) |refine Ql.go ?_ ?_ |refine Qm.go (fun _=>?_) (fun _=>?_) |refine Br.dec (fun _=>?_) (fun _=>?_) |refine Br.go (fun _=>?_) (fun _=>?_) |refine Qd hT hP mixed ?_ |refine Qb hT hP ?_
 all_goals first
  |exact of_decide_eq_true rfl
  |skip
 have hi:=QjB ci op
 all_goals first
  |exact ⟨.inl rfl,by show ci.length≤_;omega⟩
  |(rename_i g1
     have g1:¬ QfM ci op < 0:=g1
     first
      |(show 0≤QfM ci op∧QfM ci op < (ci.length:Int)
         have hi:=QjB ci op
         omega)
      |(have hi:=QjB ci op
         exact h2 _ (QAM (k:=(QfM ci op).toNat) (by omega))))
  |skip
 ·rename_i g1
  have g1:QfM ci op < 0:=g1
  have hb:QwO (cn,ci,cr,cq,cm) op=false:=decide_eq_false (by show ¬ 0≤QfM ci op;omega)
  refine .le (Le.nilroH 2 [iv .i64 0,.imm (.string ByteArray.empty),iv .i64 0,.imm (.slice none 0 0)] [iv .i64 0,.imm (.string ByteArray.empty),iv .i64 0,.ro QA []] rfl ⟨.inl rfl,.inl rfl,.inl rfl,.inr ⟨rfl,_,rfl⟩,trivial⟩)
   (.mk [] [] _ R R R R R R (QtC (x:=(0,ByteArray.empty,0,[])) ?_ ?_))
  ·unfold QhU;rw [hb];rfl
  ·exact hb.symm
 ·rename_i g1
  have g1:¬ QfM ci op < 0:=g1
  have hb:QwO (cn,ci,cr,cq,cm) op=true:=decide_eq_true (by show 0≤QfM ci op;omega)
  refine .mk [] [] _ R R R R R R (QtC (x:=ci.getD (QfM ci op).toNat (dflt Qaw)) ?_ ?_)
  ·unfold QhU;rw [hb];rfl
  ·exact hb.symm
def Qek:List Stp→List Int→List Int × Bool
 | [],r=>(r,false)
 |s :: rest,r=>if doE s r=true then (doR s r,true) else Qek rest (doR s r)
theorem QjC (s:Stp) (r:List Int):(doR s r).length=9:=by unfold doR;split<;>rfl
theorem QjD {l:List Stp} {k:Nat} (h:k < l.length):l.drop k=l.getD k (dflt QC) :: l.drop (k+1):=by
 rw [List.drop_eq_getElem_cons h,List.getD_eq_getElem?_getD,List.getElem?_eq_getElem h];rfl
def Qbu (x:Cyc) (r:List Int) (D:Int):List Int:=if x.1=1∧0≤x.2.2.1∧x.2.2.1 < 9 then r.set x.2.2.1.toNat D else r
def QS (c:Cpu) (k:Kor) (data:Int):Kor :=
 if k.2.1=-1 then (QJ k.1,if QwO c (data%256)=true then (if 0 < (QhU c (data%256)).2.2.2.length then data%256 else -1) else 259,0,k.2.2.2)
 else if QeD c k.2.1 k.2.2.1=true then
  (if (Qek (doF c k.2.1 k.2.2.1).2.2.2 (Qbu (doF c k.2.1 k.2.2.1) (QJ k.1) (data%256))).2=true∨k.2.2.1+1≥(QV c k.2.1).length
   then ((Qek (doF c k.2.1 k.2.2.1).2.2.2 (Qbu (doF c k.2.1 k.2.2.1) (QJ k.1) (data%256))).1,-1,0,k.2.2.2)
   else ((Qek (doF c k.2.1 k.2.2.1).2.2.2 (Qbu (doF c k.2.1 k.2.2.1) (QJ k.1) (data%256))).1,k.2.1,k.2.2.1+1,k.2.2.2))
 else if k.2.1=259 then (QJ k.1,259,k.2.2.1,k.2.2.2) else (QJ k.1,-1,0,k.2.2.2)
def Qck (c:Cpu) (k:Kor):Prop:=QtB c∧(Qdp c.2.2.1∧Qdp c.2.2.2.1∧Qdp c.2.2.2.2)∧k.1.length=9
theorem QmG {c:Cpu} (h:QtB c) (h2:Qdp c.2.2.1∧Qdp c.2.2.2.1∧Qdp c.2.2.2.2) (op:Int):Qdp (QV c op):=by
 unfold QV
 split
 ·exact h2.2.1
 ·split
  ·exact h2.2.2
  ·split
   ·exact h2.1
   ·split
    ·rename_i x hx
     exact h.2 x (List.mem_of_find?_eq_some hx)
    ·exact ⟨by simp,fun x hx=>by cases hx⟩
theorem QwQ {l:List Cyc} {k:Nat} (h:k < l.length):l.getD k Qaq ∈ l:=by
 rw [List.getD_eq_getElem?_getD,List.getElem?_eq_getElem h]
 exact List.getElem_mem h
theorem QtD {c:Cpu} {op at_:Int} (h:Qdp (QV c op)):(doF c op at_).2.2.2.length*32≤140737488351232:=by
 unfold doF
 by_cases hb:QeD c op at_=true
 ·rw [if_pos hb]
  have:0≤at_∧at_ < (QV c op).length:=by
   unfold QeD at hb
   simp at hb
   exact hb.2
  exact h.2 _ (QwQ (by omega))
 ·rw [if_neg hb];simp [Qaq]
def QwR:Qk:=⟨[QvZ,gK,gi],fun (c,k,d,_)=>(some (Qck c k),.agg [.run .i64 9 (QS c k d).1,iv .i64 (QS c k d).2.1,iv .i64 (QS c k d).2.2.1,bv (QS c k d).2.2.2],[])⟩
def Qyx:Qk:=⟨[QvZ,gK],fun (c,k,_)=>(none,.agg [.run .i64 9 k.1,iv .i64 (if k.2.1=259 then 259 else -1),iv .i64 (if k.2.1=259 then k.2.2.1 else 0),bv k.2.2.2],[])⟩
theorem QwS:Qi Tryz.prog 212 Qyx.spec:=by
 have hP:Qe Tryz.prog _:=(Qc (T:=tree))
 have hT:=tabs hP Qf
 refine Qyx.good (fn:=Tryz.f212) hT hP Tryz.func212 (by kernel_rfl) rfl fun (c:Cpu) (k:Kor) hq=>?_
 obtain ⟨r,op,at_,nmi⟩:=k
 repeat' first |(refine Go.mk ?_;conv=>whnf) |refine Ql.go ?_ ?_ |refine Qm.go (fun _=>?_) (fun _=>?_) |refine Br.dec (fun _=>?_) (fun _=>?_) |refine Br.go (fun _=>?_) (fun _=>?_) |refine Qd hT hP mixed ?_ |refine Qb hT hP ?_
 all_goals first
  |exact of_decide_eq_true rfl
  |skip
 all_goals (refine .mk [] [] _ R R R R R R (Qos (x:=(r,if op=259 then 259 else -1,if op=259 then at_ else 0,nmi)) ?_))
 all_goals (simp_all)
theorem Qd3 {c:Cpu} {r:List Int} {op at_ d:Int} {nmi:Bool} (h:op=-1):QS c (r,op,at_,nmi) d=(QJ r,if QwO c (d%256)=true then (if 0 < (QhU c (d%256)).2.2.2.length then d%256 else -1) else 259,0,nmi):=by
 unfold QS;rw [if_pos h]
theorem Qht {c:Cpu} {r:List Int} {op at_ d:Int} {nmi:Bool} (h:¬ op=-1) (hb:QeD c op at_=false):QS c (r,op,at_,nmi) d=(QJ r,if op=259 then 259 else -1,if op=259 then at_ else 0,nmi):=by
 unfold QS
 rw [if_neg h,if_neg (by show ¬ QeD c op at_=true;rw [hb];decide)]
 by_cases h9:op=259
 ·rw [if_pos h9,if_pos h9,if_pos h9]
 ·rw [if_neg h9,if_neg h9,if_neg h9]
theorem QcS {c:Cpu} {r z:List Int} {op at_ d:Int} {nmi e:Bool} {x:Cyc} (h:¬ op=-1) (hb:QeD c op at_=true) (hx:doF c op at_=x) (hz:Qek x.2.2.2 (Qbu x (QJ r) (d%256))=(z,e)) :
 QS c (r,op,at_,nmi) d=if e=true∨at_+1≥(QV c op).length then (z,-1,0,nmi) else (z,op,at_+1,nmi):=by
 unfold QS
 rw [if_neg h,if_pos (show QeD c op at_=true from hb)]
 show (if (Qek (doF c op at_).2.2.2 (Qbu (doF c op at_) (QJ r) (d%256))).2=true∨_ then _ else _)=_
 rw [hx,hz]
theorem QAN {c:Cpu} {op at_:Int} (h:QeD c op at_=true):0≤at_∧at_ < (QV c op).length:=by
 unfold QeD at h
 simp at h
 exact h.2
set_option maxHeartbeats 8000000 in
theorem QAO:Qi Tryz.prog 134 QwR.spec:=by
 have hP:Qe Tryz.prog _:=Qa Qmt (Qa QT (Qa QwP (Qa Qor (Qa QwS (Qa QF5 (Qa QsJ (Qc (T:=tree))))))))
 have hT:=tabs hP Qf
 refine QwR.good (fn:=Tryz.f134) hT hP Tryz.func134 (by kernel_rfl) rfl fun (c:Cpu) (k:Kor) (data:Int) hq=>?_
 obtain ⟨cn,ci,cr,cq,cm⟩:=c
 obtain ⟨r,op,at_,nmi⟩:=k
 obtain ⟨h1,h2,h3⟩:Qck (cn,ci,cr,cq,cm) (r,op,at_,nmi):=hq _ rfl
 clear hq
 have hC:=QmG h1 h2 op
 have hS:=QtD (at_:=at_) hC
 have h1':ci.length*56≤140737488351232:=h1.1
 repeat' first |(refine Go.mk ?_;conv=>whnf) |refine Ql.go ?_ ?_ |refine Qm.go (fun _=>?_) (fun _=>?_) |refine Br.dec (fun _=>?_) (fun _=>?_) |refine Br.go (fun _=>?_) (fun _=>?_) |refine Qd hT hP mixed ?_ |refine Qb hT hP ?_
 all_goals first
  |exact of_decide_eq_true rfl
  |exact h3
  |exact h1
  |skip
 all_goals (try simp only [Qj] at *)
 all_goals (try dsimp only at *)
 all_goals (have h8:data%2 ^ (Int.toNat 8)=data%256:=rfl)
 all_goals (try simp only [h8] at *)
 all_goals clear h8
 all_goals first
  |(show ci.length≤4611686018427387904
     omega)
  |(show 0≤(doF (cn,ci,cr,cq,cm) op at_).2.2.1∧(doF (cn,ci,cr,cq,cm) op at_).2.2.1 < ((9:Nat):Int)
     omega)
  |(show (doF (cn,ci,cr,cq,cm) op at_).2.2.1.toNat < 9
     omega)
  |(refine .mk [] [] _ R R R R R R (Qos ?_)
     rw [Qd3 (by assumption)]
     simp_all
     done)
  |(refine .mk [] [] _ R R R R R R (Qos ?_)
     rw [Qht (by assumption) (by simp_all)]
     done)
  |skip
 all_goals
  have hb:QeD (cn,ci,cr,cq,cm) op at_=true:=by simp_all
  have hin:=QAN hb
  have hCl:(QV (cn,ci,cr,cq,cm) op).length*48≤140737488351232:=hC.1
  have ewa:IntKind.i64.wrap (at_+1)=at_+1:=w64 (by omega) (by omega)
 all_goals first
  |(have hR:Qbu (doF (cn,ci,cr,cq,cm) op at_) (QJ r) (data%256)=((QJ r).set (doF (cn,ci,cr,cq,cm) op at_).2.2.1.toNat (data%256)):=if_pos ⟨by assumption,by omega,by omega⟩
     refine QO hT hP (doF (cn,ci,cr,cq,cm) op at_).2.2.2.length (fun i (z:List Int)=>St.mk (E3 ((.cell (.ptr 0 0)) :: (.cell (.ptr 1 0)) :: E1 ((.cell (.ptr 2 0)) :: E40 (E20 (E10 ((.cell (.ro QC (doF (cn,ci,cr,cq,cm) op at_).2.2.2)) :: (I ((doF (cn,ci,cr,cq,cm) op at_).2.2.2.length:Int)) :: (I i) :: E20 (E5 (E3 [])))))))) [some (.var [.imm (.string cn),.ro Qaw ci,.ro QA cr,.ro QA cq,.ro QA cm]),some (.var [.run .i64 9 z,iv .i64 op,iv .i64 (IntKind.i64.wrap (at_+1)),bv nmi]),some (.var [.run .i64 9 [0,0,0,0,0,0,0,0,0],iv .i64 0,iv .i64 0,bv false])]) (fun j z=>Qek ((doF (cn,ci,cr,cq,cm) op at_).2.2.2.drop j) z=Qek (doF (cn,ci,cr,cq,cm) op at_).2.2.2 (Qbu (doF (cn,ci,cr,cq,cm) op at_) (QJ r) (data%256))∧z.length=9) ((QJ r).set (doF (cn,ci,cr,cq,cm) op at_).2.2.1.toNat (data%256)) (Le.mk [] [0,1,2] R R (by exact rfl) (by repeat' first |exact trivial |exact ⟨rfl,rfl⟩ |refine And.intro ?_ ?_)) ⟨by rw [hR];rfl,by rw [List.length_set];rfl⟩ fun j z hj hi=>?_)
  |(have hR:Qbu (doF (cn,ci,cr,cq,cm) op at_) (QJ r) (data%256)=QJ r:=if_neg (fun ⟨a,b,c⟩=>by omega)
     refine QO hT hP (doF (cn,ci,cr,cq,cm) op at_).2.2.2.length (fun i (z:List Int)=>St.mk (E3 ((.cell (.ptr 0 0)) :: (.cell (.ptr 1 0)) :: E1 ((.cell (.ptr 2 0)) :: E40 (E20 (E10 ((.cell (.ro QC (doF (cn,ci,cr,cq,cm) op at_).2.2.2)) :: (I ((doF (cn,ci,cr,cq,cm) op at_).2.2.2.length:Int)) :: (I i) :: E20 (E5 (E3 [])))))))) [some (.var [.imm (.string cn),.ro Qaw ci,.ro QA cr,.ro QA cq,.ro QA cm]),some (.var [.run .i64 9 z,iv .i64 op,iv .i64 (IntKind.i64.wrap (at_+1)),bv nmi]),some (.var [.run .i64 9 [0,0,0,0,0,0,0,0,0],iv .i64 0,iv .i64 0,bv false])]) (fun j z=>Qek ((doF (cn,ci,cr,cq,cm) op at_).2.2.2.drop j) z=Qek (doF (cn,ci,cr,cq,cm) op at_).2.2.2 (Qbu (doF (cn,ci,cr,cq,cm) op at_) (QJ r) (data%256))∧z.length=9) (QJ r) (Le.mk [] [0,1,2] R R (by exact rfl) (by repeat' first |exact trivial |exact ⟨rfl,rfl⟩ |refine And.intro ?_ ?_)) ⟨by rw [hR];rfl,rfl⟩ fun j z hj hi=>?_)
  |skip
 all_goals
  obtain ⟨hi,hz⟩:=hi
  repeat' first |(refine Go.mk ?_;conv=>whnf) |refine Ql.go ?_ ?_ |refine Qm.go (fun _=>?_) (fun _=>?_) |refine Br.dec (fun _=>?_) (fun _=>?_) |refine Br.go (fun _=>?_) (fun _=>?_) |refine Qd hT hP mixed ?_ |refine Qb hT hP ?_
 all_goals (try simp only [Qj] at *)
 all_goals (try dsimp only at *)
 all_goals first
  |exact of_decide_eq_true rfl
  |exact hz
  |(show ci.length≤4611686018427387904
     omega)
  |(show 0≤(j:Int)∧(j:Int) < ((doF (cn,ci,cr,cq,cm) op at_).2.2.2.length:Int)
     omega)
  |(show j < (doF (cn,ci,cr,cq,cm) op at_).2.2.2.length
     omega)
  |skip
 all_goals clear hT hP
 all_goals first
  |(rename_i g1 h
     have g1:(j:Int) < ((doF (cn,ci,cr,cq,cm) op at_).2.2.2.length:Int):=g1
     have he:doE ((doF (cn,ci,cr,cq,cm) op at_).2.2.2.getD j (dflt QC)) z=true:=h
     have hrun:Qek (doF (cn,ci,cr,cq,cm) op at_).2.2.2 (Qbu (doF (cn,ci,cr,cq,cm) op at_) (QJ r) (data%256))=(doR ((doF (cn,ci,cr,cq,cm) op at_).2.2.2.getD j (dflt QC)) z,true):=by
      rw [← hi,QjD (by omega),Qek,if_pos he]
     refine .mk [] [] _ R R R R R R (Qos ?_)
     rw [QcS (by assumption) hb rfl hrun,if_pos (.inl rfl)];rfl)
  |(rename_i g1 h
     have g1:(j:Int) < ((doF (cn,ci,cr,cq,cm) op at_).2.2.2.length:Int):=g1
     have he:¬ doE ((doF (cn,ci,cr,cq,cm) op at_).2.2.2.getD j (dflt QC)) z=true:=fun e=>by
      have h:doE ((doF (cn,ci,cr,cq,cm) op at_).2.2.2.getD j (dflt QC)) z=false:=h
      rw [h] at e;cases e
     apply Exists.intro
     apply Exists.intro (doR ((doF (cn,ci,cr,cq,cm) op at_).2.2.2.getD j (dflt QC)) z)
     refine And.intro (And.intro ?lt (And.intro ?ei ?inv)) (Le.mk [] [0,1,2] R R ?hh ?ht)
     case hh=>exact rfl
     case ht=>repeat' first |exact trivial |exact ⟨rfl,rfl⟩ |refine And.intro ?_ ?_
     case lt=>omega
     case ei=>exact QW (by omega)
     case inv =>
      rw [QjD (by omega),Qek,if_neg he] at hi
      exact ⟨hi,QjC _ _⟩)
  |(rename_i g1 h
     have g1:¬ (j:Int) < ((doF (cn,ci,cr,cq,cm) op at_).2.2.2.length:Int):=g1
     have h:IntKind.i64.wrap (at_+1)≥((QV (cn,ci,cr,cq,cm) op).length:Int):=h
     rw [ewa] at h
     have hrun:Qek (doF (cn,ci,cr,cq,cm) op at_).2.2.2 (Qbu (doF (cn,ci,cr,cq,cm) op at_) (QJ r) (data%256))=(z,false):=by
      rw [← hi,List.drop_of_length_le (by omega)];rfl
     refine .mk [] [] _ R R R R R R (Qos ?_)
     rw [QcS (by assumption) hb rfl hrun,if_pos (.inr h)])
  |(rename_i g1 h
     have g1:¬ (j:Int) < ((doF (cn,ci,cr,cq,cm) op at_).2.2.2.length:Int):=g1
     have h:¬ IntKind.i64.wrap (at_+1)≥((QV (cn,ci,cr,cq,cm) op).length:Int):=h
     have hrun:Qek (doF (cn,ci,cr,cq,cm) op at_).2.2.2 (Qbu (doF (cn,ci,cr,cq,cm) op at_) (QJ r) (data%256))=(z,false):=by
      rw [← hi,List.drop_of_length_le (by omega)];rfl
     refine .mk [] [] _ R R R R R R (Qos ?_)
     rw [QcS (by assumption) hb rfl hrun,ewa,if_neg (fun e=>e.elim (fun e=>by cases e) (fun e=>h (by rw [ewa];exact e)))])
  |skip
 all_goals trace_state
theorem QAP {α:Type} {l m:List α} (h:l.length=m.length) {k:Nat} (hk:¬ k < l.length) (h2:l.take k=m.take k):l=m:=by
 rwa [List.take_of_length_le (by omega),List.take_of_length_le (by omega)] at h2
theorem QAQ {α:Type} {l m:List α} {k:Nat} (d:α) (h:k < l.length) (h3:k < m.length) (h2:l.take k=m.take k) (he:l.getD k d=m.getD k d):l.take (k+1)=m.take (k+1):=by
 rw [List.getD_eq_getElem?_getD,List.getD_eq_getElem?_getD,List.getElem?_eq_getElem h,List.getElem?_eq_getElem h3] at he
 rw [List.take_add_one,List.take_add_one,h2,List.getElem?_eq_getElem h,List.getElem?_eq_getElem h3]
 have he:l[k]=m[k]:=he
 rw [he]
theorem QF8 {α:Type} {l m:List α} {k:Nat} (d:α) (he:l.getD k d≠m.getD k d):l≠m:=fun e=>he (by rw [e])
noncomputable def eqB {α:Type} (x y:α):Bool:=@decide (x=y) (Classical.propDecidable _)
theorem Qlo {α:Type} {x y:α} (h:x=y):eqB x y=true:=@decide_eq_true _ (Classical.propDecidable _) h
theorem QAR {α:Type} {x y:α} (h:x≠y):eqB x y=false:=@decide_eq_false _ (Classical.propDecidable _) h
structure QII where
 g:Nat
 l:List Cyc
 m:List Cyc
def Qyy:Qk:=⟨[⟨false,.sl (Qp)⟩],fun (l,_)=>(some (List.length l*48≤140737488351232),.cell (.own 0),[.arr (Qp) l])⟩
theorem QoS:Qi Tryz.prog 71 Qyy.spec:=by
 have hP:Qe Tryz.prog _:=(Qc (T:=tree))
 have hT:=tabs hP Qf
 refine Qyy.good (fn:=Tryz.f71) hT hP Tryz.func71 (by kernel_rfl) rfl fun (l:List (Den (Qp))) hq=>?_
 have hl:l.length*48≤140737488351232:=hq _ rfl
 clear hq
 repeat' first |(refine Go.mk ?_;conv=>whnf) |refine Ql.go ?_ ?_ |refine Qm.go (fun _=>?_) (fun _=>?_) |refine Br.dec (fun _=>?_) (fun _=>?_) |refine Br.go (fun _=>?_) (fun _=>?_) |refine Qd hT hP mixed ?_ |refine Qb hT hP ?_
 all_goals first
  |exact of_decide_eq_true rfl
  |skip
 ·rename_i h
  obtain rfl:l=[]:=List.eq_nil_of_length_eq_zero h
  exact .le (Le.nil 2 (Qp) rfl) (.mk [] [0] _ R R R R R R R)
 ·show (0+l.length)*48≤140737488355328
  omega
 ·exact .mk [] [1] _ R R R R R R R
def Qyz:Qk:=⟨[⟨false,.sl (.int .i64)⟩],fun (l,_)=>(some (List.length l*8≤140737488351232),.cell (.own 0),[.arr (.int .i64) l])⟩
theorem QwT:Qi Tryz.prog 128 Qyz.spec:=by
 have hP:Qe Tryz.prog _:=(Qc (T:=tree))
 have hT:=tabs hP Qf
 refine Qyz.good (fn:=Tryz.f128) hT hP Tryz.func128 (by kernel_rfl) rfl fun (l:List (Den (.int .i64))) hq=>?_
 have hl:l.length*8≤140737488351232:=hq _ rfl
 clear hq
 repeat' first |(refine Go.mk ?_;conv=>whnf) |refine Ql.go ?_ ?_ |refine Qm.go (fun _=>?_) (fun _=>?_) |refine Br.dec (fun _=>?_) (fun _=>?_) |refine Br.go (fun _=>?_) (fun _=>?_) |refine Qd hT hP mixed ?_ |refine Qb hT hP ?_
 all_goals first
  |exact of_decide_eq_true rfl
  |skip
 ·rename_i h
  obtain rfl:l=[]:=List.eq_nil_of_length_eq_zero h
  exact .le (Le.nil 2 (.int .i64) rfl) (.mk [] [0] _ R R R R R R R)
 ·show (0+l.length)*8≤140737488355328
  omega
 ·exact .mk [] [1] _ R R R R R R R
def QtH:Qk:=⟨[⟨false,.sl (.int .u8)⟩],fun (l,_)=>(some (List.length l*1≤140737488351232),.cell (.own 0),[.arr (.int .u8) l])⟩
theorem QtI:Qi Tryz.prog 129 QtH.spec:=by
 have hP:Qe Tryz.prog _:=(Qc (T:=tree))
 have hT:=tabs hP Qf
 refine QtH.good (fn:=Tryz.f129) hT hP Tryz.func129 (by kernel_rfl) rfl fun (l:List (Den (.int .u8))) hq=>?_
 have hl:l.length*1≤140737488351232:=hq _ rfl
 clear hq
 repeat' first |(refine Go.mk ?_;conv=>whnf) |refine Ql.go ?_ ?_ |refine Qm.go (fun _=>?_) (fun _=>?_) |refine Br.dec (fun _=>?_) (fun _=>?_) |refine Br.go (fun _=>?_) (fun _=>?_) |refine Qd hT hP mixed ?_ |refine Qb hT hP ?_
 all_goals first
  |exact of_decide_eq_true rfl
  |skip
 ·rename_i h
  obtain rfl:l=[]:=List.eq_nil_of_length_eq_zero h
  exact .le (Le.nil 2 (.int .u8) rfl) (.mk [] [0] _ R R R R R R R)
 ·show (0+l.length)*1≤140737488355328
  omega
 ·exact .mk [] [1] _ R R R R R R R
theorem QcU:∀ {u:Ty} {x:Den u},u.flat=true→QF u x x=true
 |.int _,x,_=>by simp [QF]
 |.ints _ _,x,_=>by simp [QF]
 |.bool,x,_=>by simp [QF]
 |.str,x,_=>by simp [QF,Qs]
 |.sl _,_,h=>by cases h
 |.pair a b,x,h=>by
   simp only [Ty.flat,Bool.and_eq_true] at h
   simp only [QF,QcU h.1,QcU h.2,Bool.and_self]
def QDx:Qk:=⟨[gK],fun (k,_)=>(none,.agg [.run .i64 9 k.1,iv .i64 k.2.1,iv .i64 k.2.2.1,bv true],[])⟩
theorem QAU:Qi Tryz.prog 205 QDx.spec:=by
 have hP:Qe Tryz.prog _:=(Qc (T:=tree))
 have hT:=tabs hP Qf
 refine QDx.good (fn:=Tryz.f205) hT hP Tryz.func205 (by kernel_rfl) rfl fun (k:Kor) _=>?_
 obtain ⟨r,op,at_,n⟩:=k
 repeat' first |(refine Go.mk ?_;conv=>whnf) |refine Ql.go ?_ ?_ |refine Qm.go (fun _=>?_) (fun _=>?_) |refine Br.dec (fun _=>?_) (fun _=>?_) |refine Br.go (fun _=>?_) (fun _=>?_) |refine Qd hT hP mixed ?_ |refine Qb hT hP ?_
 all_goals first
  |exact of_decide_eq_true rfl
  |exact .mk [] [] _ R R R R R R R
def QtP:List V1→List Blk→Option Kor:=fun a b=>match a,b with
 | [.c (.ptr 0 0)],[.var [.run .i64 9 r,.imm (.int .i64 op),.imm (.int .i64 at_),.imm (.bool nmi)]]=>some (r,op,at_,nmi)
 |_,_=>none
theorem QtQ {a:List V1} {b:List Blk} {x:Kor} (h:QtP a b=some x):a=[.c (.ptr 0 0)]∧b=[.var [.run .i64 9 x.1,iv .i64 x.2.1,iv .i64 x.2.2.1,bv x.2.2.2]]:=by
 unfold QtP at h
 split at h
 ·injection h with h;subst h;exact ⟨rfl,rfl⟩
 ·cases h
def QyE:QaV:=⟨Kor,fun _=>[.c (.ptr 0 0)],fun x=>[.var [.run .i64 9 x.1,iv .i64 x.2.1,iv .i64 x.2.2.1,bv x.2.2.2]],QtP,
 fun (r,op,at_,nmi)=>(none,.agg [.run .i64 9 r,iv .i64 (-1),iv .i64 0,bv nmi],[some (.var [.run .i64 9 r,iv .i64 (-1),iv .i64 0,bv nmi])],[])⟩
theorem QAX:Qi Tryz.prog 144 QyE.spec:=by
 have hP:Qe Tryz.prog _:=(Qc (T:=tree))
 have hT:=tabs hP Qf
 refine QyE.good (fn:=Tryz.f144) hT hP Tryz.func144 (by kernel_rfl) rfl (fun _ _ _ h=>QtQ h) fun ((r,op,at_,nmi):Kor) hq=>?_
 repeat' first |(refine Go.mk ?_;conv=>whnf) |refine Ql.go ?_ ?_ |refine Qm.go (fun _=>?_) (fun _=>?_) |refine Br.dec (fun _=>?_) (fun _=>?_) |refine Br.go (fun _=>?_) (fun _=>?_) |refine Qd hT hP mixed ?_ |refine Qb hT hP ?_
 all_goals exact .mk [] [0] _ R R R R R R R
theorem QDB {c:Cpu} {op at_:Int} (h:¬ op=-1) (h0:0≤at_) (h1:at_ < (QV c op).length):QeD c op at_=true:=by
 unfold QeD;rw [decide_eq_false h,decide_eq_true h0,decide_eq_true h1];rfl
theorem QDC {c:Cpu} {op at_:Int} (h:¬ (0≤at_∧at_ < (QV c op).length)):QeD c op at_=false:=by
 unfold QeD
 by_cases h0:0≤at_
 ·rw [decide_eq_true h0,decide_eq_false (fun h1=>h ⟨h0,h1⟩)];simp
 ·rw [decide_eq_false h0];simp
set_option maxHeartbeats 8000000 in
theorem QmL:Qi Tryz.prog 78 QwR.spec:=by
 have hP:Qe Tryz.prog _:=Qa Qjm (Qa Qb0 (Qa QAX (Qa QoQ (Qa Qyu (Qa Qu (Qa QI (Qa Qp7 (Qa Qoq (Qc (T:=tree))))))))))
 have hT:=tabs hP Qf
 refine QwR.good (fn:=Tryz.f78) hT hP Tryz.func78 (by kernel_rfl) rfl fun (c:Cpu) (k:Kor) (data:Int) hq=>?_
 obtain ⟨cn,ci,cr,cq,cm⟩:=c
 obtain ⟨r,op,at_,nmi⟩:=k
 obtain ⟨h1,h2,h3⟩:Qck (cn,ci,cr,cq,cm) (r,op,at_,nmi):=hq _ rfl
 clear hq
 have hC:=QmG h1 h2 op
 have hS:=QtD (at_:=at_) hC
 have h1':ci.length*56≤140737488351232:=h1.1
 repeat' first |(refine Go.mk ?_;conv=>whnf) |refine Ql.go ?_ ?_ |refine Qm.go (fun _=>?_) (fun _=>?_) |refine Br.dec (fun _=>?_) (fun _=>?_) |refine Br.go (fun _=>?_) (fun _=>?_) |refine Qd hT hP mixed ?_ |refine Qb hT hP ?_
 all_goals first
  |exact of_decide_eq_true rfl
  |exact h3
  |exact h1
  |skip
 all_goals (try simp only [Qj] at *)
 all_goals (try dsimp only at *)
 all_goals first
  |exact ⟨.inr trivial,by show ci.length≤_;omega⟩
  |exact ⟨.inr rfl,by show ci.length≤_;omega⟩
  |(show ci.length≤4611686018427387904
     omega)
  |(have hi:=QjB ci (data%256)
     show 0≤QfM ci (data%256)∧QfM ci (data%256) < (ci.length:Int)
     omega)
  |(show 0≤at_∧at_ < ((QV (cn,ci,cr,cq,cm) op).length:Int)
     omega)
  |(rename_i hreg
     have hreg:0≤((QV (cn,ci,cr,cq,cm) op).getD at_.toNat Qaq).2.2.1∧((QV (cn,ci,cr,cq,cm) op).getD at_.toNat Qaq).2.2.1≤6:=hreg
     have h9:((QV (cn,ci,cr,cq,cm) op).getD at_.toNat Qaq).2.2.1.toNat < 9:=by omega
     exact h9)
  |(rename_i hreg
     have hreg:((QV (cn,ci,cr,cq,cm) op).getD at_.toNat Qaq).2.2.1=7∨((QV (cn,ci,cr,cq,cm) op).getD at_.toNat Qaq).2.2.1=8:=hreg
     have h9:((QV (cn,ci,cr,cq,cm) op).getD at_.toNat Qaq).2.2.1.toNat < 9:=by omega
     exact h9)
  |(rename_i hreg
     clear hT hP
     have hreg:0≤((QV (cn,ci,cr,cq,cm) op).getD at_.toNat Qaq).2.2.1∧((QV (cn,ci,cr,cq,cm) op).getD at_.toNat Qaq).2.2.1≤6:=hreg
     exact (⟨hreg.1,by omega⟩:0≤((QV (cn,ci,cr,cq,cm) op).getD at_.toNat Qaq).2.2.1∧((QV (cn,ci,cr,cq,cm) op).getD at_.toNat Qaq).2.2.1 < (9:Int)))
  |(rename_i hreg
     clear hT hP
     have hreg:((QV (cn,ci,cr,cq,cm) op).getD at_.toNat Qaq).2.2.1=7∨((QV (cn,ci,cr,cq,cm) op).getD at_.toNat Qaq).2.2.1=8:=hreg
     exact (⟨by omega,by omega⟩:0≤((QV (cn,ci,cr,cq,cm) op).getD at_.toNat Qaq).2.2.1∧((QV (cn,ci,cr,cq,cm) op).getD at_.toNat Qaq).2.2.1 < (9:Int)))
  |(show ((QV (cn,ci,cr,cq,cm) op).getD at_.toNat Qaq).2.2.1.toNat < 9
     try simp only [QU,Q4,decide_eq_true_eq] at *
     omega)
  |(rename_i hop hlt
     have hh:QwO (cn,ci,cr,cq,cm) (data%256)=false:=decide_eq_false (by show ¬ 0≤QfM ci (data%256);omega)
     refine .mk [] [] _ R R R R R R (Qos ?_)
     rw [Qd3 hop,if_neg (by rw [hh];decide)])
  |(rename_i hop hge hlen
     have hlen:((ci.getD (QfM ci (data%256)).toNat (dflt Qaw)).2.2.2.length:Int) > 0:=hlen
     have hh:QwO (cn,ci,cr,cq,cm) (data%256)=true:=decide_eq_true (by show 0≤QfM ci (data%256);omega)
     have hf:QhU (cn,ci,cr,cq,cm) (data%256)=ci.getD (QfM ci (data%256)).toNat (dflt Qaw):=if_pos hh
     refine .mk [] [] _ R R R R R R (Qos ?_)
     rw [Qd3 hop,if_pos hh,hf,if_pos (by omega)])
  |(rename_i hop hge hlen
     have hlen:¬ ((ci.getD (QfM ci (data%256)).toNat (dflt Qaw)).2.2.2.length:Int) > 0:=hlen
     have hh:QwO (cn,ci,cr,cq,cm) (data%256)=true:=decide_eq_true (by show 0≤QfM ci (data%256);omega)
     have hf:QhU (cn,ci,cr,cq,cm) (data%256)=ci.getD (QfM ci (data%256)).toNat (dflt Qaw):=if_pos hh
     refine .mk [] [] _ R R R R R R (Qos ?_)
     rw [Qd3 hop,if_pos hh,hf,if_neg (by omega),hop])
  |(have hb:QeD (cn,ci,cr,cq,cm) op at_=false:=QDC (by omega)
     refine .mk [] [] _ R R R R R R (Qos ?_)
     rw [Qht (by assumption) hb]
     simp_all
     done)
  |skip
 all_goals
  have hb:QeD (cn,ci,cr,cq,cm) op at_=true:=QDB (by assumption) (by omega) (by omega)
  have hCl:(QV (cn,ci,cr,cq,cm) op).length*48≤140737488351232:=hC.1
  have ewa:IntKind.i64.wrap (at_+1)=at_+1:=w64 (by omega) (by omega)
  have hx:doF (cn,ci,cr,cq,cm) op at_=((QV (cn,ci,cr,cq,cm) op).getD at_.toNat Qaq):=if_pos hb
  rw [hx] at hS
 all_goals first
  |(have hbus:((QV (cn,ci,cr,cq,cm) op).getD at_.toNat Qaq).1=1:=by assumption
     have hreg:0≤((QV (cn,ci,cr,cq,cm) op).getD at_.toNat Qaq).2.2.1∧((QV (cn,ci,cr,cq,cm) op).getD at_.toNat Qaq).2.2.1≤6:=by assumption
     have hR:Qbu ((QV (cn,ci,cr,cq,cm) op).getD at_.toNat Qaq) (QJ r) (data%256)=((QJ r).set ((QV (cn,ci,cr,cq,cm) op).getD at_.toNat Qaq).2.2.1.toNat (data%256)):=if_pos ⟨hbus,by omega,by omega⟩
     refine QO hT hP ((QV (cn,ci,cr,cq,cm) op).getD at_.toNat Qaq).2.2.2.length (fun i (z:List Int)=>St.mk (E3 (E1 ((.cell (.ptr 0 0)) :: E1 ((.cell (.ptr 1 0)) :: (.cell (.fn 144 [0])) :: E1 ((.cell (.ro QA (QV (cn,ci,cr,cq,cm) op))) :: E40 (E40 (E3 ((.cell (.ro QC ((QV (cn,ci,cr,cq,cm) op).getD at_.toNat Qaq).2.2.2)) :: (I (((QV (cn,ci,cr,cq,cm) op).getD at_.toNat Qaq).2.2.2.length:Int)) :: (I i) :: E20 (E3 []))))))))) [some (.var [.run .i64 9 z,iv .i64 op,iv .i64 (IntKind.i64.wrap (at_+1)),bv nmi]),some (.var [.run .i64 9 [0,0,0,0,0,0,0,0,0],iv .i64 0,iv .i64 0,bv false])]) (fun j z=>Qek (((QV (cn,ci,cr,cq,cm) op).getD at_.toNat Qaq).2.2.2.drop j) z=Qek ((QV (cn,ci,cr,cq,cm) op).getD at_.toNat Qaq).2.2.2 (Qbu ((QV (cn,ci,cr,cq,cm) op).getD at_.toNat Qaq) (QJ r) (data%256))∧z.length=9) ((QJ r).set ((QV (cn,ci,cr,cq,cm) op).getD at_.toNat Qaq).2.2.1.toNat (data%256)) (Le.mk [] [1,3] R R (by exact rfl) (by repeat' first |exact trivial |exact ⟨rfl,rfl⟩ |refine And.intro ?_ ?_)) ⟨by rw [hR];rfl,by rw [List.length_set];rfl⟩ fun j z hj hi=>?_)
  |(have hbus:((QV (cn,ci,cr,cq,cm) op).getD at_.toNat Qaq).1=1:=by assumption
     have hreg:((QV (cn,ci,cr,cq,cm) op).getD at_.toNat Qaq).2.2.1=7∨((QV (cn,ci,cr,cq,cm) op).getD at_.toNat Qaq).2.2.1=8:=by assumption
     have hR:Qbu ((QV (cn,ci,cr,cq,cm) op).getD at_.toNat Qaq) (QJ r) (data%256)=((QJ r).set ((QV (cn,ci,cr,cq,cm) op).getD at_.toNat Qaq).2.2.1.toNat (data%256)):=if_pos ⟨hbus,by omega,by omega⟩
     refine QO hT hP ((QV (cn,ci,cr,cq,cm) op).getD at_.toNat Qaq).2.2.2.length (fun i (z:List Int)=>St.mk (E3 (E1 ((.cell (.ptr 0 0)) :: E1 ((.cell (.ptr 1 0)) :: (.cell (.fn 144 [0])) :: E1 ((.cell (.ro QA (QV (cn,ci,cr,cq,cm) op))) :: E40 (E40 (E3 ((.cell (.ro QC ((QV (cn,ci,cr,cq,cm) op).getD at_.toNat Qaq).2.2.2)) :: (I (((QV (cn,ci,cr,cq,cm) op).getD at_.toNat Qaq).2.2.2.length:Int)) :: (I i) :: E20 (E3 []))))))))) [some (.var [.run .i64 9 z,iv .i64 op,iv .i64 (IntKind.i64.wrap (at_+1)),bv nmi]),some (.var [.run .i64 9 [0,0,0,0,0,0,0,0,0],iv .i64 0,iv .i64 0,bv false])]) (fun j z=>Qek (((QV (cn,ci,cr,cq,cm) op).getD at_.toNat Qaq).2.2.2.drop j) z=Qek ((QV (cn,ci,cr,cq,cm) op).getD at_.toNat Qaq).2.2.2 (Qbu ((QV (cn,ci,cr,cq,cm) op).getD at_.toNat Qaq) (QJ r) (data%256))∧z.length=9) ((QJ r).set ((QV (cn,ci,cr,cq,cm) op).getD at_.toNat Qaq).2.2.1.toNat (data%256)) (Le.mk [] [1,3] R R (by exact rfl) (by repeat' first |exact trivial |exact ⟨rfl,rfl⟩ |refine And.intro ?_ ?_)) ⟨by rw [hR];rfl,by rw [List.length_set];rfl⟩ fun j z hj hi=>?_)
  |(have hreg:¬ (0≤((QV (cn,ci,cr,cq,cm) op).getD at_.toNat Qaq).2.2.1∧((QV (cn,ci,cr,cq,cm) op).getD at_.toNat Qaq).2.2.1≤6):=by assumption
     have hreg2:¬ (((QV (cn,ci,cr,cq,cm) op).getD at_.toNat Qaq).2.2.1=7∨((QV (cn,ci,cr,cq,cm) op).getD at_.toNat Qaq).2.2.1=8):=by assumption
     have hR:Qbu ((QV (cn,ci,cr,cq,cm) op).getD at_.toNat Qaq) (QJ r) (data%256)=QJ r:=if_neg (fun h=>by obtain ⟨a,b,c⟩:=h;omega)
     refine QO hT hP ((QV (cn,ci,cr,cq,cm) op).getD at_.toNat Qaq).2.2.2.length (fun i (z:List Int)=>St.mk (E3 (E1 ((.cell (.ptr 0 0)) :: E1 ((.cell (.ptr 1 0)) :: (.cell (.fn 144 [0])) :: E1 ((.cell (.ro QA (QV (cn,ci,cr,cq,cm) op))) :: E40 (E40 (E3 ((.cell (.ro QC ((QV (cn,ci,cr,cq,cm) op).getD at_.toNat Qaq).2.2.2)) :: (I (((QV (cn,ci,cr,cq,cm) op).getD at_.toNat Qaq).2.2.2.length:Int)) :: (I i) :: E20 (E3 []))))))))) [some (.var [.run .i64 9 z,iv .i64 op,iv .i64 (IntKind.i64.wrap (at_+1)),bv nmi]),some (.var [.run .i64 9 [0,0,0,0,0,0,0,0,0],iv .i64 0,iv .i64 0,bv false])]) (fun j z=>Qek (((QV (cn,ci,cr,cq,cm) op).getD at_.toNat Qaq).2.2.2.drop j) z=Qek ((QV (cn,ci,cr,cq,cm) op).getD at_.toNat Qaq).2.2.2 (Qbu ((QV (cn,ci,cr,cq,cm) op).getD at_.toNat Qaq) (QJ r) (data%256))∧z.length=9) (QJ r) (Le.mk [] [1,3] R R (by exact rfl) (by repeat' first |exact trivial |exact ⟨rfl,rfl⟩ |refine And.intro ?_ ?_)) ⟨by rw [hR];rfl,rfl⟩ fun j z hj hi=>?_)
  |(have hbus:¬ ((QV (cn,ci,cr,cq,cm) op).getD at_.toNat Qaq).1=1:=by assumption
     have hR:Qbu ((QV (cn,ci,cr,cq,cm) op).getD at_.toNat Qaq) (QJ r) (data%256)=QJ r:=if_neg (fun h=>hbus h.1)
     refine QO hT hP ((QV (cn,ci,cr,cq,cm) op).getD at_.toNat Qaq).2.2.2.length (fun i (z:List Int)=>St.mk (E3 (E1 ((.cell (.ptr 0 0)) :: E1 ((.cell (.ptr 1 0)) :: (.cell (.fn 144 [0])) :: E1 ((.cell (.ro QA (QV (cn,ci,cr,cq,cm) op))) :: E40 (E40 (E3 ((.cell (.ro QC ((QV (cn,ci,cr,cq,cm) op).getD at_.toNat Qaq).2.2.2)) :: (I (((QV (cn,ci,cr,cq,cm) op).getD at_.toNat Qaq).2.2.2.length:Int)) :: (I i) :: E20 (E3 []))))))))) [some (.var [.run .i64 9 z,iv .i64 op,iv .i64 (IntKind.i64.wrap (at_+1)),bv nmi]),some (.var [.run .i64 9 [0,0,0,0,0,0,0,0,0],iv .i64 0,iv .i64 0,bv false])]) (fun j z=>Qek (((QV (cn,ci,cr,cq,cm) op).getD at_.toNat Qaq).2.2.2.drop j) z=Qek ((QV (cn,ci,cr,cq,cm) op).getD at_.toNat Qaq).2.2.2 (Qbu ((QV (cn,ci,cr,cq,cm) op).getD at_.toNat Qaq) (QJ r) (data%256))∧z.length=9) (QJ r) (Le.mk [] [1,3] R R (by exact rfl) (by repeat' first |exact trivial |exact ⟨rfl,rfl⟩ |refine And.intro ?_ ?_)) ⟨by rw [hR];rfl,rfl⟩ fun j z hj hi=>?_)
  |skip
 all_goals
  obtain ⟨hi,hz⟩:=hi
  have hS':((QV (cn,ci,cr,cq,cm) op).getD at_.toNat Qaq).2.2.2.length*32≤140737488351232:=hS
  repeat' first |(refine Go.mk ?_;conv=>whnf) |refine Ql.go ?_ ?_ |refine Qm.go (fun _=>?_) (fun _=>?_) |refine Br.dec (fun _=>?_) (fun _=>?_) |refine Br.go (fun _=>?_) (fun _=>?_) |refine Qd hT hP mixed ?_ |refine Qb hT hP ?_
 all_goals (try simp only [Qj] at *)
 all_goals (try dsimp only at *)
 all_goals first
  |exact of_decide_eq_true rfl
  |exact hz
  |(show ci.length≤4611686018427387904
     omega)
  |(show 0≤(j:Int)∧(j:Int) < (((QV (cn,ci,cr,cq,cm) op).getD at_.toNat Qaq).2.2.2.length:Int)
     omega)
  |(show j < ((QV (cn,ci,cr,cq,cm) op).getD at_.toNat Qaq).2.2.2.length
     omega)
  |skip
 all_goals clear hT hP
 all_goals first
  |(rename_i g1 h
     have g1:(j:Int) < (((QV (cn,ci,cr,cq,cm) op).getD at_.toNat Qaq).2.2.2.length:Int):=g1
     have he:doE (((QV (cn,ci,cr,cq,cm) op).getD at_.toNat Qaq).2.2.2.getD j (dflt QC)) z=true:=h
     have hrun:Qek ((QV (cn,ci,cr,cq,cm) op).getD at_.toNat Qaq).2.2.2 (Qbu ((QV (cn,ci,cr,cq,cm) op).getD at_.toNat Qaq) (QJ r) (data%256))=(doR (((QV (cn,ci,cr,cq,cm) op).getD at_.toNat Qaq).2.2.2.getD j (dflt QC)) z,true):=by
      rw [← hi,QjD (by omega),Qek,if_pos he]
     refine .mk [] [] _ R R R R R R (Qos ?_)
     rw [QcS (by assumption) hb hx hrun,if_pos (.inl rfl)];rfl)
  |(rename_i g1 h
     have g1:(j:Int) < (((QV (cn,ci,cr,cq,cm) op).getD at_.toNat Qaq).2.2.2.length:Int):=g1
     have he:¬ doE (((QV (cn,ci,cr,cq,cm) op).getD at_.toNat Qaq).2.2.2.getD j (dflt QC)) z=true:=fun e=>by
      have h:doE (((QV (cn,ci,cr,cq,cm) op).getD at_.toNat Qaq).2.2.2.getD j (dflt QC)) z=false:=h
      rw [h] at e;cases e
     apply Exists.intro
     apply Exists.intro (doR (((QV (cn,ci,cr,cq,cm) op).getD at_.toNat Qaq).2.2.2.getD j (dflt QC)) z)
     refine And.intro (And.intro ?lt (And.intro ?ei ?inv)) (Le.mk [] [0,1] R R ?hh ?ht)
     case hh=>exact rfl
     case ht=>repeat' first |exact trivial |exact ⟨rfl,rfl⟩ |refine And.intro ?_ ?_
     case lt=>omega
     case ei=>exact QW (by omega)
     case inv =>
      rw [QjD (by omega),Qek,if_neg he] at hi
      exact ⟨hi,QjC _ _⟩)
  |(rename_i g1 h
     have g1:¬ (j:Int) < (((QV (cn,ci,cr,cq,cm) op).getD at_.toNat Qaq).2.2.2.length:Int):=g1
     have h:IntKind.i64.wrap (at_+1)=((QV (cn,ci,cr,cq,cm) op).length:Int):=h
     rw [ewa] at h
     have hrun:Qek ((QV (cn,ci,cr,cq,cm) op).getD at_.toNat Qaq).2.2.2 (Qbu ((QV (cn,ci,cr,cq,cm) op).getD at_.toNat Qaq) (QJ r) (data%256))=(z,false):=by
      rw [← hi,List.drop_of_length_le (by omega)];rfl
     refine .mk [] [] _ R R R R R R (Qos ?_)
     rw [QcS (by assumption) hb hx hrun,if_pos (.inr (by omega))])
  |(rename_i g1 h
     have g1:¬ (j:Int) < (((QV (cn,ci,cr,cq,cm) op).getD at_.toNat Qaq).2.2.2.length:Int):=g1
     have h:¬ IntKind.i64.wrap (at_+1)=((QV (cn,ci,cr,cq,cm) op).length:Int):=h
     rw [ewa] at h
     have hrun:Qek ((QV (cn,ci,cr,cq,cm) op).getD at_.toNat Qaq).2.2.2 (Qbu ((QV (cn,ci,cr,cq,cm) op).getD at_.toNat Qaq) (QJ r) (data%256))=(z,false):=by
      rw [← hi,List.drop_of_length_le (by omega)];rfl
     refine .mk [] [] _ R R R R R R (Qos ?_)
     rw [QcS (by assumption) hb hx hrun,ewa,if_neg (fun e=>e.elim (fun e=>by cases e) (fun e=>by omega))])
  |skip
 all_goals trace_state
abbrev QEs:=List (Den (.int .i64) × Den (.int .i64))
structure mrX where
 s:Int
 M:QEs
 a:Int
structure mwX where
 s:Int
 M:QEs
 a:Int
 d:Int
structure wcX where
 c:Cpu
 k:Kor
 i:Bool
 s:Int
 M:QEs
theorem QtS {c:Cpu} {k:Kor} (h:Qck c k):QGP c k:=⟨by have:=h.1.1;omega,h.2.2⟩
theorem QAZ (a:Int) (r:List Int):(plR a r).length=r.length:=by
 unfold plR
 repeat' split
 all_goals simp
theorem QwY (c:Cpu) (k:Kor) (i:Bool):(Qw c k i).1.1.length=9:=by
 have h9:(QJ k.1).length=9:=rfl
 have hs:=Qd2 c (QJ k.1,k.2) i
 have h1:(if k.2.1=-1 then Qa0 c (QJ k.1,k.2) i else (QJ k.1,k.2)).1=QJ k.1:=by
  split
  ·exact hs
  ·rfl
 unfold Qw
 dsimp only
 generalize (if k.2.1=-1 then Qa0 c (QJ k.1,k.2) i else (QJ k.1,k.2))=k1 at *
 repeat' split
 all_goals first
  |(show (plR _ k1.1).length=9
     rw [QAZ,h1];rfl)
  |(rw [h1];rfl)
theorem QoW:∀ (l:List Stp) (r:List Int),r.length=9→(Qek l r).1.length=9
 | [],r,h=>h
 |s :: l,r,h=>by
   unfold Qek
   split
   ·exact QjC _ _
   ·exact QoW l _ (QjC _ _)
theorem Qls (c:Cpu) (k:Kor) (d:Int):(QS c k d).1.length=9:=by
 have h9:(QJ k.1).length=9:=rfl
 have h8:∀ x D,(Qbu x (QJ k.1) D).length=9:=fun x D=>by
  unfold Qbu
  split
  ·rw [List.length_set];rfl
  ·rfl
 unfold QS
 repeat' split
 all_goals first
  |rfl
  |exact QoW _ _ (h8 _ _)
theorem Qlt {c:Cpu} {k:Kor} (h:Qck c k) (i:Bool):Qck c (Qw c k i).1:=by
 refine ⟨h.1,h.2.1,?_⟩
 exact QwY c k i
structure wrX where
 c:Cpu
 k:Kor
 s:Int
 M:QEs
def Qee (r:Int):Bool:=bif decide (r≥0) then decide (r < 9) else false
def QDD:Qk:=⟨[gi],fun (r,_)=>(none,.cell (bv (Qee r)),[])⟩
theorem QmO:Qi Tryz.prog 261 QDD.spec:=by
 have hP:Qe Tryz.prog _:=(Qc (T:=tree))
 have hT:=tabs hP Qf
 refine QDD.good (fn:=Tryz.f261) hT hP Tryz.func261 (by kernel_rfl) rfl fun (r:Int) _=>?_
 repeat' first |(refine Go.mk ?_;conv=>whnf) |refine Ql.go ?_ ?_ |refine Qm.go (fun _=>?_) (fun _=>?_) |refine Br.dec (fun _=>?_) (fun _=>?_) |refine Br.go (fun _=>?_) (fun _=>?_) |refine Qd hT hP mixed ?_ |refine Qb hT hP ?_
 all_goals (refine .mk [] [] _ R R R R R R (Qo ?_))
 all_goals (unfold Qee;simp_all)
 all_goals omega
def Qd6 (d:Int):Int × Int × Bool :=
 if d=1 then (115,115,false) else if d=2 then (97,0,true) else if d=3∨d=12∨d=13∨d=14∨d=15 then (98,0,false) else if d=4∨d=5∨d=6∨d=7∨d=8∨d=9 then (98,98,false)
 else if d=10∨d=11 then (97,0,false) else if d=16∨d=17 then (0,0,true) else if d=18∨d=19∨d=22∨d=23 then (119,98,false) else if d=20∨d=21 then (98,119,false) else (0,0,false)
def QyL:Qk:=⟨[gi],fun (d,_)=>(none,.tup [.c (.imm (.int .u8 (Qd6 d).1)),.c (.imm (.int .u8 (Qd6 d).2.1)),.c (bv (Qd6 d).2.2)],[])⟩
theorem QGa {x y:Int × Int × Bool} (h:x=y):AV.tup [.c (.imm (.int .u8 x.1)),.c (.imm (.int .u8 x.2.1)),.c (bv x.2.2)]=AV.tup [.c (.imm (.int .u8 y.1)),.c (.imm (.int .u8 y.2.1)),.c (bv y.2.2)]:=by rw [h]
theorem Qw7:Qi Tryz.prog 270 QyL.spec:=by
 have hP:Qe Tryz.prog _:=(Qc (T:=tree))
 have hT:=tabs hP Qf
 refine QyL.good (fn:=Tryz.f270) hT hP Tryz.func270 (by kernel_rfl) rfl fun (d:Int) _=>?_
 repeat' first |(refine Go.mk ?_;conv=>whnf) |refine Ql.go ?_ ?_ |refine Qm.go (fun _=>?_) (fun _=>?_) |refine Br.dec (fun _=>?_) (fun _=>?_) |refine Br.go (fun _=>?_) (fun _=>?_) |refine Qd hT hP mixed ?_ |refine Qb hT hP ?_
 all_goals clear hT hP
 all_goals first
  |(rename_i g
     have g:d=_:=g
     subst g
     exact .mk [] [] _ R R R R R R R)
  |skip
 refine .mk [] [] _ R R R R R R (QGa (x:=(0,0,false)) ?_)
 unfold Qd6
 simp_all
def QeF (r n:Int):Bool:=if n=0 then decide (r=0) else if n=119 then (bif Qee r then Q4 r else false) else if n=98 then (bif Qee r then !Q4 r else false) else Qee r
def QyM:Qk:=⟨[gi,⟨false,.int .u8⟩],fun (r,n,_)=>(none,.cell (bv (QeF r n)),[])⟩
theorem Qw8:Qi Tryz.prog 271 QyM.spec:=by
 have hP:Qe Tryz.prog _:=Qa QmO (Qa Qe5 (Qc (T:=tree)))
 have hT:=tabs hP Qf
 refine QyM.good (fn:=Tryz.f271) hT hP Tryz.func271 (by kernel_rfl) rfl fun (r n:Int) _=>?_
 repeat' first |(refine Go.mk ?_;conv=>whnf) |refine Ql.go ?_ ?_ |refine Qm.go (fun _=>?_) (fun _=>?_) |refine Br.dec (fun _=>?_) (fun _=>?_) |refine Br.go (fun _=>?_) (fun _=>?_) |refine Qd hT hP mixed ?_ |refine Qb hT hP ?_
 all_goals clear hT hP
 all_goals (refine .mk [] [] _ R R R R R R (Qo ?_))
 all_goals (show _=QeF r n;unfold QeF;simp_all)
 all_goals rfl
def Qbw (s:Stp):Int:=if (Qd6 s.1).2.2=false then 0 else if s.1=2∧(Qee s.2.1=true∧Q4 s.2.1=true) then 65535 else 255
def Q1 (s:Stp):Int :=
 if s.1 < 0∨s.1≥25 then 8 else
 if s.1=24 then (if s.2.1≠0∨s.2.2.1 < 0∨s.2.2.1 > 1∨s.2.2.2 < 0∨s.2.2.2 > 255 then 1 else 0) else
 if QeF s.2.1 (Qd6 s.1).1=false∨QeF s.2.2.1 (Qd6 s.1).2.1=false∨((Qd6 s.1).1=115∧Q4 s.2.1≠Q4 s.2.2.1)∨s.2.2.2 < 0∨s.2.2.2 > Qbw s then 1 else 0
abbrev Qw9:Sig:=⟨true,QC⟩
def QtV:Qk:=⟨[Qw9],fun (s,_)=>(none,I (Q1 s),[])⟩
set_option maxHeartbeats 4000000 in
theorem Qxa:Qi Tryz.prog 262 QtV.spec:=by
 have hP:Qe Tryz.prog _:=Qa QmO (Qa Qe5 (Qa Qw7 (Qa Qw8 (Qc (T:=tree)))))
 have hT:=tabs hP Qf
 refine QtV.good (fn:=Tryz.f262) hT hP Tryz.func262 (by kernel_rfl) rfl fun (s:Stp) _=>?_
 obtain ⟨sd,st,sf,sn⟩:=s
 repeat' first |(refine Go.mk ?_;conv=>whnf) |refine Ql.go ?_ ?_ |refine Qm.go (fun _=>?_) (fun _=>?_) |refine Br.dec (fun _=>?_) (fun _=>?_) |refine Br.go (fun _=>?_) (fun _=>?_) |refine Qd hT hP mixed ?_ |refine Qb hT hP ?_
 all_goals clear hT hP
 all_goals (refine .mk [] [] _ R R R R R R (Qg ?_))
 all_goals (show _=Q1 (sd,st,sf,sn);unfold Q1 Qbw Q4)
 all_goals (simp_all)
 all_goals (try omega)
 all_goals first
  |(exfalso
     have h2:(Qd6 2).1=115:=by assumption
     exact absurd h2 (by decide))
  |(simp_all [Q4];done)
  |(simp_all [Q4];omega)
theorem QGb {k:Int} (h:k < 0∨k > 24) (g:¬ k < 0) (g2:¬ k > 24):False:=by omega
def QK (d:Int):Qk:=⟨[Qw9],fun (s,_)=>(some (s.1=d),I (Q1 s),[])⟩
def QtW:Qk:=⟨[Qw9],fun (s,_)=>(some (s.1 < 0∨s.1 > 24),I (Q1 s),[])⟩
set_option maxHeartbeats 4000000 in
theorem QtX:Qi Tryz.prog 199 (QK 0).spec:=by
 have hP:Qe Tryz.prog _:=Qa Qu (Qa QI (Qc (T:=tree)))
 have hT:=tabs hP Qf
 refine (QK 0).good (fn:=Tryz.f199) hT hP Tryz.func199 (by kernel_rfl) rfl fun (s:Stp) hq=>?_
 obtain ⟨sd,st,sf,sn⟩:=s
 have hd:sd=0:=hq _ rfl
 clear hq
 subst hd
 repeat' first |(refine Go.mk ?_;conv=>whnf) |refine Ql.go ?_ ?_ |refine Qm.go (fun _=>?_) (fun _=>?_) |refine Br.dec (fun _=>?_) (fun _=>?_) |refine Br.go (fun _=>?_) (fun _=>?_) |refine Qd hT hP mixed ?_ |refine Qb hT hP ?_
 all_goals clear hT hP
 all_goals (refine .mk [] [] _ R R R R R R (Qg ?_))
 all_goals (show _=Q1 (0,st,sf,sn))
 all_goals (simp [Q1,Qbw,Qd6,QeF,Qee,Q4,QU] at *)
 all_goals first
  |omega
  |(simp_all;done)
  |(simp_all;omega)
  |(refine ⟨by omega,by omega,?_,by omega,by omega⟩;rw [Bool.eq_iff_iff];simp;omega)
  |skip
set_option maxHeartbeats 4000000 in
theorem QtY:Qi Tryz.prog 199 (QK 1).spec:=by
 have hP:Qe Tryz.prog _:=Qa Qu (Qa QI (Qc (T:=tree)))
 have hT:=tabs hP Qf
 refine (QK 1).good (fn:=Tryz.f199) hT hP Tryz.func199 (by kernel_rfl) rfl fun (s:Stp) hq=>?_
 obtain ⟨sd,st,sf,sn⟩:=s
 have hd:sd=1:=hq _ rfl
 clear hq
 subst hd
 repeat' first |(refine Go.mk ?_;conv=>whnf) |refine Ql.go ?_ ?_ |refine Qm.go (fun _=>?_) (fun _=>?_) |refine Br.dec (fun _=>?_) (fun _=>?_) |refine Br.go (fun _=>?_) (fun _=>?_) |refine Qd hT hP mixed ?_ |refine Qb hT hP ?_
 all_goals clear hT hP
 all_goals (refine .mk [] [] _ R R R R R R (Qg ?_))
 all_goals (show _=Q1 (1,st,sf,sn))
 all_goals (simp [Q1,Qbw,Qd6,QeF,Qee,Q4,QU] at *)
 all_goals first
  |omega
  |(simp_all;done)
  |(simp_all;omega)
  |(refine ⟨by omega,by omega,?_,by omega,by omega⟩;rw [Bool.eq_iff_iff];simp;omega)
  |skip
set_option maxHeartbeats 4000000 in
theorem QtZ:Qi Tryz.prog 199 (QK 2).spec:=by
 have hP:Qe Tryz.prog _:=Qa Qu (Qa QI (Qc (T:=tree)))
 have hT:=tabs hP Qf
 refine (QK 2).good (fn:=Tryz.f199) hT hP Tryz.func199 (by kernel_rfl) rfl fun (s:Stp) hq=>?_
 obtain ⟨sd,st,sf,sn⟩:=s
 have hd:sd=2:=hq _ rfl
 clear hq
 subst hd
 repeat' first |(refine Go.mk ?_;conv=>whnf) |refine Ql.go ?_ ?_ |refine Qm.go (fun _=>?_) (fun _=>?_) |refine Br.dec (fun _=>?_) (fun _=>?_) |refine Br.go (fun _=>?_) (fun _=>?_) |refine Qd hT hP mixed ?_ |refine Qb hT hP ?_
 all_goals clear hT hP
 all_goals (refine .mk [] [] _ R R R R R R (Qg ?_))
 all_goals (show _=Q1 (2,st,sf,sn))
 all_goals (simp [Q1,Qbw,Qd6,QeF,Qee,Q4,QU] at *)
 all_goals first
  |omega
  |(simp_all;done)
  |(simp_all;omega)
  |(refine ⟨by omega,by omega,?_,by omega,by omega⟩;rw [Bool.eq_iff_iff];simp;omega)
  |skip
set_option maxHeartbeats 4000000 in
theorem Qt0:Qi Tryz.prog 199 (QK 3).spec:=by
 have hP:Qe Tryz.prog _:=Qa Qu (Qa QI (Qc (T:=tree)))
 have hT:=tabs hP Qf
 refine (QK 3).good (fn:=Tryz.f199) hT hP Tryz.func199 (by kernel_rfl) rfl fun (s:Stp) hq=>?_
 obtain ⟨sd,st,sf,sn⟩:=s
 have hd:sd=3:=hq _ rfl
 clear hq
 subst hd
 repeat' first |(refine Go.mk ?_;conv=>whnf) |refine Ql.go ?_ ?_ |refine Qm.go (fun _=>?_) (fun _=>?_) |refine Br.dec (fun _=>?_) (fun _=>?_) |refine Br.go (fun _=>?_) (fun _=>?_) |refine Qd hT hP mixed ?_ |refine Qb hT hP ?_
 all_goals clear hT hP
 all_goals (refine .mk [] [] _ R R R R R R (Qg ?_))
 all_goals (show _=Q1 (3,st,sf,sn))
 all_goals (simp [Q1,Qbw,Qd6,QeF,Qee,Q4,QU] at *)
 all_goals first
  |omega
  |(simp_all;done)
  |(simp_all;omega)
  |(refine ⟨by omega,by omega,?_,by omega,by omega⟩;rw [Bool.eq_iff_iff];simp;omega)
  |skip
set_option maxHeartbeats 4000000 in
theorem Qt1:Qi Tryz.prog 199 (QK 4).spec:=by
 have hP:Qe Tryz.prog _:=Qa Qu (Qa QI (Qc (T:=tree)))
 have hT:=tabs hP Qf
 refine (QK 4).good (fn:=Tryz.f199) hT hP Tryz.func199 (by kernel_rfl) rfl fun (s:Stp) hq=>?_
 obtain ⟨sd,st,sf,sn⟩:=s
 have hd:sd=4:=hq _ rfl
 clear hq
 subst hd
 repeat' first |(refine Go.mk ?_;conv=>whnf) |refine Ql.go ?_ ?_ |refine Qm.go (fun _=>?_) (fun _=>?_) |refine Br.dec (fun _=>?_) (fun _=>?_) |refine Br.go (fun _=>?_) (fun _=>?_) |refine Qd hT hP mixed ?_ |refine Qb hT hP ?_
 all_goals clear hT hP
 all_goals (refine .mk [] [] _ R R R R R R (Qg ?_))
 all_goals (show _=Q1 (4,st,sf,sn))
 all_goals (simp [Q1,Qbw,Qd6,QeF,Qee,Q4,QU] at *)
 all_goals first
  |omega
  |(simp_all;done)
  |(simp_all;omega)
  |(refine ⟨by omega,by omega,?_,by omega,by omega⟩;rw [Bool.eq_iff_iff];simp;omega)
  |skip
set_option maxHeartbeats 4000000 in
theorem Qt2:Qi Tryz.prog 199 (QK 5).spec:=by
 have hP:Qe Tryz.prog _:=Qa Qu (Qa QI (Qc (T:=tree)))
 have hT:=tabs hP Qf
 refine (QK 5).good (fn:=Tryz.f199) hT hP Tryz.func199 (by kernel_rfl) rfl fun (s:Stp) hq=>?_
 obtain ⟨sd,st,sf,sn⟩:=s
 have hd:sd=5:=hq _ rfl
 clear hq
 subst hd
 repeat' first |(refine Go.mk ?_;conv=>whnf) |refine Ql.go ?_ ?_ |refine Qm.go (fun _=>?_) (fun _=>?_) |refine Br.dec (fun _=>?_) (fun _=>?_) |refine Br.go (fun _=>?_) (fun _=>?_) |refine Qd hT hP mixed ?_ |refine Qb hT hP ?_
 all_goals clear hT hP
 all_goals (refine .mk [] [] _ R R R R R R (Qg ?_))
 all_goals (show _=Q1 (5,st,sf,sn))
 all_goals (simp [Q1,Qbw,Qd6,QeF,Qee,Q4,QU] at *)
 all_goals first
  |omega
  |(simp_all;done)
  |(simp_all;omega)
  |(refine ⟨by omega,by omega,?_,by omega,by omega⟩;rw [Bool.eq_iff_iff];simp;omega)
  |skip
set_option maxHeartbeats 4000000 in
theorem Qt3:Qi Tryz.prog 199 (QK 6).spec:=by
 have hP:Qe Tryz.prog _:=Qa Qu (Qa QI (Qc (T:=tree)))
 have hT:=tabs hP Qf
 refine (QK 6).good (fn:=Tryz.f199) hT hP Tryz.func199 (by kernel_rfl) rfl fun (s:Stp) hq=>?_
 obtain ⟨sd,st,sf,sn⟩:=s
 have hd:sd=6:=hq _ rfl
 clear hq
 subst hd
 repeat' first |(refine Go.mk ?_;conv=>whnf) |refine Ql.go ?_ ?_ |refine Qm.go (fun _=>?_) (fun _=>?_) |refine Br.dec (fun _=>?_) (fun _=>?_) |refine Br.go (fun _=>?_) (fun _=>?_) |refine Qd hT hP mixed ?_ |refine Qb hT hP ?_
 all_goals clear hT hP
 all_goals (refine .mk [] [] _ R R R R R R (Qg ?_))
 all_goals (show _=Q1 (6,st,sf,sn))
 all_goals (simp [Q1,Qbw,Qd6,QeF,Qee,Q4,QU] at *)
 all_goals first
  |omega
  |(simp_all;done)
  |(simp_all;omega)
  |(refine ⟨by omega,by omega,?_,by omega,by omega⟩;rw [Bool.eq_iff_iff];simp;omega)
  |skip
set_option maxHeartbeats 4000000 in
theorem Qt4:Qi Tryz.prog 199 (QK 7).spec:=by
 have hP:Qe Tryz.prog _:=Qa Qu (Qa QI (Qc (T:=tree)))
 have hT:=tabs hP Qf
 refine (QK 7).good (fn:=Tryz.f199) hT hP Tryz.func199 (by kernel_rfl) rfl fun (s:Stp) hq=>?_
 obtain ⟨sd,st,sf,sn⟩:=s
 have hd:sd=7:=hq _ rfl
 clear hq
 subst hd
 repeat' first |(refine Go.mk ?_;conv=>whnf) |refine Ql.go ?_ ?_ |refine Qm.go (fun _=>?_) (fun _=>?_) |refine Br.dec (fun _=>?_) (fun _=>?_) |refine Br.go (fun _=>?_) (fun _=>?_) |refine Qd hT hP mixed ?_ |refine Qb hT hP ?_
 all_goals clear hT hP
 all_goals (refine .mk [] [] _ R R R R R R (Qg ?_))
 all_goals (show _=Q1 (7,st,sf,sn))
 all_goals (simp [Q1,Qbw,Qd6,QeF,Qee,Q4,QU] at *)
 all_goals first
  |omega
  |(simp_all;done)
  |(simp_all;omega)
  |(refine ⟨by omega,by omega,?_,by omega,by omega⟩;rw [Bool.eq_iff_iff];simp;omega)
  |skip
set_option maxHeartbeats 4000000 in
theorem Qt5:Qi Tryz.prog 199 (QK 8).spec:=by
 have hP:Qe Tryz.prog _:=Qa Qu (Qa QI (Qc (T:=tree)))
 have hT:=tabs hP Qf
 refine (QK 8).good (fn:=Tryz.f199) hT hP Tryz.func199 (by kernel_rfl) rfl fun (s:Stp) hq=>?_
 obtain ⟨sd,st,sf,sn⟩:=s
 have hd:sd=8:=hq _ rfl
 clear hq
 subst hd
 repeat' first |(refine Go.mk ?_;conv=>whnf) |refine Ql.go ?_ ?_ |refine Qm.go (fun _=>?_) (fun _=>?_) |refine Br.dec (fun _=>?_) (fun _=>?_) |refine Br.go (fun _=>?_) (fun _=>?_) |refine Qd hT hP mixed ?_ |refine Qb hT hP ?_
 all_goals clear hT hP
 all_goals (refine .mk [] [] _ R R R R R R (Qg ?_))
 all_goals (show _=Q1 (8,st,sf,sn))
 all_goals (simp [Q1,Qbw,Qd6,QeF,Qee,Q4,QU] at *)
 all_goals first
  |omega
  |(simp_all;done)
  |(simp_all;omega)
  |(refine ⟨by omega,by omega,?_,by omega,by omega⟩;rw [Bool.eq_iff_iff];simp;omega)
  |skip
set_option maxHeartbeats 4000000 in
theorem Qt6:Qi Tryz.prog 199 (QK 9).spec:=by
 have hP:Qe Tryz.prog _:=Qa Qu (Qa QI (Qc (T:=tree)))
 have hT:=tabs hP Qf
 refine (QK 9).good (fn:=Tryz.f199) hT hP Tryz.func199 (by kernel_rfl) rfl fun (s:Stp) hq=>?_
 obtain ⟨sd,st,sf,sn⟩:=s
 have hd:sd=9:=hq _ rfl
 clear hq
 subst hd
 repeat' first |(refine Go.mk ?_;conv=>whnf) |refine Ql.go ?_ ?_ |refine Qm.go (fun _=>?_) (fun _=>?_) |refine Br.dec (fun _=>?_) (fun _=>?_) |refine Br.go (fun _=>?_) (fun _=>?_) |refine Qd hT hP mixed ?_ |refine Qb hT hP ?_
 all_goals clear hT hP
 all_goals (refine .mk [] [] _ R R R R R R (Qg ?_))
 all_goals (show _=Q1 (9,st,sf,sn))
 all_goals (simp [Q1,Qbw,Qd6,QeF,Qee,Q4,QU] at *)
 all_goals first
  |omega
  |(simp_all;done)
  |(simp_all;omega)
  |(refine ⟨by omega,by omega,?_,by omega,by omega⟩;rw [Bool.eq_iff_iff];simp;omega)
  |skip
set_option maxHeartbeats 4000000 in
theorem Qqb:Qi Tryz.prog 199 (QK 10).spec:=by
 have hP:Qe Tryz.prog _:=Qa Qu (Qa QI (Qc (T:=tree)))
 have hT:=tabs hP Qf
 refine (QK 10).good (fn:=Tryz.f199) hT hP Tryz.func199 (by kernel_rfl) rfl fun (s:Stp) hq=>?_
 obtain ⟨sd,st,sf,sn⟩:=s
 have hd:sd=10:=hq _ rfl
 clear hq
 subst hd
 repeat' first |(refine Go.mk ?_;conv=>whnf) |refine Ql.go ?_ ?_ |refine Qm.go (fun _=>?_) (fun _=>?_) |refine Br.dec (fun _=>?_) (fun _=>?_) |refine Br.go (fun _=>?_) (fun _=>?_) |refine Qd hT hP mixed ?_ |refine Qb hT hP ?_
 all_goals clear hT hP
 all_goals (refine .mk [] [] _ R R R R R R (Qg ?_))
 all_goals (show _=Q1 (10,st,sf,sn))
 all_goals (simp [Q1,Qbw,Qd6,QeF,Qee,Q4,QU] at *)
 all_goals first
  |omega
  |(simp_all;done)
  |(simp_all;omega)
  |(refine ⟨by omega,by omega,?_,by omega,by omega⟩;rw [Bool.eq_iff_iff];simp;omega)
  |skip
set_option maxHeartbeats 4000000 in
theorem Qqc:Qi Tryz.prog 199 (QK 11).spec:=by
 have hP:Qe Tryz.prog _:=Qa Qu (Qa QI (Qc (T:=tree)))
 have hT:=tabs hP Qf
 refine (QK 11).good (fn:=Tryz.f199) hT hP Tryz.func199 (by kernel_rfl) rfl fun (s:Stp) hq=>?_
 obtain ⟨sd,st,sf,sn⟩:=s
 have hd:sd=11:=hq _ rfl
 clear hq
 subst hd
 repeat' first |(refine Go.mk ?_;conv=>whnf) |refine Ql.go ?_ ?_ |refine Qm.go (fun _=>?_) (fun _=>?_) |refine Br.dec (fun _=>?_) (fun _=>?_) |refine Br.go (fun _=>?_) (fun _=>?_) |refine Qd hT hP mixed ?_ |refine Qb hT hP ?_
 all_goals clear hT hP
 all_goals (refine .mk [] [] _ R R R R R R (Qg ?_))
 all_goals (show _=Q1 (11,st,sf,sn))
 all_goals (simp [Q1,Qbw,Qd6,QeF,Qee,Q4,QU] at *)
 all_goals first
  |omega
  |(simp_all;done)
  |(simp_all;omega)
  |(refine ⟨by omega,by omega,?_,by omega,by omega⟩;rw [Bool.eq_iff_iff];simp;omega)
  |skip
set_option maxHeartbeats 4000000 in
theorem Qqd:Qi Tryz.prog 199 (QK 12).spec:=by
 have hP:Qe Tryz.prog _:=Qa Qu (Qa QI (Qc (T:=tree)))
 have hT:=tabs hP Qf
 refine (QK 12).good (fn:=Tryz.f199) hT hP Tryz.func199 (by kernel_rfl) rfl fun (s:Stp) hq=>?_
 obtain ⟨sd,st,sf,sn⟩:=s
 have hd:sd=12:=hq _ rfl
 clear hq
 subst hd
 repeat' first |(refine Go.mk ?_;conv=>whnf) |refine Ql.go ?_ ?_ |refine Qm.go (fun _=>?_) (fun _=>?_) |refine Br.dec (fun _=>?_) (fun _=>?_) |refine Br.go (fun _=>?_) (fun _=>?_) |refine Qd hT hP mixed ?_ |refine Qb hT hP ?_
 all_goals clear hT hP
 all_goals (refine .mk [] [] _ R R R R R R (Qg ?_))
 all_goals (show _=Q1 (12,st,sf,sn))
 all_goals (simp [Q1,Qbw,Qd6,QeF,Qee,Q4,QU] at *)
 all_goals first
  |omega
  |(simp_all;done)
  |(simp_all;omega)
  |(refine ⟨by omega,by omega,?_,by omega,by omega⟩;rw [Bool.eq_iff_iff];simp;omega)
  |skip
set_option maxHeartbeats 4000000 in
theorem Qqe:Qi Tryz.prog 199 (QK 13).spec:=by
 have hP:Qe Tryz.prog _:=Qa Qu (Qa QI (Qc (T:=tree)))
 have hT:=tabs hP Qf
 refine (QK 13).good (fn:=Tryz.f199) hT hP Tryz.func199 (by kernel_rfl) rfl fun (s:Stp) hq=>?_
 obtain ⟨sd,st,sf,sn⟩:=s
 have hd:sd=13:=hq _ rfl
 clear hq
 subst hd
 repeat' first |(refine Go.mk ?_;conv=>whnf) |refine Ql.go ?_ ?_ |refine Qm.go (fun _=>?_) (fun _=>?_) |refine Br.dec (fun _=>?_) (fun _=>?_) |refine Br.go (fun _=>?_) (fun _=>?_) |refine Qd hT hP mixed ?_ |refine Qb hT hP ?_
 all_goals clear hT hP
 all_goals (refine .mk [] [] _ R R R R R R (Qg ?_))
 all_goals (show _=Q1 (13,st,sf,sn))
 all_goals (simp [Q1,Qbw,Qd6,QeF,Qee,Q4,QU] at *)
 all_goals first
  |omega
  |(simp_all;done)
  |(simp_all;omega)
  |(refine ⟨by omega,by omega,?_,by omega,by omega⟩;rw [Bool.eq_iff_iff];simp;omega)
  |skip
set_option maxHeartbeats 4000000 in
theorem Qqf:Qi Tryz.prog 199 (QK 14).spec:=by
 have hP:Qe Tryz.prog _:=Qa Qu (Qa QI (Qc (T:=tree)))
 have hT:=tabs hP Qf
 refine (QK 14).good (fn:=Tryz.f199) hT hP Tryz.func199 (by kernel_rfl) rfl fun (s:Stp) hq=>?_
 obtain ⟨sd,st,sf,sn⟩:=s
 have hd:sd=14:=hq _ rfl
 clear hq
 subst hd
 repeat' first |(refine Go.mk ?_;conv=>whnf) |refine Ql.go ?_ ?_ |refine Qm.go (fun _=>?_) (fun _=>?_) |refine Br.dec (fun _=>?_) (fun _=>?_) |refine Br.go (fun _=>?_) (fun _=>?_) |refine Qd hT hP mixed ?_ |refine Qb hT hP ?_
 all_goals clear hT hP
 all_goals (refine .mk [] [] _ R R R R R R (Qg ?_))
 all_goals (show _=Q1 (14,st,sf,sn))
 all_goals (simp [Q1,Qbw,Qd6,QeF,Qee,Q4,QU] at *)
 all_goals first
  |omega
  |(simp_all;done)
  |(simp_all;omega)
  |(refine ⟨by omega,by omega,?_,by omega,by omega⟩;rw [Bool.eq_iff_iff];simp;omega)
  |skip
set_option maxHeartbeats 4000000 in
theorem Qqg:Qi Tryz.prog 199 (QK 15).spec:=by
 have hP:Qe Tryz.prog _:=Qa Qu (Qa QI (Qc (T:=tree)))
 have hT:=tabs hP Qf
 refine (QK 15).good (fn:=Tryz.f199) hT hP Tryz.func199 (by kernel_rfl) rfl fun (s:Stp) hq=>?_
 obtain ⟨sd,st,sf,sn⟩:=s
 have hd:sd=15:=hq _ rfl
 clear hq
 subst hd
 repeat' first |(refine Go.mk ?_;conv=>whnf) |refine Ql.go ?_ ?_ |refine Qm.go (fun _=>?_) (fun _=>?_) |refine Br.dec (fun _=>?_) (fun _=>?_) |refine Br.go (fun _=>?_) (fun _=>?_) |refine Qd hT hP mixed ?_ |refine Qb hT hP ?_
 all_goals clear hT hP
 all_goals (refine .mk [] [] _ R R R R R R (Qg ?_))
 all_goals (show _=Q1 (15,st,sf,sn))
 all_goals (simp [Q1,Qbw,Qd6,QeF,Qee,Q4,QU] at *)
 all_goals first
  |omega
  |(simp_all;done)
  |(simp_all;omega)
  |(refine ⟨by omega,by omega,?_,by omega,by omega⟩;rw [Bool.eq_iff_iff];simp;omega)
  |skip
set_option maxHeartbeats 4000000 in
theorem Qqh:Qi Tryz.prog 199 (QK 16).spec:=by
 have hP:Qe Tryz.prog _:=Qa Qu (Qa QI (Qc (T:=tree)))
 have hT:=tabs hP Qf
 refine (QK 16).good (fn:=Tryz.f199) hT hP Tryz.func199 (by kernel_rfl) rfl fun (s:Stp) hq=>?_
 obtain ⟨sd,st,sf,sn⟩:=s
 have hd:sd=16:=hq _ rfl
 clear hq
 subst hd
 repeat' first |(refine Go.mk ?_;conv=>whnf) |refine Ql.go ?_ ?_ |refine Qm.go (fun _=>?_) (fun _=>?_) |refine Br.dec (fun _=>?_) (fun _=>?_) |refine Br.go (fun _=>?_) (fun _=>?_) |refine Qd hT hP mixed ?_ |refine Qb hT hP ?_
 all_goals clear hT hP
 all_goals (refine .mk [] [] _ R R R R R R (Qg ?_))
 all_goals (show _=Q1 (16,st,sf,sn))
 all_goals (simp [Q1,Qbw,Qd6,QeF,Qee,Q4,QU] at *)
 all_goals first
  |omega
  |(simp_all;done)
  |(simp_all;omega)
  |(refine ⟨by omega,by omega,?_,by omega,by omega⟩;rw [Bool.eq_iff_iff];simp;omega)
  |skip
set_option maxHeartbeats 4000000 in
theorem Qqi:Qi Tryz.prog 199 (QK 17).spec:=by
 have hP:Qe Tryz.prog _:=Qa Qu (Qa QI (Qc (T:=tree)))
 have hT:=tabs hP Qf
 refine (QK 17).good (fn:=Tryz.f199) hT hP Tryz.func199 (by kernel_rfl) rfl fun (s:Stp) hq=>?_
 obtain ⟨sd,st,sf,sn⟩:=s
 have hd:sd=17:=hq _ rfl
 clear hq
 subst hd
 repeat' first |(refine Go.mk ?_;conv=>whnf) |refine Ql.go ?_ ?_ |refine Qm.go (fun _=>?_) (fun _=>?_) |refine Br.dec (fun _=>?_) (fun _=>?_) |refine Br.go (fun _=>?_) (fun _=>?_) |refine Qd hT hP mixed ?_ |refine Qb hT hP ?_
 all_goals clear hT hP
 all_goals (refine .mk [] [] _ R R R R R R (Qg ?_))
 all_goals (show _=Q1 (17,st,sf,sn))
 all_goals (simp [Q1,Qbw,Qd6,QeF,Qee,Q4,QU] at *)
 all_goals first
  |omega
  |(simp_all;done)
  |(simp_all;omega)
  |(refine ⟨by omega,by omega,?_,by omega,by omega⟩;rw [Bool.eq_iff_iff];simp;omega)
  |skip
set_option maxHeartbeats 4000000 in
theorem Qqj:Qi Tryz.prog 199 (QK 18).spec:=by
 have hP:Qe Tryz.prog _:=Qa Qu (Qa QI (Qc (T:=tree)))
 have hT:=tabs hP Qf
 refine (QK 18).good (fn:=Tryz.f199) hT hP Tryz.func199 (by kernel_rfl) rfl fun (s:Stp) hq=>?_
 obtain ⟨sd,st,sf,sn⟩:=s
 have hd:sd=18:=hq _ rfl
 clear hq
 subst hd
 repeat' first |(refine Go.mk ?_;conv=>whnf) |refine Ql.go ?_ ?_ |refine Qm.go (fun _=>?_) (fun _=>?_) |refine Br.dec (fun _=>?_) (fun _=>?_) |refine Br.go (fun _=>?_) (fun _=>?_) |refine Qd hT hP mixed ?_ |refine Qb hT hP ?_
 all_goals clear hT hP
 all_goals (refine .mk [] [] _ R R R R R R (Qg ?_))
 all_goals (show _=Q1 (18,st,sf,sn))
 all_goals (simp [Q1,Qbw,Qd6,QeF,Qee,Q4,QU] at *)
 all_goals first
  |omega
  |(simp_all;done)
  |(simp_all;omega)
  |(refine ⟨by omega,by omega,?_,by omega,by omega⟩;rw [Bool.eq_iff_iff];simp;omega)
  |skip
set_option maxHeartbeats 4000000 in
theorem Qqk:Qi Tryz.prog 199 (QK 19).spec:=by
 have hP:Qe Tryz.prog _:=Qa Qu (Qa QI (Qc (T:=tree)))
 have hT:=tabs hP Qf
 refine (QK 19).good (fn:=Tryz.f199) hT hP Tryz.func199 (by kernel_rfl) rfl fun (s:Stp) hq=>?_
 obtain ⟨sd,st,sf,sn⟩:=s
 have hd:sd=19:=hq _ rfl
 clear hq
 subst hd
 repeat' first |(refine Go.mk ?_;conv=>whnf) |refine Ql.go ?_ ?_ |refine Qm.go (fun _=>?_) (fun _=>?_) |refine Br.dec (fun _=>?_) (fun _=>?_) |refine Br.go (fun _=>?_) (fun _=>?_) |refine Qd hT hP mixed ?_ |refine Qb hT hP ?_
 all_goals clear hT hP
 all_goals (refine .mk [] [] _ R R R R R R (Qg ?_))
 all_goals (show _=Q1 (19,st,sf,sn))
 all_goals (simp [Q1,Qbw,Qd6,QeF,Qee,Q4,QU] at *)
 all_goals first
  |omega
  |(simp_all;done)
  |(simp_all;omega)
  |(refine ⟨by omega,by omega,?_,by omega,by omega⟩;rw [Bool.eq_iff_iff];simp;omega)
  |skip
set_option maxHeartbeats 4000000 in
theorem Qql:Qi Tryz.prog 199 (QK 20).spec:=by
 have hP:Qe Tryz.prog _:=Qa Qu (Qa QI (Qc (T:=tree)))
 have hT:=tabs hP Qf
 refine (QK 20).good (fn:=Tryz.f199) hT hP Tryz.func199 (by kernel_rfl) rfl fun (s:Stp) hq=>?_
 obtain ⟨sd,st,sf,sn⟩:=s
 have hd:sd=20:=hq _ rfl
 clear hq
 subst hd
 repeat' first |(refine Go.mk ?_;conv=>whnf) |refine Ql.go ?_ ?_ |refine Qm.go (fun _=>?_) (fun _=>?_) |refine Br.dec (fun _=>?_) (fun _=>?_) |refine Br.go (fun _=>?_) (fun _=>?_) |refine Qd hT hP mixed ?_ |refine Qb hT hP ?_
 all_goals clear hT hP
 all_goals (refine .mk [] [] _ R R R R R R (Qg ?_))
 all_goals (show _=Q1 (20,st,sf,sn))
 all_goals (simp [Q1,Qbw,Qd6,QeF,Qee,Q4,QU] at *)
 all_goals first
  |omega
  |(simp_all;done)
  |(simp_all;omega)
  |(refine ⟨by omega,by omega,?_,by omega,by omega⟩;rw [Bool.eq_iff_iff];simp;omega)
  |skip
set_option maxHeartbeats 4000000 in
theorem Qqm:Qi Tryz.prog 199 (QK 21).spec:=by
 have hP:Qe Tryz.prog _:=Qa Qu (Qa QI (Qc (T:=tree)))
 have hT:=tabs hP Qf
 refine (QK 21).good (fn:=Tryz.f199) hT hP Tryz.func199 (by kernel_rfl) rfl fun (s:Stp) hq=>?_
 obtain ⟨sd,st,sf,sn⟩:=s
 have hd:sd=21:=hq _ rfl
 clear hq
 subst hd
 repeat' first |(refine Go.mk ?_;conv=>whnf) |refine Ql.go ?_ ?_ |refine Qm.go (fun _=>?_) (fun _=>?_) |refine Br.dec (fun _=>?_) (fun _=>?_) |refine Br.go (fun _=>?_) (fun _=>?_) |refine Qd hT hP mixed ?_ |refine Qb hT hP ?_
 all_goals clear hT hP
 all_goals (refine .mk [] [] _ R R R R R R (Qg ?_))
 all_goals (show _=Q1 (21,st,sf,sn))
 all_goals (simp [Q1,Qbw,Qd6,QeF,Qee,Q4,QU] at *)
 all_goals first
  |omega
  |(simp_all;done)
  |(simp_all;omega)
  |(refine ⟨by omega,by omega,?_,by omega,by omega⟩;rw [Bool.eq_iff_iff];simp;omega)
  |skip
set_option maxHeartbeats 4000000 in
theorem Qqn:Qi Tryz.prog 199 (QK 22).spec:=by
 have hP:Qe Tryz.prog _:=Qa Qu (Qa QI (Qc (T:=tree)))
 have hT:=tabs hP Qf
 refine (QK 22).good (fn:=Tryz.f199) hT hP Tryz.func199 (by kernel_rfl) rfl fun (s:Stp) hq=>?_
 obtain ⟨sd,st,sf,sn⟩:=s
 have hd:sd=22:=hq _ rfl
 clear hq
 subst hd
 repeat' first |(refine Go.mk ?_;conv=>whnf) |refine Ql.go ?_ ?_ |refine Qm.go (fun _=>?_) (fun _=>?_) |refine Br.dec (fun _=>?_) (fun _=>?_) |refine Br.go (fun _=>?_) (fun _=>?_) |refine Qd hT hP mixed ?_ |refine Qb hT hP ?_
 all_goals clear hT hP
 all_goals (refine .mk [] [] _ R R R R R R (Qg ?_))
 all_goals (show _=Q1 (22,st,sf,sn))
 all_goals (simp [Q1,Qbw,Qd6,QeF,Qee,Q4,QU] at *)
 all_goals first
  |omega
  |(simp_all;done)
  |(simp_all;omega)
  |(refine ⟨by omega,by omega,?_,by omega,by omega⟩;rw [Bool.eq_iff_iff];simp;omega)
  |skip
set_option maxHeartbeats 4000000 in
theorem Qqo:Qi Tryz.prog 199 (QK 23).spec:=by
 have hP:Qe Tryz.prog _:=Qa Qu (Qa QI (Qc (T:=tree)))
 have hT:=tabs hP Qf
 refine (QK 23).good (fn:=Tryz.f199) hT hP Tryz.func199 (by kernel_rfl) rfl fun (s:Stp) hq=>?_
 obtain ⟨sd,st,sf,sn⟩:=s
 have hd:sd=23:=hq _ rfl
 clear hq
 subst hd
 repeat' first |(refine Go.mk ?_;conv=>whnf) |refine Ql.go ?_ ?_ |refine Qm.go (fun _=>?_) (fun _=>?_) |refine Br.dec (fun _=>?_) (fun _=>?_) |refine Br.go (fun _=>?_) (fun _=>?_) |refine Qd hT hP mixed ?_ |refine Qb hT hP ?_
 all_goals clear hT hP
 all_goals (refine .mk [] [] _ R R R R R R (Qg ?_))
 all_goals (show _=Q1 (23,st,sf,sn))
 all_goals (simp [Q1,Qbw,Qd6,QeF,Qee,Q4,QU] at *)
 all_goals first
  |omega
  |(simp_all;done)
  |(simp_all;omega)
  |(refine ⟨by omega,by omega,?_,by omega,by omega⟩;rw [Bool.eq_iff_iff];simp;omega)
  |skip
set_option maxHeartbeats 4000000 in
theorem Qqp:Qi Tryz.prog 199 (QK 24).spec:=by
 have hP:Qe Tryz.prog _:=Qa Qu (Qa QI (Qc (T:=tree)))
 have hT:=tabs hP Qf
 refine (QK 24).good (fn:=Tryz.f199) hT hP Tryz.func199 (by kernel_rfl) rfl fun (s:Stp) hq=>?_
 obtain ⟨sd,st,sf,sn⟩:=s
 have hd:sd=24:=hq _ rfl
 clear hq
 subst hd
 repeat' first |(refine Go.mk ?_;conv=>whnf) |refine Ql.go ?_ ?_ |refine Qm.go (fun _=>?_) (fun _=>?_) |refine Br.dec (fun _=>?_) (fun _=>?_) |refine Br.go (fun _=>?_) (fun _=>?_) |refine Qd hT hP mixed ?_ |refine Qb hT hP ?_
 all_goals clear hT hP
 all_goals (refine .mk [] [] _ R R R R R R (Qg ?_))
 all_goals (show _=Q1 (24,st,sf,sn))
 all_goals (simp [Q1,Qbw,Qd6,QeF,Qee,Q4,QU] at *)
 all_goals first
  |omega
  |(simp_all;done)
  |(simp_all;omega)
  |(refine ⟨by omega,by omega,?_,by omega,by omega⟩;rw [Bool.eq_iff_iff];simp;omega)
  |skip
theorem Qlu:Qi Tryz.prog 199 QtW.spec:=by
 have hP:Qe Tryz.prog _:=Qa Qu (Qa QI (Qc (T:=tree)))
 have hT:=tabs hP Qf
 refine QtW.good (fn:=Tryz.f199) hT hP Tryz.func199 (by kernel_rfl) rfl fun (s:Stp) hq=>?_
 obtain ⟨sd,st,sf,sn⟩:=s
 have hx:sd < 0∨sd > 24:=hq _ rfl
 clear hq
 repeat' first |(refine Go.mk ?_;conv=>whnf) |refine Ql.go ?_ ?_ |refine Qm.go (fun _=>?_) (fun _=>?_) |refine Br.dec (fun _=>?_) (fun _=>?_) |refine Br.go (fun _=>?_) (fun _=>?_) |refine Qd hT hP mixed ?_ |refine Qb hT hP ?_
  |(exfalso;rename_i g h;exact QGb hx g h)
 all_goals clear hT hP
 all_goals (refine .mk [] [] _ R R R R R R (Qg ?_))
 all_goals (show 8=Q1 (sd,st,sf,sn);unfold Q1)
 all_goals (rw [if_pos];show sd < 0∨sd≥25;omega)
theorem doings (d:Int):(d < 0∨d > 24)∨d=0∨d=1∨d=2∨d=3∨d=4∨d=5∨d=6∨d=7∨d=8∨d=9∨d=10∨d=11∨d=12∨d=13∨d=14∨d=15∨d=16∨d=17∨d=18∨d=19∨d=20∨d=21∨d=22∨d=23∨d=24:=by omega
theorem Qxb:Qi Tryz.prog 199 QtV.spec:=by
 refine Qi.sel Qlu fun (s,_) hp=>?_
 obtain ⟨sd,st,sf,sn⟩:=s
 clear hp
 show ∃ o1:Args [Qw9]→Option Prop × AV × List Blk,_
 rcases doings sd with hx |rfl |rfl |rfl |rfl |rfl |rfl |rfl |rfl |rfl |rfl |rfl |rfl |rfl |rfl |rfl |rfl |rfl |rfl |rfl |rfl |rfl |rfl |rfl |rfl |rfl
 ·exact ⟨_,Qlu,fun q hq=>by cases hq;exact hx,.refl⟩
 ·exact ⟨_,QtX,fun q hq=>by cases hq;rfl,.refl⟩
 ·exact ⟨_,QtY,fun q hq=>by cases hq;rfl,.refl⟩
 ·exact ⟨_,QtZ,fun q hq=>by cases hq;rfl,.refl⟩
 ·exact ⟨_,Qt0,fun q hq=>by cases hq;rfl,.refl⟩
 ·exact ⟨_,Qt1,fun q hq=>by cases hq;rfl,.refl⟩
 ·exact ⟨_,Qt2,fun q hq=>by cases hq;rfl,.refl⟩
 ·exact ⟨_,Qt3,fun q hq=>by cases hq;rfl,.refl⟩
 ·exact ⟨_,Qt4,fun q hq=>by cases hq;rfl,.refl⟩
 ·exact ⟨_,Qt5,fun q hq=>by cases hq;rfl,.refl⟩
 ·exact ⟨_,Qt6,fun q hq=>by cases hq;rfl,.refl⟩
 ·exact ⟨_,Qqb,fun q hq=>by cases hq;rfl,.refl⟩
 ·exact ⟨_,Qqc,fun q hq=>by cases hq;rfl,.refl⟩
 ·exact ⟨_,Qqd,fun q hq=>by cases hq;rfl,.refl⟩
 ·exact ⟨_,Qqe,fun q hq=>by cases hq;rfl,.refl⟩
 ·exact ⟨_,Qqf,fun q hq=>by cases hq;rfl,.refl⟩
 ·exact ⟨_,Qqg,fun q hq=>by cases hq;rfl,.refl⟩
 ·exact ⟨_,Qqh,fun q hq=>by cases hq;rfl,.refl⟩
 ·exact ⟨_,Qqi,fun q hq=>by cases hq;rfl,.refl⟩
 ·exact ⟨_,Qqj,fun q hq=>by cases hq;rfl,.refl⟩
 ·exact ⟨_,Qqk,fun q hq=>by cases hq;rfl,.refl⟩
 ·exact ⟨_,Qql,fun q hq=>by cases hq;rfl,.refl⟩
 ·exact ⟨_,Qqm,fun q hq=>by cases hq;rfl,.refl⟩
 ·exact ⟨_,Qqn,fun q hq=>by cases hq;rfl,.refl⟩
 ·exact ⟨_,Qqo,fun q hq=>by cases hq;rfl,.refl⟩
 ·exact ⟨_,Qqp,fun q hq=>by cases hq;rfl,.refl⟩
def QyP:ByteArray:=⟨#[46]⟩
def QbA (s:ByteArray):Int:=Lib.indexByte s.data.toList 46
def Qud:Qk:=⟨[Qv4,Qv4],fun (s,p,_)=>(some (p=QyP),I (QbA s),[])⟩
theorem Que:Qi Tryz.prog 263 Qud.spec:=by
 have hP:Qe Tryz.prog _:=Qa QsL (Qc (T:=tree))
 have hT:=tabs hP Qf
 refine Qud.good (fn:=Tryz.f263) hT hP Tryz.func263 (by kernel_rfl) rfl fun (s p:ByteArray) hq=>?_
 obtain rfl:p=QyP:=hq _ rfl
 clear hq
 repeat' first |(refine Go.mk ?_;conv=>whnf) |refine Ql.go ?_ ?_ |refine Qm.go (fun _=>?_) (fun _=>?_) |refine Br.dec (fun _=>?_) (fun _=>?_) |refine Br.go (fun _=>?_) (fun _=>?_) |refine Qd hT hP mixed ?_ |refine Qb hT hP ?_
 ·rename_i g
  have g:Qs QyP s=true:=g
  have e:QyP=s:=(Lib.bytes_beq_iff _ _).1 g
  subst e
  refine .mk [] [] _ R R R R R R (Qg ?_)
  show 0=QbA QyP
  decide +kernel
 ·exact of_decide_eq_true rfl
 ·exact .mk [] [] _ R R R R R R R
theorem Qhz (c:UInt8):∀ l:List UInt8,Lib.indexByte l c=-1∨(0≤Lib.indexByte l c∧Lib.indexByte l c < l.length)
 | []=>.inl rfl
 |x :: r=>by
   have ih:=Qhz c r
   have hl:(x :: r).length=r.length+1:=rfl
   unfold Lib.indexByte
   by_cases h1:(x == c)=true
   ·rw [if_pos h1,hl];right;omega
   ·rw [if_neg h1]
    by_cases h2:(Lib.indexByte r c == -1)=true
    ·rw [if_pos h2];exact .inl rfl
    ·rw [if_neg h2,hl]
     have h3:Lib.indexByte r c≠-1:=fun h=>h2 (beq_iff_eq.2 h)
     right;omega
theorem QhA {s:ByteArray} (h:QbA s≥0):QbA s < s.size:=by
 have:=Qhz 46 s.data.toList
 have e:s.data.toList.length=s.size:=Array.length_toList
 unfold QbA at *
 omega
def Qdn (s:ByteArray):ByteArray:=if 0≤QbA s then s.extract 0 (QbA s).toNat else s
def cutA (s:ByteArray):ByteArray:=if 0≤QbA s then s.extract (QbA s+1).toNat s.size else ⟨#[]⟩
def QEv:Qk:=⟨[Qv4,Qv4],fun (s,p,_)=>(some (p=QyP∧s.size≤140737488351232),.tup [.c (.imm (.string (Qdn s))),.c (.imm (.string (cutA s))),.c (bv (decide (0≤QbA s)))],[])⟩
theorem Qxi:Qi Tryz.prog 240 QEv.spec:=by
 have hP:Qe Tryz.prog _:=Qa Que (Qc (T:=tree))
 have hT:=tabs hP Qf
 refine QEv.good (fn:=Tryz.f240) hT hP Tryz.func240 (by kernel_rfl) rfl fun (s p:ByteArray) hq=>?_
 obtain ⟨hp,hl⟩:p=QyP∧s.size≤140737488351232:=hq _ rfl
 clear hq
 subst hp
 repeat' first |(refine Go.mk ?_;conv=>whnf) |refine Ql.go ?_ ?_ |refine Qm.go (fun _=>?_) (fun _=>?_) |refine Br.dec (fun _=>?_) (fun _=>?_) |refine Br.go (fun _=>?_) (fun _=>?_) |refine Qd hT hP mixed ?_ |refine Qb hT hP ?_
 ·exact rfl
 ·rename_i g
  have g:QbA s≥0:=g
  have:=QhA g
  show 0≤QbA s∧QbA s≤(s.size:Int)
  omega
 ·rename_i g
  have g:QbA s≥0:=g
  have:=QhA g
  show 0≤IntKind.i64.wrap (QbA s+1)∧IntKind.i64.wrap (QbA s+1)≤(s.size:Int)
  rw [w64 (by omega) (by omega)];omega
 ·rename_i g
  have g:QbA s≥0:=g
  have hin:=QhA g
  have hw:IntKind.i64.wrap (QbA s+1)=QbA s+1:=w64 (by omega) (by omega)
  have e1:Qdn s=s.extract 0 (QbA s).toNat:=if_pos g
  have e2:cutA s=s.extract (IntKind.i64.wrap (QbA s+1)).toNat s.size:=by rw [hw];exact if_pos g
  refine .mk [] [] _ R R R R R R ?_
  show AV.tup [.c (.imm (.string (s.extract 0 (QbA s).toNat))),.c (.imm (.string (s.extract (IntKind.i64.wrap (QbA s+1)).toNat s.size))),.c (bv true)]=AV.tup [.c (.imm (.string (Qdn s))),.c (.imm (.string (cutA s))),.c (bv (decide (0≤QbA s)))]
  rw [e1,e2,decide_eq_true (show 0≤QbA s from g)]
 ·rename_i g
  have g:¬ QbA s≥0:=g
  have e1:Qdn s=s:=if_neg g
  have e2:cutA s=⟨#[]⟩:=if_neg g
  refine .mk [] [] _ R R R R R R ?_
  show AV.tup [.c (.imm (.string s)),.c (.imm (.string ⟨#[]⟩)),.c (bv false)]=AV.tup [.c (.imm (.string (Qdn s))),.c (.imm (.string (cutA s))),.c (bv (decide (0≤QbA s)))]
  rw [e1,e2,decide_eq_false (show ¬ 0≤QbA s from g)]
theorem QDP:Qi Tryz.prog 193 QEv.spec:=by
 have hP:Qe Tryz.prog _:=Qa Qxi (Qc (T:=tree))
 have hT:=tabs hP Qf
 refine QEv.good (fn:=Tryz.f193) hT hP Tryz.func193 (by kernel_rfl) rfl fun (s p:ByteArray) hq=>?_
 have hp:p=QyP∧s.size≤140737488351232:=hq _ rfl
 clear hq
 repeat' first |(refine Go.mk ?_;conv=>whnf) |refine Ql.go ?_ ?_ |refine Qm.go (fun _=>?_) (fun _=>?_) |refine Br.dec (fun _=>?_) (fun _=>?_) |refine Br.go (fun _=>?_) (fun _=>?_) |refine Qd hT hP mixed ?_ |refine Qb hT hP ?_
 ·exact hp
 ·exact .mk [] [] _ R R R R R R R
end Go.Proofs.YtofgbclopbmlcaaGreat





