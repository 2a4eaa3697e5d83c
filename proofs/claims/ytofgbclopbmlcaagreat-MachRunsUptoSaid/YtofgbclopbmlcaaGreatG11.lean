/- Part 11 of the proof: MachLaw Mach Mach2 CycF MchRd CycP MchGiv MchAcc TabCyc TabCyc2 TabIx TabChk MchOuts MchLine. No statement is handed in here; conditions: none. -/
import Derived.Test.YtofgbclopbmlcaaGreatG7
import Derived.Test.YtofgbclopbmlcaaGreatG10
import Derived.Test.YtofgbclopbmlcaaGreatG8
namespace Go.Proofs.YtofgbclopbmlcaaGreat
open Go.Fw
set_option linter.unusedVariables false
set_option linter.unusedSimpArgs false
theorem QwU:∀ (u v:Nat) (a b:List Int),Qmv u++a=Qmv v++b→u=v∧a=b:=by
 intro u
 induction u using Nat.strongRecOn with
 |ind u ih =>
   intro v a b h
   by_cases hu:u < 128
   ·by_cases hv:v < 128
    ·rw [Qdf hu,Qdf hv] at h
     injection h with h1 h2
     exact ⟨by omega,h2⟩
    ·rw [Qdf hu,QdL hv] at h
     injection h with h1 h2
     omega
   ·by_cases hv:v < 128
    ·rw [QdL hu,Qdf hv] at h
     injection h with h1 h2
     omega
    ·rw [QdL hu,QdL hv] at h
     injection h with h1 h2
     obtain ⟨e1,e2⟩:=ih (u/128) (by omega) (v/128) a b h2
     exact ⟨by omega,e2⟩
theorem QjE {n m:Int} {a b:List Int} (h:QeE n++a=QeE m++b):n=m∧a=b:=by
 obtain ⟨e1,e2⟩:=QwU _ _ _ _ h
 refine ⟨?_,e2⟩
 unfold zig at e1
 split at e1<;>split at e1<;>omega
theorem QfN:∀ {l m:List Int} {a b:List Int},l.length=m.length→Q0 l++a=Q0 m++b→l=m∧a=b
 | [],[],a,b,_,h=>⟨rfl,h⟩
 | [],_ :: _,_,_,hl,_=>by cases hl
 |_ :: _,[],_,_,hl,_=>by cases hl
 |x :: l,y :: m,a,b,hl,h=>by
   rw [Qex,Qex,List.append_assoc,List.append_assoc] at h
   obtain ⟨e1,e2⟩:=QjE h
   obtain ⟨e3,e4⟩:=QfN (by simpa using hl) e2
   exact ⟨by rw [e1,e3],e4⟩
theorem QAT {l m a b:List Int} (hl:l.length=m.length) (h:l++a=m++b):l=m∧a=b:=List.append_inj h hl
theorem QwV {x y:Dv} {a b:List Int} (h:Qjq x++a=Qjq y++b):x=y∧a=b:=by
 unfold Qjq at h
 simp only [List.append_assoc] at h
 obtain ⟨e1,h⟩:=QjE h
 obtain ⟨e2,h⟩:=QfN (by omega) h
 obtain ⟨e3,h⟩:=QjE h
 obtain ⟨e4,h⟩:=QAT (by omega) h
 exact ⟨Prod.ext e2 e4,h⟩
theorem QoT:∀ {l m:List Dv},l.length=m.length→l.flatMap Qjq=m.flatMap Qjq→l=m
 | [],[],_,_=>rfl
 | [],_ :: _,hl,_=>by cases hl
 |_ :: _,[],hl,_=>by cases hl
 |x :: l,y :: m,hl,h=>by
   simp only [List.flatMap_cons] at h
   obtain ⟨e1,e2⟩:=QwV h
   rw [e1,QoT (by simpa using hl) e2]
theorem QtK {m n:Mach} (hm:m.2.1.1.length=9) (hn:n.2.1.1.length=9) (h:Qmz m=Qmz n):m=n:=by
 unfold Qmz at h
 obtain ⟨e1,e2⟩:=QfN (by rw [Qhm m hm,Qhm n hn]) h
 obtain ⟨tm,⟨r,op,at_,nmi⟩,ds,b1,b2,b3⟩:=m
 obtain ⟨tm',⟨r',op',at',nmi'⟩,ds',b1',b2',b3'⟩:=n
 unfold Qjp at e1
 simp only [List.singleton_append,List.cons_append] at e1
 injection e1 with e3 e1
 have hr:r.length=r'.length:=by
  have h1:r.length=9:=hm
  have h2:r'.length=9:=hn
  omega
 obtain ⟨e4,e5⟩:=List.append_inj e1 hr
 injection e5 with f1 e5
 injection e5 with f2 e5
 injection e5 with f3 e5
 injection e5 with f4 e5
 injection e5 with f5 e5
 injection e5 with f6 e5
 injection e5 with f7 e5
 have f7:(ds.length:Int)=ds'.length:=f7
 have e6:=QoT (l:=ds) (m:=ds') (by omega) e2
 have f3:nmi=nmi':=by
  have f3:(cond nmi 1 0:Int)=cond nmi' 1 0:=f3
  cases nmi<;>cases nmi'<;>first |rfl |(exact absurd f3 (by decide))
 have f1:op=op':=f1
 have f2:at_=at':=f2
 have f4:b1=b1':=f4
 have f5:b2=b2':=f5
 have f6:b3=b3':=f6
 have e3:tm=tm':=e3
 subst e3 e4 f1 f2 f3 f4 f5 f6 e6
 rfl
theorem QmI:∀ u:Nat,u8s (Qmv u):=by
 intro u
 induction u using Nat.strongRecOn with
 |ind u ih =>
   by_cases hu:u < 128
   ·rw [Qdf hu]
    intro x hx
    rw [List.mem_singleton] at hx
    subst hx;omega
   ·rw [QdL hu]
    intro x hx
    rcases List.mem_cons.1 hx with rfl |hx
    ·omega
    ·exact ih (u/128) (by omega) x hx
theorem QjF {l m:List Int} (h:u8s l) (h2:u8s m):u8s (l++m):=fun x hx=>(List.mem_append.1 hx).elim (h x) (h2 x)
theorem Qlq (l:List Int):u8s (Q0 l):=fun x hx=>by
 obtain ⟨n,_,hn⟩:=List.mem_flatMap.1 hx
 exact QmI _ x hn
def Qj0 (m:Mach):Prop:=∀ d ∈ m.2.2.1,u8s d.2
theorem QoU {m:Mach} (h:Qj0 m):u8s (Qmz m):=by
 refine QjF (Qlq _) fun x hx=>?_
 obtain ⟨d,hd,hx⟩:=List.mem_flatMap.1 hx
 exact QjF (QjF (QjF (QmI _) (Qlq _)) (QmI _)) (h d hd) x hx
set_option linter.constructorNameAsVariable false
set_option maxRecDepth 100000
def QmJ (m:Mach) (b:Nat):AV:=.agg [iv .i64 m.1,.run .i64 9 m.2.1.1,iv .i64 m.2.1.2.1,iv .i64 m.2.1.2.2.1,bv m.2.1.2.2.2,.own b,iv .i64 m.2.2.2.1,iv .i64 m.2.2.2.2.1,iv .i64 m.2.2.2.2.2]
def QuI (l:List Dv):Prop:=l.length*48≤140737488351232∧∀ x ∈ l,List.length x.1*8≤140737488351232∧List.length x.2*1≤140737488351232
def QyA:Qk:=⟨[gM],fun (m,_)=>(some (QuI m.2.2.1),QmJ m 0,[.arr Qp m.2.2.1])⟩
theorem QjG:Qi Tryz.prog 69 QyA.spec:=by
 have hP:Qe Tryz.prog _:=Qa QoS (Qa QwT (Qa QtI (Qc (T:=tree))))
 have hT:=tabs hP Qf
 refine QyA.good (fn:=Tryz.f69) hT hP Tryz.func69 (by kernel_rfl) rfl fun (m:Mach) hq=>?_
 obtain ⟨h1,h2⟩:QuI m.2.2.1:=hq _ rfl
 clear hq
 obtain ⟨tm,⟨r,op,at_,nmi⟩,ds,bd,ba,bdt⟩:=m
 have h1:ds.length*48≤140737488351232:=h1
 have h2:∀ x ∈ ds,List.length x.1*8≤140737488351232∧List.length x.2*1≤140737488351232:=h2
 repeat' first |(refine Go.mk ?_;conv=>whnf) |refine Ql.go ?_ ?_ |refine Qm.go (fun _=>?_) (fun _=>?_) |refine Br.dec (fun _=>?_) (fun _=>?_) |refine Br.go (fun _=>?_) (fun _=>?_) |refine Qd hT hP mixed ?_ |refine Qb hT hP ?_
 all_goals (try dsimp only [Qj] at *)
 ·exact h1
 refine QO hT hP (A:=Unit) ds.length (fun i _=>St.mk (E1 ((.cell (.ptr 0 0)) :: (.cell (.ptr 1 0)) :: E5 (E2 ((.cell (.own 2)) :: (I ds.length) :: (I i) :: E10 (E5 (E2 []))))))
  [some (.var [.imm (.int .i64 tm),.run .i64 9 r,.imm (.int .i64 op),.imm (.int .i64 at_),.imm (.bool nmi),.own 2,.imm (.int .i64 bd),.imm (.int .i64 ba),.imm (.int .i64 bdt)]),
   some (.var [.imm (.int .i64 0),.run .i64 9 (List.replicate 9 0),.imm (.int .i64 0),.imm (.int .i64 0),.imm (.bool false),.imm (.slice none 0 0),.imm (.int .i64 0),.imm (.int .i64 0),.imm (.int .i64 0)]),some (.arr Qp ds)])
  (fun k _=>True) () (Le.mk [] [0,1,2] R R ?_ ?_) trivial fun k _ hk _=>?_
 ·exact rfl
 ·repeat' first |exact trivial |exact ⟨rfl,rfl⟩ |refine And.intro ?_ ?_
 repeat' first |(refine Go.mk ?_;conv=>whnf) |refine Ql.go ?_ ?_ |refine Qm.go (fun _=>?_) (fun _=>?_) |refine Br.dec (fun _=>?_) (fun _=>?_) |refine Br.go (fun _=>?_) (fun _=>?_) |refine Qd hT hP mixed ?_ |refine Qb hT hP ?_
 all_goals (try dsimp only [Qj] at *)
 all_goals clear hT hP
 ·rename_i g
  show 0≤(k:Int)∧(k:Int) < (ds.length:Int)
  omega
 ·rename_i g
  show k < ds.length
  omega
 ·rename_i g
  exact (h2 _ (QQ (dflt Qp) (show k < ds.length by omega))).1
 ·rename_i g
  exact (h2 _ (QQ (dflt Qp) (show k < ds.length by omega))).2
 ·rename_i g
  show 0≤(k:Int)∧(k:Int) < (ds.length:Int)
  omega
 ·rename_i g
  show k < ds.length
  omega
 ·rename_i g
  have g1:(k:Int) < (ds.length:Int):=g
  apply Exists.intro
  apply Exists.intro ()
  refine And.intro (And.intro ?lt (And.intro ?ei trivial)) (Le.mk [] [0,1,2] R R ?hh ?ht)
  case hh=>exact congrArg (fun z=>[some (.var [.imm (.int .i64 tm),.run .i64 9 r,.imm (.int .i64 op),.imm (.int .i64 at_),.imm (.bool nmi),.own 2,.imm (.int .i64 bd),.imm (.int .i64 ba),.imm (.int .i64 bdt)]),
   some (.var [.imm (.int .i64 0),.run .i64 9 (List.replicate 9 0),.imm (.int .i64 0),.imm (.int .i64 0),.imm (.bool false),.imm (.slice none 0 0),.imm (.int .i64 0),.imm (.int .i64 0),.imm (.int .i64 0)]),some (Blk.arr Qp z)]) (Qln ds k (dflt Qp))
  case ht=>repeat' first |exact trivial |exact ⟨rfl,rfl⟩ |refine And.intro ?_ ?_
  case lt=>omega
  case ei=>exact QW (by omega)
 ·exact .mk [] [2] _ R R R R R R R
noncomputable def Qp9 (m n:Mach):Bool:=eqB m n
noncomputable def QtL:Qk:=⟨[gM,gM],fun (m,n,_)=>(some ((Qci m∧Qj0 m)∧Qci n∧Qj0 n),.cell (bv (Qp9 m n)),[])⟩
theorem QtM {m n:Mach} (hm:Qci m∧Qj0 m) (hn:Qci n∧Qj0 n):Qs (QlN (Qmz m)) (QlN (Qmz n))=Qp9 m n:=by
 by_cases e:m=n
 ·subst e
  show Qs _ _=eqB m m
  rw [Qlo rfl]
  exact (Lib.bytes_beq_iff _ _).2 rfl
 ·show Qs _ _=eqB m n
  rw [QAR e,Bool.eq_false_iff]
  intro h
  exact e (QtK hm.1.2.2.1 hn.1.2.2.1 (QtJ (QoU hm.2) (QoU hn.2) ((Lib.bytes_beq_iff _ _).1 h)))
theorem QtN:Qi Tryz.prog 19 QtL.spec:=by
 have hP:Qe Tryz.prog _:=Qa Qs2 (Qc (T:=tree))
 have hT:=tabs hP Qf
 refine QtL.good (fn:=Tryz.f19) hT hP Tryz.func19 (by kernel_rfl) rfl fun (m n:Mach) hq=>?_
 obtain ⟨hm,hn⟩:(Qci m∧Qj0 m)∧Qci n∧Qj0 n:=hq _ rfl
 clear hq
 have e:=QtM hm hn
 obtain ⟨tm,⟨r,op,at_,nmi⟩,ds,bd,ba,bdt⟩:=m
 obtain ⟨tm',⟨r',op',at',nmi'⟩,ds',bd',ba',bdt'⟩:=n
 repeat' first |(refine Go.mk ?_;conv=>whnf) |refine Ql.go ?_ ?_ |refine Qm.go (fun _=>?_) (fun _=>?_) |refine Br.dec (fun _=>?_) (fun _=>?_) |refine Br.go (fun _=>?_) (fun _=>?_) |refine Qd hT hP mixed ?_ |refine Qb hT hP ?_
 all_goals (try dsimp only [Qj] at *)
 all_goals clear hT hP
 ·exact hm.1
 ·exact hn.1
 ·exact .mk [] [] _ R R R R R R (Qo e)
def adI (a:Int):Int:=a%2 ^ Int.toNat 16
theorem QDy (a:Int):adI a=a%65536:=rfl
theorem QDz (a:Int):0≤adI a∧adI a < 65536:=by rw [QDy];omega
def fI (b:Bd) (a:Int):Int:=if 0≤Qv b a then Qv b a else 0
def QAV (b:Bd) (a:Int):Bool:=decide (0≤Qv b a)
theorem Qfb {b:Bd} {a:Int} (h:(!QAV b a)=false):(0≤Qv b a∧Qv b a < b.2.2.1.length)∧fI b a=Qv b a:=by
 have h1:0≤Qv b a:=by
  by_cases h1:0≤Qv b a
  ·exact h1
  ·unfold QAV at h;rw [decide_eq_false h1] at h;cases h
 have hF:Qv b a=-1∨(0≤Qv b a∧Qv b a < b.2.2.1.length):=Qjv (QfK a) b.2.2.1
 exact ⟨by omega,if_pos h1⟩
theorem QDA {b:Bd} {a:Int} (h:(!QAV b a)=true):¬ 0≤Qv b a:=fun h1=>by
 unfold QAV at h;rw [decide_eq_true h1] at h;cases h
def QAW:Qk:=⟨[gBd,gi],fun (b,a,_)=>(some (bP b a),.tup [I1 (fI b a),I1 (atF b a),.c (bv (QAV b a))],[])⟩
theorem Qhv:Qi Tryz.prog 93 QAW.spec:=Qwz
def QqG (b:Bd) (a:Int):Cv:=b.2.2.1.getD (Qv b (adI a)).toNat (dflt Qh)
def QGQ (b:Bd) (m:Mach) (a:Int):Dv:=m.2.2.1.getD (Qv b (adI a)).toNat (dflt Qp)
def QjH (b:Bd) (m:Mach) (a:Int):Prop:=(0≤Qv b (adI a)∧Qv b (adI a) < (m.2.2.1.length:Nat))∧0≤(QqG b a).2.1∧(QqG b a).2.1≤2
instance (b:Bd) (m:Mach) (a:Int):Decidable (QjH b m a):=by unfold QjH;infer_instance
def QmK (b:Bd) (m:Mach) (a:Int):Int:=if QjH b m a then QfI (QqG b a) (QGQ b m a) (adI a-(QqG b a).2.2.1) else 255
def QhV (b:Bd) (m:Mach) (a k:Int):Mach:=if QjH b m a then (m.1,m.2.1,m.2.2.1.set (Qv b (adI a)).toNat (QbL (QqG b a) (QGQ b m a) (adI a-(QqG b a).2.2.1) k),m.2.2.2) else m
def Qqa (b:Bd) (m:Mach):Prop:=(b.2.2.1.length*64≤140737488351232∧∀ c ∈ b.2.2.1,cP c)∧QuI m.2.2.1∧∀ d ∈ m.2.2.1,dP d
theorem QtO {b:Bd} {m:Mach} (h:Qqa b m) (a:Int):bP b (adI a):=by
 have:=QDz a
 exact ⟨by have:=h.1.1;omega,⟨by omega,by omega⟩,fun c hc=>⟨(h.1.2 c hc).1,(h.1.2 c hc).2.1⟩⟩
theorem QyB {b:Bd} {a:Int} (h:0≤Qv b (adI a)):atF b (adI a)=adI a-(QqG b a).2.2.1:=if_pos h
def QyC:Qk:=⟨[gBd,gM,gi],fun (b,m,a,_)=>(some (Qqa b m),I (QmK b m a),[])⟩
theorem QwW:Qi Tryz.prog 45 QyC.spec:=by
 have hP:Qe Tryz.prog _:=Qa QT (Qa Qhv (Qa Qom (Qc (T:=tree))))
 have hT:=tabs hP Qf
 refine QyC.good (fn:=Tryz.f45) hT hP Tryz.func45 (by kernel_rfl) rfl fun (b:Bd) (m:Mach) (a:Int) hq=>?_
 have hpp:Qqa b m:=hq _ rfl
 have hbP:=QtO hpp a
 have hatF:=@QyB b a
 obtain ⟨⟨h1,h2⟩,h3,h4⟩:=hpp
 clear hq
 obtain ⟨bn,⟨un,ui,ur,uq,um⟩,bc,bw⟩:=b
 obtain ⟨tm,⟨r,op,at_,nmi⟩,ds,bd,ba,bdt⟩:=m
 have h1:bc.length*64≤140737488351232:=h1
 have h2:∀ c ∈ bc,cP c:=h2
 have h4:∀ d ∈ ds,dP d:=h4
 repeat' first |(refine Go.mk ?_;conv=>whnf) |refine Ql.go ?_ ?_ |refine Qm.go (fun _=>?_) (fun _=>?_) |refine Br.dec (fun _=>?_) (fun _=>?_) |refine Br.go (fun _=>?_) (fun _=>?_) |refine Qd hT hP mixed ?_ |refine Qb hT hP ?_
 all_goals (try dsimp only [Qj] at *)
 all_goals clear hT hP
 ·exact of_decide_eq_true rfl
 ·exact hbP
 ·rename_i g1
  have g1:=QDA (a:=adI a) g1
  refine .mk [] [] _ R R R R R R (Qg ?_)
  exact (if_neg fun h=>g1 h.1.1:QmK (bn,(un,ui,ur,uq,um),bc,bw) (tm,(r,op,at_,nmi),ds,bd,ba,bdt) a=255).symm
 ·rename_i g1 g2
  obtain ⟨⟨f1,f2⟩,f3⟩:=Qfb (a:=adI a) g1
  have g2:fI (bn,(un,ui,ur,uq,um),bc,bw) (adI a)≥(ds.length:Int):=g2
  rw [f3] at g2
  refine .mk [] [] _ R R R R R R (Qg ?_)
  exact (if_neg fun h=>by have h:=h.1.2;have h:Qv (bn,(un,ui,ur,uq,um),bc,bw) (adI a) < (ds.length:Nat):=h;omega:QmK (bn,(un,ui,ur,uq,um),bc,bw) (tm,(r,op,at_,nmi),ds,bd,ba,bdt) a=255).symm
 ·rename_i g1 g2
  obtain ⟨⟨f1,f2⟩,f3⟩:=Qfb (a:=adI a) g1
  show 0≤fI (bn,(un,ui,ur,uq,um),bc,bw) (adI a)∧fI (bn,(un,ui,ur,uq,um),bc,bw) (adI a) < (bc.length:Int)
  rw [f3];exact ⟨f1,f2⟩
 ·rename_i g1 g2 g3
  obtain ⟨⟨f1,f2⟩,f3⟩:=Qfb (a:=adI a) g1
  have g3:(bc.getD (fI (bn,(un,ui,ur,uq,um),bc,bw) (adI a)).toNat (dflt Qh)).2.1 < 0:=g3
  rw [f3] at g3
  refine .mk [] [] _ R R R R R R (Qg ?_)
  exact (if_neg fun h=>by have h:=h.2.1;have g3:(QqG (bn,(un,ui,ur,uq,um),bc,bw) a).2.1 < 0:=g3;omega:QmK (bn,(un,ui,ur,uq,um),bc,bw) (tm,(r,op,at_,nmi),ds,bd,ba,bdt) a=255).symm
 ·rename_i g1 g2 g3
  obtain ⟨⟨f1,f2⟩,f3⟩:=Qfb (a:=adI a) g1
  show 0≤fI (bn,(un,ui,ur,uq,um),bc,bw) (adI a)∧fI (bn,(un,ui,ur,uq,um),bc,bw) (adI a) < (bc.length:Int)
  rw [f3];exact ⟨f1,f2⟩
 ·rename_i g1 g2 g3 g4
  obtain ⟨⟨f1,f2⟩,f3⟩:=Qfb (a:=adI a) g1
  have g4:(bc.getD (fI (bn,(un,ui,ur,uq,um),bc,bw) (adI a)).toNat (dflt Qh)).2.1 > 2:=g4
  rw [f3] at g4
  refine .mk [] [] _ R R R R R R (Qg ?_)
  exact (if_neg fun h=>by have h:=h.2.2;have g4:(QqG (bn,(un,ui,ur,uq,um),bc,bw) a).2.1 > 2:=g4;omega:QmK (bn,(un,ui,ur,uq,um),bc,bw) (tm,(r,op,at_,nmi),ds,bd,ba,bdt) a=255).symm
 ·rename_i g1 g2 g3 g4
  obtain ⟨⟨f1,f2⟩,f3⟩:=Qfb (a:=adI a) g1
  show 0≤fI (bn,(un,ui,ur,uq,um),bc,bw) (adI a)∧fI (bn,(un,ui,ur,uq,um),bc,bw) (adI a) < (bc.length:Int)
  rw [f3];exact ⟨f1,f2⟩
 ·rename_i g1 g2 g3 g4
  obtain ⟨⟨f1,f2⟩,f3⟩:=Qfb (a:=adI a) g1
  have g2:¬ fI (bn,(un,ui,ur,uq,um),bc,bw) (adI a)≥(ds.length:Int):=g2
  show 0≤fI (bn,(un,ui,ur,uq,um),bc,bw) (adI a)∧fI (bn,(un,ui,ur,uq,um),bc,bw) (adI a) < (ds.length:Int)
  rw [f3] at g2 ⊢;omega
 ·rename_i g1 g2 g3 g4
  obtain ⟨⟨f1,f2⟩,f3⟩:=Qfb (a:=adI a) g1
  have g2:¬ fI (bn,(un,ui,ur,uq,um),bc,bw) (adI a)≥(ds.length:Int):=g2
  have f2:Qv (bn,(un,ui,ur,uq,um),bc,bw) (adI a) < (bc.length:Int):=f2
  show cP (bc.getD (fI (bn,(un,ui,ur,uq,um),bc,bw) (adI a)).toNat (dflt Qh))∧dP (ds.getD (fI (bn,(un,ui,ur,uq,um),bc,bw) (adI a)).toNat (dflt Qp))
  rw [f3] at g2 ⊢
  exact ⟨h2 _ (QQ _ (by omega)),h4 _ (QQ _ (by omega))⟩
 ·rename_i g1 g2 g3 g4
  obtain ⟨⟨f1,f2⟩,f3⟩:=Qfb (a:=adI a) g1
  have g2:¬ fI (bn,(un,ui,ur,uq,um),bc,bw) (adI a)≥(ds.length:Int):=g2
  have g3:¬ (bc.getD (fI (bn,(un,ui,ur,uq,um),bc,bw) (adI a)).toNat (dflt Qh)).2.1 < 0:=g3
  have g4:¬ (bc.getD (fI (bn,(un,ui,ur,uq,um),bc,bw) (adI a)).toNat (dflt Qh)).2.1 > 2:=g4
  rw [f3] at g2 g3 g4
  refine .mk [] [] _ R R R R R R (Qg ?_)
  show QfI (bc.getD (fI (bn,(un,ui,ur,uq,um),bc,bw) (adI a)).toNat (dflt Qh)) (ds.getD (fI (bn,(un,ui,ur,uq,um),bc,bw) (adI a)).toNat (dflt Qp)) (atF (bn,(un,ui,ur,uq,um),bc,bw) (adI a))=_
  rw [f3,hatF f1]
  exact (if_pos ⟨⟨f1,by show _ < (ds.length:Int);omega⟩,by show 0≤(QqG (bn,(un,ui,ur,uq,um),bc,bw) a).2.1;have g3:¬ (QqG (bn,(un,ui,ur,uq,um),bc,bw) a).2.1 < 0:=g3;omega,by have g4:¬ (QqG (bn,(un,ui,ur,uq,um),bc,bw) a).2.1 > 2:=g4;omega⟩:QmK (bn,(un,ui,ur,uq,um),bc,bw) (tm,(r,op,at_,nmi),ds,bd,ba,bdt) a=_).symm
theorem Qez {b:Bd} {a:Int} (h1:0≤Qv b a):Qv b a < b.2.2.1.length∧fI b a=Qv b a:=by
 have hF:Qv b a=-1∨(0≤Qv b a∧Qv b a < b.2.2.1.length):=Qjv (QfK a) b.2.2.1
 exact ⟨by omega,if_pos h1⟩
def QyD:Qk:=⟨[gBd,gM,gi,gi],fun (b,m,a,k,_)=>(some (Qqa b m),QmJ (QhV b m a k) 0,[.arr Qp (QhV b m a k).2.2.1])⟩
theorem QwX:Qi Tryz.prog 46 QyD.spec:=by
 have hP:Qe Tryz.prog _:=Qa QjG (Qa QT (Qa Qhv (Qa Qla (Qc (T:=tree)))))
 have hT:=tabs hP Qf
 refine QyD.good (fn:=Tryz.f46) hT hP Tryz.func46 (by kernel_rfl) rfl fun (b:Bd) (m:Mach) (a k:Int) hq=>?_
 have hpp:Qqa b m:=hq _ rfl
 have hbP:=QtO hpp a
 have hatF:=@QyB b a
 obtain ⟨⟨h1,h2⟩,h3,h4⟩:=hpp
 clear hq
 obtain ⟨bn,⟨un,ui,ur,uq,um⟩,bc,bw⟩:=b
 obtain ⟨tm,⟨r,op,at_,nmi⟩,ds,bd,ba,bdt⟩:=m
 have h1:bc.length*64≤140737488351232:=h1
 have h2:∀ c ∈ bc,cP c:=h2
 have h4:∀ d ∈ ds,dP d:=h4
 repeat' first |(refine Go.mk ?_;conv=>whnf) |refine Ql.go ?_ ?_ |refine Qm.go (fun _=>?_) (fun _=>?_) |refine Br.dec (fun _=>?_) (fun _=>?_) |refine Br.go (fun _=>?_) (fun _=>?_) |refine Qd hT hP mixed ?_ |refine Qb hT hP ?_
 all_goals (try dsimp only [Qj] at *)
 all_goals clear hT hP
 ·exact h3
 ·exact of_decide_eq_true rfl
 ·exact hbP
 ·rename_i g1 g2
  obtain ⟨f2,f3⟩:=Qez (a:=adI a) g1
  show 0≤fI (bn,(un,ui,ur,uq,um),bc,bw) (adI a)∧fI (bn,(un,ui,ur,uq,um),bc,bw) (adI a) < (bc.length:Int)
  rw [f3];exact ⟨g1,f2⟩
 ·rename_i g1 g2 g3
  obtain ⟨f2,f3⟩:=Qez (a:=adI a) g1
  show 0≤fI (bn,(un,ui,ur,uq,um),bc,bw) (adI a)∧fI (bn,(un,ui,ur,uq,um),bc,bw) (adI a) < (bc.length:Int)
  rw [f3];exact ⟨g1,f2⟩
 ·rename_i g1 g2 g3 g4
  obtain ⟨f2,f3⟩:=Qez (a:=adI a) g1
  show 0≤fI (bn,(un,ui,ur,uq,um),bc,bw) (adI a)∧fI (bn,(un,ui,ur,uq,um),bc,bw) (adI a) < (bc.length:Int)
  rw [f3];exact ⟨g1,f2⟩
 ·rename_i g1 g2 g3 g4
  obtain ⟨f2,f3⟩:=Qez (a:=adI a) g1
  have g2:fI (bn,(un,ui,ur,uq,um),bc,bw) (adI a) < (ds.length:Int):=g2
  show 0≤fI (bn,(un,ui,ur,uq,um),bc,bw) (adI a)∧fI (bn,(un,ui,ur,uq,um),bc,bw) (adI a) < (ds.length:Int)
  rw [f3] at g2 ⊢;exact ⟨g1,g2⟩
 ·rename_i g1 g2 g3 g4
  obtain ⟨f2,f3⟩:=Qez (a:=adI a) g1
  have g2:fI (bn,(un,ui,ur,uq,um),bc,bw) (adI a) < (ds.length:Int):=g2
  show (fI (bn,(un,ui,ur,uq,um),bc,bw) (adI a)).toNat < ds.length
  rw [f3] at g2 ⊢
  have g1:0≤Qv (bn,(un,ui,ur,uq,um),bc,bw) (adI a):=g1
  omega
 ·rename_i g1 g2 g3 g4
  obtain ⟨f2,f3⟩:=Qez (a:=adI a) g1
  have g1:0≤Qv (bn,(un,ui,ur,uq,um),bc,bw) (adI a):=g1
  have g2:fI (bn,(un,ui,ur,uq,um),bc,bw) (adI a) < (ds.length:Int):=g2
  have f2:Qv (bn,(un,ui,ur,uq,um),bc,bw) (adI a) < (bc.length:Int):=f2
  show cP (bc.getD (fI (bn,(un,ui,ur,uq,um),bc,bw) (adI a)).toNat (dflt Qh))∧dP (ds.getD (fI (bn,(un,ui,ur,uq,um),bc,bw) (adI a)).toNat (dflt Qp))
  rw [f3] at g2 ⊢
  exact ⟨h2 _ (QQ _ (by omega)),h4 _ (QQ _ (by omega))⟩
 ·rename_i g1 g2 g3 g4
  obtain ⟨f2,f3⟩:=Qez (a:=adI a) g1
  have g2:fI (bn,(un,ui,ur,uq,um),bc,bw) (adI a) < (ds.length:Int):=g2
  show 0≤fI (bn,(un,ui,ur,uq,um),bc,bw) (adI a)∧fI (bn,(un,ui,ur,uq,um),bc,bw) (adI a) < (ds.length:Int)
  rw [f3] at g2 ⊢;exact ⟨g1,g2⟩
 ·rename_i g1 g2 g3 g4
  obtain ⟨f2,f3⟩:=Qez (a:=adI a) g1
  have g2:fI (bn,(un,ui,ur,uq,um),bc,bw) (adI a) < (ds.length:Int):=g2
  show (fI (bn,(un,ui,ur,uq,um),bc,bw) (adI a)).toNat < ds.length
  rw [f3] at g2 ⊢
  have g1:0≤Qv (bn,(un,ui,ur,uq,um),bc,bw) (adI a):=g1
  omega
 ·rename_i g1 g2 g3 g4
  obtain ⟨f2,f3⟩:=Qez (a:=adI a) g1
  have g2:fI (bn,(un,ui,ur,uq,um),bc,bw) (adI a) < (ds.length:Int):=g2
  have g3:(bc.getD (fI (bn,(un,ui,ur,uq,um),bc,bw) (adI a)).toNat (dflt Qh)).2.1≥0:=g3
  have g4:(bc.getD (fI (bn,(un,ui,ur,uq,um),bc,bw) (adI a)).toNat (dflt Qh)).2.1≤2:=g4
  rw [f3] at g2 g3 g4
  have e:((tm,(r,op,at_,nmi),ds.set (fI (bn,(un,ui,ur,uq,um),bc,bw) (adI a)).toNat (QbL (bc.getD (fI (bn,(un,ui,ur,uq,um),bc,bw) (adI a)).toNat (dflt Qh)) (ds.getD (fI (bn,(un,ui,ur,uq,um),bc,bw) (adI a)).toNat (dflt Qp)) (atF (bn,(un,ui,ur,uq,um),bc,bw) (adI a)) k),bd,ba,bdt):Mach)=QhV (bn,(un,ui,ur,uq,um),bc,bw) (tm,(r,op,at_,nmi),ds,bd,ba,bdt) a k:=by
   rw [f3,hatF g1]
   exact (if_pos (c:=QjH (bn,(un,ui,ur,uq,um),bc,bw) (tm,(r,op,at_,nmi),ds,bd,ba,bdt) a) ⟨⟨g1,g2⟩,g3,g4⟩).symm
  exact .mk [] [3] _ R R R R R (congrArg (fun z:Mach=>[some (Blk.arr Qp z.2.2.1)]) e) (congrArg (fun z:Mach=>QmJ z 0) e)
 ·rename_i g1 g2 g3 g4
  obtain ⟨f2,f3⟩:=Qez (a:=adI a) g1
  have g4:¬ (bc.getD (fI (bn,(un,ui,ur,uq,um),bc,bw) (adI a)).toNat (dflt Qh)).2.1≤2:=g4
  rw [f3] at g4
  have e:((tm,(r,op,at_,nmi),ds,bd,ba,bdt):Mach)=QhV (bn,(un,ui,ur,uq,um),bc,bw) (tm,(r,op,at_,nmi),ds,bd,ba,bdt) a k:=(if_neg (c:=QjH (bn,(un,ui,ur,uq,um),bc,bw) (tm,(r,op,at_,nmi),ds,bd,ba,bdt) a) fun h=>g4 h.2.2).symm
  exact .mk [] [3] _ R R R R R (congrArg (fun z:Mach=>[some (Blk.arr Qp z.2.2.1)]) e) (congrArg (fun z:Mach=>QmJ z 0) e)
 ·rename_i g1 g2 g3
  obtain ⟨f2,f3⟩:=Qez (a:=adI a) g1
  have g3:¬ (bc.getD (fI (bn,(un,ui,ur,uq,um),bc,bw) (adI a)).toNat (dflt Qh)).2.1≥0:=g3
  rw [f3] at g3
  have e:((tm,(r,op,at_,nmi),ds,bd,ba,bdt):Mach)=QhV (bn,(un,ui,ur,uq,um),bc,bw) (tm,(r,op,at_,nmi),ds,bd,ba,bdt) a k:=(if_neg (c:=QjH (bn,(un,ui,ur,uq,um),bc,bw) (tm,(r,op,at_,nmi),ds,bd,ba,bdt) a) fun h=>g3 h.2.1).symm
  exact .mk [] [3] _ R R R R R (congrArg (fun z:Mach=>[some (Blk.arr Qp z.2.2.1)]) e) (congrArg (fun z:Mach=>QmJ z 0) e)
 ·rename_i g1 g2
  obtain ⟨f2,f3⟩:=Qez (a:=adI a) g1
  have g2:¬ fI (bn,(un,ui,ur,uq,um),bc,bw) (adI a) < (ds.length:Int):=g2
  rw [f3] at g2
  have e:((tm,(r,op,at_,nmi),ds,bd,ba,bdt):Mach)=QhV (bn,(un,ui,ur,uq,um),bc,bw) (tm,(r,op,at_,nmi),ds,bd,ba,bdt) a k:=(if_neg (c:=QjH (bn,(un,ui,ur,uq,um),bc,bw) (tm,(r,op,at_,nmi),ds,bd,ba,bdt) a) fun h=>g2 h.1.2).symm
  exact .mk [] [3] _ R R R R R (congrArg (fun z:Mach=>[some (Blk.arr Qp z.2.2.1)]) e) (congrArg (fun z:Mach=>QmJ z 0) e)
 ·rename_i g1
  have g1:¬ 0≤Qv (bn,(un,ui,ur,uq,um),bc,bw) (adI a):=g1
  have e:((tm,(r,op,at_,nmi),ds,bd,ba,bdt):Mach)=QhV (bn,(un,ui,ur,uq,um),bc,bw) (tm,(r,op,at_,nmi),ds,bd,ba,bdt) a k:=(if_neg (c:=QjH (bn,(un,ui,ur,uq,um),bc,bw) (tm,(r,op,at_,nmi),ds,bd,ba,bdt) a) fun h=>g1 h.1.1).symm
  exact .mk [] [3] _ R R R R R (congrArg (fun z:Mach=>[some (Blk.arr Qp z.2.2.1)]) e) (congrArg (fun z:Mach=>QmJ z 0) e)
abbrev QL:Ty:=.pair (.int .i64) (.pair .str (.int .i64))
abbrev Inp:=Int × ByteArray × Int
abbrev gIn:Sig:=⟨false,.sl QL⟩
def Qdr (f:Cv→Dv→Dv) (cs:List Cv) (ds:List Dv) (k:Nat):List Dv:=List.zipWith f (cs.take k) (ds.take k)++ds.drop k
theorem Qf4 (f:Cv→Dv→Dv) (cs:List Cv) (ds:List Dv):Qdr f cs ds 0=ds:=by unfold Qdr;simp
theorem Qbz {f:Cv→Dv→Dv} {cs:List Cv} {ds:List Dv} (h:cs.length=ds.length) {k:Nat} (hk:cs.length≤k):Qdr f cs ds k=List.zipWith f cs ds:=by
 unfold Qdr
 rw [List.take_of_length_le hk,List.take_of_length_le (by omega),List.drop_of_length_le (by omega),List.append_nil]
theorem Qgx {f:Cv→Dv→Dv} {cs:List Cv} {ds:List Dv} (h:cs.length=ds.length) {k:Nat} (hk:k≤cs.length):(List.zipWith f (cs.take k) (ds.take k)).length=k:=by
 rw [List.length_zipWith,List.length_take,List.length_take];omega
theorem QbP {f:Cv→Dv→Dv} {cs:List Cv} {ds:List Dv} (h:cs.length=ds.length) {k:Nat} (hk:k≤cs.length):(Qdr f cs ds k).length=ds.length:=by
 unfold Qdr
 rw [List.length_append,Qgx h hk,List.length_drop];omega
theorem QbQ {f:Cv→Dv→Dv} {cs:List Cv} {ds:List Dv} (h:cs.length=ds.length) {k:Nat} (hk:k < cs.length) (d:Dv):(Qdr f cs ds k).getD k d=ds.getD k d:=by
 unfold Qdr
 rw [List.getD_eq_getElem?_getD,List.getElem?_append_right (by rw [Qgx h (by omega)];omega),Qgx h (by omega),Nat.sub_self,List.getElem?_drop,Nat.add_zero,← List.getD_eq_getElem?_getD]
theorem Qbl {f:Cv→Dv→Dv} {cs:List Cv} {ds:List Dv} (h:cs.length=ds.length) {k:Nat} (hk:k < cs.length) (c0:Cv) (d0:Dv):(Qdr f cs ds k).set k (f (cs.getD k c0) (ds.getD k d0))=Qdr f cs ds (k+1):=by
 have e1:cs.take (k+1)=cs.take k++[cs.getD k c0]:=by rw [List.take_add_one,List.getD_eq_getElem?_getD,List.getElem?_eq_getElem hk];rfl
 have e2:ds.take (k+1)=ds.take k++[ds.getD k d0]:=by rw [List.take_add_one,List.getD_eq_getElem?_getD,List.getElem?_eq_getElem (show k < ds.length by omega)];rfl
 have e3:ds.drop k=ds.getD k d0 :: ds.drop (k+1):=by rw [List.drop_eq_getElem_cons (show k < ds.length by omega),List.getD_eq_getElem?_getD,List.getElem?_eq_getElem (show k < ds.length by omega)];rfl
 have hl:=Qgx (f:=f) h (k:=k) (by omega)
 unfold Qdr
 rw [e1,e2,e3,List.set_append,if_neg (by omega),hl,Nat.sub_self,List.set_cons_zero,List.zipWith_append (by rw [List.length_take,List.length_take];omega)]
 simp
theorem QjI {f:Cv→Dv→Dv} {cs:List Cv} {ds:List Dv} (h:cs.length=ds.length) {k:Nat} (hk:k < cs.length) {c0:Cv} {d0:Dv} (e:f (cs.getD k c0) (ds.getD k d0)=ds.getD k d0):Qdr f cs ds k=Qdr f cs ds (k+1):=by
 have h1:=Qbl (f:=f) h hk c0 d0
 have hlt:k < (Qdr f cs ds k).length:=by rw [QbP h (by omega)];omega
 rw [e,← QbQ (f:=f) h hk d0] at h1
 rw [← h1]
 apply List.ext_getElem?
 intro i
 rw [List.getElem?_set]
 split
 ·rename_i hi
  subst hi
  rw [List.getD_eq_getElem?_getD,List.getElem?_eq_getElem hlt];rfl
 ·rfl
def Qfc (x:Inp) (c:Cv) (d:Dv):Dv:=if Qs c.1 x.2.1=true then QqD c d x.2.2 else d
def Qgc (bc:List Cv) (t:Int) (s:List Dv × Bool) (x:Inp):List Dv × Bool :=
 if x.1≠t then s else if Qs x.2.1 QaE=true then (s.1,true) else (List.zipWith (Qfc x) bc s.1,s.2)
def QR (bc:List Cv) (t:Int) (l:List Inp) (s:List Dv × Bool):List Dv × Bool:=l.foldl (Qgc bc t) s
def QjJ (bc:List Cv) (t:Int) (l:List Inp) (s:List Dv × Bool) (k:Nat):List Dv × Bool:=QR bc t (l.take k) s
theorem Qit {bc:List Cv} {t:Int} {l:List Inp} {s:List Dv × Bool} {k:Nat} (hk:k < l.length) (x0:Inp):QjJ bc t l s (k+1)=Qgc bc t (QjJ bc t l s k) (l.getD k x0):=by
 unfold QjJ QR
 rw [List.take_add_one,List.foldl_append,List.getD_eq_getElem?_getD,List.getElem?_eq_getElem hk];rfl
theorem Qlr {bc:List Cv} {t:Int} {l:List Inp} {s:List Dv × Bool} {k:Nat} (hk:l.length≤k):QjJ bc t l s k=QR bc t l s:=by
 unfold QjJ;rw [List.take_of_length_le hk]
def QcV:List Bool→List Cv→List Dv→Bool
 |h :: hs,c :: cs,d :: ds=>(h&&Qhk c d)||QcV hs cs ds
 |_,_,_=>false
def Qax (b:Bd) (ds:List Dv):Bool:=QcV (Qa2 b.2.2.2 b.2.2.1) b.2.2.1 ds
def Qbo (b:Bd) (ds:List Dv) (x:Bsv):List Dv :=
 if 0≤Qv b x.2.1 then
  (if x.1=1 then ds.set (Qv b x.2.1).toNat (Qe4 (b.2.2.1.getD (Qv b x.2.1).toNat (dflt Qh)) (ds.getD (Qv b x.2.1).toNat (dflt Qp)) (atF b x.2.1))
   else if x.1=2 then ds.set (Qv b x.2.1).toNat (QbL (b.2.2.1.getD (Qv b x.2.1).toNat (dflt Qh)) (ds.getD (Qv b x.2.1).toNat (dflt Qp)) (atF b x.2.1) x.2.2) else ds)
 else ds
def Qc0 (b:Bd) (ds:List Dv) (x:Bsv):Int :=
 if x.1=1 then (if 0≤Qv b x.2.1 then QfI (b.2.2.1.getD (Qv b x.2.1).toNat (dflt Qh)) (ds.getD (Qv b x.2.1).toNat (dflt Qp)) (atF b x.2.1) else 255) else x.2.2
def Qgd (t:Int):List Cv→List Dv→List Int→List Inp
 |c :: cs,d :: ds,n :: ns=>if Qbi c d=n then Qgd t cs ds ns else (t,c.1,Qbi c d) :: Qgd t cs ds ns
 |_,_,_=>[]
theorem QoV (t:Int):∀ (cs:List Cv) (ds:List Dv) (ns:List Int) (cs':List Cv) (ds':List Dv) (ns':List Int),cs.length=ds.length→cs.length=ns.length→Qgd t (cs++cs') (ds++ds') (ns++ns')=Qgd t cs ds ns++Qgd t cs' ds' ns'
 | [],[],[],cs',ds',ns',_,_=>rfl
 |c :: cs,d :: ds,n :: ns,cs',ds',ns',h,h2=>by
   simp only [List.cons_append,Qgd]
   rw [QoV t cs ds ns cs' ds' ns' (by simpa using h) (by simpa using h2)]
   split<;>rfl
 | [],_ :: _,_,_,_,_,h,_=>by simp at h
 | [],[],_ :: _,_,_,_,_,h=>by simp at h
 |_ :: _,[],_,_,_,_,h,_=>by simp at h
 |_ :: _,_ :: _,[],_,_,_,_,h=>by simp at h
theorem Qbm (t:Int):∀ (cs:List Cv) (ds:List Dv) (ns:List Int),(Qgd t cs ds ns).length≤cs.length
 | [],ds,ns=>by simp [Qgd]
 |c :: cs,[],ns=>by simp [Qgd]
 |c :: cs,d :: ds,[]=>by simp [Qgd]
 |c :: cs,d :: ds,n :: ns=>by
   have:=Qbm t cs ds ns
   simp only [Qgd,List.length_cons]
   split
   ·omega
   ·simp only [List.length_cons];omega
def newK (t:Int) (cs:List Cv) (ds:List Dv) (ns:List Int) (k:Nat):List Inp:=Qgd t (cs.take k) (ds.take k) (ns.take k)
theorem QcW {t:Int} {cs:List Cv} {ds:List Dv} {ns:List Int} (h:cs.length=ds.length) (h2:cs.length=ns.length) {k:Nat} (hk:k < cs.length) (c0:Cv) (d0:Dv) :
 newK t cs ds ns (k+1)=newK t cs ds ns k++(if Qbi (cs.getD k c0) (ds.getD k d0)=ns.getD k 0 then [] else [(t,(cs.getD k c0).1,Qbi (cs.getD k c0) (ds.getD k d0))]):=by
 have e1:cs.take (k+1)=cs.take k++[cs.getD k c0]:=by rw [List.take_add_one,List.getD_eq_getElem?_getD,List.getElem?_eq_getElem hk];rfl
 have e2:ds.take (k+1)=ds.take k++[ds.getD k d0]:=by rw [List.take_add_one,List.getD_eq_getElem?_getD,List.getElem?_eq_getElem (show k < ds.length by omega)];rfl
 have e3:ns.take (k+1)=ns.take k++[ns.getD k 0]:=by rw [List.take_add_one,List.getD_eq_getElem?_getD,List.getElem?_eq_getElem (show k < ns.length by omega)];rfl
 unfold newK
 rw [e1,e2,e3,QoV t _ _ _ _ _ _ (by rw [List.length_take,List.length_take];omega) (by rw [List.length_take,List.length_take];omega)]
 congr 1
def Qed (t:Int):Int:=max (-1) (min t 1099511627775)+1
def Qz (b:Bd) (m:Mach) (l:List Inp):Mach × List Inp :=
 let g:=QR b.2.2.1 m.1 l (m.2.2.1,m.2.1.2.2.2)
 let a:=Qw b.2.1 (m.2.1.1,m.2.1.2.1,m.2.1.2.2.1,g.2) (Qax b g.1)
 let ds:=List.zipWith Qn b.2.2.1 (Qbo b g.1 a.2)
 ((Qed m.1,QS b.2.1 a.1 (Qc0 b g.1 a.2),ds,a.2.1,a.2.2.1,Qc0 b g.1 a.2),Qgd m.1 b.2.2.1 ds (List.zipWith Qbi b.2.2.1 m.2.2.1))
def Qel (b:Bd) (l:List Inp):Nat→Mach × List Inp→Mach × List Inp
 |0,s=>s
 |n+1,s=>Qel b l n ((Qz b s.1 l).1,s.2++(Qz b s.1 l).2)
structure BdX where
 bn:ByteArray
 un:ByteArray
 ui:List Ins
 ur:List Cyc
 uq:List Cyc
 um:List Cyc
 bc:List Cv
 bw:List Wr
structure McX where
 tm:Int
 r:List Int
 op:Int
 at_:Int
 nmi:Bool
 ds:List Dv
 bd:Int
 ba:Int
 bdt:Int
@[reducible] def bdA (b:BdX):List QD:=[.imm (.string b.bn),.imm (.string b.un),.ro Qaw b.ui,.ro QA b.ur,.ro QA b.uq,.ro QA b.um,.ro Qh b.bc,.ro Qx b.bw]
@[reducible] def mcA (m:McX):List QD:=[iv .i64 m.tm,.run .i64 9 m.r,iv .i64 m.op,iv .i64 m.at_,bv m.nmi,.own 1,iv .i64 m.bd,iv .i64 m.ba,iv .i64 m.bdt]
structure StX where
 b:BdX
 m:McX
 l:List Inp
def QF9:List V1→List Blk→Option StX:=fun a b=>match a,b with
 | [.agg [.imm (.string bn),.imm (.string un),.ro (.pair (.int .i64) (.pair .str (.pair (.int .i64) (.sl (.pair (.int .i64) (.pair (.int .i64) (.pair (.int .i64) (.sl (.pair (.int .i64) (.pair (.int .i64) (.pair (.int .i64) (.int .i64)))))))))))) ui,.ro (.pair (.int .i64) (.pair (.int .i64) (.pair (.int .i64) (.sl (.pair (.int .i64) (.pair (.int .i64) (.pair (.int .i64) (.int .i64)))))))) ur,.ro (.pair (.int .i64) (.pair (.int .i64) (.pair (.int .i64) (.sl (.pair (.int .i64) (.pair (.int .i64) (.pair (.int .i64) (.int .i64)))))))) uq,.ro (.pair (.int .i64) (.pair (.int .i64) (.pair (.int .i64) (.sl (.pair (.int .i64) (.pair (.int .i64) (.pair (.int .i64) (.int .i64)))))))) um,.ro (.pair .str (.pair (.int .i64) (.pair (.int .i64) (.pair (.int .i64) (.sl (.int .u8)))))) bc,.ro (.pair .str .str) bw],.c (.ptr 0 0)],[.var [.imm (.int .i64 tm),.run .i64 9 r,.imm (.int .i64 op),.imm (.int .i64 at_),.imm (.bool nmi),.own 1,.imm (.int .i64 bd),.imm (.int .i64 ba),.imm (.int .i64 bdt)],.arr (.pair (.sl (.int .i64)) (.sl (.int .u8))) ds]=>some ⟨⟨bn,un,ui,ur,uq,um,bc,bw⟩,⟨tm,r,op,at_,nmi,ds,bd,ba,bdt⟩,[]⟩
 |_,_=>none
theorem QAY {a:List V1} {b:List Blk} {x:StX} (h:QF9 a b=some x):a=[.agg (bdA x.b),.c (.ptr 0 0)]∧b=[.var (mcA x.m),.arr Qp x.m.ds]:=by
 unfold QF9 at h
 split at h
 ·injection h with h;subst h;exact ⟨rfl,rfl⟩
 ·cases h
def QEr:List V1→List Blk→Option StX:=fun a b=>match a,b with
 | [.agg [.imm (.string bn),.imm (.string un),.ro (.pair (.int .i64) (.pair .str (.pair (.int .i64) (.sl (.pair (.int .i64) (.pair (.int .i64) (.pair (.int .i64) (.sl (.pair (.int .i64) (.pair (.int .i64) (.pair (.int .i64) (.int .i64)))))))))))) ui,.ro (.pair (.int .i64) (.pair (.int .i64) (.pair (.int .i64) (.sl (.pair (.int .i64) (.pair (.int .i64) (.pair (.int .i64) (.int .i64)))))))) ur,.ro (.pair (.int .i64) (.pair (.int .i64) (.pair (.int .i64) (.sl (.pair (.int .i64) (.pair (.int .i64) (.pair (.int .i64) (.int .i64)))))))) uq,.ro (.pair (.int .i64) (.pair (.int .i64) (.pair (.int .i64) (.sl (.pair (.int .i64) (.pair (.int .i64) (.pair (.int .i64) (.int .i64)))))))) um,.ro (.pair .str (.pair (.int .i64) (.pair (.int .i64) (.pair (.int .i64) (.sl (.int .u8)))))) bc,.ro (.pair .str .str) bw],.c (.ptr 0 0),.c (.ro (.pair (.int .i64) (.pair .str (.int .i64))) l)],[.var [.imm (.int .i64 tm),.run .i64 9 r,.imm (.int .i64 op),.imm (.int .i64 at_),.imm (.bool nmi),.own 1,.imm (.int .i64 bd),.imm (.int .i64 ba),.imm (.int .i64 bdt)],.arr (.pair (.sl (.int .i64)) (.sl (.int .u8))) ds]=>some ⟨⟨bn,un,ui,ur,uq,um,bc,bw⟩,⟨tm,r,op,at_,nmi,ds,bd,ba,bdt⟩,l⟩
 |_,_=>none
theorem QtR {a:List V1} {b:List Blk} {x:StX} (h:QEr a b=some x):a=[.agg (bdA x.b),.c (.ptr 0 0),.c (.ro QL x.l)]∧b=[.var (mcA x.m),.arr Qp x.m.ds]:=by
 unfold QEr at h
 split at h
 ·injection h with h;subst h;exact ⟨rfl,rfl⟩
 ·cases h
def BdX.v (b:BdX):Bd:=(b.bn,(b.un,b.ui,b.ur,b.uq,b.um),b.bc,b.bw)
def McX.v (m:McX):Mach:=(m.tm,(m.r,m.op,m.at_,m.nmi),m.ds,m.bd,m.ba,m.bdt)
theorem QmM {α β γ:Type} {f:α→β→γ}:∀ {l:List α} {m:List β} {z:γ},z ∈ List.zipWith f l m→∃ x ∈ l,∃ y ∈ m,z=f x y
 | [],m,z,h=>by simp at h
 |x :: l,[],z,h=>by simp at h
 |x :: l,y :: m,z,h=>by
   rw [List.zipWith_cons_cons] at h
   rcases List.mem_cons.1 h with rfl |h
   ·exact ⟨x,List.mem_cons_self ..,y,List.mem_cons_self ..,rfl⟩
   ·obtain ⟨a,ha,b,hb,e⟩:=QmM h
    exact ⟨a,List.mem_cons_of_mem _ ha,b,List.mem_cons_of_mem _ hb,e⟩
def QqH (L:Nat) (cs:List Cv):Prop:=∀ c ∈ cs,cP c∧List.length c.2.2.2.2+70000≤L
def Qgy (L:Nat) (ds:List Dv):Prop:=∀ d ∈ ds,OkD L d
theorem Qge.ok {c:Cv} {L:Nat} {d:Dv} (h:Qge c L d) (hL:List.length c.2.2.2.2+70000≤L):OkD L d:=⟨h.u,by have:=h.l;omega⟩
theorem OkD.dP {L:Nat} {d:Dv} (h:OkD L d) (hL:L≤140737488355328):dP d:=⟨Nat.le_trans h.l hL,h.u⟩
theorem QwZ (L:Nat):OkD L (dflt Qp):=⟨fun x hx=>(by cases hx),Nat.zero_le _⟩
theorem Qw0 {L:Nat} (hL:70000≤L):cP (dflt Qh)∧List.length (dflt Qh).2.2.2.2+70000≤L:=⟨⟨⟨by decide,by decide⟩,⟨by decide,by decide⟩,by decide⟩,hL⟩
theorem QqH.get {L:Nat} {cs:List Cv} (h:QqH L cs) (hL:70000≤L) (k:Nat):cP (cs.getD k (dflt Qh))∧List.length (cs.getD k (dflt Qh)).2.2.2.2+70000≤L:=by
 by_cases hk:k < cs.length
 ·exact h _ (QQ (dflt Qh) hk)
 ·rw [List.getD_eq_getElem?_getD,List.getElem?_eq_none (by omega)];exact Qw0 hL
theorem Qgy.get {L:Nat} {ds:List Dv} (h:Qgy L ds) (k:Nat):OkD L (ds.getD k (dflt Qp)):=by
 by_cases hk:k < ds.length
 ·exact h _ (QQ (dflt Qp) hk)
 ·rw [List.getD_eq_getElem?_getD,List.getElem?_eq_none (by omega)];exact QwZ L
theorem Qgy.zip {L:Nat} {cs:List Cv} {ds:List Dv} {f:Cv→Dv→Dv} (hc:QqH L cs) (hd:Qgy L ds) (hf:∀ c d,cP c→List.length c.2.2.2.2+70000≤L→OkD L d→OkD L (f c d)):Qgy L (List.zipWith f cs ds):=by
 intro z hz
 obtain ⟨c,h1,d,h2,rfl⟩:=QmM hz
 exact hf c d (hc c h1).1 (hc c h1).2 (hd d h2)
theorem Qw1 {L:Nat} (x:Inp) (c:Cv) (d:Dv) (hc:cP c) (hl:List.length c.2.2.2.2+70000≤L) (hd:OkD L d):OkD L (Qfc x c d):=by
 unfold Qfc
 split
 ·exact (Qwv hc hd _).ok hl
 ·exact hd
theorem Qw2 {L:Nat} {cs:List Cv} {t:Int} {s:List Dv × Bool} {x:Inp} (hc:QqH L cs) (hs:Qgy L s.1) (hl:cs.length=s.1.length):Qgy L (Qgc cs t s x).1∧(Qgc cs t s x).1.length=s.1.length:=by
 unfold Qgc
 split
 ·exact ⟨hs,rfl⟩
 ·split
  ·exact ⟨hs,rfl⟩
  ·exact ⟨hs.zip hc fun c d=>Qw1 x c d,by rw [List.length_zipWith];omega⟩
theorem Qd5 {L:Nat} {cs:List Cv} {t:Int} (hc:QqH L cs):∀ (l:List Inp) {s:List Dv × Bool},Qgy L s.1→cs.length=s.1.length→Qgy L (QR cs t l s).1∧(QR cs t l s).1.length=s.1.length
 | [],s,hs,hl=>⟨hs,rfl⟩
 |x :: l,s,hs,hl=>by
   have h1:=Qw2 (t:=t) (x:=x) hc hs hl
   have h2:=Qd5 (t:=t) hc l h1.1 (by omega)
   exact ⟨h2.1,by rw [← h1.2];exact h2.2⟩
theorem Qgy.set {L:Nat} {ds:List Dv} (h:Qgy L ds) {d:Dv} (hd:OkD L d) (i:Nat):Qgy L (ds.set i d):=by
 intro x hx
 rcases List.mem_or_eq_of_mem_set hx with hx |rfl
 ·exact h x hx
 ·exact hd
theorem QdM {L:Nat} {b:Bd} {ds:List Dv} {x:Bsv} (hL:70000≤L) (hc:QqH L b.2.2.1) (hd:Qgy L ds):Qgy L (Qbo b ds x)∧(Qbo b ds x).length=ds.length:=by
 have h1:=hc.get hL (Qv b x.2.1).toNat
 have h2:=hd.get (Qv b x.2.1).toNat
 unfold Qbo
 split
 ·split
  ·exact ⟨hd.set ((Qtb h1.1 h2 _).ok h1.2) _,List.length_set⟩
  ·split
   ·exact ⟨hd.set ((Qp5 h1.1 h2 _ _).ok h1.2) _,List.length_set⟩
   ·exact ⟨hd,rfl⟩
 ·exact ⟨hd,rfl⟩
theorem Qbv {L:Nat} {cs:List Cv} {ds:List Dv} (hc:QqH L cs) (hd:Qgy L ds):Qgy L (List.zipWith Qn cs ds) :=
 hd.zip hc fun c d h1 h2 h3=>(Qlh h1 h3).ok h2
structure MOk (L:Nat) (b:Bd) (m:Mach):Prop where
 L1:70000≤L
 L2:L≤140737488355328
 c:QqH L b.2.2.1
 d:Qgy L m.2.2.1
 l:b.2.2.1.length=m.2.2.1.length
theorem QoX {L:Nat} {b:Bd} {m:Mach} (l:List Inp) (h:MOk L b m):Qgy L (Qz b m l).1.2.2.1∧(Qz b m l).1.2.2.1.length=m.2.2.1.length:=by
 have h1:=Qd5 (t:=m.1) h.c l (s:=(m.2.2.1,m.2.1.2.2.2)) h.d h.l
 have h2:=QdM (b:=b) (x:=(Qw b.2.1 (m.2.1.1,m.2.1.2.1,m.2.1.2.2.1,(QR b.2.2.1 m.1 l (m.2.2.1,m.2.1.2.2.2)).2) (Qax b (QR b.2.2.1 m.1 l (m.2.2.1,m.2.1.2.2.2)).1)).2) h.L1 h.c h1.1
 refine ⟨Qbv h.c h2.1,?_⟩
 show (List.zipWith Qn _ _).length=_
 rw [List.length_zipWith,h2.2,h1.2]
 have:=h.l
 dsimp only
 omega
theorem Qw3 {L:Nat} {b:Bd} {m:Mach} (l:List Inp) (h:MOk L b m):MOk L b (Qz b m l).1:=by
 have h1:=QoX l h
 exact ⟨h.L1,h.L2,h.c,h1.1,h.l.trans h1.2.symm⟩
theorem Qhw (r:List Int):∀ n ∈ QJ r,0≤n∧n < 65536:=by
 intro n hn
 unfold QJ at hn
 simp only [List.mem_cons,List.not_mem_nil,or_false] at hn
 rcases hn with rfl |rfl |rfl |rfl |rfl |rfl |rfl |rfl |rfl<;>omega
def r16 (r:List Int):Prop:=∀ n ∈ r,0≤n∧n < 65536
theorem QA0 {r:List Int} (h:r16 r) {v:Int} (hv:0≤v∧v < 65536) (i:Nat):r16 (r.set i v):=by
 intro x hx
 rcases List.mem_or_eq_of_mem_set hx with hx |rfl
 ·exact h x hx
 ·exact hv
theorem QyF (s:Stp) (r:List Int):r16 (doR s r):=by
 unfold doR
 split
 ·exact Qhw _
 ·exact Qhw _
theorem QtT:∀ (l:List Stp) (r:List Int),r16 r→r16 (Qek l r).1
 | [],r,h=>h
 |s :: l,r,h=>by
   unfold Qek
   split
   ·exact QyF _ _
   ·exact QtT l _ (QyF _ _)
theorem Qw4 (x:Cyc) {r:List Int} (h:r16 r) (d:Int):r16 (Qbu x r (d%256)):=by
 unfold Qbu
 split
 ·exact QA0 h (by omega) _
 ·exact h
theorem Qw5 (c:Cpu) (k:Kor) (d:Int):r16 (QS c k d).1:=by
 have h0:=Qhw k.1
 have h1:=QtT (doF c k.2.1 k.2.2.1).2.2.2 _ (Qw4 (doF c k.2.1 k.2.2.1) (r:=QJ k.1) h0 d)
 unfold QS
 repeat' split
 all_goals first
  |exact h0
  |exact h1
theorem Qw6 {c:Cpu} {k:Kor} {d:Int} (h:Qao k.2.1) (h2:Qao k.2.2.1):Qao (QS c k d).2.1∧(Qao (QS c k d).2.2.1∨(QV c k.2.1).length > 4611686018427387904):=by
 have hm:∀ v:Int,-1≤v∧v≤1000→Qao v:=fun v hv=>by unfold Qao;omega
 have m1:=hm (-1) (by decide)
 have m0:=hm 0 (by decide)
 have m9:=hm 259 (by decide)
 unfold QS
 split
 ·refine ⟨?_,.inl (hm 0 (by decide))⟩
  dsimp only
  repeat' split
  all_goals exact hm _ (by omega)
 ·split
  ·rename_i hc
   have hc:(!decide (k.2.1=-1)&&(decide (0≤k.2.2.1)&&decide (k.2.2.1 < (QV c k.2.1).length)))=true:=hc
   simp only [Bool.and_eq_true,Bool.not_eq_true',decide_eq_true_eq,decide_eq_false_iff_not] at hc
   split
   ·exact ⟨m1,.inl m0⟩
   ·refine ⟨h,?_⟩
    by_cases hl:(QV c k.2.1).length > 4611686018427387904
    ·exact .inr hl
    ·left;show Qao (k.2.2.1+1);unfold Qao;omega
  ·split
   ·exact ⟨m9,.inl h2⟩
   ·exact ⟨m1,.inl m0⟩
theorem QmN {r:List Int} (h:r16 r) (k:Nat):0≤r.getD k 0∧r.getD k 0 < 65536:=by
 by_cases hk:k < r.length
 ·rw [List.getD_eq_getElem?_getD,List.getElem?_eq_getElem hk];exact h _ (List.getElem_mem hk)
 ·rw [List.getD_eq_getElem?_getD,List.getElem?_eq_none (by omega)];decide
theorem QtU (a:Int) {r:List Int} (h:r16 r):0≤plA a r∧plA a r < 66000:=by
 have h7:=QmN h 7
 have h8:=QmN h 8
 have h3:=QmN h 3
 unfold plA
 repeat' split
 all_goals first
  |omega
  |(unfold QEi
     have:a=6∨a=7∨a=8∨a=9∨a=10∨a=11:=by omega
     rcases this with rfl |rfl |rfl |rfl |rfl |rfl<;>decide)
def QGR (x:StX):Prop:=(x.l.length≤4611686018427387904∧x.b.bc.length≤4611686018427387904)∧∃ L,MOk L x.b.v x.m.v
def QGS:QaV:=⟨StX,fun x=>[.agg (bdA x.b),.c (.ptr 0 0),.c (.ro QL x.l)],fun x=>[.var (mcA x.m),.arr Qp x.m.ds],QEr,
 fun ⟨⟨bn,un,ui,ur,uq,um,bc,bw⟩,⟨tm,r,op,at_,nmi,ds,bd,ba,bdt⟩,l⟩ =>
  (some (QGR ⟨⟨bn,un,ui,ur,uq,um,bc,bw⟩,⟨tm,r,op,at_,nmi,ds,bd,ba,bdt⟩,l⟩),.tup [],[some (.var [iv .i64 tm,.run .i64 9 r,iv .i64 op,iv .i64 at_,bv (QR bc tm l (ds,nmi)).2,.own 1,iv .i64 bd,iv .i64 ba,iv .i64 bdt]),
    some (.arr Qp (QR bc tm l (ds,nmi)).1)],[])⟩
theorem QA1 {tm:Int} {r:List Int} {op at_:Int} {n:Bool} {bd ba i:Int} {d:List Dv} {p:List Dv × Bool} (h:(d,n)=p):[some (Blk.var [iv .i64 tm,.run .i64 9 r,iv .i64 op,iv .i64 at_,bv n,.own 1,iv .i64 bd,iv .i64 ba,iv .i64 i]),some (.arr Qp d)]=[some (Blk.var [iv .i64 tm,.run .i64 9 r,iv .i64 op,iv .i64 at_,bv p.2,.own 1,iv .i64 bd,iv .i64 ba,iv .i64 i]),some (.arr Qp p.1)]:=by
 subst h;rfl
set_option maxHeartbeats 4000000 in
theorem QA2:Qi Tryz.prog 131 QGS.spec:=by
 have hP:Qe Tryz.prog _:=Qa QAU (Qa QCG (Qc (T:=tree)))
 have hT:=tabs hP Qf
 refine QGS.good (fn:=Tryz.f131) hT hP Tryz.func131 (by kernel_rfl) rfl (fun _ _ _ h=>QtR h) fun (x:StX) hq=>?_
 obtain ⟨⟨bn,un,ui,ur,uq,um,bc,bw⟩,⟨tm,r,op,at_,nmi,ds,bd,ba,bdt⟩,l⟩:=x
 obtain ⟨⟨hl,hbl⟩,L,hM⟩:QGR ⟨⟨bn,un,ui,ur,uq,um,bc,bw⟩,⟨tm,r,op,at_,nmi,ds,bd,ba,bdt⟩,l⟩:=hq _ rfl
 clear hq
 have hl:l.length≤4611686018427387904:=hl
 have hbl:bc.length≤4611686018427387904:=hbl
 have h2:bc.length=ds.length:=hM.l
 have h3:QqH L bc:=hM.c
 have h4:Qgy L ds:=hM.d
 have hL:=hM.L2
 clear hM
 repeat' first |(refine Go.mk ?_;conv=>whnf) |refine Ql.go ?_ ?_ |refine Qm.go (fun _=>?_) (fun _=>?_) |refine Br.dec (fun _=>?_) (fun _=>?_) |refine Br.go (fun _=>?_) (fun _=>?_) |refine Qd hT hP mixed ?_ |refine Qb hT hP ?_
 all_goals (try dsimp only [Qj] at *)
 refine QO hT hP (A:=List Dv × Bool) l.length (fun i s=>St.mk (E1 ((.cell (.ptr 0 0)) :: E1 ((.cell (.ptr 2 0)) :: E5 (E1 ((.cell (.ro QL l)) :: (I l.length) :: (I i) :: E40 (E10 (E3 [])))))))
  [some (.var [iv .i64 tm,.run .i64 9 r,iv .i64 op,iv .i64 at_,bv s.2,.own 1,iv .i64 bd,iv .i64 ba,iv .i64 bdt]),some (.arr Qp s.1),some (.var [.imm (.string bn),.imm (.string un),.ro Qaw ui,.ro QA ur,.ro QA uq,.ro QA um,.ro Qh bc,.ro Qx bw])])
  (fun k s=>s=QjJ bc tm l (ds,nmi) k) (ds,nmi) (Le.mk [] [0,1,2] R R ?_ ?_) rfl fun k s hk hi=>?_
 ·exact rfl
 ·repeat' first |exact trivial |exact ⟨rfl,rfl⟩ |refine And.intro ?_ ?_
 obtain ⟨d0,n0⟩:=s
 have hok:Qgy L d0∧d0.length=ds.length:=by
  have:=Qd5 (t:=tm) h3 (l.take k) (s:=(ds,nmi)) h4 h2
  have e:QR bc tm (l.take k) (ds,nmi)=(d0,n0):=hi.symm
  rw [e] at this;exact this
 have hst:k < l.length→QjJ bc tm l (ds,nmi) (k+1)=Qgc bc tm (d0,n0) (l.getD k (dflt QL)):=fun h=>by rw [Qit h (dflt QL),← hi]
 repeat' first |(refine Go.mk ?_;conv=>whnf) |refine Ql.go ?_ ?_ |refine Qm.go (fun _=>?_) (fun _=>?_) |refine Br.dec (fun _=>?_) (fun _=>?_) |refine Br.go (fun _=>?_) (fun _=>?_) |refine Qd hT hP mixed ?_ |refine Qb hT hP ?_
 all_goals (try dsimp only [Qj] at *)
 ·have g:(k:Int) < (l.length:Int):=by assumption
  show 0≤(k:Int)∧(k:Int) < (l.length:Int)
  omega
 ·rename_i g g1
  have g:(k:Int) < (l.length:Int):=g
  have g1:((l.getD k (dflt QL)).1 != tm)=true:=g1
  have g1:(l.getD k (dflt QL)).1≠tm:=by simpa using g1
  apply Exists.intro
  apply Exists.intro (d0,n0)
  refine And.intro (And.intro ?lt55 (And.intro ?ei55 ?inv55)) (Le.mk [] [0,1,2] R R ?hh55 ?ht55)
  case hh55=>exact rfl
  case ht55=>repeat' first |exact trivial |exact ⟨rfl,rfl⟩ |refine And.intro ?_ ?_
  case lt55=>omega
  case ei55=>exact QW (by omega)
  rw [hst (by omega)]
  unfold Qgc
  rw [if_pos g1]
 ·rename_i g g1 g2
  have g:(k:Int) < (l.length:Int):=g
  have g1:((l.getD k (dflt QL)).1 != tm)=false:=g1
  have g1:(l.getD k (dflt QL)).1=tm:=by simpa using g1
  have g2:Qs (l.getD k (dflt QL)).2.1 QaE=true:=g2
  apply Exists.intro
  apply Exists.intro (d0,true)
  refine And.intro (And.intro ?lt70 (And.intro ?ei70 ?inv70)) (Le.mk [] [0,1,2] R R ?hh70 ?ht70)
  case hh70=>exact rfl
  case ht70=>repeat' first |exact trivial |exact ⟨rfl,rfl⟩ |refine And.intro ?_ ?_
  case lt70=>omega
  case ei70=>exact QW (by omega)
  rw [hst (by omega)]
  unfold Qgc
  rw [if_neg (fun h=>h g1),if_pos g2]
 ·rename_i g g1 g2
  have g:(k:Int) < (l.length:Int):=g
  have g1:((l.getD k (dflt QL)).1 != tm)=false:=g1
  have g1:(l.getD k (dflt QL)).1=tm:=by simpa using g1
  have g2:Qs (l.getD k (dflt QL)).2.1 QaE=false:=g2
  have hst:=hst (by omega)
  unfold Qgc at hst
  rw [if_neg (fun h=>h g1),if_neg (by rw [g2];decide)] at hst
  have hkk:l.getD (k:Int).toNat (dflt QL)=l.getD k (dflt QL):=rfl
  rw [hkk]
  clear hkk g1 g2
  generalize l.getD k (dflt QL)=x at *
  obtain ⟨xa,xc,xn⟩:=x
  have hdl:bc.length=d0.length:=by rw [hok.2];exact h2
  refine QO hT hP (A:=List Dv) bc.length (fun j d=>St.mk (E1 ((.cell (.ptr 0 0)) :: E1 ((.cell (.ptr 2 0)) :: E3 ((.cell (.ptr 3 0)) :: E2 ((.cell (.ro QL l)) :: (I l.length) :: (I k) :: E20 (E2 ((.cell (.ro Qh bc)) :: (I bc.length) :: (I j) :: E20 (E5 (E3 [])))))))))
   [some (.var [iv .i64 tm,.run .i64 9 r,iv .i64 op,iv .i64 at_,bv n0,.own 1,iv .i64 bd,iv .i64 ba,iv .i64 bdt]),some (.arr Qp d),some (.var [.imm (.string bn),.imm (.string un),.ro Qaw ui,.ro QA ur,.ro QA uq,.ro QA um,.ro Qh bc,.ro Qx bw]),some (.var [iv .i64 xa,.imm (.string xc),iv .i64 xn])])
   (fun j d=>d=Qdr (Qfc (xa,xc,xn)) bc d0 j) d0 (Le.mk [] [0,1,2,3] R R ?_ ?_) (Qf4 _ _ _).symm fun j d hj hi2=>?_
  ·exact rfl
  ·repeat' first |exact trivial |exact ⟨rfl,rfl⟩ |refine And.intro ?_ ?_
  have hdl2:j≤bc.length→d.length=d0.length:=fun h=>by rw [hi2];exact QbP hdl h
  have hdg:j < bc.length→d.getD j (dflt Qp)=d0.getD j (dflt Qp):=fun h=>by rw [hi2];exact QbQ hdl h _
  have hds:j < bc.length→d.set j (Qfc (xa,xc,xn) (bc.getD j (dflt Qh)) (d0.getD j (dflt Qp)))=Qdr (Qfc (xa,xc,xn)) bc d0 (j+1):=fun h=>by rw [hi2];exact Qbl hdl h _ _
  repeat' first |(refine Go.mk ?_;conv=>whnf) |refine Ql.go ?_ ?_ |refine Qm.go (fun _=>?_) (fun _=>?_) |refine Br.dec (fun _=>?_) (fun _=>?_) |refine Br.go (fun _=>?_) (fun _=>?_) |refine Qd hT hP mixed ?_ |refine Qb hT hP ?_
  all_goals (try dsimp only [Qj] at *)
  ·have g2:(j:Int) < (bc.length:Int):=by assumption
   show 0≤(j:Int)∧(j:Int) < (bc.length:Int)
   omega
  ·have g2:(j:Int) < (bc.length:Int):=by assumption
   show 0≤(j:Int)∧(j:Int) < (d.length:Int)
   have:=hdl2 hj;omega
  ·have g2:(j:Int) < (bc.length:Int):=by assumption
   show j < d.length
   have:=hdl2 hj;omega
  ·have g2:(j:Int) < (bc.length:Int):=by assumption
   have e:=hdg (by omega)
   refine ⟨(h3 _ (QQ (dflt Qh) (show j < bc.length by omega))).1,?_⟩
   show dP (d.getD j (dflt Qp))
   rw [e]
   exact (hok.1.get j).dP hL
  ·have g2:(j:Int) < (bc.length:Int):=by assumption
   show 0≤(j:Int)∧(j:Int) < (d.length:Int)
   have:=hdl2 hj;omega
  ·have g2:(j:Int) < (bc.length:Int):=by assumption
   show j < d.length
   have:=hdl2 hj;omega
  ·rename_i g2 g3
   have g2:(j:Int) < (bc.length:Int):=g2
   have g3:Qs (bc.getD j (dflt Qh)).1 xc=true:=g3
   have e:Qfc (xa,xc,xn) (bc.getD j (dflt Qh)) (d0.getD j (dflt Qp))=QqD (bc.getD j (dflt Qh)) (d.getD j (dflt Qp)) xn:=by
    unfold Qfc
    rw [if_pos g3,hdg (by omega)]
   apply Exists.intro
   apply Exists.intro _
   refine And.intro (And.intro ?lt131 (And.intro ?ei131 ?inv131)) (Le.mk [] [0,1,2,3] R R ?hh131 ?ht131)
   case hh131=>exact rfl
   case ht131=>repeat' first |exact trivial |exact ⟨rfl,rfl⟩ |refine And.intro ?_ ?_
   case lt131=>omega
   case ei131=>exact QW (by omega)
   exact (congrArg (fun z=>d.set j z) e.symm).trans (hds (by omega))
  ·rename_i g2 g3
   have g2:(j:Int) < (bc.length:Int):=g2
   have g3:Qs (bc.getD j (dflt Qh)).1 xc=false:=g3
   have e:Qfc (xa,xc,xn) (bc.getD j (dflt Qh)) (d0.getD j (dflt Qp))=d0.getD j (dflt Qp):=by
    unfold Qfc
    rw [if_neg (by rw [g3];decide)]
   apply Exists.intro
   apply Exists.intro d
   refine And.intro (And.intro ?lt145 (And.intro ?ei145 ?inv145)) (Le.mk [] [0,1,2,3] R R ?hh145 ?ht145)
   case hh145=>exact rfl
   case ht145=>repeat' first |exact trivial |exact ⟨rfl,rfl⟩ |refine And.intro ?_ ?_
   case lt145=>omega
   case ei145=>exact QW (by omega)
   exact hi2.trans (QjI hdl (by omega) e)
  ·rename_i g2
   have g2:¬ (j:Int) < (bc.length:Int):=g2
   apply Exists.intro
   apply Exists.intro (d,n0)
   refine And.intro (And.intro ?lt155 (And.intro ?ei155 ?inv155)) (Le.mk [] [0,1,2] R R ?hh155 ?ht155)
   case hh155=>exact rfl
   case ht155=>repeat' first |exact trivial |exact ⟨rfl,rfl⟩ |refine And.intro ?_ ?_
   case lt155=>omega
   case ei155=>exact QW (by omega)
   rw [hst,hi2,Qbz hdl (by omega)]
 ·rename_i g
  have g:¬ (k:Int) < (l.length:Int):=g
  have e2:(d0,n0)=QR bc tm l (ds,nmi):=by rw [hi,Qlr (by omega)]
  exact .mk [] [0,1] _ R R R R R (QA1 e2) rfl
def QGT (b:BdX) (m:McX):Prop:=bP b.v m.ba∧b.bc.length=m.ds.length∧(∀ c ∈ b.bc,cP c)∧∀ d ∈ m.ds,dP d
def QGU:QaV:=⟨StX,fun x=>[.agg (bdA x.b),.c (.ptr 0 0)],fun x=>[.var (mcA x.m),.arr Qp x.m.ds],QF9,
 fun ⟨⟨bn,un,ui,ur,uq,um,bc,bw⟩,⟨tm,r,op,at_,nmi,ds,bd,ba,bdt⟩,_⟩ =>
  (some (QGT ⟨bn,un,ui,ur,uq,um,bc,bw⟩ ⟨tm,r,op,at_,nmi,ds,bd,ba,bdt⟩),.tup [],[some (.var [iv .i64 tm,.run .i64 9 r,iv .i64 op,iv .i64 at_,bv nmi,.own 1,iv .i64 bd,iv .i64 ba,iv .i64 (Qc0 (bn,(un,ui,ur,uq,um),bc,bw) ds (bd,ba,bdt))]),
    some (.arr Qp (Qbo (bn,(un,ui,ur,uq,um),bc,bw) ds (bd,ba,bdt)))],[])⟩
theorem Qhx {tm:Int} {r:List Int} {op at_:Int} {nmi:Bool} {bd ba i i':Int} {d d':List Dv} (h:i=i') (h2:d=d'):[some (Blk.var [iv .i64 tm,.run .i64 9 r,iv .i64 op,iv .i64 at_,bv nmi,.own 1,iv .i64 bd,iv .i64 ba,iv .i64 i]),some (.arr Qp d)]=[some (Blk.var [iv .i64 tm,.run .i64 9 r,iv .i64 op,iv .i64 at_,bv nmi,.own 1,iv .i64 bd,iv .i64 ba,iv .i64 i']),some (.arr Qp d')]:=by
 subst h h2;rfl
theorem QyG {b:Bd} {ds:List Dv} {x:Bsv} (h:0≤Qv b x.2.1) (h1:x.1=1):Qc0 b ds x=QfI (b.2.2.1.getD (Qv b x.2.1).toNat (dflt Qh)) (ds.getD (Qv b x.2.1).toNat (dflt Qp)) (atF b x.2.1):=by
 unfold Qc0;rw [if_pos h1,if_pos h]
theorem QyH {b:Bd} {ds:List Dv} {x:Bsv} (h:¬ 0≤Qv b x.2.1) (h1:x.1=1):Qc0 b ds x=255:=by
 unfold Qc0;rw [if_pos h1,if_neg h]
theorem Qiu {b:Bd} {ds:List Dv} {x:Bsv} (h1:¬ x.1=1):Qc0 b ds x=x.2.2:=by
 unfold Qc0;rw [if_neg h1]
theorem QyI {b:Bd} {ds:List Dv} {x:Bsv} (h:0≤Qv b x.2.1) (h1:x.1=1):Qbo b ds x=ds.set (Qv b x.2.1).toNat (Qe4 (b.2.2.1.getD (Qv b x.2.1).toNat (dflt Qh)) (ds.getD (Qv b x.2.1).toNat (dflt Qp)) (atF b x.2.1)):=by
 unfold Qbo;rw [if_pos h,if_pos h1]
theorem QyJ {b:Bd} {ds:List Dv} {x:Bsv} (h:0≤Qv b x.2.1) (h1:x.1=2):Qbo b ds x=ds.set (Qv b x.2.1).toNat (QbL (b.2.2.1.getD (Qv b x.2.1).toNat (dflt Qh)) (ds.getD (Qv b x.2.1).toNat (dflt Qp)) (atF b x.2.1) x.2.2):=by
 unfold Qbo;rw [if_pos h,if_neg (by omega),if_pos h1]
theorem QoY {b:Bd} {ds:List Dv} {x:Bsv} (h:¬ 0≤Qv b x.2.1):Qbo b ds x=ds:=by
 unfold Qbo;rw [if_neg h]
theorem QyK {b:Bd} {ds:List Dv} {x:Bsv} (h1:¬ x.1=1) (h2:¬ x.1=2):Qbo b ds x=ds:=by
 unfold Qbo
 rw [if_neg h1,if_neg h2,ite_self]
set_option maxHeartbeats 2000000 in
theorem QA3:Qi Tryz.prog 133 QGU.spec:=by
 have hP:Qe Tryz.prog _:=Qa Qhv (Qa Qom (Qa Qla (Qc (T:=tree))))
 have hT:=tabs hP Qf
 refine QGU.good (fn:=Tryz.f133) hT hP Tryz.func133 (by kernel_rfl) rfl (fun _ _ _ h=>QAY h) fun (x:StX) hq=>?_
 obtain ⟨⟨bn,un,ui,ur,uq,um,bc,bw⟩,⟨tm,r,op,at_,nmi,ds,bd,ba,bdt⟩,l⟩:=x
 obtain ⟨h1,h2,h3,h4⟩:QGT ⟨bn,un,ui,ur,uq,um,bc,bw⟩ ⟨tm,r,op,at_,nmi,ds,bd,ba,bdt⟩:=hq _ rfl
 clear hq
 have h1:bP (bn,(un,ui,ur,uq,um),bc,bw) ba:=h1
 have h2:bc.length=ds.length:=h2
 have h3:∀ c ∈ bc,cP c:=h3
 have h4:∀ d ∈ ds,dP d:=h4
 by_cases hF:0≤Qv (bn,(un,ui,ur,uq,um),bc,bw) ba
 ·obtain ⟨f2,f3⟩:=Qez (b:=(bn,(un,ui,ur,uq,um),bc,bw)) (a:=ba) hF
  have f2:Qv (bn,(un,ui,ur,uq,um),bc,bw) ba < (bc.length:Nat):=f2
  have hz:QAV (bn,(un,ui,ur,uq,um),bc,bw) ba=true:=decide_eq_true hF
  by_cases e1:bd=1
  ·subst e1
   repeat' first |(refine Go.mk ?_;conv=>whnf) |refine Ql.go ?_ ?_ |refine Qm.go (fun _=>?_) (fun _=>?_) |refine Br.dec (fun _=>?_) (fun _=>?_) |refine Br.go (fun _=>?_) (fun _=>?_) |refine Qd hT hP mixed ?_ |refine Qb hT hP ?_
   all_goals (try dsimp only [Qj] at *)
   all_goals clear hT hP
   all_goals first
    |exact h1
    |(exfalso;first |exact absurd hF (by assumption) |exact hF (by assumption) |(simp [hz] at *;done))
    |(show 0≤fI (bn,(un,ui,ur,uq,um),bc,bw) ba∧fI (bn,(un,ui,ur,uq,um),bc,bw) ba < (bc.length:Int);omega)
    |(show 0≤fI (bn,(un,ui,ur,uq,um),bc,bw) ba∧fI (bn,(un,ui,ur,uq,um),bc,bw) ba < (ds.length:Int);omega)
    |(show (fI (bn,(un,ui,ur,uq,um),bc,bw) ba).toNat < ds.length;omega)
    |exact ⟨h3 _ (QQ (dflt Qh) (show (fI (bn,(un,ui,ur,uq,um),bc,bw) ba).toNat < bc.length by omega)),h4 _ (QQ (dflt Qp) (show (fI (bn,(un,ui,ur,uq,um),bc,bw) ba).toNat < ds.length by omega))⟩
    |skip
   refine .mk [] [0,1] _ R R R R R (Qhx ?_ ?_) rfl
   ·rw [QyG (b:=(bn,(un,ui,ur,uq,um),bc,bw)) (x:=(1,ba,bdt)) hF rfl]
    show QfI (bc.getD (fI (bn,(un,ui,ur,uq,um),bc,bw) ba).toNat (dflt Qh)) (ds.getD (fI (bn,(un,ui,ur,uq,um),bc,bw) ba).toNat (dflt Qp)) (atF (bn,(un,ui,ur,uq,um),bc,bw) ba)=_
    rw [f3]
   ·rw [QyI (b:=(bn,(un,ui,ur,uq,um),bc,bw)) (x:=(1,ba,bdt)) hF rfl]
    show ds.set (fI (bn,(un,ui,ur,uq,um),bc,bw) ba).toNat (Qe4 (bc.getD (fI (bn,(un,ui,ur,uq,um),bc,bw) ba).toNat (dflt Qh)) (ds.getD (fI (bn,(un,ui,ur,uq,um),bc,bw) ba).toNat (dflt Qp)) (atF (bn,(un,ui,ur,uq,um),bc,bw) ba))=_
    rw [f3]
  by_cases e2:bd=2
  ·subst e2
   repeat' first |(refine Go.mk ?_;conv=>whnf) |refine Ql.go ?_ ?_ |refine Qm.go (fun _=>?_) (fun _=>?_) |refine Br.dec (fun _=>?_) (fun _=>?_) |refine Br.go (fun _=>?_) (fun _=>?_) |refine Qd hT hP mixed ?_ |refine Qb hT hP ?_
   all_goals (try dsimp only [Qj] at *)
   all_goals clear hT hP
   all_goals first
    |exact h1
    |(exfalso;first |exact absurd hF (by assumption) |exact hF (by assumption) |(simp [hz] at *;done))
    |(show 0≤fI (bn,(un,ui,ur,uq,um),bc,bw) ba∧fI (bn,(un,ui,ur,uq,um),bc,bw) ba < (bc.length:Int);omega)
    |(show 0≤fI (bn,(un,ui,ur,uq,um),bc,bw) ba∧fI (bn,(un,ui,ur,uq,um),bc,bw) ba < (ds.length:Int);omega)
    |(show (fI (bn,(un,ui,ur,uq,um),bc,bw) ba).toNat < ds.length;omega)
    |exact ⟨h3 _ (QQ (dflt Qh) (show (fI (bn,(un,ui,ur,uq,um),bc,bw) ba).toNat < bc.length by omega)),h4 _ (QQ (dflt Qp) (show (fI (bn,(un,ui,ur,uq,um),bc,bw) ba).toNat < ds.length by omega))⟩
    |skip
   refine .mk [] [0,1] _ R R R R R (Qhx ?_ ?_) rfl
   ·exact (Qiu (b:=(bn,(un,ui,ur,uq,um),bc,bw)) (ds:=ds) (x:=(2,ba,bdt)) (show ¬ (2:Int)=1 by decide)).symm
   ·rw [QyJ (b:=(bn,(un,ui,ur,uq,um),bc,bw)) (x:=(2,ba,bdt)) hF rfl]
    show ds.set (fI (bn,(un,ui,ur,uq,um),bc,bw) ba).toNat (QbL (bc.getD (fI (bn,(un,ui,ur,uq,um),bc,bw) ba).toNat (dflt Qh)) (ds.getD (fI (bn,(un,ui,ur,uq,um),bc,bw) ba).toNat (dflt Qp)) (atF (bn,(un,ui,ur,uq,um),bc,bw) ba) bdt)=_
    rw [f3]
  ·repeat' first |(refine Go.mk ?_;conv=>whnf) |refine Ql.go ?_ ?_ |refine Qm.go (fun _=>?_) (fun _=>?_) |refine Br.dec (fun _=>?_) (fun _=>?_) |refine Br.go (fun _=>?_) (fun _=>?_) |refine Qd hT hP mixed ?_ |refine Qb hT hP ?_
   all_goals (try dsimp only [Qj] at *)
   all_goals clear hT hP
   all_goals first
    |exact h1
    |(exfalso;exact e1 (by assumption))
    |(exfalso;exact e2 (by assumption))
    |exact .mk [] [0,1] _ R R R R R (Qhx (Qiu (b:=(bn,(un,ui,ur,uq,um),bc,bw)) (ds:=ds) (x:=(bd,ba,bdt)) e1).symm (QyK (b:=(bn,(un,ui,ur,uq,um),bc,bw)) (ds:=ds) (x:=(bd,ba,bdt)) e1 e2).symm) rfl
    |skip
 ·have hz:QAV (bn,(un,ui,ur,uq,um),bc,bw) ba=false:=decide_eq_false hF
  by_cases e1:bd=1
  ·subst e1
   repeat' first |(refine Go.mk ?_;conv=>whnf) |refine Ql.go ?_ ?_ |refine Qm.go (fun _=>?_) (fun _=>?_) |refine Br.dec (fun _=>?_) (fun _=>?_) |refine Br.go (fun _=>?_) (fun _=>?_) |refine Qd hT hP mixed ?_ |refine Qb hT hP ?_
   all_goals (try dsimp only [Qj] at *)
   all_goals clear hT hP
   all_goals first
    |exact h1
    |(exfalso;first |exact absurd hF (by assumption) |exact hF (by assumption) |(simp [hz] at *;done))
    |exact .mk [] [0,1] _ R R R R R (Qhx (QyH (b:=(bn,(un,ui,ur,uq,um),bc,bw)) (ds:=ds) (x:=(1,ba,bdt)) hF rfl).symm (QoY (b:=(bn,(un,ui,ur,uq,um),bc,bw)) (ds:=ds) (x:=(1,ba,bdt)) hF).symm) rfl
    |skip
  ·repeat' first |(refine Go.mk ?_;conv=>whnf) |refine Ql.go ?_ ?_ |refine Qm.go (fun _=>?_) (fun _=>?_) |refine Br.dec (fun _=>?_) (fun _=>?_) |refine Br.go (fun _=>?_) (fun _=>?_) |refine Qd hT hP mixed ?_ |refine Qb hT hP ?_
   all_goals (try dsimp only [Qj] at *)
   all_goals clear hT hP
   all_goals first
    |exact h1
    |(exfalso;exact e1 (by assumption))
    |exact .mk [] [0,1] _ R R R R R (Qhx (Qiu (b:=(bn,(un,ui,ur,uq,um),bc,bw)) (ds:=ds) (x:=(bd,ba,bdt)) e1).symm (QoY (b:=(bn,(un,ui,ur,uq,um),bc,bw)) (ds:=ds) (x:=(bd,ba,bdt)) hF).symm) rfl
    |(exfalso;first |exact absurd hF (by assumption) |exact hF (by assumption) |(simp [hz] at *;done))
    |skip
def Q6 {α:Type} (f:α→Int):List α→Int
 | []=>0
 |x :: r=>if f x=0 then Q6 f r else f x
theorem QaM {α:Type} {f:α→Int} {l:List α} {k:Nat} (d:α) (h:k < l.length) (h0:f (l.getD k d)=0):Q6 f (l.drop k)=Q6 f (l.drop (k+1)):=by
 rw [List.drop_eq_getElem_cons h]
 rw [List.getD_eq_getElem?_getD,List.getElem?_eq_getElem h] at h0
 exact if_pos h0
theorem QaA {α:Type} {f:α→Int} {l:List α} {k:Nat} (d:α) (h:k < l.length) (h0:f (l.getD k d)≠0):Q6 f (l.drop k)=f (l.getD k d):=by
 rw [List.getD_eq_getElem?_getD,List.getElem?_eq_getElem h] at h0 ⊢
 rw [List.drop_eq_getElem_cons h]
 exact if_neg h0
def Qhy (c:Cyc):Int:=if c.1 < 0∨c.1 > 2 then 8 else if c.1=0∧(c.2.1≠0∨c.2.2.1≠0) then 3 else if c.2.1 < 0∨c.2.1 > 11∨¬ (0≤c.2.2.1∧c.2.2.1≤6) then 1 else if c.2.2.2.length > 6 then 2 else 0
def Qcw (c:Cyc):Int:=if Qhy c=0 then Q6 Q1 c.2.2.2 else Qhy c
def QE (l:List Cyc):Int:=if l.length > 8 then 2 else Q6 Qcw l
theorem QbE {c:Cyc} (h:Qhy c=0):c.2.2.2.length≤6:=by
 unfold Qhy at h
 repeat' split at h
 all_goals first
  |omega
  |cases h
abbrev QGc:Sig:=⟨true,QA⟩
def Qt7:Qk:=⟨[QGc],fun (c,_)=>(none,I (Qcw c),[])⟩
set_option maxHeartbeats 2000000 in
theorem Qt8:Qi Tryz.prog 239 Qt7.spec:=by
 have hP:Qe Tryz.prog _:=Qa QmO (Qa Qe5 (Qa Qxa (Qc (T:=tree))))
 have hT:=tabs hP Qf
 refine Qt7.good (fn:=Tryz.f239) hT hP Tryz.func239 (by kernel_rfl) rfl fun (c:Cyc) _=>?_
 obtain ⟨cb,ca,cr,cs⟩:=c
 repeat' first |(refine Go.mk ?_;conv=>whnf) |refine Ql.go ?_ ?_ |refine Qm.go (fun _=>?_) (fun _=>?_) |refine Br.dec (fun _=>?_) (fun _=>?_) |refine Br.go (fun _=>?_) (fun _=>?_) |refine Qd hT hP mixed ?_ |refine Qb hT hP ?_
 all_goals (try dsimp only [Qj] at *)
 all_goals first
  |(refine .mk [] [] _ R R R R R R (Qg ?_)
     clear hT hP
     show _=Qcw (cb,ca,cr,cs)
     simp [Qcw,Qhy,Qee] at *
     first
      |omega
      |(simp_all;done)
      |(simp_all;omega))
  |skip
 all_goals
  have hE:Qhy (cb,ca,cr,cs)=0:=by
   clear hT hP
   simp [Qhy,Qee] at *
   first
    |omega
    |(simp_all;done)
    |(simp_all;omega)
 ·have hn:cs.length≤6:=QbE hE
  have hC:Qcw (cb,ca,cr,cs)=Q6 Q1 cs:=if_pos hE
  refine QO hT hP (A:=Unit) cs.length (fun i _=>St.mk (E40 (E10 (E5 ((.cell (.ro QC cs)) :: (I cs.length) :: (I i) :: E5 (E3 (E1 [])))))) [])
   (fun k _=>Q6 Q1 (cs.drop k)=Q6 Q1 cs) () (Le.mk [] [] R R R ?_) rfl fun k _ hk hi=>?_
  ·repeat' first |exact trivial |exact ⟨rfl,rfl⟩ |refine And.intro ?_ ?_
  repeat' first |(refine Go.mk ?_;conv=>whnf) |refine Ql.go ?_ ?_ |refine Qm.go (fun _=>?_) (fun _=>?_) |refine Br.dec (fun _=>?_) (fun _=>?_) |refine Br.go (fun _=>?_) (fun _=>?_) |refine Qd hT hP mixed ?_ |refine Qb hT hP ?_
  all_goals clear hT hP
  ·rename_i g
   have g:(k:Int) < (cs.length:Int):=g
   show 0≤(k:Int)∧(k:Int) < (cs.length:Int)
   omega
  ·rename_i g g2
   have g:(k:Int) < (cs.length:Int):=g
   have g2:(Q1 (cs.getD k (dflt QC)) != 0)=true:=g2
   refine .mk [] [] _ R R R R R R (Qg ?_)
   show Q1 (cs.getD k (dflt QC))=Qcw (cb,ca,cr,cs)
   rw [hC,← hi,QaA (dflt QC) (by omega) (by simpa using g2)]
  ·rename_i g g2
   have g:(k:Int) < (cs.length:Int):=g
   have g2:(Q1 (cs.getD k (dflt QC)) != 0)=false:=g2
   apply Exists.intro
   apply Exists.intro ()
   refine And.intro (And.intro ?lt79 (And.intro ?ei79 ?inv79)) (Le.mk [] [] R R ?hh79 ?ht79)
   case hh79=>exact rfl
   case ht79=>repeat' first |exact trivial |exact ⟨rfl,rfl⟩ |refine And.intro ?_ ?_
   case lt79=>omega
   case ei79=>exact QW (by omega)
   exact (QaM (dflt QC) (by omega) (by simpa using g2)).symm.trans hi
  ·rename_i g
   have g:¬ (k:Int) < (cs.length:Int):=g
   refine .mk [] [] _ R R R R R R (Qg ?_)
   show 0=Qcw (cb,ca,cr,cs)
   rw [hC,← hi,List.drop_of_length_le (by omega)];rfl
 ·have hn:cs.length≤6:=QbE hE
  have hC:Qcw (cb,ca,cr,cs)=Q6 Q1 cs:=if_pos hE
  refine QO hT hP (A:=Unit) cs.length (fun i _=>St.mk (E40 (E10 (E5 ((.cell (.ro QC cs)) :: (I cs.length) :: (I i) :: E5 (E3 (E1 [])))))) [])
   (fun k _=>Q6 Q1 (cs.drop k)=Q6 Q1 cs) () (Le.mk [] [] R R R ?_) rfl fun k _ hk hi=>?_
  ·repeat' first |exact trivial |exact ⟨rfl,rfl⟩ |refine And.intro ?_ ?_
  repeat' first |(refine Go.mk ?_;conv=>whnf) |refine Ql.go ?_ ?_ |refine Qm.go (fun _=>?_) (fun _=>?_) |refine Br.dec (fun _=>?_) (fun _=>?_) |refine Br.go (fun _=>?_) (fun _=>?_) |refine Qd hT hP mixed ?_ |refine Qb hT hP ?_
  all_goals clear hT hP
  ·rename_i g
   have g:(k:Int) < (cs.length:Int):=g
   show 0≤(k:Int)∧(k:Int) < (cs.length:Int)
   omega
  ·rename_i g g2
   have g:(k:Int) < (cs.length:Int):=g
   have g2:(Q1 (cs.getD k (dflt QC)) != 0)=true:=g2
   refine .mk [] [] _ R R R R R R (Qg ?_)
   show Q1 (cs.getD k (dflt QC))=Qcw (cb,ca,cr,cs)
   rw [hC,← hi,QaA (dflt QC) (by omega) (by simpa using g2)]
  ·rename_i g g2
   have g:(k:Int) < (cs.length:Int):=g
   have g2:(Q1 (cs.getD k (dflt QC)) != 0)=false:=g2
   apply Exists.intro
   apply Exists.intro ()
   refine And.intro (And.intro ?lt112 (And.intro ?ei112 ?inv112)) (Le.mk [] [] R R ?hh112 ?ht112)
   case hh112=>exact rfl
   case ht112=>repeat' first |exact trivial |exact ⟨rfl,rfl⟩ |refine And.intro ?_ ?_
   case lt112=>omega
   case ei112=>exact QW (by omega)
   exact (QaM (dflt QC) (by omega) (by simpa using g2)).symm.trans hi
  ·rename_i g
   have g:¬ (k:Int) < (cs.length:Int):=g
   refine .mk [] [] _ R R R R R R (Qg ?_)
   show 0=Qcw (cb,ca,cr,cs)
   rw [hC,← hi,List.drop_of_length_le (by omega)];rfl
def Qgz:Qk:=⟨[⟨false,.sl QA⟩],fun (l,_)=>(none,I (QE l),[])⟩
theorem Qqq:Qi Tryz.prog 189 Qgz.spec:=by
 have hP:Qe Tryz.prog _:=Qa Qt8 (Qc (T:=tree))
 have hT:=tabs hP Qf
 refine Qgz.good (fn:=Tryz.f189) hT hP Tryz.func189 (by kernel_rfl) rfl fun (l:List Cyc) _=>?_
 repeat' first |(refine Go.mk ?_;conv=>whnf) |refine Ql.go ?_ ?_ |refine Qm.go (fun _=>?_) (fun _=>?_) |refine Br.dec (fun _=>?_) (fun _=>?_) |refine Br.go (fun _=>?_) (fun _=>?_) |refine Qd hT hP mixed ?_ |refine Qb hT hP ?_
 ·rename_i g
  have g:(l.length:Int) > 8:=g
  refine .mk [] [] _ R R R R R R (Qg ?_)
  exact (if_pos (by omega):QE l=2).symm
 rename_i g0
 have g0:¬ (l.length:Int) > 8:=g0
 have hC:QE l=Q6 Qcw l:=if_neg (by omega)
 refine QO hT hP (A:=Unit) l.length (fun i _=>St.mk (E5 (E3 (E1 ((.cell (.ro QA l)) :: (I l.length) :: (I i) :: E5 (E3 (E1 [])))))) [])
  (fun k _=>Q6 Qcw (l.drop k)=Q6 Qcw l) () (Le.mk [] [] R R R ?_) rfl fun k _ hk hi=>?_
 ·repeat' first |exact trivial |exact ⟨rfl,rfl⟩ |refine And.intro ?_ ?_
 repeat' first |(refine Go.mk ?_;conv=>whnf) |refine Ql.go ?_ ?_ |refine Qm.go (fun _=>?_) (fun _=>?_) |refine Br.dec (fun _=>?_) (fun _=>?_) |refine Br.go (fun _=>?_) (fun _=>?_) |refine Qd hT hP mixed ?_ |refine Qb hT hP ?_
 all_goals clear hT hP
 ·rename_i g
  have g:(k:Int) < (l.length:Int):=g
  show 0≤(k:Int)∧(k:Int) < (l.length:Int)
  omega
 ·rename_i g g2
  have g:(k:Int) < (l.length:Int):=g
  have g2:(Qcw (l.getD k (dflt QA)) != 0)=true:=g2
  refine .mk [] [] _ R R R R R R (Qg ?_)
  show Qcw (l.getD k (dflt QA))=QE l
  rw [hC,← hi,QaA (dflt QA) (by omega) (by simpa using g2)]
 ·rename_i g g2
  have g:(k:Int) < (l.length:Int):=g
  have g2:(Qcw (l.getD k (dflt QA)) != 0)=false:=g2
  apply Exists.intro
  apply Exists.intro ()
  refine And.intro (And.intro ?lt157 (And.intro ?ei157 ?inv157)) (Le.mk [] [] R R ?hh157 ?ht157)
  case hh157=>exact rfl
  case ht157=>repeat' first |exact trivial |exact ⟨rfl,rfl⟩ |refine And.intro ?_ ?_
  case lt157=>omega
  case ei157=>exact QW (by omega)
  exact (QaM (dflt QA) (by omega) (by simpa using g2)).symm.trans hi
 ·rename_i g
  have g:¬ (k:Int) < (l.length:Int):=g
  refine .mk [] [] _ R R R R R R (Qg ?_)
  show 0=QE l
  rw [hC,← hi,List.drop_of_length_le (by omega)];rfl
set_option maxHeartbeats 2000000 in
theorem Qqr:Qi Tryz.prog 117 Qgz.spec:=by
 have hP:Qe Tryz.prog _:=Qa Qu (Qa Qxb (Qc (T:=tree)))
 have hT:=tabs hP Qf
 refine Qgz.good (fn:=Tryz.f117) hT hP Tryz.func117 (by kernel_rfl) rfl fun (l:List Cyc) _=>?_
 repeat' first |(refine Go.mk ?_;conv=>whnf) |refine Ql.go ?_ ?_ |refine Qm.go (fun _=>?_) (fun _=>?_) |refine Br.dec (fun _=>?_) (fun _=>?_) |refine Br.go (fun _=>?_) (fun _=>?_) |refine Qd hT hP mixed ?_ |refine Qb hT hP ?_
 ·rename_i g
  have g:(l.length:Int) > 8:=g
  refine .mk [] [] _ R R R R R R (Qg ?_)
  exact (if_pos (by omega):QE l=2).symm
 rename_i g0
 have g0:¬ (l.length:Int) > 8:=g0
 have hC:QE l=Q6 Qcw l:=if_neg (by omega)
 refine QO hT hP (A:=Unit) l.length (fun i _=>St.mk (E10 (E1 ((.cell (.ro QA l)) :: (I l.length) :: (I i) :: E40 (E20 (E5 []))))) [])
  (fun k _=>Q6 Qcw (l.drop k)=Q6 Qcw l) () (Le.mk [] [] R R R ?_) rfl fun k _ hk hi=>?_
 ·repeat' first |exact trivial |exact ⟨rfl,rfl⟩ |refine And.intro ?_ ?_
 have hH:∀ c:Cyc,l.getD k (dflt QA)=c→Qcw c≠0→k < l.length→Qcw c=QE l:=fun c e h hk=>by
  rw [hC,← hi,QaA (dflt QA) hk (by rw [e];exact h),e]
 have hN:∀ c:Cyc,l.getD k (dflt QA)=c→Qcw c=0→k < l.length→Q6 Qcw (l.drop (k+1))=Q6 Qcw l:=fun c e h hk=>by
  rw [← hi,QaM (dflt QA) hk (by rw [e];exact h)]
 repeat' first |(refine Go.mk ?_;conv=>whnf) |refine Ql.go ?_ ?_ |refine Qm.go (fun _=>?_) (fun _=>?_) |refine Br.dec (fun _=>?_) (fun _=>?_) |refine Br.go (fun _=>?_) (fun _=>?_) |refine Qd hT hP mixed ?_ |refine Qb hT hP ?_
 all_goals (try dsimp only [Qj] at *)
 all_goals (generalize hc:l.getD (k:Int).toNat (dflt QA)=c at *;obtain ⟨cb,ca,cr,cs⟩:=c)
 ·show 0≤(k:Int)∧(k:Int) < (l.length:Int)
  omega
 all_goals first
  |(have hD:∀ n:Int,n≠0→Qhy (cb,ca,cr,cs)=n→k < l.length→n=QE l:=fun n hn e hk=>by
      have e2:Qcw (cb,ca,cr,cs)=n:=by
       unfold Qcw;rw [if_neg (by rw [e];exact hn)];exact e
      rw [← e2];exact hH _ hc (by rw [e2];exact hn) hk
     refine .mk [] [] _ R R R R R R (Qg (hD _ (by decide) ?_ (by omega)))
     clear hT hP hH hN hD
     simp [Qhy,QU] at *
     first
      |omega
      |(simp_all;done)
      |(simp_all;omega)
      |skip)
  |(have hE:Qhy (cb,ca,cr,cs)=0:=by
      clear hT hP hH hN
      simp [Qhy,QU] at *
      first
       |omega
       |(simp_all;done)
       |(simp_all;omega)
      done)
  |skip
 ·have hn:cs.length≤6:=QbE hE
  have hD:Qcw (cb,ca,cr,cs)=Q6 Q1 cs:=if_pos hE
  have hk2:k < l.length:=by omega
  refine QO hT hP (A:=Unit) cs.length (fun i _=>St.mk (E10 (E1 ((.cell (.ro QA l)) :: (I l.length) :: (I k) :: E40 (E10 (E2 ((.cell (.ro QC cs)) :: (I cs.length) :: (I i) :: E10 [])))))) [])
   (fun j _=>Q6 Q1 (cs.drop j)=Q6 Q1 cs) () (Le.mk [] [] R R R ?_) rfl fun j _ hj hi2=>?_
  ·repeat' first |exact trivial |exact ⟨rfl,rfl⟩ |refine And.intro ?_ ?_
  repeat' first |(refine Go.mk ?_;conv=>whnf) |refine Ql.go ?_ ?_ |refine Qm.go (fun _=>?_) (fun _=>?_) |refine Br.dec (fun _=>?_) (fun _=>?_) |refine Br.go (fun _=>?_) (fun _=>?_) |refine Qd hT hP mixed ?_ |refine Qb hT hP ?_
  all_goals clear hT hP
  ·rename_i g
   have g:(j:Int) < (cs.length:Int):=g
   show 0≤(j:Int)∧(j:Int) < (cs.length:Int)
   omega
  ·rename_i g g2
   have g:(j:Int) < (cs.length:Int):=g
   have g2:(Q1 (cs.getD j (dflt QC)) != 0)=true:=g2
   have g3:Q1 (cs.getD j (dflt QC))≠0:=by simpa using g2
   have e:Q1 (cs.getD j (dflt QC))=Qcw (cb,ca,cr,cs):=by
    rw [hD,← hi2,QaA (dflt QC) (by omega) g3]
   refine .mk [] [] _ R R R R R R (Qg ?_)
   show Q1 (cs.getD j (dflt QC))=QE l
   rw [e];exact hH _ hc (by rw [← e];exact g3) hk2
  ·rename_i g g2
   have g:(j:Int) < (cs.length:Int):=g
   have g2:(Q1 (cs.getD j (dflt QC)) != 0)=false:=g2
   apply Exists.intro
   apply Exists.intro ()
   refine And.intro (And.intro ?lt80 (And.intro ?ei80 ?inv80)) (Le.mk [] [] R R ?hh80 ?ht80)
   case hh80=>exact rfl
   case ht80=>repeat' first |exact trivial |exact ⟨rfl,rfl⟩ |refine And.intro ?_ ?_
   case lt80=>omega
   case ei80=>exact QW (by omega)
   exact (QaM (dflt QC) (by omega) (by simpa using g2)).symm.trans hi2
  ·rename_i g
   have g:¬ (j:Int) < (cs.length:Int):=g
   have e:Qcw (cb,ca,cr,cs)=0:=by
    rw [hD,← hi2,List.drop_of_length_le (by omega)];rfl
   apply Exists.intro
   apply Exists.intro ()
   refine And.intro (And.intro ?lt92 (And.intro ?ei92 ?inv92)) (Le.mk [] [] R R ?hh92 ?ht92)
   case hh92=>exact rfl
   case ht92=>repeat' first |exact trivial |exact ⟨rfl,rfl⟩ |refine And.intro ?_ ?_
   case lt92=>omega
   case ei92=>exact QW (by omega)
   exact hN _ hc e hk2
 ·have hn:cs.length≤6:=QbE hE
  have hD:Qcw (cb,ca,cr,cs)=Q6 Q1 cs:=if_pos hE
  have hk2:k < l.length:=by omega
  refine QO hT hP (A:=Unit) cs.length (fun i _=>St.mk (E10 (E1 ((.cell (.ro QA l)) :: (I l.length) :: (I k) :: E40 (E10 (E2 ((.cell (.ro QC cs)) :: (I cs.length) :: (I i) :: E10 [])))))) [])
   (fun j _=>Q6 Q1 (cs.drop j)=Q6 Q1 cs) () (Le.mk [] [] R R R ?_) rfl fun j _ hj hi2=>?_
  ·repeat' first |exact trivial |exact ⟨rfl,rfl⟩ |refine And.intro ?_ ?_
  repeat' first |(refine Go.mk ?_;conv=>whnf) |refine Ql.go ?_ ?_ |refine Qm.go (fun _=>?_) (fun _=>?_) |refine Br.dec (fun _=>?_) (fun _=>?_) |refine Br.go (fun _=>?_) (fun _=>?_) |refine Qd hT hP mixed ?_ |refine Qb hT hP ?_
  all_goals clear hT hP
  ·rename_i g
   have g:(j:Int) < (cs.length:Int):=g
   show 0≤(j:Int)∧(j:Int) < (cs.length:Int)
   omega
  ·rename_i g g2
   have g:(j:Int) < (cs.length:Int):=g
   have g2:(Q1 (cs.getD j (dflt QC)) != 0)=true:=g2
   have g3:Q1 (cs.getD j (dflt QC))≠0:=by simpa using g2
   have e:Q1 (cs.getD j (dflt QC))=Qcw (cb,ca,cr,cs):=by
    rw [hD,← hi2,QaA (dflt QC) (by omega) g3]
   refine .mk [] [] _ R R R R R R (Qg ?_)
   show Q1 (cs.getD j (dflt QC))=QE l
   rw [e];exact hH _ hc (by rw [← e];exact g3) hk2
  ·rename_i g g2
   have g:(j:Int) < (cs.length:Int):=g
   have g2:(Q1 (cs.getD j (dflt QC)) != 0)=false:=g2
   apply Exists.intro
   apply Exists.intro ()
   refine And.intro (And.intro ?lt124 (And.intro ?ei124 ?inv124)) (Le.mk [] [] R R ?hh124 ?ht124)
   case hh124=>exact rfl
   case ht124=>repeat' first |exact trivial |exact ⟨rfl,rfl⟩ |refine And.intro ?_ ?_
   case lt124=>omega
   case ei124=>exact QW (by omega)
   exact (QaM (dflt QC) (by omega) (by simpa using g2)).symm.trans hi2
  ·rename_i g
   have g:¬ (j:Int) < (cs.length:Int):=g
   have e:Qcw (cb,ca,cr,cs)=0:=by
    rw [hD,← hi2,List.drop_of_length_le (by omega)];rfl
   apply Exists.intro
   apply Exists.intro ()
   refine And.intro (And.intro ?lt136 (And.intro ?ei136 ?inv136)) (Le.mk [] [] R R ?hh136 ?ht136)
   case hh136=>exact rfl
   case ht136=>repeat' first |exact trivial |exact ⟨rfl,rfl⟩ |refine And.intro ?_ ?_
   case lt136=>omega
   case ei136=>exact QW (by omega)
   exact hN _ hc e hk2
 ·have hn:cs.length≤6:=QbE hE
  have hD:Qcw (cb,ca,cr,cs)=Q6 Q1 cs:=if_pos hE
  have hk2:k < l.length:=by omega
  refine QO hT hP (A:=Unit) cs.length (fun i _=>St.mk (E10 (E1 ((.cell (.ro QA l)) :: (I l.length) :: (I k) :: E40 (E10 (E2 ((.cell (.ro QC cs)) :: (I cs.length) :: (I i) :: E10 [])))))) [])
   (fun j _=>Q6 Q1 (cs.drop j)=Q6 Q1 cs) () (Le.mk [] [] R R R ?_) rfl fun j _ hj hi2=>?_
  ·repeat' first |exact trivial |exact ⟨rfl,rfl⟩ |refine And.intro ?_ ?_
  repeat' first |(refine Go.mk ?_;conv=>whnf) |refine Ql.go ?_ ?_ |refine Qm.go (fun _=>?_) (fun _=>?_) |refine Br.dec (fun _=>?_) (fun _=>?_) |refine Br.go (fun _=>?_) (fun _=>?_) |refine Qd hT hP mixed ?_ |refine Qb hT hP ?_
  all_goals clear hT hP
  ·rename_i g
   have g:(j:Int) < (cs.length:Int):=g
   show 0≤(j:Int)∧(j:Int) < (cs.length:Int)
   omega
  ·rename_i g g2
   have g:(j:Int) < (cs.length:Int):=g
   have g2:(Q1 (cs.getD j (dflt QC)) != 0)=true:=g2
   have g3:Q1 (cs.getD j (dflt QC))≠0:=by simpa using g2
   have e:Q1 (cs.getD j (dflt QC))=Qcw (cb,ca,cr,cs):=by
    rw [hD,← hi2,QaA (dflt QC) (by omega) g3]
   refine .mk [] [] _ R R R R R R (Qg ?_)
   show Q1 (cs.getD j (dflt QC))=QE l
   rw [e];exact hH _ hc (by rw [← e];exact g3) hk2
  ·rename_i g g2
   have g:(j:Int) < (cs.length:Int):=g
   have g2:(Q1 (cs.getD j (dflt QC)) != 0)=false:=g2
   apply Exists.intro
   apply Exists.intro ()
   refine And.intro (And.intro ?lt168 (And.intro ?ei168 ?inv168)) (Le.mk [] [] R R ?hh168 ?ht168)
   case hh168=>exact rfl
   case ht168=>repeat' first |exact trivial |exact ⟨rfl,rfl⟩ |refine And.intro ?_ ?_
   case lt168=>omega
   case ei168=>exact QW (by omega)
   exact (QaM (dflt QC) (by omega) (by simpa using g2)).symm.trans hi2
  ·rename_i g
   have g:¬ (j:Int) < (cs.length:Int):=g
   have e:Qcw (cb,ca,cr,cs)=0:=by
    rw [hD,← hi2,List.drop_of_length_le (by omega)];rfl
   apply Exists.intro
   apply Exists.intro ()
   refine And.intro (And.intro ?lt180 (And.intro ?ei180 ?inv180)) (Le.mk [] [] R R ?hh180 ?ht180)
   case hh180=>exact rfl
   case ht180=>repeat' first |exact trivial |exact ⟨rfl,rfl⟩ |refine And.intro ?_ ?_
   case lt180=>omega
   case ei180=>exact QW (by omega)
   exact hN _ hc e hk2
 ·have hn:cs.length≤6:=QbE hE
  have hD:Qcw (cb,ca,cr,cs)=Q6 Q1 cs:=if_pos hE
  have hk2:k < l.length:=by omega
  refine QO hT hP (A:=Unit) cs.length (fun i _=>St.mk (E10 (E1 ((.cell (.ro QA l)) :: (I l.length) :: (I k) :: E40 (E10 (E2 ((.cell (.ro QC cs)) :: (I cs.length) :: (I i) :: E10 [])))))) [])
   (fun j _=>Q6 Q1 (cs.drop j)=Q6 Q1 cs) () (Le.mk [] [] R R R ?_) rfl fun j _ hj hi2=>?_
  ·repeat' first |exact trivial |exact ⟨rfl,rfl⟩ |refine And.intro ?_ ?_
  repeat' first |(refine Go.mk ?_;conv=>whnf) |refine Ql.go ?_ ?_ |refine Qm.go (fun _=>?_) (fun _=>?_) |refine Br.dec (fun _=>?_) (fun _=>?_) |refine Br.go (fun _=>?_) (fun _=>?_) |refine Qd hT hP mixed ?_ |refine Qb hT hP ?_
  all_goals clear hT hP
  ·rename_i g
   have g:(j:Int) < (cs.length:Int):=g
   show 0≤(j:Int)∧(j:Int) < (cs.length:Int)
   omega
  ·rename_i g g2
   have g:(j:Int) < (cs.length:Int):=g
   have g2:(Q1 (cs.getD j (dflt QC)) != 0)=true:=g2
   have g3:Q1 (cs.getD j (dflt QC))≠0:=by simpa using g2
   have e:Q1 (cs.getD j (dflt QC))=Qcw (cb,ca,cr,cs):=by
    rw [hD,← hi2,QaA (dflt QC) (by omega) g3]
   refine .mk [] [] _ R R R R R R (Qg ?_)
   show Q1 (cs.getD j (dflt QC))=QE l
   rw [e];exact hH _ hc (by rw [← e];exact g3) hk2
  ·rename_i g g2
   have g:(j:Int) < (cs.length:Int):=g
   have g2:(Q1 (cs.getD j (dflt QC)) != 0)=false:=g2
   apply Exists.intro
   apply Exists.intro ()
   refine And.intro (And.intro ?lt212 (And.intro ?ei212 ?inv212)) (Le.mk [] [] R R ?hh212 ?ht212)
   case hh212=>exact rfl
   case ht212=>repeat' first |exact trivial |exact ⟨rfl,rfl⟩ |refine And.intro ?_ ?_
   case lt212=>omega
   case ei212=>exact QW (by omega)
   exact (QaM (dflt QC) (by omega) (by simpa using g2)).symm.trans hi2
  ·rename_i g
   have g:¬ (j:Int) < (cs.length:Int):=g
   have e:Qcw (cb,ca,cr,cs)=0:=by
    rw [hD,← hi2,List.drop_of_length_le (by omega)];rfl
   apply Exists.intro
   apply Exists.intro ()
   refine And.intro (And.intro ?lt224 (And.intro ?ei224 ?inv224)) (Le.mk [] [] R R ?hh224 ?ht224)
   case hh224=>exact rfl
   case ht224=>repeat' first |exact trivial |exact ⟨rfl,rfl⟩ |refine And.intro ?_ ?_
   case lt224=>omega
   case ei224=>exact QW (by omega)
   exact hN _ hc e hk2
 ·have hn:cs.length≤6:=QbE hE
  have hD:Qcw (cb,ca,cr,cs)=Q6 Q1 cs:=if_pos hE
  have hk2:k < l.length:=by omega
  refine QO hT hP (A:=Unit) cs.length (fun i _=>St.mk (E10 (E1 ((.cell (.ro QA l)) :: (I l.length) :: (I k) :: E40 (E10 (E2 ((.cell (.ro QC cs)) :: (I cs.length) :: (I i) :: E10 [])))))) [])
   (fun j _=>Q6 Q1 (cs.drop j)=Q6 Q1 cs) () (Le.mk [] [] R R R ?_) rfl fun j _ hj hi2=>?_
  ·repeat' first |exact trivial |exact ⟨rfl,rfl⟩ |refine And.intro ?_ ?_
  repeat' first |(refine Go.mk ?_;conv=>whnf) |refine Ql.go ?_ ?_ |refine Qm.go (fun _=>?_) (fun _=>?_) |refine Br.dec (fun _=>?_) (fun _=>?_) |refine Br.go (fun _=>?_) (fun _=>?_) |refine Qd hT hP mixed ?_ |refine Qb hT hP ?_
  all_goals clear hT hP
  ·rename_i g
   have g:(j:Int) < (cs.length:Int):=g
   show 0≤(j:Int)∧(j:Int) < (cs.length:Int)
   omega
  ·rename_i g g2
   have g:(j:Int) < (cs.length:Int):=g
   have g2:(Q1 (cs.getD j (dflt QC)) != 0)=true:=g2
   have g3:Q1 (cs.getD j (dflt QC))≠0:=by simpa using g2
   have e:Q1 (cs.getD j (dflt QC))=Qcw (cb,ca,cr,cs):=by
    rw [hD,← hi2,QaA (dflt QC) (by omega) g3]
   refine .mk [] [] _ R R R R R R (Qg ?_)
   show Q1 (cs.getD j (dflt QC))=QE l
   rw [e];exact hH _ hc (by rw [← e];exact g3) hk2
  ·rename_i g g2
   have g:(j:Int) < (cs.length:Int):=g
   have g2:(Q1 (cs.getD j (dflt QC)) != 0)=false:=g2
   apply Exists.intro
   apply Exists.intro ()
   refine And.intro (And.intro ?lt256 (And.intro ?ei256 ?inv256)) (Le.mk [] [] R R ?hh256 ?ht256)
   case hh256=>exact rfl
   case ht256=>repeat' first |exact trivial |exact ⟨rfl,rfl⟩ |refine And.intro ?_ ?_
   case lt256=>omega
   case ei256=>exact QW (by omega)
   exact (QaM (dflt QC) (by omega) (by simpa using g2)).symm.trans hi2
  ·rename_i g
   have g:¬ (j:Int) < (cs.length:Int):=g
   have e:Qcw (cb,ca,cr,cs)=0:=by
    rw [hD,← hi2,List.drop_of_length_le (by omega)];rfl
   apply Exists.intro
   apply Exists.intro ()
   refine And.intro (And.intro ?lt268 (And.intro ?ei268 ?inv268)) (Le.mk [] [] R R ?hh268 ?ht268)
   case hh268=>exact rfl
   case ht268=>repeat' first |exact trivial |exact ⟨rfl,rfl⟩ |refine And.intro ?_ ?_
   case lt268=>omega
   case ei268=>exact QW (by omega)
   exact hN _ hc e hk2
 ·have hn:cs.length≤6:=QbE hE
  have hD:Qcw (cb,ca,cr,cs)=Q6 Q1 cs:=if_pos hE
  have hk2:k < l.length:=by omega
  refine QO hT hP (A:=Unit) cs.length (fun i _=>St.mk (E10 (E1 ((.cell (.ro QA l)) :: (I l.length) :: (I k) :: E40 (E10 (E2 ((.cell (.ro QC cs)) :: (I cs.length) :: (I i) :: E10 [])))))) [])
   (fun j _=>Q6 Q1 (cs.drop j)=Q6 Q1 cs) () (Le.mk [] [] R R R ?_) rfl fun j _ hj hi2=>?_
  ·repeat' first |exact trivial |exact ⟨rfl,rfl⟩ |refine And.intro ?_ ?_
  repeat' first |(refine Go.mk ?_;conv=>whnf) |refine Ql.go ?_ ?_ |refine Qm.go (fun _=>?_) (fun _=>?_) |refine Br.dec (fun _=>?_) (fun _=>?_) |refine Br.go (fun _=>?_) (fun _=>?_) |refine Qd hT hP mixed ?_ |refine Qb hT hP ?_
  all_goals clear hT hP
  ·rename_i g
   have g:(j:Int) < (cs.length:Int):=g
   show 0≤(j:Int)∧(j:Int) < (cs.length:Int)
   omega
  ·rename_i g g2
   have g:(j:Int) < (cs.length:Int):=g
   have g2:(Q1 (cs.getD j (dflt QC)) != 0)=true:=g2
   have g3:Q1 (cs.getD j (dflt QC))≠0:=by simpa using g2
   have e:Q1 (cs.getD j (dflt QC))=Qcw (cb,ca,cr,cs):=by
    rw [hD,← hi2,QaA (dflt QC) (by omega) g3]
   refine .mk [] [] _ R R R R R R (Qg ?_)
   show Q1 (cs.getD j (dflt QC))=QE l
   rw [e];exact hH _ hc (by rw [← e];exact g3) hk2
  ·rename_i g g2
   have g:(j:Int) < (cs.length:Int):=g
   have g2:(Q1 (cs.getD j (dflt QC)) != 0)=false:=g2
   apply Exists.intro
   apply Exists.intro ()
   refine And.intro (And.intro ?lt300 (And.intro ?ei300 ?inv300)) (Le.mk [] [] R R ?hh300 ?ht300)
   case hh300=>exact rfl
   case ht300=>repeat' first |exact trivial |exact ⟨rfl,rfl⟩ |refine And.intro ?_ ?_
   case lt300=>omega
   case ei300=>exact QW (by omega)
   exact (QaM (dflt QC) (by omega) (by simpa using g2)).symm.trans hi2
  ·rename_i g
   have g:¬ (j:Int) < (cs.length:Int):=g
   have e:Qcw (cb,ca,cr,cs)=0:=by
    rw [hD,← hi2,List.drop_of_length_le (by omega)];rfl
   apply Exists.intro
   apply Exists.intro ()
   refine And.intro (And.intro ?lt312 (And.intro ?ei312 ?inv312)) (Le.mk [] [] R R ?hh312 ?ht312)
   case hh312=>exact rfl
   case ht312=>repeat' first |exact trivial |exact ⟨rfl,rfl⟩ |refine And.intro ?_ ?_
   case lt312=>omega
   case ei312=>exact QW (by omega)
   exact hN _ hc e hk2
 ·rename_i g
  have g:¬ (k:Int) < (l.length:Int):=by assumption
  refine .mk [] [] _ R R R R R R (Qg ?_)
  show 0=QE l
  rw [hC,← hi,List.drop_of_length_le (by omega)];rfl
def QhW (x y:Ins):Bool:=bif Qs y.2.1 x.2.1 then decide (y.2.2.1=x.2.2.1) else false
def QA4:List V1→List Blk→Option (Ins × Ins):=fun a b=>match a,b with
 | [.agg [.imm (.int .i64 eo),.imm (.string en),.imm (.int .i64 em),.ro (.pair (.int .i64) (.pair (.int .i64) (.pair (.int .i64) (.sl (.pair (.int .i64) (.pair (.int .i64) (.pair (.int .i64) (.int .i64)))))))) ec],.c (.ptr 0 0)],[.var [.imm (.int .i64 co),.imm (.string cn),.imm (.int .i64 cm),.ro (.pair (.int .i64) (.pair (.int .i64) (.pair (.int .i64) (.sl (.pair (.int .i64) (.pair (.int .i64) (.pair (.int .i64) (.int .i64)))))))) cc]]=>some ((eo,en,em,ec),(co,cn,cm,cc))
 |_,_=>none
theorem Qxc {a:List V1} {b:List Blk} {x:Ins × Ins} (h:QA4 a b=some x):a=[.agg [iv .i64 x.1.1,.imm (.string x.1.2.1),iv .i64 x.1.2.2.1,.ro QA x.1.2.2.2],.c (.ptr 0 0)]∧b=[.var [iv .i64 x.2.1,.imm (.string x.2.2.1),iv .i64 x.2.2.2.1,.ro QA x.2.2.2.2]]:=by
 unfold QA4 at h
 split at h
 ·injection h with h;subst h;exact ⟨rfl,rfl⟩
 ·cases h
def QGV:QaV:=⟨Ins × Ins,fun x=>[.agg [iv .i64 x.1.1,.imm (.string x.1.2.1),iv .i64 x.1.2.2.1,.ro QA x.1.2.2.2],.c (.ptr 0 0)],fun x=>[.var [iv .i64 x.2.1,.imm (.string x.2.2.1),iv .i64 x.2.2.2.1,.ro QA x.2.2.2.2]],QA4,
 fun x=>(some ((fun _=>True) x.2),.cell (bv (QhW x.2 x.1)),[some (.var [iv .i64 x.2.1,.imm (.string x.2.2.1),iv .i64 x.2.2.2.1,.ro QA x.2.2.2.2])],[])⟩
theorem QDE:Qi Tryz.prog 188 QGV.spec:=by
 have hP:Qe Tryz.prog _:=(Qc (T:=tree))
 have hT:=tabs hP Qf
 refine QGV.good (fn:=Tryz.f188) hT hP Tryz.func188 (by kernel_rfl) rfl (fun _ _ _ h=>Qxc h) fun (x:Ins × Ins) hq=>?_
 have hq:(fun _=>True) x.2:=hq _ rfl
 repeat' first |(refine Go.mk ?_;conv=>whnf) |refine Ql.go ?_ ?_ |refine Qm.go (fun _=>?_) (fun _=>?_) |refine Br.dec (fun _=>?_) (fun _=>?_) |refine Br.go (fun _=>?_) (fun _=>?_) |refine Qd hT hP mixed ?_ |refine Qb hT hP ?_
 all_goals clear hT hP
 all_goals first
  |(rename_i g
     have g:Qs x.1.2.1 x.2.2.1=true:=g
     refine .mk [] [0] _ R R R R R R (Qo ?_)
     show _=bif Qs x.1.2.1 x.2.2.1 then decide (x.1.2.2.1=x.2.2.2.1) else false
     rw [g];rfl)
  |(rename_i g
     have g:Qs x.1.2.1 x.2.2.1=false:=g
     refine .mk [] [0] _ R R R R R R (Qo ?_)
     show _=bif Qs x.1.2.1 x.2.2.1 then decide (x.1.2.2.1=x.2.2.2.1) else false
     rw [g];rfl)
  |skip
structure tkX where
 l:List Ins
 d:Ins
def QEt:List V1→List Blk→Option tkX:=fun a b=>match a,b with
 | [.c (.ro (.pair (.int .i64) (.pair .str (.pair (.int .i64) (.sl (.pair (.int .i64) (.pair (.int .i64) (.pair (.int .i64) (.sl (.pair (.int .i64) (.pair (.int .i64) (.pair (.int .i64) (.int .i64))))))))))))  l),.c (.fn 188 [0])],[.var [.imm (.int .i64 co),.imm (.string cn),.imm (.int .i64 cm),.ro (.pair (.int .i64) (.pair (.int .i64) (.pair (.int .i64) (.sl (.pair (.int .i64) (.pair (.int .i64) (.pair (.int .i64) (.int .i64)))))))) cc]]=>some ⟨l,(co,cn,cm,cc)⟩
 |_,_=>none
theorem Qt9 {a:List V1} {b:List Blk} {x:tkX} (h:QEt a b=some x):a=[.c (.ro Qaw x.l),.c (.fn 188 [0])]∧b=[.var [iv .i64 x.d.1,.imm (.string x.d.2.1),iv .i64 x.d.2.2.1,.ro QA x.d.2.2.2]]:=by
 unfold QEt at h
 split at h
 ·injection h with h;subst h;exact ⟨rfl,rfl⟩
 ·cases h
def QGW:QaV:=⟨tkX,fun x=>[.c (.ro Qaw x.l),.c (.fn 188 [0])],fun x=>[.var [iv .i64 x.d.1,.imm (.string x.d.2.1),iv .i64 x.d.2.2.1,.ro QA x.d.2.2.2]],QEt,
 fun x=>(some (x.l.length≤4611686018427387904∧(fun _=>True) x.d),I (Qby (QhW x.d) x.l),[some (.var [iv .i64 x.d.1,.imm (.string x.d.2.1),iv .i64 x.d.2.2.1,.ro QA x.d.2.2.2])],[])⟩
theorem QDF:Qi Tryz.prog 145 QGW.spec:=by
 have hP:Qe Tryz.prog _:=Qa QDE (Qc (T:=tree))
 have hT:=tabs hP Qf
 refine QGW.good (fn:=Tryz.f145) hT hP Tryz.func145 (by kernel_rfl) rfl (fun _ _ _ h=>Qt9 h) fun (x:tkX) hq=>?_
 obtain ⟨hl,hq⟩:x.l.length≤4611686018427387904∧(fun _=>True) x.d:=hq _ rfl
 obtain ⟨l,d⟩:=x
 have hl:l.length≤4611686018427387904:=hl
 repeat' first |(refine Go.mk ?_;conv=>whnf) |refine Ql.go ?_ ?_ |refine Qm.go (fun _=>?_) (fun _=>?_) |refine Br.dec (fun _=>?_) (fun _=>?_) |refine Br.go (fun _=>?_) (fun _=>?_) |refine Qd hT hP mixed ?_ |refine Qb hT hP ?_
 refine QO hT hP (A:=Unit) l.length (fun i _=>St.mk ((.cell (.ro Qaw l)) :: (.cell (.fn 188 [0])) :: E5 ((I l.length) :: (I i) :: E10 [])) [some (.var [iv .i64 d.1,.imm (.string d.2.1),iv .i64 d.2.2.1,.ro QA d.2.2.2])])
  (fun k _=>Qdm (QhW d) (l.drop k) k=Qby (QhW d) l) () (Le.mk [] [0] R R R ?_) rfl fun k _ hk hi=>?_
 ·repeat' first |exact trivial |exact ⟨rfl,rfl⟩ |refine And.intro ?_ ?_
 repeat' first |(refine Go.mk ?_;conv=>whnf) |refine Ql.go ?_ ?_ |refine Qm.go (fun _=>?_) (fun _=>?_) |refine Br.dec (fun _=>?_) (fun _=>?_) |refine Br.go (fun _=>?_) (fun _=>?_) |refine Qd hT hP mixed ?_ |refine Qb hT hP ?_
 all_goals clear hT hP
 ·rename_i g1
  have g1:(k:Int) < (l.length:Int):=g1
  show 0≤(k:Int)∧(k:Int) < (l.length:Int)
  omega
 ·first |exact hq |exact trivial
 ·rename_i g1 g2
  have g1:(k:Int) < (l.length:Int):=g1
  exact .mk [] [0] _ R R R R R R (Qg (Qdg (dflt Qaw) (by omega) g2 hi))
 ·rename_i g1 g2
  have g1:(k:Int) < (l.length:Int):=g1
  have hp:¬ QhW d (l.getD k (dflt Qaw))=true:=by
   have g2:QhW d (l.getD k (dflt Qaw))=false:=g2
   rw [g2];decide
  apply Exists.intro
  apply Exists.intro ()
  refine And.intro (And.intro ?lt80 (And.intro ?ei80 ?inv80)) (Le.mk [] [0] R R ?hh80 ?ht80)
  case hh80=>exact rfl
  case ht80=>repeat' first |exact trivial |exact ⟨rfl,rfl⟩ |refine And.intro ?_ ?_
  case lt80=>omega
  case ei80=>exact QW (by omega)
  exact Qa9 (dflt Qaw) (by omega) hp hi
 ·rename_i g1
  have g1:¬ (k:Int) < (l.length:Int):=g1
  exact .mk [] [0] _ R R R R R R (Qg (Qcu (by omega) hi))
def QGX:QaV:=⟨tkX,fun x=>[.c (.ro Qaw x.l),.c (.fn 188 [0])],fun x=>[.var [iv .i64 x.d.1,.imm (.string x.d.2.1),iv .i64 x.d.2.2.1,.ro QA x.d.2.2.2]],QEt,
 fun x=>(some (x.l.length≤4611686018427387904∧(fun _=>True) x.d),.cell (bv (x.l.any (QhW x.d))),[some (.var [iv .i64 x.d.1,.imm (.string x.d.2.1),iv .i64 x.d.2.2.1,.ro QA x.d.2.2.2])],[])⟩
theorem QDG:Qi Tryz.prog 187 QGX.spec:=by
 have hP:Qe Tryz.prog _:=Qa QDF (Qc (T:=tree))
 have hT:=tabs hP Qf
 refine QGX.good (fn:=Tryz.f187) hT hP Tryz.func187 (by kernel_rfl) rfl (fun _ _ _ h=>Qt9 h) fun (x:tkX) hq=>?_
 have hq:x.l.length≤4611686018427387904∧(fun _=>True) x.d:=hq _ rfl
 obtain ⟨l,d⟩:=x
 repeat' first |(refine Go.mk ?_;conv=>whnf) |refine Ql.go ?_ ?_ |refine Qm.go (fun _=>?_) (fun _=>?_) |refine Br.dec (fun _=>?_) (fun _=>?_) |refine Br.go (fun _=>?_) (fun _=>?_) |refine Qd hT hP mixed ?_ |refine Qb hT hP ?_
 all_goals clear hT hP
 ·first |exact hq |exact trivial
 ·exact .mk [] [0] _ R R R R R R (Qo (Qhp (QhW d) l))
def QeA (c:Cyc):Bool:=bif decide (c.1=1) then decide (c.2.1=0) else false
def QhX (l:List Cyc):Int:=((l.filter QeA).length:Nat)
theorem QaR {α:Type} {l:List α} {k:Nat} (d:α) (h:k < l.length):l.take (k+1)=l.take k++[l.getD k d]:=by
 rw [List.take_add_one,List.getD_eq_getElem?_getD,List.getElem?_eq_getElem h];rfl
theorem QjK {l:List Cyc} {k:Nat} (h:k < l.length) (h2:QeA (l.getD k (dflt QA))=true):((l.take k).filter QeA).length+1=((l.take (k+1)).filter QeA).length:=by
 rw [QaR (dflt QA) h,List.filter_append,List.filter_cons,if_pos h2,List.length_append];rfl
theorem QfO {l:List Cyc} {k:Nat} (h:k < l.length) (h2:QeA (l.getD k (dflt QA))=false):((l.take k).filter QeA).length=((l.take (k+1)).filter QeA).length:=by
 rw [QaR (dflt QA) h,List.filter_append,List.filter_cons,if_neg (by rw [h2];decide),List.length_append];rfl
def QyN:Qk:=⟨[⟨false,.sl QA⟩],fun (l,_)=>(some (List.length l≤1000),I (QhX l),[])⟩
theorem Qxd:Qi Tryz.prog 190 QyN.spec:=by
 have hP:Qe Tryz.prog _:=(Qc (T:=tree))
 have hT:=tabs hP Qf
 refine QyN.good (fn:=Tryz.f190) hT hP Tryz.func190 (by kernel_rfl) rfl fun (l:List Cyc) hq=>?_
 have hl:l.length≤1000:=hq _ rfl
 clear hq
 repeat' first |(refine Go.mk ?_;conv=>whnf) |refine Ql.go ?_ ?_ |refine Qm.go (fun _=>?_) (fun _=>?_) |refine Br.dec (fun _=>?_) (fun _=>?_) |refine Br.go (fun _=>?_) (fun _=>?_) |refine Qd hT hP mixed ?_ |refine Qb hT hP ?_
 refine QO hT hP (A:=Int) l.length (fun i n=>St.mk (E3 ((I n) :: E2 ((.cell (.ro QA l)) :: (I l.length) :: (I i) :: E10 (E5 [])))) [])
  (fun k n=>n=(((l.take k).filter QeA).length:Nat)) 0 (Le.mk [] [] R R R ?_) rfl fun k n hk hi=>?_
 ·repeat' first |exact trivial |exact ⟨rfl,rfl⟩ |refine And.intro ?_ ?_
 repeat' first |(refine Go.mk ?_;conv=>whnf) |refine Ql.go ?_ ?_ |refine Qm.go (fun _=>?_) (fun _=>?_) |refine Br.dec (fun _=>?_) (fun _=>?_) |refine Br.go (fun _=>?_) (fun _=>?_) |refine Qd hT hP mixed ?_ |refine Qb hT hP ?_
 all_goals clear hT hP
 all_goals have hf:=List.length_filter_le QeA (l.take k)
 all_goals rw [List.length_take] at hf
 ·rename_i g
  have g:(k:Int) < (l.length:Int):=g
  show 0≤(k:Int)∧(k:Int) < (l.length:Int)
  omega
 ·rename_i g g1 g2
  have g:(k:Int) < (l.length:Int):=g
  have h2:QeA (l.getD k (dflt QA))=true:=by
   have g1:(l.getD k (dflt QA)).1=1:=g1
   have g2:(l.getD k (dflt QA)).2.1=0:=g2
   unfold QeA;rw [decide_eq_true g1,decide_eq_true g2];rfl
  apply Exists.intro
  apply Exists.intro _
  refine And.intro (And.intro ?lt44 (And.intro ?ei44 ?inv44)) (Le.mk [] [] R R ?hh44 ?ht44)
  case hh44=>exact rfl
  case ht44=>repeat' first |exact trivial |exact ⟨rfl,rfl⟩ |refine And.intro ?_ ?_
  case lt44=>omega
  case ei44=>exact QW (by omega)
  have e:IntKind.i64.wrap (n+1)=n+1:=w64 (by omega) (by omega)
  have e2:=QjK (show k < l.length by omega) h2
  rw [e];omega
 ·rename_i g g1 g2
  have g:(k:Int) < (l.length:Int):=g
  have h2:QeA (l.getD k (dflt QA))=false:=by
   have g1:(l.getD k (dflt QA)).1=1:=g1
   have g2:¬ (l.getD k (dflt QA)).2.1=0:=g2
   unfold QeA;rw [decide_eq_true g1,decide_eq_false g2];rfl
  apply Exists.intro
  apply Exists.intro _
  refine And.intro (And.intro ?lt60 (And.intro ?ei60 ?inv60)) (Le.mk [] [] R R ?hh60 ?ht60)
  case hh60=>exact rfl
  case ht60=>repeat' first |exact trivial |exact ⟨rfl,rfl⟩ |refine And.intro ?_ ?_
  case lt60=>omega
  case ei60=>exact QW (by omega)
  have e2:=QfO (show k < l.length by omega) h2
  omega
 ·rename_i g g1
  have g:(k:Int) < (l.length:Int):=g
  have h2:QeA (l.getD k (dflt QA))=false:=by
   have g1:¬ (l.getD k (dflt QA)).1=1:=g1
   unfold QeA;rw [decide_eq_false g1];rfl
  apply Exists.intro
  apply Exists.intro _
  refine And.intro (And.intro ?lt74 (And.intro ?ei74 ?inv74)) (Le.mk [] [] R R ?hh74 ?ht74)
  case hh74=>exact rfl
  case ht74=>repeat' first |exact trivial |exact ⟨rfl,rfl⟩ |refine And.intro ?_ ?_
  case lt74=>omega
  case ei74=>exact QW (by omega)
  have e2:=QfO (show k < l.length by omega) h2
  omega
 ·rename_i g
  have g:¬ (k:Int) < (l.length:Int):=g
  refine .mk [] [] _ R R R R R R (Qg ?_)
  rw [hi,List.take_of_length_le (by omega)];rfl
theorem Qlv {f:Cv→Dv→Int} {cs:List Cv} {ds:List Dv} {k:Nat} (h:cs.length=ds.length) (hk:k < cs.length):List.zipWith f (cs.take k) (ds.take k)++[f (cs.getD k (dflt Qh)) (ds.getD k (dflt Qp))]=List.zipWith f (cs.take (k+1)) (ds.take (k+1)):=by
 rw [QaR (dflt Qh) hk,QaR (dflt Qp) (show k < ds.length by omega),List.zipWith_append (by rw [List.length_take,List.length_take];omega)];rfl
def QDH (b:Bd) (m:Mach):Prop:=b.2.2.1.length=m.2.2.1.length∧b.2.2.1.length*64≤140737488351232∧(∀ c ∈ b.2.2.1,cP c)∧∀ d ∈ m.2.2.1,dP d
def QDI:Qk:=⟨[gBd,gM],fun (b,m,_)=>(some (QDH b m),.cell (.own 0),[.arr (.int .i64) (List.zipWith Qbi b.2.2.1 m.2.2.1)])⟩
theorem Qxe:Qi Tryz.prog 130 QDI.spec:=by
 have hP:Qe Tryz.prog _:=Qa QsS (Qc (T:=tree))
 have hT:=tabs hP Qf
 refine QDI.good (fn:=Tryz.f130) hT hP Tryz.func130 (by kernel_rfl) rfl fun (b:Bd) (m:Mach) hq=>?_
 obtain ⟨hln,hl,hc,hd⟩:QDH b m:=hq _ rfl
 clear hq
 obtain ⟨bn,⟨un,ui,ur,uq,um⟩,bc,bw⟩:=b
 obtain ⟨tm,⟨r,op,at_,nmi⟩,ds,bd,ba,bdt⟩:=m
 have hln:bc.length=ds.length:=hln
 have hl:bc.length*64≤140737488351232:=hl
 have hc:∀ c ∈ bc,cP c:=hc
 have hd:∀ d ∈ ds,dP d:=hd
 repeat' first |(refine Go.mk ?_;conv=>whnf) |refine Ql.go ?_ ?_ |refine Qm.go (fun _=>?_) (fun _=>?_) |refine Br.dec (fun _=>?_) (fun _=>?_) |refine Br.go (fun _=>?_) (fun _=>?_) |refine Qd hT hP mixed ?_ |refine Qb hT hP ?_
 refine QO hT hP (A:=List Int) bc.length (fun i o=>St.mk (E3 ((.cell (.ptr 0 0)) :: E1 ((.cell (.own 1)) :: E3 ((.cell (.ro Qh bc)) :: (I bc.length) :: (I i) :: E10 (E5 (E1 []))))))
  [some (.var [.imm (.int .i64 tm),.run .i64 9 r,.imm (.int .i64 op),.imm (.int .i64 at_),.imm (.bool nmi),.ro Qp ds,.imm (.int .i64 bd),.imm (.int .i64 ba),.imm (.int .i64 bdt)]),some (.arr (.int .i64) o)])
  (fun k o=>o=List.zipWith Qbi (bc.take k) (ds.take k)) [] (.trans (Le.nil 5 (.int .i64) rfl) (Le.mk [] [1,2] R R ?_ ?_)) rfl fun k o hk hi=>?_
 ·exact rfl
 ·repeat' first |exact trivial |exact ⟨rfl,rfl⟩ |refine And.intro ?_ ?_
 repeat' first |(refine Go.mk ?_;conv=>whnf) |refine Ql.go ?_ ?_ |refine Qm.go (fun _=>?_) (fun _=>?_) |refine Br.dec (fun _=>?_) (fun _=>?_) |refine Br.go (fun _=>?_) (fun _=>?_) |refine Qd hT hP mixed ?_ |refine Qb hT hP ?_
 all_goals (try dsimp only [Qj] at *)
 all_goals clear hT hP
 ·rename_i g
  have g:(k:Int) < (bc.length:Int):=g
  show 0≤(k:Int)∧(k:Int) < (bc.length:Int)
  omega
 ·rename_i g
  have g:(k:Int) < (bc.length:Int):=g
  show 0≤(k:Int)∧(k:Int) < (ds.length:Int)
  omega
 ·rename_i g
  have g:(k:Int) < (bc.length:Int):=g
  exact ⟨hc _ (QQ (dflt Qh) (show k < bc.length by omega)),hd _ (QQ (dflt Qp) (show k < ds.length by omega))⟩
 ·rename_i g
  have g:(k:Int) < (bc.length:Int):=g
  have hz:o.length≤bc.length:=by rw [hi,List.length_zipWith,List.length_take];omega
  show (o.length+1)*8≤140737488355328
  omega
 ·rename_i g
  have g:(k:Int) < (bc.length:Int):=g
  apply Exists.intro
  apply Exists.intro _
  refine And.intro (And.intro ?lt53 (And.intro ?ei53 ?inv53)) (Le.mk [] [0,4] R R ?hh53 ?ht53)
  case hh53=>exact rfl
  case ht53=>repeat' first |exact trivial |exact ⟨rfl,rfl⟩ |refine And.intro ?_ ?_
  case lt53=>omega
  case ei53=>exact QW (by omega)
  rw [hi]
  exact Qlv hln (by omega)
 ·rename_i g
  have g:¬ (k:Int) < (bc.length:Int):=g
  have e:o=List.zipWith Qbi bc ds:=by rw [hi,List.take_of_length_le (by omega),List.take_of_length_le (by omega)]
  subst e
  exact .mk [] [1] _ R R R R R R R
theorem Qiv (hs:List Bool) (cs:List Cv):QcV hs cs []=false:=by
 cases hs with
 |nil=>rfl
 |cons h hs=>cases cs<;>rfl
theorem Qca {hs:List Bool} {cs:List Cv} {ds:List Dv} {k:Nat} (hl:hs.length=cs.length) (hk:k < cs.length):QcV (hs.drop k) (cs.drop k) (ds.drop k) =
 ((hs.getD k false&&(decide (k < ds.length)&&Qhk (cs.getD k (dflt Qh)) (ds.getD k (dflt Qp))))||QcV (hs.drop (k+1)) (cs.drop (k+1)) (ds.drop (k+1))):=by
 have e1:hs.drop k=hs.getD k false :: hs.drop (k+1):=by rw [List.drop_eq_getElem_cons (show k < hs.length by omega),List.getD_eq_getElem?_getD,List.getElem?_eq_getElem (show k < hs.length by omega)];rfl
 have e2:cs.drop k=cs.getD k (dflt Qh) :: cs.drop (k+1):=by rw [List.drop_eq_getElem_cons hk,List.getD_eq_getElem?_getD,List.getElem?_eq_getElem hk];rfl
 by_cases h:k < ds.length
 ·have e3:ds.drop k=ds.getD k (dflt Qp) :: ds.drop (k+1):=by rw [List.drop_eq_getElem_cons h,List.getD_eq_getElem?_getD,List.getElem?_eq_getElem h];rfl
  rw [e1,e2,e3,decide_eq_true h];rfl
 ·rw [show ds.drop k=[] from List.drop_of_length_le (by omega),show ds.drop (k+1)=[] from List.drop_of_length_le (by omega),decide_eq_false h,Qiv,Qiv];simp
theorem Qiw {hs:List Bool} {cs:List Cv} {ds:List Dv} {k:Nat} (hl:hs.length=cs.length) (hk:¬ k < cs.length):QcV (hs.drop k) (cs.drop k) (ds.drop k)=false:=by
 rw [show hs.drop k=[] from List.drop_of_length_le (by omega)];rfl
def QA5 (b:Bd) (m:Mach):Prop:=bdP b∧∀ d ∈ m.2.2.1,dP d
def QyO:Qk:=⟨[gBd,gM],fun (b,m,_)=>(some (QA5 b m),.cell (bv (Qax b m.2.2.1)),[])⟩
theorem Qxf:Qi Tryz.prog 20 QyO.spec:=by
 have hP:Qe Tryz.prog _:=Qa QtG (Qa QAk (Qc (T:=tree)))
 have hT:=tabs hP Qf
 refine QyO.good (fn:=Tryz.f20) hT hP Tryz.func20 (by kernel_rfl) rfl fun (b:Bd) (m:Mach) hq=>?_
 obtain ⟨hb,hd⟩:QA5 b m:=hq _ rfl
 clear hq
 have hE:Qax b m.2.2.1=QcV (Qa2 b.2.2.2 b.2.2.1) b.2.2.1 m.2.2.1:=rfl
 have hc:=hb.2
 have hl:=hb.1.1
 have hhl:=QcT b.2.2.2 b.2.2.1
 have hH:∃ h,h=Qa2 b.2.2.2 b.2.2.1:=⟨_,rfl⟩
 obtain ⟨bn,⟨un,ui,ur,uq,um⟩,bc,bw⟩:=b
 obtain ⟨tm,⟨r,op,at_,nmi⟩,ds,bd,ba,bdt⟩:=m
 have hE:Qax (bn,(un,ui,ur,uq,um),bc,bw) ds=QcV (Qa2 bw bc) bc ds:=hE
 have hc:∀ c ∈ bc,cP c∧c.1.size≤140737488351232:=hc
 have hl:bc.length*64≤140737488351232:=hl
 have hd:∀ d ∈ ds,dP d:=hd
 have hhl:(Qa2 bw bc).length=bc.length:=hhl
 repeat' first |(refine Go.mk ?_;conv=>whnf) |refine Ql.go ?_ ?_ |refine Qm.go (fun _=>?_) (fun _=>?_) |refine Br.dec (fun _=>?_) (fun _=>?_) |refine Br.go (fun _=>?_) (fun _=>?_) |refine Qd hT hP mixed ?_ |refine Qb hT hP ?_
 all_goals (try dsimp only [Qj] at *)
 ·exact hb
 generalize hh:Qa2 bw bc=hs at *
 rw [hhl]
 refine QO hT hP (A:=Unit) bc.length (fun i _=>St.mk (E2 ((.cell (.ptr 0 0)) :: (.cell (.ptr 1 0)) :: E3 (E1 ((.cell (.own 2)) :: (I bc.length) :: (I i) :: E20 (E5 (E1 []))))))
  [some (.var [.imm (.string bn),.imm (.string un),.ro Qaw ui,.ro QA ur,.ro QA uq,.ro QA um,.ro Qh bc,.ro Qx bw]),
   some (.var [.imm (.int .i64 tm),.run .i64 9 r,.imm (.int .i64 op),.imm (.int .i64 at_),.imm (.bool nmi),.ro Qp ds,.imm (.int .i64 bd),.imm (.int .i64 ba),.imm (.int .i64 bdt)]),some (.arr .bool hs)])
  (fun k _=>QcV (hs.drop k) (bc.drop k) (ds.drop k)=QcV hs bc ds) () (Le.mk [] [0,1,2] R R ?_ ?_) rfl fun k _ hk hi=>?_
 ·exact rfl
 ·repeat' first |exact trivial |exact ⟨rfl,rfl⟩ |refine And.intro ?_ ?_
 repeat' first |(refine Go.mk ?_;conv=>whnf) |refine Ql.go ?_ ?_ |refine Qm.go (fun _=>?_) (fun _=>?_) |refine Br.dec (fun _=>?_) (fun _=>?_) |refine Br.go (fun _=>?_) (fun _=>?_) |refine Qd hT hP mixed ?_ |refine Qb hT hP ?_
 all_goals (try dsimp only [Qj] at *)
 all_goals clear hT hP
 ·rename_i g
  show 0≤(k:Int)∧(k:Int) < (hs.length:Int)
  have g:(k:Int) < (bc.length:Int):=by assumption
  omega
 ·rename_i g
  have g:(k:Int) < (bc.length:Int):=by assumption
  show k < hs.length
  omega
 ·have g:(k:Int) < (bc.length:Int):=by assumption
  show 0≤(k:Int)∧(k:Int) < (bc.length:Int)
  omega
 ·rename_i g g2
  have g2:(k:Int) < (ds.length:Int):=by assumption
  show 0≤(k:Int)∧(k:Int) < (ds.length:Int)
  omega
 ·rename_i g1 g2 g3
  have g1:(k:Int) < (bc.length:Int):=g1
  have g3:(k:Int) < (ds.length:Int):=g3
  exact ⟨(hc _ (QQ (dflt Qh) (show k < bc.length by omega))).1,hd _ (QQ (dflt Qp) (show k < ds.length by omega))⟩
 ·rename_i g1 g2 g3 g4
  have g1:(k:Int) < (bc.length:Int):=g1
  have g2:hs.getD k (dflt .bool)=true:=g2
  have g3:(k:Int) < (ds.length:Int):=g3
  have g4:Qhk (bc.getD k (dflt Qh)) (ds.getD k (dflt Qp))=true:=g4
  refine .mk [] [] _ R R R R R R (Qo ?_)
  rw [hE,← hi,Qca hhl (by omega),g4,decide_eq_true (show k < ds.length by omega),show hs.getD k false=true from g2];rfl
 ·rename_i g1 g2 g3 g4
  have g1:(k:Int) < (bc.length:Int):=g1
  have g4:Qhk (bc.getD k (dflt Qh)) (ds.getD k (dflt Qp))=false:=g4
  apply Exists.intro
  apply Exists.intro ()
  refine And.intro (And.intro ?lt86 (And.intro ?ei86 ?inv86)) (Le.mk [] [0,1,2] R R ?hh86 ?ht86)
  case hh86=>exact rfl
  case ht86=>repeat' first |exact trivial |exact ⟨rfl,rfl⟩ |refine And.intro ?_ ?_
  case lt86=>omega
  case ei86=>exact QW (by omega)
  rw [← hi,Qca (k:=k) hhl (by omega),g4];simp
 ·rename_i g1 g2 g3
  have g1:(k:Int) < (bc.length:Int):=g1
  have g3:¬ (k:Int) < (ds.length:Int):=g3
  apply Exists.intro
  apply Exists.intro ()
  refine And.intro (And.intro ?lt97 (And.intro ?ei97 ?inv97)) (Le.mk [] [0,1,2] R R ?hh97 ?ht97)
  case hh97=>exact rfl
  case ht97=>repeat' first |exact trivial |exact ⟨rfl,rfl⟩ |refine And.intro ?_ ?_
  case lt97=>omega
  case ei97=>exact QW (by omega)
  rw [← hi,Qca (k:=k) hhl (by omega),decide_eq_false (show ¬ k < ds.length by omega)];simp
 ·rename_i g1 g2
  have g1:(k:Int) < (bc.length:Int):=g1
  have g2:hs.getD k (dflt .bool)=false:=g2
  apply Exists.intro
  apply Exists.intro ()
  refine And.intro (And.intro ?lt108 (And.intro ?ei108 ?inv108)) (Le.mk [] [0,1,2] R R ?hh108 ?ht108)
  case hh108=>exact rfl
  case ht108=>repeat' first |exact trivial |exact ⟨rfl,rfl⟩ |refine And.intro ?_ ?_
  case lt108=>omega
  case ei108=>exact QW (by omega)
  rw [← hi,Qca (k:=k) hhl (by omega),show hs.getD k false=false from g2];simp
 ·rename_i g1
  have g1:¬ (k:Int) < (bc.length:Int):=g1
  refine .mk [] [] _ R R R R R R (Qo ?_)
  rw [hE,← hi,Qiw hhl (by omega)]
end Go.Proofs.YtofgbclopbmlcaaGreat

