/- Part 6 of the proof: Fw37 PortLaw Port TimerLaw Timer Field GetPut Timer2 TimerTicks TimerActs SerialActs SoundLaw Sound Sound2 Sound3 Sound4 Sound5. No statement is handed in here; conditions: none. -/
import Derived.Test.YtofgbclopbmlcaaGreatG5
namespace Go.Fw
set_option linter.unusedVariables false
set_option linter.unusedSimpArgs false
structure QuC where
 gs:List Sig
 out:Args gs→Nat→Option Prop × AV × List Blk
def QBv:(gs:List Sig)→List V1→Option (Args gs × Nat)
 | [],l=>match l with
   | [.c (.fn g [])]=>some ((),g)
   |_=>none
 |g :: gs,l=>match l with
   |x :: xs=>match QxG g x with
     |some d=>(match QBv gs xs with |some (r,f)=>some ((d,r),f) |none=>none)
     |none=>none
   | []=>none
def QrR (f:Nat):(gs:List Sig)→Args gs→List V1
 | [],_=>[.c (.fn f [])]
 |g :: gs,(a,r)=>Qcp g a :: QrR f gs r
def QuC.spec (s:QuC):Qcm:={ wr:=false,run:=fun args bl=>match bl with
 | []=>match QBv s.gs args with
   |some (xs,f)=>some ((s.out xs f).1,(s.out xs f).2.1,[],(s.out xs f).2.2)
   |none=>none
 |_ :: _=>none }
theorem QnR {E:Env} (hH:Qt E) (hn:∀ b,E.H b=none):∀ {gs:List Sig} {xs:List V1} {ds:Args gs} {f:Nat} {vs:List Value},QBv gs xs=some (ds,f)→VsR E xs vs→VsR E (QrR f gs ds) vs
 | [],xs,ds,f,vs,h,hv=>by
   unfold QBv at h
   split at h
   ·injection h with h
    injection h with h1 h2
    subst h2
    exact hv
   ·cases h
 |g :: gs,[],ds,f,vs,h,hv=>by simp [QBv] at h
 |g :: gs,x :: xs,ds,f,vs,h,⟨v,r,e,h1,h2⟩=>by
   unfold QBv at h
   simp only at h
   split at h
   ·rename_i d hd
    split at h
    ·rename_i rs f' hr
     injection h with h
     injection h with e1 e2
     subst e1
     subst e2
     exact ⟨v,r,e,Qnu hH hn hd h1,QnR hH hn hr h2⟩
    ·cases h
   ·cases h
theorem QuC.good {P:Program} {T:Tab} {f:FuncId} {fn:Func} (hT:Qae P T) (hP:Qe P T) (hf:P.funcs[f]?=some fn) (hn:(fn.name == "runtime.NumGoroutine")=false) (s:QuC) (hb:fn.body.isSome=true)
 (h:Qc7 s.gs fun xs=>∀ g:Nat,(∀ q,(s.out xs g).1=some q→q)→Go (QkA P T fn (QrR g s.gs xs) [] (s.out xs g).2.1 [] (s.out xs g).2.2)):Qi P f s.spec:=by
 refine ⟨?_,fn,hf,hn,hb⟩
 obtain ⟨c,hc⟩:=Option.isSome_iff_exists.1 hb
 refine QiV hT hf hc _ fun args bl p r upd fresh hrun hp=>?_
 unfold QuC.spec at hrun
 simp only at hrun
 split at hrun
 ·split at hrun
  ·rename_i xs g hxs
   simp only [Option.some.injEq,Prod.mk.injEq] at hrun
   obtain ⟨rfl,rfl,rfl,rfl⟩:=hrun
   refine ⟨_,fun E vs hok hH hv=>QnR hok (fun b=>by rw [hH];simp) hxs hv,?_⟩
   have:=(h.out xs g hp).out
   rw [Qg0] at this
   unfold Qic at this
   rw [hc] at this
   simp only [QgD,QeL,QaW] at this
   exact Qgj hT hP c this
  ·cases hrun
 ·cases hrun
theorem Le.nilH {m:Nat} {st:St} (b:Nat) (t:Ty) (cs ds:List QD) (h:st.heap[b]?=some (some (.var cs))) (hn:QBI st.heap.length cs=some ds) (hsz:ds.map QD.size=cs.map QD.size) :
 Le m st { tmps:=st.tmps,heap:=QaB (QaB st.heap st.heap.length (some (.arr t []))) b (some (.var ds)) }:=by
 intro E0 E a hm hs hf
 have hlt:b < st.heap.length:=(List.getElem?_eq_some_iff.1 h).1
 have hU:¬ E.U st.heap.length:=fun hu=>by have:=hs.U _ hu;omega
 have hstep:QaI E { pre:=none,val:=.dead,add:=[.arr t []],set:=[] } st.heap.length (QbK E [] st.heap.length t):=QaI.nil (us:=[]) hs.ok rfl rfl hU
 have hs1:=hs.step (dst:=none) (v:=undef) hstep trivial
 have hf1:=hf.step hstep
 have hlook:st.look b=some (.var cs):=by unfold St.look;rw [h]
 have hb:E.H b=some (.var cs):=(hs.H b).trans hlook
 have hne:b≠st.heap.length:=by omega
 obtain ⟨hu,⟨g,ca,el,hr,hw,hir⟩,hS⟩:=hs.ok.blk b _ hb
 have hb1:(QbK E [] st.heap.length t).H b=some (.var cs):=by simp [QbK,hne,hb]
 have hr1:(QbK E [] st.heap.length t).ρ b=some g:=by simp [QbK,hne,hr]
 have hsh:shape (.var ds)=shape (.var cs):=by simp only [shape];rw [hsz]
 have hwr:Qfl (QbK E [] st.heap.length t) g ca ca el (QbK E [] st.heap.length t).w:=⟨hw,hw,rfl,fun _ _=>rfl,rfl,rfl,rfl,rfl⟩
 have hir1:=QiT hstep.ext hn hir
 have hheap:(st.act st.heap.length { pre:=none,val:=.dead,add:=[.arr t []],set:=[] }).heap=QaB st.heap st.heap.length (some (.arr t [])):=rfl
 have hlen:b < (QaB st.heap st.heap.length (some (.arr t []))).length:=by
  have:=(QdW [.arr t []] st.heap st.heap.length).1
  exact Nat.lt_of_lt_of_le hlt this
 refine ⟨QdR (QbK E [] st.heap.length t) b (.var ds) (QbK E [] st.heap.length t).w,rfl,⟨hs1.defers,hs1.len,fun j y hy=>?_,QlT hs1.ok hb1 hr1 hsh hwr hir1,fun x=>?_,fun x hx=>?_⟩,?_⟩
 ·obtain ⟨v,h1,h2⟩:=hs1.tmp j y hy
  exact ⟨v,h1,h2.ext (QdS hs1.ok hb1 hr1 hsh hwr)⟩
 ·show (if x=b then some (.var ds) else (QbK E [] st.heap.length t).H x)=St.look { tmps:=st.tmps,heap:=QaB (QaB st.heap st.heap.length (some (.arr t []))) b (some (.var ds)) } x
  unfold St.look
  rw [QfG (α:=Nat) _ _ _ _ hlen]
  split
  ·rfl
  ·exact hs1.H x
 ·have:=hs1.U x hx
  show x < (QaB (QaB st.heap st.heap.length (some (.arr t []))) b (some (.var ds))).length
  rw [Qg9 _ _ _ hlen]
  exact this
 ·exact ⟨QlU hs1.ok hb1 hr1 hwr hf1.fr,hf1.ext.trans (QdS hs1.ok hb1 hr1 hsh hwr)⟩
theorem Qk.of_calls {P:Program} {f:FuncId} {fn:Func} (hf:P.funcs[f]?=some fn) (hn:(fn.name == "runtime.NumGoroutine")=false) (hb:fn.body.isSome=true) (s:Qk) (hfr:∀ xs,(s.out xs).2.2=[])
 (h:∀ (E:Env) (xs:Args s.gs) (vs:Array Value),VsR E (QaK s.gs xs) vs.toList→(∀ q,(s.out xs).1=some q→q)→Calls P f vs E.w fun e w'=>(∃ v,e=.returned v∧AVR E (s.out xs).2.1 v)∧w'=E.w):Qi P f s.spec:=by
 refine ⟨?_,fn,hf,hn,hb⟩
 intro E0 vs args bl p r upd fresh hH hU hok hvs hrun hp
 unfold Qk.spec at hrun
 simp only at hrun
 split at hrun
 ·split at hrun
  ·rename_i xs hxs
   simp only [Option.some.injEq,Prod.mk.injEq] at hrun
   obtain ⟨rfl,rfl,rfl,rfl⟩:=hrun
   have hv:=Qer hok (fun b=>by rw [hH];simp) hxs hvs
   refine (h E0 xs vs hv hp).mono ?_
   rintro e w' ⟨⟨v,rfl,hr⟩,rfl⟩
   refine ⟨v,E0,rfl,rfl,hr,hok,fun b=>?_,fun b=>?_,Ext.refl E0,Qh7⟩
   ·rw [hH,hfr];simp
   ·rw [hU,hfr];simp
  ·cases hrun
 ·cases hrun
end Go.Fw

namespace Go.Proofs.YtofgbclopbmlcaaGreat
open Go.Fw
set_option linter.unusedVariables false
set_option linter.unusedSimpArgs false
theorem QB8 (c:Int):land .i64 c 1=((u64 c%2:Nat):Int):=by
 have e:u64 c &&& u64 1=u64 c%2:=by
  have:u64 1=2 ^ 1-1:=by decide
  rw [this,Nat.and_two_pow_sub_one_eq_mod]
 rw [QeV _ _ (by rw [e];omega),e]
theorem QrY {a k:Nat} (h:a < 2 ^ 63) (hk:k≤62):land .i64 (shr .i64 (a:Int) (k:Int)) 1=((a/2 ^ k%2:Nat):Int):=by
 have:a/2 ^ k < 2 ^ 63:=Nat.lt_of_le_of_lt (Nat.div_le_self _ _) h
 rw [QxN (by omega),QB8,Qal (by omega)]
def QkY (n:List Int) (m:Int):Nat→Int
 |0=>0
 |k+1=>IntKind.i64.wrap (QkY n m k+shl .i64 (land .i64 (shr .i64 (n.getD (land .i64 (shr .i64 m k) 1).toNat 0) k) 1) k)
theorem QnW (x l m:Nat) (hx:x < 256) (hl:l < 256) (hm:m < 256):∀ k,k≤8→QkY [(x:Int),l,m] m k=((((l &&& m) ||| (x ^^^ (x &&& m)))%2 ^ k:Nat):Int)
 |0,_=>by simp [QkY,Nat.mod_one]
 |k+1,h=>by
   have ih:=QnW x l m hx hl hm k (by omega)
   generalize hX:(l &&& m) ||| (x ^^^ (x &&& m))=X at ih ⊢
   have hsel:∃ s:Nat,([(x:Int),l,m].getD (land .i64 (shr .i64 (m:Int) k) 1).toNat 0)=(s:Int)∧s < 256∧s/2 ^ k%2=X/2 ^ k%2:=by
    have e1:X.testBit k=((l.testBit k&&m.testBit k)||(x.testBit k&&!m.testBit k)):=by
     rw [← hX,Nat.testBit_or,Nat.testBit_and,QdC]
    rw [QrY (by omega) (by omega)]
    rcases Nat.mod_two_eq_zero_or_one (m/2 ^ k) with h0 |h0
    ·refine ⟨x,by rw [h0];rfl,hx,?_⟩
     rw [← Nat.toNat_testBit,← Nat.toNat_testBit,e1]
     have:m.testBit k=false:=by rw [Nat.testBit_eq_decide_div_mod_eq,h0];rfl
     rw [this];simp
    ·refine ⟨l,by rw [h0];rfl,hl,?_⟩
     rw [← Nat.toNat_testBit,← Nat.toNat_testBit,e1]
     have:m.testBit k=true:=by rw [Nat.testBit_eq_decide_div_mod_eq,h0];rfl
     rw [this];simp
   obtain ⟨s,hs,hs2,hs3⟩:=hsel
   have hp:2 ^ (k+1)≤2 ^ 8:=QkB h
   have hp0:0 < 2 ^ k:=Nat.pow_pos (by omega)
   have hb:X/2 ^ k%2≤1:=by omega
   have hmul:X/2 ^ k%2*2 ^ k≤1*2 ^ k:=Nat.mul_le_mul_right _ hb
   have hr:X%2 ^ k < 2 ^ k:=Nat.mod_lt _ hp0
   rw [Nat.pow_succ] at hp
   rw [QkY,hs,QrY (by omega) (by omega),hs3,ih,Qrs (by omega) (by omega),w64 (by omega) (by omega),Nat.pow_succ,Nat.mod_mul,Nat.mul_comm (2 ^ k)]
   omega
theorem QzL (x l m:Int) (hx:0≤x∧x < 256) (hl:0≤l∧l < 256) (hm:0≤m∧m < 256):QkY [x,l,m] m 8=lor .i64 (land .i64 l m) (Q3 .i64 x m):=by
 obtain ⟨x,rfl⟩:=Int.eq_ofNat_of_zero_le hx.1
 obtain ⟨l,rfl⟩:=Int.eq_ofNat_of_zero_le hl.1
 obtain ⟨m,rfl⟩:=Int.eq_ofNat_of_zero_le hm.1
 have h1:l &&& m < 2 ^ 8:=Nat.and_lt_two_pow _ (by omega)
 have h2:x ^^^ (x &&& m) < 2 ^ 8:=Nat.xor_lt_two_pow (by omega) (Nat.and_lt_two_pow _ (by omega))
 have h3:(l &&& m) ||| (x ^^^ (x &&& m)) < 2 ^ 8:=Nat.or_lt_two_pow h1 h2
 rw [QnW x l m (by omega) (by omega) (by omega) 8 (by omega),Nat.mod_eq_of_lt h3]
 have e1:land .i64 (l:Int) m=((l &&& m:Nat):Int):=by
  rw [QeV _ _ (by rw [Qal (by omega),Qal (by omega)];omega),Qal (by omega),Qal (by omega)]
 have e2:Q3 .i64 (x:Int) m=((x ^^^ (x &&& m):Nat):Int):=by
  rw [Qc9 _ _ (by rw [Qal (by omega)];omega),Qal (by omega),Qal (by omega)]
 rw [e1,e2,QfA _ _ (by rw [Qal (by omega),Qal (by omega)];omega),Qal (by omega),Qal (by omega)]
set_option maxRecDepth 100000
def QdF (N:List Int):List Int:=[N.getD 0 0%256,N.getD 1 0%256,N.getD 2 0%256]
def QnX:Qk:=⟨[gC,gD],fun (c,d,_)=>(some (c.2.1=4),QeC,[.arr (.int .i64) (QdF d.1)])⟩
theorem QcK:Qi Tryz.prog 58 QnX.spec:=by
 have hP:Qe Tryz.prog _:=Qa Qcy (Qc (T:=tree))
 have hT:=tabs hP Qf
 refine QnX.good (fn:=Tryz.f58) hT hP Tryz.func58 (by kernel_rfl) rfl fun (c:Cv) (d:Dv) hp=>?_
 obtain ⟨cn,ck,cb,cs,cd⟩:=c
 obtain rfl:ck=4:=hp _ rfl
 obtain ⟨N,M⟩:=d
 repeat' first |(refine Go.mk ?_;conv=>whnf) |refine Ql.go ?_ ?_ |refine Qm.go (fun _=>?_) (fun _=>?_) |refine Br.dec (fun _=>?_) (fun _=>?_) |refine Br.go (fun _=>?_) (fun _=>?_) |refine Qd hT hP mixed ?_ |refine Qb hT hP ?_
 ·exact (by decide:([256,256,256]:List Int).length≤1000∧∀ m ∈ ([256,256,256]:List Int),0 < m∧m≤4611686018427387904)
 ·exact .mk [] [5] _ R R R R R R R
def QB9:Qk:=⟨[],fun _=>(none,QeC,[.arr (.int .i64) [255,0,0]])⟩
theorem QzM:Qi Tryz.prog 111 QB9.spec:=by
 have hP:Qe Tryz.prog _:=(Qc (T:=tree))
 have hT:=tabs hP Qf
 refine QB9.good (fn:=Tryz.f111) hT hP Tryz.func111 (by kernel_rfl) rfl fun _=>?_
 repeat' first |(refine Go.mk ?_;conv=>whnf) |refine Ql.go ?_ ?_ |refine Qm.go (fun _=>?_) (fun _=>?_) |refine Br.dec (fun _=>?_) (fun _=>?_) |refine Br.go (fun _=>?_) (fun _=>?_) |refine Qd hT hP mixed ?_ |refine Qb hT hP ?_
 exact .mk [] [1] _ R R R R R R R
def Qx2:Qk:=⟨[gD],fun (d,_)=>(none,.cell (.own 0),[.arr (.int .i64) (QdF d.1)])⟩
theorem Qgo:Qi Tryz.prog 227 Qx2.spec:=by
 have hP:Qe Tryz.prog _:=Qa QT (Qc (T:=tree))
 have hT:=tabs hP Qf
 refine Qx2.good (fn:=Tryz.f227) hT hP Tryz.func227 (by kernel_rfl) rfl fun (d:Dv) _=>?_
 obtain ⟨N,M⟩:=d
 repeat' first |(refine Go.mk ?_;conv=>whnf) |refine Ql.go ?_ ?_ |refine Qm.go (fun _=>?_) (fun _=>?_) |refine Br.dec (fun _=>?_) (fun _=>?_) |refine Br.go (fun _=>?_) (fun _=>?_) |refine Qd hT hP mixed ?_ |refine Qb hT hP ?_
 ·exact of_decide_eq_true rfl
 refine QZ 4 ?_
 repeat' first |(refine Go.mk ?_;conv=>whnf) |refine Ql.go ?_ ?_ |refine Qm.go (fun _=>?_) (fun _=>?_) |refine Br.dec (fun _=>?_) (fun _=>?_) |refine Br.go (fun _=>?_) (fun _=>?_) |refine Qd hT hP mixed ?_ |refine Qb hT hP ?_
 all_goals first
  |exact of_decide_eq_true rfl
  |exact .mk [] [1] _ R R R R R R R
def QCa:Qk:=⟨[gD],fun (d,_)=>(none,I (land .i64 (d.1.getD 1 0%256) (d.1.getD 2 0%256)),[])⟩
theorem QzN:Qi Tryz.prog 215 QCa.spec:=by
 have hP:Qe Tryz.prog _:=Qa Qgo (Qc (T:=tree))
 have hT:=tabs hP Qf
 refine QCa.good (fn:=Tryz.f215) hT hP Tryz.func215 (by kernel_rfl) rfl fun (d:Dv) _=>?_
 obtain ⟨N,M⟩:=d
 repeat' first |(refine Go.mk ?_;conv=>whnf) |refine Ql.go ?_ ?_ |refine Qm.go (fun _=>?_) (fun _=>?_) |refine Br.dec (fun _=>?_) (fun _=>?_) |refine Br.go (fun _=>?_) (fun _=>?_) |refine Qd hT hP mixed ?_ |refine Qb hT hP ?_
 all_goals first
  |exact of_decide_eq_true rfl
  |exact .mk [] [] _ R R R R R R R
def QrZ:Qk:=⟨[gC,gD],fun (c,d,_)=>(some (c.2.1=4),I (land .i64 (d.1.getD 1 0%256) (d.1.getD 2 0%256)),[])⟩
theorem Qr0:Qi Tryz.prog 72 QrZ.spec:=by
 have hP:Qe Tryz.prog _:=Qa QcK (Qc (T:=tree))
 have hT:=tabs hP Qf
 refine QrZ.good (fn:=Tryz.f72) hT hP Tryz.func72 (by kernel_rfl) rfl fun (c:Cv) (d:Dv) hp=>?_
 obtain ⟨cn,ck,cb,cs,cd⟩:=c
 obtain rfl:ck=4:=hp _ rfl
 obtain ⟨N,M⟩:=d
 repeat' first |(refine Go.mk ?_;conv=>whnf) |refine Ql.go ?_ ?_ |refine Qm.go (fun _=>?_) (fun _=>?_) |refine Br.dec (fun _=>?_) (fun _=>?_) |refine Br.go (fun _=>?_) (fun _=>?_) |refine Qd hT hP mixed ?_ |refine Qb hT hP ?_
 all_goals first
  |exact rfl
  |exact of_decide_eq_true rfl
  |exact .mk [] [] _ R R R R R R R
def QBw (N:List Int) (k:Int):List Int:=[k%256,N.getD 1 0%256,N.getD 2 0%256]
def QGt:Qk:=⟨[gD,gi],fun (d,k,_)=>(none,QeC,[.arr (.int .i64) (QBw d.1 k)])⟩
theorem QCb:Qi Tryz.prog 157 QGt.spec:=by
 have hP:Qe Tryz.prog _:=Qa Qgo (Qa QT (Qc (T:=tree)))
 have hT:=tabs hP Qf
 refine QGt.good (fn:=Tryz.f157) hT hP Tryz.func157 (by kernel_rfl) rfl fun (d:Dv) (k:Int) _=>?_
 obtain ⟨N,M⟩:=d
 repeat' first |(refine Go.mk ?_;conv=>whnf) |refine Ql.go ?_ ?_ |refine Qm.go (fun _=>?_) (fun _=>?_) |refine Br.dec (fun _=>?_) (fun _=>?_) |refine Br.go (fun _=>?_) (fun _=>?_) |refine Qd hT hP mixed ?_ |refine Qb hT hP ?_
 all_goals first
  |exact of_decide_eq_true rfl
  |exact .mk [] [2] _ R R R R R R R
def Qr1:Qk:=⟨[gC,gD,gi],fun (c,d,k,_)=>(some (c.2.1=4),QeC,[.arr (.int .i64) (QBw d.1 k)])⟩
theorem Qr2:Qi Tryz.prog 73 Qr1.spec:=by
 have hP:Qe Tryz.prog _:=Qa QcK (Qa Qb0 (Qc (T:=tree)))
 have hT:=tabs hP Qf
 refine Qr1.good (fn:=Tryz.f73) hT hP Tryz.func73 (by kernel_rfl) rfl fun (c:Cv) (d:Dv) (k:Int) hp=>?_
 obtain ⟨cn,ck,cb,cs,cd⟩:=c
 obtain rfl:ck=4:=hp _ rfl
 obtain ⟨N,M⟩:=d
 repeat' first |(refine Go.mk ?_;conv=>whnf) |refine Ql.go ?_ ?_ |refine Qm.go (fun _=>?_) (fun _=>?_) |refine Br.dec (fun _=>?_) (fun _=>?_) |refine Br.go (fun _=>?_) (fun _=>?_) |refine Qd hT hP mixed ?_ |refine Qb hT hP ?_
 all_goals first
  |exact rfl
  |exact of_decide_eq_true rfl
  |exact .mk [] [3] _ R R R R R R R
def pwN (N:List Int) (at_ k:Int):List Int:=[N.getD 0 0%256,if at_=0 then k%256 else N.getD 1 0%256,if at_=1 then k%256 else N.getD 2 0%256]
def Qr3:Qk:=⟨[gD,gi,gi],fun (d,at_,k,_)=>(none,QeC,[.arr (.int .i64) (pwN d.1 at_ k)])⟩
theorem Qr4:Qi Tryz.prog 181 Qr3.spec:=by
 have hP:Qe Tryz.prog _:=Qa Qgo (Qa QT (Qc (T:=tree)))
 have hT:=tabs hP Qf
 refine Qr3.good (fn:=Tryz.f181) hT hP Tryz.func181 (by kernel_rfl) rfl fun (d:Dv) (a k:Int) _=>?_
 obtain ⟨N,M⟩:=d
 repeat' first |(refine Go.mk ?_;conv=>whnf) |refine Ql.go ?_ ?_ |refine Qm.go (fun _=>?_) (fun _=>?_) |refine Br.dec (fun _=>?_) (fun _=>?_) |refine Br.go (fun _=>?_) (fun _=>?_) |refine Qd hT hP mixed ?_ |refine Qb hT hP ?_
 all_goals (try subst_vars)
 all_goals first
  |exact of_decide_eq_true rfl
  |exact .mk [] [2] _ R R R R R R R
  |skip
 rename_i h0 h1
 refine .mk [] [2] _ R R R R R ?_ rfl
 show [some (Blk.arr (.int .i64) (QdF N))]=[some (Blk.arr (.int .i64) (pwN N a k))]
 simp only [pwN,if_neg h0,if_neg h1];rfl
def QnY:Qk:=⟨[gC,gD,gi,gi],fun (c,d,at_,k,_)=>(some (c.2.1=4),QeC,[.arr (.int .i64) (pwN d.1 at_ k)])⟩
theorem QpD:Qi Tryz.prog 77 QnY.spec:=by
 have hP:Qe Tryz.prog _:=Qa QcK (Qa Qb0 (Qc (T:=tree)))
 have hT:=tabs hP Qf
 refine QnY.good (fn:=Tryz.f77) hT hP Tryz.func77 (by kernel_rfl) rfl fun (c:Cv) (d:Dv) (a k:Int) hp=>?_
 obtain ⟨cn,ck,cb,cs,cd⟩:=c
 obtain rfl:ck=4:=hp _ rfl
 obtain ⟨N,M⟩:=d
 repeat' first |(refine Go.mk ?_;conv=>whnf) |refine Ql.go ?_ ?_ |refine Qm.go (fun _=>?_) (fun _=>?_) |refine Br.dec (fun _=>?_) (fun _=>?_) |refine Br.go (fun _=>?_) (fun _=>?_) |refine Qd hT hP mixed ?_ |refine Qb hT hP ?_
 all_goals (try subst_vars)
 all_goals first
  |exact rfl
  |exact of_decide_eq_true rfl
  |exact .mk [] [3] _ R R R R R R R
  |skip
 rename_i h0 h1
 refine .mk [] [3] _ R R R R R ?_ rfl
 show [some (Blk.arr (.int .i64) (QdF N))]=[some (Blk.arr (.int .i64) (pwN N a k))]
 simp only [pwN,if_neg h0,if_neg h1];rfl
def Qr5 (N:List Int):Int:=lor .i64 (land .i64 (N.getD 1 0%256) (N.getD 2 0%256)) (Q3 .i64 (N.getD 0 0%256) (N.getD 2 0%256))
def Qik (N:List Int) (a:Int):Int:=QbB [Qr5 N,N.getD 2 0%256] a
def Qx3:Qk:=⟨[gD,gi],fun (d,a,_)=>(none,.tup [.agg [.own 0,.imm (.slice none 0 0)],I1 (Qik d.1 a)],[.arr (.int .i64) (QdF d.1)])⟩
theorem Qvz:Qi Tryz.prog 174 Qx3.spec:=by
 have hP:Qe Tryz.prog _:=Qa Qgo (Qc (T:=tree))
 have hT:=tabs hP Qf
 refine Qx3.good (fn:=Tryz.f174) hT hP Tryz.func174 (by kernel_rfl) rfl fun (d:Dv) (a:Int) _=>?_
 obtain ⟨N,M⟩:=d
 repeat' first |(refine Go.mk ?_;conv=>whnf) |refine Ql.go ?_ ?_ |refine Qm.go (fun _=>?_) (fun _=>?_) |refine Br.dec (fun _=>?_) (fun _=>?_) |refine Br.go (fun _=>?_) (fun _=>?_) |refine Qd hT hP mixed ?_ |refine Qb hT hP ?_
 all_goals (try subst_vars)
 all_goals first
  |exact of_decide_eq_true rfl
  |exact .mk [] [2] _ R R R R R R R
  |skip
 rename_i h0 h1
 have e:Qik N a=0:=Qg1 fun i hi=>by
  have:i < 2:=hi
  omega
 refine .mk [] [2] _ R R R R R R ?_
 show AV.tup [.agg [.own 0,.imm (.slice none 0 0)],I1 0]=AV.tup [.agg [.own 0,.imm (.slice none 0 0)],I1 (Qik N a)]
 rw [e]
theorem Qx4 (N:List Int) (k:Nat) (hk:k≤62):0≤land .i64 (shr .i64 (N.getD 2 0%256) k) 1∧land .i64 (shr .i64 (N.getD 2 0%256) k) 1 < 3:=by
 obtain ⟨m,hm⟩:=Int.eq_ofNat_of_zero_le (show 0≤N.getD 2 0%256 by omega)
 rw [hm,QrY (by omega) hk]
 omega
def QnZ:Qk:=⟨[gC,gD,gi],fun (c,d,a,_)=>(some (c.2.1=4),.tup [.agg [.own 0,.imm (.slice none 0 0)],I1 (Qik d.1 a)],[.arr (.int .i64) (QdF d.1)])⟩
theorem QpE:Qi Tryz.prog 76 QnZ.spec:=by
 have hP:Qe Tryz.prog _:=Qa QcK (Qa QfD (Qc (T:=tree)))
 have hT:=tabs hP Qf
 refine QnZ.good (fn:=Tryz.f76) hT hP Tryz.func76 (by kernel_rfl) rfl fun (c:Cv) (d:Dv) (a:Int) hp=>?_
 obtain ⟨cn,ck,cb,cs,cd⟩:=c
 obtain rfl:ck=4:=hp _ rfl
 obtain ⟨N,M⟩:=d
 repeat' first |(refine Go.mk ?_;conv=>whnf) |refine Ql.go ?_ ?_ |refine Qm.go (fun _=>?_) (fun _=>?_) |refine Br.dec (fun _=>?_) (fun _=>?_) |refine Br.go (fun _=>?_) (fun _=>?_) |refine Qd hT hP mixed ?_ |refine Qb hT hP ?_
 ·exact rfl
 have hN:∀ j:Nat,0≤N.getD j 0%256∧N.getD j 0%256 < 256:=fun j=>by omega
 refine Qay hT hP (X:=Int × Int) (fun (i,o)=>St.mk (E3 ((.cell (.ptr 0 0)) :: (.cell (.ptr 1 0)) :: (.cell (.ptr 2 0)) :: (.cell (.ptr 3 0)) :: E1 ((.cell (.own 4)) :: (.cell (.fn 142 [2])) :: E3 ((I o) :: E40 (E40 (E3 (E1 ((I i) :: E40 (E40 (E40 (E40 (E10 (E5 (E3 (E1 [])))))))))))))))
  [some (.var [.imm (.string cn),iv .i64 4,iv .i64 cb,iv .i64 cs,.ro (.int .u8) cd]),some (.var [.own 4,.imm (.slice none 0 0)]),some (.var [iv .i64 a]),some (.var [.imm (.slice none 0 0),.imm (.slice none 0 0)]),some (.arr (.int .i64) (QdF N))])
  (fun (i,o)=>∃ k:Nat,i=k∧k≤8∧o=QkY (QdF N) (N.getD 2 0%256) k) (fun (i,_)=>(8-i).toNat) (0,0) (Le.mk [] [0,1,2,3,4] R R ?_ ?_) ?_ fun (i,o) hi=>?_
 rotate_right
 repeat' first |(refine Go.mk ?_;conv=>whnf) |refine Ql.go ?_ ?_ |refine Qm.go (fun _=>?_) (fun _=>?_) |refine Br.dec (fun _=>?_) (fun _=>?_) |refine Br.go (fun _=>?_) (fun _=>?_) |refine Qd hT hP mixed ?_ |refine Qb hT hP ?_
 rotate_right 3
 ·exact rfl
 ·repeat' first |exact trivial |exact ⟨rfl,rfl⟩ |refine And.intro ?_ ?_
 ·exact ⟨0,rfl,by omega,rfl⟩
 all_goals first
  |exact of_decide_eq_true rfl
  |(obtain ⟨k,rfl,hk,rfl⟩:=hi;omega)
  |(obtain ⟨k,rfl,hk,rfl⟩:=hi
     have e:=Qx4 N k (by omega)
     exact ⟨e.1,e.2⟩)
  |(obtain ⟨k,rfl,hk,rfl⟩:=hi
     have e:=Qx4 N k (by omega)
     exact (by omega:(land .i64 (shr .i64 (N.getD 2 0%256) k) 1).toNat < 3))
  |skip
 ·obtain ⟨k,rfl,hk,rfl⟩:=hi
  have e:IntKind.i64.wrap ((k:Int)+1)=((k+1:Nat):Int):=by rw [w64 (by omega) (by omega)];omega
  apply Exists.intro (_,_)
  refine And.intro ?_ (And.intro ?_ (Le.mk [] [0,1,2,3,4] R R ?hh ?ht))
  case hh=>exact rfl
  case ht=>repeat' first |exact trivial |exact ⟨rfl,rfl⟩ |refine And.intro ?_ ?_
  ·exact ⟨k+1,e,by omega,rfl⟩
  ·show (8-IntKind.i64.wrap ((k:Int)+1)).toNat < (8-(k:Int)).toNat
   rw [e];omega
 ·obtain ⟨k,rfl,hk,rfl⟩:=hi
  refine .mk [] [4] _ R R R R R R ?_
  show AV.tup [.agg [.own 0,.imm (.slice none 0 0)],I1 (QbB [QkY (QdF N) (N.getD 2 0%256) k,N.getD 2 0%256] a)]=AV.tup [.agg [.own 0,.imm (.slice none 0 0)],I1 (QbB [Qr5 N,N.getD 2 0%256] a)]
  have e:k=8:=by omega
  subst e
  have e2:QkY (QdF N) (N.getD 2 0%256) 8=Qr5 N:=QzL _ _ _ (hN 0) (hN 1) (hN 2)
  rw [e2]
def Qe2 (N:List Int):List Int:=[N.getD 0 0%65536,N.getD 1 0%65536,N.getD 2 0%8,N.getD 3 0%2]
def Qdd:List Int→List Int
 | [a,b,c,f]=>if c%2=0 then [a,b,c,f] else if a > 0 then [a-1,b,c,f] else if c/2%2=1 then [b,b,c,1] else [a,b,c-1,1]
 |l=>l
def Qb5:Nat→List Int→List Int
 |0,l=>l
 |n+1,l=>Qb5 n (Qdd l)
theorem QkZ:∀ (m n:Nat) (l:List Int),Qb5 (m+n) l=Qb5 n (Qb5 m l)
 |0,n,l=>by rw [Nat.zero_add];rfl
 |m+1,n,l=>by
   have e:m+1+n=(m+n)+1:=by omega
   rw [e]
   exact QkZ m n (Qdd l)
theorem Qr6 {a b c f:Int} (h:c%2=0):∀ n,Qb5 n [a,b,c,f]=[a,b,c,f]
 |0=>rfl
 |n+1=>by
   rw [Qb5,Qdd,if_pos h]
   exact Qr6 h n
theorem Qn0 {b c f:Int} (h:¬ c%2=0):∀ (n:Nat) (a:Int),(n:Int)≤a→Qb5 n [a,b,c,f]=[a-n,b,c,f]
 |0,a,_=>by rw [Qb5];simp
 |n+1,a,ha=>by
   rw [Qb5,Qdd,if_neg h,if_pos (by omega),Qn0 h n (a-1) (by omega)]
   have:a-1-(n:Int)=a-((n+1:Nat):Int):=by omega
   rw [this]
theorem Qmn {b c f a:Int} (h:¬ c%2=0) (ha:0≤a) (n:Nat) (hn:a < n):Qb5 n [a,b,c,f]=Qb5 (n-a.toNat-1) (Qdd [0,b,c,f]):=by
 have e:n=a.toNat+((n-a.toNat-1)+1):=by omega
 rw [e,QkZ,Qn0 h a.toNat a (by omega)]
 have e2:a-(a.toNat:Int)=0:=by omega
 have e3:a.toNat+(n-a.toNat-1+1)-a.toNat-1=n-a.toNat-1:=by omega
 rw [e2,e3]
 rfl
theorem QCc {b c:Int} (h:¬ c%2=0) (h2:c/2%2=1) (hb:0≤b):∀ (m n:Nat),n≤m→Qb5 n [b,b,c,1]=[b-(n:Int)%(b+1),b,c,1]:=by
 intro m
 induction m with
 |zero =>
   intro n hn
   have:n=0:=by omega
   subst this
   rw [Qb5];simp
 |succ m ih =>
   intro n hn
   by_cases hle:(n:Int)≤b
   ·rw [Qn0 h n b hle,Int.emod_eq_of_lt (by omega) (by omega)]
   ·rw [Qmn h hb n (by omega),Qdd,if_neg h,if_neg (by omega),if_pos h2,ih _ (by omega)]
    have e:((n-b.toNat-1:Nat):Int)=(n:Int)-(b+1):=by omega
    rw [e,Int.sub_emod_right]
theorem QvA {a b c f:Int} (h:¬ c%2=0) (h2:c/2%2=1) (ha:0≤a) (hb:0≤b) (n:Nat) (hn:a < n):Qb5 n [a,b,c,f]=[b-((n:Int)-a-1)%(b+1),b,c,1]:=by
 rw [Qmn h ha n hn,Qdd,if_neg h,if_neg (by omega),if_pos h2,QCc h h2 hb _ _ (Nat.le_refl _)]
 have e:((n-a.toNat-1:Nat):Int)=(n:Int)-a-1:=by omega
 rw [e]
theorem QzO {a b c f:Int} (h:¬ c%2=0) (h2:¬ c/2%2=1) (ha:0≤a) (n:Nat) (hn:a < n):Qb5 n [a,b,c,f]=[0,b,c-1,1]:=by
 rw [Qmn h ha n hn,Qdd,if_neg h,if_neg (by omega),if_neg h2]
 exact Qr6 (by omega) _
theorem ctl {c:Int} (h0:0≤c) (h1:c < 8):((land .i64 c 1 == 0)=decide (c%2=0))∧((land .i64 c 2 != 0)=decide (c/2%2=1))∧((land .i64 c 4 != 0)=decide (c≥4))∧(¬ c%2=0→Q3 .i64 c 1=c-1):=by
 have:c=0∨c=1∨c=2∨c=3∨c=4∨c=5∨c=6∨c=7:=by omega
 rcases this with rfl |rfl |rfl |rfl |rfl |rfl |rfl |rfl<;>decide +kernel
theorem QaY {l l':List Int} (h:l=l'):[some (Blk.arr (.int .i64) l)]=[some (Blk.arr (.int .i64) l')]:=by rw [h]
abbrev tA (N:List Int):Int:=N.getD 0 0%65536
abbrev tB (N:List Int):Int:=N.getD 1 0%65536
abbrev tC (N:List Int):Int:=N.getD 2 0%8
abbrev tF (N:List Int):Int:=N.getD 3 0%2
theorem tR (N:List Int):(0≤tA N∧tA N < 65536)∧(0≤tB N∧tB N < 65536)∧(0≤tC N∧tC N < 8)∧(0≤tF N∧tF N < 2):=by
 unfold tA tB tC tF;omega
theorem QbG (N:List Int):Qe2 N=[tA N,tB N,tC N,tF N]:=rfl
def Qn1:Qk:=⟨[gC,gD],fun (c,d,_)=>(some (c.2.1=3),QeC,[.arr (.int .i64) (Qe2 d.1)])⟩
theorem QcL:Qi Tryz.prog 58 Qn1.spec:=by
 have hP:Qe Tryz.prog _:=Qa Qcy (Qc (T:=tree))
 have hT:=tabs hP Qf
 refine Qn1.good (fn:=Tryz.f58) hT hP Tryz.func58 (by kernel_rfl) rfl fun (c:Cv) (d:Dv) hp=>?_
 obtain ⟨cn,ck,cb,cs,cd⟩:=c
 obtain rfl:ck=3:=hp _ rfl
 obtain ⟨N,M⟩:=d
 repeat' first |(refine Go.mk ?_;conv=>whnf) |refine Ql.go ?_ ?_ |refine Qm.go (fun _=>?_) (fun _=>?_) |refine Br.dec (fun _=>?_) (fun _=>?_) |refine Br.go (fun _=>?_) (fun _=>?_) |refine Qd hT hP mixed ?_ |refine Qb hT hP ?_
 ·exact (by decide:([65536,65536,8,2]:List Int).length≤1000∧∀ m ∈ ([65536,65536,8,2]:List Int),0 < m∧m≤4611686018427387904)
 ·exact .mk [] [5] _ R R R R R R R
def QCd:Qk:=⟨[gD],fun (d,_)=>(none,.cell (.own 0),[.arr (.int .i64) (Qe2 d.1)])⟩
theorem Qjf:Qi Tryz.prog 202 QCd.spec:=by
 have hP:Qe Tryz.prog _:=Qa QT (Qc (T:=tree))
 have hT:=tabs hP Qf
 refine QCd.good (fn:=Tryz.f202) hT hP Tryz.func202 (by kernel_rfl) rfl fun (d:Dv) _=>?_
 obtain ⟨N,M⟩:=d
 repeat' first |(refine Go.mk ?_;conv=>whnf) |refine Ql.go ?_ ?_ |refine Qm.go (fun _=>?_) (fun _=>?_) |refine Br.dec (fun _=>?_) (fun _=>?_) |refine Br.go (fun _=>?_) (fun _=>?_) |refine Qd hT hP mixed ?_ |refine Qb hT hP ?_
 all_goals first
  |exact of_decide_eq_true rfl
  |exact .mk [] [1] _ R R R R R R R
def QCe:Qk:=⟨[],fun _=>(none,QeC,[.arr (.int .i64) [0,0,0,0]])⟩
theorem QzP:Qi Tryz.prog 110 QCe.spec:=by
 have hP:Qe Tryz.prog _:=(Qc (T:=tree))
 have hT:=tabs hP Qf
 refine QCe.good (fn:=Tryz.f110) hT hP Tryz.func110 (by kernel_rfl) rfl fun _=>?_
 repeat' first |(refine Go.mk ?_;conv=>whnf) |refine Ql.go ?_ ?_ |refine Qm.go (fun _=>?_) (fun _=>?_) |refine Br.dec (fun _=>?_) (fun _=>?_) |refine Br.go (fun _=>?_) (fun _=>?_) |refine Qd hT hP mixed ?_ |refine Qb hT hP ?_
 all_goals first
  |exact of_decide_eq_true rfl
  |exact .mk [] [1] _ R R R R R R R
def Qr7:Qk:=⟨[gC,gD],fun (c,d,_)=>(some (c.2.1=3),QeC,[.arr (.int .i64) (Qdd (Qe2 d.1))])⟩
theorem Qr8:Qi Tryz.prog 79 Qr7.spec:=by
 have hP:Qe Tryz.prog _:=Qa QcL (Qc (T:=tree))
 have hT:=tabs hP Qf
 refine Qr7.good (fn:=Tryz.f79) hT hP Tryz.func79 (by kernel_rfl) rfl fun (c:Cv) (d:Dv) hp=>?_
 obtain ⟨cn,ck,cb,cs,cd⟩:=c
 obtain rfl:ck=3:=hp _ rfl
 obtain ⟨N,M⟩:=d
 obtain ⟨rA,rB,rC,rF⟩:=tR N
 repeat' first |(refine Go.mk ?_;conv=>whnf) |refine Ql.go ?_ ?_ |refine Qm.go (fun _=>?_) (fun _=>?_) |refine Br.dec (fun _=>?_) (fun _=>?_) |refine Br.go (fun _=>?_) (fun _=>?_) |refine Qd hT hP mixed ?_ |refine Qb hT hP ?_
 all_goals first
  |exact rfl
  |exact of_decide_eq_true rfl
  |skip
 ·rename_i h
  have h:Int.tmod (tC N) 2=0:=h
  refine .mk [] [3] _ R R R R R (QaY (l:=Qe2 N) ?_) rfl
  rw [QbG,Qdd,if_pos]
  rw [Int.tmod_eq_emod_of_nonneg (by omega)] at h;exact h
 ·rename_i h h1
  have h:¬ Int.tmod (tC N) 2=0:=h
  have h1:tA N > 0:=h1
  rw [Int.tmod_eq_emod_of_nonneg (by omega)] at h
  refine .mk [] [3] _ R R R R R (QaY (l:=[IntKind.i64.wrap (tA N-1),tB N,tC N,tF N]) ?_) rfl
  show _=Qdd (Qe2 N)
  rw [QbG,Qdd,if_neg h,if_pos h1,w64 (by omega) (by omega)]
 ·rename_i h h1 h2
  have h:¬ Int.tmod (tC N) 2=0:=h
  have h1:¬ tA N > 0:=h1
  have h2:Int.tmod (IntKind.i64.wrap (Int.tdiv (tC N) 2)) 2=1:=h2
  rw [Int.tmod_eq_emod_of_nonneg (by omega)] at h
  rw [Int.tdiv_eq_ediv_of_nonneg (by omega),w64 (by omega) (by omega),Int.tmod_eq_emod_of_nonneg (by omega)] at h2
  refine .mk [] [3] _ R R R R R (QaY (l:=[tB N,tB N,tC N,1]) ?_) rfl
  show _=Qdd (Qe2 N)
  rw [QbG,Qdd,if_neg h,if_neg h1,if_pos h2]
 ·rename_i h h1 h2
  have h:¬ Int.tmod (tC N) 2=0:=h
  have h1:¬ tA N > 0:=h1
  have h2:¬ Int.tmod (IntKind.i64.wrap (Int.tdiv (tC N) 2)) 2=1:=h2
  rw [Int.tmod_eq_emod_of_nonneg (by omega)] at h
  rw [Int.tdiv_eq_ediv_of_nonneg (by omega),w64 (by omega) (by omega),Int.tmod_eq_emod_of_nonneg (by omega)] at h2
  refine .mk [] [3] _ R R R R R (QaY (l:=[tA N,tB N,IntKind.i64.wrap (tC N-1),1]) ?_) rfl
  show _=Qdd (Qe2 N)
  rw [QbG,Qdd,if_neg h,if_neg h1,if_neg h2,w64 (x:=tC N-1) (by omega) (by omega)]
def Qx5:Qk:=⟨[gD,gi],fun (d,k,_)=>(some (k≤4611686018427387904),QeC,[.arr (.int .i64) (Qb5 k.toNat (Qe2 d.1))])⟩
theorem QvB:Qi Tryz.prog 156 Qx5.spec:=by
 have hP:Qe Tryz.prog _:=Qa Qjf (Qc (T:=tree))
 have hT:=tabs hP Qf
 refine Qx5.good (fn:=Tryz.f156) hT hP Tryz.func156 (by kernel_rfl) rfl fun (d:Dv) (k:Int) hp=>?_
 have hp:k≤4611686018427387904:=hp _ rfl
 obtain ⟨N,M⟩:=d
 obtain ⟨rA,rB,rC,rF⟩:=tR N
 repeat' first |(refine Go.mk ?_;conv=>whnf) |refine Ql.go ?_ ?_ |refine Qm.go (fun _=>?_) (fun _=>?_) |refine Br.dec (fun _=>?_) (fun _=>?_) |refine Br.go (fun _=>?_) (fun _=>?_) |refine Qd hT hP mixed ?_ |refine Qb hT hP ?_
 all_goals first
  |exact rfl
  |exact of_decide_eq_true rfl
  |skip
 all_goals obtain ⟨c1,c2,c4,c3⟩:=ctl (c:=tC N) (by omega) (by omega)
 ·rename_i h
  refine .mk [] [2] _ R R R R R (QaY (l:=Qe2 N) ?_) rfl
  show _=Qb5 k.toNat (Qe2 N)
  have:k.toNat=0:=by omega
  rw [this];rfl
 ·rename_i h0 h
  have h:land .i64 (tC N) 1=0:=h
  refine .mk [] [2] _ R R R R R (QaY (l:=Qe2 N) ?_) rfl
  show _=Qb5 k.toNat (Qe2 N)
  rw [h] at c1
  rw [QbG,Qr6 (of_decide_eq_true c1.symm)]
 ·rename_i h0 h h1
  have h:¬ land .i64 (tC N) 1=0:=h
  have h1:k≤tA N:=h1
  have hc:¬ tC N%2=0:=by
   intro e;rw [decide_eq_true e] at c1;exact h (by simpa using c1)
  refine .mk [] [2] _ R R R R R (QaY (l:=[IntKind.i64.wrap (tA N-k),tB N,tC N,tF N]) ?_) rfl
  show _=Qb5 k.toNat (Qe2 N)
  rw [QbG,Qn0 hc _ _ (by omega),w64 (by omega) (by omega)]
  have:((k.toNat:Nat):Int)=k:=by omega
  rw [this]
 ·show IntKind.i64.wrap (tB N+1)≠0
  rw [w64 (by omega) (by omega)]
  omega
 ·rename_i h0 h h1 h2
  have h:¬ land .i64 (tC N) 1=0:=h
  have h1:¬ k≤tA N:=h1
  have h2:(land .i64 (tC N) 2 != 0)=true:=h2
  have hc:¬ tC N%2=0:=by
   intro e;rw [decide_eq_true e] at c1;exact h (by simpa using c1)
  rw [h2] at c2
  refine .mk [] [2] _ R R R R R (QaY (l:=[IntKind.i64.wrap (tB N-Int.tmod (IntKind.i64.wrap (IntKind.i64.wrap (k-tA N)-1)) (IntKind.i64.wrap (tB N+1))),tB N,tC N,1]) ?_) rfl
  show _=Qb5 k.toNat (Qe2 N)
  rw [QbG,QvA hc (of_decide_eq_true c2.symm) (by omega) (by omega) _ (by omega)]
  have e:((k.toNat:Nat):Int)=k:=by omega
  rw [e,w64 (x:=k-tA N) (by omega) (by omega),w64 (x:=k-tA N-1) (by omega) (by omega),w64 (x:=tB N+1) (by omega) (by omega),Int.tmod_eq_emod_of_nonneg (by omega)]
  have h5:=Int.emod_nonneg (k-tA N-1) (show tB N+1≠0 by omega)
  have h6:=Int.emod_lt_of_pos (k-tA N-1) (show 0 < tB N+1 by omega)
  rw [w64 (by omega) (by omega)]
 ·rename_i h0 h h1 h2
  have h:¬ land .i64 (tC N) 1=0:=h
  have h1:¬ k≤tA N:=h1
  have h2:(land .i64 (tC N) 2 != 0)=false:=h2
  have hc:¬ tC N%2=0:=by
   intro e;rw [decide_eq_true e] at c1;exact h (by simpa using c1)
  rw [h2] at c2
  refine .mk [] [2] _ R R R R R (QaY (l:=[0,tB N,Q3 .i64 (tC N) 1,1]) ?_) rfl
  show _=Qb5 k.toNat (Qe2 N)
  rw [QbG,QzO hc (of_decide_eq_false c2.symm) (by omega) _ (by omega),c3 hc]
theorem Qk0 {f z:Nat} (h:f+z≤62):QcI (f:Int) (z:Int)=((f:Int),(z:Int)):=by
 simp only [QcI,Qat,Q9,QbZ]
 have e1:max 0 (min (f:Int) 62)=f:=by omega
 rw [e1,w64 (x:=62-(f:Int)) (by omega) (by omega)]
 have e2:max 0 (min (z:Int) (62-f))=z:=by omega
 rw [e2]
theorem QzQ (v:Int) {k:Nat} (h:k≤62):((u64 v%2 ^ k:Nat):Int)=v%2 ^ k:=by
 have:=Qi5 v k (by omega) (by omega)
 rw [QfB,QeW (by omega) (by omega)] at this
 exact this
theorem Qr9 {N V f z:Nat} (hN:N < 2 ^ 62) (hV:V < 2 ^ z) (h:f+z≤62) :
 (N ^^^ (N &&& (2 ^ z-1)*2 ^ f)) ||| V*2 ^ f=2 ^ f*(2 ^ z*(N/2 ^ (f+z))+V)+N%2 ^ f:=by
 apply Nat.eq_of_testBit_eq
 intro i
 rw [Nat.testBit_two_pow_mul_add _ (Nat.mod_lt _ (Nat.pow_pos (by omega))),Nat.testBit_or,QdC,Nat.testBit_mul_two_pow,Nat.testBit_mul_two_pow,Nat.testBit_two_pow_sub_one]
 by_cases h1:i < f
 ·rw [if_pos h1,Nat.testBit_mod_two_pow]
  have e:decide (f≤i)=false:=by simp;omega
  simp [e,h1]
 ·rw [if_neg h1,Nat.testBit_two_pow_mul_add _ hV]
  have e:decide (f≤i)=true:=by simp;omega
  by_cases h2:i-f < z
  ·simp [e,h2]
  ·rw [if_neg h2,Nat.testBit_div_two_pow]
   have e3:V.testBit (i-f)=false:=Nat.testBit_lt_two_pow (Nat.lt_of_lt_of_le hV (QkB (by omega)))
   have e4:i-f-z+(f+z)=i:=by omega
   have e5:f+z+(i-f-z)=i:=by omega
   simp [e,h2,e3,e4,e5]
theorem QvC {n f z:Nat} (hn:n < 2 ^ 62) (h:f+z≤62):QFP (n:Int) (f:Int) (z:Int)=((n/2 ^ f%2 ^ z:Nat):Int):=by
 have hl:QlM (n:Int) 62=((u64 (n:Int)%2 ^ 62:Nat):Int):=QfB n 62
 rw [Qal (by omega),Nat.mod_eq_of_lt hn] at hl
 unfold QFP
 rw [Qk0 h,hl]
 simp only
 rw [QxN (by omega),QfB,QeW (by omega) (by omega),Qal (Nat.lt_of_le_of_lt (Nat.div_le_self _ _) (by omega))]
 simp
theorem QvD {n f z:Nat} (v:Int) (hn:n < 2 ^ 62) (h:f+z≤62):QFQ (n:Int) (f:Int) (z:Int) v=((2 ^ f*(2 ^ z*(n/2 ^ (f+z))+u64 v%2 ^ z)+n%2 ^ f:Nat):Int):=by
 have hz:2 ^ f*2 ^ z≤2 ^ 62:=by rw [← Nat.pow_add];exact QkB h
 have hz0:0 < 2 ^ z:=Nat.pow_pos (by omega)
 have hf0:0 < 2 ^ f:=Nat.pow_pos (by omega)
 have hV:u64 v%2 ^ z < 2 ^ z:=Nat.mod_lt _ hz0
 have hl:QlM (n:Int) 62=((u64 (n:Int)%2 ^ 62:Nat):Int):=QfB n 62
 rw [Qal (by omega),Nat.mod_eq_of_lt hn] at hl
 have hv:QlM v z=((u64 v%2 ^ z:Nat):Int):=by rw [QfB,QeW (by omega) (by omega)];simp
 have b1:(2 ^ z-1)*2 ^ f < 2 ^ 63:=by
  have:(2 ^ z-1)*2 ^ f≤2 ^ z*2 ^ f:=Nat.mul_le_mul_right _ (by omega)
  rw [Nat.mul_comm (2 ^ z)] at this
  omega
 have b2:u64 v%2 ^ z*2 ^ f < 2 ^ 63:=by
  have:u64 v%2 ^ z*2 ^ f≤2 ^ z*2 ^ f:=Nat.mul_le_mul_right _ (by omega)
  rw [Nat.mul_comm (2 ^ z)] at this
  omega
 have key:=Qr9 hn hV h
 have b3:2 ^ f*(2 ^ z*(n/2 ^ (f+z))+u64 v%2 ^ z)+n%2 ^ f < 2 ^ 62:=by
  rw [← key]
  refine Nat.or_lt_two_pow (Nat.xor_lt_two_pow hn (Nat.lt_of_le_of_lt Nat.and_le_left hn)) ?_
  have:u64 v%2 ^ z*2 ^ f < 2 ^ z*2 ^ f:=Nat.mul_lt_mul_of_pos_right hV hf0
  rw [Nat.mul_comm (2 ^ z)] at this
  omega
 rw [← key]
 unfold QFQ
 rw [Qk0 h]
 simp only
 rw [hl,hv,Qrr (by omega),Qrs b1 (by omega),Qrs b2 (by omega)]
 have u1:u64 (n:Int)=n:=Qal (by omega)
 have u2:u64 (((2 ^ z-1)*2 ^ f:Nat):Int)=(2 ^ z-1)*2 ^ f:=Qal (by omega)
 have u3:u64 ((u64 v%2 ^ z*2 ^ f:Nat):Int)=u64 v%2 ^ z*2 ^ f:=Qal (by omega)
 rw [Qc9 _ _ (by rw [u1];omega),u1,u2]
 have u4:u64 ((n ^^^ n &&& (2 ^ z-1)*2 ^ f:Nat):Int)=n ^^^ (n &&& (2 ^ z-1)*2 ^ f):=Qal (by
  have:n ^^^ (n &&& (2 ^ z-1)*2 ^ f) < 2 ^ 62:=Nat.xor_lt_two_pow hn (Nat.lt_of_le_of_lt Nat.and_le_left hn)
  omega)
 rw [QfA _ _ (by rw [u3,u4,key];omega),u3,u4]
def QGu:Qk:=⟨[gi,gi,gi],fun (n,a,s,_)=>(some (0≤n∧n < 4611686018427387904∧0≤a∧0≤s∧a+s≤62),I (n/2 ^ a.toNat%2 ^ s.toNat),[])⟩
theorem Qhd:Qi Tryz.prog 233 QGu.spec:=by
 have hP:Qe Tryz.prog _:=Qa QnB (Qa QxL (Qc (T:=tree)))
 have hT:=tabs hP Qf
 refine QGu.good (fn:=Tryz.f233) hT hP Tryz.func233 (by kernel_rfl) rfl fun (n a s:Int) hp=>?_
 obtain ⟨h1,h2,h3,h4,h5⟩:0≤n∧n < 4611686018427387904∧0≤a∧0≤s∧a+s≤62:=hp _ rfl
 repeat' first |(refine Go.mk ?_;conv=>whnf) |refine Ql.go ?_ ?_ |refine Qm.go (fun _=>?_) (fun _=>?_) |refine Br.dec (fun _=>?_) (fun _=>?_) |refine Br.go (fun _=>?_) (fun _=>?_) |refine Qd hT hP mixed ?_ |refine Qb hT hP ?_
 ·exact (QeU a s).1
 ·refine .mk [] [] _ R R R R R R (Qg ?_)
  show QFP n a s=_
  obtain ⟨n,rfl⟩:=Int.eq_ofNat_of_zero_le h1
  obtain ⟨a,rfl⟩:=Int.eq_ofNat_of_zero_le h3
  obtain ⟨s,rfl⟩:=Int.eq_ofNat_of_zero_le h4
  rw [QvC (by omega) (by omega)]
  simp
def QGv:Qk:=⟨[gi,gi,gi,gi],fun (n,a,s,v,_)=>(some (0≤n∧n < 4611686018427387904∧0≤a∧0≤s∧a+s≤62),I (2 ^ a.toNat*(2 ^ s.toNat*(n/2 ^ (a+s).toNat)+v%2 ^ s.toNat)+n%2 ^ a.toNat),[])⟩
theorem Qhe:Qi Tryz.prog 237 QGv.spec:=by
 have hP:Qe Tryz.prog _:=Qa QnB (Qa QxL (Qc (T:=tree)))
 have hT:=tabs hP Qf
 refine QGv.good (fn:=Tryz.f237) hT hP Tryz.func237 (by kernel_rfl) rfl fun (n a s v:Int) hp=>?_
 obtain ⟨h1,h2,h3,h4,h5⟩:0≤n∧n < 4611686018427387904∧0≤a∧0≤s∧a+s≤62:=hp _ rfl
 repeat' first |(refine Go.mk ?_;conv=>whnf) |refine Ql.go ?_ ?_ |refine Qm.go (fun _=>?_) (fun _=>?_) |refine Br.dec (fun _=>?_) (fun _=>?_) |refine Br.go (fun _=>?_) (fun _=>?_) |refine Qd hT hP mixed ?_ |refine Qb hT hP ?_
 ·exact (QeU a s).2
 ·exact (QeU a s).1
 ·exact (QeU a s).1
 ·refine .mk [] [] _ R R R R R R (Qg ?_)
  show QFQ n a s v=_
  obtain ⟨n,rfl⟩:=Int.eq_ofNat_of_zero_le h1
  obtain ⟨a,rfl⟩:=Int.eq_ofNat_of_zero_le h3
  obtain ⟨s,rfl⟩:=Int.eq_ofNat_of_zero_le h4
  have e:((a:Int)+(s:Int)).toNat=a+s:=by omega
  rw [QvD v (by omega) (by omega),e,← QzQ v (by omega)]
  simp
theorem QzR (n i:Nat):n &&& 2 ^ i=n/2 ^ i%2*2 ^ i:=by
 apply Nat.eq_of_testBit_eq
 intro j
 rw [Nat.testBit_and,Nat.testBit_two_pow]
 have hb:n.testBit i=decide (n/2 ^ i%2=1):=Nat.testBit_eq_decide_div_mod_eq
 rcases Nat.mod_two_eq_zero_or_one (n/2 ^ i) with h |h
 ·rw [h] at hb ⊢
  rw [Nat.zero_mul,Nat.zero_testBit]
  by_cases e:i=j
  ·subst e;rw [hb];simp
  ·simp [e]
 ·rw [h] at hb ⊢
  rw [Nat.one_mul,Nat.testBit_two_pow]
  by_cases e:i=j
  ·subst e;rw [hb];simp
  ·simp [e]
theorem Qn2 (k:Int):land .i64 k 128=k/128%2*128:=by
 have e:u64 128=2 ^ 7:=by decide
 have h:=QzR (u64 k) 7
 have hb:u64 k/2 ^ 7%2≤1:=by omega
 rw [QeV _ _ (by rw [e,h];omega),e,h]
 unfold u64
 omega
def twN (N:List Int) (a k:Int):List Int :=
 [if a=2∧k/128%2=1 then tB N else tA N,if a=0 then tB N/256*256+k%256 else if a=1 then tB N%256+256*(k%256) else tB N,if a=2 then k%8 else tC N,tF N]
def Qsa:Qk:=⟨[gD,gi,gi],fun (d,a,k,_)=>(none,QeC,[.arr (.int .i64) (twN d.1 a k)])⟩
theorem Qsb:Qi Tryz.prog 180 Qsa.spec:=by
 have hP:Qe Tryz.prog _:=Qa Qjf (Qa QT (Qa Qhe (Qc (T:=tree))))
 have hT:=tabs hP Qf
 refine Qsa.good (fn:=Tryz.f180) hT hP Tryz.func180 (by kernel_rfl) rfl fun (d:Dv) (a k:Int) _=>?_
 obtain ⟨N,M⟩:=d
 obtain ⟨rA,rB,rC,rF⟩:=tR N
 repeat' first |(refine Go.mk ?_;conv=>whnf) |refine Ql.go ?_ ?_ |refine Qm.go (fun _=>?_) (fun _=>?_) |refine Br.dec (fun _=>?_) (fun _=>?_) |refine Br.go (fun _=>?_) (fun _=>?_) |refine Qd hT hP mixed ?_ |refine Qb hT hP ?_
 all_goals (try subst_vars)
 all_goals first
  |exact rfl
  |exact of_decide_eq_true rfl
  |(refine ⟨?_,?_,by decide,by decide,by decide⟩
     ·exact rB.1
     ·exact (by omega:tB N < 4611686018427387904))
  |skip
 ·refine .mk [] [2] _ R R R R R (QaY (l:=[tA N,2 ^ (0:Int).toNat*(2 ^ (8:Int).toNat*(tB N/2 ^ (0+8:Int).toNat)+k%2 ^ (8:Int).toNat)+tB N%2 ^ (0:Int).toNat,tC N,tF N]) ?_) rfl
  show _=twN N 0 k
  have e:(2 ^ (0:Int).toNat*(2 ^ (8:Int).toNat*(tB N/2 ^ (0+8:Int).toNat)+k%2 ^ (8:Int).toNat)+tB N%2 ^ (0:Int).toNat)=tB N/256*256+k%256:=by
   show (1:Int)*(256*(tB N/256)+k%256)+tB N%1=_
   omega
  rw [e];rfl
 ·refine .mk [] [2] _ R R R R R (QaY (l:=[tA N,2 ^ (8:Int).toNat*(2 ^ (8:Int).toNat*(tB N/2 ^ (8+8:Int).toNat)+k%2 ^ (8:Int).toNat)+tB N%2 ^ (8:Int).toNat,tC N,tF N]) ?_) rfl
  show _=twN N 1 k
  have e:(2 ^ (8:Int).toNat*(2 ^ (8:Int).toNat*(tB N/2 ^ (8+8:Int).toNat)+k%2 ^ (8:Int).toNat)+tB N%2 ^ (8:Int).toNat)=tB N%256+256*(k%256):=by
   show (256:Int)*(256*(tB N/65536)+k%256)+tB N%256=_
   omega
  rw [e];rfl
 ·rename_i h _ _ _
  have h:(land .i64 k 128 != 0)=true:=h
  refine .mk [] [2] _ R R R R R (QaY (l:=[tB N,tB N,k%2 ^ (3:Int).toNat,tF N]) ?_) rfl
  show _=twN N 2 k
  have h:k/128%2=1:=by rw [Qn2] at h;simp at h;omega
  rw [twN,if_pos ⟨rfl,h⟩];rfl
 ·rename_i h _ _ _
  have h:(land .i64 k 128 != 0)=false:=h
  refine .mk [] [2] _ R R R R R (QaY (l:=[tA N,tB N,k%2 ^ (3:Int).toNat,tF N]) ?_) rfl
  show _=twN N 2 k
  have h:¬ k/128%2=1:=by rw [Qn2] at h;simp at h;omega
  rw [twN,if_neg (fun e=>h e.2)];rfl
 ·rename_i h0 h1 h2
  refine .mk [] [2] _ R R R R R (QaY (l:=Qe2 N) ?_) rfl
  show _=twN N a k
  simp only [twN,QbG,if_neg h0,if_neg h1,if_neg h2]
  rw [if_neg (fun e=>h2 e.1)]
def Qn3:Qk:=⟨[gC,gD,gi,gi],fun (c,d,a,k,_)=>(some (c.2.1=3),QeC,[.arr (.int .i64) (twN d.1 a k)])⟩
theorem QpF:Qi Tryz.prog 77 Qn3.spec:=by
 have hP:Qe Tryz.prog _:=Qa QcL (Qa Qb0 (Qc (T:=tree)))
 have hT:=tabs hP Qf
 refine Qn3.good (fn:=Tryz.f77) hT hP Tryz.func77 (by kernel_rfl) rfl fun (c:Cv) (d:Dv) (a k:Int) hp=>?_
 obtain ⟨cn,ck,cb,cs,cd⟩:=c
 obtain rfl:ck=3:=hp _ rfl
 obtain ⟨N,M⟩:=d
 obtain ⟨rA,rB,rC,rF⟩:=tR N
 repeat' first |(refine Go.mk ?_;conv=>whnf) |refine Ql.go ?_ ?_ |refine Qm.go (fun _=>?_) (fun _=>?_) |refine Br.dec (fun _=>?_) (fun _=>?_) |refine Br.go (fun _=>?_) (fun _=>?_) |refine Qd hT hP mixed ?_ |refine Qb hT hP ?_
 all_goals (try subst_vars)
 all_goals first
  |exact rfl
  |exact of_decide_eq_true rfl
  |skip
 ·refine .mk [] [3] _ R R R R R (QaY (l:=[tA N,IntKind.i64.wrap (IntKind.i64.wrap (IntKind.i64.wrap (Int.tdiv (tB N) 256)*256)+k%256),tC N,tF N]) ?_) rfl
  show _=twN N 0 k
  rw [Int.tdiv_eq_ediv_of_nonneg (by omega),w64 (x:=tB N/256) (by omega) (by omega),w64 (x:=tB N/256*256) (by omega) (by omega),w64 (by omega) (by omega)];rfl
 ·refine .mk [] [3] _ R R R R R (QaY (l:=[tA N,IntKind.i64.wrap (Int.tmod (tB N) 256+IntKind.i64.wrap (256*(k%256))),tC N,tF N]) ?_) rfl
  show _=twN N 1 k
  rw [Int.tmod_eq_emod_of_nonneg (by omega),w64 (x:=256*(k%256)) (by omega) (by omega),w64 (by omega) (by omega)];rfl
 ·rename_i h _ _
  have h:IntKind.i64.wrap (Int.tdiv (k%256) 128)=1:=h
  refine .mk [] [3] _ R R R R R (QaY (l:=[tB N,tB N,Int.tmod (k%256) 8,tF N]) ?_) rfl
  show _=twN N 2 k
  have h:k/128%2=1:=by rw [Int.tdiv_eq_ediv_of_nonneg (by omega),w64 (by omega) (by omega)] at h;omega
  have e:Int.tmod (k%256) 8=k%8:=by rw [Int.tmod_eq_emod_of_nonneg (by omega)];omega
  rw [twN,if_pos ⟨rfl,h⟩,e];rfl
 ·rename_i h _ _
  have h:¬ IntKind.i64.wrap (Int.tdiv (k%256) 128)=1:=h
  refine .mk [] [3] _ R R R R R (QaY (l:=[tA N,tB N,Int.tmod (k%256) 8,tF N]) ?_) rfl
  show _=twN N 2 k
  have h:¬ k/128%2=1:=by rw [Int.tdiv_eq_ediv_of_nonneg (by omega),w64 (by omega) (by omega)] at h;omega
  have e:Int.tmod (k%256) 8=k%8:=by rw [Int.tmod_eq_emod_of_nonneg (by omega)];omega
  rw [twN,if_neg (fun e=>h e.2),e];rfl
 ·rename_i h0 h1 h2
  refine .mk [] [3] _ R R R R R (QaY (l:=Qe2 N) ?_) rfl
  show _=twN N a k
  simp only [twN,QbG,if_neg h0,if_neg h1,if_neg h2]
  rw [if_neg (fun e=>h2 e.1)]
theorem Qgp {x y:Int} (h2:x=y):AV.tup [.agg [.own 0,.imm (.slice none 0 0)],I1 x]=AV.tup [.agg [.own 0,.imm (.slice none 0 0)],I1 y]:=by rw [h2]
def trF (N:List Int) (a:Int):Int:=QbB [tA N%256,tA N/256,tC N,tF N] a
def trN (N:List Int) (a:Int):List Int:=[tA N,tB N,tC N,if a=3 then 0 else tF N]
def Qx6:Qk:=⟨[gD,gi],fun (d,a,_)=>(none,.tup [.agg [.own 0,.imm (.slice none 0 0)],I1 (trF d.1 a)],[.arr (.int .i64) (trN d.1 a)])⟩
theorem QvE:Qi Tryz.prog 173 Qx6.spec:=by
 have hP:Qe Tryz.prog _:=Qa Qjf (Qa Qhd (Qc (T:=tree)))
 have hT:=tabs hP Qf
 refine Qx6.good (fn:=Tryz.f173) hT hP Tryz.func173 (by kernel_rfl) rfl fun (d:Dv) (a:Int) _=>?_
 obtain ⟨N,M⟩:=d
 obtain ⟨rA,rB,rC,rF⟩:=tR N
 repeat' first |(refine Go.mk ?_;conv=>whnf) |refine Ql.go ?_ ?_ |refine Qm.go (fun _=>?_) (fun _=>?_) |refine Br.dec (fun _=>?_) (fun _=>?_) |refine Br.go (fun _=>?_) (fun _=>?_) |refine Qd hT hP mixed ?_ |refine Qb hT hP ?_
 all_goals (try subst_vars)
 all_goals first
  |exact rfl
  |exact of_decide_eq_true rfl
  |(refine ⟨?_,?_,by decide,by decide,by decide⟩
     ·exact rA.1
     ·exact (by omega:tA N < 4611686018427387904))
  |exact .mk [] [2] _ R R R R R R R
  |skip
 ·refine .mk [] [2] _ R R R R R R (Qgp ?_)
  show tA N/1%256=tA N%256
  omega
 ·refine .mk [] [2] _ R R R R R R (Qgp ?_)
  show tA N/256%256=tA N/256
  omega
 ·rename_i h0 h1 h2 h3
  have e:trF N a=0:=Qg1 fun i hi=>by
   have:i < 4:=hi
   omega
  refine .mk [] [2] _ R R R R R (QaY (l:=Qe2 N) ?_) (Qgp e.symm)
  show _=trN N a
  rw [QbG,trN,if_neg h3]
def Qn4:Qk:=⟨[gC,gD,gi],fun (c,d,a,_)=>(some (c.2.1=3),.tup [.agg [.own 0,.imm (.slice none 0 0)],I1 (trF d.1 a)],[.arr (.int .i64) (trN d.1 a)])⟩
theorem QpG:Qi Tryz.prog 76 Qn4.spec:=by
 have hP:Qe Tryz.prog _:=Qa QcL (Qa QfD (Qc (T:=tree)))
 have hT:=tabs hP Qf
 refine Qn4.good (fn:=Tryz.f76) hT hP Tryz.func76 (by kernel_rfl) rfl fun (c:Cv) (d:Dv) (a:Int) hp=>?_
 obtain ⟨cn,ck,cb,cs,cd⟩:=c
 obtain rfl:ck=3:=hp _ rfl
 obtain ⟨N,M⟩:=d
 obtain ⟨rA,rB,rC,rF⟩:=tR N
 repeat' first |(refine Go.mk ?_;conv=>whnf) |refine Ql.go ?_ ?_ |refine Qm.go (fun _=>?_) (fun _=>?_) |refine Br.dec (fun _=>?_) (fun _=>?_) |refine Br.go (fun _=>?_) (fun _=>?_) |refine Qd hT hP mixed ?_ |refine Qb hT hP ?_
 all_goals first
  |exact rfl
  |exact of_decide_eq_true rfl
  |skip
 ·rename_i h
  have h:a=3:=h
  subst h
  exact .mk [] [4] _ R R R R R R R
 ·rename_i h
  have h:¬ a=3:=h
  refine .mk [] [4] _ R R R R R (QaY (l:=Qe2 N) ?_) (Qgp ?_)
  ·show _=trN N a
   rw [QbG,trN,if_neg h]
  ·show QbB [Int.tmod (tA N) 256,IntKind.i64.wrap (Int.tdiv (tA N) 256),tC N,tF N] a=QbB [tA N%256,tA N/256,tC N,tF N] a
   rw [Int.tmod_eq_emod_of_nonneg (by omega),Int.tdiv_eq_ediv_of_nonneg (by omega),w64 (by omega) (by omega)]
def QCf:Qk:=⟨[gD],fun (d,_)=>(none,.cell (bv (decide (tF d.1=1)&&decide (tC d.1≥4))),[])⟩
theorem QzS:Qi Tryz.prog 125 QCf.spec:=by
 have hP:Qe Tryz.prog _:=Qa Qjf (Qc (T:=tree))
 have hT:=tabs hP Qf
 refine QCf.good (fn:=Tryz.f125) hT hP Tryz.func125 (by kernel_rfl) rfl fun (d:Dv) _=>?_
 obtain ⟨N,M⟩:=d
 obtain ⟨rA,rB,rC,rF⟩:=tR N
 obtain ⟨c1,c2,c4,c3⟩:=ctl rC.1 rC.2
 repeat' first |(refine Go.mk ?_;conv=>whnf) |refine Ql.go ?_ ?_ |refine Qm.go (fun _=>?_) (fun _=>?_) |refine Br.dec (fun _=>?_) (fun _=>?_) |refine Br.go (fun _=>?_) (fun _=>?_) |refine Qd hT hP mixed ?_ |refine Qb hT hP ?_
 all_goals first
  |exact of_decide_eq_true rfl
  |skip
 ·rename_i h
  have h:tF N=1:=h
  refine .mk [] [] _ R R R R R R (Qo ?_)
  show (land .i64 (tC N) 4 != 0)=(decide (tF N=1)&&decide (tC N≥4))
  rw [c4,decide_eq_true h,Bool.true_and]
 ·rename_i h
  have h:¬ tF N=1:=h
  refine .mk [] [] _ R R R R R R (Qo ?_)
  show _=(decide (tF N=1)&&decide (tC N≥4))
  rw [decide_eq_false h];rfl
def QCg:Qk:=⟨[gC,gD],fun (c,d,_)=>(some (c.2.1=3),.cell (bv (decide (tF d.1=1)&&decide (tC d.1≥4))),[])⟩
theorem QzT:Qi Tryz.prog 16 QCg.spec:=by
 have hP:Qe Tryz.prog _:=Qa QcL (Qc (T:=tree))
 have hT:=tabs hP Qf
 refine QCg.good (fn:=Tryz.f16) hT hP Tryz.func16 (by kernel_rfl) rfl fun (c:Cv) (d:Dv) hp=>?_
 obtain ⟨cn,ck,cb,cs,cd⟩:=c
 obtain rfl:ck=3:=hp _ rfl
 obtain ⟨N,M⟩:=d
 repeat' first |(refine Go.mk ?_;conv=>whnf) |refine Ql.go ?_ ?_ |refine Qm.go (fun _=>?_) (fun _=>?_) |refine Br.dec (fun _=>?_) (fun _=>?_) |refine Br.go (fun _=>?_) (fun _=>?_) |refine Qd hT hP mixed ?_ |refine Qb hT hP ?_
 all_goals first
  |exact rfl
  |exact of_decide_eq_true rfl
  |skip
 ·rename_i h
  have h:tF N=1:=h
  refine .mk [] [] _ R R R R R R (Qo ?_)
  show decide (tC N≥4)=(decide (tF N=1)&&decide (tC N≥4))
  rw [decide_eq_true h,Bool.true_and]
 ·rename_i h
  have h:¬ tF N=1:=h
  refine .mk [] [] _ R R R R R R (Qo ?_)
  show _=(decide (tF N=1)&&decide (tC N≥4))
  rw [decide_eq_false h];rfl
theorem QIo {c:Int} (h0:0≤c) (h1:c < 4):((land .i64 c 1 != 0)=decide (c%2=1))∧((land .i64 c 2 != 0)=decide (c≥2)):=by
 have:c=0∨c=1∨c=2∨c=3:=by omega
 rcases this with rfl |rfl |rfl |rfl<;>decide +kernel
def Qn5:Qk:=⟨[gC,gD,gi],fun (c,d,a,_)=>(some (c.2.1=5),.tup [.agg [.own 0,.imm (.slice none 0 0)],I1 (srF d.1 a)],[.arr (.int .i64) (srN d.1 a)])⟩
theorem QpH:Qi Tryz.prog 76 Qn5.spec:=by
 have hP:Qe Tryz.prog _:=Qa Qbr (Qa QfD (Qa Qma (Qc (T:=tree))))
 have hT:=tabs hP Qf
 refine Qn5.good (fn:=Tryz.f76) hT hP Tryz.func76 (by kernel_rfl) rfl fun (c:Cv) (d:Dv) (a:Int) hp=>?_
 obtain ⟨cn,ck,cb,cs,cd⟩:=c
 obtain rfl:ck=5:=hp _ rfl
 obtain ⟨N,M⟩:=d
 obtain ⟨h0,h1,h2,h3,h4,h5,h6,h7⟩:=sR N
 have hb:0≤Qdo (decide (s1 N > 0))∧Qdo (decide (s1 N > 0))≤1:=by cases decide (s1 N > 0)<;>decide
 have hv:IntKind.i64.wrap (IntKind.i64.wrap (s3 N+IntKind.i64.wrap (2*Qdo (decide (s1 N > 0))))+IntKind.i64.wrap (4*s4 N))=s3 N+2*Qdo (decide (s1 N > 0))+4*s4 N:=by
  rw [w64 (x:=2*Qdo (decide (s1 N > 0))) (by omega) (by omega),w64 (x:=4*s4 N) (by omega) (by omega),w64 (x:=s3 N+2*Qdo (decide (s1 N > 0))) (by omega) (by omega),w64 (by omega) (by omega)]
 have fin:∀ x,x=[s0 N,s1 N,s2 N,s3 N,s4 N,s5 N,s6 N,s7 N]→True:=fun _ _=>trivial
 repeat' first |(refine Go.mk ?_;conv=>whnf) |refine Ql.go ?_ ?_ |refine Qm.go (fun _=>?_) (fun _=>?_) |refine Br.dec (fun _=>?_) (fun _=>?_) |refine Br.go (fun _=>?_) (fun _=>?_) |refine Qd hT hP mixed ?_ |refine Qb hT hP ?_
 all_goals first
  |exact rfl
  |exact of_decide_eq_true rfl
  |skip
 all_goals
  refine .mk [] [4] _ R R R R R ?_ (Qb2 (congrArg (fun z=>QbB [s2 N,z,s5 N] a) hv))
 ·rename_i g0 g1
  have g0:a=0:=g0
  have g1:a=1:=g1
  omega
 ·rename_i g0 g1
  have g0:a=0:=g0
  subst g0
  exact rfl
 ·rename_i g0 g1
  have g1:a=1:=g1
  subst g1
  exact rfl
 ·rename_i g0 g1
  have g0:¬ a=0:=g0
  have g1:¬ a=1:=g1
  refine Qr (l:=Qfm N) (l':=srN N a) ?_
  rw [QdD,srN,if_neg g0,if_neg g1]
def swN (N:List Int) (a k:Int):List Int :=
 [if a=0∧s1 N=0 then k%256 else s0 N,if a=0∧s1 N=0 then 40 else s1 N,s2 N,s3 N,s4 N,if a=2 then k%4 else s5 N,s6 N,s7 N]
def Qsc:Qk:=⟨[gD,gi,gi],fun (d,a,k,_)=>(none,QeC,[.arr (.int .i64) (swN d.1 a k)])⟩
theorem QCh {N:List Int} {k:Int} (h:s1 N=0):swN N 0 k=[k%256,40,s2 N,s3 N,s4 N,s5 N,s6 N,s7 N]:=by
 rw [swN,if_pos ⟨rfl,h⟩,if_pos ⟨rfl,h⟩,if_neg (by omega)]
theorem QCi {N:List Int} {k:Int}:swN N 2 k=[s0 N,s1 N,s2 N,s3 N,s4 N,k%4,s6 N,s7 N]:=by
 rw [swN,if_neg (fun e=>by omega),if_neg (fun e=>by omega),if_pos rfl]
theorem Qn6 {N:List Int} {a k:Int} (h:¬ (a=0∧s1 N=0)) (h2:¬ a=2):swN N a k=Qfm N:=by
 rw [swN,if_neg h,if_neg h,if_neg h2];rfl
theorem Qsd:Qi Tryz.prog 182 Qsc.spec:=by
 have hP:Qe Tryz.prog _:=Qa QfE (Qa QT (Qc (T:=tree)))
 have hT:=tabs hP Qf
 refine Qsc.good (fn:=Tryz.f182) hT hP Tryz.func182 (by kernel_rfl) rfl fun (d:Dv) (a k:Int) _=>?_
 obtain ⟨N,M⟩:=d
 repeat' first |(refine Go.mk ?_;conv=>whnf) |refine Ql.go ?_ ?_ |refine Qm.go (fun _=>?_) (fun _=>?_) |refine Br.dec (fun _=>?_) (fun _=>?_) |refine Br.go (fun _=>?_) (fun _=>?_) |refine Qd hT hP mixed ?_ |refine Qb hT hP ?_
 all_goals first
  |exact rfl
  |exact of_decide_eq_true rfl
  |skip
 ·rename_i g0 g1
  have g1:s1 N=0:=g1
  subst g0
  refine .mk [] [2] _ R R R R R (Qr (l:=[k%2 ^ (8:Int).toNat,40,s2 N,s3 N,s4 N,s5 N,s6 N,s7 N]) (l':=swN N 0 k) ?_) rfl
  rw [QCh g1];rfl
 ·rename_i g0 g1 g2
  omega
 ·rename_i g0 g1 g2
  have g1:¬ s1 N=0:=g1
  refine .mk [] [2] _ R R R R R (Qr (l:=Qfm N) (l':=swN N a k) ?_) rfl
  rw [Qn6 (fun e=>g1 e.2) g2]
 ·rename_i g0 g1
  subst g1
  refine .mk [] [2] _ R R R R R (Qr (l:=[s0 N,s1 N,s2 N,s3 N,s4 N,k%2 ^ (2:Int).toNat,s6 N,s7 N]) (l':=swN N 2 k) ?_) rfl
  rw [QCi];rfl
 ·rename_i g0 g1
  refine .mk [] [2] _ R R R R R (Qr (l:=Qfm N) (l':=swN N a k) ?_) rfl
  rw [Qn6 (fun e=>g0 e.1) g1]
def Qn7:Qk:=⟨[gC,gD,gi,gi],fun (c,d,a,k,_)=>(some (c.2.1=5),QeC,[.arr (.int .i64) (swN d.1 a k)])⟩
theorem QpI:Qi Tryz.prog 77 Qn7.spec:=by
 have hP:Qe Tryz.prog _:=Qa Qbr (Qa Qb0 (Qc (T:=tree)))
 have hT:=tabs hP Qf
 refine Qn7.good (fn:=Tryz.f77) hT hP Tryz.func77 (by kernel_rfl) rfl fun (c:Cv) (d:Dv) (a k:Int) hp=>?_
 obtain ⟨cn,ck,cb,cs,cd⟩:=c
 obtain rfl:ck=5:=hp _ rfl
 obtain ⟨N,M⟩:=d
 repeat' first |(refine Go.mk ?_;conv=>whnf) |refine Ql.go ?_ ?_ |refine Qm.go (fun _=>?_) (fun _=>?_) |refine Br.dec (fun _=>?_) (fun _=>?_) |refine Br.go (fun _=>?_) (fun _=>?_) |refine Qd hT hP mixed ?_ |refine Qb hT hP ?_
 all_goals first
  |exact rfl
  |exact of_decide_eq_true rfl
  |skip
 ·rename_i g0 g1 g2
  omega
 ·rename_i g0 g1 g2
  have g0:a=0:=g0
  have g1:s1 N=0:=g1
  subst g0
  refine .mk [] [3] _ R R R R R (Qr (l:=[k%256,40,s2 N,s3 N,s4 N,s5 N,s6 N,s7 N]) (l':=swN N 0 k) ?_) rfl
  rw [QCh g1]
 ·rename_i g0 g1 g2
  omega
 ·rename_i g0 g1 g2
  have g1:¬ s1 N=0:=g1
  refine .mk [] [3] _ R R R R R (Qr (l:=Qfm N) (l':=swN N a k) ?_) rfl
  rw [Qn6 (fun e=>g1 e.2) g2]
 ·rename_i g0 g1
  subst g1
  refine .mk [] [3] _ R R R R R (Qr (l:=[s0 N,s1 N,s2 N,s3 N,s4 N,Int.tmod (k%256) 4,s6 N,s7 N]) (l':=swN N 2 k) ?_) rfl
  have e:Int.tmod (k%256) 4=k%4:=by rw [Int.tmod_eq_emod_of_nonneg (by omega)];omega
  rw [QCi,e]
 ·rename_i g0 g1
  refine .mk [] [3] _ R R R R R (Qr (l:=Qfm N) (l':=swN N a k) ?_) rfl
  rw [Qn6 (fun e=>g0 e.1) g1]
def Qse:Qk:=⟨[gC,gD,gi],fun (c,d,k,_)=>(some (c.2.1=5),QeC,[.arr (.int .i64) (QnG d.1 k)])⟩
theorem Qsf:Qi Tryz.prog 73 Qse.spec:=by
 have hP:Qe Tryz.prog _:=Qa Qbr (Qa Qb0 (Qc (T:=tree)))
 have hT:=tabs hP Qf
 refine Qse.good (fn:=Tryz.f73) hT hP Tryz.func73 (by kernel_rfl) rfl fun (c:Cv) (d:Dv) (k:Int) hp=>?_
 obtain ⟨cn,ck,cb,cs,cd⟩:=c
 obtain rfl:ck=5:=hp _ rfl
 obtain ⟨N,M⟩:=d
 repeat' first |(refine Go.mk ?_;conv=>whnf) |refine Ql.go ?_ ?_ |refine Qm.go (fun _=>?_) (fun _=>?_) |refine Br.dec (fun _=>?_) (fun _=>?_) |refine Br.go (fun _=>?_) (fun _=>?_) |refine Qd hT hP mixed ?_ |refine Qb hT hP ?_
 all_goals first
  |exact rfl
  |exact of_decide_eq_true rfl
  |(rename_i h
     have h:s3 N=1:=h
     refine .mk [] [3] _ R R R R R (Qr (l:=[s0 N,s1 N,s2 N,s3 N,1,s5 N,s6 N,s7 N]) ?_) rfl
     show _=QnG N k
     rw [QnG,if_pos h,if_pos h,h])
  |(rename_i h
     have h:¬ s3 N=1:=h
     refine .mk [] [3] _ R R R R R (Qr (l:=[s0 N,s1 N,k%256,1,s4 N,s5 N,s6 N,s7 N]) ?_) rfl
     show _=QnG N k
     rw [QnG,if_neg h,if_neg h])
def Qde (N:List Int):Bool:=(decide (s5 N%2=1)&&decide (s3 N=1))||(decide (s5 N≥2)&&decide (s1 N=0))
theorem QCj {N:List Int} (h:s5 N%2=1) (h2:s3 N=1):true=Qde N:=by unfold Qde;rw [decide_eq_true h,decide_eq_true h2];rfl
theorem QvF {N:List Int} (h:¬ (s5 N%2=1∧s3 N=1)) (h2:s5 N≥2):decide (s1 N=0)=Qde N:=by
 unfold Qde
 rw [← Bool.decide_and,decide_eq_false h,decide_eq_true h2];rfl
theorem QvG {N:List Int} (h:¬ (s5 N%2=1∧s3 N=1)) (h2:¬ s5 N≥2):false=Qde N:=by
 unfold Qde
 rw [← Bool.decide_and,decide_eq_false h,decide_eq_false h2];rfl
def QCk:Qk:=⟨[gD],fun (d,_)=>(none,.cell (bv (Qde d.1)),[])⟩
theorem QzU:Qi Tryz.prog 126 QCk.spec:=by
 have hP:Qe Tryz.prog _:=Qa QfE (Qc (T:=tree))
 have hT:=tabs hP Qf
 refine QCk.good (fn:=Tryz.f126) hT hP Tryz.func126 (by kernel_rfl) rfl fun (d:Dv) _=>?_
 obtain ⟨N,M⟩:=d
 obtain ⟨h0,h1,h2,h3,h4,h5,h6,h7⟩:=sR N
 obtain ⟨c1,c2⟩:=QIo h5.1 h5.2
 repeat' first |(refine Go.mk ?_;conv=>whnf) |refine Ql.go ?_ ?_ |refine Qm.go (fun _=>?_) (fun _=>?_) |refine Br.dec (fun _=>?_) (fun _=>?_) |refine Br.go (fun _=>?_) (fun _=>?_) |refine Qd hT hP mixed ?_ |refine Qb hT hP ?_
 all_goals first
  |exact of_decide_eq_true rfl
  |skip
 ·rename_i g q
  have g:(land .i64 (s5 N) 1 != 0)=true:=g;rw [c1] at g;have g:=of_decide_eq_true g
  have q:s3 N=1:=q
  refine .mk [] [] _ R R R R R R (Qo ?_)
  show true=Qde N
  exact QCj g q
 ·rename_i g q r
  have g:(land .i64 (s5 N) 1 != 0)=true:=g;rw [c1] at g;have g:=of_decide_eq_true g
  have q:¬ s3 N=1:=q
  have r:(land .i64 (s5 N) 2 != 0)=true:=r;rw [c2] at r;have r:=of_decide_eq_true r
  refine .mk [] [] _ R R R R R R (Qo ?_)
  show decide (s1 N=0)=Qde N
  exact QvF (fun e=>q e.2) r
 ·rename_i g q r
  have g:(land .i64 (s5 N) 1 != 0)=true:=g;rw [c1] at g;have g:=of_decide_eq_true g
  have q:¬ s3 N=1:=q
  have r:(land .i64 (s5 N) 2 != 0)=false:=r;rw [c2] at r;have r:=of_decide_eq_false r
  refine .mk [] [] _ R R R R R R (Qo ?_)
  show false=Qde N
  exact QvG (fun e=>q e.2) r
 ·rename_i g r
  have g:(land .i64 (s5 N) 1 != 0)=false:=g;rw [c1] at g;have g:=of_decide_eq_false g
  have r:(land .i64 (s5 N) 2 != 0)=true:=r;rw [c2] at r;have r:=of_decide_eq_true r
  refine .mk [] [] _ R R R R R R (Qo ?_)
  show decide (s1 N=0)=Qde N
  exact QvF (fun e=>g e.1) r
 ·rename_i g r
  have g:(land .i64 (s5 N) 1 != 0)=false:=g;rw [c1] at g;have g:=of_decide_eq_false g
  have r:(land .i64 (s5 N) 2 != 0)=false:=r;rw [c2] at r;have r:=of_decide_eq_false r
  refine .mk [] [] _ R R R R R R (Qo ?_)
  show false=Qde N
  exact QvG (fun e=>g e.1) r
def QCl:Qk:=⟨[gC,gD],fun (c,d,_)=>(some (c.2.1=5),.cell (bv (Qde d.1)),[])⟩
theorem QzV:Qi Tryz.prog 16 QCl.spec:=by
 have hP:Qe Tryz.prog _:=Qa Qbr (Qc (T:=tree))
 have hT:=tabs hP Qf
 refine QCl.good (fn:=Tryz.f16) hT hP Tryz.func16 (by kernel_rfl) rfl fun (c:Cv) (d:Dv) hp=>?_
 obtain ⟨cn,ck,cb,cs,cd⟩:=c
 obtain rfl:ck=5:=hp _ rfl
 obtain ⟨N,M⟩:=d
 obtain ⟨h0,h1,h2,h3,h4,h5,h6,h7⟩:=sR N
 repeat' first |(refine Go.mk ?_;conv=>whnf) |refine Ql.go ?_ ?_ |refine Qm.go (fun _=>?_) (fun _=>?_) |refine Br.dec (fun _=>?_) (fun _=>?_) |refine Br.go (fun _=>?_) (fun _=>?_) |refine Qd hT hP mixed ?_ |refine Qb hT hP ?_
 all_goals first
  |exact rfl
  |exact of_decide_eq_true rfl
  |skip
 ·rename_i g q
  have g:Int.tmod (s5 N) 2=1:=g;rw [Int.tmod_eq_emod_of_nonneg h5.1] at g
  have q:s3 N=1:=q
  refine .mk [] [] _ R R R R R R (Qo ?_)
  show true=Qde N
  exact QCj g q
 ·rename_i g q r
  have g:Int.tmod (s5 N) 2=1:=g;rw [Int.tmod_eq_emod_of_nonneg h5.1] at g
  have q:¬ s3 N=1:=q
  have r:s5 N≥2:=r
  refine .mk [] [] _ R R R R R R (Qo ?_)
  show decide (s1 N=0)=Qde N
  exact QvF (fun e=>q e.2) r
 ·rename_i g q r
  have g:Int.tmod (s5 N) 2=1:=g;rw [Int.tmod_eq_emod_of_nonneg h5.1] at g
  have q:¬ s3 N=1:=q
  have r:¬ s5 N≥2:=r
  refine .mk [] [] _ R R R R R R (Qo ?_)
  show false=Qde N
  exact QvG (fun e=>q e.2) r
 ·rename_i g r
  have g:¬ Int.tmod (s5 N) 2=1:=g;rw [Int.tmod_eq_emod_of_nonneg h5.1] at g
  have r:s5 N≥2:=r
  refine .mk [] [] _ R R R R R R (Qo ?_)
  show decide (s1 N=0)=Qde N
  exact QvF (fun e=>g e.1) r
 ·rename_i g r
  have g:¬ Int.tmod (s5 N) 2=1:=g;rw [Int.tmod_eq_emod_of_nonneg h5.1] at g
  have r:¬ s5 N≥2:=r
  refine .mk [] [] _ R R R R R R (Qo ?_)
  show false=Qde N
  exact QvG (fun e=>g e.1) r
def QCm:Qk:=⟨[gD],fun (d,_)=>(none,I (s6 d.1*256+s7 d.1),[])⟩
theorem QzW:Qi Tryz.prog 216 QCm.spec:=by
 have hP:Qe Tryz.prog _:=Qa QfE (Qc (T:=tree))
 have hT:=tabs hP Qf
 refine QCm.good (fn:=Tryz.f216) hT hP Tryz.func216 (by kernel_rfl) rfl fun (d:Dv) _=>?_
 obtain ⟨N,M⟩:=d
 obtain ⟨h0,h1,h2,h3,h4,h5,h6,h7⟩:=sR N
 repeat' first |(refine Go.mk ?_;conv=>whnf) |refine Ql.go ?_ ?_ |refine Qm.go (fun _=>?_) (fun _=>?_) |refine Br.dec (fun _=>?_) (fun _=>?_) |refine Br.go (fun _=>?_) (fun _=>?_) |refine Qd hT hP mixed ?_ |refine Qb hT hP ?_
 all_goals first
  |exact of_decide_eq_true rfl
  |(refine .mk [] [] _ R R R R R R (Qg ?_)
     show IntKind.i64.wrap (IntKind.i64.wrap (256*s6 N)+s7 N)=s6 N*256+s7 N
     rw [w64 (x:=256*s6 N) (by omega) (by omega),w64 (by omega) (by omega)];omega)
def Qsg:Qk:=⟨[gC,gD],fun (c,d,_)=>(some (c.2.1=5),I (s6 d.1*256+s7 d.1),[])⟩
theorem Qsh:Qi Tryz.prog 72 Qsg.spec:=by
 have hP:Qe Tryz.prog _:=Qa Qbr (Qc (T:=tree))
 have hT:=tabs hP Qf
 refine Qsg.good (fn:=Tryz.f72) hT hP Tryz.func72 (by kernel_rfl) rfl fun (c:Cv) (d:Dv) hp=>?_
 obtain ⟨cn,ck,cb,cs,cd⟩:=c
 obtain rfl:ck=5:=hp _ rfl
 obtain ⟨N,M⟩:=d
 obtain ⟨h0,h1,h2,h3,h4,h5,h6,h7⟩:=sR N
 repeat' first |(refine Go.mk ?_;conv=>whnf) |refine Ql.go ?_ ?_ |refine Qm.go (fun _=>?_) (fun _=>?_) |refine Br.dec (fun _=>?_) (fun _=>?_) |refine Br.go (fun _=>?_) (fun _=>?_) |refine Qd hT hP mixed ?_ |refine Qb hT hP ?_
 all_goals first
  |exact rfl
  |exact of_decide_eq_true rfl
  |(refine .mk [] [] _ R R R R R R (Qg ?_)
     show IntKind.i64.wrap (IntKind.i64.wrap (s6 N*256)+s7 N)=s6 N*256+s7 N
     rw [w64 (x:=s6 N*256) (by omega) (by omega),w64 (by omega) (by omega)])
def vo (N:List Int) (i:Nat):List Int:=[N.getD i 0%4096,N.getD (i+1) 0%16,N.getD (i+2) 0%256,N.getD (i+3) 0%4096,N.getD (i+4) 0%2,N.getD (i+5) 0%16384]
def QbH (N:List Int):List Int:=vo N 0++vo N 6
def QG (k:Int):List Int→List Int
 | [p,v,r,c,f,w] =>
   [p,if (r > 0∧v > 0)∧w+k≥r*64 then v-1 else v,r,if p > 0 then (if c+k≥p then 0 else c+k) else c,if p > 0∧c+k≥p then 1-f else f,
     if r > 0∧v > 0 then (if w+k≥r*64 then 0 else w+k) else w]
 |l=>l
def Qq:List Int→Int
 | [p,v,r,c,f,w]=>min (if p > 0 then max 1 (p-c)-1 else 100000) (if r > 0∧v > 0 then max 1 (r*64-w)-1 else 100000)
 |_=>100000
inductive vOk:List Int→Prop
 |mk {p v r c f w:Int} (hp:0≤p∧p < 4096) (hv:0≤v∧v < 16) (hr:0≤r∧r < 256) (hc:0≤c∧c < 4096) (hf:0≤f∧f < 2) (hw:0≤w∧w < 16384):vOk [p,v,r,c,f,w]
theorem QaQ (N:List Int) (i:Nat):vOk (vo N i):=⟨by omega,by omega,by omega,by omega,by omega,by omega⟩
theorem vOk.len {l:List Int} (h:vOk l):l.length=6:=by cases h;rfl
theorem Qct {l:List Int} (h:vOk l) {k:Int} (hk:0≤k):vOk (QG k l):=by
 cases h with
 |mk hp hv hr hc hf hw =>
   refine ⟨hp,?_,hr,?_,?_,?_⟩
   ·split<;>omega
   ·split
    ·split<;>omega
    ·exact hc
   ·split<;>omega
   ·split
    ·split<;>omega
    ·exact hw
theorem Qk1 (k:Int) (l:List Int):(QG k l).length=l.length:=by
 unfold QG;split<;>rfl
theorem l6 {a b c d e f a' b' c' d' e' f':Int} (h1:a=a') (h2:b=b') (h3:c=c') (h4:d=d') (h5:e=e') (h6:f=f'):[a,b,c,d,e,f]=[a',b',c',d',e',f']:=by rw [h1,h2,h3,h4,h5,h6]
theorem Qsi {l:List Int} (h:vOk l) {j:Int} (hj:0 < j) (hq:j≤Qq l):QG 1 (QG j l)=QG (j+1) l:=by
 cases h with
 |mk hp hv hr hc hf hw =>
   rename_i p v r c f w
   have e1:Qq [p,v,r,c,f,w]=min (if p > 0 then max 1 (p-c)-1 else 100000) (if r > 0∧v > 0 then max 1 (r*64-w)-1 else 100000):=rfl
   rw [e1] at hq
   have q1:p > 0→¬ c+j≥p:=fun h=>by rw [if_pos h] at hq;omega
   have q2:r > 0∧v > 0→¬ w+j≥r*64:=fun h=>by rw [if_pos h] at hq;omega
   have e2:QG j [p,v,r,c,f,w]=[p,v,r,if p > 0 then c+j else c,f,if r > 0∧v > 0 then w+j else w]:=by
    refine l6 rfl ?_ rfl ?_ ?_ ?_
    ·exact if_neg fun h=>q2 h.1 h.2
    ·by_cases h:p > 0
     ·rw [if_pos h,if_pos h,if_neg (q1 h)]
     ·rw [if_neg h,if_neg h]
    ·exact if_neg fun h=>q1 h.1 h.2
    ·by_cases h:r > 0∧v > 0
     ·rw [if_pos h,if_pos h,if_neg (q2 h)]
     ·rw [if_neg h,if_neg h]
   rw [e2]
   by_cases g1:p > 0
   ·rw [if_pos g1]
    by_cases g2:r > 0∧v > 0
    ·rw [if_pos g2]
     refine l6 rfl ?_ rfl ?_ ?_ ?_<;>simp only [g1,g2,and_self,true_and,if_true,Int.add_assoc]
    ·rw [if_neg g2]
     refine l6 rfl ?_ rfl ?_ ?_ ?_<;>simp only [g1,g2,false_and,true_and,if_true,if_false,Int.add_assoc]
   ·rw [if_neg g1]
    by_cases g2:r > 0∧v > 0
    ·rw [if_pos g2]
     refine l6 rfl ?_ rfl ?_ ?_ ?_<;>simp only [g1,g2,and_self,false_and,true_and,if_true,if_false,Int.add_assoc]
    ·rw [if_neg g2]
     refine l6 rfl ?_ rfl ?_ ?_ ?_<;>simp only [g1,g2,false_and,if_false]
theorem Qil {l:List Int} (h:vOk l) (hq:Qq l=100000) (k:Int):QG k l=l:=by
 cases h with
 |mk hp hv hr hc hf hw =>
   rename_i p v r c f w
   have e1:Qq [p,v,r,c,f,w]=min (if p > 0 then max 1 (p-c)-1 else 100000) (if r > 0∧v > 0 then max 1 (r*64-w)-1 else 100000):=rfl
   rw [e1] at hq
   have g1:¬ p > 0:=fun h=>by rw [if_pos h] at hq;omega
   have g2:¬ (r > 0∧v > 0):=fun h=>by rw [if_pos h] at hq;omega
   refine l6 rfl ?_ rfl ?_ ?_ ?_
   ·exact if_neg fun h=>g2 h.1
   ·exact if_neg g1
   ·exact if_neg fun h=>g1 h.1
   ·exact if_neg g2
theorem QdG {l:List Int} (h:vOk l):0≤Qq l∧Qq l≤100000:=by
 cases h with
 |mk hp hv hr hc hf hw =>
   rename_i p v r c f w
   have e1:Qq [p,v,r,c,f,w]=min (if p > 0 then max 1 (p-c)-1 else 100000) (if r > 0∧v > 0 then max 1 (r*64-w)-1 else 100000):=rfl
   rw [e1]
   by_cases g1:p > 0<;>by_cases g2:r > 0∧v > 0<;>simp only [g1,g2,and_self,if_true,if_false]<;>omega
theorem Qjg {l:List Int} (h:vOk l):∀ n,vOk (QP (QG 1) n l)
 |0=>h
 |n+1=>by rw [QaF];exact Qct (Qjg h n) (by decide)
theorem Qhf {l:List Int} (h:vOk l):∀ n:Nat,0 < n→(n:Int)≤Qq l+1→QP (QG 1) n l=QG n l
 |1,_,_=>rfl
 |n+2,_,hq=>by
   rw [QaF,Qhf h (n+1) (by omega) (by omega),Qsi h (by omega) (by omega)];rfl
theorem QpJ {l:List Int} (h:vOk l) (hq:Qq l=100000) (n:Nat):QP (QG 1) n l=l:=Qg2 (Qil h hq 1) n
theorem QbD {a:List Int} (h:vOk a) {r:Int} (hr:0 < r) (hq:Qq a≥r∨Qq a=100000):QG r a=QP (QG 1) r.toNat a:=by
 rcases hq with hq |hq
 ·rw [Qhf h r.toNat (by omega) (by omega)]
  have e:((r.toNat:Nat):Int)=r:=by omega
  rw [e]
 ·rw [QpJ h hq,Qil h hq]
theorem QdZ {a:List Int} (h:vOk a) {r:Int} (hq:Qq a < r):QP (QG 1) (r-(Qq a+1)).toNat (QG (Qq a+1) a)=QP (QG 1) r.toNat a:=by
 have hq0:=QdG h
 have e:r.toNat=(Qq a+1).toNat+(r-(Qq a+1)).toNat:=by omega
 rw [e,QeX,Qhf h (Qq a+1).toNat (by omega) (by omega)]
 have e2:(((Qq a+1).toNat:Nat):Int)=Qq a+1:=by omega
 rw [e2]
theorem QIp {a b:List Int} (h:a.length=6):((a++b).drop 0).take 6=a:=List.take_left' h
theorem QFT {a b:List Int} (h:a.length=6) (h2:b.length=6):((a++b).drop 6).take 6=b:=by rw [List.drop_left' h];exact List.take_of_length_le (by omega)
theorem Qmo {x:Blk} {l l':List Int} (h:l=l'):[some x,some (Blk.arr (.int .i64) l)]=[some x,some (Blk.arr (.int .i64) l')]:=by rw [h]
def QbI (off:Nat) (l:List Int) (k:Int):List Int:=l.take off++(QG k ((l.drop off).take 6)++l.drop (off+6))
theorem Qsj {a b:List Int} (h:a.length=6) (k:Int):QbI 0 (a++b) k=QG k a++b:=by
 unfold QbI
 simp [← h]
theorem Qhg {a b:List Int} (h:a.length=6) (h2:b.length=6) (k:Int):QbI 6 (a++b) k=a++QG k b:=by
 unfold QbI
 rw [List.take_left' h,List.drop_left' h,List.take_of_length_le (by omega),List.drop_eq_nil_of_le (by simp [h,h2]),List.append_nil]
def QcM (l:List Int):List Int:=QG 1 (l.take 6)++QG 1 (l.drop 6)
theorem Qk2 {a b:List Int} (h:a.length=6):QcM (a++b)=QG 1 a++QG 1 b:=by unfold QcM;simp [← h]
theorem QhQ {a b:List Int} (ha:vOk a) (hb:vOk b):∀ n,QP QcM n (a++b)=QP (QG 1) n a++QP (QG 1) n b
 |0=>rfl
 |n+1=>by rw [QaF,QhQ ha hb n,Qk2 (Qjg ha n).len,QaF,QaF]
def QCn:Qk:=⟨[gD],fun (d,_)=>(none,.cell (.own 0),[.arr (.int .i64) (QbH d.1)])⟩
set_option maxHeartbeats 4000000 in
theorem QdH:Qi Tryz.prog 225 QCn.spec:=by
 have hP:Qe Tryz.prog _:=Qa QT (Qc (T:=tree))
 have hT:=tabs hP Qf
 refine QCn.good (fn:=Tryz.f225) hT hP Tryz.func225 (by kernel_rfl) rfl fun (d:Dv) _=>?_
 obtain ⟨N,M⟩:=d
 repeat' first
  |(refine Go.mk ?_;conv=>whnf)
  |refine Ql.go ?_ ?_
  |refine Qm.go (fun _=>?_) (fun _=>?_)
  |refine Br.dec (fun _=>?_) (fun _=>?_)
  |refine Br.go (fun _=>?_) (fun _=>?_)
  |refine QZ 7 ?_
  |refine Qb hT hP ?_
 all_goals first
  |exact of_decide_eq_true rfl
  |exact .mk [] [1] _ R R R R R R R
def QCo:Qk:=⟨[],fun _=>(none,QeC,[.arr (.int .i64) (List.replicate 12 0)])⟩
theorem QzX:Qi Tryz.prog 114 QCo.spec:=by
 have hP:Qe Tryz.prog _:=(Qc (T:=tree))
 have hT:=tabs hP Qf
 refine QCo.good (fn:=Tryz.f114) hT hP Tryz.func114 (by kernel_rfl) rfl fun _=>?_
 repeat' first |(refine Go.mk ?_;conv=>whnf) |refine Ql.go ?_ ?_ |refine Qm.go (fun _=>?_) (fun _=>?_) |refine Br.dec (fun _=>?_) (fun _=>?_) |refine Br.go (fun _=>?_) (fun _=>?_) |refine Qd hT hP mixed ?_ |refine Qb hT hP ?_
 all_goals first
  |exact of_decide_eq_true rfl
  |exact .mk [] [1] _ R R R R R R R
def Qx7:Qk:=⟨[gl],fun (l,_)=>(some (vOk l),I (Qq l),[])⟩
theorem QvH:Qi Tryz.prog 226 Qx7.spec:=by
 have hP:Qe Tryz.prog _:=(Qc (T:=tree))
 have hT:=tabs hP Qf
 refine Qx7.good (fn:=Tryz.f226) hT hP Tryz.func226 (by kernel_rfl) rfl fun (l:List Int) hq=>?_
 have hp:vOk l:=hq _ rfl
 cases hp with
 |mk hp hv hr hc hf hw =>
 rename_i p v r c f w
 have e1:Qq [p,v,r,c,f,w]=min (if p > 0 then max 1 (p-c)-1 else 100000) (if r > 0∧v > 0 then max 1 (r*64-w)-1 else 100000):=rfl
 repeat' first |(refine Go.mk ?_;conv=>whnf) |refine Ql.go ?_ ?_ |refine Qm.go (fun _=>?_) (fun _=>?_) |refine Br.dec (fun _=>?_) (fun _=>?_) |refine Br.go (fun _=>?_) (fun _=>?_) |refine Qd hT hP mixed ?_ |refine Qb hT hP ?_
 all_goals first
  |exact of_decide_eq_true rfl
  |skip
 all_goals
  refine .mk [] [] _ R R R R R R (Qg ?_)
  show _=Qq [p,v,r,c,f,w]
  rw [e1]
  have ew1:IntKind.i64.wrap (p-c)=p-c:=w64 (by omega) (by omega)
  have ew2:IntKind.i64.wrap (r*64)=r*64:=w64 (by omega) (by omega)
  have ew3:IntKind.i64.wrap (r*64-w)=r*64-w:=w64 (by omega) (by omega)
  have ew4:IntKind.i64.wrap (max 1 (p-c)-1)=max 1 (p-c)-1:=w64 (by omega) (by omega)
  have ew5:IntKind.i64.wrap (max 1 (r*64-w)-1)=max 1 (r*64-w)-1:=w64 (by omega) (by omega)
  clear hT hP hq
  simp [ew1,ew2,ew3,ew4,ew5,Q9,QbZ] at *
  first |omega |(simp [*];done) |(simp [*];omega)
def QzY:QaV:=⟨Nat × List Int × Int,fun x=>[.c (.sub 0 x.1 6),.c (iv .i64 x.2.2)],fun x=>[.arr (.int .i64) x.2.1],
 fun a b=>(match a,b with | [.c (.sub 0 off 6),.c (.imm (.int .i64 k))],[.arr (.int .i64) l]=>some (off,l,k) |_,_=>none),
 fun x=>(some ((x.1=0∨x.1=6)∧(∃ a b,x.2.1=a++b∧vOk a∧vOk b)∧0≤x.2.2∧x.2.2≤10000000),.tup [],[some (.arr (.int .i64) (QbI x.1 x.2.1 x.2.2))],[])⟩
theorem QzZ:Qi Tryz.prog 229 QzY.spec:=by
 have hP:Qe Tryz.prog _:=(Qc (T:=tree))
 have hT:=tabs hP Qf
 refine QzY.good (fn:=Tryz.f229) hT hP Tryz.func229 (by kernel_rfl) rfl ?_ fun ((off,l,k):Nat × List Int × Int) hq=>?_
 ·intro a b x h
  simp only [QzY] at h
  split at h
  ·injection h with h;subst h;exact ⟨rfl,rfl⟩
  ·cases h
 obtain ⟨ho,⟨a,b,hl,ha,hb⟩,hk0,hk1⟩:(off=0∨off=6)∧(∃ a b,l=a++b∧vOk a∧vOk b)∧0≤k∧k≤10000000:=hq _ rfl
 rcases ho with rfl |rfl
 ·cases ha with
  |mk hp hv hr hc hf hw =>
  cases hb with
  |mk hp' hv' hr' hc' hf' hw' =>
  obtain rfl:=hl
  rename_i p v r c f w p' v' r' c' f' w'
  repeat' first |(refine Go.mk ?_;conv=>whnf) |refine Ql.go ?_ ?_ |refine Qm.go (fun _=>?_) (fun _=>?_) |refine Br.dec (fun _=>?_) (fun _=>?_) |refine Br.go (fun _=>?_) (fun _=>?_) |refine Qd hT hP mixed ?_ |refine Qb hT hP ?_
  all_goals first
   |exact of_decide_eq_true rfl
   |skip
  all_goals
   refine .mk [] [0] _ R R R R R (Qr ?_) rfl
   have ew1:IntKind.i64.wrap (c+k)=c+k:=w64 (by omega) (by omega)
   have ew2:IntKind.i64.wrap (1-f)=1-f:=w64 (by omega) (by omega)
   have ew3:IntKind.i64.wrap (w+k)=w+k:=w64 (by omega) (by omega)
   have ew4:IntKind.i64.wrap (r*64)=r*64:=w64 (by omega) (by omega)
   have ew5:IntKind.i64.wrap (v-1)=v-1:=w64 (by omega) (by omega)
   clear hT hP hq
   simp [ew1,ew2,ew3,ew4,ew5] at *
   try simp [QbI,QG,*]
  all_goals (repeat' first |refine And.intro ?_ ?_ |intro _)
  all_goals first |omega |(exfalso;omega)
 ·cases ha with
  |mk hp hv hr hc hf hw =>
  cases hb with
  |mk hp' hv' hr' hc' hf' hw' =>
  obtain rfl:=hl
  rename_i p' v' r' c' f' w' p v r c f w
  repeat' first |(refine Go.mk ?_;conv=>whnf) |refine Ql.go ?_ ?_ |refine Qm.go (fun _=>?_) (fun _=>?_) |refine Br.dec (fun _=>?_) (fun _=>?_) |refine Br.go (fun _=>?_) (fun _=>?_) |refine Qd hT hP mixed ?_ |refine Qb hT hP ?_
  all_goals first
   |exact of_decide_eq_true rfl
   |skip
  all_goals
   refine .mk [] [0] _ R R R R R (Qr ?_) rfl
   have ew1:IntKind.i64.wrap (c+k)=c+k:=w64 (by omega) (by omega)
   have ew2:IntKind.i64.wrap (1-f)=1-f:=w64 (by omega) (by omega)
   have ew3:IntKind.i64.wrap (w+k)=w+k:=w64 (by omega) (by omega)
   have ew4:IntKind.i64.wrap (r*64)=r*64:=w64 (by omega) (by omega)
   have ew5:IntKind.i64.wrap (v-1)=v-1:=w64 (by omega) (by omega)
   clear hT hP hq
   simp [ew1,ew2,ew3,ew4,ew5] at *
   try simp [QbI,QG,*]
  all_goals (repeat' first |refine And.intro ?_ ?_ |intro _)
  all_goals first |omega |(exfalso;omega)
def Qx8:Qk:=⟨[gD,gi],fun (d,k,_)=>(some (k≤10000000),QeC,[.arr (.int .i64) (QP QcM k.toNat (QbH d.1))])⟩
theorem QvI:Qi Tryz.prog 161 Qx8.spec:=by
 have hP:Qe Tryz.prog _:=Qa QdH (Qa QvH (Qa QzZ (Qc (T:=tree))))
 have hT:=tabs hP Qf
 refine Qx8.good (fn:=Tryz.f161) hT hP Tryz.func161 (by kernel_rfl) rfl fun (d:Dv) (k:Int) hp=>?_
 obtain ⟨N,M⟩:=d
 have hk:k≤10000000:=hp _ rfl
 have eK:imin k 10000000=k:=by rw [QbZ];omega
 obtain ⟨A,hA⟩:∃ A,A=QP (QG 1) (imin k 10000000).toNat (vo N 0):=⟨_,rfl⟩
 have hAo:vOk A:=by rw [hA];exact Qjg (QaQ N 0) _
 repeat' first |(refine Go.mk ?_;conv=>whnf) |refine Ql.go ?_ ?_ |refine Qm.go (fun _=>?_) (fun _=>?_) |refine Br.dec (fun _=>?_) (fun _=>?_) |refine Br.go (fun _=>?_) (fun _=>?_) |refine Qd hT hP mixed ?_ |refine Qb hT hP ?_
 refine QZ 3 ?_
 repeat' first |(refine Go.mk ?_;conv=>whnf) |refine Ql.go ?_ ?_ |refine Qm.go (fun _=>?_) (fun _=>?_) |refine Br.dec (fun _=>?_) (fun _=>?_) |refine Br.go (fun _=>?_) (fun _=>?_) |refine Qd hT hP mixed ?_ |refine Qb hT hP ?_
 all_goals first
  |exact of_decide_eq_true rfl
  |skip
 refine Qay hT hP (X:=Int × List Int) (fun (r,a)=>St.mk (E1 ((I (imin k 10000000)) :: E2 ((.cell (.ptr 0 0)) :: (.cell (.own 1)) :: E1 ((.cell (.sub 1 0 6)) :: (I r) :: E5 ((I 0) :: E20 (E10 (E5 []))))))) [some (.var [.imm (.slice none 0 0),.imm (.slice none 0 0)]),some (.arr (.int .i64) (a++vo N 6))])
  (fun (r,a)=>r≤imin k 10000000∧vOk a∧QP (QG 1) r.toNat a=QP (QG 1) (imin k 10000000).toNat (vo N 0)) (fun (r,_)=>r.toNat) (imin k 10000000,vo N 0) (Le.mk [] [1,2] R R ?_ ?_) ?_ fun (r,a) hi=>?_
 rotate_right
 repeat' first |(refine Go.mk ?_;conv=>whnf) |refine Ql.go ?_ ?_ |refine Qm.go (fun _=>?_) (fun _=>?_) |refine Br.dec (fun _=>?_) (fun _=>?_) |refine Br.go (fun _=>?_) (fun _=>?_) |refine Qd hT hP mixed ?_ |refine Qb hT hP ?_
 rotate_right 3
 ·exact rfl
 ·repeat' first |exact trivial |exact ⟨rfl,rfl⟩ |refine And.intro ?_ ?_
 ·exact ⟨Int.le_refl _,QaQ N 0,rfl⟩
 all_goals
  obtain ⟨hr,ha,hit⟩:=hi
  have hrk:r≤10000000:=by rw [eK] at hr;omega
  have hq0:=QdG ha
  have e6:(((a++vo N 6).drop 0).take 6)=a:=QIp ha.len
  have ep:∀ q,QbI 0 (a++vo N 6) q=QG q a++vo N 6:=fun q=>Qsj ha.len q
  have el:(a++vo N 6).length=12:=by rw [List.length_append,ha.len];rfl
  have ew:IntKind.i64.wrap (Qq a+1)=Qq a+1:=w64 (by omega) (by omega)
  have ew2:r > 0→IntKind.i64.wrap (r-(Qq a+1))=r-(Qq a+1):=fun h=>w64 (by omega) (by omega)
 all_goals first
  |exact of_decide_eq_true rfl
  |(show vOk (((a++vo N 6).drop 0).take 6)
     rw [e6];exact ha)
  |skip
 ·rename_i h0 h1
  have h0:r > 0:=h0
  exact ⟨.inl rfl,⟨a,vo N 6,rfl,ha,QaQ N 6⟩,(by omega:0≤r),hrk⟩
 ·show (0:Int)≤6∧(6:Int)≤12∧(12:Int)≤((QbI 0 (a++vo N 6) r).length:Nat)
  rw [ep,List.length_append,Qk1,ha.len,show (vo N 6).length=6 from rfl];decide
 ·rename_i h0 h1
  have h0:r > 0:=h0
  have ee:QbI 0 (a++vo N 6) r=A++vo N 6:=by rw [ep,QbD ha h0 (.inl (by have h1:Qq (((a++vo N 6).drop 0).take 6)≥r:=h1;rw [e6] at h1;exact h1)),hit,hA]
  refine Qay hT hP (X:=Int × List Int) (fun (r,a)=>St.mk (E1 ((I (imin k 10000000)) :: E2 ((.cell (.ptr 0 0)) :: (.cell (.own 1)) :: E1 ((.cell (.sub 1 6 6)) :: (I r) :: E5 ((I (IntKind.i64.wrap (0+1))) :: E20 (E10 (E5 []))))))) [some (.var [.imm (.slice none 0 0),.imm (.slice none 0 0)]),some (.arr (.int .i64) (A++a))])
   (fun (r,a)=>r≤imin k 10000000∧vOk a∧QP (QG 1) r.toNat a=QP (QG 1) (imin k 10000000).toNat (vo N 6)) (fun (r,_)=>r.toNat) (imin k 10000000,vo N 6) (Le.mk [] [0,1] R R ?_ ?_) ?_ fun (r,a) hi=>?_
  rotate_right
  repeat' first |(refine Go.mk ?_;conv=>whnf) |refine Ql.go ?_ ?_ |refine Qm.go (fun _=>?_) (fun _=>?_) |refine Br.dec (fun _=>?_) (fun _=>?_) |refine Br.go (fun _=>?_) (fun _=>?_) |refine Qd hT hP mixed ?_ |refine Qb hT hP ?_
  rotate_right 3
  ·exact Qmo ee
  ·repeat' first |exact trivial |exact ⟨rfl,rfl⟩ |refine And.intro ?_ ?_
  ·exact ⟨Int.le_refl _,QaQ N 6,rfl⟩
  all_goals
   obtain ⟨hr,ha,hit⟩:=hi
   have hrk:r≤10000000:=by rw [eK] at hr;omega
   have hq0:=QdG ha
   have e6:(((A++a).drop 6).take 6)=a:=QFT hAo.len ha.len
   have ep:∀ q,QbI 6 (A++a) q=A++QG q a:=fun q=>Qhg hAo.len ha.len q
   have el:(A++a).length=12:=by rw [List.length_append,hAo.len,ha.len]
   have ew:IntKind.i64.wrap (Qq a+1)=Qq a+1:=w64 (by omega) (by omega)
   have ew2:r > 0→IntKind.i64.wrap (r-(Qq a+1))=r-(Qq a+1):=fun h=>w64 (by omega) (by omega)
  all_goals first
   |exact of_decide_eq_true rfl
   |(show vOk (((A++a).drop 6).take 6)
      rw [e6];exact ha)
   |skip
  ·rename_i h0 h1
   have h0:r > 0:=h0
   exact ⟨.inr rfl,⟨A,a,rfl,hAo,ha⟩,(by omega:0≤r),hrk⟩
  ·rename_i h0 h1
   have h0:r > 0:=h0
   refine .mk [] [1] _ R R R R R (Qr (l:=QbI 6 (A++a) r) ?_) rfl
   show _=QP QcM k.toNat (QbH N)
   rw [ep,QbD ha h0 (.inl (by have h1:Qq (((A++a).drop 6).take 6)≥r:=h1;rw [e6] at h1;exact h1)),hit,QbH,QhQ (QaQ N 0) (QaQ N 6),hA,eK]
  ·rename_i h0 h1 h2
   have h0:r > 0:=h0
   exact ⟨.inr rfl,⟨A,a,rfl,hAo,ha⟩,(by omega:0≤r),hrk⟩
  ·rename_i h0 h1 h2
   have h0:r > 0:=h0
   refine .mk [] [1] _ R R R R R (Qr (l:=QbI 6 (A++a) r) ?_) rfl
   show _=QP QcM k.toNat (QbH N)
   rw [ep,QbD ha h0 (.inr (by have h2:Qq (((A++a).drop 6).take 6)=100000:=h2;rw [e6] at h2;exact h2)),hit,QbH,QhQ (QaQ N 0) (QaQ N 6),hA,eK]
  ·rename_i h0 h1 h2
   have h0:r > 0:=h0
   exact ⟨.inr rfl,⟨A,a,rfl,hAo,ha⟩,(by rw [e6,ew];omega:0≤IntKind.i64.wrap (Qq (((A++a).drop 6).take 6)+1)),(by rw [e6,ew];omega:IntKind.i64.wrap (Qq (((A++a).drop 6).take 6)+1)≤10000000)⟩
  ·rename_i h0 h1 h2
   have h0:r > 0:=h0
   have h1:¬ Qq (((A++a).drop 6).take 6)≥r:=h1
   rw [e6] at h1
   have er:IntKind.i64.wrap (r-IntKind.i64.wrap (Qq (((A++a).drop 6).take 6)+1))=r-(Qq a+1):=by rw [e6,ew,ew2 h0]
   have eb:QbI 6 (A++a) (IntKind.i64.wrap (Qq (((A++a).drop 6).take 6)+1))=A++QG (Qq a+1) a:=by rw [e6,ew,ep]
   apply Exists.intro (_,QG (Qq a+1) a)
   refine And.intro ?_ (And.intro ?_ (Le.mk [] [0,1] R R (Qmo eb) ?ht))
   case ht=>repeat' first |exact trivial |exact ⟨rfl,rfl⟩ |refine And.intro ?_ ?_
   ·show IntKind.i64.wrap (r-IntKind.i64.wrap (Qq (((A++a).drop 6).take 6)+1))≤imin k 10000000∧vOk (QG (Qq a+1) a)∧QP (QG 1) (IntKind.i64.wrap (r-IntKind.i64.wrap (Qq (((A++a).drop 6).take 6)+1))).toNat (QG (Qq a+1) a)=_
    rw [er,QdZ ha (by omega)]
    exact ⟨by omega,Qct ha (by omega),hit⟩
   ·show (IntKind.i64.wrap (r-IntKind.i64.wrap (Qq (((A++a).drop 6).take 6)+1))).toNat < r.toNat
    rw [er];omega
  ·rename_i h0
   have h0:¬ r > 0:=h0
   refine .mk [] [1] _ R R R R R (Qr (l:=A++a) ?_) rfl
   show _=QP QcM k.toNat (QbH N)
   have e0:r.toNat=0:=by omega
   rw [e0] at hit
   have hit:a=_:=hit
   rw [hit,QbH,QhQ (QaQ N 0) (QaQ N 6),hA,eK]
 ·rename_i h0 h1 h2
  have h0:r > 0:=h0
  exact ⟨.inl rfl,⟨a,vo N 6,rfl,ha,QaQ N 6⟩,(by omega:0≤r),hrk⟩
 ·show (0:Int)≤6∧(6:Int)≤12∧(12:Int)≤((QbI 0 (a++vo N 6) r).length:Nat)
  rw [ep,List.length_append,Qk1,ha.len,show (vo N 6).length=6 from rfl];decide
 ·rename_i h0 h1 h2
  have h0:r > 0:=h0
  have ee:QbI 0 (a++vo N 6) r=A++vo N 6:=by rw [ep,QbD ha h0 (.inr (by have h2:Qq (((a++vo N 6).drop 0).take 6)=100000:=h2;rw [e6] at h2;exact h2)),hit,hA]
  refine Qay hT hP (X:=Int × List Int) (fun (r,a)=>St.mk (E1 ((I (imin k 10000000)) :: E2 ((.cell (.ptr 0 0)) :: (.cell (.own 1)) :: E1 ((.cell (.sub 1 6 6)) :: (I r) :: E5 ((I (IntKind.i64.wrap (0+1))) :: E20 (E10 (E5 []))))))) [some (.var [.imm (.slice none 0 0),.imm (.slice none 0 0)]),some (.arr (.int .i64) (A++a))])
   (fun (r,a)=>r≤imin k 10000000∧vOk a∧QP (QG 1) r.toNat a=QP (QG 1) (imin k 10000000).toNat (vo N 6)) (fun (r,_)=>r.toNat) (imin k 10000000,vo N 6) (Le.mk [] [0,1] R R ?_ ?_) ?_ fun (r,a) hi=>?_
  rotate_right
  repeat' first |(refine Go.mk ?_;conv=>whnf) |refine Ql.go ?_ ?_ |refine Qm.go (fun _=>?_) (fun _=>?_) |refine Br.dec (fun _=>?_) (fun _=>?_) |refine Br.go (fun _=>?_) (fun _=>?_) |refine Qd hT hP mixed ?_ |refine Qb hT hP ?_
  rotate_right 3
  ·exact Qmo ee
  ·repeat' first |exact trivial |exact ⟨rfl,rfl⟩ |refine And.intro ?_ ?_
  ·exact ⟨Int.le_refl _,QaQ N 6,rfl⟩
  all_goals
   obtain ⟨hr,ha,hit⟩:=hi
   have hrk:r≤10000000:=by rw [eK] at hr;omega
   have hq0:=QdG ha
   have e6:(((A++a).drop 6).take 6)=a:=QFT hAo.len ha.len
   have ep:∀ q,QbI 6 (A++a) q=A++QG q a:=fun q=>Qhg hAo.len ha.len q
   have el:(A++a).length=12:=by rw [List.length_append,hAo.len,ha.len]
   have ew:IntKind.i64.wrap (Qq a+1)=Qq a+1:=w64 (by omega) (by omega)
   have ew2:r > 0→IntKind.i64.wrap (r-(Qq a+1))=r-(Qq a+1):=fun h=>w64 (by omega) (by omega)
  all_goals first
   |exact of_decide_eq_true rfl
   |(show vOk (((A++a).drop 6).take 6)
      rw [e6];exact ha)
   |skip
  ·rename_i h0 h1
   have h0:r > 0:=h0
   exact ⟨.inr rfl,⟨A,a,rfl,hAo,ha⟩,(by omega:0≤r),hrk⟩
  ·rename_i h0 h1
   have h0:r > 0:=h0
   refine .mk [] [1] _ R R R R R (Qr (l:=QbI 6 (A++a) r) ?_) rfl
   show _=QP QcM k.toNat (QbH N)
   rw [ep,QbD ha h0 (.inl (by have h1:Qq (((A++a).drop 6).take 6)≥r:=h1;rw [e6] at h1;exact h1)),hit,QbH,QhQ (QaQ N 0) (QaQ N 6),hA,eK]
  ·rename_i h0 h1 h2
   have h0:r > 0:=h0
   exact ⟨.inr rfl,⟨A,a,rfl,hAo,ha⟩,(by omega:0≤r),hrk⟩
  ·rename_i h0 h1 h2
   have h0:r > 0:=h0
   refine .mk [] [1] _ R R R R R (Qr (l:=QbI 6 (A++a) r) ?_) rfl
   show _=QP QcM k.toNat (QbH N)
   rw [ep,QbD ha h0 (.inr (by have h2:Qq (((A++a).drop 6).take 6)=100000:=h2;rw [e6] at h2;exact h2)),hit,QbH,QhQ (QaQ N 0) (QaQ N 6),hA,eK]
  ·rename_i h0 h1 h2
   have h0:r > 0:=h0
   exact ⟨.inr rfl,⟨A,a,rfl,hAo,ha⟩,(by rw [e6,ew];omega:0≤IntKind.i64.wrap (Qq (((A++a).drop 6).take 6)+1)),(by rw [e6,ew];omega:IntKind.i64.wrap (Qq (((A++a).drop 6).take 6)+1)≤10000000)⟩
  ·rename_i h0 h1 h2
   have h0:r > 0:=h0
   have h1:¬ Qq (((A++a).drop 6).take 6)≥r:=h1
   rw [e6] at h1
   have er:IntKind.i64.wrap (r-IntKind.i64.wrap (Qq (((A++a).drop 6).take 6)+1))=r-(Qq a+1):=by rw [e6,ew,ew2 h0]
   have eb:QbI 6 (A++a) (IntKind.i64.wrap (Qq (((A++a).drop 6).take 6)+1))=A++QG (Qq a+1) a:=by rw [e6,ew,ep]
   apply Exists.intro (_,QG (Qq a+1) a)
   refine And.intro ?_ (And.intro ?_ (Le.mk [] [0,1] R R (Qmo eb) ?ht))
   case ht=>repeat' first |exact trivial |exact ⟨rfl,rfl⟩ |refine And.intro ?_ ?_
   ·show IntKind.i64.wrap (r-IntKind.i64.wrap (Qq (((A++a).drop 6).take 6)+1))≤imin k 10000000∧vOk (QG (Qq a+1) a)∧QP (QG 1) (IntKind.i64.wrap (r-IntKind.i64.wrap (Qq (((A++a).drop 6).take 6)+1))).toNat (QG (Qq a+1) a)=_
    rw [er,QdZ ha (by omega)]
    exact ⟨by omega,Qct ha (by omega),hit⟩
   ·show (IntKind.i64.wrap (r-IntKind.i64.wrap (Qq (((A++a).drop 6).take 6)+1))).toNat < r.toNat
    rw [er];omega
  ·rename_i h0
   have h0:¬ r > 0:=h0
   refine .mk [] [1] _ R R R R R (Qr (l:=A++a) ?_) rfl
   show _=QP QcM k.toNat (QbH N)
   have e0:r.toNat=0:=by omega
   rw [e0] at hit
   have hit:a=_:=hit
   rw [hit,QbH,QhQ (QaQ N 0) (QaQ N 6),hA,eK]
 ·rename_i h0 h1 h2
  have h0:r > 0:=h0
  exact ⟨.inl rfl,⟨a,vo N 6,rfl,ha,QaQ N 6⟩,(by rw [e6,ew];omega:0≤IntKind.i64.wrap (Qq (((a++vo N 6).drop 0).take 6)+1)),(by rw [e6,ew];omega:IntKind.i64.wrap (Qq (((a++vo N 6).drop 0).take 6)+1)≤10000000)⟩
 ·rename_i h0 h1 h2
  have h0:r > 0:=h0
  have h1:¬ Qq (((a++vo N 6).drop 0).take 6)≥r:=h1
  rw [e6] at h1
  have er:IntKind.i64.wrap (r-IntKind.i64.wrap (Qq (((a++vo N 6).drop 0).take 6)+1))=r-(Qq a+1):=by rw [e6,ew,ew2 h0]
  have eb:QbI 0 (a++vo N 6) (IntKind.i64.wrap (Qq (((a++vo N 6).drop 0).take 6)+1))=QG (Qq a+1) a++vo N 6:=by rw [e6,ew,ep]
  apply Exists.intro (_,QG (Qq a+1) a)
  refine And.intro ?_ (And.intro ?_ (Le.mk [] [0,1] R R (Qmo eb) ?ht))
  case ht=>repeat' first |exact trivial |exact ⟨rfl,rfl⟩ |refine And.intro ?_ ?_
  ·show IntKind.i64.wrap (r-IntKind.i64.wrap (Qq (((a++vo N 6).drop 0).take 6)+1))≤imin k 10000000∧vOk (QG (Qq a+1) a)∧QP (QG 1) (IntKind.i64.wrap (r-IntKind.i64.wrap (Qq (((a++vo N 6).drop 0).take 6)+1))).toNat (QG (Qq a+1) a)=_
   rw [er,QdZ ha (by omega)]
   exact ⟨by omega,Qct ha (by omega),hit⟩
  ·show (IntKind.i64.wrap (r-IntKind.i64.wrap (Qq (((a++vo N 6).drop 0).take 6)+1))).toNat < r.toNat
   rw [er];omega
 ·show (0:Int)≤6∧(6:Int)≤12∧(12:Int)≤((a++vo N 6).length:Nat)
  rw [el];decide
 ·rename_i h0
  have h0:¬ r > 0:=h0
  have ee:a++vo N 6=A++vo N 6:=by
   have e0:r.toNat=0:=by omega
   rw [e0] at hit
   rw [hA,← hit];rfl
  refine Qay hT hP (X:=Int × List Int) (fun (r,a)=>St.mk (E1 ((I (imin k 10000000)) :: E2 ((.cell (.ptr 0 0)) :: (.cell (.own 1)) :: E1 ((.cell (.sub 1 6 6)) :: (I r) :: E5 ((I (IntKind.i64.wrap (0+1))) :: E20 (E10 (E5 []))))))) [some (.var [.imm (.slice none 0 0),.imm (.slice none 0 0)]),some (.arr (.int .i64) (A++a))])
   (fun (r,a)=>r≤imin k 10000000∧vOk a∧QP (QG 1) r.toNat a=QP (QG 1) (imin k 10000000).toNat (vo N 6)) (fun (r,_)=>r.toNat) (imin k 10000000,vo N 6) (Le.mk [] [0,1] R R ?_ ?_) ?_ fun (r,a) hi=>?_
  rotate_right
  repeat' first |(refine Go.mk ?_;conv=>whnf) |refine Ql.go ?_ ?_ |refine Qm.go (fun _=>?_) (fun _=>?_) |refine Br.dec (fun _=>?_) (fun _=>?_) |refine Br.go (fun _=>?_) (fun _=>?_) |refine Qd hT hP mixed ?_ |refine Qb hT hP ?_
  rotate_right 3
  ·exact Qmo ee
  ·repeat' first |exact trivial |exact ⟨rfl,rfl⟩ |refine And.intro ?_ ?_
  ·exact ⟨Int.le_refl _,QaQ N 6,rfl⟩
  all_goals
   obtain ⟨hr,ha,hit⟩:=hi
   have hrk:r≤10000000:=by rw [eK] at hr;omega
   have hq0:=QdG ha
   have e6:(((A++a).drop 6).take 6)=a:=QFT hAo.len ha.len
   have ep:∀ q,QbI 6 (A++a) q=A++QG q a:=fun q=>Qhg hAo.len ha.len q
   have el:(A++a).length=12:=by rw [List.length_append,hAo.len,ha.len]
   have ew:IntKind.i64.wrap (Qq a+1)=Qq a+1:=w64 (by omega) (by omega)
   have ew2:r > 0→IntKind.i64.wrap (r-(Qq a+1))=r-(Qq a+1):=fun h=>w64 (by omega) (by omega)
  all_goals first
   |exact of_decide_eq_true rfl
   |(show vOk (((A++a).drop 6).take 6)
      rw [e6];exact ha)
   |skip
  ·rename_i h0 h1
   have h0:r > 0:=h0
   exact ⟨.inr rfl,⟨A,a,rfl,hAo,ha⟩,(by omega:0≤r),hrk⟩
  ·rename_i h0 h1
   have h0:r > 0:=h0
   refine .mk [] [1] _ R R R R R (Qr (l:=QbI 6 (A++a) r) ?_) rfl
   show _=QP QcM k.toNat (QbH N)
   rw [ep,QbD ha h0 (.inl (by have h1:Qq (((A++a).drop 6).take 6)≥r:=h1;rw [e6] at h1;exact h1)),hit,QbH,QhQ (QaQ N 0) (QaQ N 6),hA,eK]
  ·rename_i h0 h1 h2
   have h0:r > 0:=h0
   exact ⟨.inr rfl,⟨A,a,rfl,hAo,ha⟩,(by omega:0≤r),hrk⟩
  ·rename_i h0 h1 h2
   have h0:r > 0:=h0
   refine .mk [] [1] _ R R R R R (Qr (l:=QbI 6 (A++a) r) ?_) rfl
   show _=QP QcM k.toNat (QbH N)
   rw [ep,QbD ha h0 (.inr (by have h2:Qq (((A++a).drop 6).take 6)=100000:=h2;rw [e6] at h2;exact h2)),hit,QbH,QhQ (QaQ N 0) (QaQ N 6),hA,eK]
  ·rename_i h0 h1 h2
   have h0:r > 0:=h0
   exact ⟨.inr rfl,⟨A,a,rfl,hAo,ha⟩,(by rw [e6,ew];omega:0≤IntKind.i64.wrap (Qq (((A++a).drop 6).take 6)+1)),(by rw [e6,ew];omega:IntKind.i64.wrap (Qq (((A++a).drop 6).take 6)+1)≤10000000)⟩
  ·rename_i h0 h1 h2
   have h0:r > 0:=h0
   have h1:¬ Qq (((A++a).drop 6).take 6)≥r:=h1
   rw [e6] at h1
   have er:IntKind.i64.wrap (r-IntKind.i64.wrap (Qq (((A++a).drop 6).take 6)+1))=r-(Qq a+1):=by rw [e6,ew,ew2 h0]
   have eb:QbI 6 (A++a) (IntKind.i64.wrap (Qq (((A++a).drop 6).take 6)+1))=A++QG (Qq a+1) a:=by rw [e6,ew,ep]
   apply Exists.intro (_,QG (Qq a+1) a)
   refine And.intro ?_ (And.intro ?_ (Le.mk [] [0,1] R R (Qmo eb) ?ht))
   case ht=>repeat' first |exact trivial |exact ⟨rfl,rfl⟩ |refine And.intro ?_ ?_
   ·show IntKind.i64.wrap (r-IntKind.i64.wrap (Qq (((A++a).drop 6).take 6)+1))≤imin k 10000000∧vOk (QG (Qq a+1) a)∧QP (QG 1) (IntKind.i64.wrap (r-IntKind.i64.wrap (Qq (((A++a).drop 6).take 6)+1))).toNat (QG (Qq a+1) a)=_
    rw [er,QdZ ha (by omega)]
    exact ⟨by omega,Qct ha (by omega),hit⟩
   ·show (IntKind.i64.wrap (r-IntKind.i64.wrap (Qq (((A++a).drop 6).take 6)+1))).toNat < r.toNat
    rw [er];omega
  ·rename_i h0
   have h0:¬ r > 0:=h0
   refine .mk [] [1] _ R R R R R (Qr (l:=A++a) ?_) rfl
   show _=QP QcM k.toNat (QbH N)
   have e0:r.toNat=0:=by omega
   rw [e0] at hit
   have hit:a=_:=hit
   rw [hit,QbH,QhQ (QaQ N 0) (QaQ N 6),hA,eK]
theorem oR (N:List Int):(0≤N.getD 0 0%4096∧N.getD 0 0%4096 < 4096)∧(0≤N.getD 1 0%16∧N.getD 1 0%16 < 16)∧(0≤N.getD 4 0%2∧N.getD 4 0%2 < 2)∧(0≤N.getD 6 0%4096∧N.getD 6 0%4096 < 4096)∧(0≤N.getD 7 0%16∧N.getD 7 0%16 < 16)∧(0≤N.getD 10 0%2∧N.getD 10 0%2 < 2):=by omega
theorem Qk3 {a b:Int} (h1:0≤a∧a < 16) (h2:0≤b∧b < 2):0≤a*b∧a*b < 16:=by
 have:b=0∨b=1:=by omega
 rcases this with rfl |rfl<;>omega
def Qsk (N:List Int):Int:=N.getD 1 0%16*(N.getD 4 0%2)+N.getD 7 0%16*(N.getD 10 0%2)
def QCp:Qk:=⟨[gD],fun (d,_)=>(none,I (Qsk d.1),[])⟩
theorem Qk4 (N:List Int):IntKind.i64.wrap (IntKind.i64.wrap (N.getD 1 0%16*(N.getD 4 0%2))+IntKind.i64.wrap (N.getD 7 0%16*(N.getD 10 0%2)))=Qsk N:=by
 obtain ⟨h0,h1,h2,h3,h4,h5⟩:=oR N
 have m1:=Qk3 h1 h2
 have m2:=Qk3 h4 h5
 rw [w64 (x:=N.getD 1 0%16*(N.getD 4 0%2)) (by omega) (by omega),w64 (x:=N.getD 7 0%16*(N.getD 10 0%2)) (by omega) (by omega),w64 (by omega) (by omega)];rfl
theorem Qz0:Qi Tryz.prog 218 QCp.spec:=by
 have hP:Qe Tryz.prog _:=Qa QdH (Qc (T:=tree))
 have hT:=tabs hP Qf
 refine QCp.good (fn:=Tryz.f218) hT hP Tryz.func218 (by kernel_rfl) rfl fun (d:Dv) _=>?_
 obtain ⟨N,M⟩:=d
 repeat' first |(refine Go.mk ?_;conv=>whnf) |refine Ql.go ?_ ?_ |refine Qm.go (fun _=>?_) (fun _=>?_) |refine Br.dec (fun _=>?_) (fun _=>?_) |refine Br.go (fun _=>?_) (fun _=>?_) |refine Qd hT hP mixed ?_ |refine Qb hT hP ?_
 all_goals first
  |exact of_decide_eq_true rfl
  |(refine .mk [] [] _ R R R R R R (Qg ?_)
     exact Qk4 N)
  |skip
def Qjh:QaV:=⟨List Int × Int,fun x=>[.c (.own 0),I1 x.2],fun x=>[.arr (.int .i64) x.1],fun a b=>(match a,b with | [.c (.own 0),.c (.imm (.int .i64 k))],[.arr (.int .i64) n]=>some (n,k) |_,_=>none),
 fun x=>(some ((0≤x.2∧x.2 < 4)∧List.length x.1=12),.cell (.sub 0 0 6),[some (.arr (.int .i64) x.1)],[])⟩
theorem Qim:Qi Tryz.prog 235 Qjh.spec:=by
 have hP:Qe Tryz.prog _:=(Qc (T:=tree))
 have hT:=tabs hP Qf
 refine Qjh.good (fn:=Tryz.f235) hT hP Tryz.func235 (by kernel_rfl) rfl ?_ fun ((l,a):List Int × Int) hq=>?_
 ·intro a b x h
  simp only [Qjh] at h
  split at h
  ·injection h with h;subst h;exact ⟨rfl,rfl⟩
  ·cases h
 obtain ⟨hp,hl⟩:(0≤a∧a < 4)∧l.length=12:=hq _ rfl
 have ha:a=0∨a=1∨a=2∨a=3:=by omega
 rcases ha with rfl |rfl |rfl |rfl
 all_goals
  repeat' first |(refine Go.mk ?_;conv=>whnf) |refine Ql.go ?_ ?_ |refine Qm.go (fun _=>?_) (fun _=>?_) |refine Br.dec (fun _=>?_) (fun _=>?_) |refine Br.go (fun _=>?_) (fun _=>?_) |refine Qd hT hP mixed ?_ |refine Qb hT hP ?_
  all_goals first
   |exact of_decide_eq_true rfl
   |(exfalso;rename_i h;revert h;decide)
   |(show (0:Int)≤0∧(0:Int)≤6∧(6:Int)≤(l.length:Nat)
      rw [hl];decide)
   |exact .mk [] [0] _ R R R R R R R
   |skip
def Qji:QaV:=⟨List Int × Int,fun x=>[.c (.own 0),I1 x.2],fun x=>[.arr (.int .i64) x.1],fun a b=>(match a,b with | [.c (.own 0),.c (.imm (.int .i64 k))],[.arr (.int .i64) n]=>some (n,k) |_,_=>none),
 fun x=>(some ((4≤x.2∧x.2 < 8)∧List.length x.1=12),.cell (.sub 0 6 6),[some (.arr (.int .i64) x.1)],[])⟩
theorem Qin:Qi Tryz.prog 235 Qji.spec:=by
 have hP:Qe Tryz.prog _:=(Qc (T:=tree))
 have hT:=tabs hP Qf
 refine Qji.good (fn:=Tryz.f235) hT hP Tryz.func235 (by kernel_rfl) rfl ?_ fun ((l,a):List Int × Int) hq=>?_
 ·intro a b x h
  simp only [Qji] at h
  split at h
  ·injection h with h;subst h;exact ⟨rfl,rfl⟩
  ·cases h
 obtain ⟨hp,hl⟩:(4≤a∧a < 8)∧l.length=12:=hq _ rfl
 have ha:a=4∨a=5∨a=6∨a=7:=by omega
 rcases ha with rfl |rfl |rfl |rfl
 all_goals
  repeat' first |(refine Go.mk ?_;conv=>whnf) |refine Ql.go ?_ ?_ |refine Qm.go (fun _=>?_) (fun _=>?_) |refine Br.dec (fun _=>?_) (fun _=>?_) |refine Br.go (fun _=>?_) (fun _=>?_) |refine Qd hT hP mixed ?_ |refine Qb hT hP ?_
  all_goals first
   |exact of_decide_eq_true rfl
   |(exfalso;rename_i h;revert h;decide)
   |(show (0:Int)≤6∧(6:Int)≤12∧(12:Int)≤(l.length:Nat)
      rw [hl];decide)
   |exact .mk [] [0] _ R R R R R R R
   |skip
def Qjj:QaV:=⟨List Int × Int,fun x=>[.c (.own 0),I1 x.2],fun x=>[.arr (.int .i64) x.1],fun a b=>(match a,b with | [.c (.own 0),.c (.imm (.int .i64 k))],[.arr (.int .i64) n]=>some (n,k) |_,_=>none),
 fun x=>(some (x.2 < 0∨x.2≥8),.cell (.imm (.slice none 0 0)),[some (.arr (.int .i64) x.1)],[])⟩
theorem Qio:Qi Tryz.prog 235 Qjj.spec:=by
 have hP:Qe Tryz.prog _:=(Qc (T:=tree))
 have hT:=tabs hP Qf
 refine Qjj.good (fn:=Tryz.f235) hT hP Tryz.func235 (by kernel_rfl) rfl ?_ fun ((l,a):List Int × Int) hq=>?_
 ·intro a b x h
  simp only [Qjj] at h
  split at h
  ·injection h with h;subst h;exact ⟨rfl,rfl⟩
  ·cases h
 have hp:a < 0∨a≥8:=hq _ rfl
 repeat' first |(refine Go.mk ?_;conv=>whnf) |refine Ql.go ?_ ?_ |refine Qm.go (fun _=>?_) (fun _=>?_) |refine Br.dec (fun _=>?_) (fun _=>?_) |refine Br.go (fun _=>?_) (fun _=>?_) |refine Qd hT hP mixed ?_ |refine Qb hT hP ?_
 all_goals first
  |exact .mk [] [0] _ R R R R R R R
  |(exfalso;dsimp only at *;omega)
  |skip
def orF (N:List Int) (a:Int):Int:=QbB [N.getD 0 0%4096%256,N.getD 0 0%4096/256,N.getD 1 0%16,N.getD 2 0%256,N.getD 6 0%4096%256,N.getD 6 0%4096/256,N.getD 7 0%16,N.getD 8 0%256] a
theorem Qx9 {n:Int}:n/2 ^ (0:Int).toNat%2 ^ (8:Int).toNat=n%256:=by
 show n/1%256=n%256
 rw [Int.ediv_one]
theorem Qya {n:Int} (h:0≤n∧n < 4096):n/2 ^ (8:Int).toNat%2 ^ (4:Int).toNat=n/256:=by
 show n/256%16=n/256
 omega
def Qn8:Qk:=⟨[gD,gi],fun (d,a,_)=>(some (0≤a∧a < 4),.tup [.agg [.own 0,.imm (.slice none 0 0)],I1 (orF d.1 a)],[.arr (.int .i64) (QbH d.1)])⟩
theorem QpK:Qi Tryz.prog 177 Qn8.spec:=by
 have hP:Qe Tryz.prog _:=Qa QdH (Qa Qim (Qa Qhd (Qc (T:=tree))))
 have hT:=tabs hP Qf
 refine Qn8.good (fn:=Tryz.f177) hT hP Tryz.func177 (by kernel_rfl) rfl fun (d:Dv) (a:Int) hq=>?_
 have hp:0≤a∧a < 4:=hq _ rfl
 obtain ⟨N,M⟩:=d
 obtain ⟨h0,h1,h2,h3,h4,h5⟩:=oR N
 have ha:a=0∨a=1∨a=2∨a=3:=by omega
 rcases ha with rfl |rfl |rfl |rfl
 all_goals
  repeat' first |(refine Go.mk ?_;conv=>whnf) |refine Ql.go ?_ ?_ |refine Qm.go (fun _=>?_) (fun _=>?_) |refine Br.dec (fun _=>?_) (fun _=>?_) |refine Br.go (fun _=>?_) (fun _=>?_) |refine Qd hT hP mixed ?_ |refine Qb hT hP ?_
  all_goals first
   |exact of_decide_eq_true rfl
   |exact ⟨of_decide_eq_true rfl,rfl⟩
   |(exfalso;rename_i h;exact absurd (show (6:Nat)=0 from h) (by decide))
   |(show 0≤N.getD 0 0%4096∧N.getD 0 0%4096 < 4611686018427387904∧_
      exact ⟨by omega,by omega,by decide,by decide,by decide⟩)
   |(refine .mk [] [2] _ R R R R R R (Qb2 ?_)
      first |exact Qx9 |exact Qya h0 |exact rfl)
   |skip
def Qn9:Qk:=⟨[gD,gi],fun (d,a,_)=>(some (4≤a∧a < 8),.tup [.agg [.own 0,.imm (.slice none 0 0)],I1 (orF d.1 a)],[.arr (.int .i64) (QbH d.1)])⟩
theorem QpL:Qi Tryz.prog 177 Qn9.spec:=by
 have hP:Qe Tryz.prog _:=Qa QdH (Qa Qin (Qa Qhd (Qc (T:=tree))))
 have hT:=tabs hP Qf
 refine Qn9.good (fn:=Tryz.f177) hT hP Tryz.func177 (by kernel_rfl) rfl fun (d:Dv) (a:Int) hq=>?_
 have hp:4≤a∧a < 8:=hq _ rfl
 obtain ⟨N,M⟩:=d
 obtain ⟨h0,h1,h2,h3,h4,h5⟩:=oR N
 have ha:a=4∨a=5∨a=6∨a=7:=by omega
 rcases ha with rfl |rfl |rfl |rfl
 all_goals
  repeat' first |(refine Go.mk ?_;conv=>whnf) |refine Ql.go ?_ ?_ |refine Qm.go (fun _=>?_) (fun _=>?_) |refine Br.dec (fun _=>?_) (fun _=>?_) |refine Br.go (fun _=>?_) (fun _=>?_) |refine Qd hT hP mixed ?_ |refine Qb hT hP ?_
  all_goals first
   |exact of_decide_eq_true rfl
   |exact ⟨of_decide_eq_true rfl,rfl⟩
   |(exfalso;rename_i h;exact absurd (show (6:Nat)=0 from h) (by decide))
   |(show 0≤N.getD 6 0%4096∧N.getD 6 0%4096 < 4611686018427387904∧_
      exact ⟨by omega,by omega,by decide,by decide,by decide⟩)
   |(refine .mk [] [2] _ R R R R R R (Qb2 ?_)
      first |exact Qx9 |exact Qya h3 |exact rfl)
   |skip
def Qoa:Qk:=⟨[gD,gi],fun (d,a,_)=>(some (a < 0∨a≥8),.tup [.agg [.own 0,.imm (.slice none 0 0)],I1 (orF d.1 a)],[.arr (.int .i64) (QbH d.1)])⟩
theorem QpM:Qi Tryz.prog 177 Qoa.spec:=by
 have hP:Qe Tryz.prog _:=Qa QdH (Qa Qio (Qa Qhd (Qc (T:=tree))))
 have hT:=tabs hP Qf
 refine Qoa.good (fn:=Tryz.f177) hT hP Tryz.func177 (by kernel_rfl) rfl fun (d:Dv) (a:Int) hq=>?_
 have hp:a < 0∨a≥8:=hq _ rfl
 obtain ⟨N,M⟩:=d
 obtain ⟨h0,h1,h2,h3,h4,h5⟩:=oR N
 repeat' first |(refine Go.mk ?_;conv=>whnf) |refine Ql.go ?_ ?_ |refine Qm.go (fun _=>?_) (fun _=>?_) |refine Br.dec (fun _=>?_) (fun _=>?_) |refine Br.go (fun _=>?_) (fun _=>?_) |refine Qd hT hP mixed ?_ |refine Qb hT hP ?_
 all_goals first
  |exact hp
  |contradiction
  |(refine .mk [] [2] _ R R R R R R (Qb2 ?_)
     exact (Qg1 fun i hi=>by
      have:i < 8:=hi
      omega).symm)
  |skip
theorem QGw (a:Int) (h:¬ (0≤a∧a < 8)):a < 0∨a≥8:=by omega
def QCq:Qk:=⟨[gD,gi],fun (d,a,_)=>(none,.tup [.agg [.own 0,.imm (.slice none 0 0)],I1 (orF d.1 a)],[.arr (.int .i64) (QbH d.1)])⟩
def Qz1:Qk:=⟨[gD,gi],fun (d,a,_)=>(some (0≤a∧a < 8),.tup [.agg [.own 0,.imm (.slice none 0 0)],I1 (orF d.1 a)],[.arr (.int .i64) (QbH d.1)])⟩
theorem Qsl:Qi Tryz.prog 177 Qz1.spec:=Qi.cases QpK QpL fun (d,a,_) hq=>by
 have hp:0≤a∧a < 8:=hq _ rfl
 rcases Int.lt_or_le a 4 with h |h
 ·exact .inl ⟨fun q hq=>by cases hq;exact ⟨hp.1,h⟩,rfl⟩
 ·exact .inr ⟨fun q hq=>by cases hq;exact ⟨h,hp.2⟩,rfl⟩
theorem QvJ:Qi Tryz.prog 177 QCq.spec:=Qi.cases Qsl QpM fun (d,a,_) _=>by
 by_cases h:0≤a∧a < 8
 ·exact .inl ⟨fun q hq=>by cases hq;exact h,rfl⟩
 ·exact .inr ⟨fun q hq=>by cases hq;exact QGw a h,rfl⟩
def owF (N:List Int) (a k:Int):List Int :=
 if a=0 then (QbH N).set 0 (N.getD 0 0%4096/256*256+k%256) else if a=1 then (QbH N).set 0 (N.getD 0 0%4096%256+k%16*256) else if a=2 then ((QbH N).set 1 (k%16)).set 5 0 else if a=3 then (QbH N).set 2 (k%256)
 else if a=4 then (QbH N).set 6 (N.getD 6 0%4096/256*256+k%256) else if a=5 then (QbH N).set 6 (N.getD 6 0%4096%256+k%16*256) else if a=6 then ((QbH N).set 7 (k%16)).set 11 0 else if a=7 then (QbH N).set 8 (k%256) else QbH N
theorem Qyb {n k:Int} (h:0≤n∧n < 4096):2 ^ (0:Int).toNat*(2 ^ (8:Int).toNat*(n/2 ^ ((0:Int)+8).toNat)+k%2 ^ (8:Int).toNat)+n%2 ^ (0:Int).toNat=n/256*256+k%256:=by
 show 1*(256*(n/256)+k%256)+n%1=_
 omega
theorem Qyc {n k:Int} (h:0≤n∧n < 4096):2 ^ (8:Int).toNat*(2 ^ (4:Int).toNat*(n/2 ^ ((8:Int)+4).toNat)+k%2 ^ (4:Int).toNat)+n%2 ^ (8:Int).toNat=n%256+k%16*256:=by
 show 256*(16*(n/4096)+k%16)+n%256=_
 omega
theorem Qf2 {l:List Int} {i:Nat} {x y:Int} (h:x=y):l.set i x=l.set i y:=by rw [h]
def Qk5:Qk:=⟨[gD,gi,gi],fun (d,a,k,_)=>(some (0≤a∧a < 4),QeC,[.arr (.int .i64) (owF d.1 a k)])⟩
theorem Qmp:Qi Tryz.prog 184 Qk5.spec:=by
 have hP:Qe Tryz.prog _:=Qa QdH (Qa Qim (Qa Qhe (Qa QT (Qc (T:=tree)))))
 have hT:=tabs hP Qf
 refine Qk5.good (fn:=Tryz.f184) hT hP Tryz.func184 (by kernel_rfl) rfl fun (d:Dv) (a k:Int) hq=>?_
 have hp:0≤a∧a < 4:=hq _ rfl
 obtain ⟨N,M⟩:=d
 obtain ⟨h0,h1,h2,h3,h4,h5⟩:=oR N
 have ha:a=0∨a=1∨a=2∨a=3:=by omega
 rcases ha with rfl |rfl |rfl |rfl
 all_goals
  repeat' first |(refine Go.mk ?_;conv=>whnf) |refine Ql.go ?_ ?_ |refine Qm.go (fun _=>?_) (fun _=>?_) |refine Br.dec (fun _=>?_) (fun _=>?_) |refine Br.go (fun _=>?_) (fun _=>?_) |refine Qd hT hP mixed ?_ |refine Qb hT hP ?_
  all_goals first
   |exact of_decide_eq_true rfl
   |exact ⟨of_decide_eq_true rfl,rfl⟩
   |(exfalso;rename_i h;exact absurd (show (6:Nat)=0 from h) (by decide))
   |(show 0≤N.getD 0 0%4096∧N.getD 0 0%4096 < 4611686018427387904∧_
      exact ⟨by omega,by omega,by decide,by decide,by decide⟩)
   |exact .mk [] [2] _ R R R R R R R
   |(refine .mk [] [2] _ R R R R R (Qr ?_) rfl
      first |exact Qf2 (Qyb h0) |exact Qf2 (Qyc h0))
   |skip
def Qk6:Qk:=⟨[gD,gi,gi],fun (d,a,k,_)=>(some (4≤a∧a < 8),QeC,[.arr (.int .i64) (owF d.1 a k)])⟩
theorem Qmq:Qi Tryz.prog 184 Qk6.spec:=by
 have hP:Qe Tryz.prog _:=Qa QdH (Qa Qin (Qa Qhe (Qa QT (Qc (T:=tree)))))
 have hT:=tabs hP Qf
 refine Qk6.good (fn:=Tryz.f184) hT hP Tryz.func184 (by kernel_rfl) rfl fun (d:Dv) (a k:Int) hq=>?_
 have hp:4≤a∧a < 8:=hq _ rfl
 obtain ⟨N,M⟩:=d
 obtain ⟨h0,h1,h2,h3,h4,h5⟩:=oR N
 have ha:a=4∨a=5∨a=6∨a=7:=by omega
 rcases ha with rfl |rfl |rfl |rfl
 all_goals
  repeat' first |(refine Go.mk ?_;conv=>whnf) |refine Ql.go ?_ ?_ |refine Qm.go (fun _=>?_) (fun _=>?_) |refine Br.dec (fun _=>?_) (fun _=>?_) |refine Br.go (fun _=>?_) (fun _=>?_) |refine Qd hT hP mixed ?_ |refine Qb hT hP ?_
  all_goals first
   |exact of_decide_eq_true rfl
   |exact ⟨of_decide_eq_true rfl,rfl⟩
   |(exfalso;rename_i h;exact absurd (show (6:Nat)=0 from h) (by decide))
   |(show 0≤N.getD 6 0%4096∧N.getD 6 0%4096 < 4611686018427387904∧_
      exact ⟨by omega,by omega,by decide,by decide,by decide⟩)
   |exact .mk [] [2] _ R R R R R R R
   |(refine .mk [] [2] _ R R R R R (Qr ?_) rfl
      first |exact Qf2 (Qyb h3) |exact Qf2 (Qyc h3))
   |skip
def Qk7:Qk:=⟨[gD,gi,gi],fun (d,a,k,_)=>(some (a < 0∨a≥8),QeC,[.arr (.int .i64) (owF d.1 a k)])⟩
theorem Qmr:Qi Tryz.prog 184 Qk7.spec:=by
 have hP:Qe Tryz.prog _:=Qa QdH (Qa Qio (Qa Qhe (Qa QT (Qc (T:=tree)))))
 have hT:=tabs hP Qf
 refine Qk7.good (fn:=Tryz.f184) hT hP Tryz.func184 (by kernel_rfl) rfl fun (d:Dv) (a k:Int) hq=>?_
 have hp:a < 0∨a≥8:=hq _ rfl
 obtain ⟨N,M⟩:=d
 obtain ⟨h0,h1,h2,h3,h4,h5⟩:=oR N
 repeat' first |(refine Go.mk ?_;conv=>whnf) |refine Ql.go ?_ ?_ |refine Qm.go (fun _=>?_) (fun _=>?_) |refine Br.dec (fun _=>?_) (fun _=>?_) |refine Br.go (fun _=>?_) (fun _=>?_) |refine Qd hT hP mixed ?_ |refine Qb hT hP ?_
 all_goals first
  |exact hp
  |contradiction
  |(refine .mk [] [2] _ R R R R R (Qr (l:=QbH N) ?_) rfl
     show _=owF N a k
     unfold owF
     rw [if_neg (by omega),if_neg (by omega),if_neg (by omega),if_neg (by omega),if_neg (by omega),if_neg (by omega),if_neg (by omega),if_neg (by omega)])
  |skip
def Qz2:Qk:=⟨[gD,gi,gi],fun (d,a,k,_)=>(none,QeC,[.arr (.int .i64) (owF d.1 a k)])⟩
def QvK:Qk:=⟨[gD,gi,gi],fun (d,a,k,_)=>(some (0≤a∧a < 8),QeC,[.arr (.int .i64) (owF d.1 a k)])⟩
theorem QpN:Qi Tryz.prog 184 QvK.spec:=Qi.cases Qmp Qmq fun (d,a,k,_) hq=>by
 have hp:0≤a∧a < 8:=hq _ rfl
 rcases Int.lt_or_le a 4 with h |h
 ·exact .inl ⟨fun q hq=>by cases hq;exact ⟨hp.1,h⟩,rfl⟩
 ·exact .inr ⟨fun q hq=>by cases hq;exact ⟨h,hp.2⟩,rfl⟩
theorem Qsm:Qi Tryz.prog 184 Qz2.spec:=Qi.cases QpN Qmr fun (d,a,k,_) _=>by
 by_cases h:0≤a∧a < 8
 ·exact .inl ⟨fun q hq=>by cases hq;exact h,rfl⟩
 ·exact .inr ⟨fun q hq=>by cases hq;exact QGw a h,rfl⟩
def omods:List Int:=[4096,16,256,4096,2,16384,4096,16,256,4096,2,16384]
theorem Qob:omods.length≤1000∧∀ m ∈ omods,0 < m∧m≤4611686018427387904:=by decide
def Qoc:Qk:=⟨[gC,gD],fun (c,d,_)=>(some (c.2.1=7),QeC,[.arr (.int .i64) (QbH d.1)])⟩
theorem QcN:Qi Tryz.prog 58 Qoc.spec:=by
 have hP:Qe Tryz.prog _:=Qa Qcy (Qc (T:=tree))
 have hT:=tabs hP Qf
 refine Qoc.good (fn:=Tryz.f58) hT hP Tryz.func58 (by kernel_rfl) rfl fun (c:Cv) (d:Dv) hp=>?_
 obtain ⟨cn,ck,cb,cs,cd⟩:=c
 obtain rfl:ck=7:=hp _ rfl
 obtain ⟨N,M⟩:=d
 repeat' first |(refine Go.mk ?_;conv=>whnf) |refine Ql.go ?_ ?_ |refine Qm.go (fun _=>?_) (fun _=>?_) |refine Br.dec (fun _=>?_) (fun _=>?_) |refine Br.go (fun _=>?_) (fun _=>?_) |refine Qd hT hP mixed ?_ |refine Qb hT hP ?_
 all_goals first
  |exact rfl
  |exact Qob
  |exact of_decide_eq_true rfl
  |skip
 exact .mk [] [5] _ R R R R R R R
theorem tm {n m:Int} (h:0≤n):Int.tmod n m=n%m:=Int.tmod_eq_emod_of_nonneg h
theorem Qz3 {n:Int} (h:0≤n∧n < 4096):IntKind.i64.wrap (Int.tdiv n 256)=n/256:=by rw [Int.tdiv_eq_ediv_of_nonneg h.1,w64 (by omega) (by omega)]
def Qod:Qk:=⟨[gC,gD,gi],fun (c,d,a,_)=>(some (c.2.1=7),.tup [.agg [.own 0,.imm (.slice none 0 0)],I1 (orF d.1 a)],[.arr (.int .i64) (QbH d.1)])⟩
theorem QpO:Qi Tryz.prog 76 Qod.spec:=by
 have hP:Qe Tryz.prog _:=Qa QcN (Qa QfD (Qc (T:=tree)))
 have hT:=tabs hP Qf
 refine Qod.good (fn:=Tryz.f76) hT hP Tryz.func76 (by kernel_rfl) rfl fun (c:Cv) (d:Dv) (a:Int) hp=>?_
 obtain ⟨cn,ck,cb,cs,cd⟩:=c
 obtain rfl:ck=7:=hp _ rfl
 obtain ⟨N,M⟩:=d
 obtain ⟨h0,h1,h2,h3,h4,h5⟩:=oR N
 repeat' first |(refine Go.mk ?_;conv=>whnf) |refine Ql.go ?_ ?_ |refine Qm.go (fun _=>?_) (fun _=>?_) |refine Br.dec (fun _=>?_) (fun _=>?_) |refine Br.go (fun _=>?_) (fun _=>?_) |refine Qd hT hP mixed ?_ |refine Qb hT hP ?_
 all_goals first
  |exact rfl
  |exact Qob
  |exact of_decide_eq_true rfl
  |skip
 refine .mk [] [4] _ R R R R R R (Qb2 ?_)
 show QbB [Int.tmod (N.getD 0 0%4096) 256,IntKind.i64.wrap (Int.tdiv (N.getD 0 0%4096) 256),N.getD 1 0%16,N.getD 2 0%256,Int.tmod (N.getD 6 0%4096) 256,IntKind.i64.wrap (Int.tdiv (N.getD 6 0%4096) 256),N.getD 7 0%16,N.getD 8 0%256] a=orF N a
 rw [tm h0.1,tm h3.1,Qz3 h0,Qz3 h3];rfl
theorem QCr {n k:Int} (h:0≤n∧n < 4096):IntKind.i64.wrap (IntKind.i64.wrap (IntKind.i64.wrap (Int.tdiv n 256)*256)+k%256)=n/256*256+k%256:=by
 rw [Qz3 h,w64 (x:=n/256*256) (by omega) (by omega),w64 (by omega) (by omega)]
theorem QGx {k:Int}:Int.tmod (k%256) 16=k%16:=by rw [tm (by omega)];omega
theorem QCs {n k:Int} (h:0≤n∧n < 4096):IntKind.i64.wrap (Int.tmod n 256+IntKind.i64.wrap (Int.tmod (k%256) 16*256))=n%256+k%16*256:=by
 rw [tm h.1,QGx,w64 (x:=k%16*256) (by omega) (by omega),w64 (by omega) (by omega)]
theorem Qz4 {l:List Int} {i j:Nat} {x y z:Int} (h:x=y):(l.set i x).set j z=(l.set i y).set j z:=by rw [h]
def Qoe:Qk:=⟨[gC,gD,gi,gi],fun (c,d,a,k,_)=>(some (c.2.1=7),QeC,[.arr (.int .i64) (owF d.1 a k)])⟩
set_option maxHeartbeats 4000000 in
theorem QpP:Qi Tryz.prog 77 Qoe.spec:=by
 have hP:Qe Tryz.prog _:=Qa QcN (Qa Qb0 (Qc (T:=tree)))
 have hT:=tabs hP Qf
 refine Qoe.good (fn:=Tryz.f77) hT hP Tryz.func77 (by kernel_rfl) rfl fun (c:Cv) (d:Dv) (a k:Int) hp=>?_
 obtain ⟨cn,ck,cb,cs,cd⟩:=c
 obtain rfl:ck=7:=hp _ rfl
 obtain ⟨N,M⟩:=d
 obtain ⟨h0,h1,h2,h3,h4,h5⟩:=oR N
 have ha:a=0∨a=1∨a=2∨a=3∨a=4∨a=5∨a=6∨a=7∨a < 0∨a≥8:=by omega
 rcases ha with rfl |rfl |rfl |rfl |rfl |rfl |rfl |rfl |ha |ha
 all_goals
  repeat' first |(refine Go.mk ?_;conv=>whnf) |refine Ql.go ?_ ?_ |refine Qm.go (fun _=>?_) (fun _=>?_) |refine Br.dec (fun _=>?_) (fun _=>?_) |refine Br.go (fun _=>?_) (fun _=>?_) |refine Qd hT hP mixed ?_ |refine Qb hT hP ?_
  all_goals first
   |exact rfl
   |exact of_decide_eq_true rfl
   |(exfalso;omega)
   |exact .mk [] [3] _ R R R R R R R
   |(refine .mk [] [3] _ R R R R R (Qr ?_) rfl
      first |exact Qf2 (QCr h0) |exact Qf2 (QCr h3) |exact Qf2 (QCs h0) |exact Qf2 (QCs h3) |exact Qz4 QGx)
   |(refine .mk [] [3] _ R R R R R (Qr (l:=QbH N) ?_) rfl
      show _=owF N a k
      unfold owF
      rw [if_neg (by omega),if_neg (by omega),if_neg (by omega),if_neg (by omega),if_neg (by omega),if_neg (by omega),if_neg (by omega),if_neg (by omega)])
   |skip
def Qsn:Qk:=⟨[gC,gD],fun (c,d,_)=>(some (c.2.1=7),I (Qsk d.1),[])⟩
theorem Qso:Qi Tryz.prog 72 Qsn.spec:=by
 have hP:Qe Tryz.prog _:=Qa QcN (Qc (T:=tree))
 have hT:=tabs hP Qf
 refine Qsn.good (fn:=Tryz.f72) hT hP Tryz.func72 (by kernel_rfl) rfl fun (c:Cv) (d:Dv) hp=>?_
 obtain ⟨cn,ck,cb,cs,cd⟩:=c
 obtain rfl:ck=7:=hp _ rfl
 obtain ⟨N,M⟩:=d
 repeat' first |(refine Go.mk ?_;conv=>whnf) |refine Ql.go ?_ ?_ |refine Qm.go (fun _=>?_) (fun _=>?_) |refine Br.dec (fun _=>?_) (fun _=>?_) |refine Br.go (fun _=>?_) (fun _=>?_) |refine Qd hT hP mixed ?_ |refine Qb hT hP ?_
 all_goals first
  |exact rfl
  |exact of_decide_eq_true rfl
  |(refine .mk [] [] _ R R R R R R (Qg ?_)
     show IntKind.i64.wrap (IntKind.i64.wrap (N.getD 4 0%2*(N.getD 1 0%16))+IntKind.i64.wrap (N.getD 10 0%2*(N.getD 7 0%16)))=Qsk N
     rw [Int.mul_comm (N.getD 4 0%2),Int.mul_comm (N.getD 10 0%2)]
     exact Qk4 N)
  |skip
theorem QCt {x y z:Blk} {l l':List Int} (h:l=l'):[some x,some y,some (Blk.arr (.int .i64) l),some z]=[some x,some y,some (Blk.arr (.int .i64) l'),some z]:=by rw [h]
def Qof:Qk:=⟨[gC,gD],fun (c,d,_)=>(some (c.2.1=7),QeC,[.arr (.int .i64) (QcM (QbH d.1))])⟩
set_option maxHeartbeats 8000000 in
theorem QpQ:Qi Tryz.prog 79 Qof.spec:=by
 have hP:Qe Tryz.prog _:=Qa QcN (Qc (T:=tree))
 have hT:=tabs hP Qf
 refine Qof.good (fn:=Tryz.f79) hT hP Tryz.func79 (by kernel_rfl) rfl fun (c:Cv) (d:Dv) hp=>?_
 obtain ⟨cn,ck,cb,cs,cd⟩:=c
 obtain rfl:ck=7:=hp _ rfl
 obtain ⟨N,M⟩:=d
 repeat' first |(refine Go.mk ?_;conv=>whnf) |refine Ql.go ?_ ?_ |refine Qm.go (fun _=>?_) (fun _=>?_) |refine Br.dec (fun _=>?_) (fun _=>?_) |refine Br.go (fun _=>?_) (fun _=>?_) |refine Qd hT hP mixed ?_ |refine Qb hT hP ?_
 all_goals first
  |exact rfl
  |exact of_decide_eq_true rfl
  |skip
 refine Qay hT hP (X:=Int × List Int) (fun (i,l)=>St.mk (E3 ((.cell (.ptr 0 0)) :: (.cell (.ptr 1 0)) :: E40 (E40 (E20 (E5 (E1 ((.cell (.svar 3 0 2)) :: (I 2) :: (I i) :: E40 (E20 (E10 []))))))))) [some (.var [.own 2,.imm (.slice none 0 0)]),some (.var [.imm (.slice none 0 0),.imm (.slice none 0 0)]),some (.arr (.int .i64) l),some (.var [.sub 2 0 6,.sub 2 6 6])])
  (fun (i,l)=>(i=0∧l=vo N 0++vo N 6)∨(i=1∧l=QG 1 (vo N 0)++vo N 6)∨(i=2∧l=QG 1 (vo N 0)++QG 1 (vo N 6))) (fun (i,_)=>(2-i).toNat) (0,QbH N) (Le.mk [] [1,2,3,4] R R ?_ ?_) ?_ fun (i,l) hi=>?_
 ·exact rfl
 ·repeat' first |exact trivial |exact ⟨rfl,rfl⟩ |refine And.intro ?_ ?_
 ·exact .inl ⟨rfl,rfl⟩
 rcases hi with ⟨rfl,hl⟩ |⟨rfl,hl⟩ |⟨rfl,hl⟩
 ·obtain ⟨A,hA⟩:∃ A,A=vo N 0:=⟨_,rfl⟩
  obtain ⟨B,hB⟩:∃ B,B=vo N 6:=⟨_,rfl⟩
  have oA:vOk A:=by rw [hA];exact QaQ N 0
  have oB:vOk B:=by rw [hB];exact QaQ N 6
  rw [← hA,← hB] at hl
  subst hl
  obtain ⟨G,hG⟩:∃ G,G=QG 1 A++B:=⟨_,rfl⟩
  have hI:∀ z:Int × List Int,z.1=1→z.2=G→(z.1=0∧z.2=vo N 0++vo N 6)∨(z.1=1∧z.2=QG 1 (vo N 0)++vo N 6)∨(z.1=2∧z.2=QG 1 (vo N 0)++QG 1 (vo N 6)):=by
   intro z h1 h2
   rw [h1,h2,hG,hA,hB]
   exact .inr (.inl ⟨rfl,rfl⟩)
  clear hA hB
  cases oA with
  |mk hp hv hr hc hf hw =>
  cases oB with
  |mk hp' hv' hr' hc' hf' hw' =>
  rename_i p v r c f w p' v' r' c' f' w'
  repeat' first |(refine Go.mk ?_;conv=>whnf) |refine Ql.go ?_ ?_ |refine Qm.go (fun _=>?_) (fun _=>?_) |refine Br.dec (fun _=>?_) (fun _=>?_) |refine Br.go (fun _=>?_) (fun _=>?_) |refine Qd hT hP mixed ?_ |refine Qb hT hP ?_
  all_goals first
   |exact of_decide_eq_true rfl
   |(exfalso;rename_i h;revert h;decide)
   |skip
  all_goals
   apply Exists.intro (_,G)
   refine And.intro ?_ (And.intro ?_ (Le.mk [] [0,1,2,3] R R (QCt ?_) ?ht))
   case ht=>repeat' first |exact trivial |exact ⟨rfl,rfl⟩ |refine And.intro ?_ ?_
  all_goals first
   |exact hI (IntKind.i64.wrap (0+1),G) R R
   |(show (2-IntKind.i64.wrap (0+1)).toNat < (2-(0:Int)).toNat
      decide)
   |(rw [hG]
      have ew1:IntKind.i64.wrap (c+1)=c+1:=w64 (by omega) (by omega)
      have ew2:IntKind.i64.wrap (1-f)=1-f:=w64 (by omega) (by omega)
      have ew3:IntKind.i64.wrap (w+1)=w+1:=w64 (by omega) (by omega)
      have ew4:IntKind.i64.wrap (64*r)=r*64:=by rw [w64 (by omega) (by omega),Int.mul_comm]
      have ew5:IntKind.i64.wrap (v-1)=v-1:=w64 (by omega) (by omega)
      clear hT hP hp hI hG
      simp [ew1,ew2,ew3,ew4,ew5] at *
      try simp [QG,*]
      (repeat' first |refine And.intro ?_ ?_ |intro _)
      all_goals first |omega |(exfalso;omega))
   |skip
 ·obtain ⟨A,hA⟩:∃ A,A=QG 1 (vo N 0):=⟨_,rfl⟩
  obtain ⟨B,hB⟩:∃ B,B=vo N 6:=⟨_,rfl⟩
  have oA:vOk A:=by rw [hA];exact Qct (QaQ N 0) (by decide)
  have oB:vOk B:=by rw [hB];exact QaQ N 6
  rw [← hA,← hB] at hl
  subst hl
  obtain ⟨G,hG⟩:∃ G,G=A++QG 1 B:=⟨_,rfl⟩
  have hI:∀ z:Int × List Int,z.1=2→z.2=G→(z.1=0∧z.2=vo N 0++vo N 6)∨(z.1=1∧z.2=QG 1 (vo N 0)++vo N 6)∨(z.1=2∧z.2=QG 1 (vo N 0)++QG 1 (vo N 6)):=by
   intro z h1 h2
   rw [h1,h2,hG,hA,hB]
   exact .inr (.inr ⟨rfl,rfl⟩)
  clear hA hB
  cases oA with
  |mk hp hv hr hc hf hw =>
  cases oB with
  |mk hp' hv' hr' hc' hf' hw' =>
  rename_i p' v' r' c' f' w' p v r c f w
  repeat' first |(refine Go.mk ?_;conv=>whnf) |refine Ql.go ?_ ?_ |refine Qm.go (fun _=>?_) (fun _=>?_) |refine Br.dec (fun _=>?_) (fun _=>?_) |refine Br.go (fun _=>?_) (fun _=>?_) |refine Qd hT hP mixed ?_ |refine Qb hT hP ?_
  all_goals first
   |exact of_decide_eq_true rfl
   |(exfalso;rename_i h;revert h;decide)
   |skip
  all_goals
   apply Exists.intro (_,G)
   refine And.intro ?_ (And.intro ?_ (Le.mk [] [0,1,2,3] R R (QCt ?_) ?ht))
   case ht=>repeat' first |exact trivial |exact ⟨rfl,rfl⟩ |refine And.intro ?_ ?_
  all_goals first
   |exact hI (IntKind.i64.wrap (1+1),G) R R
   |(show (2-IntKind.i64.wrap (1+1)).toNat < (2-(1:Int)).toNat
      decide)
   |(rw [hG]
      have ew1:IntKind.i64.wrap (c+1)=c+1:=w64 (by omega) (by omega)
      have ew2:IntKind.i64.wrap (1-f)=1-f:=w64 (by omega) (by omega)
      have ew3:IntKind.i64.wrap (w+1)=w+1:=w64 (by omega) (by omega)
      have ew4:IntKind.i64.wrap (64*r)=r*64:=by rw [w64 (by omega) (by omega),Int.mul_comm]
      have ew5:IntKind.i64.wrap (v-1)=v-1:=w64 (by omega) (by omega)
      clear hT hP hp hI hG
      simp [ew1,ew2,ew3,ew4,ew5] at *
      try simp [QG,*]
      (repeat' first |refine And.intro ?_ ?_ |intro _)
      all_goals first |omega |(exfalso;omega))
   |skip
 ·subst hl
  repeat' first |(refine Go.mk ?_;conv=>whnf) |refine Ql.go ?_ ?_ |refine Qm.go (fun _=>?_) (fun _=>?_) |refine Br.dec (fun _=>?_) (fun _=>?_) |refine Br.go (fun _=>?_) (fun _=>?_) |refine Qd hT hP mixed ?_ |refine Qb hT hP ?_
  all_goals first
   |exact of_decide_eq_true rfl
   |(exfalso;rename_i h;revert h;decide)
   |(refine .mk [] [2] _ R R R R R (Qr ?_) rfl
      show QG 1 (vo N 0)++QG 1 (vo N 6)=QcM (vo N 0++vo N 6)
      rw [Qk2 rfl])
   |skip
end Go.Proofs.YtofgbclopbmlcaaGreat



