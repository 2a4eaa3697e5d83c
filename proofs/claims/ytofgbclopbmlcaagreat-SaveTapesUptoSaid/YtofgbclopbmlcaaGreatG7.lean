/- Part 7 of the proof. Conditions: none. -/
import Derived.Test.YtofgbclopbmlcaaGreatG6
import Derived.Laws.Cover3
import Derived.Tactics
import Derived.LoopN
namespace Go.Fw
set_option linter.unusedVariables false
set_option linter.unusedSimpArgs false
section
variable {P:Program} {T:Tab}
theorem QoG{E:Env}:∀{xs:List AV} {ys:List V1} {vs:List Value},ones xs=some ys→QiX E xs vs→VsR E ys vs
 | [],ys,vs,h,hr=>by
   simp only[ones,Yc] at h;subst h;exact hr
 |.dead::xs,ys,vs,h,_=>by simp[ones] at h
 |.tup _::xs,ys,vs,h,_=>by simp[ones] at h
 |.one x::xs,ys,_,h,⟨v,r,e,h1,h2⟩=>by
  subst e;unfold ones at h;cases h3:ones xs with
  |none=>rw[h3] at h;cases h
  |some ys' =>
   rw[h3] at h;injection h with h
   subst h;exact⟨v,r,rfl,h1,QoG h3 h2⟩
theorem QiY{E:Env}(hH:HeapOk E){look:Nat→Option Blk}(hl:∀b x,look b=some x→E.H b=some x){f:FuncId}{s:CSpec}(hs:CSound P f s){args:List V1}{vs:Array Value}{nm:Nat}{r:Res}(ha:VsR E args vs.toList)(h:QjQ look nm s args=some r)(hp:∀p,r.pre=some p→p)
 (hnm:∀k,k<r.add.length→¬E.U (nm+k)):Calls P f vs E.w fun e w'=>∃v E',e=.returned v∧E'.w=w'∧Step E r nm E'∧AVR E' r.val v:=by
 unfold QjQ at h;cases hw:s.wr with
 |false =>
  rw[hw] at h;simp only at h;cases hv:Qfe (Qfm look) args with
  |none=>rw[hv] at h;cases h
  |some xs =>
   rw[hv] at h;simp only at h;split at h
   ·rename_i p rv fresh hrun;split at h
    ·split at h
     ·simp only[Yc] at h;subst h;have hrel:=Qgg (us:=args.flatMap (·.names)) hH hl (fun n hn=>hn) hv ha;refine(hs (Qd0 E (args.flatMap (·.names))) vs xs [] p rv [] fresh (fun b=>rfl) (fun b=>by simp[Qd0]) (Qoy hH _) hrel hrun (fun q hq=>hp q hq)).mono ?_
      rintro e w' ⟨v,E',rfl,rfl,hb⟩
      obtain⟨E'',h1,h2,h3⟩:=Qxo (p:=p) hH (fun k hk=>hnm k (by simpa using hk)) hb;exact⟨v,E'',rfl,h1,h2,h3⟩
     ·cases h
    ·rename_i hc;simp only[Yc] at h;subst h;have hrel:=Qgg (us:=args.flatMap (·.names)) hH hl (fun n hn=>hn) hv ha;refine(hs (Qd0 E (args.flatMap (·.names))) vs xs [] p rv [] fresh (fun b=>rfl) (fun b=>by simp[Qd0]) (Qoy hH _) hrel hrun (fun q hq=>hp q hq)).mono ?_
     rintro e w' ⟨v,E',rfl,rfl,hb⟩
     have hro:args.flatMap (·.names)=[]∨(rv.hasRo=false∧∀b∈fresh,b.plain=true):=by
      rw[Bool.and_eq_false_iff] at hc;rcases hc with hc|hc
      ·right;simp at hc;exact⟨hc.1,fun b hb=>hc.2 b hb⟩
      ·exact .inl (QgJ hv hc)
     obtain⟨E'',h1,h2,h3⟩:=Qls (p:=p) hH (fun k hk=>hnm k (by simpa using hk)) hb hro;exact⟨v,E'',rfl,h1,h2,h3⟩
   ·cases h
 |true =>
  rw[hw] at h;simp only at h;cases hr:reach look 100 (args.flatMap (·.names)) [] with
  |none=>rw[hr] at h;cases h
  |some acc =>
   rw[hr] at h;simp only at h;cases hm:Qfe look acc with
   |none=>rw[hm] at h;cases h
   |some bl =>
    rw[hm] at h;simp only at h;split at h
    ·rename_i p rv upd fresh hrun;split at h
     ·rename_i hul;simp only[Yc] at h;subst h;have hul:=Yg hul;obtain⟨hn,hmem,_,hcl⟩:=Qj2 100 _ [] acc (by simp) hr;obtain⟨hlen,hget⟩:=QdZ hm
      have hbl:∀(i b:Nat),acc[i]?=some b→∃x,E.H b=some x∧(bl.map (·.rn (idx acc)))[i]?=some (x.rn (idx acc))∧∀n∈x.names,n∈acc:=by
       intro i b hb;obtain⟨x,h1,h2⟩:=hget i b hb;refine⟨x,hl _ _ h1,by simp[h2],fun n hnx=>?_⟩;rcases hcl b (List.mem_of_getElem? hb) with h3|⟨y,h3,h4⟩
       ·simp at h3
       ·rw[h1] at h3;injection h3 with h3
        subst h3;exact h4 n hnx
      have hbl':∀(i b:Nat),acc[i]?=some b→∃x,E.H b=some x∧(bl.map (·.rn (idx acc)))[i]?=some (x.rn (idx acc)):=fun i b h=>let ⟨x,h1,h2,_⟩:=hbl i b h;⟨x,h1,h2⟩
      have hlen':(bl.map (·.rn (idx acc))).length=acc.length:=by simpa using hlen
      have hrel:VsR (QeG E acc (bl.map (·.rn (idx acc)))) (args.map (·.rn (idx acc))) vs.toList :=
       VsR.rn (E:=E) (E':=QeG E acc (bl.map (·.rn (idx acc)))) (f:=idx acc) rfl (.inl fun _ h=>h) (fun i hi=>QoB hH hn hlen' hbl' (hmem i hi)) ha
      refine(hs (QeG E acc (bl.map (·.rn (idx acc)))) vs _ _ p rv upd fresh (fun b=>rfl) (fun b=>Iff.rfl) (Qxp hH hn hlen' hbl) hrel hrun (fun q hq=>hp q hq)).mono ?_
      rintro e w' ⟨v,E',rfl,rfl,hb⟩
      obtain⟨E'',h1,h2,h3⟩:=Qq0 (p:=p) hH hn hlen' (by omega) hbl' (fun k hk=>hnm k (by simpa using hk)) hb (fun i=>match acc[i]? with|some b=>b|none=>nm+(i-acc.length)) (fun i=>rfl);exact⟨v,E'',rfl,h1,h2,h3⟩
     ·cases h
    ·cases h
theorem QgL{E:Env}(hP:Q7 P T)(hH:HeapOk E){look:Nat→Option Blk}(hl:∀b x,look b=some x→E.H b=some x){f:FuncId}{args:List AV}{vs:Array Value}{nm:Nat}{r:Res}(ha:QiX E args vs.toList)(h:Qon T look nm f args=some r)(hp:∀p,r.pre=some p→p)
 (hnm:∀k,k<r.add.length→¬E.U (nm+k)):Enters P f∧Calls P f vs E.w fun e w'=>∃v E',e=.returned v∧E'.w=w'∧Step E r nm E'∧AVR E' r.val v:=by
 unfold Qon at h;cases hs:T.fn f with
 |none=>rw[hs] at h;cases h
 |some s =>
  rw[hs] at h;simp only at h;cases ho:ones args with
  |none=>rw[ho] at h;cases h
  |some xs =>
   rw[ho] at h;exact⟨(hP f s hs).2,QiY hH hl (hP f s hs).1 (QoG ho ha) h hp hnm⟩
theorem QgM{f:FuncId}(h:Enters P f)(vs:Array Value)(w:World):(callFunc f vs).run P w=.ok (.enter f vs) w:=by
 obtain⟨fn,h1,h2,h3⟩:=h;have h2':¬fn.name= "runtime.NumGoroutine":=by simpa using h2
 have h4:¬fn.body=none:=by
  intro e;rw[e] at h3;cases h3
 simp[callFunc,h1,h2',h4]
theorem QiX.append{E:Env}:∀{xs ys:List AV} {vs us:List Value},QiX E xs vs→QiX E ys us→QiX E (xs++ys) (vs++us)
 | [],_,_,_,h,h'=>by simp only[QiX] at h;subst h;exact h'
 |_::_,_,_,_,⟨v,r,e,h1,h2⟩,h'=>by subst e;exact⟨v,r++_,rfl,h1,h2.append h'⟩
theorem Qj3{E:Env}{ev:Operand→AV}{ρ:Operand→Value}(hev:∀x,AVR E (ev x) (ρ x)):∀(l:List Operand),QiX E (l.map ev) (l.map ρ)
 | []=>rfl
 |x::l=>⟨ρ x,l.map ρ,rfl,hev x,Qj3 hev l⟩
theorem Qs2{E:Env}{ev:Operand→AV}{ρ:Operand→Value}(hev:∀x,AVR E (ev x) (ρ x)):∀(l:List (Nat×Operand)),PsR E (l.map fun(i,x)=>(i,ev x)) (l.map fun(i,x)=>(i,ρ x))
 | []=>rfl
 |(i,x)::l=>⟨ρ x,_,rfl,hev x,Qs2 hev l⟩
theorem QoH{E:Env}:∀(bs:List Nat) (caps:List Value),caps.length=bs.length→(∀(i b:Nat),bs[i]?=some b→∃u,caps[i]?=some u∧u.oneCell'=true∧E.U b∧∀cs,E.H b=some (.var cs)→∃g,E.ρ b=some g∧u=pt g 0)→QiX E (bs.map fun b=>.cell (.ptr b 0)) caps
 | [],caps,h,_=>Yr h
 |b::bs,[],h,_=>by simp at h
 |b::bs,u::caps,h,hh=>by
  obtain⟨u',h1,h2,h3,h4⟩:=hh 0 b rfl;simp at h1;subst h1;exact⟨u,caps,rfl,⟨u,⟨rfl,h2⟩,h3,h4⟩,QoH bs caps (by simpa using h) fun i b hb=>hh (i+1) b (by simpa using hb)⟩
theorem Qgi{E:Env}{ev:Operand→AV}{ρ:Operand→Value}(hev:∀x,AVR E (ev x) (ρ x))(o:Option Operand):Qjf E (o.map ev) (o.map ρ):=by
 cases o with
 |none=>trivial
 |some x=>exact hev x
theorem Qxs{E:Env}{c a b:AV}{vc va vb:Value}{r:Res}(hc:AVR E c vc)(ha:AVR E a va)(hb:AVR E b vb)(h:QCe c a b=some r)(w:World) :
 ∃v,(do pure (.value (if ←asBool vc then va else vb)):Sem Next).run P w=.ok (.value v) w∧AVR E r.val v∧r.add=[]∧r.set=[]:=by
 unfold QCe at h;split at h
 ·rename_i t;obtain⟨e,_⟩:=hc;injection e with e
  subst e;split at h
  ·simp only[ok1,Yc] at h;subst h;obtain⟨e,_⟩:=ha;injection e with e
   subst e;obtain⟨e,_⟩:=hb;injection e with e
   subst e;refine⟨_,by simp[asBool];rfl,?_,rfl,rfl⟩;cases t<;>exact⟨rfl,rfl⟩
  ·cases t with
   |true =>
    simp only at h;split at h
    ·cases h
    ·simp only[ok1,Yc] at h;subst h;exact⟨va,by simp[asBool],ha,rfl,rfl⟩
   |false =>
    simp only at h;split at h
    ·cases h
    ·simp only[ok1,Yc] at h;subst h;exact⟨vb,by simp[asBool],hb,rfl,rfl⟩
 ·cases h
theorem Qj4(hT:TabOk P T){t:TypeId}{ti:TI}(h:T.ty t=some ti):∃d,P.underlying t=some d:=by
 have:=(hT.ty t ti h).und;cases hd:ti.desc<;>rw[hd] at this<;>simp only[QZ] at this
 case struct=>obtain⟨F,h1,_⟩:=this;exact⟨_,h1⟩
 case iface=>obtain⟨F,h1⟩:=this;exact⟨_,h1⟩
 case other=>obtain⟨d,h1,_⟩:=this;exact⟨d,h1⟩
 all_goals exact⟨_,this⟩
theorem Qly{x:AV}{b:Nat}(h:Qjd x=some b):x=.cell (.ptr b 0):=by
 unfold Qjd at h;split at h
 ·injection h with h
  subst h;rfl
 ·cases h
theorem VsR.get{E:Env}:∀{xs:List V1} {vs:List Value} {i:Nat} {x:V1},VsR E xs vs→xs[i]?=some x→∃v,vs[i]?=some v∧V1R E x v
 | [],_,i,x,_,h=>by simp at h
 |y::ys,_,0,x,⟨v,r,e,h1,h2⟩,h=>by subst e;simp at h;subst h;exact⟨v,rfl,h1⟩
 |y::ys,_,i+1,x,⟨v,r,e,h1,h2⟩,h=>by subst e;simpa using h2.get (by simpa using h)
theorem QCp{E:Env}{look:Nat→Option Blk}(hT:TabOk P T)(hH:HeapOk E)(hl:∀b x,look b=some x→E.H b=some x){t ty:TypeId}{tys:Array TypeId}{x:AV}{v:Value}{n:Int}(hx:AVR E x v)(h:QIn T look t x=some n)(ht:tys[0]?=some t) :
 (Builtin.len_ tys ty #[v]).run P E.w=.ok (.int .i64 n) E.w:=by
 unfold QIn at h;split at h
 ·rename_i hty;have hu:=(hT.ty t _ hty).und;simp only[QZ] at hu;split at h
  ·injection h with h
   subst h;obtain⟨e,_⟩:=hx;injection e with e
   subst e;simp[Builtin.len_,ht,run_underlying hu,goInt]
  ·cases h
 ·rename_i hty;have hu:=(hT.ty t _ hty).und;simp only[QZ] at hu;split at h
  ·injection h with h
   subst h;obtain⟨e,_⟩:=hx;injection e with e
   subst e;simp[Builtin.len_,ht,run_underlying hu,goInt]
  ·split at h
   ·rename_i hb;injection h with h
    subst h;obtain⟨v',⟨e,_⟩,hU,hh⟩:=hx;injection e with e
    subst e;obtain⟨g,cap,_,rfl,_⟩:=hh _ (hl _ _ hb);simp[Builtin.len_,ht,run_underlying hu,goInt]
   ·cases h
  ·split at h
   ·rename_i hs;injection h with h
    subst h;obtain⟨a,cap,rfl,_⟩:=Qcm hH hl hs hx;simp[Builtin.len_,ht,run_underlying hu,goInt]
   ·cases h
  ·cases h
 ·cases h
theorem Qxt{E:Env}{xs:List AV}{vs:List Value}{r:AV}(hv:QiX E xs vs)(h:QIo xs=some r)(w:World){tys:Array TypeId}{ty:TypeId}:∃v,(Builtin.max_ tys ty vs.toArray).run P w=.ok v w∧AVR E r v:=by
 unfold QIo at h;split at h
 ·obtain⟨v,vs',rfl,hx,hv⟩:=hv;obtain⟨e,_⟩:=hx;injection e with e
  subst e;obtain⟨v',h1,h2⟩:=Qow (P:=P) hv h w;exact⟨v',by simpa[Builtin.max_] using h1,h2⟩
 ·cases h
theorem Qxu{E:Env}{xs:List AV}{vs:List Value}{r:AV}(hv:QiX E xs vs)(h:QIp xs=some r)(w:World){tys:Array TypeId}{ty:TypeId}:∃v,(Builtin.min_ tys ty vs.toArray).run P w=.ok v w∧AVR E r v:=by
 unfold QIp at h;split at h
 ·obtain⟨v,vs',rfl,hx,hv⟩:=hv;obtain⟨e,_⟩:=hx;injection e with e
  subst e;obtain⟨v',h1,h2⟩:=Qox (P:=P) hv h w;exact⟨v',by simpa[Builtin.min_] using h1,h2⟩
 ·cases h
theorem QhC(hT:TabOk P T)(hP:Q7 P T){E:Env}(hH:HeapOk E){a:Act}{ev:Operand→AV}(hev:∀x,AVR E (ev x) (a.eval x)){look:Nat→Option Blk}(hl:∀b x,look b=some x→E.H b=some x){nm:Nat}{o:Oper}{r:Res}
 (h:dstep T ev look nm o=some r) (hp:∀p,r.pre=some p→p) (hnm:∀k,k<r.add.length→¬E.U (nm+k)) {next:Act→World→Prop} {Q:Exit→Act→World→Prop}
 (hn:∀E' v,Step E r nm E'→AVR E' r.val v→next (a.put o.dst v) E'.w):o.wp P a E.w next Q:=by
 obtain⟨dst,op,type,pos,after,guard⟩:=o;have val:∀v,(execOp a.eval ⟨dst,op,type,pos,after,guard⟩).run P E.w=.ok (.value v) E.w→AVR E r.val v→r.add=[]→r.set=[]→Oper.wp P ⟨dst,op,type,pos,after,guard⟩ a E.w next Q:=fun v hr hv h1 h2=>Qbt hr (hn E v (Step.same hH h1 h2) hv)
 have vl:∀(s:Sem Value) v w',s.run P E.w=.ok v w'→(do pure (.value (←s)):Sem Next).run P E.w=.ok (.value v) w':=fun s v w' hs=>by simp[hs]
 cases op<;>simp only[dstep] at h
 case move x =>
  have hx:=hev x;split at h
  ·cases h
  ·rename_i y hy;simp only[ok1,Yc] at h;subst h;exact val _ rfl hx rfl rfl
 case assign x =>
  have hx:=hev x;split at h
  ·cases h
  ·rename_i y hy;simp only[ok1,Yc] at h;subst h;exact val _ rfl hx rfl rfl
 case pick c x y =>
  obtain⟨v,h1,h2,h3,h4⟩:=Qxs (P:=P) (hev c) (hev x) (hev y) h E.w;exact val v (by simpa[execOp] using h1) h2 h3 h4
 case alloc t =>
  cases ht:T.ty t with
  |none=>rw[ht] at h;cases h
  |some ti =>
   rw[ht] at h;simp only[Yc] at h;subst h;obtain⟨E',h1,h2,h3⟩:=QsS hT hH ht (nm:=nm) (by simpa using hnm 0 (by simp));exact Qbt (vl _ _ _ h1) (hn E' _ h2 h3)
 case box t x =>
  have hx:=hev x;split at h
  ·rename_i y hy;simp only[Yc] at h;subst h;rw[hy] at hx;obtain⟨E',h1,h2,h3⟩:=QCk (P:=P) hH t (x:=y) hx (nm:=nm) (by simpa using hnm 0 (by simp));exact Qbt (vl _ _ _ h1) (hn E' _ h2 h3)
  ·cases h
 case build t ps =>
  obtain⟨v,h1,h2,h3,h4,_⟩:=QsY (E:=E) (vs:=ps.map fun(i,x)=>(i,a.eval x)) hT (by simpa using Qs2 hev ps.toList) h;exact val v (vl _ _ _ h1) h2 h3 h4
 case buildSlice t n ps =>
  have hnew:r.add.length=1:=by
   unfold Qds at h;split at h
   ·split at h
    ·split at h
     ·simp only[Yc] at h;subst h;rfl
     ·split at h
      ·simp only[Yc] at h;subst h;rfl
      ·cases h
    ·cases h
   ·unfold Qfl at h
    repeat' split at h
    all_goals first
     |(simp only[Yc] at h;subst h;rfl)
     |cases h
  obtain⟨v,E',h1,h2,h3⟩:=QiW (vs:=ps.map fun(i,x)=>(i,a.eval x)) hT hH hl (by simpa using hnm 0 (by omega)) (by simpa using Qs2 hev ps.toList) h;exact Qbt (vl _ _ _ h1) (hn E' _ h2 h3)
 case load t x =>
  obtain⟨v,h1,h2,h3,h4⟩:=Qos hT hH hl (hev x) h hp;exact val v (vl _ _ _ h1) h2 h3 h4
 case store t x y =>
  obtain⟨E',h1,h2,h3⟩:=QsR (nm:=nm) hT hH hl (hev x) (hev y) h hp;exact Qnb (by simp[execOp,h1]) (hn E' _ h2 (by rw[h3];trivial))
 case nilCheck x =>
  have hx:=hev x;split at h
  ·rename_i b j hy;split at h
   ·rename_i cs hb;simp only[ok1,Yc] at h;subst h;rw[hy] at hx;have hbx:=hl _ _ hb;have hx0:=hx;obtain⟨v,⟨e,_⟩,hU,hh⟩:=hx;injection e with e
    obtain⟨g,hr,hv⟩:=hh _ hbx;refine val (a.eval x) ?_ hx0 rfl rfl;rw[e,hv];simp only[execOp,e,hv,pt];rfl
   ·cases h
  ·rename_i f cs hy;simp only[ok1,Yc] at h;subst h;rw[hy] at hx;have hx0:=hx;obtain⟨caps,e,_⟩:=hx;injection e with e
   refine val (a.eval x) ?_ hx0 rfl rfl;rw[e];simp only[execOp,e];rfl
  ·cases h
 case binOp op t x y ty =>
  cases hq:QjM T look t op (ev x) (ev y) with
  |some r' =>
   rw[hq] at h;injection h with h
   subst h;obtain⟨v,h1,h2,h3,h4⟩:=QqX (P:=P) hT hl (hev x) (hev y) hq x y E.w;exact val v (vl _ _ _ h1) h2 h3 h4
  |none =>
  rw[hq] at h;simp only at h;obtain⟨v,h1,h2,h3,h4⟩:=QCn (P:=P) hT hH (hev x) (hev y) h hp x y E.w;exact val v (vl _ _ _ h1) h2 h3 h4
 case unOp op t x =>
  obtain⟨v,h1,h2,h3,h4,_⟩:=QFq (P:=P) (hev x) h E.w;exact val v (vl _ _ _ h1) h2 h3 h4
 case convert s d x =>
  have hx:=hev x;split at h
  ·rename_i ts k n hs hd hy;simp only[ok1,Yc] at h;subst h;rw[hy] at hx;obtain⟨e,_⟩:=hx;injection e with e
   have hd':=(hT.ty d _ hd).und;simp only[QZ] at hd';obtain⟨ds,hds⟩:=Qj4 hT hs;exact val _ (vl _ _ _ (by rw[e];simp[convert,run_underlying hds,run_underlying hd',Conv.intToInt])) ⟨rfl,rfl⟩ rfl rfl
  ·rename_i ts t hs hd hy;simp only[ok1,Yc] at h;subst h;rw[hy] at hx;obtain⟨e,_⟩:=hx;injection e with e
   have hd':=(hT.ty d _ hd).und;simp only[QZ] at hd';obtain⟨ds,hds⟩:=Qj4 hT hs;exact val (.string t) (vl _ _ _ (by rw[e];simp[convert,run_underlying hds,run_underlying hd'])) ⟨rfl,rfl⟩ rfl rfl
  ·rename_i ts k n hs hd hy;simp only[ok1,Yc] at h;subst h;rw[hy] at hx;obtain⟨e,_⟩:=hx;injection e with e
   have hd':=(hT.ty d _ hd).und;simp only[QZ] at hd';obtain⟨ds,hds⟩:=Qj4 hT hs;exact val (.string (Utf8.encode n)) (vl _ _ _ (by rw[e];simp[convert,run_underlying hds,run_underlying hd',Conv.intToString])) ⟨rfl,rfl⟩ rfl rfl
  ·rename_i c hni hni2 hs hd hy;split at h
   ·rename_i he;split at h
    ·rename_i l hsl;simp only[ok1,Yc] at h;subst h;rw[hy] at hx;have hd':=(hT.ty d _ hd).und;simp only[QZ] at hd';have hs':=(hT.ty s _ hs).und;simp only[QZ] at hs';have he':=(hT.ty _ _ he).und;simp only[QZ] at he';have hsl:=QjT hH hl hsl hx;refine val _ (vl _ _ _ ?_) ⟨rfl,rfl⟩ rfl rfl;have hb:=Qs1 (P:=P) (w:=E.w) hsl;obtain⟨ad,cap,e,_⟩:=hsl;rw[e] at hb ⊢;rw[run_convert_bytes_string E.w s d _ _ _ _ hs' he' hd',hb]
    ·cases h
   ·cases h
  ·rename_i t hs hd hy;split at h
   ·rename_i he;simp only[ok1,Yc] at h;subst h;rw[hy] at hx;obtain⟨e,_⟩:=hx;injection e with e
    have hd':=(hT.ty d _ hd).und;simp only[QZ] at hd';have hs':=(hT.ty s _ hs).und;simp only[QZ] at hs';have he':=(hT.ty _ _ he).und;simp only[QZ] at he';obtain⟨v,E',h1,h2,h3⟩:=Qlx (P:=P) (nm:=nm) hH t hs' hd' he';exact Qbt (vl _ _ _ (by rw[e];exact h1)) (hn E' _ h2 h3)
   ·cases h
  ·cases h
 case makeMap t rv =>
  cases rv with
  |some _=>cases h
  |none =>
   simp only at h;split at h
   ·rename_i ka kt vt hi;simp only[Yc] at h;subst h;obtain⟨E',h1,h2,h3⟩:=Qnf (P:=P) hH (t:=t) (ka:=ka) (kt:=kt) (vt:=vt) (nm:=nm) (by simpa using hnm 0 (by simp));exact Qbt (vl _ _ _ h1) (hn E' _ h2 h3)
   ·cases h
 case mapUpdate t m k x =>
  obtain⟨E',h1,h2,h3⟩:=Qjj (nm:=nm) hT hH hl (hev m) (hev k) (hev x) h;exact Qnb (by simp[execOp,h1]) (hn E' _ h2 (by rw[h3];trivial))
 case insert t m k x =>
  obtain⟨E',h1,h2,h3⟩:=Qjj (nm:=nm) hT hH hl (hev m) (hev k) (hev x) h;exact Qnb (by simp[execOp,h1]) (hn E' _ h2 (by rw[h3];trivial))
 case lookup t m k ok =>
  obtain⟨v,h1,h2,h3,h4⟩:=Qq3 hT hH hl (hev m) (hev k) h;exact val v (vl _ _ _ h1) h2 h3 h4
 case makeInterface t x =>
  have hx:=hev x;split at h
  ·rename_i et ht;cases hb:Qjd (ev x) with
   |none=>rw[hb] at h;cases h
   |some b =>
    rw[hb] at h;simp only[ok1,Yc] at h;subst h;rw[Qly hb] at hx;obtain⟨v,⟨e,h1⟩,hU,hh⟩:=hx;injection e with e
    have hu:=(hT.ty t _ ht).und;simp only[QZ] at hu;refine val (.iface t (a.eval x)) (vl _ _ _ (by simp[Instr.makeInterface,run_underlying hu])) ⟨v,⟨by rw[e],h1⟩,hU,hh⟩ rfl rfl
  ·cases h
 case makeFunc f fs cs =>
  cases f with
  |func f =>
   simp only at h;split at h
   ·rename_i hz;have hz:=Yg hz;have hfs:fs=#[]:=Array.eq_empty_of_size_eq_zero hz;subst hfs;cases hm:Qfe (fun x=>Qjd (ev x)) cs.toList with
    |none=>rw[hm] at h;cases h
    |some bs =>
     rw[hm] at h;simp only[ok1,Yc] at h;subst h;obtain⟨hlen,hget⟩:=QdZ hm;refine val (.func (.func f) #[] (cs.map a.eval)) (by simp[execOp,Instr.makeFunc]) ⟨cs.map a.eval,rfl,by simpa using hlen.symm,fun i b hb=>?_⟩ rfl rfl;have hi:i<cs.toList.length:=by rw[←hlen];exact(Yu.1 hb).1
     obtain⟨y,h1,h2⟩:=hget i cs.toList[i] (Ye hi);rw[hb] at h2;injection h2 with h2
     subst h2;have hx:=hev cs.toList[i];rw[Qly h1] at hx;obtain⟨v,⟨e,h3⟩,hU,hh⟩:=hx;injection e with e
     refine⟨v,?_,h3,hU,hh⟩;have hi':i<cs.size:=by simpa using hi
     simp at e;simp[hi',e]
   ·cases h
  |_=>cases h
 case makeSlice t l c =>
  have hnew:r.add.length=1:=by
   unfold Qel at h;split at h
   ·simp only[Yc] at h;subst h;rfl
   ·cases h
  obtain⟨v,E',h1,h2,h3⟩:=QjX hT hH (by simpa using hnm 0 (by omega)) (hev l) (hev c) h hp;exact Qbt (vl _ _ _ h1) (hn E' _ h2 h3)
 case slice t x lo hi mx =>
  cases hq:cutA T look nm t (ev x) (lo.map ev) (hi.map ev) (mx.map ev) with
  |some r' =>
   rw[hq] at h;injection h with h
   subst h
   have hnew:r'.add.length=1:=by
    unfold cutA at hq;split at hq
    ·split at hq
     ·split at hq
      ·split at hq
       ·split at hq
        ·simp only[Yc] at hq;subst hq;rfl
        ·cases hq
       ·cases hq
      ·cases hq
     ·cases hq
    ·cases hq
   obtain⟨v,E',h1,h2,h3⟩:=QCm hT hH hl (by simpa using hnm 0 (by omega)) (hev x) (Qgi hev lo) (Qgi hev hi) (Qgi hev mx) hq hp;exact Qbt (vl _ _ _ h1) (hn E' _ h2 h3)
  |none =>
  rw[hq] at h;simp only at h;obtain⟨v,h1,h2,h3,h4⟩:=QsT hT hH hl (hev x) (Qgi hev lo) (Qgi hev hi) (Qgi hev mx) h hp;exact val v (vl _ _ _ h1) h2 h3 h4
 case fieldAddr s x f =>
  obtain⟨v,h1,h2,h3,h4⟩:=Qj0 hT hl (hev x) h hp;exact val v (vl _ _ _ h1) h2 h3 h4
 case field t x f =>
  obtain⟨v,h1,h2,h3,h4,_⟩:=QsU (P:=P) hT (hev x) h;exact val v (vl _ _ _ h1) h2 h3 h4
 case indexAddr t x i =>
  obtain⟨v,h1,h2,h3,h4⟩:=QjZ hT hH hl (hev x) (hev i) h hp;exact val v (vl _ _ _ h1) h2 h3 h4
 case index t x i =>
  obtain⟨v,h1,h2,h3,h4⟩:=QsV (P:=P) hT (hev x) (hev i) h hp;exact val v (vl _ _ _ h1) h2 h3 h4
 case extract t i =>
  have hx:=hev t;split at h
  ·rename_i l hy;cases hi:l[i]? with
   |none=>rw[hi] at h;cases h
   |some y =>
    rw[hi] at h;simp only[ok1,Yc] at h;subst h;rw[hy] at hx;obtain⟨vs,e,hvs⟩:=hx;obtain⟨v,h1,h2⟩:=VsR.get hvs hi;refine val v (vl _ _ _ (by rw[e];simp[Instr.extract];rw[←YA,h1];rfl)) h2 rfl rfl
  ·cases h
 case call c =>
  obtain⟨callee,args,argTypes⟩:=c;cases callee with
  |builtin b =>
   simp only at h;have hargs:=Qj3 (E:=E) hev args.toList;unfold Qol at h;split at h
   ·
    rename_i x t tl hal htl;cases hn':QIn T look t x with
    |none=>rw[hn'] at h;cases h
    |some n =>
     rw[hn'] at h;simp only[ok1,Yc] at h;subst h;rw[hal] at hargs;obtain⟨v,r',e,hx,hr'⟩:=hargs;simp only[QiX] at hr';subst hr';refine val (.int .i64 n) ?_ ⟨rfl,rfl⟩ rfl rfl;have hav:args.map a.eval=#[v]:=by apply Array.ext';simpa using e
     have ht0:argTypes[0]?=some t:=by rw[←YA,htl];rfl
     have hlen:=QCp (P:=P) hT hH hl hx hn' (ty:=type) ht0;simp[execOp,resolve,hav,invoke,builtin,hlen]
   ·rename_i hal htl;cases hm:QIo (args.toList.map ev) with
    |none=>rw[hm] at h;cases h
    |some v =>
     rw[hm] at h;simp only[ok1,Yc] at h;subst h;obtain⟨v',h1,h2⟩:=Qxt (P:=P) hargs hm E.w (tys:=argTypes) (ty:=type);refine val v' ?_ h2 rfl rfl;have hav:args.map a.eval=(args.toList.map a.eval).toArray:=by apply Array.ext';simp
     simp only[execOp,resolve,hav];simp[invoke,builtin,h1]
   ·rename_i hal htl;cases hm:QIp (args.toList.map ev) with
    |none=>rw[hm] at h;cases h
    |some v =>
     rw[hm] at h;simp only[ok1,Yc] at h;subst h;obtain⟨v',h1,h2⟩:=Qxu (P:=P) hargs hm E.w (tys:=argTypes) (ty:=type);refine val v' ?_ h2 rfl rfl;have hav:args.map a.eval=(args.toList.map a.eval).toArray:=by apply Array.ext';simp
     simp only[execOp,resolve,hav];simp[invoke,builtin,h1]
   ·
    rename_i s x t t' hal htl;rw[hal] at hargs;obtain⟨vs,r',e,hs,vx,r'',e',hx,hr''⟩:=hargs;simp only[QiX] at hr'';subst hr'' e';have hav:args.map a.eval=#[vs,vx]:=by apply Array.ext';simpa using e
    have hat:argTypes=#[t,t']:=by apply Array.ext';simpa using htl
    have hnew:r.add.length=1:=by
     unfold QjN at h;split at h
     ·split at h
      ·cases h
      ·split at h
       ·split at h
        ·simp only[Yc] at h;subst h;rfl
        ·split at h
         ·split at h
          ·simp only[Yc] at h;subst h;rfl
          ·cases h
         ·cases h
        ·cases h
       ·cases h
     ·cases h
    obtain⟨v,E',h1,h2,h3⟩:=QqW (ty:=type) hT hH hl (by simpa using hnm 0 (by omega)) hs hx h hp;refine Qbt ?_ (hn E' _ h2 h3);simp[execOp,resolve,hav,hat,invoke,builtin,h1]
   ·
    rename_i s x t tl hal htl;rw[hal] at hargs;obtain⟨vs,r',e,hs,vx,r'',e',hx,hr''⟩:=hargs;simp only[QiX] at hr'';subst hr'' e';have hav:args.map a.eval=#[vs,vx]:=by apply Array.ext';simpa using e
    have ht0:argTypes[0]?=some t:=by rw[←YA,htl];rfl
    obtain⟨v,E',h1,h2,h3⟩:=Qxm (ty:=type) (nm:=nm) hT hH hl hs hx ht0 h hp;refine Qbt ?_ (hn E' _ h2 h3);simp[execOp,resolve,hav,invoke,builtin,h1]
   ·cases h
  |value f =>
   simp only at h;have hf:=hev f;split at h
   ·rename_i g caps hy;rw[hy] at hf;obtain⟨cv,e,hcl,hcap⟩:=hf;injection e with e
    have hargs:QiX E (args.toList.map ev++caps.map fun b=>.cell (.ptr b 0)) (args.map a.eval++cv).toList:=by
     simpa using(Qj3 (E:=E) hev args.toList).append (QoH caps cv.toList (by simpa using hcl) (fun i b hb=>by simpa using hcap i b hb))
    obtain⟨hent,hcall⟩:=QgL hP hH hl hargs h hp hnm;unfold Oper.wp
    have hrun:(execOp a.eval ⟨dst,.call ⟨.value f,args,argTypes⟩,type,pos,after,guard⟩).run P E.w=.ok (.enter g (args.map a.eval++cv)) E.w:=by
     simp[execOp,resolve,e,Deferred.ofValue,invoke,QgM hent]
    rw[hrun];refine hcall.mono ?_
    rintro e' w' ⟨v,E',rfl,rfl,h2,h3⟩
    exact hn E' v h2 h3
   ·cases h
  |invoke rv name =>
   simp only at h;have hf:=hev rv;split at h
   ·rename_i t b hy;rw[hy] at hf;obtain⟨v,⟨e,h1⟩,hU,hh⟩:=hf;injection e with e
    cases hm:T.meth t name with
    |none=>rw[hm] at h;cases h
    |some g =>
     rw[hm] at h;simp only at h;have hmeth:=hT.meth t name g hm v E.w
     have hargs:QiX E (.cell (.ptr b 0)::args.toList.map ev) (#[v]++args.map a.eval).toList:=by
      refine⟨v,args.toList.map a.eval,by simp,⟨v,⟨rfl,h1⟩,hU,hh⟩,Qj3 hev args.toList⟩
     obtain⟨hent,hcall⟩:=QgL hP hH hl hargs h hp hnm;unfold Oper.wp
     have hrun:(execOp a.eval ⟨dst,.call ⟨.invoke rv name,args,argTypes⟩,type,pos,after,guard⟩).run P E.w=.ok (.enter g (#[v]++args.map a.eval)) E.w:=by
      have h0:(#[Value.iface t v]++args.map a.eval)[0]?=some (.iface t v):=by rw[←YA];simp
      have h2:(#[Value.iface t v]++args.map a.eval).extract 1 (#[Value.iface t v]++args.map a.eval).size=args.map a.eval:=by apply Array.ext';simp;exact Yh (by simp)
      simp only[execOp,resolve,e,Sem.run_bind,Sem.run_pure,Result.andThen_ok,invoke,h0,h2,callMethod];simp[hmeth,QgM hent]
     rw[hrun];refine hcall.mono ?_
     rintro e' w' ⟨v',E',rfl,rfl,h2,h3⟩
     exact hn E' v' h2 h3
   ·cases h
 all_goals cases h
end
structure Sim(st:St)(E:Env)(a:Act):Prop where
 defers:a.defers=[]
 len:a.tmps.size=st.tmps.length
 tmp:∀(i:Nat) x,st.tmps[i]?=some x→∃v,a.tmps[i]?=some v∧AVR E x v
 ok:HeapOk E
 H:∀b,E.H b=st.look b
 U:∀b,E.U b→b<st.heap.length
structure Fr(E0 E:Env):Prop where
 fr:FrameOk (Qhy E0) E
 ext:Ext E0 E
section
variable {P:Program} {T:Tab}
theorem Qq4(E:Env)(v:Value):AVR E (Qoh v) v:=by
 unfold Qoh;split
 ·rename_i cs;split
  ·rename_i h;refine⟨cs,rfl,?_⟩;have h:∀u∈cs.toList,u.oneCell'=true:=fun u hu=>List.all_eq_true.1 h u hu
   generalize cs.toList=l at h
   induction l with
   |nil=>exact rfl
   |cons u l ih=>exact⟨[u],l,rfl,⟨rfl,h u (by simp)⟩,ih fun x hx=>h x (by simp[hx])⟩
  ·trivial
 ·trivial
 ·rename_i h1 h2;refine⟨rfl,?_⟩;cases v<;>first|rfl|exact YD rfl (h1 _)|exact YD rfl (h2 _)
theorem Sim.at_{st:St}{E:Env}{a:Act}(h:Sim st E a)(t:Tmp):AVR E (st.tmp t) (a.tmps.getD t undef):=by
 unfold St.tmp;cases hx:st.tmps[t]? with
 |none=>simp[List.getD,hx];trivial
 |some x =>
  obtain⟨v,h1,h2⟩:=h.tmp t x hx;simp[List.getD,hx,h1];exact h2
theorem Sim.eval{st:St}{E:Env}{a:Act}(h:Sim st E a)(x:Operand):AVR E (st.eval x) (a.eval x):=by
 cases x with
 |tmp t=>exact h.at_ t
 |const v=>exact Qq4 E v
 |func f=>exact⟨#[],rfl,rfl,fun i b hb=>by simp at hb⟩
 |global g=>trivial
theorem Qeo:∀(h:List (Option Blk)) (n:Nat) (o:Option Blk) (b:Nat),(match (Qad h n o)[b]? with|some x=>x|none=>none)=if b=n then o else (match h[b]? with|some x=>x|none=>none)
 | [],0,o,b=>by
   cases b with
   |zero=>simp[Qad]
   |succ b=>simp[Qad]
 | [],n+1,o,b=>by
   cases b with
   |zero=>simp[Qad]
   |succ b=>simpa[Qad] using Qeo [] n o b
 |x::r,0,o,b=>by
  cases b with
  |zero=>simp[Qad]
  |succ b=>simp[Qad]
 |x::r,n+1,o,b=>by
  cases b with
  |zero=>simp[Qad]
  |succ b=>simpa[Qad] using Qeo r n o b
theorem Qfu:∀(h:List (Option Blk)) (n:Nat) (o:Option Blk),(Qad h n o).length=max h.length (n+1)
 | [],0,o=>by simp[Qad]
 | [],n+1,o=>by simp[Qad,Qfu [] n o]
 |x::r,0,o=>by simp[Qad]
 |x::r,n+1,o=>by simp[Qad,Qfu r n o]
theorem QhD:∀(l:List (Nat×Option Blk)) (h:List (Option Blk)) (b:Nat),(match (QdX h l)[b]? with|some x=>x|none=>none)=Qgf (fun b=>match h[b]? with|some x=>x|none=>none) l b
 | [],h,b=>rfl
 |(n,o)::l,h,b=>by
  rw[QdX,QhD l,Qgf];congr 1;funext c;exact Qeo h n o c
theorem Qgj:∀(l:List (Nat×Option Blk)) (h:List (Option Blk)),h.length≤(QdX h l).length
 | [],h=>YE _
 |(n,o)::l,h=>by
  rw[QdX];have:=Qgj l (Qad h n o);rw[Qfu] at this;omega
theorem QhE:∀(l:List Blk) (h:List (Option Blk)) (nm b:Nat),(match (QeN h nm l)[b]? with|some x=>x|none=>none)=addF (fun b=>match h[b]? with|some x=>x|none=>none) nm l b
 | [],h,nm,b=>rfl
 |x::l,h,nm,b=>by
  rw[QeN,QhE l,addF];congr 1;funext c;exact Qeo h nm (some x) c
theorem Qc9:∀(l:List Blk) (h:List (Option Blk)) (nm:Nat),h.length≤(QeN h nm l).length∧(0<l.length→nm+l.length≤(QeN h nm l).length)
 | [],h,nm=>⟨YE _,fun h=>by simp at h⟩
 |x::l,h,nm=>by
  rw[QeN];obtain⟨h1,h2⟩:=Qc9 l (Qad h nm (some x)) (nm+1);rw[Qfu] at h1;refine⟨by omega,fun _=>?_⟩;simp only[Yx];by_cases hl:0<l.length
  ·have:=h2 hl;omega
  ·have:l.length=0:=by omega
   omega
theorem QoI(st:St)(nm:Nat)(r:Res)(b:Nat):(st.act nm r).look b=addF (Qgf st.look r.set) nm r.add b:=by
 show(match (QeN (QdX st.heap r.set) nm r.add)[b]? with|some x=>x|none=>none)=_;refine(QhE _ _ _ _).trans ?_;congr 1;funext c;exact QhD r.set st.heap c
theorem Sim.step{st:St}{E E':Env}{a:Act}{nm:Nat}{r:Res}{v:Value}{dst:Option Tmp}(h:Sim st E a)(hs:Step E r nm E')(hv:AVR E' r.val v):Sim ((st.act nm r).put dst r.val) E' (a.put dst v):=by
 have hlook:∀b,((st.act nm r).put dst r.val).look b=(st.act nm r).look b:=fun b=>by cases dst<;>rfl
 have hheap:((st.act nm r).put dst r.val).heap=(st.act nm r).heap:=by cases dst<;>rfl
 refine⟨by cases dst<;>exact h.defers,?_,fun i x hx=>?_,hs.ok,fun b=>?_,fun b hb=>?_⟩
 ·cases dst with
  |none=>exact h.len
  |some d=>simp[Act.put,St.put,St.act,h.len]
 ·cases dst with
  |none =>
   obtain⟨u,h1,h2⟩:=h.tmp i x hx;exact⟨u,h1,h2.ext hs.ext⟩
  |some d =>
   simp only[St.put,St.act,YY] at hx;by_cases hd:d=i
   ·subst hd;simp only[if_true] at hx;split at hx
    ·rename_i hlt;injection hx with hx
     subst hx;exact⟨v,by simp[Act.put,h.len,hlt],hv⟩
    ·cases hx
   ·rw[Yb hd] at hx;obtain⟨u,h1,h2⟩:=h.tmp i x hx;exact⟨u,by simp[Act.put,Array.getElem?_setIfInBounds_ne hd,h1],h2.ext hs.ext⟩
 ·rw[hlook,hs.H,QoI];congr 1;funext c;congr 1;funext d;exact h.H d
 ·rw[hheap];have h1:=Qgj r.set st.heap;obtain⟨h2,h3⟩:=Qc9 r.add (QdX st.heap r.set) nm;have h4:(st.act nm r).heap=QeN (QdX st.heap r.set) nm r.add:=rfl;rw[h4];rcases(hs.U b).1 hb with h5|⟨h5,h6⟩
  ·have:=h.U b h5;omega
  ·have:=h3 (by omega);omega
theorem Fr.step{E0 E E':Env}{nm:Nat}{r:Res}(h:Fr E0 E)(hs:Step E r nm E'):Fr E0 E':=⟨hs.fr _ h.fr,h.ext.trans hs.ext⟩
theorem QoJ{p:Option Prop}{q:Prop}(h:need p q):(∀x,p=some x→x)∧q:=by
 cases p with
 |none=>exact⟨fun x hx=>(by cases hx),h⟩
 |some p =>
  have:=Need.out h;exact⟨fun x hx=>by injection hx with hx;subst hx;exact this.1,this.2⟩
theorem QhF(hT:TabOk P T){o:Oper}{st:St}{E:Env}{a:Act}(hs:Sim st E a){eq:Bool}{A B:Prop}(h:Qm7 T st o=some (eq,A,B)) :
 ∃nil:Bool,(execOp a.eval o).run P E.w=.ok (.value (.bool (if nil then eq else !eq))) E.w∧(nil=true→A)∧(nil=false→B):=by
 have key:∀{op:BinOp} {t e:TypeId} {x:Operand} {v:Value} {nil:Bool},(op=.eql∨op=.neq)→P.underlying t=some (.slice e)→a.eval x=v→(∃ad n c,v=.slice ad n c∧ad.isNone=nil) →
  (do eqGuard op t x (.const (.slice none 0 0)) v (.slice none 0 0);binOp op t v (.slice none 0 0):Sem Value).run P E.w=.ok (.bool (if nil then decide (op=.eql) else !decide (op=.eql))) E.w:=by
  rintro op t e x v nil hop hu hx ⟨ad,n,c,rfl,rfl⟩
  rcases hop with rfl|rfl
  ·have h1:(Op.equal t (.slice ad n c) (.slice none 0 0)).run P E.w=.ok ad.isNone E.w:=run_equal_slice_nil E.w t e ad n c hu;simp[eqGuard,binOp,h1];cases ad<;>rfl
  ·have h1:(binOp .neq t (.slice ad n c) (.slice none 0 0)).run P E.w=.ok (.bool (!ad.isNone)) E.w:=run_neq_slice_nil E.w t e ad n c hu;simp[eqGuard,h1];cases ad<;>rfl
 have rel:∀{c:Cell} {t:Ty} {l:List (Den t)} {v:Value},Qax st.look c=some ⟨t,l⟩→QaI E c [v]→∃ad n cp,v=.slice ad n cp∧(ad.isNone=true→l.length=0):=by
  intro c t l v h hc;obtain⟨ad,cap,e,_,h2⟩:=Qcm hs.ok (fun b x hb=>(hs.H b).trans hb) h hc;refine⟨ad,_,cap,e,fun hn=>?_⟩;cases l with
  |nil=>rfl
  |cons y l =>
   obtain⟨ad',_,he,_⟩:=h2 (by simp);rw[he] at hn;cases hn
 obtain⟨dst,op,ty,pos,after,guard⟩:=o;unfold Qm7 at h;simp only at h;split at h
 ·rename_i bop t x bty;split at h
  ·rename_i ti hti;have hok:=(hT.ty _ _ hti).und
   have fin:∀{bop:BinOp} {e:TypeId} {eq:Bool} {A B:Prop},(bop=.eql∨bop=.neq)→decide (bop=.eql)=eq→P.underlying t=some (.slice e) →
    (match st.eval x with
      |.one (.c (.imm (.slice none 0 0)))=>some (eq,True,False)
      |.one (.c c)=>match Qax st.look c with|some ⟨_,l⟩=>some (eq,l.length=0,True)|none=>none
      |_=>none)=some (eq,A,B) →
    ∃nil:Bool,(execOp a.eval { dst:=dst,op:=.binOp bop t x (.const (.slice none 0 0)) bty,type:=ty,pos:=pos,after:=after,guard:=guard }).run P E.w=.ok (.value (.bool (if nil then eq else !eq))) E.w∧(nil=true→A)∧(nil=false→B):=by
    intro bop e eq A B hop heq hu h;have he:=hs.eval x;have vl:∀(s:Sem Value) v w',s.run P E.w=.ok v w'→(do pure (.value (←s)):Sem Next).run P E.w=.ok (.value v) w':=fun s v w' hs=>by simp[hs]
    split at h
    ·rename_i hx;rw[hx] at he;obtain⟨hv,_⟩:=he;injection hv with hv
     simp only[Yc,YM] at h;obtain⟨_,rfl,rfl⟩:=h;refine⟨true,?_,fun _=>trivial,fun h=>by cases h⟩;have:=key (nil:=true) hop hu rfl ⟨none,0,0,hv,rfl⟩;rw[heq] at this;exact vl _ _ _ this
    ·rename_i c _ hx;rw[hx] at he;split at h
     ·rename_i t' l hsl;simp only[Yc,YM] at h;obtain⟨_,rfl,rfl⟩:=h;obtain⟨ad,n,cp,hv,hn⟩:=rel hsl he;refine⟨ad.isNone,?_,hn,fun _=>trivial⟩;have:=key (nil:=ad.isNone) hop hu rfl ⟨ad,n,cp,hv,rfl⟩;rw[heq] at this;exact vl _ _ _ this
     ·cases h
    ·cases h
   split at h
   ·rename_i e hd;rw[hd] at hok
    have hq:eq=true:=by
     split at h
     ·simp only[Yc,YM] at h;exact h.1.symm
     ·split at h
      ·simp only[Yc,YM] at h;exact h.1.symm
      ·cases h
     ·cases h
    subst hq;exact fin (.inl rfl) rfl hok h
   ·rename_i e hd;rw[hd] at hok
    have hq:eq=false:=by
     split at h
     ·simp only[Yc,YM] at h;exact h.1.symm
     ·split at h
      ·simp only[Yc,YM] at h;exact h.1.symm
      ·cases h
     ·cases h
    subst hq;exact fin (.inr rfl) rfl hok h
   ·cases h
  ·cases h
 ·cases h
theorem Sim.putV{st:St}{E:Env}{a:Act}(h:Sim st E a)(dst:Option Tmp){x:AV}{v:Value}(hx:AVR E x v):Sim (st.put dst x) E (a.put dst v):=by
 cases dst with
 |none=>exact h
 |some d =>
  refine⟨h.defers,by simp[St.put,Act.put,h.len],fun i y hy=>?_,h.ok,h.H,h.U⟩;simp only[St.put,YY] at hy;by_cases hd:d=i
  ·subst hd;simp only[if_true] at hy;split at hy
   ·rename_i hlt;injection hy with hy
    subst hy;exact⟨v,by simp[Act.put,h.len,hlt],hx⟩
   ·cases hy
  ·rw[Yb hd] at hy;obtain⟨u,h1,h2⟩:=h.tmp i y hy;exact⟨u,by simp[Act.put,Array.getElem?_setIfInBounds_ne hd,h1],h2⟩
theorem Qq5(hT:TabOk P T)(hP:Q7 P T){o:Oper}{nm:Nat}{st:St}{K:St→Prop}(h:Qxg T o nm st K){E0 E:Env}{a:Act}(hs:Sim st E a)(hf:Fr E0 E)(hnm:st.heap.length≤nm)
 {next:Act→World→Prop} {Q:Exit→Act→World→Prop} (hn:∀st' E' a',Sim st' E' a'→Fr E0 E'→K st'→next a' E'.w):o.wp P a E.w next Q:=by
 unfold Qxg at h;split at h
 ·rename_i A B hnil;obtain⟨nil,hr,hA,hB⟩:=QhF hT hs hnil;cases h with
  |mk h1 h2 =>
   refine Qbt hr ?_;cases nil with
   |true=>have:=h1 (hA rfl);rw[Qbi] at this;exact hn _ E _ (hs.putV (x:=.cell (bv _)) o.dst ⟨rfl,rfl⟩) hf this
   |false=>have:=h2 (hB rfl);rw[Qbi] at this;exact hn _ E _ (hs.putV (x:=.cell (bv _)) o.dst ⟨rfl,rfl⟩) hf this
 ·rename_i A B hnil;obtain⟨nil,hr,hA,hB⟩:=QhF hT hs hnil;cases h with
  |mk h1 h2 =>
   refine Qbt hr ?_;cases nil with
   |true=>have:=h1 (hA rfl);rw[Qbi] at this;exact hn _ E _ (hs.putV (x:=.cell (bv _)) o.dst ⟨rfl,rfl⟩) hf this
   |false=>have:=h2 (hB rfl);rw[Qbi] at this;exact hn _ E _ (hs.putV (x:=.cell (bv _)) o.dst ⟨rfl,rfl⟩) hf this
 split at h
 ·rename_i r hr;obtain⟨hp,hk⟩:=QoJ h;rw[QsO,Qbi] at hk;exact QhC hT hP hs.ok hs.eval (fun b x hb=>(hs.H b).trans hb) hr hp (fun k _ hU=>by have:=hs.U _ hU;omega) fun E' v h1 h2=>hn _ E' _ (hs.step h1 h2) (hf.step h1) hk
 ·exact h.elim
theorem Sim.same{st:St}{E:Env}{a:Act}(h:Sim st E a){d:Tmp}{x:AV}(hx:AVR E x (a.tmps.getD d undef)):Sim (st.put (some d) x) E a:=by
 refine⟨h.defers,by simp[St.put,h.len],fun i y hy=>?_,h.ok,h.H,h.U⟩;simp only[St.put,YY] at hy;by_cases hd:d=i
 ·subst hd;simp only[if_true] at hy;split at hy
  ·rename_i hlt;injection hy with hy
   subst hy;have hlt':d<a.tmps.size:=by rw[h.len];exact hlt
   refine⟨a.tmps[d],by simp[hlt'],?_⟩;simpa[hlt'] using hx
  ·cases hy
 ·rw[Yb hd] at hy;exact h.tmp i y hy
theorem Sim.dead{st:St}{E:Env}{a:Act}(h:Sim st E a)(dst:Option Tmp):Sim (st.put dst .dead) E (a.put dst undef):=by
 cases dst with
 |none=>exact h
 |some d =>
  refine⟨h.defers,by simp[St.put,Act.put,h.len],fun i y hy=>?_,h.ok,h.H,h.U⟩;simp only[St.put,YY] at hy;by_cases hd:d=i
  ·subst hd;simp only[if_true] at hy;split at hy
   ·rename_i hlt;injection hy with hy
    subst hy;exact⟨undef,by simp[Act.put,h.len,hlt],trivial⟩
   ·cases hy
  ·rw[Yb hd] at hy;obtain⟨u,h1,h2⟩:=h.tmp i y hy;exact⟨u,by simp[Act.put,Array.getElem?_setIfInBounds_ne hd,h1],h2⟩
theorem Sim.skip{st:St}{E:Env}{a:Act}(h:Sim st E a)(dst:Option Tmp):Sim (st.put dst (.tup [])) E (a.put dst undef):=by
 cases dst with
 |none=>exact h
 |some d =>
  refine⟨h.defers,by simp[St.put,Act.put,h.len],fun i y hy=>?_,h.ok,h.H,h.U⟩;simp only[St.put,YY] at hy;by_cases hd:d=i
  ·subst hd;simp only[if_true] at hy;split at hy
   ·rename_i hlt;injection hy with hy
    subst hy;exact⟨undef,by simp[Act.put,h.len,hlt],⟨#[],rfl,rfl⟩⟩
   ·cases hy
  ·rw[Yb hd] at hy;obtain⟨u,h1,h2⟩:=h.tmp i y hy;exact⟨u,by simp[Act.put,Array.getElem?_setIfInBounds_ne hd,h1],h2⟩
theorem Qlz{ops:Array Oper}{o:Oper}{d:Tmp}{want b:Bool}{st:St}{E:Env}{a:Act}(h:Sim st E a)(hg:QaA ops o=some (some (d,want)))(hb:st.tmp d=.cell (bv b)) :
 Region.wanted o (yielded ops a.tmps)=(b==want)∧a.tmps.getD d undef=.bool b:=by
 have hrel:=h.at_ d;rw[hb] at hrel;obtain⟨e,_⟩:=hrel;injection e with e
 refine⟨?_,e⟩;unfold QaA at hg;unfold Region.wanted;cases ho:o.guard with
 |none=>rw[ho] at hg;cases hg
 |some jw =>
  obtain⟨j,w⟩:=jw;rw[ho] at hg;simp only at hg;cases hj:ops[j]? with
  |none=>rw[hj] at hg;cases hg
  |some oj =>
   rw[hj] at hg;simp only at hg;cases hd:oj.dst with
   |none=>rw[hd] at hg;cases hg
   |some d' =>
    rw[hd] at hg;simp only[Yc,YM] at hg;obtain⟨rfl,rfl⟩:=hg
    have hlt:d'<a.tmps.size:=by
     rcases Jp d' a.tmps.size with h|h
     ·exact h
     ·rw[YQ,Array.getElem?_eq_none h] at e;simp[undef] at e
    have:a.tmps[d']?=some (.bool b):=by
     rw[Array.getElem?_eq_getElem hlt,←e];simp[hlt]
    simp[yielded,hj,hd,this]
theorem QlA{ops:Array Oper}{o:Oper}{d:Tmp}{want:Bool}{st:St}{E:Env}{a:Act}(h:Sim st E a)(hg:QaA ops o=some (some (d,want)))(hb:st.tmp d=.tup []) :
 Region.wanted o (yielded ops a.tmps)=false:=by
 have hrel:=h.at_ d;rw[hb] at hrel;obtain⟨vs,e,_⟩:=hrel;unfold QaA at hg;unfold Region.wanted;cases ho:o.guard with
 |none=>rw[ho] at hg;cases hg
 |some jw =>
  obtain⟨j,w⟩:=jw;rw[ho] at hg;simp only at hg;cases hj:ops[j]? with
  |none=>rw[hj] at hg;cases hg
  |some oj =>
   rw[hj] at hg;simp only at hg;cases hd:oj.dst with
   |none=>rw[hd] at hg;cases hg
   |some d' =>
    rw[hd] at hg;simp only[Yc,YM] at hg;obtain⟨rfl,rfl⟩:=hg
    have:yielded ops a.tmps j=none:=by
     unfold yielded;simp only[hj,Option.bind_some,hd];cases ht:a.tmps[d']? with
     |none=>rfl
     |some x =>
      have:x=.tuple vs:=by
       rw[←e,YQ,ht];rfl
      rw[this]
    show(yielded ops a.tmps j==some w)=false;rw[this];rfl
theorem Qjk{ops:Array Oper}{o:Oper}(hg:QaA ops o=some none)(y:Nat→Option Bool):Region.wanted o y=true:=by
 unfold QaA at hg;unfold Region.wanted;cases ho:o.guard with
 |none=>rfl
 |some jw =>
  obtain⟨j,w⟩:=jw;rw[ho] at hg;simp only at hg;split at hg
  ·split at hg<;>simp at hg
  ·cases hg
theorem Qcp(hT:TabOk P T)(hP:Q7 P T){ops:Array Oper}{E0:Env}{Q:Exit→Act→World→Prop}:∀(l:List Oper) (k:Nat) {st:St} {K:St→Prop} {E:Env} {a:Act},ops.toList.drop k=l→Qge T ops l st K→Sim st E a→Fr E0 E →
 (∀st' E' a',Sim st' E' a'→Fr E0 E'→K st'→Q .normal a' E'.w)→wpOps P ops Q (List.range' k l.length) a E.w
 | [],k,st,K,E,a,_,h,hs,hf,hq=>by
   simp only[YU,List.range'_zero,wpOps];exact hq st E a hs hf h
 |o::l,k,st,K,E,a,hd,h,hs,hf,hq=>by
  have hk:ops[k]?=some o:=by
   rw[←YA];have:=Yv (·[0]?) hd;simpa using this
  have hd':ops.toList.drop (k+1)=l:=by
   have:=Yv (List.drop 1) hd;simpa using this
  have run:∀(st1:St),Sim st1 E a→(Qaz lits st1.heap st1.heap.length fun nm=>Qxg T o nm st1 fun st'=>Qge T ops l st' K)→o.wp P a E.w (wpOps P ops Q (List.range' (k+1) l.length)) Q:=by
   intro st1 hs1 h1;obtain⟨nm,h2,h1⟩:=named h1;exact Qq5 hT hP h1 hs1 hf h2 fun st' E' a' g1 g2 g3=>Qcp hT hP l (k+1) hd' g3 g1 g2 hq
  rw[Yx,List.range'_succ];simp only[wpOps,hk];unfold Qge at h;split at h
  ·exact h.elim
  ·rename_i hg;rw[Yf (Qjk hg _)];exact .inl (run st hs h)
  ·rename_i d want hg;split at h
   ·rename_i b hb;obtain⟨h1,h2⟩:=Qlz hs hg hb;rw[h1];cases b with
    |true =>
     simp only[Br] at h;have hs':Sim (st.put (some d) (.cell (bv true))) E a:=hs.same (by rw[h2];exact⟨rfl,rfl⟩);cases want with
     |true=>simp only[Qbi] at h;exact .inl (run _ hs' h)
     |false=>simp only[Qbi] at h;exact Qcp hT hP l (k+1) hd' h (hs'.skip o.dst) hf hq
    |false =>
     simp only[Br] at h;have hs':Sim (st.put (some d) (.cell (bv false))) E a:=hs.same (by rw[h2];exact⟨rfl,rfl⟩);cases want with
     |false=>simp only[Qbi] at h;exact .inl (run _ hs' h)
     |true=>simp only[Qbi] at h;exact Qcp hT hP l (k+1) hd' h (hs'.skip o.dst) hf hq
   ·rename_i hb;rw[QlA hs hg hb];simp only[Qbi] at h;exact Qcp hT hP l (k+1) hd' h (hs.skip o.dst) hf hq
   ·exact h.elim
end
abbrev Cont:=Exit→St→Prop
def Cov(K:Cont)(E0:Env)(Q:Exit→Act→World→Prop):Prop :=
 ∀e st' E' a',K e st'→Sim st' E' a'→Fr E0 E'→Q e a' E'.w
def Does(P:Program)(m:Nat)(c:Code)(st:St)(K:Cont):Prop :=
 ∀E0 Q E a,(∀b,E0.U b→b<m)→Sim st E a→Fr E0 E→Cov K E0 Q→c.wp P Q a E.w
inductive LoopG(P:Program)(m:Nat)(c:Code)(st:St)(K:Cont):Prop where
 |mk:Does P m (.loop c) st K→LoopG P m c st K
inductive DrawG(P:Program)(m:Nat)(id:Nat)(ops:Array Oper)(st:St)(K:St→Prop):Prop where
 |mk:Does P m (.region id ops true) st (fun e st'=>e=.normal∧K st')→DrawG P m id ops st K
def QFb(st:St)(c:Operand)(b:Bool):St:=match c with|.tmp t=>st.put (some t) (.cell (bv b))|_=>st
def ex(P:Program)(T:Tab)(m:Nat):Code→St→Cont→Prop
 |.skip,st,K=>K .normal st
 |.label _,st,K=>K .normal st
 |.seq x y,st,K=>ex P T m x st fun e st'=>match e with
  |.normal=>ex P T m y st' K
  |.exit i=>K (.exit i) st'
  |.ret=>K .ret st'
  |_=>False
 |.cond c x y,st,K=>match st.eval c with
  |.one (.c (.imm (.bool b)))=>Br b (fSt (QFb st c true) fun st=>ex P T m x st K) (fSt (QFb st c false) fun st=>ex P T m y st K)
  |_=>False
 |.block id c,st,K=>ex P T m c st fun e st'=>match e with
  |.normal=>K .normal st'
  |.exit i=>(match Nat.beq i id with|true=>K .normal st'|false=>K (.exit i) st')
  |.ret=>K .ret st'
  |_=>False
 |.loop c,st,K=>LoopG P m c st K
 |.exit i,st,K=>K (.exit i) st
 |.ret,st,K=>K .ret st
 |.region id ops d,st,K=>match d with
  |false=>Qge T ops ops.toList st fun st'=>K .normal st'
  |true=>DrawG P m id ops st fun st'=>K .normal st'
 |_,_,_=>False
section
variable {P:Program} {T:Tab}
theorem Sim.lit{st:St}{E:Env}{a:Act}(h:Sim st E a){c:Operand}{b:Bool}(hc:st.eval c=.one (.c (.imm (.bool b)))):Sim (QFb st c b) E a∧a.eval c=.bool b:=by
 have h1:=h.eval c;rw[hc] at h1;obtain⟨h1,_⟩:=h1;injection h1 with h1
 refine⟨?_,h1⟩;unfold QFb;split
 ·rename_i t;refine h.same ?_;have:a.tmps.getD t undef=.bool b:=h1;rw[this];exact⟨rfl,rfl⟩
 ·exact h
theorem Qg4(hT:TabOk P T)(hP:Q7 P T){m:Nat}:∀(c:Code) {st:St} {K:Cont},ex P T m c st K→Does P m c st K:=by
 intro c
 induction c with
 |skip=>intro st K h E0 Q E a hm hs hf hc;exact wp_skip (hc _ _ _ _ h hs hf)
 |label l=>intro st K h E0 Q E a hm hs hf hc;exact wp_label (hc _ _ _ _ h hs hf)
 |exit i=>intro st K h E0 Q E a hm hs hf hc;exact wp_exit (hc _ _ _ _ h hs hf)
 |ret=>intro st K h E0 Q E a hm hs hf hc;exact wp_ret (hc _ _ _ _ h hs hf)
 |seq x y hx hy =>
  intro st K h E0 Q E a hm hs hf hc;unfold ex at h;refine wp_seq (hx h E0 _ E a hm hs hf ?_);intro e st' E' a' hk hs' hf';cases e with
  |normal=>exact hy hk E0 Q E' a' hm hs' hf' hc
  |exit i=>exact hc _ _ _ _ hk hs' hf'
  |ret=>exact hc _ _ _ _ hk hs' hf'
  |goto l=>exact hk.elim
  |panic ch=>exact hk.elim
  |outgrown=>exact hk.elim
 |cond c x y hx hy =>
  intro st K h E0 Q E a hm hs hf hc;unfold ex at h;split at h
  ·rename_i b hb;obtain⟨hs',he⟩:=hs.lit hb;rw[Qbi,Qbi] at h;cases b with
   |true=>exact wp_cond_true he (hx h E0 Q E a hm hs' hf hc)
   |false=>exact wp_cond_false he (hy h E0 Q E a hm hs' hf hc)
  ·exact h.elim
 |block id c hx =>
  intro st K h E0 Q E a hm hs hf hc;unfold ex at h;refine wp_block (hx h E0 _ E a hm hs hf ?_);intro e st' E' a' hk hs' hf';cases e with
  |normal=>exact hc _ _ _ _ hk hs' hf'
  |exit i =>
   simp only[Exit.inBlock];simp only at hk;split at hk
   ·rename_i hb;rw[Yf (Yg hb)];exact hc _ _ _ _ hk hs' hf'
   ·rename_i hb;rw[Yb (fun e=>by subst e;simp at hb)];exact hc _ _ _ _ hk hs' hf'
  |ret=>exact hc _ _ _ _ hk hs' hf'
  |goto l=>exact hk.elim
  |panic ch=>exact hk.elim
  |outgrown=>exact hk.elim
 |loop c hx=>intro st K h;cases h with|mk h=>exact h
 |region id ops d =>
  intro st K h E0 Q E a hm hs hf hc;unfold ex at h;cases d with
  |true =>
   cases h with
   |mk h =>
    refine h E0 Q E a hm hs hf ?_
    rintro e st' E' a' ⟨rfl,hk⟩ hs' hf'
    exact hc _ _ _ _ hk hs' hf'
  |false =>
   refine wp_region ?_;rw[List.range_eq_range'];have:=Qcp (Q:=Q) hT hP ops.toList 0 (by simp) h hs hf fun st' E' a' h1 h2 h3=>hc _ _ _ _ h3 h1 h2
   simpa using this
 |_=>intro st K h;exact h.elim
theorem Qng{p:Nat→Prop}(h:∃n,p n):∃n,p n∧∀k,p k→n≤k:=by
 obtain⟨n,hn⟩:=h
 induction n using Nat.strongRecOn with
 |_ n ih =>
  by_cases hs:∃k,k<n∧p k
  ·obtain⟨k,hk,hp⟩:=hs;exact ih k hk hp
  ·exact⟨n,hn,fun k hk=>by rcases Jp k n with h|h;exact YD ⟨k,h,hk⟩ hs;exact h⟩
open Classical in
noncomputable def least(p:Nat→Prop):Nat:=if h:∃n,p n then Classical.choose (Qng h) else 0
theorem Qxv{p:Nat→Prop}(h:∃n,p n):p (least p):=by
 unfold least;rw[dif_pos h];exact(Classical.choose_spec (Qng h)).1
theorem Qxw{p:Nat→Prop}{n:Nat}(h:p n):least p≤n:=by
 unfold least;rw[dif_pos ⟨n,h⟩];exact(Classical.choose_spec (Qng ⟨n,h⟩)).2 n h
def Le(m:Nat)(st st':St):Prop :=
 ∀E0 E a,(∀b,E0.U b→b<m)→Sim st E a→Fr E0 E→∃E',E'.w=E.w∧Sim st' E' a∧Fr E0 E'
theorem Le.refl(m:Nat)(st:St):Le m st st:=fun E0 E a _ hs hf=>⟨E,rfl,hs,hf⟩
theorem QhG{X:Type}{m:Nat}{c:Code}{st:St}{K:Cont}(S:X→St)(I:X→Prop)(μ:X→Nat)(x0:X)(h0:Le m st (S x0))(hI:I x0)
 (h:∀x,I x→Does P m c (S x) fun e st'=>match e with|.normal=>∃x',I x'∧μ x'<μ x∧Le m st' (S x')|e=>K e st'):LoopG P m c st K:=by
 refine .mk fun E0 Q E a hm hs hf hc=>?_
 let at_:Act→World→Nat→Prop:=fun a w n=>∃x E,I x∧μ x=n∧E.w=w∧Sim (S x) E a∧Fr E0 E
 refine wp_loop (fun a w=>∃n,at_ a w n) (fun a w=>least (at_ a w)) ?_ ?_
 ·obtain⟨E',e,h1,h2⟩:=h0 E0 E a hm hs hf;exact⟨_,x0,E',hI,rfl,e,h1,h2⟩
 ·intro a w hn;obtain⟨x,E,hIx,hμ,rfl,h1,h2⟩:=Qxv hn;refine h x hIx E0 _ E a hm h1 h2 ?_;intro e st' E' a' hk hs' hf';cases e with
  |normal =>
   obtain⟨x',hI',hlt,hle⟩:=hk;obtain⟨E'',e,h3,h4⟩:=hle E0 E' a' hm hs' hf';have hat:at_ a' E'.w (μ x'):=⟨x',E'',hI',rfl,e,h3,h4⟩
   refine⟨⟨_,hat⟩,?_⟩;have:=Qxw hat;show least (at_ a' E'.w)<least (at_ a E.w);rw[←hμ];omega
  |_=>exact hc _ _ _ _ hk hs' hf'
def RD(P:Program)(m:Nat)(c:Code)(K:Cont):Nat→St→Prop
 |0,_=>False
 |n+1,st=>Does P m c st fun e st'=>match e with|.normal=>RD P m c K n st'|e=>K e st'
inductive RoundG(P:Program)(m:Nat)(c:Code)(K:Cont)(n:Nat)(st:St):Prop where
 |mk:RD P m c K n st→RoundG P m c K n st
theorem QlB{m:Nat}{c:Code}{K:Cont}{E0:Env}{Q:Exit→Act→World→Prop}(hm:∀b,E0.U b→b<m)(hc:Cov K E0 Q):∀(n:Nat) {st:St} {E:Env} {a:Act},RD P m c K n st→Sim st E a→Fr E0 E→Code.rounds P c Q n a E.w
 |0,_,_,_,h,_,_=>h.elim
 |n+1,st,E,a,h,hs,hf=>by
  refine h E0 _ E a hm hs hf ?_;intro e st' E' a' hk hs' hf';cases e with
  |normal=>exact QlB hm hc n hk hs' hf'
  |_=>exact hc _ _ _ _ hk hs' hf'
theorem QP{m:Nat}{c:Code}{st:St}{K:Cont}(n:Nat)(h:RoundG P m c K n st):LoopG P m c st K :=
 .mk fun E0 Q E a hm hs hf hc=>wp_loop_rounds n (by cases h with|mk h=>exact QlB hm hc n h hs hf)
theorem QFr{m n:Nat}{c:Code}{st:St}{K:Cont}(h:Does P m c st fun e st'=>match e with|.normal=>RoundG P m c K n st'|e=>K e st'):RoundG P m c K (n+1) st:=by
 refine .mk fun E0 Q E a hm hs hf hc=>h E0 Q E a hm hs hf ?_
 intro e st' E' a' hk hs' hf';refine hc e st' E' a' ?_ hs' hf';cases e with
 |normal=>cases hk with|mk hk=>exact hk
 |_=>exact hk
theorem Does.mono{m:Nat}{c:Code}{st:St}{K K':Cont}(h:Does P m c st K)(hk:∀e st',K e st'→K' e st'):Does P m c st K' :=
 fun E0 Q E a hm hs hf hc=>h E0 Q E a hm hs hf fun e st' E' a' h1 h2 h3=>hc e st' E' a' (hk _ _ h1) h2 h3
end
end Go.Fw

