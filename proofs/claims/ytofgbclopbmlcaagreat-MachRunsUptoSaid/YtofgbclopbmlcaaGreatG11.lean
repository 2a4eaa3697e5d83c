/- Part 11 of the proof. Conditions: none. -/
import Derived.Test.YtofgbclopbmlcaaGreatG9
import Derived.Test.YtofgbclopbmlcaaGreatG10
namespace Go.Fw
set_option linter.unusedVariables false
set_option linter.unusedSimpArgs false
section
variable {P:Program} {T:Tab}
theorem Qos{E:Env}:∀{xs:List AV} {ys:List V1} {vs:List Value},ones xs=some ys→QiG E xs vs→VsR E ys vs
 | [],ys,vs,h,hr=>by
   simp only[ones,Option.some.injEq] at h;subst h;exact hr
 |.dead::xs,ys,vs,h,_=>by simp[ones] at h
 |.tup _::xs,ys,vs,h,_=>by simp[ones] at h
 |.one x::xs,ys,_,h,⟨v,r,e,h1,h2⟩=>by
  subst e;unfold ones at h;cases h3:ones xs with
  |none=>rw[h3] at h;cases h
  |some ys' =>
   rw[h3] at h;injection h with h
   subst h;exact⟨v,r,rfl,h1,Qos h3 h2⟩
theorem QiH{E:Env}(hH:HeapOk E){look:Nat→Option Blk}(hl:∀b x,look b=some x→E.H b=some x){f:FuncId}{s:CSpec}(hs:CSound P f s){args:List V1}{vs:Array Value}{nm:Nat}{r:Res}(ha:VsR E args vs.toList)(h:QjD look nm s args=some r)(hp:∀p,r.pre=some p→p)
 (hnm:∀k,k<r.add.length→¬E.U (nm+k)):Calls P f vs E.w fun e w'=>∃v E',e=.returned v∧E'.w=w'∧Step E r nm E'∧AVR E' r.val v:=by
 unfold QjD at h;cases hw:s.wr with
 |false =>
  rw[hw] at h;simp only at h;cases hv:Qfa (Qfj look) args with
  |none=>rw[hv] at h;cases h
  |some xs =>
   rw[hv] at h;simp only at h;split at h
   ·rename_i p rv fresh hrun;split at h
    ·split at h
     ·simp only[Option.some.injEq] at h;subst h;have hrel:=Qf6 (us:=args.flatMap (·.names)) hH hl (fun n hn=>hn) hv ha;refine(hs (QdU E (args.flatMap (·.names))) vs xs [] p rv [] fresh (fun b=>rfl) (fun b=>by simp[QdU]) (Qok hH _) hrel hrun (fun q hq=>hp q hq)).mono ?_
      rintro e w' ⟨v,E',rfl,rfl,hb⟩
      obtain⟨E'',h1,h2,h3⟩:=QwZ (p:=p) hH (fun k hk=>hnm k (by simpa using hk)) hb;exact⟨v,E'',rfl,h1,h2,h3⟩
     ·cases h
    ·rename_i hc;simp only[Option.some.injEq] at h;subst h;have hrel:=Qf6 (us:=args.flatMap (·.names)) hH hl (fun n hn=>hn) hv ha;refine(hs (QdU E (args.flatMap (·.names))) vs xs [] p rv [] fresh (fun b=>rfl) (fun b=>by simp[QdU]) (Qok hH _) hrel hrun (fun q hq=>hp q hq)).mono ?_
     rintro e w' ⟨v,E',rfl,rfl,hb⟩
     have hro:args.flatMap (·.names)=[]∨(rv.hasRo=false∧∀b∈fresh,b.plain=true):=by
      rw[Bool.and_eq_false_iff] at hc;rcases hc with hc|hc
      ·right;simp at hc;exact⟨hc.1,fun b hb=>hc.2 b hb⟩
      ·exact .inl (Qgy hv hc)
     obtain⟨E'',h1,h2,h3⟩:=Qlf (p:=p) hH (fun k hk=>hnm k (by simpa using hk)) hb hro;exact⟨v,E'',rfl,h1,h2,h3⟩
   ·cases h
 |true =>
  rw[hw] at h;simp only at h;cases hr:reach look 100 (args.flatMap (·.names)) [] with
  |none=>rw[hr] at h;cases h
  |some acc =>
   rw[hr] at h;simp only at h;cases hm:Qfa look acc with
   |none=>rw[hm] at h;cases h
   |some bl =>
    rw[hm] at h;simp only at h;split at h
    ·rename_i p rv upd fresh hrun;split at h
     ·rename_i hul;simp only[Option.some.injEq] at h;subst h;have hul:=Nat.eq_of_beq_eq_true hul;obtain⟨hn,hmem,_,hcl⟩:=QjN 100 _ [] acc (by simp) hr;obtain⟨hlen,hget⟩:=QdT hm
      have hbl:∀(i b:Nat),acc[i]?=some b→∃x,E.H b=some x∧(bl.map (·.rn (idx acc)))[i]?=some (x.rn (idx acc))∧∀n∈x.names,n∈acc:=by
       intro i b hb;obtain⟨x,h1,h2⟩:=hget i b hb;refine⟨x,hl _ _ h1,by simp[h2],fun n hnx=>?_⟩;rcases hcl b (List.mem_of_getElem? hb) with h3|⟨y,h3,h4⟩
       ·simp at h3
       ·rw[h1] at h3;injection h3 with h3
        subst h3;exact h4 n hnx
      have hbl':∀(i b:Nat),acc[i]?=some b→∃x,E.H b=some x∧(bl.map (·.rn (idx acc)))[i]?=some (x.rn (idx acc)):=fun i b h=>let ⟨x,h1,h2,_⟩:=hbl i b h;⟨x,h1,h2⟩
      have hlen':(bl.map (·.rn (idx acc))).length=acc.length:=by simpa using hlen
      have hrel:VsR (QeD E acc (bl.map (·.rn (idx acc)))) (args.map (·.rn (idx acc))) vs.toList :=
       VsR.rn (E:=E) (E':=QeD E acc (bl.map (·.rn (idx acc)))) (f:=idx acc) rfl (.inl fun _ h=>h) (fun i hi=>Qon hH hn hlen' hbl' (hmem i hi)) ha
      refine(hs (QeD E acc (bl.map (·.rn (idx acc)))) vs _ _ p rv upd fresh (fun b=>rfl) (fun b=>Iff.rfl) (Qw0 hH hn hlen' hbl) hrel hrun (fun q hq=>hp q hq)).mono ?_
      rintro e w' ⟨v,E',rfl,rfl,hb⟩
      obtain⟨E'',h1,h2,h3⟩:=QqC (p:=p) hH hn hlen' (by omega) hbl' (fun k hk=>hnm k (by simpa using hk)) hb (fun i=>match acc[i]? with|some b=>b|none=>nm+(i-acc.length)) (fun i=>rfl);exact⟨v,E'',rfl,h1,h2,h3⟩
     ·cases h
    ·cases h
theorem QgA{E:Env}(hP:Q9 P T)(hH:HeapOk E){look:Nat→Option Blk}(hl:∀b x,look b=some x→E.H b=some x){f:FuncId}{args:List AV}{vs:Array Value}{nm:Nat}{r:Res}(ha:QiG E args vs.toList)(h:Qn9 T look nm f args=some r)(hp:∀p,r.pre=some p→p)
 (hnm:∀k,k<r.add.length→¬E.U (nm+k)):Enters P f∧Calls P f vs E.w fun e w'=>∃v E',e=.returned v∧E'.w=w'∧Step E r nm E'∧AVR E' r.val v:=by
 unfold Qn9 at h;cases hs:T.fn f with
 |none=>rw[hs] at h;cases h
 |some s =>
  rw[hs] at h;simp only at h;cases ho:ones args with
  |none=>rw[ho] at h;cases h
  |some xs =>
   rw[ho] at h;exact⟨(hP f s hs).2,QiH hH hl (hP f s hs).1 (Qos ho ha) h hp hnm⟩
theorem QgB{f:FuncId}(h:Enters P f)(vs:Array Value)(w:World):(callFunc f vs).run P w=.ok (.enter f vs) w:=by
 obtain⟨fn,h1,h2,h3⟩:=h;have h2':¬fn.name= "runtime.NumGoroutine":=by simpa using h2
 have h4:¬fn.body=none:=by
  intro e;rw[e] at h3;cases h3
 simp[callFunc,h1,h2',h4]
theorem QiG.append{E:Env}:∀{xs ys:List AV} {vs us:List Value},QiG E xs vs→QiG E ys us→QiG E (xs++ys) (vs++us)
 | [],_,_,_,h,h'=>by simp only[QiG] at h;subst h;exact h'
 |_::_,_,_,_,⟨v,r,e,h1,h2⟩,h'=>by subst e;exact⟨v,r++_,rfl,h1,h2.append h'⟩
theorem QjO{E:Env}{ev:Operand→AV}{ρ:Operand→Value}(hev:∀x,AVR E (ev x) (ρ x)):∀(l:List Operand),QiG E (l.map ev) (l.map ρ)
 | []=>rfl
 |x::l=>⟨ρ x,l.map ρ,rfl,hev x,QjO hev l⟩
theorem Qsx{E:Env}{ev:Operand→AV}{ρ:Operand→Value}(hev:∀x,AVR E (ev x) (ρ x)):∀(l:List (Nat×Operand)),PsR E (l.map fun(i,x)=>(i,ev x)) (l.map fun(i,x)=>(i,ρ x))
 | []=>rfl
 |(i,x)::l=>⟨ρ x,_,rfl,hev x,Qsx hev l⟩
theorem Qot{E:Env}:∀(bs:List Nat) (caps:List Value),caps.length=bs.length→(∀(i b:Nat),bs[i]?=some b→∃u,caps[i]?=some u∧u.oneCell'=true∧E.U b∧∀cs,E.H b=some (.var cs)→∃g,E.ρ b=some g∧u=pt g 0)→QiG E (bs.map fun b=>.cell (.ptr b 0)) caps
 | [],caps,h,_=>List.eq_nil_of_length_eq_zero h
 |b::bs,[],h,_=>by simp at h
 |b::bs,u::caps,h,hh=>by
  obtain⟨u',h1,h2,h3,h4⟩:=hh 0 b rfl;simp at h1;subst h1;exact⟨u,caps,rfl,⟨u,⟨rfl,h2⟩,h3,h4⟩,Qot bs caps (by simpa using h) fun i b hb=>hh (i+1) b (by simpa using hb)⟩
theorem Qf8{E:Env}{ev:Operand→AV}{ρ:Operand→Value}(hev:∀x,AVR E (ev x) (ρ x))(o:Option Operand):Qi0 E (o.map ev) (o.map ρ):=by
 cases o with
 |none=>trivial
 |some x=>exact hev x
theorem Qw3{E:Env}{c a b:AV}{vc va vb:Value}{r:Res}(hc:AVR E c vc)(ha:AVR E a va)(hb:AVR E b vb)(h:QBk c a b=some r)(w:World) :
 ∃v,(do pure (.value (if ←asBool vc then va else vb)):Sem Next).run P w=.ok (.value v) w∧AVR E r.val v∧r.add=[]∧r.set=[]:=by
 unfold QBk at h;split at h
 ·rename_i t;obtain⟨e,_⟩:=hc;injection e with e
  subst e;split at h
  ·simp only[ok1,Option.some.injEq] at h;subst h;obtain⟨e,_⟩:=ha;injection e with e
   subst e;obtain⟨e,_⟩:=hb;injection e with e
   subst e;refine⟨_,by simp[asBool];rfl,?_,rfl,rfl⟩;cases t<;>exact⟨rfl,rfl⟩
  ·cases t with
   |true =>
    simp only at h;split at h
    ·cases h
    ·simp only[ok1,Option.some.injEq] at h;subst h;exact⟨va,by simp[asBool],ha,rfl,rfl⟩
   |false =>
    simp only at h;split at h
    ·cases h
    ·simp only[ok1,Option.some.injEq] at h;subst h;exact⟨vb,by simp[asBool],hb,rfl,rfl⟩
 ·cases h
theorem Qou(hT:TabOk P T){t:TypeId}{ti:TI}(h:T.ty t=some ti):∃d,P.underlying t=some d:=by
 have:=(hT.ty t ti h).und;cases hd:ti.desc<;>rw[hd] at this<;>simp only[QW] at this
 case struct=>obtain⟨F,h1,_⟩:=this;exact⟨_,h1⟩
 case iface=>obtain⟨F,h1⟩:=this;exact⟨_,h1⟩
 case other=>obtain⟨d,h1,_⟩:=this;exact⟨d,h1⟩
 all_goals exact⟨_,this⟩
theorem Qll{x:AV}{b:Nat}(h:QiY x=some b):x=.cell (.ptr b 0):=by
 unfold QiY at h;split at h
 ·injection h with h
  subst h;rfl
 ·cases h
theorem VsR.get{E:Env}:∀{xs:List V1} {vs:List Value} {i:Nat} {x:V1},VsR E xs vs→xs[i]?=some x→∃v,vs[i]?=some v∧V1R E x v
 | [],_,i,x,_,h=>by simp at h
 |y::ys,_,0,x,⟨v,r,e,h1,h2⟩,h=>by subst e;simp at h;subst h;exact⟨v,rfl,h1⟩
 |y::ys,_,i+1,x,⟨v,r,e,h1,h2⟩,h=>by subst e;simpa using h2.get (by simpa using h)
theorem QBv{E:Env}{look:Nat→Option Blk}(hT:TabOk P T)(hH:HeapOk E)(hl:∀b x,look b=some x→E.H b=some x){t ty:TypeId}{tys:Array TypeId}{x:AV}{v:Value}{n:Int}(hx:AVR E x v)(h:QGU T look t x=some n)(ht:tys[0]?=some t) :
 (Builtin.len_ tys ty #[v]).run P E.w=.ok (.int .i64 n) E.w:=by
 unfold QGU at h;split at h
 ·rename_i hty;have hu:=(hT.ty t _ hty).und;simp only[QW] at hu;split at h
  ·injection h with h
   subst h;obtain⟨e,_⟩:=hx;injection e with e
   subst e;simp[Builtin.len_,ht,run_underlying hu,goInt]
  ·cases h
 ·rename_i hty;have hu:=(hT.ty t _ hty).und;simp only[QW] at hu;split at h
  ·injection h with h
   subst h;obtain⟨e,_⟩:=hx;injection e with e
   subst e;simp[Builtin.len_,ht,run_underlying hu,goInt]
  ·split at h
   ·rename_i hb;injection h with h
    subst h;obtain⟨v',⟨e,_⟩,hU,hh⟩:=hx;injection e with e
    subst e;obtain⟨g,cap,_,rfl,_⟩:=hh _ (hl _ _ hb);simp[Builtin.len_,ht,run_underlying hu,goInt]
   ·cases h
  ·split at h
   ·rename_i hs;injection h with h
    subst h;obtain⟨a,cap,rfl,_⟩:=Qcj hH hl hs hx;simp[Builtin.len_,ht,run_underlying hu,goInt]
   ·cases h
  ·cases h
 ·cases h
theorem Qw4{E:Env}{xs:List AV}{vs:List Value}{r:AV}(hv:QiG E xs vs)(h:QGV xs=some r)(w:World){tys:Array TypeId}{ty:TypeId}:∃v,(Builtin.max_ tys ty vs.toArray).run P w=.ok v w∧AVR E r v:=by
 unfold QGV at h;split at h
 ·obtain⟨v,vs',rfl,hx,hv⟩:=hv;obtain⟨e,_⟩:=hx;injection e with e
  subst e;obtain⟨v',h1,h2⟩:=Qoi (P:=P) hv h w;exact⟨v',by simpa[Builtin.max_] using h1,h2⟩
 ·cases h
theorem Qw5{E:Env}{xs:List AV}{vs:List Value}{r:AV}(hv:QiG E xs vs)(h:QGW xs=some r)(w:World){tys:Array TypeId}{ty:TypeId}:∃v,(Builtin.min_ tys ty vs.toArray).run P w=.ok v w∧AVR E r v:=by
 unfold QGW at h;split at h
 ·obtain⟨v,vs',rfl,hx,hv⟩:=hv;obtain⟨e,_⟩:=hx;injection e with e
  subst e;obtain⟨v',h1,h2⟩:=Qoj (P:=P) hv h w;exact⟨v',by simpa[Builtin.min_] using h1,h2⟩
 ·cases h
theorem Qho(hT:TabOk P T)(hP:Q9 P T){E:Env}(hH:HeapOk E){a:Act}{ev:Operand→AV}(hev:∀x,AVR E (ev x) (a.eval x)){look:Nat→Option Blk}(hl:∀b x,look b=some x→E.H b=some x){nm:Nat}{o:Oper}{r:Res}
 (h:dstep T ev look nm o=some r) (hp:∀p,r.pre=some p→p) (hnm:∀k,k<r.add.length→¬E.U (nm+k)) {next:Act→World→Prop} {Q:Exit→Act→World→Prop}
 (hn:∀E' v,Step E r nm E'→AVR E' r.val v→next (a.put o.dst v) E'.w):o.wp P a E.w next Q:=by
 obtain⟨dst,op,type,pos,after,guard⟩:=o;have val:∀v,(execOp a.eval ⟨dst,op,type,pos,after,guard⟩).run P E.w=.ok (.value v) E.w→AVR E r.val v→r.add=[]→r.set=[]→Oper.wp P ⟨dst,op,type,pos,after,guard⟩ a E.w next Q:=fun v hr hv h1 h2=>Qbo hr (hn E v (Step.same hH h1 h2) hv)
 have vl:∀(s:Sem Value) v w',s.run P E.w=.ok v w'→(do pure (.value (←s)):Sem Next).run P E.w=.ok (.value v) w':=fun s v w' hs=>by simp[hs]
 cases op<;>simp only[dstep] at h
 case move x =>
  have hx:=hev x;split at h
  ·cases h
  ·rename_i y hy;simp only[ok1,Option.some.injEq] at h;subst h;exact val _ rfl hx rfl rfl
 case assign x =>
  have hx:=hev x;split at h
  ·cases h
  ·rename_i y hy;simp only[ok1,Option.some.injEq] at h;subst h;exact val _ rfl hx rfl rfl
 case pick c x y =>
  obtain⟨v,h1,h2,h3,h4⟩:=Qw3 (P:=P) (hev c) (hev x) (hev y) h E.w;exact val v (by simpa[execOp] using h1) h2 h3 h4
 case alloc t =>
  cases ht:T.ty t with
  |none=>rw[ht] at h;cases h
  |some ti =>
   rw[ht] at h;simp only[Option.some.injEq] at h;subst h;obtain⟨E',h1,h2,h3⟩:=Qsn hT hH ht (nm:=nm) (by simpa using hnm 0 (by simp));exact Qbo (vl _ _ _ h1) (hn E' _ h2 h3)
 case box t x =>
  have hx:=hev x;split at h
  ·rename_i y hy;simp only[Option.some.injEq] at h;subst h;rw[hy] at hx;obtain⟨E',h1,h2,h3⟩:=QBq (P:=P) hH t (x:=y) hx (nm:=nm) (by simpa using hnm 0 (by simp));exact Qbo (vl _ _ _ h1) (hn E' _ h2 h3)
  ·cases h
 case build t ps =>
  obtain⟨v,h1,h2,h3,h4,_⟩:=Qst (E:=E) (vs:=ps.map fun(i,x)=>(i,a.eval x)) hT (by simpa using Qsx hev ps.toList) h;exact val v (vl _ _ _ h1) h2 h3 h4
 case buildSlice t n ps =>
  have hnew:r.add.length=1:=by
   unfold Qdl at h;split at h
   ·split at h
    ·split at h
     ·simp only[Option.some.injEq] at h;subst h;rfl
     ·split at h
      ·simp only[Option.some.injEq] at h;subst h;rfl
      ·cases h
    ·cases h
   ·unfold Qfi at h
    repeat' split at h
    all_goals first
     |(simp only[Option.some.injEq] at h;subst h;rfl)
     |cases h
  obtain⟨v,E',h1,h2,h3⟩:=QiF (vs:=ps.map fun(i,x)=>(i,a.eval x)) hT hH hl (by simpa using hnm 0 (by omega)) (by simpa using Qsx hev ps.toList) h;exact Qbo (vl _ _ _ h1) (hn E' _ h2 h3)
 case load t x =>
  obtain⟨v,h1,h2,h3,h4⟩:=Qoe hT hH hl (hev x) h hp;exact val v (vl _ _ _ h1) h2 h3 h4
 case store t x y =>
  obtain⟨E',h1,h2,h3⟩:=Qsm (nm:=nm) hT hH hl (hev x) (hev y) h hp;exact QmX (by simp[execOp,h1]) (hn E' _ h2 (by rw[h3];trivial))
 case nilCheck x =>
  have hx:=hev x;split at h
  ·rename_i b j hy;split at h
   ·rename_i cs hb;simp only[ok1,Option.some.injEq] at h;subst h;rw[hy] at hx;have hbx:=hl _ _ hb;have hx0:=hx;obtain⟨v,⟨e,_⟩,hU,hh⟩:=hx;injection e with e
    obtain⟨g,hr,hv⟩:=hh _ hbx;refine val (a.eval x) ?_ hx0 rfl rfl;rw[e,hv];simp only[execOp,e,hv,pt];rfl
   ·cases h
  ·rename_i f cs hy;simp only[ok1,Option.some.injEq] at h;subst h;rw[hy] at hx;have hx0:=hx;obtain⟨caps,e,_⟩:=hx;injection e with e
   refine val (a.eval x) ?_ hx0 rfl rfl;rw[e];simp only[execOp,e];rfl
  ·cases h
 case binOp op t x y ty =>
  cases hq:Qjz T look t op (ev x) (ev y) with
  |some r' =>
   rw[hq] at h;injection h with h
   subst h;obtain⟨v,h1,h2,h3,h4⟩:=Qqz (P:=P) hT hl (hev x) (hev y) hq x y E.w;exact val v (vl _ _ _ h1) h2 h3 h4
  |none =>
  rw[hq] at h;simp only at h;obtain⟨v,h1,h2,h3,h4⟩:=QBt (P:=P) hT hH (hev x) (hev y) h hp x y E.w;exact val v (vl _ _ _ h1) h2 h3 h4
 case unOp op t x =>
  obtain⟨v,h1,h2,h3,h4,_⟩:=QEh (P:=P) (hev x) h E.w;exact val v (vl _ _ _ h1) h2 h3 h4
 case convert s d x =>
  have hx:=hev x;split at h
  ·rename_i ts k n hs hd hy;simp only[ok1,Option.some.injEq] at h;subst h;rw[hy] at hx;obtain⟨e,_⟩:=hx;injection e with e
   have hd':=(hT.ty d _ hd).und;simp only[QW] at hd';obtain⟨ds,hds⟩:=Qou hT hs;exact val _ (vl _ _ _ (by rw[e];simp[convert,run_underlying hds,run_underlying hd',Conv.intToInt])) ⟨rfl,rfl⟩ rfl rfl
  ·rename_i ts t hs hd hy;simp only[ok1,Option.some.injEq] at h;subst h;rw[hy] at hx;obtain⟨e,_⟩:=hx;injection e with e
   have hd':=(hT.ty d _ hd).und;simp only[QW] at hd';obtain⟨ds,hds⟩:=Qou hT hs;exact val (.string t) (vl _ _ _ (by rw[e];simp[convert,run_underlying hds,run_underlying hd'])) ⟨rfl,rfl⟩ rfl rfl
  ·rename_i c hni hs hd hy;split at h
   ·rename_i he;split at h
    ·rename_i l hsl;simp only[ok1,Option.some.injEq] at h;subst h;rw[hy] at hx;have hd':=(hT.ty d _ hd).und;simp only[QW] at hd';have hs':=(hT.ty s _ hs).und;simp only[QW] at hs';have he':=(hT.ty _ _ he).und;simp only[QW] at he';have hsl:=QjG hH hl hsl hx;refine val _ (vl _ _ _ ?_) ⟨rfl,rfl⟩ rfl rfl;have hb:=Qsw (P:=P) (w:=E.w) hsl;obtain⟨ad,cap,e,_⟩:=hsl;rw[e] at hb ⊢;rw[run_convert_bytes_string E.w s d _ _ _ _ hs' he' hd',hb]
    ·cases h
   ·cases h
  ·rename_i t hs hd hy;split at h
   ·rename_i he;simp only[ok1,Option.some.injEq] at h;subst h;rw[hy] at hx;obtain⟨e,_⟩:=hx;injection e with e
    have hd':=(hT.ty d _ hd).und;simp only[QW] at hd';have hs':=(hT.ty s _ hs).und;simp only[QW] at hs';have he':=(hT.ty _ _ he).und;simp only[QW] at he';obtain⟨v,E',h1,h2,h3⟩:=Qlk (P:=P) (nm:=nm) hH t hs' hd' he';exact Qbo (vl _ _ _ (by rw[e];exact h1)) (hn E' _ h2 h3)
   ·cases h
  ·cases h
 case makeMap t rv =>
  cases rv with
  |some _=>cases h
  |none =>
   simp only at h;split at h
   ·rename_i ka kt vt hi;simp only[Option.some.injEq] at h;subst h;obtain⟨E',h1,h2,h3⟩:=Qm1 (P:=P) hH (t:=t) (ka:=ka) (kt:=kt) (vt:=vt) (nm:=nm) (by simpa using hnm 0 (by simp));exact Qbo (vl _ _ _ h1) (hn E' _ h2 h3)
   ·cases h
 case mapUpdate t m k x =>
  obtain⟨E',h1,h2,h3⟩:=Qi4 (nm:=nm) hT hH hl (hev m) (hev k) (hev x) h;exact QmX (by simp[execOp,h1]) (hn E' _ h2 (by rw[h3];trivial))
 case insert t m k x =>
  obtain⟨E',h1,h2,h3⟩:=Qi4 (nm:=nm) hT hH hl (hev m) (hev k) (hev x) h;exact QmX (by simp[execOp,h1]) (hn E' _ h2 (by rw[h3];trivial))
 case lookup t m k ok =>
  obtain⟨v,h1,h2,h3,h4⟩:=QqF hT hH hl (hev m) (hev k) h;exact val v (vl _ _ _ h1) h2 h3 h4
 case makeInterface t x =>
  have hx:=hev x;split at h
  ·rename_i et ht;cases hb:QiY (ev x) with
   |none=>rw[hb] at h;cases h
   |some b =>
    rw[hb] at h;simp only[ok1,Option.some.injEq] at h;subst h;rw[Qll hb] at hx;obtain⟨v,⟨e,h1⟩,hU,hh⟩:=hx;injection e with e
    have hu:=(hT.ty t _ ht).und;simp only[QW] at hu;refine val (.iface t (a.eval x)) (vl _ _ _ (by simp[Instr.makeInterface,run_underlying hu])) ⟨v,⟨by rw[e],h1⟩,hU,hh⟩ rfl rfl
  ·cases h
 case makeFunc f fs cs =>
  cases f with
  |func f =>
   simp only at h;split at h
   ·rename_i hz;have hz:=Nat.eq_of_beq_eq_true hz;have hfs:fs=#[]:=Array.eq_empty_of_size_eq_zero hz;subst hfs;cases hm:Qfa (fun x=>QiY (ev x)) cs.toList with
    |none=>rw[hm] at h;cases h
    |some bs =>
     rw[hm] at h;simp only[ok1,Option.some.injEq] at h;subst h;obtain⟨hlen,hget⟩:=QdT hm;refine val (.func (.func f) #[] (cs.map a.eval)) (by simp[execOp,Instr.makeFunc]) ⟨cs.map a.eval,rfl,by simpa using hlen.symm,fun i b hb=>?_⟩ rfl rfl;have hi:i<cs.toList.length:=by rw[←hlen];exact(List.getElem?_eq_some_iff.1 hb).1
     obtain⟨y,h1,h2⟩:=hget i cs.toList[i] (List.getElem?_eq_getElem hi);rw[hb] at h2;injection h2 with h2
     subst h2;have hx:=hev cs.toList[i];rw[Qll h1] at hx;obtain⟨v,⟨e,h3⟩,hU,hh⟩:=hx;injection e with e
     refine⟨v,?_,h3,hU,hh⟩;have hi':i<cs.size:=by simpa using hi
     simp at e;simp[hi',e]
   ·cases h
  |_=>cases h
 case makeSlice t l c =>
  have hnew:r.add.length=1:=by
   unfold Qec at h;split at h
   ·simp only[Option.some.injEq] at h;subst h;rfl
   ·cases h
  obtain⟨v,E',h1,h2,h3⟩:=QjI hT hH (by simpa using hnm 0 (by omega)) (hev l) (hev c) h hp;exact Qbo (vl _ _ _ h1) (hn E' _ h2 h3)
 case slice t x lo hi mx =>
  cases hq:cutA T look nm t (ev x) (lo.map ev) (hi.map ev) (mx.map ev) with
  |some r' =>
   rw[hq] at h;injection h with h
   subst h
   have hnew:r'.add.length=1:=by
    unfold cutA at hq;split at hq
    ·split at hq
     ·split at hq
      ·split at hq
       ·split at hq
        ·simp only[Option.some.injEq] at hq;subst hq;rfl
        ·cases hq
       ·cases hq
      ·cases hq
     ·cases hq
    ·cases hq
   obtain⟨v,E',h1,h2,h3⟩:=QBs hT hH hl (by simpa using hnm 0 (by omega)) (hev x) (Qf8 hev lo) (Qf8 hev hi) (Qf8 hev mx) hq hp;exact Qbo (vl _ _ _ h1) (hn E' _ h2 h3)
  |none =>
  rw[hq] at h;simp only at h;obtain⟨v,h1,h2,h3,h4⟩:=Qso hT hH hl (hev x) (Qf8 hev lo) (Qf8 hev hi) (Qf8 hev mx) h hp;exact val v (vl _ _ _ h1) h2 h3 h4
 case fieldAddr s x f =>
  obtain⟨v,h1,h2,h3,h4⟩:=QjL hT hl (hev x) h hp;exact val v (vl _ _ _ h1) h2 h3 h4
 case field t x f =>
  obtain⟨v,h1,h2,h3,h4,_⟩:=Qsp (P:=P) hT (hev x) h;exact val v (vl _ _ _ h1) h2 h3 h4
 case indexAddr t x i =>
  obtain⟨v,h1,h2,h3,h4⟩:=QjK hT hH hl (hev x) (hev i) h hp;exact val v (vl _ _ _ h1) h2 h3 h4
 case index t x i =>
  obtain⟨v,h1,h2,h3,h4⟩:=Qsq (P:=P) hT (hev x) (hev i) h hp;exact val v (vl _ _ _ h1) h2 h3 h4
 case extract t i =>
  have hx:=hev t;split at h
  ·rename_i l hy;cases hi:l[i]? with
   |none=>rw[hi] at h;cases h
   |some y =>
    rw[hi] at h;simp only[ok1,Option.some.injEq] at h;subst h;rw[hy] at hx;obtain⟨vs,e,hvs⟩:=hx;obtain⟨v,h1,h2⟩:=VsR.get hvs hi;refine val v (vl _ _ _ (by rw[e];simp[Instr.extract];rw[←Array.getElem?_toList,h1];rfl)) h2 rfl rfl
  ·cases h
 case call c =>
  obtain⟨callee,args,argTypes⟩:=c;cases callee with
  |builtin b =>
   simp only at h;have hargs:=QjO (E:=E) hev args.toList;unfold Qn7 at h;split at h
   ·
    rename_i x t tl hal htl;cases hn':QGU T look t x with
    |none=>rw[hn'] at h;cases h
    |some n =>
     rw[hn'] at h;simp only[ok1,Option.some.injEq] at h;subst h;rw[hal] at hargs;obtain⟨v,r',e,hx,hr'⟩:=hargs;simp only[QiG] at hr';subst hr';refine val (.int .i64 n) ?_ ⟨rfl,rfl⟩ rfl rfl;have hav:args.map a.eval=#[v]:=by apply Array.ext';simpa using e
     have ht0:argTypes[0]?=some t:=by rw[←Array.getElem?_toList,htl];rfl
     have hlen:=QBv (P:=P) hT hH hl hx hn' (ty:=type) ht0;simp[execOp,resolve,hav,invoke,builtin,hlen]
   ·rename_i hal htl;cases hm:QGV (args.toList.map ev) with
    |none=>rw[hm] at h;cases h
    |some v =>
     rw[hm] at h;simp only[ok1,Option.some.injEq] at h;subst h;obtain⟨v',h1,h2⟩:=Qw4 (P:=P) hargs hm E.w (tys:=argTypes) (ty:=type);refine val v' ?_ h2 rfl rfl;have hav:args.map a.eval=(args.toList.map a.eval).toArray:=by apply Array.ext';simp
     simp only[execOp,resolve,hav];simp[invoke,builtin,h1]
   ·rename_i hal htl;cases hm:QGW (args.toList.map ev) with
    |none=>rw[hm] at h;cases h
    |some v =>
     rw[hm] at h;simp only[ok1,Option.some.injEq] at h;subst h;obtain⟨v',h1,h2⟩:=Qw5 (P:=P) hargs hm E.w (tys:=argTypes) (ty:=type);refine val v' ?_ h2 rfl rfl;have hav:args.map a.eval=(args.toList.map a.eval).toArray:=by apply Array.ext';simp
     simp only[execOp,resolve,hav];simp[invoke,builtin,h1]
   ·
    rename_i s x t t' hal htl;rw[hal] at hargs;obtain⟨vs,r',e,hs,vx,r'',e',hx,hr''⟩:=hargs;simp only[QiG] at hr'';subst hr'' e';have hav:args.map a.eval=#[vs,vx]:=by apply Array.ext';simpa using e
    have hat:argTypes=#[t,t']:=by apply Array.ext';simpa using htl
    have hnew:r.add.length=1:=by
     unfold QjA at h;split at h
     ·split at h
      ·cases h
      ·split at h
       ·split at h
        ·simp only[Option.some.injEq] at h;subst h;rfl
        ·split at h
         ·split at h
          ·simp only[Option.some.injEq] at h;subst h;rfl
          ·cases h
         ·cases h
        ·cases h
       ·cases h
     ·cases h
    obtain⟨v,E',h1,h2,h3⟩:=Qqy (ty:=type) hT hH hl (by simpa using hnm 0 (by omega)) hs hx h hp;refine Qbo ?_ (hn E' _ h2 h3);simp[execOp,resolve,hav,hat,invoke,builtin,h1]
   ·
    rename_i s x t tl hal htl;rw[hal] at hargs;obtain⟨vs,r',e,hs,vx,r'',e',hx,hr''⟩:=hargs;simp only[QiG] at hr'';subst hr'' e';have hav:args.map a.eval=#[vs,vx]:=by apply Array.ext';simpa using e
    have ht0:argTypes[0]?=some t:=by rw[←Array.getElem?_toList,htl];rfl
    obtain⟨v,E',h1,h2,h3⟩:=QwX (ty:=type) (nm:=nm) hT hH hl hs hx ht0 h hp;refine Qbo ?_ (hn E' _ h2 h3);simp[execOp,resolve,hav,invoke,builtin,h1]
   ·cases h
  |value f =>
   simp only at h;have hf:=hev f;split at h
   ·rename_i g caps hy;rw[hy] at hf;obtain⟨cv,e,hcl,hcap⟩:=hf;injection e with e
    have hargs:QiG E (args.toList.map ev++caps.map fun b=>.cell (.ptr b 0)) (args.map a.eval++cv).toList:=by
     simpa using(QjO (E:=E) hev args.toList).append (Qot caps cv.toList (by simpa using hcl) (fun i b hb=>by simpa using hcap i b hb))
    obtain⟨hent,hcall⟩:=QgA hP hH hl hargs h hp hnm;unfold Oper.wp
    have hrun:(execOp a.eval ⟨dst,.call ⟨.value f,args,argTypes⟩,type,pos,after,guard⟩).run P E.w=.ok (.enter g (args.map a.eval++cv)) E.w:=by
     simp[execOp,resolve,e,Deferred.ofValue,invoke,QgB hent]
    rw[hrun];refine hcall.mono ?_
    rintro e' w' ⟨v,E',rfl,rfl,h2,h3⟩
    exact hn E' v h2 h3
   ·cases h
  |invoke rv name =>
   simp only at h;have hf:=hev rv;split at h
   ·rename_i t b hy;rw[hy] at hf;obtain⟨v,⟨e,h1⟩,hU,hh⟩:=hf;injection e with e
    cases hm:T.meth t name with
    |none=>rw[hm] at h;cases h
    |some g =>
     rw[hm] at h;simp only at h;have hmeth:=hT.meth t name g hm v E.w
     have hargs:QiG E (.cell (.ptr b 0)::args.toList.map ev) (#[v]++args.map a.eval).toList:=by
      refine⟨v,args.toList.map a.eval,by simp,⟨v,⟨rfl,h1⟩,hU,hh⟩,QjO hev args.toList⟩
     obtain⟨hent,hcall⟩:=QgA hP hH hl hargs h hp hnm;unfold Oper.wp
     have hrun:(execOp a.eval ⟨dst,.call ⟨.invoke rv name,args,argTypes⟩,type,pos,after,guard⟩).run P E.w=.ok (.enter g (#[v]++args.map a.eval)) E.w:=by
      have h0:(#[Value.iface t v]++args.map a.eval)[0]?=some (.iface t v):=by rw[←Array.getElem?_toList];simp
      have h2:(#[Value.iface t v]++args.map a.eval).extract 1 (#[Value.iface t v]++args.map a.eval).size=args.map a.eval:=by apply Array.ext';simp;exact List.take_of_length_le (by simp)
      simp only[execOp,resolve,e,Sem.run_bind,Sem.run_pure,Result.andThen_ok,invoke,h0,h2,callMethod];simp[hmeth,QgB hent]
     rw[hrun];refine hcall.mono ?_
     rintro e' w' ⟨v',E',rfl,rfl,h2,h3⟩
     exact hn E' v' h2 h3
   ·cases h
 all_goals cases h
end
end Go.Fw

