/- Part 8 of the proof. Conditions: none. -/
import Derived.Laws.Pointers
import Derived.Test.YtofgbclopbmlcaaGreatG7
import Derived.Laws.Small
namespace Go.Fw
set_option linter.unusedVariables false
set_option linter.unusedSimpArgs false
section
variable {P:Program} {T:Tab}
theorem QBt{E:Env}(hT:TabOk P T)(hH:HeapOk E){op:BinOp}{a b:AV}{va vb:Value}{r:Res}{t:TypeId}(ha:AVR E a va)(hb:AVR E b vb)(h:QHB T t op a b=some r)(hp:∀p,r.pre=some p→p)(x y:Operand)(w:World) :
 ∃v,(do eqGuard op t x y va vb;binOp op t va vb:Sem Value).run P w=.ok v w∧AVR E r.val v∧r.add=[]∧r.set=[]:=by
 unfold QHB at h;split at h
 ·rename_i k m k' n;obtain⟨e,_⟩:=ha;injection e with e
  subst e;obtain⟨e,_⟩:=hb;injection e with e
  subst e;have hg:∀op,eqGuard op t x y (.int k m) (.int k' n)=pure ():=fun op=>eqGuard_at_int ..
  split at h
  ·simp only[okP,Option.some.injEq] at h;subst h;have h0:=hp _ rfl;refine⟨_,?_,⟨rfl,rfl⟩,rfl,rfl⟩;have hn:¬n<0:=by omega
   simp[hg,binOp,Op.shift,hn];rfl
  ·simp only[okP,Option.some.injEq] at h;subst h;have h0:=hp _ rfl;refine⟨_,?_,⟨rfl,rfl⟩,rfl,rfl⟩;have hn:¬n<0:=by omega
   simp[hg,binOp,Op.shift,hn];rfl
  ·rename_i h1 h2;split at h
   ·rename_i hk;have hkk:k=k':=of_decide_eq_true hk;subst hkk;unfold QEb at h
    cases op<;>simp only at h<;>first
     |(simp only[ok1,Option.some.injEq] at h;subst h;refine⟨_,?_,⟨rfl,rfl⟩,rfl,rfl⟩;simp[hg,binOp,Op.intArith,Op.intCmp];done)
     |(simp only[ok1,Option.some.injEq] at h;subst h;refine⟨_,?_,⟨rfl,rfl⟩,rfl,rfl⟩;simp[hg,binOp];rfl)
     |(simp only[okP,Option.some.injEq] at h;subst h;have h0:=hp _ rfl;refine⟨_,?_,⟨rfl,rfl⟩,rfl,rfl⟩;simp[hg,binOp,Op.intDiv,h0];done)
     |(cases h;done)
   ·cases h
 ·rename_i s u;obtain⟨e,_⟩:=ha;injection e with e
  subst e;obtain⟨e,_⟩:=hb;injection e with e
  subst e;have hg:∀op,eqGuard op t x y (.string s) (.string u)=pure ():=fun op=>eqGuard_at_string ..
  split at h
  ·simp only[ok1,Option.some.injEq] at h;subst h;exact⟨_,by simp[hg,binOp,Op.stringOp];rfl,⟨rfl,rfl⟩,rfl,rfl⟩
  ·simp only[ok1,Option.some.injEq] at h;subst h;exact⟨_,by simp[hg,binOp,Op.stringOp];rfl,⟨rfl,rfl⟩,rfl,rfl⟩
  ·simp only[Option.some.injEq] at h;subst h;have h0:=hp _ rfl;refine⟨_,?_,⟨rfl,rfl⟩,rfl,rfl⟩
   have hn:¬((s.size:Int)+(u.size:Int)>IntKind.i64.max):=by
    have:IntKind.i64.max=9223372036854775807:=by decide
    rw[this];omega
   have hn':¬((s.size+u.size:Nat):Int)>IntKind.i64.max:=by simpa using hn
   simp only[hg,binOp,Op.stringOp,if_neg hn'];rfl
  ·cases h
 ·rename_i s u;obtain⟨e,_⟩:=ha;injection e with e
  subst e;obtain⟨e,_⟩:=hb;injection e with e
  subst e;have hg:∀op,eqGuard op t x y (.bool s) (.bool u)=pure ():=fun op=>eqGuard_at_bool ..
  split at h
  ·rename_i ht;have hu:=(hT.ty t _ ht).und;simp only[QW] at hu;have heq:=fun w=>run_equal_bool (P:=P) (w:=w) t s u hu
   split at h
   ·simp only[ok1,Option.some.injEq] at h;subst h;exact⟨_,by simp[hg,binOp,heq],⟨rfl,rfl⟩,rfl,rfl⟩
   ·simp only[ok1,Option.some.injEq] at h;subst h;exact⟨_,by simp[hg,binOp,heq],⟨rfl,rfl⟩,rfl,rfl⟩
   ·cases h
  ·cases h
 ·rename_i cx cy;obtain⟨xs,rfl,hx⟩:=ha;obtain⟨ys,rfl,hy⟩:=hb;split at h
  ·rename_i ti hti;split at h
   ·rename_i u hc hu;split at h
    ·rename_i dx ux dy uy hdx hdy;have hok:=(hT.ty t _ hti).cmp hc;rw[hu] at hok;simp only[QwS,Bool.and_eq_true,Bool.not_eq_true'] at hok;obtain⟨⟨⟨k1,k2⟩,k3⟩,k4⟩:=hok;have rx:=QbF hH (fun b x hx=>by cases hx) hdx hx;have ry:=QbF hH (fun b x hx=>by cases hx) hdy hy;have rx':CR E.w (fun _=>True) u dx xs.toList:=rx.mono fun g _=>⟨trivial,rfl⟩
     have ry':CR E.w (fun _=>True) u dy ys.toList:=ry.mono fun g _=>⟨trivial,rfl⟩
     have heq:=fun w=>Qss 30 30 u t k3 k2 10000 (by omega) w E.w _ (.agg xs) (.agg ys) xs.toList ys.toList dx dy (.inl ⟨by simp,k1⟩) (.inl ⟨by simp,k1⟩) rx' ry'
     have hg:=fun op w=>run_eqGuard_agg (P:=P) w op t x y xs ys k4
     split at h
     ·simp only[ok1,Option.some.injEq] at h;subst h;exact⟨_,by simp only[Sem.run_bind,hg,Result.andThen_ok,run_eql_struct,heq],⟨rfl,rfl⟩,rfl,rfl⟩
     ·simp only[ok1,Option.some.injEq] at h;subst h;exact⟨_,by simp only[Sem.run_bind,hg,Result.andThen_ok,run_neq_struct,heq],⟨rfl,rfl⟩,rfl,rfl⟩
     ·cases h
    ·cases h
   ·cases h
  ·cases h
 ·cases h
theorem QEh{E:Env}{op:UnOp}{a:AV}{va:Value}{r:Res}(ha:AVR E a va)(h:unA op a=some r)(w:World) :
 ∃v,(Op.unary op va).run P w=.ok v w∧AVR E r.val v∧r.add=[]∧r.set=[]∧r.pre=none:=by
 unfold unA at h;split at h
 ·simp only[ok1,Option.some.injEq] at h;subst h;obtain⟨e,_⟩:=ha;injection e with e
  subst e;exact⟨_,by simp[Op.unary,Op.intArith],⟨rfl,rfl⟩,rfl,rfl,rfl⟩
 ·simp only[ok1,Option.some.injEq] at h;subst h;obtain⟨e,_⟩:=ha;injection e with e
  subst e;exact⟨_,by simp[Op.unary,Op.intBits];rfl,⟨rfl,rfl⟩,rfl,rfl,rfl⟩
 ·simp only[ok1,Option.some.injEq] at h;subst h;obtain⟨e,_⟩:=ha;injection e with e
  subst e;exact⟨_,by simp[Op.unary],⟨rfl,rfl⟩,rfl,rfl,rfl⟩
 ·cases h
def QiG(E:Env):List AV→List Value→Prop
 | [],vs=>vs=[]
 |x::xs,vs=>∃v r,vs=v::r∧AVR E x v∧QiG E xs r
theorem Qi1{E:Env}{a:AV}{v:Value}{y:Int}(h:QiW a=some y)(ha:AVR E a v):∃k,v=.int k y:=by
 unfold QiW at h;split at h
 ·injection h with h
  subst h;obtain⟨e,_⟩:=ha;injection e with e
  exact⟨_,e⟩
 ·cases h
theorem Qoi{E:Env}{k:IntKind}:∀{xs:List AV} {vs:List Value} {x:Int} {r:AV},QiG E xs vs→QEc k x xs=some r→∀w,∃v,(vs.foldlM Builtin.max2 (.int k x)).run P w=.ok v w∧AVR E r v
 | [],_,x,r,hv,h,w=>by
   simp only[QiG] at hv;subst hv;simp only[QEc,Option.some.injEq] at h;subst h;exact⟨_,by simp,⟨rfl,rfl⟩⟩
 |a::xs,_,x,r,⟨v,vs,e,ha,hv⟩,h,w=>by
  subst e;unfold QEc at h;cases hi:QiW a with
  |none=>rw[hi] at h;cases h
  |some y =>
   rw[hi] at h;obtain⟨k',rfl⟩:=Qi1 hi ha;obtain⟨v',h3,h4⟩:=Qoi hv h w;unfold imax at h3;exact⟨v',by simpa[Builtin.max2] using h3,h4⟩
theorem Qoj{E:Env}{k:IntKind}:∀{xs:List AV} {vs:List Value} {x:Int} {r:AV},QiG E xs vs→QEd k x xs=some r→∀w,∃v,(vs.foldlM Builtin.min2 (.int k x)).run P w=.ok v w∧AVR E r v
 | [],_,x,r,hv,h,w=>by
   simp only[QiG] at hv;subst hv;simp only[QEd,Option.some.injEq] at h;subst h;exact⟨_,by simp,⟨rfl,rfl⟩⟩
 |a::xs,_,x,r,⟨v,vs,e,ha,hv⟩,h,w=>by
  subst e;unfold QEd at h;cases hi:QiW a with
  |none=>rw[hi] at h;cases h
  |some y =>
   rw[hi] at h;obtain⟨k',rfl⟩:=Qi1 hi ha;obtain⟨v',h3,h4⟩:=Qoj hv h w;unfold imin at h3;exact⟨v',by simpa[Builtin.min2] using h3,h4⟩
theorem Qqz{E:Env}{look:Nat→Option Blk}(hT:TabOk P T)(hl:∀b x,look b=some x→E.H b=some x){op:BinOp}{a b:AV}{va vb:Value}{r:Res}{t:TypeId}(ha:AVR E a va)(hb:AVR E b vb)(h:Qjz T look t op a b=some r)(x y:Operand)(w:World) :
 ∃v,(do eqGuard op t x y va vb;binOp op t va vb:Sem Value).run P w=.ok v w∧AVR E r.val v∧r.add=[]∧r.set=[]:=by
 unfold Qjz at h;split at h
 ·split at h
  ·rename_i e _ _ _ _ _ ht;have hu:=(hT.ty t _ ht).und;simp only[QW] at hu
   have hu:P.underlying t=some (.pointer (P.pointee t)):=by
    have:P.pointee t=e:=by simp[Program.pointee,hu]
    rw[this];exact hu
   obtain⟨e1,_⟩:=hb;injection e1 with e1
   subst e1;split at h
   ·obtain⟨e2,_⟩:=ha;injection e2 with e2
    subst e2;split at h
    ·simp only[ok1,Option.some.injEq] at h;subst h;exact⟨_,by simp[eqGuard_at_pointer,run_eql_pointer_nil w t none hu],⟨rfl,rfl⟩,rfl,rfl⟩
    ·simp only[ok1,Option.some.injEq] at h;subst h;exact⟨_,by simp[eqGuard_at_pointer,run_neq_pointer_nil w t none hu],⟨rfl,rfl⟩,rfl,rfl⟩
    ·cases h
   ·split at h
    ·rename_i hbx;obtain⟨v,⟨e2,_⟩,hU,hh⟩:=ha;injection e2 with e2
     obtain⟨g,hr,hv⟩:=hh _ (hl _ _ hbx);subst e2 hv;split at h
     ·simp only[ok1,Option.some.injEq] at h;subst h;exact⟨_,by simp[pt,eqGuard_at_pointer,run_eql_pointer_nil w t _ hu],⟨rfl,rfl⟩,rfl,rfl⟩
     ·simp only[ok1,Option.some.injEq] at h;subst h;exact⟨_,by simp[pt,eqGuard_at_pointer,run_neq_pointer_nil w t _ hu],⟨rfl,rfl⟩,rfl,rfl⟩
     ·cases h
    ·cases h
   ·cases h
  ·cases h
 ·cases h
end
section
variable {P:Program} {T:Tab}
theorem Qlc:∀(l:List Field),(∀f∈l,∃i,P.info? f.type=some i)→∃pl,l.mapM (fun f=>(P.info? f.type).map fun i=>(f.offset,i.size))=some pl ∧
 ∀(i:Nat) f,l[i]?=some f→∃inf,P.info? f.type=some inf∧pl[i]?=some (f.offset,inf.size)
 | [],_=>⟨[],rfl,fun i f h=>by simp at h⟩
 |f::l,h=>by
  obtain⟨inf,hi⟩:=h f (by simp);obtain⟨pl,h1,h2⟩:=Qlc l fun g hg=>h g (by simp[hg])
  refine⟨(f.offset,inf.size)::pl,by simp[hi,h1],fun i g hg=>?_⟩;cases i with
  |zero=>simp at hg;subst hg;exact⟨inf,hi,rfl⟩
  |succ i=>exact h2 i g (by simpa using hg)
theorem Qld{E:Env}(hT:TabOk P T){fs:List (TypeId×Nat)}{place:Nat→Option (Nat×Nat)}(hpl:∀i u o ti,fs[i]?=some (u,o)→T.ty u=some ti→place i=some (o,ti.size)) :
 ∀{ps:List (Nat×AV)} {vs:List (Nat×Value)} {cs0 cs:List Cell} {cur:Array Value},PsR E ps vs→IR E cs0 cur.toList→Qk4 T fs ps cs0=some cs→∃arr,Instr.fill place cur vs=some arr∧IR E cs arr.toList
 | [],_,cs0,cs,cur,hr,hi,h=>by
   simp only[PsR] at hr;subst hr;simp only[Qk4,Option.some.injEq] at h;subst h;exact⟨cur,rfl,hi⟩
 |(j,x)::ps,_,cs0,cs,cur,⟨v,r,e,hx,hr⟩,hi,h=>by
  subst e;cases x with
  |dead=>simp[Qk4] at h
  |tup _=>simp[Qk4] at h
  |one x =>
   unfold Qk4 at h;cases hfj:fs[j]? with
   |none=>rw[hfj] at h;cases h
   |some uo =>
    obtain⟨u,o⟩:=uo;rw[hfj] at h;simp only at h;cases hti:T.ty u with
    |none=>rw[hti] at h;cases h
    |some ti =>
     rw[hti] at h;simp only at h;split at h
     ·rename_i hc;rw[Bool.and_eq_true] at hc;have hvr:=V1R.cells hx
      have hsz1:sizes x.items=ti.size:=by
       have:=Nat.eq_of_beq_eq_true hc.1;rwa[QeR,Nat.zero_add] at this
      have hpos:0<sizes x.items:=by
       have:=Nat.le_of_ble_eq_true hc.2;omega
      have hvl:v.cells.size=ti.size:=by rw[←hsz1,←hvr.len];simp
      cases hs:Qbn cs0 o x.items with
      |none=>rw[hs] at h;cases h
      |some cs1 =>
       rw[hs] at h;simp only at h;have hj:=QeS hvr hi hs hpos;obtain⟨p,q,s,e,hp1,hq,hir,_⟩:=QcD hvr hi hs hj;have hq':q.length=v.cells.size:=by simpa using hq
       have hlen:cur.size=p.length+q.length+s.length:=by
        have:=congrArg List.length e;simpa[Nat.add_assoc] using this
       have hput:=QjJ v.cells.toList 0 o cur (by simp;omega)
       have hz:v.cells.zipIdx.foldl (fun cs (x:Value×Nat)=>cs.setIfInBounds (o+x.2) x.1) cur=((v.cells.toList.zipIdx 0).foldl (fun cs (x:Value×Nat)=>cs.setIfInBounds (o+x.2) x.1) cur):=by
        rw[←Array.foldl_toList];simp
       have hnew:((v.cells.toList.zipIdx 0).foldl (fun cs (x:Value×Nat)=>cs.setIfInBounds (o+x.2) x.1) cur).toList=p++v.cells.toList++s:=by
        rw[hput,e,Nat.add_zero,←hp1];exact Qdo p q s v.cells.toList (by simpa using hq'.symm)
       obtain⟨arr,h1,h2⟩:=Qld hT hpl hr (by rw[hnew];exact hir) h;refine⟨arr,?_,h2⟩;simp only[Instr.fill,hpl j u o ti hfj hti];rw[if_neg (by simp[hvl];omega),hz];exact h1
     ·cases h
theorem QqA{E:Env}{a:AV}{v:Value}{k:IntKind}{y:Int}(h:Qn5 a=some (k,y))(ha:AVR E a v):v=.int k y:=by
 unfold Qn5 at h;split at h
 ·simp only[Option.some.injEq,Prod.mk.injEq] at h;obtain⟨rfl,rfl⟩:=h;obtain⟨e,_⟩:=ha;injection e with e
 ·cases h
theorem Qhj{E:Env}{k:IntKind}{n:Nat}:∀{ps:List (Nat×AV)} {vs:List (Nat×Value)} {l l':List Int} {cur:Array Value},PsR E ps vs→l.length=n→cur.toList=l.map (.int k)→Qf3 k n ps l=some l' →
 ∃arr,Instr.fill (fun i=>some (i*1,1)) cur vs=some arr∧l'.length=n∧arr.toList=l'.map (.int k)
 | [],_,l,l',cur,hr,hl,hc,h=>by
   simp only[PsR] at hr;subst hr;simp only[Qf3,Option.some.injEq] at h;subst h;exact⟨cur,rfl,hl,hc⟩
 |(j,x)::ps,_,l,l',cur,⟨v,r,e,hx,hr⟩,hl,hc,h=>by
  subst e;unfold Qf3 at h;cases hi:Qn5 x with
  |none=>rw[hi] at h;cases h
  |some ky =>
   obtain⟨k',y⟩:=ky;rw[hi] at h;simp only at h;split at h
   ·rename_i hcnd;rw[Bool.and_eq_true] at hcnd;have hk:k'=k:=of_decide_eq_true hcnd.1;have hj:j<n:=Nat.le_of_ble_eq_true hcnd.2;subst hk;have hv:=QqA hi hx;subst hv
    have hcs:cur.size=n:=by
     have:=congrArg List.length hc;simpa[hl] using this
    obtain⟨arr,h1,h2,h3⟩:=Qhj (cur:=cur.setIfInBounds j (.int k' y)) hr (l:=l.set j y) (by simpa using hl) (by simp[hc,List.map_set]) h;refine⟨arr,?_,h2,h3⟩;simp only[Instr.fill];rw[if_neg (by simp[Value.cells];omega)];simpa[Value.cells] using h1
   ·cases h
theorem Qst{E:Env}(hT:TabOk P T){t:TypeId}{ps:List (Nat×AV)}{vs:Array (Nat×Value)}{r:Res}(hr:PsR E ps vs.toList)(h:Qse T t ps=some r) :
 ∃v,(Instr.build t vs).run P E.w=.ok v E.w∧AVR E r.val v∧r.add=[]∧r.set=[]∧r.pre=none:=by
 unfold Qse at h;split at h
 ·rename_i fs sz by_ z ety cmp ht;have hok:=hT.ty t _ ht;have hu:=hok.und;simp only[QW] at hu;obtain⟨F,hF,hfs,hinf⟩:=hu;obtain⟨it,zv,h1,h2,h3,h4,h5,h6,_⟩:=hok.inf;cases hfl:Qk4 T fs ps z with
  |none=>rw[hfl] at h;cases h
  |some cs =>
   rw[hfl] at h;simp only[ok1,Option.some.injEq] at h;subst h;obtain⟨pl,hpl1,hpl2⟩:=Qlc (P:=P) F.toList (fun f hf=>hinf f (by simpa using hf))
   obtain⟨arr,ha,hir⟩:=Qld (E:=E) (place:=fun x=>pl[x]?) hT (fun i u o ti hfo hti=>by
    obtain⟨f,g1,g2,g3⟩:=hfs i u o hfo;obtain⟨inf,g4,g5⟩:=hpl2 i f (by simpa using g1);obtain⟨i',z',k1,k2,_⟩:=(hT.ty u ti hti).inf;rw[g2] at g4;rw[g4] at k1;injection k1 with k1
    subst k1
    simp[g5,g3,k2]) hr (h5 E) hfl
   refine⟨.agg arr,run_build E.w t vs arr ?_,⟨arr,rfl,hir⟩,rfl,rfl,rfl⟩;simp[Program.built,h1,hF,h4,hpl1];exact ha
 ·rename_i m e sz by_ k n l ety cmp ht;have hok:=hT.ty t _ ht;have hu:=hok.und;simp only[QW] at hu;obtain⟨it,zv,h1,h2,h3,h4,h5,h6,_⟩:=hok.inf;cases hti:T.ty e with
  |none=>rw[hti] at h;cases h
  |some ti =>
   rw[hti] at h;simp only at h;split at h
   ·rename_i hs;have hs1:=Nat.eq_of_beq_eq_true hs;cases hfl:Qf3 k n ps l with
    |none=>rw[hfl] at h;cases h
    |some l' =>
     rw[hfl] at h;simp only[ok1,Option.some.injEq] at h;subst h;obtain⟨ie,ze,k1,k2,_⟩:=(hT.ty e ti hti).inf;obtain⟨a,b,e1,⟨hln,e2⟩,e3⟩:=h5 E;simp only[IR] at e3;subst e3;obtain⟨arr,ha,hl',hal⟩:=Qhj (k:=k) (n:=n) (cur:=zv.cells) hr hln (by rw[e1,e2];simp) hfl;refine⟨.agg arr,run_build E.w t vs arr ?_,⟨arr,rfl,_,[],by rw[hal];simp,⟨hl',rfl⟩,rfl⟩,rfl,rfl,rfl⟩;simp[Program.built,h1,hu,h4,k1,k2.trans hs1];simpa using ha
   ·cases h
 ·cases h
end
section
variable {P:Program} {T:Tab}
def Qhk(E:Env):Frame:={ w0:=E.w,own0:=fun g=>∃b x,E.H b=some x∧E.ρ b=some g,S0:=E.S }
theorem Qi2{E:Env}:FrameOk (Qhk E) E :=
 ⟨rfl,rfl,rfl,Nat.le_refl _,fun _ _ _=>rfl,fun b x g hx hr=>.inr ⟨b,x,hx,hr⟩,fun g hg=>.inl hg⟩
structure Back(E0:Env)(m:Nat)(r:AV)(upd:List (Option Blk))(fresh:List Blk)(v:Value)(E':Env):Prop where
 val:AVR E' r v
 ok:HeapOk E'
 H:∀b,E'.H b=if b<m then (upd[b]?).getD none else fresh[b-m]?
 U:∀b,E'.U b↔b<m+fresh.length
 ext:Ext E0 E'
 fr:FrameOk (Qhk E0) E'
def CSound(P:Program)(f:FuncId)(s:CSpec):Prop :=
 ∀(E0:Env) (vs:Array Value) (args:List V1) (bl:List Blk) (p:Option Prop) (r:AV) (upd:List (Option Blk)) (fresh:List Blk),
   (∀b,E0.H b=bl[b]?)→(∀b,E0.U b↔b<bl.length)→HeapOk E0→VsR E0 args vs.toList→s.run args bl=some (p,r,upd,fresh)→(∀q,p=some q→q) →
   Calls P f vs E0.w fun e w'=>∃v E',e=.returned v∧E'.w=w'∧Back E0 bl.length r upd fresh v E'
def Enters(P:Program)(f:FuncId):Prop:=∃fn,P.funcs[f]?=some fn∧(fn.name == "runtime.NumGoroutine")=false∧fn.body.isSome=true
def Q9(P:Program)(T:Tab):Prop:=∀f s,T.fn f=some s→CSound P f s∧Enters P f
theorem QcE(f:Nat→Nat)(b:Blk):shape (b.rn f)=shape b:=by
 cases b with
 |arr _ _=>rfl
 |var cs =>
  simp only[Blk.rn,shape,List.map_map];congr 1;apply List.map_congr_left;intro c _;cases c<;>rfl
 |mp _ _ _ _=>rfl
theorem QaK.rn{E E':Env}{f:Nat→Nat}(hw:E'.w=E.w) :
 {c:Cell}→{vs:List Value}→((∀g,E.S g→E'.S g)∨c.isRo=false)→(∀i∈c.names,E.U i→E'.U (f i)∧∀x,E'.H (f i)=some x→∃x',E.H i=some x'∧shape x=shape x'∧E'.ρ (f i)=E.ρ i)→QaK E c vs→QaK E' (c.rn f) vs
 |.imm _,_,_,_,hc=>hc
 |.run _ _ _,_,_,_,hc=>hc
 |.ro t l,_,hS0,_,⟨v,e,hs⟩=>have hS:=hS0.resolve_right (by simp[Cell.isRo]);⟨v,e,hs.mono (fun g hg=>⟨hS g hg,by rw[hw]⟩) fun _ _ hx=>hx.mono fun g hg=>⟨hS g hg,by rw[hw]⟩⟩
 |.rptr t l i j,_,hS0,_,⟨hi,ad,us,e,hs,hl,hc⟩=>have hS:=hS0.resolve_right (by simp[Cell.isRo]);⟨hi,ad,us,e,hS _ hs,hl.mono fun _ _ hx=>hx.mono fun g hg=>⟨hS g hg,by rw[hw]⟩,fun k u hu=>by rw[hw];exact hc k u hu⟩
 |.own b,_,_,h0,⟨v,e,hu,hh⟩=>by
  have h:=h0 b (by simp[Cell.names]);refine⟨v,e,(h hu).1,fun t l hb=>?_⟩;obtain⟨x',hx,hsh,hr⟩:=(h hu).2 _ hb;obtain⟨l',rfl,hl⟩:=QcZ hsh;rcases hh t l' hx with⟨h1,h2⟩|⟨g,cs,el,cap,h1,h2,h3,h4,h5⟩
  ·exact .inl ⟨hr.trans h1,h2⟩
  ·exact .inr ⟨g,cs,el,cap,hr.trans h1,by rw[hw];exact h2,by rw[h3,hl],by omega,h5⟩
 |.sub b off len,_,_,h0,⟨v,e,hu,hh⟩=>by
  have h:=h0 b (by simp[Cell.names]);refine⟨v,e,(h hu).1,fun t l hb=>?_⟩;obtain⟨x',hx,hsh,hr⟩:=(h hu).2 _ hb;obtain⟨l',rfl,hl⟩:=QcZ hsh;obtain⟨h0,h1⟩:=hh t l' hx;refine⟨by omega,?_⟩;rcases h1 with⟨h1,h2,h3⟩|⟨g,ad,cap,h1,h2⟩
  ·exact .inl ⟨hr.trans h1,h2,h3⟩
  ·exact .inr ⟨g,ad,cap,hr.trans h1,h2⟩
 |.srun b j,_,_,h0,⟨v,e,hu,hh⟩=>by
  have h:=h0 b (by simp[Cell.names]);refine⟨v,e,(h hu).1,fun cs c hb hi=>?_⟩;obtain⟨x',hx,hsh,hr⟩:=(h hu).2 _ hb;obtain⟨cs',rfl,hm⟩:=QaL hsh;obtain⟨c',hc',hs'⟩:=QeQ hm hi;obtain⟨g,cap,h1,h2,h3⟩:=hh cs' c' hx hc';exact⟨g,cap,hr.trans h1,by rw[h2,hs'],by omega⟩
 |.svar b j n,_,_,h0,⟨v,e,hu,hh⟩=>by
  have h:=h0 b (by simp[Cell.names]);refine⟨v,e,(h hu).1,fun cs hb=>?_⟩;obtain⟨x',hx,hsh,hr⟩:=(h hu).2 _ hb;obtain⟨cs',rfl,hm⟩:=QaL hsh;obtain⟨g,cap,h1,h2,h3⟩:=hh cs' hx;exact⟨g,cap,hr.trans h1,h2,h3⟩
 |.ptr b j,_,_,h0,⟨v,e,hu,hh⟩=>by
  have h:=h0 b (by simp[Cell.names]);refine⟨v,e,(h hu).1,fun cs hb=>?_⟩;obtain⟨x',hx,hsh,hr⟩:=(h hu).2 _ hb;obtain⟨cs',rfl,hm⟩:=QaL hsh;obtain⟨g,h1,h2⟩:=hh cs' hx;exact⟨g,hr.trans h1,h2⟩
 |.pel b i j,_,_,h0,⟨v,e,hu,hh⟩=>by
  have h:=h0 b (by simp[Cell.names]);refine⟨v,e,(h hu).1,fun t l hb hi=>?_⟩;obtain⟨x',hx,hsh,hr⟩:=(h hu).2 _ hb;obtain⟨l',rfl,hl⟩:=QcZ hsh;obtain⟨g,h1,h2⟩:=hh t l' hx (by omega);exact⟨g,hr.trans h1,h2⟩
 |.pidx b j i,_,_,h0,⟨v,e,hu,hh⟩=>by
  have h:=h0 b (by simp[Cell.names]);refine⟨v,e,(h hu).1,fun cs hb=>?_⟩;obtain⟨x',hx,hsh,hr⟩:=(h hu).2 _ hb;obtain⟨cs',rfl,hm⟩:=QaL hsh;obtain⟨g,h1,h2⟩:=hh cs' hx;exact⟨g,hr.trans h1,h2⟩
 |.fn g bs,_,_,h0,⟨caps,e,hs,hh⟩=>by
  refine⟨caps,e,by simpa using hs,fun i b hb=>?_⟩;rw[List.getElem?_map] at hb;cases hbi:bs[i]? with
  |none=>rw[hbi] at hb;cases hb
  |some b0 =>
   rw[hbi] at hb;injection hb with hb
   subst hb;obtain⟨u,hu1,hu2,h1,h2⟩:=hh i b0 hbi;have h:=h0 b0 (by simp only[Cell.names];exact List.mem_of_getElem? hbi);refine⟨u,hu1,hu2,(h h1).1,fun cs hx'=>?_⟩;obtain⟨x',hx,hsh,hr⟩:=(h h1).2 _ hx';obtain⟨cs',rfl,hm⟩:=QaL hsh;obtain⟨g,h3,h4⟩:=h2 cs' hx;exact⟨g,hr.trans h3,h4⟩
 |.ifc t b,_,_,h0,⟨v,e,hu,hh⟩=>by
  have h:=h0 b (by simp[Cell.names]);refine⟨v,e,(h hu).1,fun cs hb=>?_⟩;obtain⟨x',hx,hsh,hr⟩:=(h hu).2 _ hb;obtain⟨cs',rfl,hm⟩:=QaL hsh;obtain⟨g,h1,h2⟩:=hh cs' hx;exact⟨g,hr.trans h1,h2⟩
 |.map b,_,_,h0,⟨v,e,hu,hh⟩=>by
  have h:=h0 b (by simp[Cell.names]);refine⟨v,e,(h hu).1,fun ka kt vt l hb=>?_⟩;obtain⟨x',hx,hsh,hr⟩:=(h hu).2 _ hb;obtain⟨l',rfl⟩:=Qod hsh;obtain⟨g,h1,h2⟩:=hh ka kt vt l' hx;exact⟨g,hr.trans h1,h2⟩
def QwY(E E':Env)(f:Nat→Nat)(i:Nat):Prop :=
 E.U i→E'.U (f i)∧∀x,E'.H (f i)=some x→∃x',E.H i=some x'∧shape x=shape x'∧E'.ρ (f i)=E.ρ i
theorem IR.rn{E E':Env}{f:Nat→Nat}(hw:E'.w=E.w):∀{cs:List Cell} {vs:List Value},((∀g,E.S g→E'.S g)∨cs.any Cell.isRo=false)→(∀i∈cs.flatMap (·.names),QwY E E' f i)→IR E cs vs→IR E' (cs.map (·.rn f)) vs
 | [],_,_,_,hc=>hc
 |c::cs,_,hS,h,⟨r,s,e,h1,h2⟩=>⟨r,s,e,h1.rn hw (hS.imp id fun e=>by simp at e;exact e.1) (fun i hi=>h i (by simp[hi])),h2.rn hw (hS.imp id fun e=>by simp at e ⊢;exact e.2) (fun i hi=>h i (by simp at hi ⊢;exact .inr hi))⟩
theorem V1R.rn{E E':Env}{f:Nat→Nat}(hw:E'.w=E.w):{x:V1}→{v:Value}→((∀g,E.S g→E'.S g)∨x.hasRo=false)→(∀i∈x.names,QwY E E' f i)→V1R E x v→V1R E' (x.rn f) v
 |.c _,_,hS,h,hc=>QaK.rn hw hS h hc
 |.agg _,_,hS,h,⟨vals,e,hc⟩=>⟨vals,e,hc.rn hw hS h⟩
theorem VsR.rn{E E':Env}{f:Nat→Nat}(hw:E'.w=E.w):∀{xs:List V1} {vs:List Value},((∀g,E.S g→E'.S g)∨xs.any (·.hasRo)=false)→(∀i∈xs.flatMap (·.names),QwY E E' f i)→VsR E xs vs→VsR E' (xs.map (·.rn f)) vs
 | [],_,_,_,hc=>hc
 |_::_,_,hS,h,⟨v,r,e,h1,h2⟩=>⟨v,r,e,h1.rn hw (hS.imp id fun e=>by simp at e;exact e.1) (fun i hi=>h i (by simp[hi])),h2.rn hw (hS.imp id fun e=>by simp at e ⊢;exact e.2) (fun i hi=>h i (by simp at hi ⊢;exact .inr hi))⟩
def AV.names:AV→List Nat
 |.dead=>[]
 |.one v=>v.names
 |.tup l=>l.flatMap (·.names)
theorem AVR.rn{E E':Env}{f:Nat→Nat}(hw:E'.w=E.w):{x:AV}→{v:Value}→((∀g,E.S g→E'.S g)∨x.hasRo=false)→(∀i∈x.names,QwY E E' f i)→AVR E x v→AVR E' (x.rn f) v
 |.dead,_,_,_,_=>trivial
 |.one _,_,hS,h,hc=>V1R.rn hw hS h hc
 |.tup _,_,hS,h,⟨vs,e,hc⟩=>⟨vs,e,hc.rn hw hS h⟩
theorem Qoc.rn{E E':Env}{f:Nat→Nat}{i:Nat}{x:Blk}(hw:E'.w=E.w)(hS:(∀g,E.S g→E'.S g)∨x.plain=true)(h:∀j∈x.names,QwY E E' f j)(hr:E'.ρ (f i)=E.ρ i)(hb:Qoc E i x):Qoc E' (f i) (x.rn f):=by
 cases x with
 |arr t l =>
  rcases hb with⟨h1,h2⟩|⟨g,cs,el,us,spare,h1,h2,h3,h4⟩
  ·exact .inl ⟨hr.trans h1,h2⟩
  ·refine .inr ⟨g,cs,el,us,spare,hr.trans h1,by rw[hw];exact h2,h3,h4.mono fun _ _ hx=>?_⟩;rcases hS with hS|hS
   ·exact hx.mono fun g hg=>⟨hS g hg,by rw[hw]⟩
   ·exact hx.flat hS
 |var is =>
  obtain⟨g,cs,el,h1,h2,h3⟩:=hb;exact⟨g,cs,el,hr.trans h1,by rw[hw];exact h2,h3.rn hw (hS.imp id fun e=>by simp[Blk.plain] at e ⊢;exact e) h⟩
 |mp ka kt vt l =>
  obtain⟨g,es,c,h1,h2,h3⟩:=hb;exact⟨g,es,c,hr.trans h1,by rw[hw];exact h2,h3⟩
theorem VsR.len{E:Env}:∀{xs:List V1} {vs:List Value},VsR E xs vs→vs.length=xs.length
 | [],_,h=>by simp only[VsR] at h;subst h;rfl
 |_::_,_,⟨_,_,e,_,h⟩=>by subst e;simp[h.len]
end
section
variable {P:Program} {T:Tab}
theorem QjM:∀(l:List Blk) (H:Nat→Option Blk) (nm b:Nat),addF H nm l b=if nm≤b∧b<nm+l.length then l[b-nm]? else H b
 | [],H,nm,b=>by simp[addF];omega
 |x::l,H,nm,b=>by
  rw[addF,QjM l];by_cases h:b=nm
  ·subst h;rw[if_neg (by omega),if_pos (by simp)];simp
  ·by_cases h2:nm+1≤b∧b<nm+1+l.length
   ·rw[if_pos h2,if_pos (by simp;omega),show b-nm=(b-(nm+1))+1 from by omega];simp
   ·rw[if_neg h2,if_neg h,if_neg (by simp;omega)]
theorem QdT{α β:Type}{f:α→Option β}:∀{l:List α} {r:List β},Qfa f l=some r→r.length=l.length∧∀(i:Nat) x,l[i]?=some x→∃y,f x=some y∧r[i]?=some y
 | [],r,h=>by
   simp only[Qfa,Option.some.injEq] at h;subst h;exact⟨rfl,fun i x h=>by simp at h⟩
 |a::l,r,h=>by
  unfold Qfa at h;cases h1:f a with
  |none=>rw[h1] at h;cases h
  |some y =>
   rw[h1] at h;simp only at h;cases h2:Qfa f l with
   |none=>rw[h2] at h;cases h
   |some ys =>
    rw[h2] at h;injection h with h
    subst h;obtain⟨h3,h4⟩:=QdT h2;refine⟨by simp[h3],fun i x hx=>?_⟩;cases i with
    |zero=>simp at hx;subst hx;exact⟨y,h1,rfl⟩
    |succ i=>exact h4 i x (by simpa using hx)
def QdU(E:Env)(us:List Nat):Env:={ w:=E.w,ρ:=fun _=>none,S:=SU E us,H:=fun _=>none,U:=fun _=>False }
theorem Qok{E:Env}(hH:HeapOk E)(us:List Nat):HeapOk (QdU E us) :=
 ⟨fun b x h=>by simp[QdU] at h,fun b b' x x' g h=>by simp[QdU] at h,fun g hg=>by
   rcases hg with hg|⟨u,y,hu,hy,hr⟩
   ·exact hH.st g hg
   ·exact(QaR hH hy hr).1⟩
theorem Qle{E:Env}{look:Nat→Option Blk}(hH:HeapOk E)(hl:∀b x,look b=some x→E.H b=some x){us:List Nat}{c c':Cell}{vs:List Value}(hu:∀n∈c.names,n∈us)(h:QdR look c=some c')(hc:QaK E c vs):QaK (QdU E us) c' vs:=by
 unfold QdR at h;split at h
 ·injection h with h;subst h;exact hc
 ·injection h with h;subst h;exact hc
 ·injection h with h
  subst h;obtain⟨caps,e,h1,_⟩:=hc;exact⟨caps,e,h1,fun i b hb=>by simp at hb⟩
 ·split at h
  ·rename_i t l hs;injection h with h
   subst h;have hlen:=hc.len;have:c.size=1:=by cases c<;>first|rfl|(simp[Qar] at hs)
   rw[this] at hlen
   match vs,hlen with
   | [v],_ =>
     exact⟨v,rfl,(Qcj hH hl hs hc).mono (fun g hg=>⟨hg.mono hu,rfl⟩) fun _ _ hx=>hx.mono fun g hg=>⟨.inl hg,rfl⟩⟩
  ·cases h
theorem QzO{E:Env}{look:Nat→Option Blk}(hH:HeapOk E)(hl:∀b x,look b=some x→E.H b=some x){us:List Nat}:∀{cs cs':List Cell} {vs:List Value},(∀n∈cs.flatMap (·.names),n∈us)→Qfa (QdR look) cs=some cs'→IR E cs vs→IR (QdU E us) cs' vs
 | [],cs',vs,_,h,hr=>by
   simp only[Qfa,Option.some.injEq] at h;subst h;exact hr
 |c::cs,cs',_,hu,h,⟨r,s,e,h1,h2⟩=>by
  subst e;unfold Qfa at h;cases h3:QdR look c with
  |none=>rw[h3] at h;cases h
  |some y =>
   rw[h3] at h;simp only at h;cases h4:Qfa (QdR look) cs with
   |none=>rw[h4] at h;cases h
   |some ys =>
    rw[h4] at h;injection h with h
    subst h;exact⟨r,s,rfl,Qle hH hl (fun n hn=>hu n (by simp[hn])) h3 h1,QzO hH hl (fun n hn=>hu n (by simp at hn ⊢;exact .inr hn)) h4 h2⟩
theorem Qsu{E:Env}{look:Nat→Option Blk}(hH:HeapOk E)(hl:∀b x,look b=some x→E.H b=some x){us:List Nat}{x y:V1}{v:Value}(hu:∀n∈x.names,n∈us)(h:Qfj look x=some y)(hx:V1R E x v):V1R (QdU E us) y v:=by
 cases x with
 |c c =>
  simp only[Qfj] at h;cases h1:QdR look c with
  |none=>rw[h1] at h;cases h
  |some c'=>rw[h1] at h;injection h with h;subst h;exact Qle hH hl hu h1 hx
 |agg cs =>
  simp only[Qfj] at h;cases h1:Qfa (QdR look) cs with
  |none=>rw[h1] at h;cases h
  |some cs' =>
   rw[h1] at h;injection h with h;subst h
   obtain⟨vals,e,hr⟩:=hx;exact⟨vals,e,QzO hH hl hu h1 hr⟩
theorem Qf6{E:Env}{look:Nat→Option Blk}(hH:HeapOk E)(hl:∀b x,look b=some x→E.H b=some x){us:List Nat}:∀{xs ys:List V1} {vs:List Value},(∀n∈xs.flatMap (·.names),n∈us)→Qfa (Qfj look) xs=some ys→VsR E xs vs→VsR (QdU E us) ys vs
 | [],ys,vs,_,h,hr=>by
   simp only[Qfa,Option.some.injEq] at h;subst h;exact hr
 |x::xs,ys,_,hu,h,⟨v,r,e,h1,h2⟩=>by
  subst e;unfold Qfa at h;cases h3:Qfj look x with
  |none=>rw[h3] at h;cases h
  |some y =>
   rw[h3] at h;simp only at h;cases h4:Qfa (Qfj look) xs with
   |none=>rw[h4] at h;cases h
   |some ys' =>
    rw[h4] at h;injection h with h
    subst h;exact⟨v,r,rfl,Qsu hH hl (fun n hn=>hu n (by simp[hn])) h3 h1,Qf6 hH hl (fun n hn=>hu n (by simp at hn ⊢;exact .inr hn)) h4 h2⟩
theorem Qhl{look:Nat→Option Blk}{c c':Cell}(h:QdR look c=some c')(ho:c.isOwn=false):c.names=[]:=by
 cases c<;>first
  |rfl
  |(simp[Cell.isOwn] at ho;done)
  |(simp[QdR,Qar] at h;done)
  |(rename_i f bs
    cases bs with
    |nil=>rfl
    |cons a r=>simp[QdR,Qar] at h)
theorem Qi3{look:Nat→Option Blk}:∀{cs cs':List Cell},Qfa (QdR look) cs=some cs'→cs.any Cell.isOwn=false→cs.flatMap (·.names)=[]
 | [],_,_,_=>rfl
 |c::cs,cs',h,ho=>by
  unfold Qfa at h;cases h3:QdR look c with
  |none=>rw[h3] at h;cases h
  |some y =>
   rw[h3] at h;simp only at h;cases h4:Qfa (QdR look) cs with
   |none=>rw[h4] at h;cases h
   |some ys =>
    simp only[List.any_cons,Bool.or_eq_false_iff] at ho;simp[Qhl h3 ho.1,Qi3 h4 ho.2]
theorem QmY{look:Nat→Option Blk}{x y:V1}(h:Qfj look x=some y)(ho:x.hasOwn=false):x.names=[]:=by
 cases x with
 |c c =>
  simp only[Qfj] at h;cases h1:QdR look c with
  |none=>rw[h1] at h;cases h
  |some c'=>exact Qhl h1 ho
 |agg cs =>
  simp only[Qfj] at h;cases h1:Qfa (QdR look) cs with
  |none=>rw[h1] at h;cases h
  |some cs'=>exact Qi3 h1 ho
theorem Qgy{look:Nat→Option Blk}:∀{xs ys:List V1},Qfa (Qfj look) xs=some ys→xs.any (·.hasOwn)=false→xs.flatMap (·.names)=[]
 | [],_,_,_=>rfl
 |c::cs,cs',h,ho=>by
  unfold Qfa at h;cases h3:Qfj look c with
  |none=>rw[h3] at h;cases h
  |some y =>
   rw[h3] at h;simp only at h;cases h4:Qfa (Qfj look) cs with
   |none=>rw[h4] at h;cases h
   |some ys =>
    simp only[List.any_cons,Bool.or_eq_false_iff] at ho;simp[QmY h3 ho.1,Qgy h4 ho.2]
theorem Qlf{E:Env}(hH:HeapOk E){us:List Nat}{nm:Nat}{r:AV}{fresh:List Blk}{p:Option Prop}{v:Value}{E':Env}(hnm:∀k,k<fresh.length→¬E.U (nm+k))(hb:Back (QdU E us) 0 r [] fresh v E')
 (hro:us=[]∨(r.hasRo=false∧∀b∈fresh,b.plain=true)) :
 ∃E'',E''.w=E'.w∧Step E { pre:=p,val:=r.rn (fun i=>nm+i),add:=fresh.map (·.rn (fun i=>nm+i)),set:=[] } nm E''∧AVR E'' (r.rn (fun i=>nm+i)) v:=by
 have hfrz:∀g,¬(Qhk (QdU E us)).own0 g:=by
  rintro g ⟨b,x,h,_⟩
  simp[QdU] at h
 have hsize:E.w.heap.size≤E'.w.heap.size:=hb.fr.size;have hold:∀g,g<E.w.heap.size→E'.w.heap[g]?=E.w.heap[g]?:=fun g hg=>hb.fr.old g hg (hfrz g)
 have hHf:∀b,E'.H b=fresh[b]?:=fun b=>by rw[hb.H b,if_neg (by omega)];rfl
 have hUf:∀b,E'.U b↔b<fresh.length:=fun b=>by rw[hb.U b];omega
 have hown:∀b x g,E'.H b=some x→E'.ρ b=some g→E.w.heap.size≤g:=fun b x g hx hr=>(hb.fr.own b x g hx hr).resolve_right (hfrz g)
 let E'':Env:=Env.mk E'.w (fun b=>if nm≤b∧b<nm+fresh.length then E'.ρ (b-nm) else E.ρ b) (fun g=>E.S g∨(E.w.heap.size≤g∧E'.S g))
  (fun b=>if nm≤b∧b<nm+fresh.length then (fresh[b-nm]?).map (·.rn (fun i=>nm+i)) else E.H b) (fun b=>E.U b∨(nm≤b∧b<nm+fresh.length))
 have hin:∀b,E.U b→¬(nm≤b∧b<nm+fresh.length):=fun b hU h=>hnm (b-nm) (by omega) (by rwa[show nm+(b-nm)=b from by omega])
 have hlive:∀b x,E.H b=some x→¬(nm≤b∧b<nm+fresh.length):=fun b x hx=>hin b (hH.blk b x hx).1
 have hext:Ext E E'':=by
  refine⟨fun g hg=>⟨.inl hg,hold g (hH.st g hg)⟩,fun b h=>.inl h,fun b x' hU hx=>?_⟩;have hx:E.H b=some x':=by simpa[E'',hin b hU] using hx
  refine⟨x',hx,by simp[E'',hin b hU],rfl,fun g cs el hr hc=>⟨cs,?_,rfl⟩⟩;exact(hold g (Array.getElem?_eq_some_iff.1 hc).1).trans hc
 have hat:∀i,QwY E' E'' (fun i=>nm+i) i:=by
  intro i hi;rw[hUf] at hi;have h1:nm≤nm+i∧nm+i<nm+fresh.length:=by omega
  refine⟨.inr h1,fun x hx=>?_⟩;simp only[E'',h1,and_self,if_true,Nat.add_sub_cancel_left] at hx;cases hf:fresh[i]? with
  |none=>rw[hf] at hx;cases hx
  |some y =>
   rw[hf] at hx;injection hx with hx
   subst hx;exact⟨y,by rw[hHf,hf],QcE _ _,by simp[E'',h1]⟩
 have hS1:us=[]→∀g,E'.S g→E''.S g:=by
  intro he g hg;rcases hb.fr.S g hg with h|h|h
  ·left;rcases h with h|⟨u,_,hu,_⟩
   ·exact h
   ·subst he;simp at hu
  ·exact .inr ⟨h,hg⟩
  ·exact absurd h (hfrz g)
 have hS2:(∀g,E'.S g→E''.S g)∨r.hasRo=false:=hro.imp hS1 (·.1)
 have hnew:∀b,nm≤b∧b<nm+fresh.length→∀x,E''.H b=some x→∃y,fresh[b-nm]?=some y∧x=y.rn (fun i=>nm+i):=by
  intro b hbn x hx;simp only[E'',hbn,and_self,if_true] at hx;cases hf:fresh[b-nm]? with
  |none=>rw[hf] at hx;cases hx
  |some y=>rw[hf] at hx;injection hx with hx;exact⟨y,rfl,hx.symm⟩
 refine⟨E'',rfl,⟨hext,⟨fun b x hx=>?_,fun b b' x x' g hx hx' hr hr'=>?_,fun g hg=>?_⟩,fun b=>?_,fun b=>?_,fun F hF=>⟨hb.fr.os.trans hF.os,hb.fr.tape.trans hF.tape,hb.fr.output.trans hF.output,Nat.le_trans hF.size hsize,fun g hg ho=>?_,fun b x g hx hr=>?_,fun g hg=>?_⟩⟩,?_⟩
 ·by_cases hbn:nm≤b∧b<nm+fresh.length
  ·obtain⟨y,hf,rfl⟩:=hnew b hbn x hx;have hy:E'.H (b-nm)=some y:=by rw[hHf,hf]
   obtain⟨h1,h2,h3⟩:=hb.ok.blk _ _ hy;have hmem:y∈fresh:=List.mem_of_getElem? hf;have:=Qoc.rn (E:=E') (E':=E'') (f:=fun i=>nm+i) (i:=b-nm) rfl (hro.imp hS1 (fun h=>h.2 y hmem)) (fun j _=>hat j) (by show E''.ρ (nm+(b-nm))=_;simp only[E''];rw[if_pos (by omega)];congr 1;omega) h2;rw[show nm+(b-nm)=b from by omega] at this;refine⟨.inr hbn,this,fun g hg=>?_⟩;simp only[E'',hbn,and_self,if_true] at hg;have hge:=hown _ _ _ hy hg
   rintro (h|⟨_,h⟩)
   ·have:=hH.st g h;omega
   ·exact h3 g hg h
  ·simp only[E'',hbn,if_false] at hx;obtain⟨h1,h2,h3⟩:=hH.blk b x hx;refine⟨.inl h1,h2.ext hext (by simp[E'',hbn]) (fun g hg=>hold g (QaR hH hx hg).1),fun g hg=>?_⟩;simp only[E'',hbn,if_false] at hg;have hlt:=(QaR hH hx hg).1
   rintro (h|⟨h,_⟩)
   ·exact h3 g hg h
   ·omega
 ·by_cases hbn:nm≤b∧b<nm+fresh.length<;>by_cases hbn':nm≤b'∧b'<nm+fresh.length
  ·obtain⟨y,hf,rfl⟩:=hnew b hbn x hx;obtain⟨y',hf',rfl⟩:=hnew b' hbn' x' hx';simp only[E'',hbn,hbn',and_self,if_true] at hr hr';have:=hb.ok.inj _ _ y y' g (by rw[hHf,hf]) (by rw[hHf,hf']) hr hr';omega
  ·obtain⟨y,hf,rfl⟩:=hnew b hbn x hx;simp only[E'',hbn,hbn',and_self,if_true,if_false] at hx' hr hr';have h1:=hown _ y _ (by rw[hHf,hf]) hr;have h2:=(QaR hH hx' hr').1;omega
  ·obtain⟨y,hf,rfl⟩:=hnew b' hbn' x' hx';simp only[E'',hbn,hbn',and_self,if_true,if_false] at hx hr hr';have h1:=hown _ y _ (by rw[hHf,hf]) hr';have h2:=(QaR hH hx hr).1;omega
  ·simp only[E'',hbn,hbn',if_false] at hx hx' hr hr';exact hH.inj b b' x x' g hx hx' hr hr'
 ·rcases hg with h|⟨_,h⟩
  ·have:=hH.st g h;exact Nat.lt_of_lt_of_le this hsize
  ·exact hb.ok.st g h
 ·simp only[Qf5,QjM,List.length_map];by_cases hbn:nm≤b∧b<nm+fresh.length
  ·simp[E'',hbn]
  ·simp[E'',hbn]
 ·simp[E'']
 ·exact(hold g (Nat.lt_of_lt_of_le hg hF.size)).trans (hF.old g hg ho)
 ·by_cases hbn:nm≤b∧b<nm+fresh.length
  ·obtain⟨y,hf,rfl⟩:=hnew b hbn x hx;simp only[E'',hbn,and_self,if_true] at hr;exact .inl (Nat.le_trans hF.size (hown _ y _ (by rw[hHf,hf]) hr))
  ·simp only[E'',hbn,if_false] at hx hr;exact hF.own b x g hx hr
 ·rcases hg with h|⟨h,_⟩
  ·exact hF.S g h
  ·exact .inr (.inl (Nat.le_trans hF.size h))
 ·exact AVR.rn (E:=E') (E':=E'') rfl hS2 (fun i _=>hat i) hb.val
theorem QqB(E:Env)(us:List Nat):QdU (QK E us) []=QdU E us:=by
 have h:SU (QK E us) []=SU E us:=by
  funext g;apply propext;constructor
  ·rintro (h|⟨u,x,hu,_⟩)
   ·exact h
   ·cases hu
  ·exact fun h=>.inl h
 show Env.mk E.w (fun _=>none) (SU (QK E us) []) (fun _=>none) (fun _=>False)=Env.mk E.w (fun _=>none) (SU E us) (fun _=>none) (fun _=>False);rw[h]
theorem QwZ{E:Env}(hH:HeapOk E){us:List Nat}{nm:Nat}{r:AV}{fresh:List Blk}{p:Option Prop}{v:Value}{E':Env}(hnm:∀k,k<fresh.length→¬E.U (nm+k))(hb:Back (QdU E us) 0 r [] fresh v E') :
 ∃E'',E''.w=E'.w∧Step E { pre:=p,val:=r.rn (fun i=>nm+i),add:=fresh.map (·.rn (fun i=>nm+i)),set:=us.map fun n=>(n,none) } nm E''∧AVR E'' (r.rn (fun i=>nm+i)) v:=by
 rw[←QqB] at hb;obtain⟨E'',h1,h2,h3⟩:=Qlf (p:=p) (Qfm hH us) (nm:=nm) hnm hb (.inl rfl);refine⟨E'',h1,⟨(Q8 us).trans h2.ext,h2.ok,fun b=>?_,h2.U,fun F hF=>h2.fr F (Qfn us hF)⟩,h3⟩;rw[h2.H b]
 have e:Qf5 E.H (us.map fun n=>(n,none))=(QK E us).H:=by
  funext c;rw[Qfl];rfl
 show addF (Qf5 (QK E us).H []) nm _ b=addF (Qf5 E.H (us.map fun n=>(n,none))) nm _ b;rw[e];rfl
end
end Go.Fw

