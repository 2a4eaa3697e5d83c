/- Part 5 of the proof. Conditions: none. -/
import Derived.Test.YtofgbclopbmlcaaGreatG4
import Derived.Laws.StructEq
import Derived.ChangeKeysEq
import Derived.Laws.Pointers
import Derived.Laws.Small
namespace Go.Fw
set_option linter.unusedVariables false
set_option linter.unusedSimpArgs false
section
variable {P:Program}
def Form(P:Program)(t:TypeId)(x:Value)(vs:List Value):Prop:=(x=.agg vs.toArray∧Qal P t=true)∨(vs=[x]∧Qal P t=false)
theorem Qc8{e:TypeId}{i:TypeInfo}(hi:P.info? e=some i){D:TypeDesc}(hu:P.underlying e=some D){xs:Array Value}{pre r s:List Value}(hx:xs.toList=pre++r++s)(hr:r.length=P.cellsOf e)(h1:Qal P e=false→r.length=1)(w:World) :
 ∃a,(part e xs pre.length).run P w=.ok a w∧Form P e a r:=by
 cases ha:Qal P e with
 |true =>
  refine⟨.agg r.toArray,?_,.inl ⟨rfl,ha⟩⟩
  have hl:xs.extract pre.length (pre.length+P.cellsOf e)=r.toArray:=by
   apply Array.toList_inj.1;rw[Array.toList_extract,hx];simp[List.extract,←hr]
  unfold Qal at ha;rw[hu] at ha;cases D<;>simp at ha<;>simp[part,isAgg,run_underlying hu,run_sizeOf w hi,hl]
 |false =>
  have h2:=h1 ha
  obtain⟨v,rfl⟩:∃v,r=[v]:=by
   cases r with
   |nil=>simp at h2
   |cons v r=>cases r with
    |nil=>exact⟨v,rfl⟩
    |cons _ _=>simp at h2
  refine⟨v,?_,.inr ⟨rfl,ha⟩⟩
  have hl:xs[pre.length]?=some v:=by
   rw[←YA,hx];simp
  unfold Qal at ha;rw[hu] at ha;cases D<;>simp at ha<;>simp[part,isAgg,run_underlying hu,hl]
theorem Qen{n:Nat}{u:Ty}{t:TypeId}(h:Qbj P n u t=true)(h2:Qal P t=false):u.size=1:=by
 cases n with
 |zero=>simp[Qbj] at h
 |succ n =>
  unfold Qbj at h;unfold Qal at h2;split at h<;>rename_i hu
  all_goals first|rfl|(simp[hu] at h2;done)|(cases h;done)
def QFp(P:Program)(n m:Nat):Prop:=∀(u:Ty) (t:TypeId),Qbj P n u t=true→P.keyTypeAt m t=true→∀(d:Nat),n+1≤d→∀(w w0:World) (S:Nat→Prop) (x y:Value) (vs us:List Value) (dx dy:Den u),
 Form P t x vs→Form P t y us→CR w0 S u dx vs→CR w0 S u dy us→(Op.equalIn d t x y).run P w=.ok (QD u dx dy) w
theorem Qg3{m:Nat}{t:TypeId}(h:P.keyTypeAt m t=true):∃D i,P.underlying t=some D∧P.info? t=some i:=by
 cases m with
 |zero=>simp[Program.keyTypeAt] at h
 |succ m =>
  unfold Program.keyTypeAt at h;cases hu:P.underlying t with
  |none=>simp[hu] at h
  |some D =>
   obtain⟨i,hi⟩:=info_of_underlying hu;exact⟨D,i,rfl,hi⟩
theorem Qlo{n m d:Nat}(IH:QFp P n m)(hd:n+1≤d){xs ys:Array Value}{w w0:World}{S:Nat→Prop}:∀(fs:List Field) (u:Ty) (off:Nat) (px py vs us:List Value) (dx dy:Den u),QeF P (Qbj P n) u fs off=true→(∀f∈fs,f.name≠ "_"∧P.keyTypeAt m f.type=true) →
 xs.toList=px++vs→px.length=off→ys.toList=py++us→py.length=off→CR w0 S u dx vs→CR w0 S u dy us→(Op.eqFields d xs ys fs).run P w=.ok (QD u dx dy) w
 | [],u,_,_,_,_,_,_,_,h,_,_,_,_,_,_,_=>by simp[QeF] at h
 | [f],u,off,px,py,vs,us,dx,dy,h,hn,hx,hpx,hy,hpy,cx,cy=>by
   simp only[QeF,Yj] at h;obtain⟨⟨h1,h2⟩,h3⟩:=h;have h2:=Yg h2;have h3:=Yg h3;obtain⟨hn1,hk⟩:=hn f (by simp);obtain⟨D,i,hu,hi⟩:=Qg3 hk;obtain⟨a,ha,fa⟩:=Qc8 hi hu (xs:=xs) (pre:=px) (r:=vs) (s:=[]) (by simp[hx]) (by rw[cx.len,h3]) (fun hg=>by rw[cx.len];exact Qen h1 hg) w;obtain⟨b,hb,fb⟩:=Qc8 hi hu (xs:=ys) (pre:=py) (r:=us) (s:=[]) (by simp[hy]) (by rw[cy.len,h3]) (fun hg=>by rw[cy.len];exact Qen h1 hg) w;have he:=IH u f.type h1 hk d hd w w0 S a b vs us dx dy fa fb cx cy;rw[hpx,←h2] at ha;rw[hpy,←h2] at hb;simp only[Op.eqFields,hn1,ne_eq,not_false_eq_true,if_true,Sem.run_bind,ha,hb,he,Result.andThen_ok];cases QD u dx dy<;>simp
 |f::g::fs,u,off,px,py,vs,us,dx,dy,h,hn,hx,hpx,hy,hpy,cx,cy=>by
  cases u with
  |pair p q =>
   simp only[QeF,Yj] at h;obtain⟨⟨⟨h1,h2⟩,h3⟩,h4⟩:=h;have h2:=Yg h2;have h3:=Yg h3;obtain⟨hn1,hk⟩:=hn f (by simp);obtain⟨D,i,hu,hi⟩:=Qg3 hk;obtain⟨r,s,rfl,cx1,cx2⟩:=cx;obtain⟨r',s',rfl,cy1,cy2⟩:=cy;obtain⟨a,ha,fa⟩:=Qc8 hi hu (xs:=xs) (pre:=px) (r:=r) (s:=s) (by simp[hx]) (by rw[cx1.len,h3]) (fun hg=>by rw[cx1.len];exact Qen h1 hg) w;obtain⟨b,hb,fb⟩:=Qc8 hi hu (xs:=ys) (pre:=py) (r:=r') (s:=s') (by simp[hy]) (by rw[cy1.len,h3]) (fun hg=>by rw[cy1.len];exact Qen h1 hg) w;have he:=IH p f.type h1 hk d hd w w0 S a b r r' dx.1 dy.1 fa fb cx1 cy1;have rest:=Qlo IH hd (xs:=xs) (ys:=ys) (w:=w) (g::fs) q (off+p.size) (px++r) (py++r') s s' dx.2 dy.2 h4 (fun f' hf'=>hn f' (YP _ hf')) (by simp[hx]) (by simp[hpx,cx1.len]) (by simp[hy]) (by simp[hpy,cy1.len]) cx2 cy2;rw[hpx,←h2] at ha;rw[hpy,←h2] at hb
   have e:Op.eqFields d xs ys (f::g::fs)=(do
    let a ←part f.type xs f.offset
    let b ←part f.type ys f.offset
    let r ←Op.equalIn d f.type a b
    if (!r)=true then pure false else Op.eqFields d xs ys (g::fs)):=by rw[Op.eqFields,Yf hn1]
   rw[e];simp only[Sem.run_bind,ha,hb,he,Result.andThen_ok];rw[show QD (.pair p q) dx dy=(QD p dx.1 dy.1&&QD q dx.2 dy.2) from rfl];cases QD p dx.1 dy.1 with
   |false=>simp
   |true=>simp[rest]
  |_=>simp[QeF] at h
theorem Qov{d:Nat}{e:TypeId}{k k':IntKind}(hu:P.underlying e=some (.int k'))(hc:P.cellsOf e=1){l l':List Int}{xs ys:Array Value}(hx:xs.toList=l.map (.int k))(hy:ys.toList=l'.map (.int k)){w:World} :
 ∀(is:List Nat),(∀i∈is,i<l.length∧i<l'.length)→(Op.eqItems (d+1) e 1 xs ys is).run P w=.ok (is.all fun i=>decide (l[i]?=l'[i]?)) w
 | [],_=>by simp[Op.eqItems]
 |i::is,h=>by
  obtain⟨h1,h2⟩:=h i (by simp);have ih:=Qov (d:=d) hu hc hx hy (w:=w) is (fun j hj=>h j (YP _ hj));have ex:xs[i]?=some (.int k l[i]):=by rw[←YA,hx];simp[h1]
  have ey:ys[i]?=some (.int k l'[i]):=by rw[←YA,hy];simp[h2]
  have p1:(part e xs (i*1)).run P w=.ok (.int k l[i]) w:=by simp[part,isAgg,run_underlying hu,ex]
  have p2:(part e ys (i*1)).run P w=.ok (.int k l'[i]) w:=by simp[part,isAgg,run_underlying hu,ey]
  have p3:=run_equalIn_int (P:=P) w d e k k' l[i] l'[i] hu;simp only[Op.eqItems,Sem.run_bind,p1,p2,p3,Result.andThen_ok,List.all_cons];by_cases hb:l[i]=l'[i]
  ·rw[Ye h1,Ye h2];simp[hb,ih]
  ·rw[Ye h1,Ye h2];simp[hb]
theorem QsX:∀(n m:Nat),QFp P n m
 |0,m=>fun u t h=>by simp[Qbj] at h
 |n+1,0=>fun u t _ h=>by simp[Program.keyTypeAt] at h
 |n+1,m+1=>by
  intro u t h hk d hd w w0 S x y vs us dx dy fx fy cx cy;obtain⟨d,rfl⟩:∃d',d=d'+1:=⟨d-1,by omega⟩
  unfold Qbj at h;split at h
  ·rename_i hu;have hg:Qal P t=false:=by simp[Qal,hu]
   simp only[CR] at cx cy;subst cx;subst cy;rcases fx with⟨_,h'⟩|⟨fx,_⟩
   ·rw[hg] at h';cases h'
   rcases fy with⟨_,h'⟩|⟨fy,_⟩
   ·rw[hg] at h';cases h'
   injection fx with fx _;injection fy with fy _
   subst fx;subst fy;rw[run_equalIn_bool' w d t _ _ hu];rfl
  ·rename_i hu;have hg:Qal P t=false:=by simp[Qal,hu]
   simp only[CR] at cx cy;subst cx;subst cy;rcases fx with⟨_,h'⟩|⟨fx,_⟩
   ·rw[hg] at h';cases h'
   rcases fy with⟨_,h'⟩|⟨fy,_⟩
   ·rw[hg] at h';cases h'
   injection fx with fx _;injection fy with fy _
   subst fx;subst fy;rw[run_equalIn_int w d t _ _ _ _ hu];rfl
  ·rename_i hu;have hg:Qal P t=false:=by simp[Qal,hu]
   simp only[CR] at cx cy;subst cx;subst cy;rcases fx with⟨_,h'⟩|⟨fx,_⟩
   ·rw[hg] at h';cases h'
   rcases fy with⟨_,h'⟩|⟨fy,_⟩
   ·rw[hg] at h';cases h'
   injection fx with fx _;injection fy with fy _
   subst fx;subst fy;rw[run_equalIn_string w d t _ _ hu];rfl
  ·rename_i hu;unfold Program.keyTypeAt at hk;simp[hu] at hk
  ·rename_i F hu;have hg:Qal P t=true:=by simp[Qal,hu]
   rcases fx with⟨rfl,_⟩|⟨_,h'⟩
   ·rcases fy with⟨rfl,_⟩|⟨_,h'⟩
    ·simp only[Yj] at h;unfold Program.keyTypeAt at hk;simp only[hu,Yj,Bool.not_eq_true',Array.all_eq_true'] at hk;obtain⟨⟨hall,_⟩,hst⟩:=hk;have hF:P.fieldsOf t=F:=by simp[Program.fieldsOf,hu]
     rw[run_equalIn_struct w d t _ _ (by rw[hF];exact hu) hst,hF]
     exact Qlo (QsX n m) (by omega) (xs:=vs.toArray) (ys:=us.toArray) F.toList _ 0 [] [] vs us dx dy h.1 (fun f hf=>by
      have:=hall f (by simpa using hf)
      simpa using this) (by simp) rfl (by simp) rfl cx cy
    ·rw[hg] at h';cases h'
   ·rw[hg] at h';cases h'
  ·rename_i m' e k n' hu;have hg:Qal P t=true:=by simp[Qal,hu]
   split at h
   ·rename_i k' hue;simp only[Yj,YB] at h;obtain⟨⟨⟨h1,h2⟩,h3⟩,h4⟩:=h;have h2:=Yg h2;have h3:=Yg h3;obtain⟨i,hi⟩:=info_of_underlying hue;simp only[CR] at cx cy;obtain⟨lx,rfl⟩:=cx;obtain⟨ly,rfl⟩:=cy;rcases fx with⟨rfl,_⟩|⟨_,h'⟩
    ·rcases fy with⟨rfl,_⟩|⟨_,h'⟩
     ·obtain⟨d,rfl⟩:∃d',d=d'+1:=⟨d-1,by omega⟩
      rw[run_equalIn_array w (d+1) _ _ hu hi,h3,Qov (k:=k) (l:=dx) (l':=dy) hue h3 (by simp) (by simp) (List.range m') (fun i hi=>by have:=List.mem_range.1 hi;omega)];congr 1;unfold QD;by_cases he:(dx:List Int)=dy
      ·rw[Yl he];simp[he]
      ·rw[Yn he];rw[List.all_eq_false];apply Classical.byContradiction;intro hno;apply he;apply List.ext_getElem?;intro i;by_cases hi:i<m'
       ·apply Classical.byContradiction;intro hne;exact hno ⟨i,List.mem_range.2 hi,by simpa using hne⟩
       ·rw[YK (by omega),YK (by omega)]
     ·rw[hg] at h';cases h'
    ·rw[hg] at h';cases h'
   ·cases h
  ·cases h
end
section
variable {P:Program} {T:Tab}
theorem QCn{E:Env}(hT:TabOk P T)(hH:HeapOk E){op:BinOp}{a b:AV}{va vb:Value}{r:Res}{t:TypeId}(ha:AVR E a va)(hb:AVR E b vb)(h:QI5 T t op a b=some r)(hp:∀p,r.pre=some p→p)(x y:Operand)(w:World) :
 ∃v,(do eqGuard op t x y va vb;binOp op t va vb:Sem Value).run P w=.ok v w∧AVR E r.val v∧r.add=[]∧r.set=[]:=by
 unfold QI5 at h;split at h
 ·rename_i k m k' n;obtain⟨e,_⟩:=ha;injection e with e
  subst e;obtain⟨e,_⟩:=hb;injection e with e
  subst e;have hg:∀op,eqGuard op t x y (.int k m) (.int k' n)=pure ():=fun op=>eqGuard_at_int ..
  split at h
  ·simp only[okP,Yc] at h;subst h;have h0:=hp _ rfl;refine⟨_,?_,⟨rfl,rfl⟩,rfl,rfl⟩;have hn:¬n<0:=by omega
   simp[hg,binOp,Op.shift,hn];rfl
  ·simp only[okP,Yc] at h;subst h;have h0:=hp _ rfl;refine⟨_,?_,⟨rfl,rfl⟩,rfl,rfl⟩;have hn:¬n<0:=by omega
   simp[hg,binOp,Op.shift,hn];rfl
  ·rename_i h1 h2;split at h
   ·rename_i hk;have hkk:k=k':=Ya hk;subst hkk;unfold QFk at h
    cases op<;>simp only at h<;>first
     |(simp only[ok1,Yc] at h;subst h;refine⟨_,?_,⟨rfl,rfl⟩,rfl,rfl⟩;simp[hg,binOp,Op.intArith,Op.intCmp];done)
     |(simp only[ok1,Yc] at h;subst h;refine⟨_,?_,⟨rfl,rfl⟩,rfl,rfl⟩;simp[hg,binOp];rfl)
     |(simp only[okP,Yc] at h;subst h;have h0:=hp _ rfl;refine⟨_,?_,⟨rfl,rfl⟩,rfl,rfl⟩;simp[hg,binOp,Op.intDiv,h0];done)
     |(cases h;done)
   ·cases h
 ·rename_i s u;obtain⟨e,_⟩:=ha;injection e with e
  subst e;obtain⟨e,_⟩:=hb;injection e with e
  subst e;have hg:∀op,eqGuard op t x y (.string s) (.string u)=pure ():=fun op=>eqGuard_at_string ..
  split at h
  ·simp only[ok1,Yc] at h;subst h;exact⟨_,by simp[hg,binOp,Op.stringOp];rfl,⟨rfl,rfl⟩,rfl,rfl⟩
  ·simp only[ok1,Yc] at h;subst h;exact⟨_,by simp[hg,binOp,Op.stringOp];rfl,⟨rfl,rfl⟩,rfl,rfl⟩
  ·simp only[Yc] at h;subst h;have h0:=hp _ rfl;refine⟨_,?_,⟨rfl,rfl⟩,rfl,rfl⟩
   have hn:¬((s.size:Int)+(u.size:Int)>IntKind.i64.max):=by
    have:IntKind.i64.max=9223372036854775807:=by decide
    rw[this];omega
   have hn':¬((s.size+u.size:Nat):Int)>IntKind.i64.max:=by simpa using hn
   simp only[hg,binOp,Op.stringOp,Yb hn'];rfl
  ·cases h
 ·rename_i s u;obtain⟨e,_⟩:=ha;injection e with e
  subst e;obtain⟨e,_⟩:=hb;injection e with e
  subst e;have hg:∀op,eqGuard op t x y (.bool s) (.bool u)=pure ():=fun op=>eqGuard_at_bool ..
  split at h
  ·rename_i ht;have hu:=(hT.ty t _ ht).und;simp only[QZ] at hu;have heq:=fun w=>run_equal_bool (P:=P) (w:=w) t s u hu
   split at h
   ·simp only[ok1,Yc] at h;subst h;exact⟨_,by simp[hg,binOp,heq],⟨rfl,rfl⟩,rfl,rfl⟩
   ·simp only[ok1,Yc] at h;subst h;exact⟨_,by simp[hg,binOp,heq],⟨rfl,rfl⟩,rfl,rfl⟩
   ·cases h
  ·cases h
 ·rename_i cx cy;obtain⟨xs,rfl,hx⟩:=ha;obtain⟨ys,rfl,hy⟩:=hb;split at h
  ·rename_i ti hti;split at h
   ·rename_i u hc hu;split at h
    ·rename_i dx ux dy uy hdx hdy;have hok:=(hT.ty t _ hti).cmp hc;rw[hu] at hok;simp only[Qxh,Yj,Bool.not_eq_true'] at hok;obtain⟨⟨⟨k1,k2⟩,k3⟩,k4⟩:=hok;have rx:=QbJ hH (fun b x hx=>by cases hx) hdx hx;have ry:=QbJ hH (fun b x hx=>by cases hx) hdy hy;have rx':CR E.w (fun _=>True) u dx xs.toList:=rx.mono fun g _=>⟨trivial,rfl⟩
     have ry':CR E.w (fun _=>True) u dy ys.toList:=ry.mono fun g _=>⟨trivial,rfl⟩
     have heq:=fun w=>QsX 30 30 u t k3 k2 10000 (by omega) w E.w _ (.agg xs) (.agg ys) xs.toList ys.toList dx dy (.inl ⟨by simp,k1⟩) (.inl ⟨by simp,k1⟩) rx' ry'
     have hg:=fun op w=>run_eqGuard_agg (P:=P) w op t x y xs ys k4
     split at h
     ·simp only[ok1,Yc] at h;subst h;exact⟨_,by simp only[Sem.run_bind,hg,Result.andThen_ok,run_eql_struct,heq],⟨rfl,rfl⟩,rfl,rfl⟩
     ·simp only[ok1,Yc] at h;subst h;exact⟨_,by simp only[Sem.run_bind,hg,Result.andThen_ok,run_neq_struct,heq],⟨rfl,rfl⟩,rfl,rfl⟩
     ·cases h
    ·cases h
   ·cases h
  ·cases h
 ·cases h
theorem QFq{E:Env}{op:UnOp}{a:AV}{va:Value}{r:Res}(ha:AVR E a va)(h:unA op a=some r)(w:World) :
 ∃v,(Op.unary op va).run P w=.ok v w∧AVR E r.val v∧r.add=[]∧r.set=[]∧r.pre=none:=by
 unfold unA at h;split at h
 ·simp only[ok1,Yc] at h;subst h;obtain⟨e,_⟩:=ha;injection e with e
  subst e;exact⟨_,by simp[Op.unary,Op.intArith],⟨rfl,rfl⟩,rfl,rfl,rfl⟩
 ·simp only[ok1,Yc] at h;subst h;obtain⟨e,_⟩:=ha;injection e with e
  subst e;exact⟨_,by simp[Op.unary,Op.intBits];rfl,⟨rfl,rfl⟩,rfl,rfl,rfl⟩
 ·simp only[ok1,Yc] at h;subst h;obtain⟨e,_⟩:=ha;injection e with e
  subst e;exact⟨_,by simp[Op.unary],⟨rfl,rfl⟩,rfl,rfl,rfl⟩
 ·cases h
def QiX(E:Env):List AV→List Value→Prop
 | [],vs=>vs=[]
 |x::xs,vs=>∃v r,vs=v::r∧AVR E x v∧QiX E xs r
theorem Qjg{E:Env}{a:AV}{v:Value}{y:Int}(h:Qjb a=some y)(ha:AVR E a v):∃k,v=.int k y:=by
 unfold Qjb at h;split at h
 ·injection h with h
  subst h;obtain⟨e,_⟩:=ha;injection e with e
  exact⟨_,e⟩
 ·cases h
theorem Qow{E:Env}{k:IntKind}:∀{xs:List AV} {vs:List Value} {x:Int} {r:AV},QiX E xs vs→QFl k x xs=some r→∀w,∃v,(vs.foldlM Builtin.max2 (.int k x)).run P w=.ok v w∧AVR E r v
 | [],_,x,r,hv,h,w=>by
   simp only[QiX] at hv;subst hv;simp only[QFl,Yc] at h;subst h;exact⟨_,by simp,⟨rfl,rfl⟩⟩
 |a::xs,_,x,r,⟨v,vs,e,ha,hv⟩,h,w=>by
  subst e;unfold QFl at h;cases hi:Qjb a with
  |none=>rw[hi] at h;cases h
  |some y =>
   rw[hi] at h;obtain⟨k',rfl⟩:=Qjg hi ha;obtain⟨v',h3,h4⟩:=Qow hv h w;unfold imax at h3;exact⟨v',by simpa[Builtin.max2] using h3,h4⟩
theorem Qox{E:Env}{k:IntKind}:∀{xs:List AV} {vs:List Value} {x:Int} {r:AV},QiX E xs vs→QFm k x xs=some r→∀w,∃v,(vs.foldlM Builtin.min2 (.int k x)).run P w=.ok v w∧AVR E r v
 | [],_,x,r,hv,h,w=>by
   simp only[QiX] at hv;subst hv;simp only[QFm,Yc] at h;subst h;exact⟨_,by simp,⟨rfl,rfl⟩⟩
 |a::xs,_,x,r,⟨v,vs,e,ha,hv⟩,h,w=>by
  subst e;unfold QFm at h;cases hi:Qjb a with
  |none=>rw[hi] at h;cases h
  |some y =>
   rw[hi] at h;obtain⟨k',rfl⟩:=Qjg hi ha;obtain⟨v',h3,h4⟩:=Qox hv h w;unfold imin at h3;exact⟨v',by simpa[Builtin.min2] using h3,h4⟩
theorem QqX{E:Env}{look:Nat→Option Blk}(hT:TabOk P T)(hl:∀b x,look b=some x→E.H b=some x){op:BinOp}{a b:AV}{va vb:Value}{r:Res}{t:TypeId}(ha:AVR E a va)(hb:AVR E b vb)(h:QjM T look t op a b=some r)(x y:Operand)(w:World) :
 ∃v,(do eqGuard op t x y va vb;binOp op t va vb:Sem Value).run P w=.ok v w∧AVR E r.val v∧r.add=[]∧r.set=[]:=by
 unfold QjM at h;split at h
 ·split at h
  ·rename_i e _ _ _ _ _ ht;have hu:=(hT.ty t _ ht).und;simp only[QZ] at hu
   have hu:P.underlying t=some (.pointer (P.pointee t)):=by
    have:P.pointee t=e:=by simp[Program.pointee,hu]
    rw[this];exact hu
   obtain⟨e1,_⟩:=hb;injection e1 with e1
   subst e1;split at h
   ·obtain⟨e2,_⟩:=ha;injection e2 with e2
    subst e2;split at h
    ·simp only[ok1,Yc] at h;subst h;exact⟨_,by simp[eqGuard_at_pointer,run_eql_pointer_nil w t none hu],⟨rfl,rfl⟩,rfl,rfl⟩
    ·simp only[ok1,Yc] at h;subst h;exact⟨_,by simp[eqGuard_at_pointer,run_neq_pointer_nil w t none hu],⟨rfl,rfl⟩,rfl,rfl⟩
    ·cases h
   ·split at h
    ·rename_i hbx;obtain⟨v,⟨e2,_⟩,hU,hh⟩:=ha;injection e2 with e2
     obtain⟨g,hr,hv⟩:=hh _ (hl _ _ hbx);subst e2 hv;split at h
     ·simp only[ok1,Yc] at h;subst h;exact⟨_,by simp[pt,eqGuard_at_pointer,run_eql_pointer_nil w t _ hu],⟨rfl,rfl⟩,rfl,rfl⟩
     ·simp only[ok1,Yc] at h;subst h;exact⟨_,by simp[pt,eqGuard_at_pointer,run_neq_pointer_nil w t _ hu],⟨rfl,rfl⟩,rfl,rfl⟩
     ·cases h
    ·cases h
   ·cases h
  ·cases h
 ·cases h
end
section
variable {P:Program} {T:Tab}
theorem Qlp:∀(l:List Field),(∀f∈l,∃i,P.info? f.type=some i)→∃pl,l.mapM (fun f=>(P.info? f.type).map fun i=>(f.offset,i.size))=some pl ∧
 ∀(i:Nat) f,l[i]?=some f→∃inf,P.info? f.type=some inf∧pl[i]?=some (f.offset,inf.size)
 | [],_=>⟨[],rfl,fun i f h=>by simp at h⟩
 |f::l,h=>by
  obtain⟨inf,hi⟩:=h f (by simp);obtain⟨pl,h1,h2⟩:=Qlp l fun g hg=>h g (by simp[hg])
  refine⟨(f.offset,inf.size)::pl,by simp[hi,h1],fun i g hg=>?_⟩;cases i with
  |zero=>simp at hg;subst hg;exact⟨inf,hi,rfl⟩
  |succ i=>exact h2 i g (by simpa using hg)
theorem Qlq{E:Env}(hT:TabOk P T){fs:List (TypeId×Nat)}{place:Nat→Option (Nat×Nat)}(hpl:∀i u o ti,fs[i]?=some (u,o)→T.ty u=some ti→place i=some (o,ti.size)) :
 ∀{ps:List (Nat×AV)} {vs:List (Nat×Value)} {cs0 cs:List Cell} {cur:Array Value},PsR E ps vs→IR E cs0 cur.toList→Qlh T fs ps cs0=some cs→∃arr,Instr.fill place cur vs=some arr∧IR E cs arr.toList
 | [],_,cs0,cs,cur,hr,hi,h=>by
   simp only[PsR] at hr;subst hr;simp only[Qlh,Yc] at h;subst h;exact⟨cur,rfl,hi⟩
 |(j,x)::ps,_,cs0,cs,cur,⟨v,r,e,hx,hr⟩,hi,h=>by
  subst e;cases x with
  |dead=>simp[Qlh] at h
  |tup _=>simp[Qlh] at h
  |one x =>
   unfold Qlh at h;cases hfj:fs[j]? with
   |none=>rw[hfj] at h;cases h
   |some uo =>
    obtain⟨u,o⟩:=uo;rw[hfj] at h;simp only at h;cases hti:T.ty u with
    |none=>rw[hti] at h;cases h
    |some ti =>
     rw[hti] at h;simp only at h;split at h
     ·rename_i hc;rw[Yj] at hc;have hvr:=V1R.cells hx
      have hsz1:sizes x.items=ti.size:=by
       have:=Yg hc.1;rwa[QeW,Jh] at this
      have hpos:0<sizes x.items:=by
       have:=YT hc.2;omega
      have hvl:v.cells.size=ti.size:=by rw[←hsz1,←hvr.len];simp
      cases hs:Qbs cs0 o x.items with
      |none=>rw[hs] at h;cases h
      |some cs1 =>
       rw[hs] at h;simp only at h;have hj:=QeX hvr hi hs hpos;obtain⟨p,q,s,e,hp1,hq,hir,_⟩:=QcH hvr hi hs hj;have hq':q.length=v.cells.size:=by simpa using hq
       have hlen:cur.size=p.length+q.length+s.length:=by
        have:=Yv List.length e;simpa[Nat.add_assoc] using this
       have hput:=QjY v.cells.toList 0 o cur (by simp;omega)
       have hz:v.cells.zipIdx.foldl (fun cs (x:Value×Nat)=>cs.setIfInBounds (o+x.2) x.1) cur=((v.cells.toList.zipIdx 0).foldl (fun cs (x:Value×Nat)=>cs.setIfInBounds (o+x.2) x.1) cur):=by
        rw[←Array.foldl_toList];simp
       have hnew:((v.cells.toList.zipIdx 0).foldl (fun cs (x:Value×Nat)=>cs.setIfInBounds (o+x.2) x.1) cur).toList=p++v.cells.toList++s:=by
        rw[hput,e,Nat.add_zero,←hp1];exact Qdv p q s v.cells.toList (by simpa using hq'.symm)
       obtain⟨arr,h1,h2⟩:=Qlq hT hpl hr (by rw[hnew];exact hir) h;refine⟨arr,?_,h2⟩;simp only[Instr.fill,hpl j u o ti hfj hti];rw[Yb (by simp[hvl];omega),hz];exact h1
     ·cases h
theorem QqY{E:Env}{a:AV}{v:Value}{k:IntKind}{y:Int}(h:Qoj a=some (k,y))(ha:AVR E a v):v=.int k y:=by
 unfold Qoj at h;split at h
 ·simp only[Yc,YM] at h;obtain⟨rfl,rfl⟩:=h;obtain⟨e,_⟩:=ha;injection e with e
 ·cases h
theorem Qhx{E:Env}{k:IntKind}{n:Nat}:∀{ps:List (Nat×AV)} {vs:List (Nat×Value)} {l l':List Int} {cur:Array Value},PsR E ps vs→l.length=n→cur.toList=l.map (.int k)→Qgd k n ps l=some l' →
 ∃arr,Instr.fill (fun i=>some (i*1,1)) cur vs=some arr∧l'.length=n∧arr.toList=l'.map (.int k)
 | [],_,l,l',cur,hr,hl,hc,h=>by
   simp only[PsR] at hr;subst hr;simp only[Qgd,Yc] at h;subst h;exact⟨cur,rfl,hl,hc⟩
 |(j,x)::ps,_,l,l',cur,⟨v,r,e,hx,hr⟩,hl,hc,h=>by
  subst e;unfold Qgd at h;cases hi:Qoj x with
  |none=>rw[hi] at h;cases h
  |some ky =>
   obtain⟨k',y⟩:=ky;rw[hi] at h;simp only at h;split at h
   ·rename_i hcnd;rw[Yj] at hcnd;have hk:k'=k:=Ya hcnd.1;have hj:j<n:=YT hcnd.2;subst hk;have hv:=QqY hi hx;subst hv
    have hcs:cur.size=n:=by
     have:=Yv List.length hc;simpa[hl] using this
    obtain⟨arr,h1,h2,h3⟩:=Qhx (cur:=cur.setIfInBounds j (.int k' y)) hr (l:=l.set j y) (by simpa using hl) (by simp[hc,List.map_set]) h;refine⟨arr,?_,h2,h3⟩;simp only[Instr.fill];rw[Yb (by simp[Value.cells];omega)];simpa[Value.cells] using h1
   ·cases h
theorem QsY{E:Env}(hT:TabOk P T){t:TypeId}{ps:List (Nat×AV)}{vs:Array (Nat×Value)}{r:Res}(hr:PsR E ps vs.toList)(h:QsJ T t ps=some r) :
 ∃v,(Instr.build t vs).run P E.w=.ok v E.w∧AVR E r.val v∧r.add=[]∧r.set=[]∧r.pre=none:=by
 unfold QsJ at h;split at h
 ·rename_i fs sz by_ z ety cmp ht;have hok:=hT.ty t _ ht;have hu:=hok.und;simp only[QZ] at hu;obtain⟨F,hF,hfs,hinf⟩:=hu;obtain⟨it,zv,h1,h2,h3,h4,h5,h6,_⟩:=hok.inf;cases hfl:Qlh T fs ps z with
  |none=>rw[hfl] at h;cases h
  |some cs =>
   rw[hfl] at h;simp only[ok1,Yc] at h;subst h;obtain⟨pl,hpl1,hpl2⟩:=Qlp (P:=P) F.toList (fun f hf=>hinf f (by simpa using hf))
   obtain⟨arr,ha,hir⟩:=Qlq (E:=E) (place:=fun x=>pl[x]?) hT (fun i u o ti hfo hti=>by
    obtain⟨f,g1,g2,g3⟩:=hfs i u o hfo;obtain⟨inf,g4,g5⟩:=hpl2 i f (by simpa using g1);obtain⟨i',z',k1,k2,_⟩:=(hT.ty u ti hti).inf;rw[g2] at g4;rw[g4] at k1;injection k1 with k1
    subst k1
    simp[g5,g3,k2]) hr (h5 E) hfl
   refine⟨.agg arr,run_build E.w t vs arr ?_,⟨arr,rfl,hir⟩,rfl,rfl,rfl⟩;simp[Program.built,h1,hF,h4,hpl1];exact ha
 ·rename_i m e sz by_ k n l ety cmp ht;have hok:=hT.ty t _ ht;have hu:=hok.und;simp only[QZ] at hu;obtain⟨it,zv,h1,h2,h3,h4,h5,h6,_⟩:=hok.inf;cases hti:T.ty e with
  |none=>rw[hti] at h;cases h
  |some ti =>
   rw[hti] at h;simp only at h;split at h
   ·rename_i hs;have hs1:=Yg hs;cases hfl:Qgd k n ps l with
    |none=>rw[hfl] at h;cases h
    |some l' =>
     rw[hfl] at h;simp only[ok1,Yc] at h;subst h;obtain⟨ie,ze,k1,k2,_⟩:=(hT.ty e ti hti).inf;obtain⟨a,b,e1,⟨hln,e2⟩,e3⟩:=h5 E;simp only[IR] at e3;subst e3;obtain⟨arr,ha,hl',hal⟩:=Qhx (k:=k) (n:=n) (cur:=zv.cells) hr hln (by rw[e1,e2];simp) hfl;refine⟨.agg arr,run_build E.w t vs arr ?_,⟨arr,rfl,_,[],by rw[hal];simp,⟨hl',rfl⟩,rfl⟩,rfl,rfl,rfl⟩;simp[Program.built,h1,hu,h4,k1,k2.trans hs1];simpa using ha
   ·cases h
 ·cases h
end
section
variable {P:Program} {T:Tab}
def Qhy(E:Env):Frame:={ w0:=E.w,own0:=fun g=>∃b x,E.H b=some x∧E.ρ b=some g,S0:=E.S }
theorem Qjh{E:Env}:FrameOk (Qhy E) E :=
 ⟨rfl,rfl,rfl,YE _,fun _ _ _=>rfl,fun b x g hx hr=>.inr ⟨b,x,hx,hr⟩,fun g hg=>.inl hg⟩
structure Back(E0:Env)(m:Nat)(r:AV)(upd:List (Option Blk))(fresh:List Blk)(v:Value)(E':Env):Prop where
 val:AVR E' r v
 ok:HeapOk E'
 H:∀b,E'.H b=if b<m then (upd[b]?).getD none else fresh[b-m]?
 U:∀b,E'.U b↔b<m+fresh.length
 ext:Ext E0 E'
 fr:FrameOk (Qhy E0) E'
def CSound(P:Program)(f:FuncId)(s:CSpec):Prop :=
 ∀(E0:Env) (vs:Array Value) (args:List V1) (bl:List Blk) (p:Option Prop) (r:AV) (upd:List (Option Blk)) (fresh:List Blk),
   (∀b,E0.H b=bl[b]?)→(∀b,E0.U b↔b<bl.length)→HeapOk E0→VsR E0 args vs.toList→s.run args bl=some (p,r,upd,fresh)→(∀q,p=some q→q) →
   Calls P f vs E0.w fun e w'=>∃v E',e=.returned v∧E'.w=w'∧Back E0 bl.length r upd fresh v E'
def Enters(P:Program)(f:FuncId):Prop:=∃fn,P.funcs[f]?=some fn∧(fn.name == "runtime.NumGoroutine")=false∧fn.body.isSome=true
def Q7(P:Program)(T:Tab):Prop:=∀f s,T.fn f=some s→CSound P f s∧Enters P f
theorem QcI(f:Nat→Nat)(b:Blk):shape (b.rn f)=shape b:=by
 cases b with
 |arr _ _=>rfl
 |var cs =>
  simp only[Blk.rn,shape,List.map_map];congr 1;apply List.map_congr_left;intro c _;cases c<;>rfl
 |mp _ _ _ _=>rfl
theorem QaI.rn{E E':Env}{f:Nat→Nat}(hw:E'.w=E.w) :
 {c:Cell}→{vs:List Value}→((∀g,E.S g→E'.S g)∨c.isRo=false)→(∀i∈c.names,E.U i→E'.U (f i)∧∀x,E'.H (f i)=some x→∃x',E.H i=some x'∧shape x=shape x'∧E'.ρ (f i)=E.ρ i)→QaI E c vs→QaI E' (c.rn f) vs
 |.imm _,_,_,_,hc=>hc
 |.run _ _ _,_,_,_,hc=>hc
 |.ro t l,_,hS0,_,⟨v,e,hs⟩=>have hS:=hS0.resolve_right (by simp[Cell.isRo]);⟨v,e,hs.mono (fun g hg=>⟨hS g hg,by rw[hw]⟩) fun _ _ hx=>hx.mono fun g hg=>⟨hS g hg,by rw[hw]⟩⟩
 |.rptr t l i j,_,hS0,_,⟨hi,ad,us,e,hs,hl,hc⟩=>have hS:=hS0.resolve_right (by simp[Cell.isRo]);⟨hi,ad,us,e,hS _ hs,hl.mono fun _ _ hx=>hx.mono fun g hg=>⟨hS g hg,by rw[hw]⟩,fun k u hu=>by rw[hw];exact hc k u hu⟩
 |.own b,_,_,h0,⟨v,e,hu,hh⟩=>by
  have h:=h0 b (by simp[Cell.names]);refine⟨v,e,(h hu).1,fun t l hb=>?_⟩;obtain⟨x',hx,hsh,hr⟩:=(h hu).2 _ hb;obtain⟨l',rfl,hl⟩:=Qc5 hsh;rcases hh t l' hx with⟨h1,h2⟩|⟨g,cs,el,cap,h1,h2,h3,h4,h5⟩
  ·exact .inl ⟨hr.trans h1,h2⟩
  ·exact .inr ⟨g,cs,el,cap,hr.trans h1,by rw[hw];exact h2,by rw[h3,hl],by omega,h5⟩
 |.sub b off len,_,_,h0,⟨v,e,hu,hh⟩=>by
  have h:=h0 b (by simp[Cell.names]);refine⟨v,e,(h hu).1,fun t l hb=>?_⟩;obtain⟨x',hx,hsh,hr⟩:=(h hu).2 _ hb;obtain⟨l',rfl,hl⟩:=Qc5 hsh;obtain⟨h0,h1⟩:=hh t l' hx;refine⟨by omega,?_⟩;rcases h1 with⟨h1,h2,h3⟩|⟨g,ad,cap,h1,h2⟩
  ·exact .inl ⟨hr.trans h1,h2,h3⟩
  ·exact .inr ⟨g,ad,cap,hr.trans h1,h2⟩
 |.srun b j,_,_,h0,⟨v,e,hu,hh⟩=>by
  have h:=h0 b (by simp[Cell.names]);refine⟨v,e,(h hu).1,fun cs c hb hi=>?_⟩;obtain⟨x',hx,hsh,hr⟩:=(h hu).2 _ hb;obtain⟨cs',rfl,hm⟩:=QaN hsh;obtain⟨c',hc',hs'⟩:=QeV hm hi;obtain⟨g,cap,h1,h2,h3⟩:=hh cs' c' hx hc';exact⟨g,cap,hr.trans h1,by rw[h2,hs'],by omega⟩
 |.svar b j n,_,_,h0,⟨v,e,hu,hh⟩=>by
  have h:=h0 b (by simp[Cell.names]);refine⟨v,e,(h hu).1,fun cs hb=>?_⟩;obtain⟨x',hx,hsh,hr⟩:=(h hu).2 _ hb;obtain⟨cs',rfl,hm⟩:=QaN hsh;obtain⟨g,cap,h1,h2,h3⟩:=hh cs' hx;exact⟨g,cap,hr.trans h1,h2,h3⟩
 |.ptr b j,_,_,h0,⟨v,e,hu,hh⟩=>by
  have h:=h0 b (by simp[Cell.names]);refine⟨v,e,(h hu).1,fun cs hb=>?_⟩;obtain⟨x',hx,hsh,hr⟩:=(h hu).2 _ hb;obtain⟨cs',rfl,hm⟩:=QaN hsh;obtain⟨g,h1,h2⟩:=hh cs' hx;exact⟨g,hr.trans h1,h2⟩
 |.pel b i j,_,_,h0,⟨v,e,hu,hh⟩=>by
  have h:=h0 b (by simp[Cell.names]);refine⟨v,e,(h hu).1,fun t l hb hi=>?_⟩;obtain⟨x',hx,hsh,hr⟩:=(h hu).2 _ hb;obtain⟨l',rfl,hl⟩:=Qc5 hsh;obtain⟨g,h1,h2⟩:=hh t l' hx (by omega);exact⟨g,hr.trans h1,h2⟩
 |.pidx b j i,_,_,h0,⟨v,e,hu,hh⟩=>by
  have h:=h0 b (by simp[Cell.names]);refine⟨v,e,(h hu).1,fun cs hb=>?_⟩;obtain⟨x',hx,hsh,hr⟩:=(h hu).2 _ hb;obtain⟨cs',rfl,hm⟩:=QaN hsh;obtain⟨g,h1,h2⟩:=hh cs' hx;exact⟨g,hr.trans h1,h2⟩
 |.fn g bs,_,_,h0,⟨caps,e,hs,hh⟩=>by
  refine⟨caps,e,by simpa using hs,fun i b hb=>?_⟩;rw[Jc] at hb;cases hbi:bs[i]? with
  |none=>rw[hbi] at hb;cases hb
  |some b0 =>
   rw[hbi] at hb;injection hb with hb
   subst hb;obtain⟨u,hu1,hu2,h1,h2⟩:=hh i b0 hbi;have h:=h0 b0 (by simp only[Cell.names];exact List.mem_of_getElem? hbi);refine⟨u,hu1,hu2,(h h1).1,fun cs hx'=>?_⟩;obtain⟨x',hx,hsh,hr⟩:=(h h1).2 _ hx';obtain⟨cs',rfl,hm⟩:=QaN hsh;obtain⟨g,h3,h4⟩:=h2 cs' hx;exact⟨g,hr.trans h3,h4⟩
 |.ifc t b,_,_,h0,⟨v,e,hu,hh⟩=>by
  have h:=h0 b (by simp[Cell.names]);refine⟨v,e,(h hu).1,fun cs hb=>?_⟩;obtain⟨x',hx,hsh,hr⟩:=(h hu).2 _ hb;obtain⟨cs',rfl,hm⟩:=QaN hsh;obtain⟨g,h1,h2⟩:=hh cs' hx;exact⟨g,hr.trans h1,h2⟩
 |.map b,_,_,h0,⟨v,e,hu,hh⟩=>by
  have h:=h0 b (by simp[Cell.names]);refine⟨v,e,(h hu).1,fun ka kt vt l hb=>?_⟩;obtain⟨x',hx,hsh,hr⟩:=(h hu).2 _ hb;obtain⟨l',rfl⟩:=Qor hsh;obtain⟨g,h1,h2⟩:=hh ka kt vt l' hx;exact⟨g,hr.trans h1,h2⟩
def Qxn(E E':Env)(f:Nat→Nat)(i:Nat):Prop :=
 E.U i→E'.U (f i)∧∀x,E'.H (f i)=some x→∃x',E.H i=some x'∧shape x=shape x'∧E'.ρ (f i)=E.ρ i
theorem IR.rn{E E':Env}{f:Nat→Nat}(hw:E'.w=E.w):∀{cs:List Cell} {vs:List Value},((∀g,E.S g→E'.S g)∨cs.any Cell.isRo=false)→(∀i∈cs.flatMap (·.names),Qxn E E' f i)→IR E cs vs→IR E' (cs.map (·.rn f)) vs
 | [],_,_,_,hc=>hc
 |c::cs,_,hS,h,⟨r,s,e,h1,h2⟩=>⟨r,s,e,h1.rn hw (hS.imp id fun e=>by simp at e;exact e.1) (fun i hi=>h i (by simp[hi])),h2.rn hw (hS.imp id fun e=>by simp at e ⊢;exact e.2) (fun i hi=>h i (by simp at hi ⊢;exact .inr hi))⟩
theorem V1R.rn{E E':Env}{f:Nat→Nat}(hw:E'.w=E.w):{x:V1}→{v:Value}→((∀g,E.S g→E'.S g)∨x.hasRo=false)→(∀i∈x.names,Qxn E E' f i)→V1R E x v→V1R E' (x.rn f) v
 |.c _,_,hS,h,hc=>QaI.rn hw hS h hc
 |.agg _,_,hS,h,⟨vals,e,hc⟩=>⟨vals,e,hc.rn hw hS h⟩
theorem VsR.rn{E E':Env}{f:Nat→Nat}(hw:E'.w=E.w):∀{xs:List V1} {vs:List Value},((∀g,E.S g→E'.S g)∨xs.any (·.hasRo)=false)→(∀i∈xs.flatMap (·.names),Qxn E E' f i)→VsR E xs vs→VsR E' (xs.map (·.rn f)) vs
 | [],_,_,_,hc=>hc
 |_::_,_,hS,h,⟨v,r,e,h1,h2⟩=>⟨v,r,e,h1.rn hw (hS.imp id fun e=>by simp at e;exact e.1) (fun i hi=>h i (by simp[hi])),h2.rn hw (hS.imp id fun e=>by simp at e ⊢;exact e.2) (fun i hi=>h i (by simp at hi ⊢;exact .inr hi))⟩
def AV.names:AV→List Nat
 |.dead=>[]
 |.one v=>v.names
 |.tup l=>l.flatMap (·.names)
theorem AVR.rn{E E':Env}{f:Nat→Nat}(hw:E'.w=E.w):{x:AV}→{v:Value}→((∀g,E.S g→E'.S g)∨x.hasRo=false)→(∀i∈x.names,Qxn E E' f i)→AVR E x v→AVR E' (x.rn f) v
 |.dead,_,_,_,_=>trivial
 |.one _,_,hS,h,hc=>V1R.rn hw hS h hc
 |.tup _,_,hS,h,⟨vs,e,hc⟩=>⟨vs,e,hc.rn hw hS h⟩
theorem Qoq.rn{E E':Env}{f:Nat→Nat}{i:Nat}{x:Blk}(hw:E'.w=E.w)(hS:(∀g,E.S g→E'.S g)∨x.plain=true)(h:∀j∈x.names,Qxn E E' f j)(hr:E'.ρ (f i)=E.ρ i)(hb:Qoq E i x):Qoq E' (f i) (x.rn f):=by
 cases x with
 |arr t l =>
  rcases hb with⟨h1,h2⟩|⟨g,cs,el,us,spare,h1,h2,h3,h4⟩
  ·exact .inl ⟨hr.trans h1,h2⟩
  ·refine .inr ⟨g,cs,el,us,spare,hr.trans h1,by rw[hw];exact h2,h3,h4.mono fun _ _ hx=>?_⟩;rcases hS with hS|hS
   ·exact hx.mono fun g hg=>⟨hS g hg,by rw[hw]⟩
   ·exact hx.flat hS
 |var is =>
  obtain⟨g,cs,el,h1,h2,h3⟩:=hb;exact⟨g,cs,el,hr.trans h1,by rw[hw];exact h2,h3.rn hw (hS.imp id fun e=>by simp[Blk.plain] at e ⊢;exact e) h⟩
 |mp ka kt vt l =>
  obtain⟨g,es,c,h1,h2,h3⟩:=hb;exact⟨g,es,c,hr.trans h1,by rw[hw];exact h2,h3⟩
theorem VsR.len{E:Env}:∀{xs:List V1} {vs:List Value},VsR E xs vs→vs.length=xs.length
 | [],_,h=>by simp only[VsR] at h;subst h;rfl
 |_::_,_,⟨_,_,e,_,h⟩=>by subst e;simp[h.len]
end
section
variable {P:Program} {T:Tab}
theorem Qj1:∀(l:List Blk) (H:Nat→Option Blk) (nm b:Nat),addF H nm l b=if nm≤b∧b<nm+l.length then l[b-nm]? else H b
 | [],H,nm,b=>by simp[addF];omega
 |x::l,H,nm,b=>by
  rw[addF,Qj1 l];by_cases h:b=nm
  ·subst h;rw[Yb (by omega),Yf (by simp)];simp
  ·by_cases h2:nm+1≤b∧b<nm+1+l.length
   ·rw[Yf h2,Yf (by simp;omega),show b-nm=(b-(nm+1))+1 from by omega];simp
   ·rw[Yb h2,Yb h,Yb (by simp;omega)]
theorem QdZ{α β:Type}{f:α→Option β}:∀{l:List α} {r:List β},Qfe f l=some r→r.length=l.length∧∀(i:Nat) x,l[i]?=some x→∃y,f x=some y∧r[i]?=some y
 | [],r,h=>by
   simp only[Qfe,Yc] at h;subst h;exact⟨rfl,fun i x h=>by simp at h⟩
 |a::l,r,h=>by
  unfold Qfe at h;cases h1:f a with
  |none=>rw[h1] at h;cases h
  |some y =>
   rw[h1] at h;simp only at h;cases h2:Qfe f l with
   |none=>rw[h2] at h;cases h
   |some ys =>
    rw[h2] at h;injection h with h
    subst h;obtain⟨h3,h4⟩:=QdZ h2;refine⟨by simp[h3],fun i x hx=>?_⟩;cases i with
    |zero=>simp at hx;subst hx;exact⟨y,h1,rfl⟩
    |succ i=>exact h4 i x (by simpa using hx)
def Qd0(E:Env)(us:List Nat):Env:={ w:=E.w,ρ:=fun _=>none,S:=SU E us,H:=fun _=>none,U:=fun _=>False }
theorem Qoy{E:Env}(hH:HeapOk E)(us:List Nat):HeapOk (Qd0 E us) :=
 ⟨fun b x h=>by simp[Qd0] at h,fun b b' x x' g h=>by simp[Qd0] at h,fun g hg=>by
   rcases hg with hg|⟨u,y,hu,hy,hr⟩
   ·exact hH.st g hg
   ·exact(QaU hH hy hr).1⟩
theorem Qlr{E:Env}{look:Nat→Option Blk}(hH:HeapOk E)(hl:∀b x,look b=some x→E.H b=some x){us:List Nat}{c c':Cell}{vs:List Value}(hu:∀n∈c.names,n∈us)(h:QdW look c=some c')(hc:QaI E c vs):QaI (Qd0 E us) c' vs:=by
 unfold QdW at h;split at h
 ·injection h with h;subst h;exact hc
 ·injection h with h;subst h;exact hc
 ·injection h with h
  subst h;obtain⟨caps,e,h1,_⟩:=hc;exact⟨caps,e,h1,fun i b hb=>by simp at hb⟩
 ·split at h
  ·rename_i t l hs;injection h with h
   subst h;have hlen:=hc.len;have:c.size=1:=by cases c<;>first|rfl|(simp[Qax] at hs)
   rw[this] at hlen
   match vs,hlen with
   | [v],_ =>
     exact⟨v,rfl,(Qcm hH hl hs hc).mono (fun g hg=>⟨hg.mono hu,rfl⟩) fun _ _ hx=>hx.mono fun g hg=>⟨.inl hg,rfl⟩⟩
  ·cases h
theorem QAz{E:Env}{look:Nat→Option Blk}(hH:HeapOk E)(hl:∀b x,look b=some x→E.H b=some x){us:List Nat}:∀{cs cs':List Cell} {vs:List Value},(∀n∈cs.flatMap (·.names),n∈us)→Qfe (QdW look) cs=some cs'→IR E cs vs→IR (Qd0 E us) cs' vs
 | [],cs',vs,_,h,hr=>by
   simp only[Qfe,Yc] at h;subst h;exact hr
 |c::cs,cs',_,hu,h,⟨r,s,e,h1,h2⟩=>by
  subst e;unfold Qfe at h;cases h3:QdW look c with
  |none=>rw[h3] at h;cases h
  |some y =>
   rw[h3] at h;simp only at h;cases h4:Qfe (QdW look) cs with
   |none=>rw[h4] at h;cases h
   |some ys =>
    rw[h4] at h;injection h with h
    subst h;exact⟨r,s,rfl,Qlr hH hl (fun n hn=>hu n (by simp[hn])) h3 h1,QAz hH hl (fun n hn=>hu n (by simp at hn ⊢;exact .inr hn)) h4 h2⟩
theorem QsZ{E:Env}{look:Nat→Option Blk}(hH:HeapOk E)(hl:∀b x,look b=some x→E.H b=some x){us:List Nat}{x y:V1}{v:Value}(hu:∀n∈x.names,n∈us)(h:Qfm look x=some y)(hx:V1R E x v):V1R (Qd0 E us) y v:=by
 cases x with
 |c c =>
  simp only[Qfm] at h;cases h1:QdW look c with
  |none=>rw[h1] at h;cases h
  |some c'=>rw[h1] at h;injection h with h;subst h;exact Qlr hH hl hu h1 hx
 |agg cs =>
  simp only[Qfm] at h;cases h1:Qfe (QdW look) cs with
  |none=>rw[h1] at h;cases h
  |some cs' =>
   rw[h1] at h;injection h with h;subst h
   obtain⟨vals,e,hr⟩:=hx;exact⟨vals,e,QAz hH hl hu h1 hr⟩
theorem Qgg{E:Env}{look:Nat→Option Blk}(hH:HeapOk E)(hl:∀b x,look b=some x→E.H b=some x){us:List Nat}:∀{xs ys:List V1} {vs:List Value},(∀n∈xs.flatMap (·.names),n∈us)→Qfe (Qfm look) xs=some ys→VsR E xs vs→VsR (Qd0 E us) ys vs
 | [],ys,vs,_,h,hr=>by
   simp only[Qfe,Yc] at h;subst h;exact hr
 |x::xs,ys,_,hu,h,⟨v,r,e,h1,h2⟩=>by
  subst e;unfold Qfe at h;cases h3:Qfm look x with
  |none=>rw[h3] at h;cases h
  |some y =>
   rw[h3] at h;simp only at h;cases h4:Qfe (Qfm look) xs with
   |none=>rw[h4] at h;cases h
   |some ys' =>
    rw[h4] at h;injection h with h
    subst h;exact⟨v,r,rfl,QsZ hH hl (fun n hn=>hu n (by simp[hn])) h3 h1,Qgg hH hl (fun n hn=>hu n (by simp at hn ⊢;exact .inr hn)) h4 h2⟩
theorem Qhz{look:Nat→Option Blk}{c c':Cell}(h:QdW look c=some c')(ho:c.isOwn=false):c.names=[]:=by
 cases c<;>first
  |rfl
  |(simp[Cell.isOwn] at ho;done)
  |(simp[QdW,Qax] at h;done)
  |(rename_i f bs
    cases bs with
    |nil=>rfl
    |cons a r=>simp[QdW,Qax] at h)
theorem Qji{look:Nat→Option Blk}:∀{cs cs':List Cell},Qfe (QdW look) cs=some cs'→cs.any Cell.isOwn=false→cs.flatMap (·.names)=[]
 | [],_,_,_=>rfl
 |c::cs,cs',h,ho=>by
  unfold Qfe at h;cases h3:QdW look c with
  |none=>rw[h3] at h;cases h
  |some y =>
   rw[h3] at h;simp only at h;cases h4:Qfe (QdW look) cs with
   |none=>rw[h4] at h;cases h
   |some ys =>
    simp only[List.any_cons,Bool.or_eq_false_iff] at ho;simp[Qhz h3 ho.1,Qji h4 ho.2]
theorem Qnc{look:Nat→Option Blk}{x y:V1}(h:Qfm look x=some y)(ho:x.hasOwn=false):x.names=[]:=by
 cases x with
 |c c =>
  simp only[Qfm] at h;cases h1:QdW look c with
  |none=>rw[h1] at h;cases h
  |some c'=>exact Qhz h1 ho
 |agg cs =>
  simp only[Qfm] at h;cases h1:Qfe (QdW look) cs with
  |none=>rw[h1] at h;cases h
  |some cs'=>exact Qji h1 ho
theorem QgJ{look:Nat→Option Blk}:∀{xs ys:List V1},Qfe (Qfm look) xs=some ys→xs.any (·.hasOwn)=false→xs.flatMap (·.names)=[]
 | [],_,_,_=>rfl
 |c::cs,cs',h,ho=>by
  unfold Qfe at h;cases h3:Qfm look c with
  |none=>rw[h3] at h;cases h
  |some y =>
   rw[h3] at h;simp only at h;cases h4:Qfe (Qfm look) cs with
   |none=>rw[h4] at h;cases h
   |some ys =>
    simp only[List.any_cons,Bool.or_eq_false_iff] at ho;simp[Qnc h3 ho.1,QgJ h4 ho.2]
theorem Qls{E:Env}(hH:HeapOk E){us:List Nat}{nm:Nat}{r:AV}{fresh:List Blk}{p:Option Prop}{v:Value}{E':Env}(hnm:∀k,k<fresh.length→¬E.U (nm+k))(hb:Back (Qd0 E us) 0 r [] fresh v E')
 (hro:us=[]∨(r.hasRo=false∧∀b∈fresh,b.plain=true)) :
 ∃E'',E''.w=E'.w∧Step E { pre:=p,val:=r.rn (fun i=>nm+i),add:=fresh.map (·.rn (fun i=>nm+i)),set:=[] } nm E''∧AVR E'' (r.rn (fun i=>nm+i)) v:=by
 have hfrz:∀g,¬(Qhy (Qd0 E us)).own0 g:=by
  rintro g ⟨b,x,h,_⟩
  simp[Qd0] at h
 have hsize:E.w.heap.size≤E'.w.heap.size:=hb.fr.size;have hold:∀g,g<E.w.heap.size→E'.w.heap[g]?=E.w.heap[g]?:=fun g hg=>hb.fr.old g hg (hfrz g)
 have hHf:∀b,E'.H b=fresh[b]?:=fun b=>by rw[hb.H b,Yb (by omega)];rfl
 have hUf:∀b,E'.U b↔b<fresh.length:=fun b=>by rw[hb.U b];omega
 have hown:∀b x g,E'.H b=some x→E'.ρ b=some g→E.w.heap.size≤g:=fun b x g hx hr=>(hb.fr.own b x g hx hr).resolve_right (hfrz g)
 let E'':Env:=Env.mk E'.w (fun b=>if nm≤b∧b<nm+fresh.length then E'.ρ (b-nm) else E.ρ b) (fun g=>E.S g∨(E.w.heap.size≤g∧E'.S g))
  (fun b=>if nm≤b∧b<nm+fresh.length then (fresh[b-nm]?).map (·.rn (fun i=>nm+i)) else E.H b) (fun b=>E.U b∨(nm≤b∧b<nm+fresh.length))
 have hin:∀b,E.U b→¬(nm≤b∧b<nm+fresh.length):=fun b hU h=>hnm (b-nm) (by omega) (by rwa[show nm+(b-nm)=b from by omega])
 have hlive:∀b x,E.H b=some x→¬(nm≤b∧b<nm+fresh.length):=fun b x hx=>hin b (hH.blk b x hx).1
 have hext:Ext E E'':=by
  refine⟨fun g hg=>⟨.inl hg,hold g (hH.st g hg)⟩,fun b h=>.inl h,fun b x' hU hx=>?_⟩;have hx:E.H b=some x':=by simpa[E'',hin b hU] using hx
  refine⟨x',hx,by simp[E'',hin b hU],rfl,fun g cs el hr hc=>⟨cs,?_,rfl⟩⟩;exact(hold g (Jg.1 hc).1).trans hc
 have hat:∀i,Qxn E' E'' (fun i=>nm+i) i:=by
  intro i hi;rw[hUf] at hi;have h1:nm≤nm+i∧nm+i<nm+fresh.length:=by omega
  refine⟨.inr h1,fun x hx=>?_⟩;simp only[E'',h1,and_self,if_true,Nat.add_sub_cancel_left] at hx;cases hf:fresh[i]? with
  |none=>rw[hf] at hx;cases hx
  |some y =>
   rw[hf] at hx;injection hx with hx
   subst hx;exact⟨y,by rw[hHf,hf],QcI _ _,by simp[E'',h1]⟩
 have hS1:us=[]→∀g,E'.S g→E''.S g:=by
  intro he g hg;rcases hb.fr.S g hg with h|h|h
  ·left;rcases h with h|⟨u,_,hu,_⟩
   ·exact h
   ·subst he;simp at hu
  ·exact .inr ⟨h,hg⟩
  ·exact YD h (hfrz g)
 have hS2:(∀g,E'.S g→E''.S g)∨r.hasRo=false:=hro.imp hS1 (·.1)
 have hnew:∀b,nm≤b∧b<nm+fresh.length→∀x,E''.H b=some x→∃y,fresh[b-nm]?=some y∧x=y.rn (fun i=>nm+i):=by
  intro b hbn x hx;simp only[E'',hbn,and_self,if_true] at hx;cases hf:fresh[b-nm]? with
  |none=>rw[hf] at hx;cases hx
  |some y=>rw[hf] at hx;injection hx with hx;exact⟨y,rfl,hx.symm⟩
 refine⟨E'',rfl,⟨hext,⟨fun b x hx=>?_,fun b b' x x' g hx hx' hr hr'=>?_,fun g hg=>?_⟩,fun b=>?_,fun b=>?_,fun F hF=>⟨hb.fr.os.trans hF.os,hb.fr.tape.trans hF.tape,hb.fr.output.trans hF.output,YG hF.size hsize,fun g hg ho=>?_,fun b x g hx hr=>?_,fun g hg=>?_⟩⟩,?_⟩
 ·by_cases hbn:nm≤b∧b<nm+fresh.length
  ·obtain⟨y,hf,rfl⟩:=hnew b hbn x hx;have hy:E'.H (b-nm)=some y:=by rw[hHf,hf]
   obtain⟨h1,h2,h3⟩:=hb.ok.blk _ _ hy;have hmem:y∈fresh:=List.mem_of_getElem? hf;have:=Qoq.rn (E:=E') (E':=E'') (f:=fun i=>nm+i) (i:=b-nm) rfl (hro.imp hS1 (fun h=>h.2 y hmem)) (fun j _=>hat j) (by show E''.ρ (nm+(b-nm))=_;simp only[E''];rw[Yf (by omega)];congr 1;omega) h2;rw[show nm+(b-nm)=b from by omega] at this;refine⟨.inr hbn,this,fun g hg=>?_⟩;simp only[E'',hbn,and_self,if_true] at hg;have hge:=hown _ _ _ hy hg
   rintro (h|⟨_,h⟩)
   ·have:=hH.st g h;omega
   ·exact h3 g hg h
  ·simp only[E'',hbn,if_false] at hx;obtain⟨h1,h2,h3⟩:=hH.blk b x hx;refine⟨.inl h1,h2.ext hext (by simp[E'',hbn]) (fun g hg=>hold g (QaU hH hx hg).1),fun g hg=>?_⟩;simp only[E'',hbn,if_false] at hg;have hlt:=(QaU hH hx hg).1
   rintro (h|⟨h,_⟩)
   ·exact h3 g hg h
   ·omega
 ·by_cases hbn:nm≤b∧b<nm+fresh.length<;>by_cases hbn':nm≤b'∧b'<nm+fresh.length
  ·obtain⟨y,hf,rfl⟩:=hnew b hbn x hx;obtain⟨y',hf',rfl⟩:=hnew b' hbn' x' hx';simp only[E'',hbn,hbn',and_self,if_true] at hr hr';have:=hb.ok.inj _ _ y y' g (by rw[hHf,hf]) (by rw[hHf,hf']) hr hr';omega
  ·obtain⟨y,hf,rfl⟩:=hnew b hbn x hx;simp only[E'',hbn,hbn',and_self,if_true,if_false] at hx' hr hr';have h1:=hown _ y _ (by rw[hHf,hf]) hr;have h2:=(QaU hH hx' hr').1;omega
  ·obtain⟨y,hf,rfl⟩:=hnew b' hbn' x' hx';simp only[E'',hbn,hbn',and_self,if_true,if_false] at hx hr hr';have h1:=hown _ y _ (by rw[hHf,hf]) hr';have h2:=(QaU hH hx hr).1;omega
  ·simp only[E'',hbn,hbn',if_false] at hx hx' hr hr';exact hH.inj b b' x x' g hx hx' hr hr'
 ·rcases hg with h|⟨_,h⟩
  ·have:=hH.st g h;exact Jn this hsize
  ·exact hb.ok.st g h
 ·simp only[Qgf,Qj1,Jf];by_cases hbn:nm≤b∧b<nm+fresh.length
  ·simp[E'',hbn]
  ·simp[E'',hbn]
 ·simp[E'']
 ·exact(hold g (Jn hg hF.size)).trans (hF.old g hg ho)
 ·by_cases hbn:nm≤b∧b<nm+fresh.length
  ·obtain⟨y,hf,rfl⟩:=hnew b hbn x hx;simp only[E'',hbn,and_self,if_true] at hr;exact .inl (YG hF.size (hown _ y _ (by rw[hHf,hf]) hr))
  ·simp only[E'',hbn,if_false] at hx hr;exact hF.own b x g hx hr
 ·rcases hg with h|⟨h,_⟩
  ·exact hF.S g h
  ·exact .inr (.inl (YG hF.size h))
 ·exact AVR.rn (E:=E') (E':=E'') rfl hS2 (fun i _=>hat i) hb.val
theorem QqZ(E:Env)(us:List Nat):Qd0 (QO E us) []=Qd0 E us:=by
 have h:SU (QO E us) []=SU E us:=by
  funext g;apply propext;constructor
  ·rintro (h|⟨u,x,hu,_⟩)
   ·exact h
   ·cases hu
  ·exact fun h=>.inl h
 show Env.mk E.w (fun _=>none) (SU (QO E us) []) (fun _=>none) (fun _=>False)=Env.mk E.w (fun _=>none) (SU E us) (fun _=>none) (fun _=>False);rw[h]
theorem Qxo{E:Env}(hH:HeapOk E){us:List Nat}{nm:Nat}{r:AV}{fresh:List Blk}{p:Option Prop}{v:Value}{E':Env}(hnm:∀k,k<fresh.length→¬E.U (nm+k))(hb:Back (Qd0 E us) 0 r [] fresh v E') :
 ∃E'',E''.w=E'.w∧Step E { pre:=p,val:=r.rn (fun i=>nm+i),add:=fresh.map (·.rn (fun i=>nm+i)),set:=us.map fun n=>(n,none) } nm E''∧AVR E'' (r.rn (fun i=>nm+i)) v:=by
 rw[←QqZ] at hb;obtain⟨E'',h1,h2,h3⟩:=Qls (p:=p) (Qfp hH us) (nm:=nm) hnm hb (.inl rfl);refine⟨E'',h1,⟨(Qae us).trans h2.ext,h2.ok,fun b=>?_,h2.U,fun F hF=>h2.fr F (Qfq us hF)⟩,h3⟩;rw[h2.H b]
 have e:Qgf E.H (us.map fun n=>(n,none))=(QO E us).H:=by
  funext c;rw[Qfo];rfl
 show addF (Qgf (QO E us).H []) nm _ b=addF (Qgf E.H (us.map fun n=>(n,none))) nm _ b;rw[e];rfl
end
end Go.Fw

