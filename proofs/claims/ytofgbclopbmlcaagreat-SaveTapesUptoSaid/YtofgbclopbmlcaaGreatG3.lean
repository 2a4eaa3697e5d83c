/- Part 3 of the proof. Conditions: none. -/
import Derived.Test.YtofgbclopbmlcaaGreatG2
import Derived.Laws.CopyRow
import Derived.Laws.Entries
import Derived.Laws.MakeOwn
import Derived.Great.BuildSlice
import Derived.Laws.Slices
namespace Go.Fw
set_option linter.unusedVariables false
set_option linter.unusedSimpArgs false
theorem QqU(c:Cell)(cs:List Cell):sizes (c::cs)=c.size+sizes cs:=rfl
theorem Qc6{E:Env}:∀{cs:List Cell} {vs:List Value} {j:Nat} {c:Cell},IR E cs vs→QaZ cs j=some c→∃a r b,vs=a++r++b∧a.length=j∧QaI E c r
 | [],_,_,_,_,h=>by simp[QaZ] at h
 |x::xs,_,j,c,⟨r,rest,e,h1,h2⟩,h=>by
  subst e;unfold QaZ at h;cases h0:Nat.beq j 0 with
  |true =>
   rw[h0] at h;injection h with h;subst h
   exact⟨[],r,rest,rfl,(Yg h0).symm,h1⟩
  |false =>
   rw[h0] at h;simp only at h;cases h3:Nat.ble x.size j with
   |true =>
    rw[h3] at h;have hle:=YT h3;obtain⟨a,r',b,rfl,ha,hc⟩:=Qc6 h2 h;exact⟨r++a,r',b,by simp,by simp[h1.len,ha];omega,hc⟩
   |false=>rw[h3] at h;cases h
theorem Qfr{E:Env}:∀{cs:List Cell} {vs:List Value} {n:Nat} {r:List Cell},IR E cs vs→Qc4 cs n=some r→∃a b,vs=a++b∧a.length=n∧IR E r a
 | [],vs,n,r,h1,h=>by
   unfold Qc4 at h;cases h0:Nat.beq n 0 with
   |true=>rw[h0] at h;injection h with h;subst h;exact⟨[],vs,rfl,(Yg h0).symm,rfl⟩
   |false=>rw[h0] at h;cases h
 |x::xs,_,n,r,⟨v,rest,e,h1,h2⟩,h=>by
  subst e;unfold Qc4 at h;cases h0:Nat.beq n 0 with
  |true=>rw[h0] at h;injection h with h;subst h;exact⟨[],_,rfl,(Yg h0).symm,rfl⟩
  |false =>
   rw[h0] at h;simp only at h;cases h3:Nat.ble x.size n with
   |true =>
    rw[h3] at h;have hle:=YT h3;cases h4:Qc4 xs (n-x.size) with
    |none=>rw[h4] at h;cases h
    |some r' =>
     rw[h4] at h;injection h with h
     subst h;obtain⟨a,b,rfl,ha,hr⟩:=Qfr h2 h4;exact⟨v++a,b,by simp,by simp[h1.len,ha];omega,v,a,rfl,h1,hr⟩
   |false=>rw[h3] at h;cases h
theorem Qdt{E:Env}:∀{cs:List Cell} {vs:List Value} {j n:Nat} {r:List Cell},IR E cs vs→QaF cs j n=some r→∃a m b,vs=a++m++b∧a.length=j∧m.length=n∧IR E r m
 |cs,vs,j,n,r,h1,h=>by
  unfold QaF at h;cases h0:Nat.beq j 0 with
  |true =>
   rw[h0] at h;obtain⟨a,b,rfl,ha,hr⟩:=Qfr h1 h;exact⟨[],a,b,rfl,(Yg h0).symm,ha,hr⟩
  |false =>
   rw[h0] at h;simp only at h;cases cs with
   |nil=>cases h
   |cons x xs =>
    simp only at h;obtain⟨v,rest,rfl,h2,h3⟩:=h1;cases h4:Nat.ble x.size j with
    |true =>
     rw[h4] at h;have hle:=YT h4;obtain⟨a,m,b,rfl,ha,hm,hr⟩:=Qdt h3 h;exact⟨v++a,m,b,by simp,by simp[h2.len,ha];omega,hm,hr⟩
    |false=>rw[h4] at h;cases h
theorem Qdu{E:Env}{x:Cell}{xv:List Value}(hx:QaI E x xv):∀{cs cs':List Cell} {vs:List Value} {j:Nat},IR E cs vs→QcR cs j x=some cs' →
 ∃a r b,vs=a++r++b∧a.length=j∧r.length=x.size∧IR E cs' (a++xv++b)∧cs'.map Cell.size=cs.map Cell.size
 | [],_,_,_,_,h=>by simp[QcR] at h
 |c::cs,cs',_,j,⟨v,rest,e,h1,h2⟩,h=>by
  subst e;unfold QcR at h;cases h0:Nat.beq j 0 with
  |true =>
   rw[h0] at h;simp only at h;cases h3:Nat.beq c.size x.size with
   |true =>
    rw[h3] at h;injection h with h
    subst h;have:=Yg h3;exact⟨[],v,rest,rfl,(Yg h0).symm,by rw[h1.len,this],⟨xv,rest,by simp,hx,h2⟩,by simp[this]⟩
   |false=>rw[h3] at h;cases h
  |false =>
   rw[h0] at h;simp only at h;cases h3:Nat.ble c.size j with
   |true =>
    rw[h3] at h;have hle:=YT h3;cases h4:QcR cs (j-c.size) x with
    |none=>rw[h4] at h;cases h
    |some r' =>
     rw[h4] at h;injection h with h
     subst h;obtain⟨a,r,b,rfl,ha,hr,hi,hs⟩:=Qdu hx h2 h4;exact⟨v++a,r,b,by simp,by simp[h1.len,ha];omega,hr,⟨v,a++xv++b,by simp,h1,hi⟩,by simp[hs]⟩
   |false=>rw[h3] at h;cases h
theorem Qna{a a' r r' b b':List Value}(h:a++r++b=a'++r'++b')(h1:a.length=a'.length)(h2:r.length=r'.length):a=a'∧r=r'∧b=b':=by
 rw[Yy,Yy] at h;obtain⟨e1,e2⟩:=List.append_inj h h1;obtain⟨e3,e4⟩:=List.append_inj e2 h2;exact⟨e1,e3,e4⟩
theorem QcH{E:Env}:∀{xs:List Cell} {xvs:List Value} {cs cs':List Cell} {vs:List Value} {j:Nat},IR E xs xvs→IR E cs vs→Qbs cs j xs=some cs'→j≤vs.length →
 ∃a r b,vs=a++r++b∧a.length=j∧r.length=xvs.length∧IR E cs' (a++xvs++b)∧cs'.map Cell.size=cs.map Cell.size
 | [],_,cs,cs',vs,j,hx,h1,h,hj=>by
   simp only[IR] at hx;subst hx;simp only[Qbs,Yc] at h;subst h;exact⟨vs.take j,[],vs.drop j,by simp,by simp[hj],rfl,by simpa using h1,rfl⟩
 |x::xs,_,cs,cs',vs,j,⟨xv,xvs,e,hx,hxs⟩,h1,h,hj=>by
  subst e;unfold Qbs at h;cases h2:QcR cs j x with
  |none=>rw[h2] at h;cases h
  |some cs1 =>
   rw[h2] at h;simp only at h;obtain⟨a,r,b,rfl,ha,hr,hi,hs⟩:=Qdu hx h1 h2;obtain⟨a',r',b',e,ha',hr',hi',hs'⟩:=QcH hxs hi h (by simp[ha,hx.len]);have hxl:=hx.len;have hlen:(a++xv).length=a'.length:=by simp[ha,ha',hxl]
   obtain⟨e0,e1⟩:=List.append_inj (show(a++xv)++b=a'++(r'++b') by rw[e,Yy]) hlen;subst e0 e1;refine⟨a,r++r',b',by simp,ha,by simp[hr,hxl,hr'],by simpa using hi',hs'.trans hs⟩
theorem QeW:∀(cs:List Cell) (n:Nat),cs.foldl (fun n c=>n+c.size) n=n+sizes cs
 | [],n=>rfl
 |c::cs,n=>by rw[List.foldl_cons,QeW cs,QqU];omega
def QsQ:TypeDesc→Bool
 |.struct _|.array _ _=>true
 |_=>false
def QZ(P:Program):TD→TypeId→Prop
 |.int k,t=>P.underlying t=some (.int k)
 |.bool,t=>P.underlying t=some .bool
 |.str,t=>P.underlying t=some .string
 |.slice e,t=>P.underlying t=some (.slice e)
 |.struct fs,t=>∃F,P.underlying t=some (.struct F)∧(∀(i:Nat) u o,fs[i]?=some (u,o)→∃f:Field,F[i]?=some f∧f.type=u∧f.offset=o)∧(∀f∈F,∃i,P.info? f.type=some i)
 |.array n e,t=>P.underlying t=some (.array n e)
 |.ptr e,t=>P.underlying t=some (.pointer e)
 |.iface,t=>∃ms,P.underlying t=some (.interface ms)
 |.map k e,t=>P.underlying t=some (.map k e)
 |.other,t=>∃d,P.underlying t=some d∧QsQ d=false
def Ty.by_:Ty→Nat
 |.int k=>k.bits/8
 |.ints k n=>n*(k.bits/8)
 |.bool=>1
 |.str=>16
 |.sl _=>24
 |.pair a b=>a.by_+b.by_
def QeF(P:Program)(g:Ty→TypeId→Bool):Ty→List Field→Nat→Bool
 |_,[],_=>false
 |u,[f],off=>g u f.type&&Nat.beq f.offset off&&Nat.beq (P.cellsOf f.type) u.size
 |u,f::fs,off=>match u with
  |.pair a b=>g a f.type&&Nat.beq f.offset off&&Nat.beq (P.cellsOf f.type) a.size&&QeF P g b fs (off+a.size)
  |_=>false
def Qbj(P:Program):Nat→Ty→TypeId→Bool
 |0,_,_=>false
 |n+1,u,t=>match P.underlying t,u with
  |some .bool,.bool=>true
  |some (.int k),.int k'=>decide (k'=k)
  |some .string,.str=>true
  |some (.slice e),.sl v=>Qbj P n v e&&Nat.beq (P.cellsOf e) v.size&&Nat.ble 1 v.size&&Nat.ble v.by_ (P.bytesOf e)
  |some (.struct F),u=>QeF P (Qbj P n) u F.toList 0&&Nat.beq (P.cellsOf t) u.size
  |some (.array m e),.ints k m'=>match P.underlying e with
   |some (.int k')=>decide (k'=k)&&Nat.beq m' m&&Nat.beq (P.cellsOf e) 1&&Nat.beq (P.cellsOf t) m
   |_=>false
  |_,_=>false
def Qal(P:Program)(t:TypeId):Bool:=match P.underlying t with|some (.struct _)=>true|some (.array _ _)=>true|_=>false
def Qxh(P:Program)(u:Option Ty)(t:TypeId):Bool:=match u with
 |some u=>Qal P t&&P.keyTypeAt 30 t&&Qbj P 30 u t&&!P.eqGuardType P.depth t
 |none=>false
structure TyOk(P:Program)(t:TypeId)(ti:TI):Prop where
 und:QZ P ti.desc t
 inf:∃i z,P.info? t=some i∧i.size=ti.size∧i.bytes=ti.bytes∧i.zero=some z∧(∀E:Env,IR E ti.zero z.cells.toList)∧z.cells.size=ti.size ∧
  (∀u,ti.ety=some u→u.size=ti.size∧∀w S,CR w S u (dflt u) z.cells.toList)
 cmp:ti.cmp=true→Qxh P ti.ety t=true
 nag:ti.isAgg=false→∀i z,P.info? t=some i→i.zero=some z→z.cells.toList=[z]
structure TabOk(P:Program)(T:Tab):Prop where
 ty:∀t ti,T.ty t=some ti→TyOk P t ti
 meth:∀t name f,T.meth t name=some f→∀v w,(method (P.types.size+Made.depth) t v name).run P w=.ok (f,v) w
section
variable {P:Program} {T:Tab}
theorem TyOk.agg{t:TypeId}{ti:TI}(h:TyOk P t ti)(w:World):(isAgg t).run P w=.ok ti.isAgg w:=by
 have key:∃d,P.underlying t=some d∧QsQ d=ti.isAgg:=by
  have:=h.und;unfold TI.isAgg;cases hd:ti.desc<;>rw[hd] at this<;>simp only[QZ] at this
  case struct=>obtain⟨F,h1,_⟩:=this;exact⟨_,h1,rfl⟩
  case iface=>obtain⟨F,h1⟩:=this;exact⟨_,h1,rfl⟩
  case other=>exact this
  all_goals exact⟨_,this,rfl⟩
 obtain⟨d,h1,h2⟩:=key;rw[←h2];unfold isAgg;simp only[Sem.run_bind,run_underlying h1,Result.andThen_ok];cases d<;>rfl
theorem TyOk.sizeOf{t:TypeId}{ti:TI}(h:TyOk P t ti)(w:World):(sizeOf t).run P w=.ok ti.size w:=by
 obtain⟨i,z,h1,h2,_⟩:=h.inf;simp[Go.sizeOf,typeInfo,h1,h2]
theorem TyOk.zero{t:TypeId}{ti:TI}(h:TyOk P t ti):∃z,(∀w,(zeroValue t).run P w=.ok z w)∧(∀E:Env,IR E ti.zero z.cells.toList)∧z.cells.size=ti.size ∧
 (∀u,ti.ety=some u→u.size=ti.size∧∀w S,CR w S u (dflt u) z.cells.toList):=by
 obtain⟨i,z,h1,h2,h3,h4,h5,h6,h7⟩:=h.inf;exact⟨z,fun w=>by simp[zeroValue,typeInfo,h1,h4],h5,h6,h7⟩
theorem Qbt{o:Oper}{a:Act}{w w':World}{v:Value}{next:Act→World→Prop}{Q:Exit→Act→World→Prop}(h:(execOp a.eval o).run P w=.ok (.value v) w')(hn:next (a.put o.dst v) w'):o.wp P a w next Q:=by
 unfold Oper.wp;rw[h];exact hn
theorem Qnb{o:Oper}{a:Act}{w w':World}{next:Act→World→Prop}{Q:Exit→Act→World→Prop}(h:(execOp a.eval o).run P w=.ok .skip w')(hn:next (a.put o.dst undef) w'):o.wp P a w next Q:=by
 unfold Oper.wp;rw[h];exact hn
theorem Qos{E:Env}{look:Nat→Option Blk}(hT:TabOk P T)(hH:HeapOk E)(hl:∀b x,look b=some x→E.H b=some x){t:TypeId}{a:AV}{va:Value}{r:Res}(ha:AVR E a va)
 (h:Qxc T look t a=some r) (hp:∀p,r.pre=some p→p):∃v,(Instr.loadAt t va).run P E.w=.ok v E.w∧AVR E r.val v∧r.add=[]∧r.set=[]:=by
 have agg:∀{ti:TI} {cs r':List Cell} {us:List Value} {ad:Addr} {j:Nat},TyOk P t ti→ti.isAgg=true→IR E cs us→QaF cs j ti.size=some r'→(∀k u,us[k]?=some u→E.w.cell? (ad.add k)=some u) →
  ∃v,(Instr.loadAt t (.pointer (some (ad.add j)))).run P E.w=.ok v E.w∧AVR E (.agg r') v:=by
  intro ti cs r' us ad j hti hag hr hpart hc;obtain⟨x,m,y,rfl,hx,hm,hmr⟩:=Qdt hr hpart;refine⟨.agg m.toArray,?_,m.toArray,rfl,by simpa using hmr⟩
  have hl:(loadCells (ad.add j) ti.size).run P E.w=.ok m.toArray E.w:=by
   rw[←hm];refine run_loadCells_list _ _ m fun k u hu=>?_
   have:=hc (j+k) u (by rw[Yy,YO (by omega),hx,YX (by simpa using(Yu.1 hu).1)];simpa using hu);rw[←this];congr 1;unfold Addr.add;by_cases h1:j=0<;>by_cases h2:k=0<;>simp[h1,h2,Nat.add_assoc]
  simp[Instr.loadAt,Instr.sureAddr,loadVar,hti.agg,hag,hti.sizeOf,hl]
 have one:∀{ti:TI} {cs:List Cell} {c:Cell} {us:List Value} {ad:Addr} {j:Nat},TyOk P t ti→ti.isAgg=false→IR E cs us→QaZ cs j=some c→c.size=1→(∀k u,us[k]?=some u→E.w.cell? (ad.add k)=some u) →
  ∃v,(Instr.loadAt t (.pointer (some (ad.add j)))).run P E.w=.ok v E.w∧AVR E (.cell c) v:=by
  intro ti cs c us ad j hti hag hr hitem hs hc;obtain⟨x,m,y,rfl,hx,hmr⟩:=Qc6 hr hitem;have hml:=hmr.len;rw[hs] at hml
  match m,hml with
  | [v],_ =>
    refine⟨v,?_,hmr⟩;have:=hc j v (by rw[Yy,YO (by omega),hx];simp);simp[Instr.loadAt,Instr.sureAddr,loadVar,hti.agg,hag,this]
 have run1:∀{c:Cell},(∀k n l,c≠.run k n l)→c.size=1:=by
  intro c hc;cases c<;>first|rfl|exact YD rfl (hc _ _ _)
 unfold Qxc at h;cases hti:T.ty t with
 |none=>rw[hti] at h;cases h
 |some ti =>
  rw[hti] at h;simp only at h;have hok:=hT.ty t ti hti
  match a,h,ha with
  |.one (.c (.ptr b j)),h,ha =>
   simp only at h;cases hb:look b with
   |none=>rw[hb] at h;cases h
   |some x =>
    rw[hb] at h;cases x with
    |arr _ _=>cases h
    |mp _ _ _ _=>cases h
    |var cs =>
     simp only at h;have hx:=hl _ _ hb;obtain⟨_,⟨g',cs',el',h6,h7,h8⟩,_⟩:=hH.blk _ _ hx;obtain⟨v,⟨e,_⟩,hu,hh⟩:=ha;injection e with e
     subst e;obtain⟨g,h1,rfl⟩:=hh _ hx;rw[h1] at h6;injection h6 with h6;subst h6
     have hcell:∀k u,cs'.toList[k]?=some u→E.w.cell? ((⟨g,0,none⟩:Addr).add k)=some u:=fun k u hu=>by
      rw[QbA,Jh,cell_at h7,←YA];exact hu
     have hpt:pt g j=.pointer (some ((⟨g,0,none⟩:Addr).add j)):=by rw[QbA,Jh];rfl
     cases hag:ti.isAgg with
     |true =>
      rw[hag] at h;simp only at h;cases hq:QaF cs j ti.size with
      |none=>rw[hq] at h;cases h
      |some r' =>
       rw[hq] at h;simp only[ok1,Yc] at h;subst h;obtain⟨v,hv,hvr⟩:=agg hok hag h8 hq hcell;exact⟨v,by rw[hpt];exact hv,hvr,rfl,rfl⟩
     |false =>
      rw[hag] at h;simp only at h;split at h
      ·cases h
      ·rename_i c hq hnr;simp only[ok1,Yc] at h;subst h;obtain⟨v,hv,hvr⟩:=one hok hag h8 hnr (run1 fun k n l e=>hq k n l (by rw[←e])) hcell;exact⟨v,by rw[hpt];exact hv,hvr,rfl,rfl⟩
      ·cases h
  |.one (.c (.pidx b j i)),h,ha =>
   simp only at h;cases hb:look b with
   |none=>rw[hb] at h;cases h
   |some x =>
    rw[hb] at h;cases x with
    |arr _ _=>cases h
    |mp _ _ _ _=>cases h
    |var cs =>
     simp only at h;have hx:=hl _ _ hb;obtain⟨_,⟨g',cs',el',h6,h7,h8⟩,_⟩:=hH.blk _ _ hx;obtain⟨v,⟨e,_⟩,hu,hh⟩:=ha;injection e with e
     subst e;obtain⟨g,h1,rfl⟩:=hh _ hx;rw[h1] at h6;injection h6 with h6;subst h6
     cases hag:ti.isAgg with
     |true=>rw[hag] at h;cases h
     |false =>
      rw[hag] at h;simp only at h;split at h
      ·rename_i k n l hq;simp only[okP,Yc] at h;subst h;have hi:=hp _ rfl;obtain⟨x,m,y,e,hx',hlen,rfl⟩:=Qc6 h8 hq;refine⟨.int k (l.getD i 0),?_,⟨rfl,rfl⟩,rfl,rfl⟩
       have:E.w.cell? ⟨g,j+i,none⟩=some (.int k (l.getD i 0)):=by
        rw[cell_at h7,←YA,e,Yy,YO (by omega),hx',show j+i-j=i from by omega,YX (by simp;omega)];simp[List.getD,Ye (show i<l.length by omega)]
       simp[Instr.loadAt,Instr.sureAddr,pt,loadVar,hok.agg,hag,this]
      ·cases h
  |.one (.c (.pel b i j)),h,ha =>
   simp only at h;cases hb:look b with
   |none=>rw[hb] at h;cases h
   |some x =>
    rw[hb] at h;cases x with
    |var _=>cases h
    |mp _ _ _ _=>cases h
    |arr u l =>
     simp only at h;have hx:=hl _ _ hb;obtain⟨_,hbr,_⟩:=hH.blk _ _ hx;obtain⟨v,⟨e,_⟩,hu,hh⟩:=ha;injection e with e
     subst e
     have main:i<l.length→∃(us:List Value) (ad:Addr),IR E (cells u (l.getD i (dflt u))) us∧va=.pointer (some (Addr.add ad j))∧∀k w,us[k]?=some w→E.w.cell? (ad.add k)=some w:=by
      intro hi;obtain⟨g,h1,rfl⟩:=hh _ _ hx hi;rcases hbr with⟨h6,rfl⟩|⟨g',cs',el',us,spare,h6,h7,h8,h9⟩
      ·simp at hi
      ·rw[h1] at h6;injection h6 with h6;subst h6
       obtain⟨p,q,s,rfl,hp1,hq⟩:=h9.get (fun _ _ hx=>hx.len) hi;have hg:l.getD i (dflt u)=l[i]:=by simp[List.getD,Ye hi]
       rw[hg];refine⟨q,⟨g,i*u.size,none⟩,hq.items,by rw[QbA];rfl,fun k w hw=>?_⟩
       rw[QbA,cell_at h7,←YA,h8,Yy,Yy,YO (by omega),hp1,show i*u.size+k-i*u.size=k from by omega,
        YX (by exact(Yu.1 hw).1)]
       exact hw
     cases hag:ti.isAgg with
     |true =>
      rw[hag] at h;simp only at h;cases hq:QaF (cells u (l.getD i (dflt u))) j ti.size with
      |none=>rw[hq] at h;cases h
      |some r' =>
       rw[hq] at h;simp only[okP,Yc] at h;subst h;obtain⟨us,ad,h1,rfl,h2⟩:=main (hp _ rfl);obtain⟨v,hv,hvr⟩:=agg hok hag h1 hq h2;exact⟨v,hv,hvr,rfl,rfl⟩
     |false =>
      rw[hag] at h;simp only at h;split at h
      ·cases h
      ·rename_i c hq hnr;simp only[okP,Yc] at h;subst h;obtain⟨us,ad,h1,rfl,h2⟩:=main (hp _ rfl);obtain⟨v,hv,hvr⟩:=one hok hag h1 hnr (run1 fun k n l e=>hq k n l (by rw[←e])) h2;exact⟨v,hv,hvr,rfl,rfl⟩
      ·cases h
  |.one (.c (.rptr u l i j)),h,ha =>
   simp only at h;obtain⟨hi,ad,us0,e,hs,hlr,hcell⟩:=ha;injection e with e
   subst e
   have main:∃us ad',IR E (cells u (l.getD i (dflt u))) us∧ad.add (i*u.size+j)=Addr.add ad' j∧∀k w,us[k]?=some w→E.w.cell? (ad'.add k)=some w:=by
    obtain⟨p,q,s,rfl,hp1,hq⟩:=hlr.get (fun _ _ hx=>hx.len) hi;have hg:l.getD i (dflt u)=l[i]:=by simp[List.getD,Ye hi]
    rw[hg];refine⟨q,ad.add (i*u.size),hq.items,?_,fun k w hw=>?_⟩
    ·unfold Addr.add;by_cases h1:i*u.size=0<;>by_cases h2:j=0<;>simp[h1,h2,Nat.add_assoc]
    ·have:=hcell (i*u.size+k) w (by
      rw[Yy,YO (by omega),hp1,show i*u.size+k-i*u.size=k from by omega,YX (by exact(Yu.1 hw).1)]
      exact hw)
     rw[←this];congr 1;unfold Addr.add;by_cases h1:i*u.size=0<;>by_cases h2:k=0<;>simp[h1,h2,Nat.add_assoc]
   obtain⟨us,ad',h1,e,h2⟩:=main;rw[e];cases hag:ti.isAgg with
   |true =>
    rw[hag] at h;simp only at h;cases hq:QaF (cells u (l.getD i (dflt u))) j ti.size with
    |none=>rw[hq] at h;cases h
    |some r' =>
     rw[hq] at h;simp only[ok1,Yc] at h;subst h;obtain⟨v,hv,hvr⟩:=agg hok hag h1 hq h2;exact⟨v,hv,hvr,rfl,rfl⟩
   |false =>
    rw[hag] at h;simp only at h;split at h
    ·cases h
    ·rename_i c hq hnr;simp only[ok1,Yc] at h;subst h;obtain⟨v,hv,hvr⟩:=one hok hag h1 hnr (run1 fun k n l e=>hq k n l (by rw[←e])) h2;exact⟨v,hv,hvr,rfl,rfl⟩
    ·cases h
theorem Qa8{E:Env}{g:Nat}{cs cs':Array Value}{el:TypeId}(h:E.w.heap[g]?=some (.cells cs el (0,0)))(hs:cs'.size=cs.size):Writes E g cs cs' el (E.w.setRow g cs') :=
 ⟨h,setRow_heap _ _ _ _ _ _ h,hs,fun i hi=>setRow_other _ _ _ _ hi,by simp,rfl,rfl,rfl⟩
end
section
variable {P:Program} {T:Tab}
theorem V1R.cells{E:Env}:{x:V1}→{v:Value}→V1R E x v→IR E x.items v.cells.toList
 |.c c,v,h=>by
  have h1:=QaI.ones (c:=c) h v (by simp);have:v.cells=#[v]:=by cases v<;>first|rfl|(simp[Value.oneCell'] at h1)
  rw[this];exact⟨[v],[],rfl,h,rfl⟩
 |.agg cs,_,⟨vals,e,h⟩=>by subst e;exact h
theorem Qdv(a r b x:List Value)(h:x.length=r.length):(a++r++b).take a.length++x++(a++r++b).drop (a.length+x.length)=a++x++b:=by
 simp[h,List.drop_append]
theorem QCj(a m b:List Value)(i:Nat)(v:Value)(hi:i<m.length):(a++m++b).take (a.length+i)++[v]++(a++m++b).drop (a.length+i+1)=a++m.set i v++b:=by
 rw[List.set_eq_take_append_cons_drop,Yf hi]
 simp[List.take_append,List.drop_append,Nat.add_assoc,show a.length+(i+1)-a.length=i+1 from by omega,show i-m.length=0 from by omega,show i+1-m.length=0 from by omega,
  Yh (show a.length≤a.length+i by omega),Yk (show a.length≤a.length+(i+1) by omega)]
theorem QeX{E:Env}{xs cs cs':List Cell}{xvs vs:List Value}{j:Nat}(hx:IR E xs xvs)(h1:IR E cs vs)(h:Qbs cs j xs=some cs')(hne:0<sizes xs):j≤vs.length:=by
 cases xs with
 |nil=>simp[sizes] at hne
 |cons c r =>
  unfold Qbs at h;cases h9:QcR cs j c with
  |none=>rw[h9] at h;cases h
  |some _ =>
   obtain⟨xv,_,_,hxv,_⟩:=hx;obtain⟨p,q,s,rfl,hp1,_⟩:=Qdu hxv h1 h9;simp;omega
theorem Qhw{E:Env}{g j:Nat}{cs:Array Value}{el:TypeId}(hg:E.w.heap[g]?=some (.cells cs el (0,0))){t:TypeId}{ti:TI}(hok:TyOk P t ti){vx:Value}(hsz:vx.cells.size=ti.size)(h1:∀u∈vx.cells.toList,u.oneCell'=true)(hfit:j+vx.cells.size≤cs.size) :
 (Instr.storeAt t (pt g j) vx).run P E.w=.ok () (E.w.setRow g (cs.toList.take j++vx.cells.toList++cs.toList.drop (j+vx.cells.size)).toArray):=by
 have hst:=run_storeCells_at P g j el vx.cells.toList 0 cs E.w hg (by simpa using hfit) h1;simp only[Nat.add_zero,Array.length_toList] at hst;simp[Instr.storeAt,Instr.sureAddr,pt,storeVar,hok.sizeOf,hsz,hst]
theorem QsR{E:Env}{look:Nat→Option Blk}(hT:TabOk P T)(hH:HeapOk E)(hl:∀b x,look b=some x→E.H b=some x){t:TypeId}{a x:AV}{va vx:Value}{r:Res}{nm:Nat}(ha:AVR E a va)(hx:AVR E x vx)
 (h:QsG T look t a x=some r) (hp:∀p,r.pre=some p→p):∃E',(Instr.storeAt t va vx).run P E.w=.ok () E'.w∧Step E r nm E'∧r.val=.dead:=by
 unfold QsG at h;cases hti:T.ty t with
 |none=>rw[hti] at h;cases h
 |some ti =>
  rw[hti] at h;simp only at h;have hok:=hT.ty t ti hti;cases x with
  |dead=>cases h
  |tup _=>cases h
  |one v =>
   simp only at h;have hvr:=V1R.cells (E:=E) (x:=v) hx;cases hsz:Nat.beq (v.items.foldl (fun n c=>n+c.size) 0) ti.size&&Nat.blt 0 ti.size with
   |false=>rw[hsz] at h;cases h
   |true =>
    rw[hsz] at h;simp only at h;rw[Yj] at hsz
    have hsz1:sizes v.items=ti.size:=by
     have:=Yg hsz.1;rwa[QeW,Jh] at this
    have hpos:0<sizes v.items:=by
     have:=YT hsz.2;omega
    have hsz':vx.cells.size=ti.size:=by
     rw[←hsz1,←hvr.len];simp
    have hones:=hvr.ones
    match a,h,ha with
    |.one (.c (.ptr b j)),h,ha =>
     simp only at h;cases hb:look b with
     |none=>rw[hb] at h;cases h
     |some y =>
      rw[hb] at h;cases y with
      |arr _ _=>cases h
      |mp _ _ _ _=>cases h
      |var cs =>
       simp only at h;have hbx:=hl _ _ hb;obtain⟨_,⟨g',cs',el',h6,h7,h8⟩,_⟩:=hH.blk _ _ hbx;obtain⟨v',⟨e,_⟩,hu,hh⟩:=ha;injection e with e
       subst e;obtain⟨g,h1,rfl⟩:=hh _ hbx;rw[h1] at h6;injection h6 with h6;subst h6
       cases hs:Qbs cs j v.items with
       |none=>rw[hs] at h;cases h
       |some cs2 =>
        rw[hs] at h;simp only[Yc] at h;subst h;have hj:=QeX hvr h8 hs hpos;obtain⟨p,q,s,e,hp1,hq,hir,hmap⟩:=QcH hvr h8 hs hj
        have hlen:cs'.size=p.length+q.length+s.length:=by
         have:=Yv List.length e;simpa[Nat.add_assoc] using this
        have hq':q.length=vx.cells.size:=by simpa using hq
        have hraw:=Qhw (P:=P) h7 (j:=j) hok hsz' hones (by omega)
        have enew:cs'.toList.take j++vx.cells.toList++cs'.toList.drop (j+vx.cells.size)=p++vx.cells.toList++s:=by
         rw[e,←hp1];exact Qdv p q s vx.cells.toList (by simpa using hq'.symm)
        rw[enew] at hraw;refine⟨_,hraw,Step.setK (us:=[]) (x:=.var cs) (blk:=.var cs2) (cs':=(p++vx.cells.toList++s).toArray) hH rfl rfl (by simp) hbx h1 (by simp[shape,hmap]) (Qa8 h7 (by simp;omega)) ?_,rfl⟩;show IR (QO E []) cs2 _;exact(hir.ext (Qae []))
    |.one (.c (.pidx b j i)),h,ha =>
     simp only at h;cases hb:look b with
     |none=>rw[hb] at h;cases h
     |some y =>
      rw[hb] at h;cases y with
      |arr _ _=>cases h
      |mp _ _ _ _=>cases h
      |var cs =>
       simp only at h;have hbx:=hl _ _ hb;obtain⟨_,⟨g',cs',el',h6,h7,h8⟩,_⟩:=hH.blk _ _ hbx;obtain⟨v',⟨e,_⟩,hu,hh⟩:=ha;injection e with e
       subst e;obtain⟨g,h1,rfl⟩:=hh _ hbx;rw[h1] at h6;injection h6 with h6;subst h6
       split at h
       ·rename_i k n l k' y hit hv;cases hk:Qoi k' k with
        |false=>rw[hk] at h;cases h
        |true =>
         rw[hk] at h;simp only at h;have hkk:k'=k:=Ya hk;subst hkk;cases hs:QcR cs j (.run k' n (l.set i y)) with
         |none=>rw[hs] at h;cases h
         |some cs2 =>
          rw[hs] at h;simp only[Yc] at h;subst h;have hi:i<n:=hp _ rfl;obtain⟨p0,q0,s0,e0,hp0,hln,rfl⟩:=Qc6 h8 hit;have hrel:QaI E (.run k' n (l.set i y)) ((l.set i y).map (.int k')):=⟨by simpa using hln,rfl⟩
          obtain⟨p,q,s,e,hp1,hq,hir,hmap⟩:=Qdu hrel h8 hs;rw[e0] at e;obtain⟨rfl,rfl,rfl⟩:=Qna e (by rw[hp0,hp1]) (by simp[hq,Cell.size,hln])
          obtain⟨hvx,_⟩:=(show vx=.int k' y∧True by
           have:QaI E (.imm (.int k' y)) [vx]:=hx;obtain⟨e,_⟩:=this;injection e with e
           exact⟨e,trivial⟩)
          subst hvx
          have hlen:cs'.size=p0.length+l.length+s0.length:=by
           have:=Yv List.length e0;simpa[Nat.add_assoc] using this
          have hraw:=Qhw (P:=P) h7 (j:=j+i) hok hsz' hones (by simp[Value.cells];omega)
          have enew:cs'.toList.take (j+i)++(Value.int k' y).cells.toList++cs'.toList.drop (j+i+(Value.int k' y).cells.size)=p0++(l.set i y).map (.int k')++s0:=by
           rw[e0,←hp0,List.map_set];exact QCj p0 _ s0 i _ (by simp;omega)
          rw[enew] at hraw;refine⟨_,hraw,Step.setK (us:=[]) (x:=.var cs) (blk:=.var cs2) (cs':=(p0++(l.set i y).map (Value.int k')++s0).toArray) hH rfl rfl (by simp) hbx h1 (by simp[shape,hmap]) (Qa8 h7 (by simp;omega)) ?_,rfl⟩;show IR (QO E []) cs2 _;exact(hir.ext (Qae []))
       ·cases h
    |.one (.c (.pel b i j)),h,ha =>
     simp only at h;cases hb:look b with
     |none=>rw[hb] at h;cases h
     |some y =>
      rw[hb] at h;cases y with
      |var _=>cases h
      |mp _ _ _ _=>cases h
      |arr u l =>
       simp only at h;have hbx:=hl _ _ hb;obtain⟨_,hbr,_⟩:=hH.blk _ _ hbx;obtain⟨v',⟨e,_⟩,hu,hh⟩:=ha;injection e with e
       subst e;cases hs:Qbs (cells u (l.getD i (dflt u))) j v.items with
       |none=>rw[hs] at h;cases h
       |some cs2 =>
        rw[hs] at h;simp only at h;cases hd:Qca look u cs2 with
        |none=>rw[hd] at h;cases h
        |some du =>
         obtain⟨d,us⟩:=du;rw[hd] at h;simp only at h;cases hc:us.contains b with
         |true=>rw[hc] at h;cases h
         |false =>
          rw[hc] at h;simp only[Yc] at h;subst h;have hi:i<l.length:=hp _ rfl;obtain⟨g,h1,rfl⟩:=hh _ _ hbx hi;rcases hbr with⟨h6,rfl⟩|⟨g',cs',el',us0,spare,h6,h7,h8,h9⟩
          ·simp at hi
          rw[h1] at h6;injection h6 with h6;subst h6
          obtain⟨p,q,s,rfl,hp1,hq⟩:=h9.get (fun _ _ hx=>hx.len) hi;have hg:l.getD i (dflt u)=l[i]:=by simp[List.getD,Ye hi]
          rw[hg] at hs;have hj:=QeX hvr hq.items hs hpos;obtain⟨p1,q1,s1,e,hp2,hq1,hir,hmap⟩:=QcH hvr hq.items hs hj;have hcr:=QbJ hH hl hd hir;have hlq:=Yv List.length e;have hcl:=hcr.len;have hql:=hq.len;simp at hlq hcl;have hq':q1.length=vx.cells.size:=by simpa using hq1
          have hlen:cs'.size=p.length+q.length+s.length+spare.length:=by
           have:=Yv List.length h8;simpa[Nat.add_assoc] using this
          have hraw:=Qhw (P:=P) h7 (j:=i*u.size+j) hok hsz' hones (by omega)
          have enew:cs'.toList.take (i*u.size+j)++vx.cells.toList++cs'.toList.drop (i*u.size+j+vx.cells.size)=(p++(p1++vx.cells.toList++s1)++s)++spare:=by
           rw[h8,e];have:=Qdv (p++p1) q1 (s1++s++spare) vx.cells.toList (by simpa using hq'.symm);rw[show(p++p1).length=i*u.size+j from by simp[hp1,hp2]] at this;simpa using this
          rw[enew] at hraw
          refine⟨_,hraw,Step.setK (us:=us) (x:=.arr u l) (blk:=.arr u (l.set i d)) (cs':=((p++(p1++vx.cells.toList++s1)++s)++spare).toArray) hH rfl rfl (by simpa using hc) hbx h1 (by simp[shape])
           (Qa8 h7 (by simp[hlen,hq'];omega)) ?_,rfl⟩
          refine⟨p++(p1++vx.cells.toList++s1)++s,spare,by simp,?_⟩;exact Qw.set (n:=u.size) (fun _ _ hx=>hx.len) hcr (h9.mono fun _ _ hx=>hx.su) hi hp1 hq.len
end
section
variable {P:Program} {T:Tab}
theorem Qot(E:Env)(nm:Nat)(is:List Cell)(w':World):AVR (newE E nm (.var is) w') (.cell (.ptr nm 0)) (pt E.w.heap.size 0) :=
 ⟨_,⟨rfl,rfl⟩,.inr rfl,fun cs _=>⟨_,by simp[newE],rfl⟩⟩
theorem Qlj(E:Env)(nm:Nat)(is:List Cell)(w':World)(n:Nat):AVR (newE E nm (.var is) w') (.cell (.svar nm 0 n)) (.slice (some ⟨E.w.heap.size,0,none⟩) n n) :=
 ⟨_,⟨rfl,rfl⟩,.inr rfl,fun cs _=>⟨_,n,by simp[newE],rfl,YE _⟩⟩
theorem Qfs(E:Env)(nm:Nat){t:Ty}{l:List (Den t)}{w':World}{cs:Array Value}{el:TypeId}{cap:Nat}(hw:w'.heap=E.w.heap.push (.cells cs el))(h1:l.length≤cap)(h2:cap*t.size≤cs.size) :
 AVR (newE E nm (.arr t l) w') (.cell (.own nm)) (.slice (some ⟨E.w.heap.size,0,none⟩) l.length cap):=by
 refine⟨_,⟨rfl,rfl⟩,.inr rfl,fun u l' h=>?_⟩;simp only[newE,if_true,Yc,Blk.arr.injEq] at h;obtain⟨rfl,h⟩:=h;have h:=eq_of_heq h;subst h;exact .inr ⟨_,cs,el,cap,by simp[newE],Qg2 hw,rfl,h1,h2⟩
theorem QsS{E:Env}(hT:TabOk P T)(hH:HeapOk E){t:TypeId}{ti:TI}(h:T.ty t=some ti){nm:Nat}(hnm:¬E.U nm) :
 ∃E',(Instr.alloc t true (.tuple #[])).run P E.w=.ok (pt E.w.heap.size 0) E'.w∧Step E { pre:=none,val:=.cell (.ptr nm 0),add:=[.var ti.zero],set:=[] } nm E'∧AVR E' (.cell (.ptr nm 0)) (pt E.w.heap.size 0):=by
 obtain⟨z,hz,hir,_⟩:=(hT.ty t ti h).zero;refine⟨newE (QO E []) nm (.var ti.zero) (E.w.alloc (.cells z.cells t)),?_,Step.newK (us:=[]) hH rfl rfl hnm rfl rfl rfl rfl (hir _),Qot _ _ _ _⟩;simp[Instr.alloc,hz,newVar,newRow];exact⟨rfl,rfl⟩
theorem QCk{E:Env}(hH:HeapOk E)(t:TypeId){x:V1}{v:Value}(hx:V1R E x v){nm:Nat}(hnm:¬E.U nm) :
 ∃E',(Instr.box t v).run P E.w=.ok (pt E.w.heap.size 0) E'.w∧Step E { pre:=none,val:=.cell (.ptr nm 0),add:=[.var x.items],set:=[] } nm E'∧AVR E' (.cell (.ptr nm 0)) (pt E.w.heap.size 0):=by
 refine⟨newE (QO E []) nm (.var x.items) (E.w.alloc (.cells v.cells t)),?_,Step.newK (us:=[]) hH rfl rfl hnm rfl rfl rfl rfl ((V1R.cells hx).ext (Qae [])),Qot _ _ _ _⟩;simp[Instr.box,newVar,newRow];exact⟨rfl,rfl⟩
theorem Qlk(hT:TabOk P T){t:TypeId}{u:Ty}{by_:Nat}(h:Qhs T t=some (u,by_)):∃e i z,P.underlying t=some (.slice e)∧P.info? e=some i∧i.zero=some z∧i.size=u.size∧i.bytes=by_∧z.cells.size=u.size ∧
 (∀w S,CR w S u (dflt u) z.cells.toList)∧(∀w,(sizeOf e).run P w=.ok u.size w)∧∀w,(zeroValue e).run P w=.ok z w:=by
 unfold Qhs at h;split at h
 ·rename_i e _ _ _ _ _ ht;have hu:=(hT.ty t _ ht).und;simp only[QZ] at hu;cases he:T.ty e with
  |none=>rw[he] at h;cases h
  |some ti =>
   rw[he] at h;simp only at h;cases hy:ti.ety with
   |none=>rw[hy] at h;cases h
   |some u' =>
    rw[hy] at h;simp only[Yc,YM] at h;obtain⟨rfl,rfl⟩:=h;have hok:=hT.ty e ti he;obtain⟨i,z,h1,h2,h3,h4,h5,h6,h7⟩:=hok.inf;obtain⟨h8,h9⟩:=h7 u' hy;exact⟨e,i,z,hu,h1,h4,h2.trans h8.symm,h3,h6.trans h8.symm,h9,fun w=>by rw[h8];exact hok.sizeOf w,fun w=>by simp[zeroValue,typeInfo,h1,h4]⟩
 ·cases h
theorem QiV(z:Array Value)(s:Nat)(hs:z.size=s):∀n:Nat,(madeCells z (n*s)).toList=(List.replicate n z.toList).flatten:=by
 intro n
 induction n with
 |zero=>simp[madeCells]
 |succ n ih =>
  rw[List.replicate_succ'];simp only[List.flatten_append,List.flatten_cons,List.flatten_nil,Jd,←ih];simp only[madeCells,Array.toList_map,Array.toList_range,YV,Nat.one_mul,List.range_add,List.map_append,List.map_map];congr 1;apply List.ext_getElem
  ·simp[hs]
  ·intro i h1 h2;simp only[Jf,YS] at h1;have e:(n*s+i)%s=i:=by rw[Nat.mul_comm,Nat.mul_add_mod];exact Nat.mod_eq_of_lt h1
   simp[hs,e,getElem!_pos z i (by omega)]
theorem Qc7{w:World}{S:Nat→Prop}{u:Ty}{d:Den u}{zs:List Value}(h:CR w S u d zs):∀n,Qw (CR w S u) (List.replicate n d) (List.replicate n zs).flatten
 |0=>rfl
 |n+1=>⟨zs,_,rfl,h,Qc7 h n⟩
theorem QjX{E:Env}(hT:TabOk P T)(hH:HeapOk E){t:TypeId}{l c:AV}{vl vc:Value}{r:Res}{nm:Nat}(hnm:¬E.U nm)(h1:AVR E l vl)(h2:AVR E c vc)
 (h:Qel T nm t l c=some r) (hp:∀p,r.pre=some p→p):∃v E',(Instr.makeSlice t vl vc).run P E.w=.ok v E'.w∧Step E r nm E'∧AVR E' r.val v:=by
 unfold Qel at h;split at h
 ·rename_i u by_ n m he;simp only[Yc] at h;subst h;obtain⟨rfl,h0,hb,h9⟩:=hp _ rfl;obtain⟨e,_⟩:=h1;injection e with e
  subst e;obtain⟨e,_⟩:=h2;injection e with e
  subst e;obtain⟨e,i,z,hu,hi,hz,hs,hby,hzs,hcr,_,_⟩:=Qlk hT he;subst hby;have hrun:=run_make (P:=P) E.w t e i z hu hi hz .i64 .i64 n n h0 (Int.le_refl _) (by rw[Int.mul_comm];exact hb) (by omega);have hcells:(madeCells z.cells (n.toNat*i.size)).toList=(List.replicate n.toNat z.cells.toList).flatten:=by rw[hs];exact QiV z.cells u.size hzs n.toNat
  refine⟨_,newE (QO E []) nm (.arr u (List.replicate n.toNat (dflt u))) (E.w.alloc (.cells (madeCells z.cells (n.toNat*i.size)) e)),hrun,Step.newK (us:=[]) hH rfl rfl hnm rfl rfl rfl rfl ?_,?_⟩
  ·exact⟨(madeCells z.cells (n.toNat*i.size)).toList,[],by simp,by rw[hcells];exact Qc7 (hcr _ _) n.toNat⟩
  ·have:=Qfs (QO E []) nm (t:=u) (l:=List.replicate n.toNat (dflt u)) (w':=E.w.alloc (.cells (madeCells z.cells (n.toNat*i.size)) e)) (cap:=n.toNat) (cs:=madeCells z.cells (n.toNat*i.size)) (el:=e) rfl (by simp) (by simp[size_madeCells,hs]);simpa[QO] using this
 ·cases h
theorem QjY:∀(vs:List Value) (k off:Nat) (cur:Array Value),off+k+vs.length≤cur.size →
 ((vs.zipIdx k).foldl (fun cs (x:Value×Nat)=>cs.setIfInBounds (off+x.2) x.1) cur).toList=cur.toList.take (off+k)++vs++cur.toList.drop (off+k+vs.length)
 | [],k,off,cur,h=>by simp
 |v::vs,k,off,cur,h=>by
  simp only[List.zipIdx_cons,List.foldl_cons];rw[QjY vs (k+1) off _ (by simp at h ⊢;omega)];simp only[Array.toList_setIfInBounds,Yx];have hlt:off+k<cur.toList.length:=by simp at h ⊢;omega
  rw[List.set_eq_take_append_cons_drop,Yf hlt];have e1:(cur.toList.take (off+k)).length=off+k:=by simp;simp at hlt;omega
  rw[show off+(k+1)=(off+k)+1 from by omega,List.take_append,List.drop_append,e1];simp[show off+k+1-(off+k)=1 from by omega,show off+k+1+vs.length-(off+k)=vs.length+1 from by omega,List.take_take,List.drop_drop,Yk (show(cur.toList.take (off+k)).length≤off+k+1+vs.length by omega)];congr 1;omega
theorem Qem{size:Nat}:∀(parts:List (Nat×Value)) (i:Nat) (cur:Array Value) (a b:List Value),(∀(k:Nat) p,parts[k]?=some p→p.1=i+k∧p.2.cells.size=size)→cur.toList=a++b→a.length=i*size→parts.length*size≤b.length →
 ∃arr,Instr.fill (fun i=>some (i*size,size)) cur parts=some arr∧arr.toList=a++(parts.map fun p=>p.2.cells.toList).flatten++b.drop (parts.length*size)
 | [],i,cur,a,b,_,hc,_,_=>⟨cur,rfl,by simp[hc]⟩
 |p::ps,i,cur,a,b,h,hc,ha,hb=>by
  obtain⟨j,v⟩:=p;obtain⟨h1,h2⟩:=h 0 (j,v) rfl;simp only[Nat.add_zero] at h1 h2;subst h1
  have hlen:cur.size=a.length+b.length:=by
   have:=Yv List.length hc;simpa using this
  simp only[Yx,YV,Nat.one_mul] at hb;have hput:=QjY v.cells.toList 0 (j*size) cur (by simp[h2];omega)
  have hz:v.cells.zipIdx.foldl (fun cs (x:Value×Nat)=>cs.setIfInBounds (j*size+x.2) x.1) cur=((v.cells.toList.zipIdx 0).foldl (fun cs (x:Value×Nat)=>cs.setIfInBounds (j*size+x.2) x.1) cur):=by
   rw[←Array.foldl_toList];simp
  have e2:v.cells.toList.length=size:=by simpa using h2
  have hnew:((v.cells.toList.zipIdx 0).foldl (fun cs (x:Value×Nat)=>cs.setIfInBounds (j*size+x.2) x.1) cur).toList=(a++v.cells.toList)++b.drop size:=by
   rw[hput,hc,Nat.add_zero,←ha,e2];simp[List.drop_append]
  obtain⟨arr,h3,h4⟩:=Qem ps (j+1) _ (a++v.cells.toList) (b.drop size) (fun k p hp=>by obtain⟨e1,e2⟩:=h (k+1) p (by simpa using hp);exact⟨by omega,e2⟩) hnew
   (by simp only[Ym,ha,e2,YV,Nat.one_mul]) (by simp;omega)
  refine⟨arr,?_,?_⟩
  ·simp only[Instr.fill,h2];rw[Yb (by simp;omega),hz];exact h3
  ·rw[h4];simp[List.drop_drop,YV,Nat.add_comm]
end
section
variable {P:Program} {T:Tab}
def PsR(E:Env):List (Nat×AV)→List (Nat×Value)→Prop
 | [],vs=>vs=[]
 |(i,x)::ps,vs=>∃v r,vs=(i,v)::r∧AVR E x v∧PsR E ps r
theorem PsR.len{E:Env}:∀{ps:List (Nat×AV)} {vs:List (Nat×Value)},PsR E ps vs→vs.length=ps.length
 | [],_,h=>by simp only[PsR] at h;subst h;rfl
 |(i,x)::ps,_,⟨v,r,e,_,h⟩=>by subst e;simp[h.len]
theorem Qje{E:Env}{look:Nat→Option Blk}(hH:HeapOk E)(hl:∀b x,look b=some x→E.H b=some x){u:Ty}:∀{ps:List (Nat×AV)} {vs:List (Nat×Value)} {i:Nat} {ds:List (Den u)} {us:List Nat},PsR E ps vs→Qfk look u i ps=some (ds,us) →
 (∀(k:Nat) p,vs[k]?=some p→p.1=i+k∧p.2.cells.size=u.size)∧Qw (CR E.w (SU E us) u) ds (vs.map fun p=>p.2.cells.toList).flatten
 | [],_,i,ds,us,hr,h=>by
   simp only[PsR] at hr;subst hr;simp only[Qfk,Yc,YM] at h;obtain⟨rfl,rfl⟩:=h;exact⟨fun k p h=>by simp at h,rfl⟩
 |(j,x)::ps,_,i,ds,us,⟨v,r,e,hx,hr⟩,h=>by
  subst e;cases x with
  |dead=>simp[Qfk] at h
  |tup _=>simp[Qfk] at h
  |one x =>
   simp only[Qfk] at h;cases hj:Nat.beq i j with
   |false=>rw[hj] at h;cases h
   |true =>
    rw[hj] at h;simp only at h;obtain rfl:=Yg hj;cases hd:Qca look u x.items with
    |none=>rw[hd] at h;cases h
    |some du =>
     obtain⟨d,us1⟩:=du;rw[hd] at h;simp only at h;cases he:Qfk look u (i+1) ps with
     |none=>rw[he] at h;cases h
     |some y =>
      obtain⟨ds',us2⟩:=y;rw[he] at h;simp only[Yc,YM] at h;obtain⟨rfl,rfl⟩:=h;obtain⟨h1,h2⟩:=Qje hH hl hr he;have hcr:=QbJ hH hl hd (V1R.cells hx);refine⟨fun k p hk=>?_,⟨_,_,rfl,hcr.su_mono (by simp +contextual),h2.mono fun _ _ hx=>hx.su_mono (by simp +contextual)⟩⟩;cases k with
      |zero =>
       simp at hk;subst hk;exact⟨rfl,by simpa using hcr.len⟩
      |succ k =>
       obtain⟨e1,e2⟩:=h1 k p (by simpa using hk);exact⟨by omega,e2⟩
theorem QCl(hT:TabOk P T){t:TypeId}{u:Ty}{by_:Nat}(he:Qhs T t=some (u,by_)){n:Nat}{vs:Array (Nat×Value)}(hn:n=vs.size)(hsm:n*u.size<16777216)(hpos:0<u.size)
 (h1:∀(k:Nat) p,vs.toList[k]?=some p→p.1=0+k∧p.2.cells.size=u.size) (w:World) :
 ∃(arr:Array Value) (e:TypeId),(Instr.buildSlice t n vs).run P w=.ok (.slice (some ⟨w.heap.size,0,none⟩) n n) (w.alloc (.cells arr e))∧arr.toList=(vs.toList.map fun p=>p.2.cells.toList).flatten:=by
 obtain⟨e,i,z,hu,hi,hz,hs,hby,hzs,hcr,hso,hze⟩:=Qlk hT he;have hvl:vs.toList.length=n:=by simp[hn]
 obtain⟨arr,ha,hal⟩:=Qem (size:=u.size) vs.toList 0 (madeCells z.cells (n*u.size)) [] (madeCells z.cells (n*u.size)).toList (fun k p hk=>by simpa using h1 k p hk) rfl (by simp) (by simp[size_madeCells,hn])
 have hal':arr.toList=(vs.toList.map fun p=>p.2.cells.toList).flatten:=by
  rw[hal];simp[hn,size_madeCells]
 refine⟨arr,e,?_,hal'⟩;by_cases h0:n=0
 ·subst h0
  have hv0:vs=#[]:=by
   have:vs.toList=[]:=Yr (by omega);simpa using this
  subst hv0;have:arr=#[]:=by simpa using hal'
  subst this;simp[Instr.buildSlice,run_underlying hu,hso,Instr.fill,newRow,Array.range_zero']
 ·have hne:¬n*u.size=0:=by
   intro e0;rcases Nat.mul_eq_zero.1 e0 with e0|e0<;>omega
  exact run_buildSlice w t e n vs arr i z hu hi hz (by rw[hs];omega) (by rw[hs];exact hne) (by rw[hs];exact ha)
theorem Qll{E:Env}:∀{ps:List (Nat×AV)} {vs:List (Nat×Value)} {i:Nat} {cs:List Cell},PsR E ps vs→QqQ i ps=some cs →
 (∀(k:Nat) p,vs[k]?=some p→p.1=i+k∧p.2.cells.size=1)∧IR E cs (vs.map fun p=>p.2.cells.toList).flatten
 | [],_,i,cs,hr,h=>by
   simp only[PsR] at hr;subst hr;simp only[QqQ,Yc] at h;subst h;exact⟨fun k p h=>by simp at h,rfl⟩
 |(j,x)::ps,_,i,cs,⟨v,r,e,hx,hr⟩,h=>by
  subst e;unfold QqQ at h;split at h
  ·rename_i h';cases h'
  ·rename_i b o l r' h';injection h' with h' h''
   injection h' with e1 e2
   subst e1;subst e2;subst h'';split at h
   ·rename_i hj;obtain rfl:=Yg hj;split at h
    ·rename_i cs' hcs;injection h with h
     subst h;obtain⟨h1,h2⟩:=Qll hr hcs;obtain⟨v',⟨ev,hv1⟩,hrest⟩:=hx;injection ev with ev
     subst ev
     have hc1:v.cells=#[v]:=by
      cases v<;>simp_all [Value.cells,Value.oneCell']
     refine⟨fun k p hk=>?_,[v],_,by simp[hc1],⟨v,⟨rfl,hv1⟩,hrest⟩,h2⟩;cases k with
     |zero =>
      simp at hk;subst hk;exact⟨rfl,by simp[hc1]⟩
     |succ k =>
      obtain⟨e1,e2⟩:=h1 k p (by simpa using hk);exact⟨by omega,e2⟩
    ·cases h
   ·cases h
  ·cases h
theorem Qxi{t e:TypeId}{i:TypeInfo}{z:Value}(hu:P.underlying t=some (.slice e))(hi:P.info? e=some i)(hz:i.zero=some z)(hs:i.size=1)(hzs:z.cells.size=1){n:Nat}{vs:Array (Nat×Value)}(hn:n=vs.size)(hsm:n<16777216)(hpos:0<n)
 (h1:∀(k:Nat) p,vs.toList[k]?=some p→p.1=0+k∧p.2.cells.size=1) (w:World) :
 ∃arr:Array Value,(Instr.buildSlice t n vs).run P w=.ok (.slice (some ⟨w.heap.size,0,none⟩) n n) (w.alloc (.cells arr e))∧arr.toList=(vs.toList.map fun p=>p.2.cells.toList).flatten:=by
 have hvl:vs.toList.length=n:=by simp[hn]
 obtain⟨arr,ha,hal⟩:=Qem (size:=1) vs.toList 0 (madeCells z.cells (n*1)) [] (madeCells z.cells (n*1)).toList (fun k p hk=>by simpa using h1 k p hk) rfl (by simp) (by simp[size_madeCells,hn])
 have hal':arr.toList=(vs.toList.map fun p=>p.2.cells.toList).flatten:=by
  rw[hal];simp[hn,size_madeCells]
 exact⟨arr,run_buildSlice w t e n vs arr i z hu hi hz (by rw[hs];omega) (by rw[hs];omega) (by rw[hs];exact ha),hal'⟩
theorem Qlm{E:Env}:∀{ps:List (Nat×AV)} {vs:List (Nat×Value)} {i:Nat} {cs:List Cell},PsR E ps vs→QsK i ps=some cs →
 (∀(k:Nat) p,vs[k]?=some p→p.1=i+k∧p.2.cells.size=1)∧IR E cs (vs.map fun p=>p.2.cells.toList).flatten
 | [],_,i,cs,hr,h=>by
   simp only[PsR] at hr;subst hr;simp only[QsK,Yc] at h;subst h;exact⟨fun k p h=>by simp at h,rfl⟩
 |(j,x)::ps,_,i,cs,⟨v,r,e,hx,hr⟩,h=>by
  subst e;unfold QsK at h;split at h
  ·rename_i h';cases h'
  ·rename_i b o r' h';injection h' with h' h''
   injection h' with e1 e2
   subst e1;subst e2;subst h'';split at h
   ·rename_i hj;obtain rfl:=Yg hj;split at h
    ·rename_i cs' hcs;injection h with h
     subst h;obtain⟨h1,h2⟩:=Qlm hr hcs;obtain⟨v',⟨ev,hv1⟩,hrest⟩:=hx;injection ev with ev
     subst ev
     have hc1:v.cells=#[v]:=by
      cases v<;>simp_all [Value.cells,Value.oneCell']
     refine⟨fun k p hk=>?_,[v],_,by simp[hc1],⟨v,⟨rfl,hv1⟩,hrest⟩,h2⟩;cases k with
     |zero =>
      simp at hk;subst hk;exact⟨rfl,by simp[hc1]⟩
     |succ k =>
      obtain⟨e1,e2⟩:=h1 k p (by simpa using hk);exact⟨by omega,e2⟩
    ·cases h
   ·cases h
  ·cases h
theorem Qln{E:Env}(hT:TabOk P T)(hH:HeapOk E){t:TypeId}{n:Nat}{ps:List (Nat×AV)}{vs:Array (Nat×Value)}{r:Res}{nm:Nat}(hnm:¬E.U nm)(hr:PsR E ps vs.toList)
 (h:Qfl T nm t n ps=some r):∃v E',(Instr.buildSlice t n vs).run P E.w=.ok v E'.w∧Step E r nm E'∧AVR E' r.val v:=by
 unfold Qfl at h;split at h
 ·rename_i e _ _ _ _ _ ht;have hu:=(hT.ty t _ ht).und;simp only[QZ] at hu;split at h
  ·rename_i q sz by_ zr et cm he;split at h
   ·rename_i hc;simp only[Yj] at hc;obtain⟨⟨⟨hc0,hc1⟩,hc2⟩,hc3⟩:=hc;have hs1:sz=1:=Yg hc0;have hn:=Yg hc1;have hsm:n<16777216:=YT hc2;have hpos:0<n:=YT hc3;split at h
    ·rename_i cs hcs;simp only[Yc] at h;subst h;obtain⟨i,z,h1,h2,h3,h4,h5,h6,h7⟩:=(hT.ty e _ he).inf;obtain⟨k1,k2⟩:=Qlm hr hcs;have hvl:=hr.len;obtain⟨arr,hrun,hal⟩:=Qxi (P:=P) hu h1 h4 (h2.trans hs1) (h6.trans hs1) (n:=n) (vs:=vs) (by simp at hvl;omega) hsm hpos k1 E.w;refine⟨_,newE (QO E []) nm (.var cs) (E.w.alloc (.cells arr e)),hrun,Step.newK (us:=[]) hH rfl rfl hnm rfl rfl rfl rfl ?_,Qlj _ _ _ _ _⟩;show IR (QO E []) cs arr.toList;rw[hal];exact k2.ext (Qae [])
    ·cases h
   ·cases h
  ·cases h
 ·cases h
theorem QiW{E:Env}{look:Nat→Option Blk}(hT:TabOk P T)(hH:HeapOk E)(hl:∀b x,look b=some x→E.H b=some x){t:TypeId}{n:Nat}{ps:List (Nat×AV)}{vs:Array (Nat×Value)}{r:Res}{nm:Nat}(hnm:¬E.U nm)(hr:PsR E ps vs.toList)
 (h:Qds T look nm t n ps=some r):∃v E',(Instr.buildSlice t n vs).run P E.w=.ok v E'.w∧Step E r nm E'∧AVR E' r.val v:=by
 unfold Qds at h;cases he:Qhs T t with
 |none=>rw[he] at h;exact Qln hT hH hnm hr h
 |some ub =>
  obtain⟨u,by_⟩:=ub;rw[he] at h;simp only at h;split at h
  ·rename_i hc;simp only[Yj] at hc;obtain⟨⟨hc1,hc2⟩,hc3⟩:=hc;have hn:=Yg hc1;have hsm:n*u.size<16777216:=YT hc2;have hpos:0<u.size:=YT hc3;cases hsu:Qok u ps with
   |some cs =>
    rw[hsu] at h;simp only[Yc] at h;subst h;have hu1:u.size=1:=by cases u<;>first|rfl|(simp[Qok] at hsu;done)
    have hsa:QqQ 0 ps=some cs:=by
     unfold Qok at hsu;split at hsu
     ·exact hsu
     ·cases hsu
    obtain⟨h1,h2⟩:=Qll hr hsa;have hvl:=hr.len;obtain⟨arr,e,hrun,hal⟩:=QCl (P:=P) hT he (n:=n) (vs:=vs) (by simp at hvl;omega) hsm hpos (by rw[hu1];exact h1) E.w;refine⟨_,newE (QO E []) nm (.var cs) (E.w.alloc (.cells arr e)),hrun,Step.newK (us:=[]) hH rfl rfl hnm rfl rfl rfl rfl ?_,Qlj _ _ _ _ _⟩;show IR (QO E []) cs arr.toList;rw[hal];exact h2.ext (Qae [])
   |none =>
   rw[hsu] at h;simp only at h;cases hel:Qfk look u 0 ps with
   |none=>rw[hel] at h;cases h
   |some y =>
    obtain⟨ds,us⟩:=y;rw[hel] at h;simp only[Yc] at h;subst h;obtain⟨h1,h2⟩:=Qje hH hl hr hel;obtain⟨e,i,z,hu,hi,hz,hs,hby,hzs,hcr,hso,hze⟩:=Qlk hT he;have hvl:=hr.len;obtain⟨arr,ha,hal⟩:=Qem (size:=u.size) vs.toList 0 (madeCells z.cells (n*u.size)) [] (madeCells z.cells (n*u.size)).toList (fun k p hk=>by simpa using h1 k p hk) rfl (by simp) (by simp[size_madeCells,hn];simp at hvl;rw[hvl];exact YE _)
    have hal':arr.toList=(vs.toList.map fun p=>p.2.cells.toList).flatten:=by
     rw[hal];simp[hvl,←hn,size_madeCells]
    have hdl:ds.length=n:=by
     have:=h2.len (n:=u.size) (fun _ _ hx=>hx.len);have h3:=Yv List.length hal
     have h4:arr.toList.length=n*u.size:=by
      rw[hal];simp[size_madeCells]
      have h5:((vs.toList.map fun p=>p.2.cells.toList).flatten).length=n*u.size:=by
       have:∀(l:List (Nat×Value)),(∀p∈l,p.2.cells.size=u.size)→((l.map fun p=>p.2.cells.toList).flatten).length=l.length*u.size:=by
        intro l
        induction l with
        |nil=>intro _;simp
        |cons p l ih=>intro hp;simp[List.flatten_cons,hp p (by simp),YV,Nat.add_comm] at ih ⊢;rw[ih fun a b hb=>hp (a,b) (by simp[hb])]
       rw[this vs.toList (fun p hp=>by obtain⟨k,hk⟩:=List.mem_iff_getElem?.1 hp;exact(h1 k p hk).2),hvl,hn]
      simp at hvl h5;rw[hvl,←hn];omega
     rw[hal'] at h4;rw[h4] at this;exact(Nat.eq_of_mul_eq_mul_right hpos this).symm
    have hrun:(Instr.buildSlice t n vs).run P E.w=.ok (.slice (some ⟨E.w.heap.size,0,none⟩) n n) (E.w.alloc (.cells arr e)):=by
     by_cases h0:n=0
     ·subst h0
      have hv0:vs=#[]:=by
       have:vs.toList=[]:=Yr (by omega);simpa using this
      subst hv0;have:arr=#[]:=by simpa using hal'
      subst this;simp[Instr.buildSlice,run_underlying hu,hso,Instr.fill,newRow,Array.range_zero']
     ·have hne:¬n*u.size=0:=by
       intro e0;rcases Nat.mul_eq_zero.1 e0 with e0|e0<;>omega
      exact run_buildSlice E.w t e n vs arr i z hu hi hz (by rw[hs];omega) (by rw[hs];exact hne) (by rw[hs];exact ha)
    refine⟨_,newE (QO E us) nm (.arr u ds) (E.w.alloc (.cells arr e)),hrun,Step.newK (us:=us) hH rfl rfl hnm rfl rfl rfl rfl ?_,?_⟩
    ·exact⟨arr.toList,[],by simp,by rw[hal'];exact h2⟩
    ·have:=Qfs (QO E us) nm (t:=u) (l:=ds) (w':=E.w.alloc (.cells arr e)) (cap:=n) (cs:=arr) (el:=e) rfl (by omega) (by
      have:=h2.len (n:=u.size) (fun _ _ hx=>hx.len);rw[←hal',hdl] at this;simp at this
      omega)
     simpa[QO,hdl] using this
  ·cases h
theorem sb(k:IntKind)(i:Int)(y:Nat)(code:BoundsCode)(h0:0≤i)(h1:i≤y)(w:World):(Instr.sliceBound (.int k i) y code).run P w=.ok i.toNat w:=by
 simp[Instr.sliceBound,asIntOf,h0,h1]
def Qjf(E:Env):Option AV→Option Value→Prop
 |none,none=>True
 |some x,some v=>AVR E x v
 |_,_=>False
theorem QbK{E:Env}{len:Nat}{lo hi:Option AV}{vlo vhi:Option Value}{p:Prop}{a b:Nat}(h1:Qjf E lo vlo)(h2:Qjf E hi vhi)(h:QdV len lo hi=some (p,a,b))(hp:p) :
 a≤b∧b≤len∧∀(isSl:Bool) (cap:Nat) (w:World),len≤cap→(Instr.sliceBounds isSl len cap vlo vhi none).run P w=.ok (a,b,cap) w:=by
 unfold QdV at h;split at h
 ·simp only[Yc,YM] at h;obtain⟨rfl,rfl,rfl⟩:=h;cases vlo<;>cases vhi<;>simp only[Qjf] at h1 h2;exact⟨YR _,YE _,fun isSl cap w hc=>by simp[Instr.sliceBounds]⟩
 ·simp only[Yc,YM] at h;obtain⟨rfl,rfl,rfl⟩:=h;cases vlo with
  |none=>simp only[Qjf] at h1
  |some v =>
   cases vhi with
   |some _=>simp only[Qjf] at h2
   |none =>
    obtain⟨e,_⟩:=h1;injection e with e
    subst e;exact⟨by omega,YE _,fun isSl cap w hc=>by simp[Instr.sliceBounds,sb _ _ _ _ hp.1 hp.2]⟩
 ·simp only[Yc,YM] at h;obtain⟨rfl,rfl,rfl⟩:=h;cases vhi with
  |none=>simp only[Qjf] at h2
  |some v =>
   cases vlo with
   |some _=>simp only[Qjf] at h1
   |none =>
    obtain⟨e,_⟩:=h2;injection e with e
    subst e;exact⟨YR _,by omega,fun isSl cap w hc=>by simp[Instr.sliceBounds,sb _ _ _ _ hp.1 (show _≤(cap:Int) by omega)]⟩
 ·simp only[Yc,YM] at h;obtain⟨rfl,rfl,rfl⟩:=h;cases vhi with
  |none=>simp only[Qjf] at h2
  |some v =>
   cases vlo with
   |none=>simp only[Qjf] at h1
   |some v' =>
    obtain⟨e,_⟩:=h2;injection e with e
    subst e;obtain⟨e,_⟩:=h1;injection e with e
    subst e;obtain⟨p1,p2,p3⟩:=hp;refine⟨by omega,by omega,fun isSl cap w hc=>?_⟩;have h0:=Int.le_trans p1 p2;simp[Instr.sliceBounds,sb _ _ _ _ h0 (show _≤(cap:Int) by omega),sb _ _ _ _ p1 (Int.le_trans p2 (Int.self_le_toNat _))]
 ·cases h
end
end Go.Fw

