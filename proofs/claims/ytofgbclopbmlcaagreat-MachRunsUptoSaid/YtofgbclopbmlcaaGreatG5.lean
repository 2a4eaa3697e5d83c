/- Part 5 of the proof. Conditions: none. -/
import Derived.Test.YtofgbclopbmlcaaGreatG4
import Derived.Great.BuildSlice
import Derived.Laws.Slices
namespace Go.Fw
set_option linter.unusedVariables false
set_option linter.unusedSimpArgs false
section
variable {P:Program} {T:Tab}
theorem V1R.cells{E:Env}:{x:V1}→{v:Value}→V1R E x v→IR E x.items v.cells.toList
 |.c c,v,h=>by
  have h1:=QaK.ones (c:=c) h v (by simp);have:v.cells=#[v]:=by cases v<;>first|rfl|(simp[Value.oneCell'] at h1)
  rw[this];exact⟨[v],[],rfl,h,rfl⟩
 |.agg cs,_,⟨vals,e,h⟩=>by subst e;exact h
theorem Qdo(a r b x:List Value)(h:x.length=r.length):(a++r++b).take a.length++x++(a++r++b).drop (a.length+x.length)=a++x++b:=by
 simp[h,List.drop_append]
theorem QBp(a m b:List Value)(i:Nat)(v:Value)(hi:i<m.length):(a++m++b).take (a.length+i)++[v]++(a++m++b).drop (a.length+i+1)=a++m.set i v++b:=by
 rw[List.set_eq_take_append_cons_drop,if_pos hi]
 simp[List.take_append,List.drop_append,Nat.add_assoc,show a.length+(i+1)-a.length=i+1 from by omega,show i-m.length=0 from by omega,show i+1-m.length=0 from by omega,
  List.take_of_length_le (show a.length≤a.length+i by omega),List.drop_of_length_le (show a.length≤a.length+(i+1) by omega)]
theorem QeS{E:Env}{xs cs cs':List Cell}{xvs vs:List Value}{j:Nat}(hx:IR E xs xvs)(h1:IR E cs vs)(h:Qbn cs j xs=some cs')(hne:0<sizes xs):j≤vs.length:=by
 cases xs with
 |nil=>simp[sizes] at hne
 |cons c r =>
  unfold Qbn at h;cases h9:QcM cs j c with
  |none=>rw[h9] at h;cases h
  |some _ =>
   obtain⟨xv,_,_,hxv,_⟩:=hx;obtain⟨p,q,s,rfl,hp1,_⟩:=Qdn hxv h1 h9;simp;omega
theorem Qhi{E:Env}{g j:Nat}{cs:Array Value}{el:TypeId}(hg:E.w.heap[g]?=some (.cells cs el (0,0))){t:TypeId}{ti:TI}(hok:TyOk P t ti){vx:Value}(hsz:vx.cells.size=ti.size)(h1:∀u∈vx.cells.toList,u.oneCell'=true)(hfit:j+vx.cells.size≤cs.size) :
 (Instr.storeAt t (pt g j) vx).run P E.w=.ok () (E.w.setRow g (cs.toList.take j++vx.cells.toList++cs.toList.drop (j+vx.cells.size)).toArray):=by
 have hst:=run_storeCells_at P g j el vx.cells.toList 0 cs E.w hg (by simpa using hfit) h1;simp only[Nat.add_zero,Array.length_toList] at hst;simp[Instr.storeAt,Instr.sureAddr,pt,storeVar,hok.sizeOf,hsz,hst]
theorem Qsm{E:Env}{look:Nat→Option Blk}(hT:TabOk P T)(hH:HeapOk E)(hl:∀b x,look b=some x→E.H b=some x){t:TypeId}{a x:AV}{va vx:Value}{r:Res}{nm:Nat}(ha:AVR E a va)(hx:AVR E x vx)
 (h:Qsb T look t a x=some r) (hp:∀p,r.pre=some p→p):∃E',(Instr.storeAt t va vx).run P E.w=.ok () E'.w∧Step E r nm E'∧r.val=.dead:=by
 unfold Qsb at h;cases hti:T.ty t with
 |none=>rw[hti] at h;cases h
 |some ti =>
  rw[hti] at h;simp only at h;have hok:=hT.ty t ti hti;cases x with
  |dead=>cases h
  |tup _=>cases h
  |one v =>
   simp only at h;have hvr:=V1R.cells (E:=E) (x:=v) hx;cases hsz:Nat.beq (v.items.foldl (fun n c=>n+c.size) 0) ti.size&&Nat.blt 0 ti.size with
   |false=>rw[hsz] at h;cases h
   |true =>
    rw[hsz] at h;simp only at h;rw[Bool.and_eq_true] at hsz
    have hsz1:sizes v.items=ti.size:=by
     have:=Nat.eq_of_beq_eq_true hsz.1;rwa[QeR,Nat.zero_add] at this
    have hpos:0<sizes v.items:=by
     have:=Nat.le_of_ble_eq_true hsz.2;omega
    have hsz':vx.cells.size=ti.size:=by
     rw[←hsz1,←hvr.len];simp
    have hones:=hvr.ones
    match a,h,ha with
    |.one (.c (.ptr b j)),h,ha =>
     simp only at h;cases hb:look b with
     |none=>rw[hb] at h;cases h
     |some y =>
      rw[hb] at h;cases y with
      |arr _ _=>cases h
      |mp _ _ _ _=>cases h
      |var cs =>
       simp only at h;have hbx:=hl _ _ hb;obtain⟨_,⟨g',cs',el',h6,h7,h8⟩,_⟩:=hH.blk _ _ hbx;obtain⟨v',⟨e,_⟩,hu,hh⟩:=ha;injection e with e
       subst e;obtain⟨g,h1,rfl⟩:=hh _ hbx;rw[h1] at h6;injection h6 with h6;subst h6
       cases hs:Qbn cs j v.items with
       |none=>rw[hs] at h;cases h
       |some cs2 =>
        rw[hs] at h;simp only[Option.some.injEq] at h;subst h;have hj:=QeS hvr h8 hs hpos;obtain⟨p,q,s,e,hp1,hq,hir,hmap⟩:=QcD hvr h8 hs hj
        have hlen:cs'.size=p.length+q.length+s.length:=by
         have:=congrArg List.length e;simpa[Nat.add_assoc] using this
        have hq':q.length=vx.cells.size:=by simpa using hq
        have hraw:=Qhi (P:=P) h7 (j:=j) hok hsz' hones (by omega)
        have enew:cs'.toList.take j++vx.cells.toList++cs'.toList.drop (j+vx.cells.size)=p++vx.cells.toList++s:=by
         rw[e,←hp1];exact Qdo p q s vx.cells.toList (by simpa using hq'.symm)
        rw[enew] at hraw;refine⟨_,hraw,Step.setK (us:=[]) (x:=.var cs) (blk:=.var cs2) (cs':=(p++vx.cells.toList++s).toArray) hH rfl rfl (by simp) hbx h1 (by simp[shape,hmap]) (Qa5 h7 (by simp;omega)) ?_,rfl⟩;show IR (QK E []) cs2 _;exact(hir.ext (Q8 []))
    |.one (.c (.pidx b j i)),h,ha =>
     simp only at h;cases hb:look b with
     |none=>rw[hb] at h;cases h
     |some y =>
      rw[hb] at h;cases y with
      |arr _ _=>cases h
      |mp _ _ _ _=>cases h
      |var cs =>
       simp only at h;have hbx:=hl _ _ hb;obtain⟨_,⟨g',cs',el',h6,h7,h8⟩,_⟩:=hH.blk _ _ hbx;obtain⟨v',⟨e,_⟩,hu,hh⟩:=ha;injection e with e
       subst e;obtain⟨g,h1,rfl⟩:=hh _ hbx;rw[h1] at h6;injection h6 with h6;subst h6
       split at h
       ·rename_i k n l k' y hit hv;cases hk:Qn4 k' k with
        |false=>rw[hk] at h;cases h
        |true =>
         rw[hk] at h;simp only at h;have hkk:k'=k:=of_decide_eq_true hk;subst hkk;cases hs:QcM cs j (.run k' n (l.set i y)) with
         |none=>rw[hs] at h;cases h
         |some cs2 =>
          rw[hs] at h;simp only[Option.some.injEq] at h;subst h;have hi:i<n:=hp _ rfl;obtain⟨p0,q0,s0,e0,hp0,hln,rfl⟩:=Qc0 h8 hit;have hrel:QaK E (.run k' n (l.set i y)) ((l.set i y).map (.int k')):=⟨by simpa using hln,rfl⟩
          obtain⟨p,q,s,e,hp1,hq,hir,hmap⟩:=Qdn hrel h8 hs;rw[e0] at e;obtain⟨rfl,rfl,rfl⟩:=QmW e (by rw[hp0,hp1]) (by simp[hq,Cell.size,hln])
          obtain⟨hvx,_⟩:=(show vx=.int k' y∧True by
           have:QaK E (.imm (.int k' y)) [vx]:=hx;obtain⟨e,_⟩:=this;injection e with e
           exact⟨e,trivial⟩)
          subst hvx
          have hlen:cs'.size=p0.length+l.length+s0.length:=by
           have:=congrArg List.length e0;simpa[Nat.add_assoc] using this
          have hraw:=Qhi (P:=P) h7 (j:=j+i) hok hsz' hones (by simp[Value.cells];omega)
          have enew:cs'.toList.take (j+i)++(Value.int k' y).cells.toList++cs'.toList.drop (j+i+(Value.int k' y).cells.size)=p0++(l.set i y).map (.int k')++s0:=by
           rw[e0,←hp0,List.map_set];exact QBp p0 _ s0 i _ (by simp;omega)
          rw[enew] at hraw;refine⟨_,hraw,Step.setK (us:=[]) (x:=.var cs) (blk:=.var cs2) (cs':=(p0++(l.set i y).map (Value.int k')++s0).toArray) hH rfl rfl (by simp) hbx h1 (by simp[shape,hmap]) (Qa5 h7 (by simp;omega)) ?_,rfl⟩;show IR (QK E []) cs2 _;exact(hir.ext (Q8 []))
       ·cases h
    |.one (.c (.pel b i j)),h,ha =>
     simp only at h;cases hb:look b with
     |none=>rw[hb] at h;cases h
     |some y =>
      rw[hb] at h;cases y with
      |var _=>cases h
      |mp _ _ _ _=>cases h
      |arr u l =>
       simp only at h;have hbx:=hl _ _ hb;obtain⟨_,hbr,_⟩:=hH.blk _ _ hbx;obtain⟨v',⟨e,_⟩,hu,hh⟩:=ha;injection e with e
       subst e;cases hs:Qbn (cells u (l.getD i (dflt u))) j v.items with
       |none=>rw[hs] at h;cases h
       |some cs2 =>
        rw[hs] at h;simp only at h;cases hd:Qb3 look u cs2 with
        |none=>rw[hd] at h;cases h
        |some du =>
         obtain⟨d,us⟩:=du;rw[hd] at h;simp only at h;cases hc:us.contains b with
         |true=>rw[hc] at h;cases h
         |false =>
          rw[hc] at h;simp only[Option.some.injEq] at h;subst h;have hi:i<l.length:=hp _ rfl;obtain⟨g,h1,rfl⟩:=hh _ _ hbx hi;rcases hbr with⟨h6,rfl⟩|⟨g',cs',el',us0,spare,h6,h7,h8,h9⟩
          ·simp at hi
          rw[h1] at h6;injection h6 with h6;subst h6
          obtain⟨p,q,s,rfl,hp1,hq⟩:=h9.get (fun _ _ hx=>hx.len) hi;have hg:l.getD i (dflt u)=l[i]:=by simp[List.getD,List.getElem?_eq_getElem hi]
          rw[hg] at hs;have hj:=QeS hvr hq.items hs hpos;obtain⟨p1,q1,s1,e,hp2,hq1,hir,hmap⟩:=QcD hvr hq.items hs hj;have hcr:=QbF hH hl hd hir;have hlq:=congrArg List.length e;have hcl:=hcr.len;have hql:=hq.len;simp at hlq hcl;have hq':q1.length=vx.cells.size:=by simpa using hq1
          have hlen:cs'.size=p.length+q.length+s.length+spare.length:=by
           have:=congrArg List.length h8;simpa[Nat.add_assoc] using this
          have hraw:=Qhi (P:=P) h7 (j:=i*u.size+j) hok hsz' hones (by omega)
          have enew:cs'.toList.take (i*u.size+j)++vx.cells.toList++cs'.toList.drop (i*u.size+j+vx.cells.size)=(p++(p1++vx.cells.toList++s1)++s)++spare:=by
           rw[h8,e];have:=Qdo (p++p1) q1 (s1++s++spare) vx.cells.toList (by simpa using hq'.symm);rw[show(p++p1).length=i*u.size+j from by simp[hp1,hp2]] at this;simpa using this
          rw[enew] at hraw
          refine⟨_,hraw,Step.setK (us:=us) (x:=.arr u l) (blk:=.arr u (l.set i d)) (cs':=((p++(p1++vx.cells.toList++s1)++s)++spare).toArray) hH rfl rfl (by simpa using hc) hbx h1 (by simp[shape])
           (Qa5 h7 (by simp[hlen,hq'];omega)) ?_,rfl⟩
          refine⟨p++(p1++vx.cells.toList++s1)++s,spare,by simp,?_⟩;exact Qu.set (n:=u.size) (fun _ _ hx=>hx.len) hcr (h9.mono fun _ _ hx=>hx.su) hi hp1 hq.len
end
section
variable {P:Program} {T:Tab}
theorem Qof(E:Env)(nm:Nat)(is:List Cell)(w':World):AVR (QbN E nm (.var is) w') (.cell (.ptr nm 0)) (pt E.w.heap.size 0) :=
 ⟨_,⟨rfl,rfl⟩,.inr rfl,fun cs _=>⟨_,by simp[QbN],rfl⟩⟩
theorem Qk6(E:Env)(nm:Nat)(is:List Cell)(w':World)(n:Nat):AVR (QbN E nm (.var is) w') (.cell (.svar nm 0 n)) (.slice (some ⟨E.w.heap.size,0,none⟩) n n) :=
 ⟨_,⟨rfl,rfl⟩,.inr rfl,fun cs _=>⟨_,n,by simp[QbN],rfl,Nat.le_refl _⟩⟩
theorem Qfp(E:Env)(nm:Nat){t:Ty}{l:List (Den t)}{w':World}{cs:Array Value}{el:TypeId}{cap:Nat}(hw:w'.heap=E.w.heap.push (.cells cs el))(h1:l.length≤cap)(h2:cap*t.size≤cs.size) :
 AVR (QbN E nm (.arr t l) w') (.cell (.own nm)) (.slice (some ⟨E.w.heap.size,0,none⟩) l.length cap):=by
 refine⟨_,⟨rfl,rfl⟩,.inr rfl,fun u l' h=>?_⟩;simp only[QbN,if_true,Option.some.injEq,Blk.arr.injEq] at h;obtain⟨rfl,h⟩:=h;have h:=eq_of_heq h;subst h;exact .inr ⟨_,cs,el,cap,by simp[QbN],QgQ hw,rfl,h1,h2⟩
theorem Qsn{E:Env}(hT:TabOk P T)(hH:HeapOk E){t:TypeId}{ti:TI}(h:T.ty t=some ti){nm:Nat}(hnm:¬E.U nm) :
 ∃E',(Instr.alloc t true (.tuple #[])).run P E.w=.ok (pt E.w.heap.size 0) E'.w∧Step E { pre:=none,val:=.cell (.ptr nm 0),add:=[.var ti.zero],set:=[] } nm E'∧AVR E' (.cell (.ptr nm 0)) (pt E.w.heap.size 0):=by
 obtain⟨z,hz,hir,_⟩:=(hT.ty t ti h).zero;refine⟨QbN (QK E []) nm (.var ti.zero) (E.w.alloc (.cells z.cells t)),?_,Step.newK (us:=[]) hH rfl rfl hnm rfl rfl rfl rfl (hir _),Qof _ _ _ _⟩;simp[Instr.alloc,hz,newVar,newRow];exact⟨rfl,rfl⟩
theorem QBq{E:Env}(hH:HeapOk E)(t:TypeId){x:V1}{v:Value}(hx:V1R E x v){nm:Nat}(hnm:¬E.U nm) :
 ∃E',(Instr.box t v).run P E.w=.ok (pt E.w.heap.size 0) E'.w∧Step E { pre:=none,val:=.cell (.ptr nm 0),add:=[.var x.items],set:=[] } nm E'∧AVR E' (.cell (.ptr nm 0)) (pt E.w.heap.size 0):=by
 refine⟨QbN (QK E []) nm (.var x.items) (E.w.alloc (.cells v.cells t)),?_,Step.newK (us:=[]) hH rfl rfl hnm rfl rfl rfl rfl ((V1R.cells hx).ext (Q8 [])),Qof _ _ _ _⟩;simp[Instr.box,newVar,newRow];exact⟨rfl,rfl⟩
theorem Qk7(hT:TabOk P T){t:TypeId}{u:Ty}{by_:Nat}(h:Qhe T t=some (u,by_)):∃e i z,P.underlying t=some (.slice e)∧P.info? e=some i∧i.zero=some z∧i.size=u.size∧i.bytes=by_∧z.cells.size=u.size ∧
 (∀w S,CR w S u (dflt u) z.cells.toList)∧(∀w,(sizeOf e).run P w=.ok u.size w)∧∀w,(zeroValue e).run P w=.ok z w:=by
 unfold Qhe at h;split at h
 ·rename_i e _ _ _ _ _ ht;have hu:=(hT.ty t _ ht).und;simp only[QW] at hu;cases he:T.ty e with
  |none=>rw[he] at h;cases h
  |some ti =>
   rw[he] at h;simp only at h;cases hy:ti.ety with
   |none=>rw[hy] at h;cases h
   |some u' =>
    rw[hy] at h;simp only[Option.some.injEq,Prod.mk.injEq] at h;obtain⟨rfl,rfl⟩:=h;have hok:=hT.ty e ti he;obtain⟨i,z,h1,h2,h3,h4,h5,h6,h7⟩:=hok.inf;obtain⟨h8,h9⟩:=h7 u' hy;exact⟨e,i,z,hu,h1,h4,h2.trans h8.symm,h3,h6.trans h8.symm,h9,fun w=>by rw[h8];exact hok.sizeOf w,fun w=>by simp[zeroValue,typeInfo,h1,h4]⟩
 ·cases h
theorem QiE(z:Array Value)(s:Nat)(hs:z.size=s):∀n:Nat,(madeCells z (n*s)).toList=(List.replicate n z.toList).flatten:=by
 intro n
 induction n with
 |zero=>simp[madeCells]
 |succ n ih =>
  rw[List.replicate_succ'];simp only[List.flatten_append,List.flatten_cons,List.flatten_nil,List.append_nil,←ih];simp only[madeCells,Array.toList_map,Array.toList_range,Nat.add_mul,Nat.one_mul,List.range_add,List.map_append,List.map_map];congr 1;apply List.ext_getElem
  ·simp[hs]
  ·intro i h1 h2;simp only[List.length_map,List.length_range] at h1;have e:(n*s+i)%s=i:=by rw[Nat.mul_comm,Nat.mul_add_mod];exact Nat.mod_eq_of_lt h1
   simp[hs,e,getElem!_pos z i (by omega)]
theorem Qc1{w:World}{S:Nat→Prop}{u:Ty}{d:Den u}{zs:List Value}(h:CR w S u d zs):∀n,Qu (CR w S u) (List.replicate n d) (List.replicate n zs).flatten
 |0=>rfl
 |n+1=>⟨zs,_,rfl,h,Qc1 h n⟩
theorem QjI{E:Env}(hT:TabOk P T)(hH:HeapOk E){t:TypeId}{l c:AV}{vl vc:Value}{r:Res}{nm:Nat}(hnm:¬E.U nm)(h1:AVR E l vl)(h2:AVR E c vc)
 (h:Qec T nm t l c=some r) (hp:∀p,r.pre=some p→p):∃v E',(Instr.makeSlice t vl vc).run P E.w=.ok v E'.w∧Step E r nm E'∧AVR E' r.val v:=by
 unfold Qec at h;split at h
 ·rename_i u by_ n m he;simp only[Option.some.injEq] at h;subst h;obtain⟨rfl,h0,hb,h9⟩:=hp _ rfl;obtain⟨e,_⟩:=h1;injection e with e
  subst e;obtain⟨e,_⟩:=h2;injection e with e
  subst e;obtain⟨e,i,z,hu,hi,hz,hs,hby,hzs,hcr,_,_⟩:=Qk7 hT he;subst hby;have hrun:=run_make (P:=P) E.w t e i z hu hi hz .i64 .i64 n n h0 (Int.le_refl _) (by rw[Int.mul_comm];exact hb) (by omega);have hcells:(madeCells z.cells (n.toNat*i.size)).toList=(List.replicate n.toNat z.cells.toList).flatten:=by rw[hs];exact QiE z.cells u.size hzs n.toNat
  refine⟨_,QbN (QK E []) nm (.arr u (List.replicate n.toNat (dflt u))) (E.w.alloc (.cells (madeCells z.cells (n.toNat*i.size)) e)),hrun,Step.newK (us:=[]) hH rfl rfl hnm rfl rfl rfl rfl ?_,?_⟩
  ·exact⟨(madeCells z.cells (n.toNat*i.size)).toList,[],by simp,by rw[hcells];exact Qc1 (hcr _ _) n.toNat⟩
  ·have:=Qfp (QK E []) nm (t:=u) (l:=List.replicate n.toNat (dflt u)) (w':=E.w.alloc (.cells (madeCells z.cells (n.toNat*i.size)) e)) (cap:=n.toNat) (cs:=madeCells z.cells (n.toNat*i.size)) (el:=e) rfl (by simp) (by simp[size_madeCells,hs]);simpa[QK] using this
 ·cases h
theorem QjJ:∀(vs:List Value) (k off:Nat) (cur:Array Value),off+k+vs.length≤cur.size →
 ((vs.zipIdx k).foldl (fun cs (x:Value×Nat)=>cs.setIfInBounds (off+x.2) x.1) cur).toList=cur.toList.take (off+k)++vs++cur.toList.drop (off+k+vs.length)
 | [],k,off,cur,h=>by simp
 |v::vs,k,off,cur,h=>by
  simp only[List.zipIdx_cons,List.foldl_cons];rw[QjJ vs (k+1) off _ (by simp at h ⊢;omega)];simp only[Array.toList_setIfInBounds,List.length_cons];have hlt:off+k<cur.toList.length:=by simp at h ⊢;omega
  rw[List.set_eq_take_append_cons_drop,if_pos hlt];have e1:(cur.toList.take (off+k)).length=off+k:=by simp;simp at hlt;omega
  rw[show off+(k+1)=(off+k)+1 from by omega,List.take_append,List.drop_append,e1];simp[show off+k+1-(off+k)=1 from by omega,show off+k+1+vs.length-(off+k)=vs.length+1 from by omega,List.take_take,List.drop_drop,List.drop_of_length_le (show(cur.toList.take (off+k)).length≤off+k+1+vs.length by omega)];congr 1;omega
theorem Qef{size:Nat}:∀(parts:List (Nat×Value)) (i:Nat) (cur:Array Value) (a b:List Value),(∀(k:Nat) p,parts[k]?=some p→p.1=i+k∧p.2.cells.size=size)→cur.toList=a++b→a.length=i*size→parts.length*size≤b.length →
 ∃arr,Instr.fill (fun i=>some (i*size,size)) cur parts=some arr∧arr.toList=a++(parts.map fun p=>p.2.cells.toList).flatten++b.drop (parts.length*size)
 | [],i,cur,a,b,_,hc,_,_=>⟨cur,rfl,by simp[hc]⟩
 |p::ps,i,cur,a,b,h,hc,ha,hb=>by
  obtain⟨j,v⟩:=p;obtain⟨h1,h2⟩:=h 0 (j,v) rfl;simp only[Nat.add_zero] at h1 h2;subst h1
  have hlen:cur.size=a.length+b.length:=by
   have:=congrArg List.length hc;simpa using this
  simp only[List.length_cons,Nat.add_mul,Nat.one_mul] at hb;have hput:=QjJ v.cells.toList 0 (j*size) cur (by simp[h2];omega)
  have hz:v.cells.zipIdx.foldl (fun cs (x:Value×Nat)=>cs.setIfInBounds (j*size+x.2) x.1) cur=((v.cells.toList.zipIdx 0).foldl (fun cs (x:Value×Nat)=>cs.setIfInBounds (j*size+x.2) x.1) cur):=by
   rw[←Array.foldl_toList];simp
  have e2:v.cells.toList.length=size:=by simpa using h2
  have hnew:((v.cells.toList.zipIdx 0).foldl (fun cs (x:Value×Nat)=>cs.setIfInBounds (j*size+x.2) x.1) cur).toList=(a++v.cells.toList)++b.drop size:=by
   rw[hput,hc,Nat.add_zero,←ha,e2];simp[List.drop_append]
  obtain⟨arr,h3,h4⟩:=Qef ps (j+1) _ (a++v.cells.toList) (b.drop size) (fun k p hp=>by obtain⟨e1,e2⟩:=h (k+1) p (by simpa using hp);exact⟨by omega,e2⟩) hnew
   (by simp only[List.length_append,ha,e2,Nat.add_mul,Nat.one_mul]) (by simp;omega)
  refine⟨arr,?_,?_⟩
  ·simp only[Instr.fill,h2];rw[if_neg (by simp;omega),hz];exact h3
  ·rw[h4];simp[List.drop_drop,Nat.add_mul,Nat.add_comm]
end
section
variable {P:Program} {T:Tab}
def PsR(E:Env):List (Nat×AV)→List (Nat×Value)→Prop
 | [],vs=>vs=[]
 |(i,x)::ps,vs=>∃v r,vs=(i,v)::r∧AVR E x v∧PsR E ps r
theorem PsR.len{E:Env}:∀{ps:List (Nat×AV)} {vs:List (Nat×Value)},PsR E ps vs→vs.length=ps.length
 | [],_,h=>by simp only[PsR] at h;subst h;rfl
 |(i,x)::ps,_,⟨v,r,e,_,h⟩=>by subst e;simp[h.len]
theorem QiZ{E:Env}{look:Nat→Option Blk}(hH:HeapOk E)(hl:∀b x,look b=some x→E.H b=some x){u:Ty}:∀{ps:List (Nat×AV)} {vs:List (Nat×Value)} {i:Nat} {ds:List (Den u)} {us:List Nat},PsR E ps vs→Qfh look u i ps=some (ds,us) →
 (∀(k:Nat) p,vs[k]?=some p→p.1=i+k∧p.2.cells.size=u.size)∧Qu (CR E.w (SU E us) u) ds (vs.map fun p=>p.2.cells.toList).flatten
 | [],_,i,ds,us,hr,h=>by
   simp only[PsR] at hr;subst hr;simp only[Qfh,Option.some.injEq,Prod.mk.injEq] at h;obtain⟨rfl,rfl⟩:=h;exact⟨fun k p h=>by simp at h,rfl⟩
 |(j,x)::ps,_,i,ds,us,⟨v,r,e,hx,hr⟩,h=>by
  subst e;cases x with
  |dead=>simp[Qfh] at h
  |tup _=>simp[Qfh] at h
  |one x =>
   simp only[Qfh] at h;cases hj:Nat.beq i j with
   |false=>rw[hj] at h;cases h
   |true =>
    rw[hj] at h;simp only at h;obtain rfl:=Nat.eq_of_beq_eq_true hj;cases hd:Qb3 look u x.items with
    |none=>rw[hd] at h;cases h
    |some du =>
     obtain⟨d,us1⟩:=du;rw[hd] at h;simp only at h;cases he:Qfh look u (i+1) ps with
     |none=>rw[he] at h;cases h
     |some y =>
      obtain⟨ds',us2⟩:=y;rw[he] at h;simp only[Option.some.injEq,Prod.mk.injEq] at h;obtain⟨rfl,rfl⟩:=h;obtain⟨h1,h2⟩:=QiZ hH hl hr he;have hcr:=QbF hH hl hd (V1R.cells hx);refine⟨fun k p hk=>?_,⟨_,_,rfl,hcr.su_mono (by simp +contextual),h2.mono fun _ _ hx=>hx.su_mono (by simp +contextual)⟩⟩;cases k with
      |zero =>
       simp at hk;subst hk;exact⟨rfl,by simpa using hcr.len⟩
      |succ k =>
       obtain⟨e1,e2⟩:=h1 k p (by simpa using hk);exact⟨by omega,e2⟩
theorem QBr(hT:TabOk P T){t:TypeId}{u:Ty}{by_:Nat}(he:Qhe T t=some (u,by_)){n:Nat}{vs:Array (Nat×Value)}(hn:n=vs.size)(hsm:n*u.size<16777216)(hpos:0<u.size)
 (h1:∀(k:Nat) p,vs.toList[k]?=some p→p.1=0+k∧p.2.cells.size=u.size) (w:World) :
 ∃(arr:Array Value) (e:TypeId),(Instr.buildSlice t n vs).run P w=.ok (.slice (some ⟨w.heap.size,0,none⟩) n n) (w.alloc (.cells arr e))∧arr.toList=(vs.toList.map fun p=>p.2.cells.toList).flatten:=by
 obtain⟨e,i,z,hu,hi,hz,hs,hby,hzs,hcr,hso,hze⟩:=Qk7 hT he;have hvl:vs.toList.length=n:=by simp[hn]
 obtain⟨arr,ha,hal⟩:=Qef (size:=u.size) vs.toList 0 (madeCells z.cells (n*u.size)) [] (madeCells z.cells (n*u.size)).toList (fun k p hk=>by simpa using h1 k p hk) rfl (by simp) (by simp[size_madeCells,hn])
 have hal':arr.toList=(vs.toList.map fun p=>p.2.cells.toList).flatten:=by
  rw[hal];simp[hn,size_madeCells]
 refine⟨arr,e,?_,hal'⟩;by_cases h0:n=0
 ·subst h0
  have hv0:vs=#[]:=by
   have:vs.toList=[]:=List.eq_nil_of_length_eq_zero (by omega);simpa using this
  subst hv0;have:arr=#[]:=by simpa using hal'
  subst this;simp[Instr.buildSlice,run_underlying hu,hso,Instr.fill,newRow,Array.range_zero']
 ·have hne:¬n*u.size=0:=by
   intro e0;rcases Nat.mul_eq_zero.1 e0 with e0|e0<;>omega
  exact run_buildSlice w t e n vs arr i z hu hi hz (by rw[hs];omega) (by rw[hs];exact hne) (by rw[hs];exact ha)
theorem Qk8{E:Env}:∀{ps:List (Nat×AV)} {vs:List (Nat×Value)} {i:Nat} {cs:List Cell},PsR E ps vs→Qqs i ps=some cs →
 (∀(k:Nat) p,vs[k]?=some p→p.1=i+k∧p.2.cells.size=1)∧IR E cs (vs.map fun p=>p.2.cells.toList).flatten
 | [],_,i,cs,hr,h=>by
   simp only[PsR] at hr;subst hr;simp only[Qqs,Option.some.injEq] at h;subst h;exact⟨fun k p h=>by simp at h,rfl⟩
 |(j,x)::ps,_,i,cs,⟨v,r,e,hx,hr⟩,h=>by
  subst e;unfold Qqs at h;split at h
  ·rename_i h';cases h'
  ·rename_i b o l r' h';injection h' with h' h''
   injection h' with e1 e2
   subst e1;subst e2;subst h'';split at h
   ·rename_i hj;obtain rfl:=Nat.eq_of_beq_eq_true hj;split at h
    ·rename_i cs' hcs;injection h with h
     subst h;obtain⟨h1,h2⟩:=Qk8 hr hcs;obtain⟨v',⟨ev,hv1⟩,hrest⟩:=hx;injection ev with ev
     subst ev
     have hc1:v.cells=#[v]:=by
      cases v<;>simp_all [Value.cells,Value.oneCell']
     refine⟨fun k p hk=>?_,[v],_,by simp[hc1],⟨v,⟨rfl,hv1⟩,hrest⟩,h2⟩;cases k with
     |zero =>
      simp at hk;subst hk;exact⟨rfl,by simp[hc1]⟩
     |succ k =>
      obtain⟨e1,e2⟩:=h1 k p (by simpa using hk);exact⟨by omega,e2⟩
    ·cases h
   ·cases h
  ·cases h
theorem QwT{t e:TypeId}{i:TypeInfo}{z:Value}(hu:P.underlying t=some (.slice e))(hi:P.info? e=some i)(hz:i.zero=some z)(hs:i.size=1)(hzs:z.cells.size=1){n:Nat}{vs:Array (Nat×Value)}(hn:n=vs.size)(hsm:n<16777216)(hpos:0<n)
 (h1:∀(k:Nat) p,vs.toList[k]?=some p→p.1=0+k∧p.2.cells.size=1) (w:World) :
 ∃arr:Array Value,(Instr.buildSlice t n vs).run P w=.ok (.slice (some ⟨w.heap.size,0,none⟩) n n) (w.alloc (.cells arr e))∧arr.toList=(vs.toList.map fun p=>p.2.cells.toList).flatten:=by
 have hvl:vs.toList.length=n:=by simp[hn]
 obtain⟨arr,ha,hal⟩:=Qef (size:=1) vs.toList 0 (madeCells z.cells (n*1)) [] (madeCells z.cells (n*1)).toList (fun k p hk=>by simpa using h1 k p hk) rfl (by simp) (by simp[size_madeCells,hn])
 have hal':arr.toList=(vs.toList.map fun p=>p.2.cells.toList).flatten:=by
  rw[hal];simp[hn,size_madeCells]
 exact⟨arr,run_buildSlice w t e n vs arr i z hu hi hz (by rw[hs];omega) (by rw[hs];omega) (by rw[hs];exact ha),hal'⟩
theorem Qk9{E:Env}:∀{ps:List (Nat×AV)} {vs:List (Nat×Value)} {i:Nat} {cs:List Cell},PsR E ps vs→Qsf i ps=some cs →
 (∀(k:Nat) p,vs[k]?=some p→p.1=i+k∧p.2.cells.size=1)∧IR E cs (vs.map fun p=>p.2.cells.toList).flatten
 | [],_,i,cs,hr,h=>by
   simp only[PsR] at hr;subst hr;simp only[Qsf,Option.some.injEq] at h;subst h;exact⟨fun k p h=>by simp at h,rfl⟩
 |(j,x)::ps,_,i,cs,⟨v,r,e,hx,hr⟩,h=>by
  subst e;unfold Qsf at h;split at h
  ·rename_i h';cases h'
  ·rename_i b o r' h';injection h' with h' h''
   injection h' with e1 e2
   subst e1;subst e2;subst h'';split at h
   ·rename_i hj;obtain rfl:=Nat.eq_of_beq_eq_true hj;split at h
    ·rename_i cs' hcs;injection h with h
     subst h;obtain⟨h1,h2⟩:=Qk9 hr hcs;obtain⟨v',⟨ev,hv1⟩,hrest⟩:=hx;injection ev with ev
     subst ev
     have hc1:v.cells=#[v]:=by
      cases v<;>simp_all [Value.cells,Value.oneCell']
     refine⟨fun k p hk=>?_,[v],_,by simp[hc1],⟨v,⟨rfl,hv1⟩,hrest⟩,h2⟩;cases k with
     |zero =>
      simp at hk;subst hk;exact⟨rfl,by simp[hc1]⟩
     |succ k =>
      obtain⟨e1,e2⟩:=h1 k p (by simpa using hk);exact⟨by omega,e2⟩
    ·cases h
   ·cases h
  ·cases h
theorem Qla{E:Env}(hT:TabOk P T)(hH:HeapOk E){t:TypeId}{n:Nat}{ps:List (Nat×AV)}{vs:Array (Nat×Value)}{r:Res}{nm:Nat}(hnm:¬E.U nm)(hr:PsR E ps vs.toList)
 (h:Qfi T nm t n ps=some r):∃v E',(Instr.buildSlice t n vs).run P E.w=.ok v E'.w∧Step E r nm E'∧AVR E' r.val v:=by
 unfold Qfi at h;split at h
 ·rename_i e _ _ _ _ _ ht;have hu:=(hT.ty t _ ht).und;simp only[QW] at hu;split at h
  ·rename_i q sz by_ zr et cm he;split at h
   ·rename_i hc;simp only[Bool.and_eq_true] at hc;obtain⟨⟨⟨hc0,hc1⟩,hc2⟩,hc3⟩:=hc;have hs1:sz=1:=Nat.eq_of_beq_eq_true hc0;have hn:=Nat.eq_of_beq_eq_true hc1;have hsm:n<16777216:=Nat.le_of_ble_eq_true hc2;have hpos:0<n:=Nat.le_of_ble_eq_true hc3;split at h
    ·rename_i cs hcs;simp only[Option.some.injEq] at h;subst h;obtain⟨i,z,h1,h2,h3,h4,h5,h6,h7⟩:=(hT.ty e _ he).inf;obtain⟨k1,k2⟩:=Qk9 hr hcs;have hvl:=hr.len;obtain⟨arr,hrun,hal⟩:=QwT (P:=P) hu h1 h4 (h2.trans hs1) (h6.trans hs1) (n:=n) (vs:=vs) (by simp at hvl;omega) hsm hpos k1 E.w;refine⟨_,QbN (QK E []) nm (.var cs) (E.w.alloc (.cells arr e)),hrun,Step.newK (us:=[]) hH rfl rfl hnm rfl rfl rfl rfl ?_,Qk6 _ _ _ _ _⟩;show IR (QK E []) cs arr.toList;rw[hal];exact k2.ext (Q8 [])
    ·cases h
   ·cases h
  ·cases h
 ·cases h
theorem QiF{E:Env}{look:Nat→Option Blk}(hT:TabOk P T)(hH:HeapOk E)(hl:∀b x,look b=some x→E.H b=some x){t:TypeId}{n:Nat}{ps:List (Nat×AV)}{vs:Array (Nat×Value)}{r:Res}{nm:Nat}(hnm:¬E.U nm)(hr:PsR E ps vs.toList)
 (h:Qdl T look nm t n ps=some r):∃v E',(Instr.buildSlice t n vs).run P E.w=.ok v E'.w∧Step E r nm E'∧AVR E' r.val v:=by
 unfold Qdl at h;cases he:Qhe T t with
 |none=>rw[he] at h;exact Qla hT hH hnm hr h
 |some ub =>
  obtain⟨u,by_⟩:=ub;rw[he] at h;simp only at h;split at h
  ·rename_i hc;simp only[Bool.and_eq_true] at hc;obtain⟨⟨hc1,hc2⟩,hc3⟩:=hc;have hn:=Nat.eq_of_beq_eq_true hc1;have hsm:n*u.size<16777216:=Nat.le_of_ble_eq_true hc2;have hpos:0<u.size:=Nat.le_of_ble_eq_true hc3;cases hsu:Qn6 u ps with
   |some cs =>
    rw[hsu] at h;simp only[Option.some.injEq] at h;subst h;have hu1:u.size=1:=by cases u<;>first|rfl|(simp[Qn6] at hsu;done)
    have hsa:Qqs 0 ps=some cs:=by
     unfold Qn6 at hsu;split at hsu
     ·exact hsu
     ·cases hsu
    obtain⟨h1,h2⟩:=Qk8 hr hsa;have hvl:=hr.len;obtain⟨arr,e,hrun,hal⟩:=QBr (P:=P) hT he (n:=n) (vs:=vs) (by simp at hvl;omega) hsm hpos (by rw[hu1];exact h1) E.w;refine⟨_,QbN (QK E []) nm (.var cs) (E.w.alloc (.cells arr e)),hrun,Step.newK (us:=[]) hH rfl rfl hnm rfl rfl rfl rfl ?_,Qk6 _ _ _ _ _⟩;show IR (QK E []) cs arr.toList;rw[hal];exact h2.ext (Q8 [])
   |none =>
   rw[hsu] at h;simp only at h;cases hel:Qfh look u 0 ps with
   |none=>rw[hel] at h;cases h
   |some y =>
    obtain⟨ds,us⟩:=y;rw[hel] at h;simp only[Option.some.injEq] at h;subst h;obtain⟨h1,h2⟩:=QiZ hH hl hr hel;obtain⟨e,i,z,hu,hi,hz,hs,hby,hzs,hcr,hso,hze⟩:=Qk7 hT he;have hvl:=hr.len;obtain⟨arr,ha,hal⟩:=Qef (size:=u.size) vs.toList 0 (madeCells z.cells (n*u.size)) [] (madeCells z.cells (n*u.size)).toList (fun k p hk=>by simpa using h1 k p hk) rfl (by simp) (by simp[size_madeCells,hn];simp at hvl;rw[hvl];exact Nat.le_refl _)
    have hal':arr.toList=(vs.toList.map fun p=>p.2.cells.toList).flatten:=by
     rw[hal];simp[hvl,←hn,size_madeCells]
    have hdl:ds.length=n:=by
     have:=h2.len (n:=u.size) (fun _ _ hx=>hx.len);have h3:=congrArg List.length hal
     have h4:arr.toList.length=n*u.size:=by
      rw[hal];simp[size_madeCells]
      have h5:((vs.toList.map fun p=>p.2.cells.toList).flatten).length=n*u.size:=by
       have:∀(l:List (Nat×Value)),(∀p∈l,p.2.cells.size=u.size)→((l.map fun p=>p.2.cells.toList).flatten).length=l.length*u.size:=by
        intro l
        induction l with
        |nil=>intro _;simp
        |cons p l ih=>intro hp;simp[List.flatten_cons,hp p (by simp),Nat.add_mul,Nat.add_comm] at ih ⊢;rw[ih fun a b hb=>hp (a,b) (by simp[hb])]
       rw[this vs.toList (fun p hp=>by obtain⟨k,hk⟩:=List.mem_iff_getElem?.1 hp;exact(h1 k p hk).2),hvl,hn]
      simp at hvl h5;rw[hvl,←hn];omega
     rw[hal'] at h4;rw[h4] at this;exact(Nat.eq_of_mul_eq_mul_right hpos this).symm
    have hrun:(Instr.buildSlice t n vs).run P E.w=.ok (.slice (some ⟨E.w.heap.size,0,none⟩) n n) (E.w.alloc (.cells arr e)):=by
     by_cases h0:n=0
     ·subst h0
      have hv0:vs=#[]:=by
       have:vs.toList=[]:=List.eq_nil_of_length_eq_zero (by omega);simpa using this
      subst hv0;have:arr=#[]:=by simpa using hal'
      subst this;simp[Instr.buildSlice,run_underlying hu,hso,Instr.fill,newRow,Array.range_zero']
     ·have hne:¬n*u.size=0:=by
       intro e0;rcases Nat.mul_eq_zero.1 e0 with e0|e0<;>omega
      exact run_buildSlice E.w t e n vs arr i z hu hi hz (by rw[hs];omega) (by rw[hs];exact hne) (by rw[hs];exact ha)
    refine⟨_,QbN (QK E us) nm (.arr u ds) (E.w.alloc (.cells arr e)),hrun,Step.newK (us:=us) hH rfl rfl hnm rfl rfl rfl rfl ?_,?_⟩
    ·exact⟨arr.toList,[],by simp,by rw[hal'];exact h2⟩
    ·have:=Qfp (QK E us) nm (t:=u) (l:=ds) (w':=E.w.alloc (.cells arr e)) (cap:=n) (cs:=arr) (el:=e) rfl (by omega) (by
      have:=h2.len (n:=u.size) (fun _ _ hx=>hx.len);rw[←hal',hdl] at this;simp at this
      omega)
     simpa[QK,hdl] using this
  ·cases h
theorem sb(k:IntKind)(i:Int)(y:Nat)(code:BoundsCode)(h0:0≤i)(h1:i≤y)(w:World):(Instr.sliceBound (.int k i) y code).run P w=.ok i.toNat w:=by
 simp[Instr.sliceBound,asIntOf,h0,h1]
def Qi0(E:Env):Option AV→Option Value→Prop
 |none,none=>True
 |some x,some v=>AVR E x v
 |_,_=>False
theorem QbG{E:Env}{len:Nat}{lo hi:Option AV}{vlo vhi:Option Value}{p:Prop}{a b:Nat}(h1:Qi0 E lo vlo)(h2:Qi0 E hi vhi)(h:QdQ len lo hi=some (p,a,b))(hp:p) :
 a≤b∧b≤len∧∀(isSl:Bool) (cap:Nat) (w:World),len≤cap→(Instr.sliceBounds isSl len cap vlo vhi none).run P w=.ok (a,b,cap) w:=by
 unfold QdQ at h;split at h
 ·simp only[Option.some.injEq,Prod.mk.injEq] at h;obtain⟨rfl,rfl,rfl⟩:=h;cases vlo<;>cases vhi<;>simp only[Qi0] at h1 h2;exact⟨Nat.zero_le _,Nat.le_refl _,fun isSl cap w hc=>by simp[Instr.sliceBounds]⟩
 ·simp only[Option.some.injEq,Prod.mk.injEq] at h;obtain⟨rfl,rfl,rfl⟩:=h;cases vlo with
  |none=>simp only[Qi0] at h1
  |some v =>
   cases vhi with
   |some _=>simp only[Qi0] at h2
   |none =>
    obtain⟨e,_⟩:=h1;injection e with e
    subst e;exact⟨by omega,Nat.le_refl _,fun isSl cap w hc=>by simp[Instr.sliceBounds,sb _ _ _ _ hp.1 hp.2]⟩
 ·simp only[Option.some.injEq,Prod.mk.injEq] at h;obtain⟨rfl,rfl,rfl⟩:=h;cases vhi with
  |none=>simp only[Qi0] at h2
  |some v =>
   cases vlo with
   |some _=>simp only[Qi0] at h1
   |none =>
    obtain⟨e,_⟩:=h2;injection e with e
    subst e;exact⟨Nat.zero_le _,by omega,fun isSl cap w hc=>by simp[Instr.sliceBounds,sb _ _ _ _ hp.1 (show _≤(cap:Int) by omega)]⟩
 ·simp only[Option.some.injEq,Prod.mk.injEq] at h;obtain⟨rfl,rfl,rfl⟩:=h;cases vhi with
  |none=>simp only[Qi0] at h2
  |some v =>
   cases vlo with
   |none=>simp only[Qi0] at h1
   |some v' =>
    obtain⟨e,_⟩:=h2;injection e with e
    subst e;obtain⟨e,_⟩:=h1;injection e with e
    subst e;obtain⟨p1,p2,p3⟩:=hp;refine⟨by omega,by omega,fun isSl cap w hc=>?_⟩;have h0:=Int.le_trans p1 p2;simp[Instr.sliceBounds,sb _ _ _ _ h0 (show _≤(cap:Int) by omega),sb _ _ _ _ p1 (Int.le_trans p2 (Int.self_le_toNat _))]
 ·cases h
end
end Go.Fw

