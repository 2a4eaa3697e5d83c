/- Part 4 of the proof. Conditions: none. -/
import Derived.Test.YtofgbclopbmlcaaGreatG3
namespace Go.Fw
set_option linter.unusedVariables false
set_option linter.unusedSimpArgs false
section
variable {P:Program} {T:Tab}
theorem addadd(ad:Addr)(i j:Nat):(ad.add i).add j=ad.add (i+j):=by
 unfold Addr.add;by_cases h1:i=0<;>by_cases h2:j=0<;>simp[h1,h2,Nat.add_assoc]
theorem QFo{α:Type}{w:World}{S:Nat→Prop}{R:α→List Value→Prop}{n:Nat}(hn:∀x vs,R x vs→vs.length=n){l:List α}{ad:Option Addr}{cap a b:Nat}(h:SlR w S R l (.slice ad l.length cap))(hab:a≤b)(hb:b≤l.length) :
 SlR w S R ((l.take b).drop a) (.slice (if cap=a then ad else ad.map (·.add (a*n))) (b-a) (cap-a)):=by
 obtain⟨ad',cap',e,hc,hh⟩:=h;injection e with e1 e2 e3
 subst e1 e3;have hlen:((l.take b).drop a).length=b-a:=by simp;omega
 refine⟨_,_,by rw[hlen],by rw[hlen];omega,fun hne=>?_⟩
 have hpos:a<b:=by
  rcases Jp a b with h|h
  ·exact h
  ·exact YD (Yr (by omega)) hne
 obtain⟨x,us,rfl,hs,hlr,hcell⟩:=hh (by intro e;subst e;simp at hb;omega);rw[Yb (by omega)];have h1:=(hlr.take_drop hn b).1;have h2:=(h1.take_drop hn a).2;refine⟨x.add (a*n),_,rfl,by rw[show(x.add (a*n)).block=x.block from by unfold Addr.add;split<;>rfl];exact hs,h2,fun k u hu=>?_⟩;rw[addadd];refine hcell _ _ ?_;rw[List.getElem?_drop,List.getElem?_take] at hu;split at hu
 ·exact hu
 ·cases hu
theorem QsT{E:Env}{look:Nat→Option Blk}(hT:TabOk P T)(hH:HeapOk E)(hl:∀b x,look b=some x→E.H b=some x){t:TypeId}{x:AV}{lo hi mx:Option AV}{vx:Value}{vlo vhi vmx:Option Value}{r:Res}
 (hx:AVR E x vx) (h1:Qjf E lo vlo) (h2:Qjf E hi vhi) (h3:Qjf E mx vmx) (h:QsL T look t x lo hi mx=some r) (hp:∀p,r.pre=some p→p) :
 ∃v,(Instr.sliceAt t vx vlo vhi vmx).run P E.w=.ok v E.w∧AVR E r.val v∧r.add=[]∧r.set=[]:=by
 unfold QsL at h;cases mx with
 |some _=>cases h
 |none =>
 cases vmx with
 |some _=>simp only[Qjf] at h3
 |none =>
 simp only at h;split at h
 ·
  rename_i ht;have hu:=(hT.ty t _ ht).und;simp only[QZ] at hu;obtain⟨e,_⟩:=hx;injection e with e
  subst e;split at h
  ·rename_i p a b hb;simp only[okP,Yc] at h;subst h;obtain⟨_,_,hrun⟩:=QbK (P:=P) h1 h2 hb (hp _ rfl);exact⟨_,by simp[Instr.sliceAt,run_underlying hu,Instr.slice,hrun false _ E.w (YE _)],⟨rfl,rfl⟩,rfl,rfl⟩
  ·cases h
 ·
  rename_i e _ _ _ _ _ u l ht;have hu:=(hT.ty t _ ht).und;simp only[QZ] at hu;split at h
  ·rename_i p a b ti hb hti;split at h
   ·rename_i hsz;simp only[okP,Yc] at h;subst h;obtain⟨hab,hbl,hrun⟩:=QbK (P:=P) h1 h2 hb (hp _ rfl);have hs:=Yg hsz;obtain⟨v,e,hsl⟩:=hx;injection e with e
    subst e;obtain⟨ad,cap,rfl,hc,hh⟩:=hsl;refine⟨_,?_,⟨_,rfl,QFo (n:=u.size) (fun _ _ hx=>hx.len) ⟨ad,cap,rfl,hc,hh⟩ hab hbl⟩,rfl,rfl⟩;simp[Instr.sliceAt,run_underlying hu,Instr.slice,hrun true _ E.w hc,(hT.ty e ti hti).sizeOf,hs]
   ·cases h
  ·cases h
 ·
  rename_i e _ _ _ _ _ b ht;have hu:=(hT.ty t _ ht).und;simp only[QZ] at hu;split at h
  ·rename_i u l ti hb hti;have hbx:=hl _ _ hb;split at h
   ·rename_i hsz;have hs:=Yg hsz;obtain⟨v,⟨e,hv1⟩,hU,hh⟩:=hx;injection e with e
    subst e;split at h
    ·simp only[ok1,Yc] at h;subst h;cases vlo<;>cases vhi<;>simp only[Qjf] at h1 h2;rcases hh _ _ hbx with⟨hr,rfl⟩|⟨g,cs,el,cap,hr,hw,rfl,hc,hsz'⟩
     ·refine⟨.slice none 0 0,?_,⟨_,⟨rfl,rfl⟩,hU,hh⟩,rfl,rfl⟩;simp[Instr.sliceAt,run_underlying hu,Instr.slice,Instr.sliceBounds,(hT.ty _ ti hti).sizeOf]
     ·refine⟨.slice (some ⟨g,0,none⟩) l.length cap,?_,⟨_,⟨rfl,rfl⟩,hU,hh⟩,rfl,rfl⟩;simp[Instr.sliceAt,run_underlying hu,Instr.slice,Instr.sliceBounds,(hT.ty _ ti hti).sizeOf,Addr.add]
    ·split at h
     ·rename_i p a c hbd;simp only[okP,Yc] at h;subst h;obtain⟨hab,hbl,hrun⟩:=QbK (P:=P) h1 h2 hbd (hp _ rfl);rcases hh _ _ hbx with⟨hr,rfl⟩|⟨g,cs,el,cap,hr,hw,rfl,hc,hsz'⟩
      ·obtain⟨_,hbr,_⟩:=hH.blk _ _ hbx;rcases hbr with⟨_,rfl⟩|⟨g,_,_,_,_,h6,_⟩
       ·simp at hbl;have:a=0:=by omega
        subst this hbl;refine⟨.slice none 0 0,?_,⟨_,⟨rfl,rfl⟩,hU,fun t' l' h'=>⟨YR _,.inl ⟨hr,rfl,rfl⟩⟩⟩,rfl,rfl⟩;have:=hrun true 0 E.w (YE _);simp at this;simp[Instr.sliceAt,run_underlying hu,Instr.slice,this,(hT.ty _ ti hti).sizeOf]
       ·rw[hr] at h6;cases h6
      ·refine⟨_,by simp[Instr.sliceAt,run_underlying hu,Instr.slice,hrun true _ E.w hc,(hT.ty _ ti hti).sizeOf,hs];exact rfl,⟨_,⟨rfl,rfl⟩,hU,fun t' l' h'=>?_⟩,rfl,rfl⟩;rw[hbx] at h';injection h' with h'
       injection h' with e1 e2
       subst e1;have e2:=eq_of_heq e2;subst e2;refine⟨by omega,?_⟩;by_cases hca:cap=a
       ·rw[Yf hca];exact .inr ⟨g,_,_,hr,rfl,by omega,fun hpos=>by omega⟩
       ·rw[Yb hca];exact .inr ⟨g,_,_,hr,rfl,by omega,fun _=>by simp[QbA]⟩
     ·cases h
   ·cases h
  ·cases h
 ·
  rename_i e _ _ _ _ _ b off len ht;have hu:=(hT.ty t _ ht).und;simp only[QZ] at hu;split at h
  ·rename_i u l ti hb hti;have hbx:=hl _ _ hb;split at h
   ·rename_i hsz;have hs:=Yg hsz;split at h
    ·rename_i p a c hbd;simp only[okP,Yc] at h;subst h;obtain⟨hab,hbl,hrun⟩:=QbK (P:=P) h1 h2 hbd (hp _ rfl);obtain⟨v,⟨e,hv1⟩,hU,hh⟩:=hx;injection e with e
     subst e;obtain⟨h0,hh⟩:=hh _ _ hbx;rcases hh with⟨hr,rfl,rfl⟩|⟨g,ad,cap,hr,rfl,hc,had⟩
     ·have hc0:c=0:=by omega
      have ha0:a=0:=by omega
      subst hc0 ha0;refine⟨.slice none 0 0,?_,⟨_,⟨rfl,rfl⟩,hU,fun t' l' h'=>?_⟩,rfl,rfl⟩
      ·simp[Instr.sliceAt,run_underlying hu,Instr.slice,hrun true 0 E.w (YE _),(hT.ty _ ti hti).sizeOf]
      ·rw[hbx] at h';injection h' with h'
       injection h' with e1 e2
       subst e1;have e2:=eq_of_heq e2;subst e2;exact⟨by omega,.inl ⟨hr,rfl,rfl⟩⟩
     ·refine⟨_,by simp[Instr.sliceAt,run_underlying hu,Instr.slice,hrun true _ E.w hc,(hT.ty _ ti hti).sizeOf,hs];exact rfl,⟨_,⟨rfl,rfl⟩,hU,fun t' l' h'=>?_⟩,rfl,rfl⟩;rw[hbx] at h';injection h' with h'
      injection h' with e1 e2
      subst e1;have e2:=eq_of_heq e2;subst e2;refine⟨by omega,?_⟩;by_cases hca:cap=a
      ·rw[Yf hca];exact .inr ⟨g,_,_,hr,rfl,by omega,fun hpos=>by omega⟩
      ·rw[Yb hca];refine .inr ⟨g,_,_,hr,rfl,by omega,fun hpos=>?_⟩;rw[had (by omega),QbA,YV]
    ·cases h
   ·cases h
  ·cases h
 ·
  rename_i ht;have hu:=(hT.ty t _ ht).und;simp only[QZ] at hu;split at h
  ·rename_i p a c ti hbd hti;simp only[okP,Yc] at h;subst h;obtain⟨hab,hbl,hrun⟩:=QbK (P:=P) h1 h2 hbd (hp _ rfl);have hc0:c=0:=by omega
   have ha0:a=0:=by omega
   subst hc0 ha0;obtain⟨e,hv1⟩:=hx;injection e with e
   subst e;refine⟨.slice none 0 0,?_,⟨rfl,rfl⟩,rfl,rfl⟩;simp[Instr.sliceAt,run_underlying hu,Instr.slice,hrun true 0 E.w (YE _),(hT.ty _ ti hti).sizeOf]
  ·cases h
 ·
  rename_i m e _ _ _ _ _ b j ht;have hu:=(hT.ty t _ ht).und;simp only[QZ] at hu;split at h
  ·rename_i cs ti hb hti;have hbx:=hl _ _ hb;split at h
   ·rename_i k n l hit;split at h
    ·rename_i hsz;simp only[Yj] at hsz;have hnm:=Yg hsz.1.1;have hs1:=Yg hsz.1.2;have hpos:0<n:=YT hsz.2;subst hnm;simp only[ok1,Yc] at h;subst h;cases vlo<;>cases vhi<;>simp only[Qjf] at h1 h2;obtain⟨v,⟨e,hv1⟩,hU,hh⟩:=hx;injection e with e
     subst e;obtain⟨g,hr,rfl⟩:=hh _ hbx;refine⟨.slice (some ⟨g,j,none⟩) n n,?_,⟨_,⟨rfl,rfl⟩,hU,fun cs' c h' hit'=>?_⟩,rfl,rfl⟩
     ·simp[Instr.sliceAt,run_underlying hu,Instr.sliceBounds,(hT.ty _ ti hti).sizeOf,Instr.sureAddr,pt,Addr.add]
     ·rw[hbx] at h';injection h' with h'
      injection h' with h'
      subst h';rw[hit] at hit';injection hit' with hit'
      subst hit';exact⟨g,n,hr,rfl,YE _⟩
    ·cases h
   ·cases h
  ·cases h
 ·cases h
def Qch(E:Env)(b nm:Nat)(u:Ty)(l:List (Den u)):Env :=
 { w:=E.w,ρ:=fun c=>if c=nm then E.ρ b else E.ρ c,S:=E.S,H:=fun c=>if c=nm then some (.arr u l) else if c=b then none else E.H c,U:=fun c=>E.U c∨c=nm }
theorem Step.cut{E:Env}{r:Res}{b nm:Nat}{u:Ty}{l:List (Den u)}{n:Nat}(hH:HeapOk E)(hb:E.H b=some (.arr u l))(hr1:r.add=[.arr u (l.take n)])(hr2:r.set=[(b,none)])(hnm:¬E.U nm):Step E r nm (Qch E b nm u (l.take n)):=by
 obtain⟨hbU,hbR,hbS⟩:=hH.blk b _ hb
 have hext:Ext E (Qch E b nm u (l.take n)):=by
  refine⟨fun g hg=>⟨hg,rfl⟩,fun c hc=>.inl hc,fun c x' hc hx=>?_⟩;have hne:c≠nm:=fun e=>hnm (e ▸ hc)
  by_cases hcb:c=b
  ·simp[Qch,hne,hcb] at hx;exact YD (hx.1:b=nm) (fun e=>hnm (e ▸ hbU))
  ·exact⟨x',by simpa[Qch,hne,hcb] using hx,by simp[Qch,hne],rfl,fun g cs el _ h=>⟨cs,h,rfl⟩⟩
 have hbn:b≠nm:=fun e=>hnm (e ▸ hbU)
 have hold:∀c x,c≠nm→(Qch E b nm u (l.take n)).H c=some x→c≠b∧E.H c=some x:=fun c x hne hx=>by
  by_cases hcb:c=b
  ·simp[Qch,hcb,hbn] at hx
  ·exact⟨hcb,by simpa[Qch,hne,hcb] using hx⟩
 refine⟨hext,⟨fun c x hx=>?_,fun c c' x x' g hx hx' hr hr'=>?_,hH.st⟩,fun c=>?_,fun c=>?_,fun F hF=>?_⟩
 ·by_cases hc:c=nm
  ·subst hc;simp only[Qch,if_true,Yc] at hx;subst hx;refine⟨.inr rfl,?_,fun g hg=>hbS g (by simpa[Qch] using hg)⟩;rcases hbR with⟨h1,h2⟩|⟨g,cs,el,us,spare,h1,h2,h3,h4⟩
   ·exact .inl ⟨by simpa[Qch] using h1,by rw[h2];simp⟩
   ·have h5:=(h4.take_drop (n:=u.size) (fun _ _ h=>h.len) n).1;exact .inr ⟨g,cs,el,us.take (n*u.size),us.drop (n*u.size)++spare,by simpa[Qch] using h1,h2,by rw[←Yy,List.take_append_drop];exact h3,h5⟩
  ·obtain⟨hcb,hx⟩:=hold c x hc hx;obtain⟨h1,h2,h3⟩:=hH.blk c x hx;exact⟨.inl h1,h2.ext hext (by simp[Qch,hc]) (fun _ _=>rfl),fun g hg=>h3 g (by simpa[Qch,hc] using hg)⟩
 ·by_cases hc:c=nm<;>by_cases hc':c'=nm
  ·rw[hc,hc']
  ·obtain⟨hcb,hx'⟩:=hold c' x' hc' hx';have:=hH.inj b c' _ x' g hb hx' (by simpa[Qch,hc] using hr) (by simpa[Qch,hc'] using hr');exact YD this.symm hcb
  ·obtain⟨hcb,hx⟩:=hold c x hc hx;have:=hH.inj c b x _ g hx hb (by simpa[Qch,hc] using hr) (by simpa[Qch,hc'] using hr');exact YD this hcb
  ·exact hH.inj c c' x x' g (hold c x hc hx).2 (hold c' x' hc' hx').2 (by simpa[Qch,hc] using hr) (by simpa[Qch,hc'] using hr')
 ·rw[hr1,hr2];simp only[addF,Qgf,Qch]
 ·rw[hr1];simp only[Qch,Jj];constructor
  ·rintro (h|h)
   ·exact .inl h
   ·exact .inr (by omega)
  ·rintro (h|h)
   ·exact .inl h
   ·exact .inr (by omega)
 ·refine⟨hF.os,hF.tape,hF.output,hF.size,hF.old,fun c x g hx hr=>?_,hF.S⟩;by_cases hc:c=nm
  ·exact hF.own b _ g hb (by simpa[Qch,hc] using hr)
  ·exact hF.own c x g (hold c x hc hx).2 (by simpa[Qch,hc] using hr)
theorem QCm{E:Env}{look:Nat→Option Blk}(hT:TabOk P T)(hH:HeapOk E)(hl:∀b x,look b=some x→E.H b=some x){nm:Nat}{t:TypeId}{x:AV}{lo hi mx:Option AV}{vx:Value}{vlo vhi vmx:Option Value}{r:Res}
 (hnm:¬E.U nm) (hx:AVR E x vx) (h1:Qjf E lo vlo) (h2:Qjf E hi vhi) (h3:Qjf E mx vmx) (h:cutA T look nm t x lo hi mx=some r) (hp:∀p,r.pre=some p→p) :
 ∃v E',(Instr.sliceAt t vx vlo vhi vmx).run P E.w=.ok v E'.w∧Step E r nm E'∧AVR E' r.val v:=by
 unfold cutA at h;split at h
 ·split at h
  ·split at h
   ·split at h
    ·split at h
     ·rename_i b _ _ _ k n _ _ e _ _ _ _ _ u l ht hb _ ti hti _ hsz;simp only[Yc] at h;subst h;have hbx:=hl _ _ hb;have hu:=(hT.ty t _ ht).und;simp only[QZ] at hu;rw[Yj] at hsz;have hs:=Yg hsz.1;obtain⟨hn0,hn1⟩:0≤n∧n≤l.length:=hp _ rfl;cases vmx with
      |some _=>simp only[Qjf] at h3
      |none =>
      have hbd:QdV l.length none (some (.one (.c (.imm (.int k n)))))=some (0≤n∧n≤l.length,0,n.toNat):=rfl;obtain⟨hab,hbl,hrun⟩:=QbK (P:=P) h1 h2 hbd ⟨hn0,hn1⟩;obtain⟨v,⟨e1,hv1⟩,hU,hh⟩:=hx;injection e1 with e1
      subst e1;rcases hh _ _ hbx with⟨hr,rfl⟩|⟨g,cs,el,cap,hr,hw,rfl,hc,hsz'⟩
      ·obtain⟨_,hbr,_⟩:=hH.blk _ _ hbx;rcases hbr with⟨_,rfl⟩|⟨g,_,_,_,_,h6,_⟩
       ·have hn2:n.toNat=0:=by simpa using hbl
        refine⟨.slice none 0 0,Qch E b nm u (List.take n.toNat []),?_,Step.cut hH hbx rfl rfl hnm,⟨_,⟨rfl,rfl⟩,.inr rfl,fun t' l' h'=>.inl ⟨by simp[Qch,hr],rfl⟩⟩⟩;have:=hrun true 0 E.w (YE _);simp[hn2] at this;simp[Instr.sliceAt,run_underlying hu,Instr.slice,this,(hT.ty _ ti hti).sizeOf,Qch]
       ·rw[hr] at h6;cases h6
      ·refine⟨.slice (some ⟨g,0,none⟩) n.toNat cap,Qch E b nm u (l.take n.toNat),?_,Step.cut hH hbx rfl rfl hnm,⟨_,⟨rfl,rfl⟩,.inr rfl,fun t' l' h'=>?_⟩⟩
       ·simp[Instr.sliceAt,run_underlying hu,Instr.slice,hrun true _ E.w hc,(hT.ty _ ti hti).sizeOf,hs,Qch,QbA]
       ·simp only[Qch,if_true,Yc] at h';injection h' with e1 e2
        subst e1;have e2:=eq_of_heq e2;subst e2;have hlt:(l.take n.toNat).length=n.toNat:=by rw[Yq];omega
        rw[hlt];exact .inr ⟨g,cs,el,cap,by simp[Qch,hr],hw,rfl,by omega,hsz'⟩
     ·cases h
    ·cases h
   ·cases h
  ·cases h
 ·cases h
end
section
variable {P:Program} {T:Tab}
theorem QjZ{E:Env}{look:Nat→Option Blk}(hT:TabOk P T)(hH:HeapOk E)(hl:∀b x,look b=some x→E.H b=some x){t:TypeId}{x i:AV}{vx vi:Value}{r:Res}
 (hx:AVR E x vx) (hi:AVR E i vi) (h:Qgc T look t x i=some r) (hp:∀p,r.pre=some p→p) :
 ∃v,(Instr.indexAt t vx vi).run P E.w=.ok v E.w∧AVR E r.val v∧r.add=[]∧r.set=[]:=by
 unfold Qgc at h;split at h
 ·rename_i k n;obtain⟨e,_⟩:=hi;injection e with e
  subst e;split at h
  ·
   rename_i e _ _ _ _ _ ht;have hu:=(hT.ty t _ ht).und;simp only[QZ] at hu;split at h
   ·rename_i u l;cases hti:T.ty e with
    |none=>rw[hti] at h;cases h
    |some ti =>
     rw[hti] at h;simp only at h;cases hsz:Nat.beq ti.size u.size with
     |false=>rw[hsz] at h;cases h
     |true =>
      rw[hsz] at h;simp only[okP,Yc] at h;subst h;have hs:=Yg hsz;obtain⟨h0,h1⟩:=hp _ rfl;obtain⟨v,e,hsl⟩:=hx;injection e with e
      subst e;obtain⟨ad,cap,rfl,hc,hh⟩:=hsl;obtain⟨ad',us,rfl,hS,hlr,hcell⟩:=hh (by intro e;subst e;simp at h1;omega);refine⟨.pointer (some (ad'.add (n.toNat*u.size))),?_,⟨by omega,ad',us,by simp,hS,hlr,hcell⟩,rfl,rfl⟩;simp[Instr.indexAt,asIntOf,run_underlying hu,(hT.ty e ti hti).sizeOf,h0,h1,hs]
   ·rename_i b;split at h
    ·rename_i u l ti hb hti;have hbx:=hl _ _ hb;cases hsz:Nat.beq ti.size u.size with
     |false=>rw[hsz] at h;cases h
     |true =>
      rw[hsz] at h;simp only[okP,Yc] at h;subst h;have hs:=Yg hsz;obtain⟨h0,h1⟩:=hp _ rfl;obtain⟨v,⟨e,hv1⟩,hU,hh⟩:=hx;injection e with e
      subst e;rcases hh _ _ hbx with⟨hr,rfl⟩|⟨g,cs,el,cap,hr,hw,rfl,hc,hsz'⟩
      ·obtain⟨_,hbr,_⟩:=hH.blk _ _ hbx;rcases hbr with⟨_,rfl⟩|⟨g,_,_,_,_,h6,_⟩
       ·simp at h1;omega
       ·rw[hr] at h6;cases h6
      ·refine⟨pt g (n.toNat*u.size),?_,⟨_,⟨rfl,rfl⟩,hU,fun t' l' h' hi'=>?_⟩,rfl,rfl⟩
       ·simp[Instr.indexAt,asIntOf,run_underlying hu,(hT.ty e ti hti).sizeOf,h0,h1,hs,pt,QbA]
       ·rw[hbx] at h';injection h' with h'
        injection h' with e1 e2
        subst e1;exact⟨g,hr,rfl⟩
    ·cases h
   ·rename_i b off len;split at h
    ·rename_i u l ti hb hti;have hbx:=hl _ _ hb;cases hsz:Nat.beq ti.size u.size with
     |false=>rw[hsz] at h;cases h
     |true =>
      rw[hsz] at h;simp only[okP,Yc] at h;subst h;have hs:=Yg hsz;obtain⟨h0,h1⟩:=hp _ rfl;obtain⟨v,⟨e,hv1⟩,hU,hh⟩:=hx;injection e with e
      subst e;obtain⟨hle,hh⟩:=hh _ _ hbx;rcases hh with⟨hr,rfl,rfl⟩|⟨g,ad,cap,hr,rfl,hc,had⟩
      ·simp at h1;omega
      ·refine⟨pt g ((off+n.toNat)*u.size),?_,⟨_,⟨rfl,rfl⟩,hU,fun t' l' h' hi'=>?_⟩,rfl,rfl⟩
       ·simp[Instr.indexAt,asIntOf,run_underlying hu,(hT.ty e ti hti).sizeOf,h0,h1,hs,pt,had (by omega),QbA,YV]
       ·rw[hbx] at h';injection h' with h'
        injection h' with e1 e2
        subst e1;exact⟨g,hr,rfl⟩
    ·cases h
   ·rename_i b j m;split at h
    ·rename_i cs ti hb hti;have hbx:=hl _ _ hb;cases hsz:Nat.beq ti.size 1 with
     |false=>rw[hsz] at h;cases h
     |true =>
      rw[hsz] at h;simp only[okP,Yc] at h;subst h;have hs:=Yg hsz;obtain⟨h0,h1⟩:=hp _ rfl;obtain⟨v,⟨e,hv1⟩,hU,hh⟩:=hx;injection e with e
      subst e;obtain⟨g,cap,hr,rfl,hc⟩:=hh _ hbx;refine⟨pt g (j+n.toNat),?_,⟨_,⟨rfl,rfl⟩,hU,fun cs' h'=>?_⟩,rfl,rfl⟩
      ·simp[Instr.indexAt,asIntOf,run_underlying hu,(hT.ty e ti hti).sizeOf,h0,h1,hs,pt,QbA]
      ·exact⟨g,hr,rfl⟩
    ·cases h
   ·cases h
  ·
   rename_i m e _ _ _ _ _ ht;have hu:=(hT.ty t _ ht).und;simp only[QZ] at hu;split at h
   ·rename_i b j ti hti;split at h
    ·rename_i cs hb;have hbx:=hl _ _ hb;cases hsz:Nat.beq ti.size 1 with
     |false=>rw[hsz] at h;cases h
     |true =>
      rw[hsz] at h;simp only[okP,Yc] at h;subst h;have hs:=Yg hsz;obtain⟨h0,h1⟩:=hp _ rfl;obtain⟨v,⟨e,hv1⟩,hU,hh⟩:=hx;injection e with e
      subst e;obtain⟨g,hr,rfl⟩:=hh _ hbx;refine⟨pt g (j+n.toNat),?_,⟨_,⟨rfl,rfl⟩,hU,fun cs' h'=>⟨g,hr,rfl⟩⟩,rfl,rfl⟩;simp[Instr.indexAt,asIntOf,run_underlying hu,Instr.sureAddr,(hT.ty _ ti hti).sizeOf,h0,h1,hs,pt,QbA]
    ·cases h
   ·cases h
  ·cases h
 ·cases h
theorem Qj0{E:Env}{look:Nat→Option Blk}(hT:TabOk P T)(hl:∀b x,look b=some x→E.H b=some x){s:TypeId}{x:AV}{vx:Value}{f:Nat}{r:Res}
 (hx:AVR E x vx) (h:Qgb T look s x f=some r) (hp:∀p,r.pre=some p→p) :
 ∃v,(Instr.fieldAt s vx f).run P E.w=.ok v E.w∧AVR E r.val v∧r.add=[]∧r.set=[]:=by
 unfold Qgb at h;split at h
 ·rename_i fs _ _ _ _ _ ht;have hu:=(hT.ty s _ ht).und;simp only[QZ] at hu;obtain⟨F,hF,hfs,_⟩:=hu;split at h
  ·rename_i u o hfo;obtain⟨fd,h1,h2,h3⟩:=hfs _ _ _ hfo;cases hti:T.ty u with
   |none=>rw[hti] at h;cases h
   |some ti =>
    rw[hti] at h;simp only at h;cases hpz:Nat.blt 0 ti.size with
    |false=>rw[hpz] at h;cases h
    |true =>
     rw[hpz] at h;simp only at h;have hpos:0<ti.size:=YT hpz;have hso:∀w,(sizeOf fd.type).run P w=.ok ti.size w:=by rw[h2];exact(hT.ty u ti hti).sizeOf
     have hne:¬ti.size=0:=by omega
     have run:∀ad:Addr,(Instr.fieldAt s (.pointer (some ad)) f).run P E.w=.ok (.pointer (some (ad.add o))) E.w:=by
      intro ad;simp[Instr.fieldAt,run_underlying hF,h1,Instr.sureAddr,fieldPlace,hso,hne,h3]
     split at h
     ·split at h
      ·rename_i b j _ cs hb;simp only[ok1,Yc] at h;subst h;have hbx:=hl _ _ hb;obtain⟨v,⟨e,hv1⟩,hU,hh⟩:=hx;injection e with e
       subst e;obtain⟨g,hr,rfl⟩:=hh _ hbx;refine⟨pt g (j+o),by rw[show pt g (j+o)=.pointer (some ((⟨g,j,none⟩:Addr).add o)) from by rw[QbA];rfl];exact run _,⟨_,⟨rfl,rfl⟩,hU,fun cs' h'=>⟨g,hr,rfl⟩⟩,rfl,rfl⟩
      ·cases h
     ·split at h
      ·rename_i b i j _ t' l hb;simp only[okP,Yc] at h;subst h;have hi:=hp _ rfl;have hbx:=hl _ _ hb;obtain⟨v,⟨e,hv1⟩,hU,hh⟩:=hx;injection e with e
       subst e;obtain⟨g,hr,rfl⟩:=hh _ _ hbx hi;refine⟨pt g (i*t'.size+j+o),by rw[show pt g (i*t'.size+j+o)=.pointer (some ((⟨g,i*t'.size+j,none⟩:Addr).add o)) from by rw[QbA];rfl];exact run _,⟨_,⟨rfl,rfl⟩,hU,fun t2 l2 h' hi'=>?_⟩,rfl,rfl⟩;rw[hbx] at h';injection h' with h'
       injection h' with e1 e2
       subst e1;exact⟨g,hr,by rw[Nat.add_assoc]⟩
      ·cases h
     ·rename_i t' l i j;simp only[ok1,Yc] at h;subst h;obtain⟨hi,ad,us,e,hS,hlr,hcell⟩:=hx;injection e with e
      subst e;refine⟨_,run _,⟨hi,ad,us,?_,hS,hlr,hcell⟩,rfl,rfl⟩;rw[addadd,Nat.add_assoc]
     ·cases h
  ·cases h
 ·cases h
theorem Qxj{E:Env}(hT:TabOk P T){u:TypeId}{ti:TI}(hti:T.ty u=some ti){cs:List Cell}{vals:Array Value}(hr:IR E cs vals.toList){o:Nat} :
 (∀r,ti.isAgg=true→QaF cs o ti.size=some r→∃v,(part u vals o).run P E.w=.ok v E.w∧AVR E (.agg r) v) ∧
 (∀c,ti.isAgg=false→QaZ cs o=some c→c.size=1→∃v,(part u vals o).run P E.w=.ok v E.w∧AVR E (.cell c) v):=by
 have hok:=hT.ty u ti hti;constructor
 ·intro r hag h;obtain⟨a,m,b,e,ha,hm,hmr⟩:=Qdt hr h;refine⟨.agg (vals.extract o (o+ti.size)),by simp[part,hok.agg,hag,hok.sizeOf],_,rfl,?_⟩
  have:(vals.extract o (o+ti.size)).toList=m:=by
   rw[Array.toList_extract,e];simp[List.extract_eq_take_drop,←ha,←hm,List.drop_append]
  rw[this];exact hmr
 ·intro c hag h hs;obtain⟨a,m,b,e,ha,hmr⟩:=Qc6 hr h;have hml:=hmr.len;rw[hs] at hml
  match m,hml with
  | [v],_ =>
    have:vals[o]?=some v:=by
     rw[←YA,e,Yy,YO (by omega),ha];simp
    exact⟨v,by simp[part,hok.agg,hag,this],hmr⟩
theorem Qxk{c:Cell}(h:∀k n l,c≠.run k n l):c.size=1:=by
 cases c<;>first|rfl|exact YD rfl (h _ _ _)
theorem QsU{E:Env}(hT:TabOk P T){t:TypeId}{x:AV}{vx:Value}{f:Nat}{r:Res}(hx:AVR E x vx)(h:QsI T t x f=some r) :
 ∃v,(Instr.field t vx f).run P E.w=.ok v E.w∧AVR E r.val v∧r.add=[]∧r.set=[]∧r.pre=none:=by
 unfold QsI at h;split at h
 ·rename_i fs _ _ _ _ _ ht;have hu:=(hT.ty t _ ht).und;simp only[QZ] at hu;obtain⟨F,hF,hfs,_⟩:=hu;split at h
  ·rename_i u o hfo;obtain⟨fd,h1,h2,h3⟩:=hfs _ _ _ hfo;split at h
   ·rename_i ti cs hti;obtain⟨vals,rfl,hr⟩:=hx;have hp:=Qxj (P:=P) hT hti hr (o:=o)
    have run:∀v,(part u vals o).run P E.w=.ok v E.w→(Instr.field t (.agg vals) f).run P E.w=.ok v E.w:=by
     intro v hv;simp[Instr.field,run_underlying hF,h1,asAgg,h2,h3,hv]
    cases hag:ti.isAgg with
    |true =>
     rw[hag] at h;simp only at h;cases hq:QaF cs o ti.size with
     |none=>rw[hq] at h;cases h
     |some r' =>
      rw[hq] at h;simp only[ok1,Yc] at h;subst h;obtain⟨v,hv,hvr⟩:=hp.1 r' hag hq;exact⟨v,run v hv,hvr,rfl,rfl,rfl⟩
    |false =>
     rw[hag] at h;simp only at h;split at h
     ·cases h
     ·rename_i c hq hnr;simp only[ok1,Yc] at h;subst h;obtain⟨v,hv,hvr⟩:=hp.2 c hag hnr (Qxk fun k n l e=>hq k n l (by rw[←e]));exact⟨v,run v hv,hvr,rfl,rfl,rfl⟩
     ·cases h
   ·cases h
  ·cases h
 ·cases h
theorem QsV{E:Env}(hT:TabOk P T){t:TypeId}{x i:AV}{vx vi:Value}{r:Res}(hx:AVR E x vx)(hi:AVR E i vi)(h:QsH T t x i=some r)(hp:∀p,r.pre=some p→p) :
 ∃v,(Instr.index t vx vi).run P E.w=.ok v E.w∧AVR E r.val v∧r.add=[]∧r.set=[]:=by
 unfold QsH at h;split at h
 ·rename_i k n;obtain⟨e,_⟩:=hi;injection e with e
  subst e;split at h
  ·rename_i m e _ _ _ _ _ k' m' l ht;have hu:=(hT.ty t _ ht).und;simp only[QZ] at hu;cases hti:T.ty e with
   |none=>rw[hti] at h;cases h
   |some ti =>
    rw[hti] at h;simp only at h;split at h
    ·rename_i hc;simp only[Yj] at hc;have hs:=Yg hc.1.1;have hm:=Yg hc.1.2;have hag:ti.isAgg=false:=by simpa using hc.2
     subst hm;simp only[okP,Yc] at h;subst h;obtain⟨h0,h1⟩:=hp _ rfl;obtain⟨vals,rfl,r',rest,e,⟨hln,rfl⟩,hrest⟩:=hx;simp only[IR] at hrest;subst hrest
     have hget:vals[n.toNat]?=some (.int k' (l.getD n.toNat 0)):=by
      rw[←YA,e];simp[List.getD,Ye (show n.toNat<l.length by omega)]
     have hok:=hT.ty _ ti hti;refine⟨_,?_,⟨rfl,rfl⟩,rfl,rfl⟩;simp[Instr.index,asIntOf,run_underlying hu,h0,h1,hok.sizeOf,hs,part,hok.agg,hag,hget]
    ·cases h
  ·rename_i s ht;have hu:=(hT.ty t _ ht).und;simp only[QZ] at hu;simp only[okP,Yc] at h;subst h;obtain⟨h0,h1⟩:=hp _ rfl;obtain⟨e,_⟩:=hx;injection e with e
   subst e;refine⟨_,?_,⟨rfl,rfl⟩,rfl,rfl⟩;have hlt:n.toNat<s.size:=by omega
   have:Qfj s n.toNat=(s[n.toNat].toNat:Int):=by
    unfold Qfj;have h5:n.toNat<s.data.toList.length:=by simpa using hlt
    rw[List.getD,Ye h5];simp only[Option.getD_some,Array.getElem_toList];rfl
   rw[this];simp[Instr.index,asIntOf,run_underlying hu,h0,hlt]
  ·cases h
 ·cases h
end
section
variable {P:Program} {T:Tab}
theorem QeY{w:World}{S:Nat→Prop}:∀(l:List UInt8),Qw (CR w S (.int .u8)) (l.map fun b=>(b.toNat:Int)) (l.map fun b=>Value.int .u8 b.toNat)
 | []=>rfl
 |b::l=>⟨[.int .u8 b.toNat],_,rfl,rfl,QeY l⟩
theorem SlR.src{w0:World}{S S':Nat→Prop}{u:Ty}{l:List (Den u)}{vx:Value}(h:SlR w0 S' (CR w0 S u) l vx) :
 ∃news:List Value,(∀w,(Builtin.lenOf vx).run P w=.ok l.length w)∧Qw (CR w0 S u) l news ∧
   ∀k w,k≤l.length→(∀a:Addr,w.cell? a=w0.cell? a)→(Builtin.firstCells u.size k vx).run P w=.ok (news.take (k*u.size)).toArray w:=by
 obtain⟨a,cap,rfl,hcap,hh⟩:=h;by_cases hne:l=[]
 ·subst hne;refine⟨[],fun w=>by simp[Builtin.lenOf],rfl,fun k w hk _=>?_⟩;have:k=0:=by simpa using hk
  subst this;cases a with
  |none=>simp[Builtin.firstCells]
  |some ad =>
   have:=run_loadCells_list (P:=P) w ad [] (fun j v h=>by simp at h);simpa[Builtin.firstCells] using this
 ·obtain⟨ad,us,rfl,_,hlr,hcell⟩:=hh hne;refine⟨us,fun w=>by simp[Builtin.lenOf],hlr,fun k w hk hw=>?_⟩;have hlen:=hlr.len (n:=u.size) (fun _ _ hx=>hx.len)
  have hkl:(us.take (k*u.size)).length=k*u.size:=by
   rw[Yq,hlen];exact Nat.min_eq_left (YL _ hk)
  have:=run_loadCells_list (P:=P) w ad (us.take (k*u.size)) (fun j v h=>by
   rw[hw];rw[List.getElem?_take] at h;split at h
   ·exact hcell j v h
   ·cases h)
  rw[hkl] at this;simpa[Builtin.firstCells] using this
theorem QsW{E:Env}{look:Nat→Option Blk}(hH:HeapOk E)(hl:∀b x,look b=some x→E.H b=some x){u:Ty}{x:AV}{vx:Value}{l:List (Den u)}(hx:AVR E x vx)(h:QE9 look u x=some l) :
 ∃news:List Value,(∀w,(Builtin.lenOf vx).run P w=.ok l.length w)∧Qw (CR E.w E.S u) l news ∧
   ∀k w,k≤l.length→(∀a:Addr,w.cell? a=E.w.cell? a)→(Builtin.firstCells u.size k vx).run P w=.ok (news.take (k*u.size)).toArray w:=by
 unfold QE9 at h;split at h
 ·rename_i s;split at h
  ·rename_i hq he;obtain rfl:=hq.down;injection h with h
   subst h;obtain⟨e,_⟩:=hx;injection e with e
   subst e;refine⟨s.data.toList.map fun b=>Value.int .u8 b.toNat,fun w=>by simp[Builtin.lenOf,Qga,bytesOf],by simpa[Qga,bytesOf] using QeY s.data.toList,fun k w hk _=>?_⟩;have hk':k≤s.size:=by simpa[Qga,bytesOf] using hk
   have e1:(s.extract 0 k).data.map (fun b=>Value.int .u8 (b.toNat:Int))=((s.data.toList.map fun b=>Value.int .u8 (b.toNat:Int)).take (k*Ty.size (.int .u8))).toArray:=by
    apply Array.ext';simp[Ty.size,ByteArray.data_extract,List.map_take]
   simp only[Builtin.firstCells];rw[e1];rfl
  ·cases h
 ·rename_i c hns;exact(QjT hH hl h hx).src
 ·cases h
theorem Qxl(hT:TabOk P T){t:TypeId}(h:QCc T t=true):∃d,P.underlying t=some d∧∀k,d≠.int k:=by
 unfold QCc at h;split at h
 ·rename_i ht;have:=(hT.ty t _ ht).und;exact⟨_,this,fun k e=>by cases e⟩
 ·rename_i ht;have:=(hT.ty t _ ht).und;exact⟨_,this,fun k e=>by cases e⟩
 ·cases h
theorem QqV{need old:Nat}(h:old<need):Builtin.nextslicecap need old≤2*need:=by
 unfold Builtin.nextslicecap;split
 ·omega
 ·split
  ·omega
  ·have key:∀r c,c<need+(need+768)/4+1→Builtin.growBy need r c≤need+(need+768)/4:=by
    intro r
    induction r with
    |zero=>intro c hc;simp[Builtin.growBy];omega
    |succ r ih =>
     intro c hc;unfold Builtin.growBy;split
     ·omega
     ·exact ih _ (by omega)
   have:=key 4 old (by omega);omega
def Qcb(E:Env)(us:List Nat)(nm:Nat)(u:Ty):Env :=
 { w:=E.w,ρ:=fun b=>if b=nm then none else E.ρ b,S:=SU E us,H:=fun b=>if b=nm then some (.arr u []) else if b∈us then none else E.H b,U:=fun b=>E.U b∨b=nm }
theorem Step.nil{E:Env}{r:Res}{nm:Nat}{us:List Nat}{u:Ty}(hH:HeapOk E)(hr1:r.add=[.arr u []])(hr2:r.set=us.map fun u=>(u,none))(hnm:¬E.U nm):Step E r nm (Qcb E us nm u):=by
 have hk:=Qfp hH us
 have hext:Ext (QO E us) (Qcb E us nm u):=by
  refine⟨fun g hg=>⟨hg,rfl⟩,fun b hb=>.inl hb,fun b x' hb hx=>?_⟩;have hne:b≠nm:=fun e=>hnm (e ▸ hb)
  refine⟨x',by simpa[Qcb,QO,hne] using hx,by simp[Qcb,QO,hne],rfl,fun g cs el _ h=>⟨cs,h,rfl⟩⟩
 have hold:∀b x,b≠nm→(Qcb E us nm u).H b=some x→(QO E us).H b=some x:=fun b x hne hx=>by simpa[Qcb,QO,hne] using hx
 refine⟨(Qae us).trans hext,⟨fun b x hx=>?_,fun b b' x x' g hx hx' hr hr'=>?_,hk.st⟩,fun b=>?_,fun b=>?_,fun F hF=>?_⟩
 ·by_cases hb:b=nm
  ·subst hb;simp only[Qcb,if_true,Yc] at hx;subst hx;exact⟨.inr rfl,.inl ⟨by simp[Qcb],rfl⟩,fun g hg=>by simp[Qcb] at hg⟩
  ·obtain⟨h1,h2,h3⟩:=hk.blk b x (hold b x hb hx);exact⟨.inl h1,h2.ext hext (by simp[Qcb,QO,hb]) (fun _ _=>rfl),fun g hg=>h3 g (by simpa[Qcb,QO,hb] using hg)⟩
 ·by_cases hb:b=nm
  ·subst hb;simp[Qcb] at hr
  ·by_cases hb':b'=nm
   ·subst hb';simp[Qcb] at hr'
   ·exact hk.inj b b' x x' g (hold b x hb hx) (hold b' x' hb' hx') (by simpa[Qcb,QO,hb] using hr) (by simpa[Qcb,QO,hb'] using hr')
 ·rw[hr1,hr2];simp only[addF,Qcb,Qfo]
 ·rw[hr1];simp only[Qcb,Jj];constructor
  ·rintro (h|h)
   ·exact .inl h
   ·exact .inr (by omega)
  ·rintro (h|h)
   ·exact .inl h
   ·exact .inr (by omega)
 ·have h:=Qfq us hF;refine⟨h.os,h.tape,h.output,h.size,h.old,fun b x g hx hr=>?_,h.S⟩;by_cases hb:b=nm
  ·subst hb;simp[Qcb] at hr
  ·exact h.own b x g (hold b x hb hx) (by simpa[Qcb,QO,hb] using hr)
theorem Qft(E:Env)(us:List Nat)(nm:Nat)(u:Ty):AVR (Qcb E us nm u) (.cell (.own nm)) (.slice none 0 0) :=
 ⟨_,⟨rfl,rfl⟩,.inr rfl,fun t l _=>.inl ⟨by simp[Qcb],rfl⟩⟩
theorem Qcn(z:Array Value)(n:Nat):(Builtin.zeroCells z n).size=n*z.size:=by simp[Builtin.zeroCells]
theorem QqW{E:Env}{look:Nat→Option Blk}(hT:TabOk P T)(hH:HeapOk E)(hl:∀b x,look b=some x→E.H b=some x){t t' ty:TypeId}{s x:AV}{vs vx:Value}{r:Res}{nm:Nat}(hnm:¬E.U nm)(hs:AVR E s vs)(hx:AVR E x vx)
 (h:QjN T look nm t t' s x=some r) (hp:∀p,r.pre=some p→p):∃v E',(Builtin.append_ #[t,t'] ty #[vs,vx]).run P E.w=.ok v E'.w∧Step E r nm E'∧AVR E' r.val v:=by
 unfold QjN at h;cases he:Qhs T t with
 |none=>rw[he] at h;cases h
 |some ub =>
  obtain⟨u,by_⟩:=ub;rw[he] at h;simp only at h;split at h
  ·cases h
  ·rename_i hc;rw[Yj] at hc;obtain⟨d,hd,hdk⟩:=Qxl (P:=P) hT hc.1;have hby:0<by_:=YT hc.2;cases hsrc:QE9 look u x with
   |none=>rw[hsrc] at h;cases h
   |some l' =>
    rw[hsrc] at h;simp only at h;obtain⟨news,hlen,hlr,hfirst⟩:=QsW (P:=P) hH hl hx hsrc;obtain⟨e,i,z,hu,hi,hz,hisz,hib,hzs,hcr,hso,hze⟩:=Qlk hT he;have hnl:=hlr.len (n:=u.size) (fun _ _ hx=>hx.len);have hones:=hlr.ones fun _ _ hx=>hx.ones
    have hzeros:(match d with|.int _=>true|_=>false)=false:=by
     cases d<;>first|rfl|exact YD rfl (hdk _)
    obtain⟨W,hW⟩:∃W:List Value→Nat→World,∀olds n,W olds n=E.w.drew.alloc (.cells (olds.toArray++news.toArray++Builtin.zeroCells z.cells n) e):=⟨_,fun _ _=>rfl⟩
    have grow:∀(base:Option Addr) (sLen sCap:Nat) (olds:List Value),¬sLen+l'.length≤sCap→sLen≤sCap→olds.length=sLen*u.size →
     (Builtin.firstCells u.size sLen (.slice base sLen sCap)).run P E.w.drew=.ok olds.toArray E.w.drew→(sLen+l'.length)*by_≤140737488355328 →
     ∃cap,sLen+l'.length≤cap∧(Builtin.append_ #[t,t'] ty #[.slice base sLen sCap,vx]).run P E.w=.ok (.slice (some ⟨E.w.heap.size,0,none⟩) (sLen+l'.length) cap) (W olds (cap-(sLen+l'.length))):=by
     intro base sLen sCap olds hroom hle hol hold hb;refine⟨grownCap E.w (sLen+l'.length) sCap e,grownCap_ge _ _ _ _,?_⟩;have hcap:=QqV (need:=sLen+l'.length) (old:=sCap) (by omega)
     have hfit:¬(281474976710656<Builtin.nextslicecap (sLen+l'.length) sCap*by_):=by
      have:=YL by_ hcap;rw[Nat.mul_assoc] at this;omega
     have hnews:=hfirst l'.length E.w.drew (YE _) (fun _=>rfl);rw[Yh (by rw[hnl];exact YE _)] at hnews;have hb0:¬by_=0:=by omega
     rw[hW];have hdz:∀w,(underlying t').run P w=.ok d w:=run_underlying hd;simp[Builtin.append_,run_underlying hu,hso,hdz,hlen,hroom,typeInfo,hi,hib,hb0,hfit,Question.forced,hold,hnews,hze,newRow,grownCap];cases d<;>first|exact YD rfl (hdk _)|(congr 2;apply Array.ext';simp[Yy];done)
    have newW:∀(olds:List Value) (n:Nat),(W olds n).heap=E.w.heap.push (.cells (olds.toArray++news.toArray++Builtin.zeroCells z.cells n) e):=fun _ _=>by rw[hW];rfl
    have newW1:∀(olds:List Value) (n:Nat),(W olds n).os=E.w.os:=fun _ _=>by rw[hW];rfl
    have newW2:∀(olds:List Value) (n:Nat),(W olds n).tape=E.w.tape:=fun _ _=>by rw[hW];rfl
    have newW3:∀(olds:List Value) (n:Nat),(W olds n).output=E.w.output:=fun _ _=>by rw[hW];rfl
    split at h
    ·
     simp only[Yc] at h;subst h;have hb:=hp _ rfl;obtain⟨e',_⟩:=hs;injection e' with e'
     subst e';by_cases h0:l'=[]
     ·subst h0;refine⟨.slice none 0 0,Qcb E [] nm u,?_,Step.nil (us:=[]) hH rfl rfl hnm,Qft _ _ _ _⟩;have hf:=hfirst 0 E.w (YE _) (fun _=>rfl);simp at hf;have hdz:∀w,(underlying t').run P w=.ok d w:=run_underlying hd;simp at hlen;simp[Builtin.append_,run_underlying hu,hso,hdz];cases d<;>first|exact YD rfl (hdk _)|(simp[hlen,hf,Qcb];done)
     ·have hne:l'.length≠0:=fun e=>h0 (Yr e)
      obtain⟨cap,hc1,hrun⟩:=grow none 0 0 [] (by omega) (YE _) (by simp) (by simp[Builtin.firstCells]) (by simpa using hb);refine⟨_,newE (QO E []) nm (.arr u l') (W [] (cap-(0+l'.length))),hrun,Step.newK (us:=[]) hH rfl rfl hnm (newW [] _) (newW1 _ _) (newW2 _ _) (newW3 _ _) ?_,?_⟩
      ·exact⟨news,(Builtin.zeroCells z.cells (cap-(0+l'.length))).toList,by simp,hlr.mono fun _ _ hx=>hx.mono fun _ hg=>⟨.inl hg,rfl⟩⟩
      ·have:=Qfs (QO E []) nm (t:=u) (l:=l') (cap:=cap) (newW [] (cap-(0+l'.length))) (by omega) (by
        simp[Qcn,hzs,hnl];rw[←YV]
        exact YL _ (by omega))
       simpa[QO] using this
    ·
     rename_i b;split at h
     ·rename_i u' l hb;split at h
      ·rename_i hq heq;obtain rfl:=hq.down;simp only[Yc] at h;subst h;have hbound:=hp _ rfl;have hbx:=hl _ _ hb;obtain⟨_,hbr,_⟩:=hH.blk _ _ hbx;obtain⟨v,⟨e',hv1⟩,hU,hh⟩:=hs;injection e' with e'
       subst e';simp only[Qga];rcases hh _ _ hbx with⟨hr,rfl⟩|⟨g,cs,el,cap,hr,hw,rfl,hc',hsz'⟩
       ·rcases hbr with⟨_,rfl⟩|⟨g,_,_,_,_,h6,_⟩
        ·by_cases h0:l'=[]
         ·subst h0;refine⟨.slice none 0 0,Qcb E [b] nm u',?_,Step.nil (us:=[b]) hH rfl rfl hnm,Qft _ _ _ _⟩;have hf:=hfirst 0 E.w (YE _) (fun _=>rfl);simp at hf;have hdz:∀w,(underlying t').run P w=.ok d w:=run_underlying hd;simp at hlen;simp[Builtin.append_,run_underlying hu,hso,hdz];cases d<;>first|exact YD rfl (hdk _)|(simp[hlen,hf,Qcb];done)
         ·have hne:l'.length≠0:=fun e=>h0 (Yr e)
          obtain⟨cap,hc1,hrun⟩:=grow none 0 0 [] (by omega) (YE _) (by simp) (by simp[Builtin.firstCells]) (by simpa using hbound);refine⟨_,newE (QO E [b]) nm (.arr u' l') (W [] (cap-(0+l'.length))),hrun,Step.newK (us:=[b]) hH (by simp) rfl hnm (newW [] _) (newW1 _ _) (newW2 _ _) (newW3 _ _) ?_,?_⟩
          ·exact⟨news,(Builtin.zeroCells z.cells (cap-(0+l'.length))).toList,by simp,hlr.mono fun _ _ hx=>hx.mono fun _ hg=>⟨.inl hg,rfl⟩⟩
          ·have:=Qfs (QO E [b]) nm (t:=u') (l:=l') (cap:=cap) (newW [] (cap-(0+l'.length))) (by omega) (by
            simp[Qcn,hzs,hnl];rw[←YV]
            exact YL _ (by omega))
           simpa[QO] using this
        ·rw[hr] at h6;cases h6
       ·
        have hbr':∃us spare,cs.toList=us++spare∧Qw (CR E.w E.S u') l us:=by
         rcases hbr with⟨h6,_⟩|⟨g',cs',el',us,spare,h6,h7,h8,h9⟩
         ·rw[hr] at h6;cases h6
         ·rw[hr] at h6;injection h6 with h6;subst h6
          rw[hw] at h7;injection h7 with h7;injection h7 with e1 e2
          subst e1;exact⟨us,spare,h8,h9⟩
        obtain⟨us,spare,h8,h9⟩:=hbr';have hul:=h9.len (n:=u'.size) (fun _ _ hx=>hx.len)
        have hcl:cs.size=us.length+spare.length:=by
         have:=Yv List.length h8;simpa using this
        by_cases hroom:l.length+l'.length≤cap
        ·
         have hfit:l.length*u'.size+news.length≤cs.size:=by
          rw[hnl,←YV];exact YG (YL _ hroom) hsz'
         have hst:=run_storeCells_at P g (l.length*u'.size) el news 0 cs E.w hw (by simpa using hfit) hones;simp only[Nat.add_zero] at hst;have hf:=hfirst l'.length E.w (YE _) (fun _=>rfl);rw[Yh (by rw[hnl];exact YE _)] at hf;have hdz:∀w,(underlying t').run P w=.ok d w:=run_underlying hd
         have hrun:(Builtin.append_ #[t,t'] ty #[.slice (some ⟨g,0,none⟩) l.length cap,vx]).run P E.w=.ok (.slice (some ⟨g,0,none⟩) (l.length+l'.length) cap)
          (E.w.setRow g (cs.toList.take (l.length*u'.size)++news++cs.toList.drop (l.length*u'.size+news.length)).toArray):=by
          simp[Builtin.append_,run_underlying hu,hso,hdz];cases d<;>first|exact YD rfl (hdk _)|(simp[hlen,hroom,hf,QbA,hst];done)
         have hnewl:cs.toList.take (l.length*u'.size)=us:=by
          rw[h8,←hul];simp
         rw[hnewl] at hrun
         have hsize:(us++news++cs.toList.drop (l.length*u'.size+news.length)).toArray.size=cs.size:=by
          simp;omega
         have hwr:=Qa8 hw hsize;refine⟨_,Qhv E b nm (.arr u' (l++l')) _,hrun,Step.app (x:=.arr u' l) hH rfl rfl hnm hbx hr hwr ⟨u',l++l',us++news,cs.toList.drop (l.length*u'.size+news.length),rfl,by simp,h9.append hlr⟩,?_⟩;refine⟨_,⟨rfl,rfl⟩,.inr rfl,fun t2 l2 h2=>?_⟩;simp only[Qhv,if_true,Yc,Blk.arr.injEq] at h2;obtain⟨rfl,h2⟩:=h2;have h2:=eq_of_heq h2;subst h2;exact .inr ⟨g,_,el,cap,by simp[Qhv,hr],hwr.is,by simp,by simpa using hroom,by rw[hsize];exact hsz'⟩
        ·
         have hold:(Builtin.firstCells u'.size l.length (.slice (some ⟨g,0,none⟩) l.length cap)).run P E.w.drew=.ok us.toArray E.w.drew:=by
          have:=run_loadCells_list (P:=P) E.w.drew ⟨g,0,none⟩ us (fun j v hj=>by
           rw[show E.w.drew.cell?=E.w.cell? from rfl,QbA,Jh,cell_at hw,←YA,h8,YX (by exact(Yu.1 hj).1)]
           exact hj)
          rw[hul] at this;simpa[Builtin.firstCells] using this
         obtain⟨cap',hc1,hrun⟩:=grow (some ⟨g,0,none⟩) l.length cap us hroom hc' hul hold hbound;refine⟨_,newE (QO E [b]) nm (.arr u' (l++l')) (W us (cap'-(l.length+l'.length))),hrun,Step.newK (us:=[b]) hH rfl rfl hnm (newW us _) (newW1 _ _) (newW2 _ _) (newW3 _ _) ?_,?_⟩
         ·exact⟨us++news,(Builtin.zeroCells z.cells (cap'-(l.length+l'.length))).toList,by simp,(h9.append hlr).mono fun _ _ hx=>hx.mono fun _ hg=>⟨.inl hg,rfl⟩⟩
         ·have:=Qfs (QO E [b]) nm (t:=u') (l:=l++l') (cap:=cap') (newW us (cap'-(l.length+l'.length))) (by simp;omega) (by
           simp[Qcn,hzs,hnl,hul];rw[←YV,←YV]
           exact YL _ (by omega))
          simpa[QO] using this
      ·cases h
     ·cases h
    ·cases h
end
section
variable {P:Program} {T:Tab}
theorem QeZ{α:Type}:∀(l src:List α) (i:Nat),over l src i=(src.drop i).take l.length++l.drop (src.length-i)
 | [],src,i=>by simp[over]
 |d::l,src,i=>by
  rw[over,QeZ l src (i+1)];by_cases h:i<src.length
  ·have e:src.length-i=(src.length-(i+1))+1:=by omega
   have e2:src.getD i d=src[i]:=by simp[List.getD,Ye h]
   rw[e,e2,YJ h,Yx,List.take_succ_cons,List.drop_succ_cons,List.cons_append]
  ·have e:src.length-i=0:=by omega
   have e':src.length-(i+1)=0:=by omega
   rw[e,e',Yk (show src.length≤i by omega),Yk (show src.length≤i+1 by omega)];simp[List.getD,YK (show src.length≤i by omega)]
theorem Qco{α:Type}(l src:List α)(i:Nat):(over l src i).length=l.length:=by
 induction l generalizing i with
 |nil=>rfl
 |cons d l ih=>simp[over,ih]
theorem Step.noop{E:Env}{r:Res}{nm:Nat}(hH:HeapOk E)(h1:r.add=[])(h2:∀b,Qgf E.H r.set b=E.H b):Step E r nm E :=
 ⟨.refl E,hH,fun b=>by rw[h1];exact(h2 b).symm,fun b=>by rw[h1];simp;omega,fun _ h=>h⟩
theorem Qou{R:Type}{Q:R→List Value→Prop}{n:Nat}(hn:∀x vs,Q x vs→vs.length=n){l l':List R}{us news:List Value}(h:Qw Q l us)(h':Qw Q l' news) :
 Qw Q (over l l' 0) (news.take (min l'.length l.length*n)++us.drop (min l'.length l.length*n)):=by
 rw[QeZ];have h1:=(h'.take_drop hn l.length).1;have h2:=(h.take_drop hn l'.length).2;have e1:=h.len hn;have e2:=h'.len hn;simp only[List.drop_zero,Nat.sub_zero];rcases Nat.le_total l'.length l.length with hle|hle
 ·rw[Nat.min_eq_left hle]
  have:news.take (l'.length*n)=news.take (l.length*n):=by
   rw[Yh (by omega),Yh (by rw[e2];exact YL _ hle)]
  rw[this];exact h1.append h2
 ·rw[Nat.min_eq_right hle]
  have:us.drop (l.length*n)=us.drop (l'.length*n):=by
   rw[Yk (by omega),Yk (by rw[e1];exact YL _ hle)]
  rw[this];exact h1.append h2
theorem Qxm{E:Env}{look:Nat→Option Blk}(hT:TabOk P T)(hH:HeapOk E)(hl:∀b x,look b=some x→E.H b=some x){t ty:TypeId}{tys:Array TypeId}{s x:AV}{vs vx:Value}{r:Res}{nm:Nat}(hs:AVR E s vs)(hx:AVR E x vx)
 (ht0:tys[0]?=some t) (h:QCd T look t s x=some r) (hp:∀p,r.pre=some p→p):∃v E',(Builtin.copy_ tys ty #[vs,vx]).run P E.w=.ok v E'.w∧Step E r nm E'∧AVR E' r.val v:=by
 unfold QCd at h;cases he:Qhs T t with
 |none=>rw[he] at h;cases h
 |some ub =>
  obtain⟨u,by_⟩:=ub;rw[he] at h;simp only at h;cases hsrc:QE9 look u x with
  |none=>rw[hsrc] at h;cases h
  |some l' =>
   rw[hsrc] at h;simp only at h;obtain⟨news,hlen,hlr,hfirst⟩:=QsW (P:=P) hH hl hx hsrc;obtain⟨e,i,z,hu,hi,hz,hisz,hib,hzs,hcr,hso,hze⟩:=Qlk hT he;have hnl:=hlr.len (n:=u.size) (fun _ _ hx=>hx.len);have hones:=hlr.ones fun _ _ hx=>hx.ones
   split at h
   ·simp only[ok1,Yc] at h;subst h;obtain⟨e',_⟩:=hs;injection e' with e'
    subst e';refine⟨.int .i64 0,E,?_,Step.same hH rfl rfl,⟨rfl,rfl⟩⟩;have hf:=hfirst 0 E.w (YR _) (fun _=>rfl);simp at hf;simp[Builtin.copy_,ht0,run_underlying hu,hlen,hso,hf,goInt]
   ·rename_i b;split at h
    ·rename_i u' l hb;split at h
     ·rename_i hq heq;obtain rfl:=hq.down;simp only[Yc] at h;subst h;simp only[Qga];have hbx:=hl _ _ hb;obtain⟨_,hbr,_⟩:=hH.blk _ _ hbx;obtain⟨v,⟨e',hv1⟩,hU,hh⟩:=hs;injection e' with e'
      subst e';rcases hh _ _ hbx with⟨hr,rfl⟩|⟨g,cs,el,cap,hr,hw,rfl,hc',hsz'⟩
      ·rcases hbr with⟨_,rfl⟩|⟨g,_,_,_,_,h6,_⟩
       ·refine⟨.int .i64 0,E,?_,Step.noop hH rfl (fun c=>?_),⟨by simp,rfl⟩⟩
        ·have hf:=hfirst 0 E.w (YR _) (fun _=>rfl);simp at hf;simp[Builtin.copy_,ht0,run_underlying hu,hlen,hso,hf,goInt]
        ·simp only[Qgf,over];by_cases hc:c=b
         ·subst hc;simp[hbx]
         ·simp[hc]
       ·rw[hr] at h6;cases h6
      ·have hbr':∃us spare,cs.toList=us++spare∧Qw (CR E.w E.S u) l us:=by
        rcases hbr with⟨h6,_⟩|⟨g',cs',el',us,spare,h6,h7,h8,h9⟩
        ·rw[hr] at h6;cases h6
        ·rw[hr] at h6;injection h6 with h6;subst h6
         rw[hw] at h7;injection h7 with h7;injection h7 with e1 e2
         subst e1;exact⟨us,spare,h8,h9⟩
       obtain⟨us,spare,h8,h9⟩:=hbr';have hul:=h9.len (n:=u.size) (fun _ _ hx=>hx.len)
       have hcl:cs.size=us.length+spare.length:=by
        have:=Yv List.length h8;simpa using this
       obtain⟨n,hn⟩:∃n,n=min l'.length l.length:=⟨_,rfl⟩
       have hn1:n≤l'.length:=by omega
       have hn2:n*u.size≤us.length:=by rw[hul];exact YL _ (by omega)
       have hn3:(news.take (n*u.size)).length=n*u.size:=by rw[Yq,hnl];exact Nat.min_eq_left (YL _ hn1)
       have hst:=run_storeCells_at P g 0 el (news.take (n*u.size)) 0 cs E.w hw (by rw[hn3];omega) (fun v hv=>hones v (Jo hv));rw[hn3] at hst;simp only[Nat.add_zero,Jh,List.take_zero,List.nil_append] at hst;have hf:=hfirst n E.w hn1 (fun _=>rfl)
       have hdrop:cs.toList.drop (n*u.size)=us.drop (n*u.size)++spare:=by
        rw[h8,List.drop_append_of_le_length hn2]
       rw[hdrop] at hst
       have hsize:(news.take (n*u.size)++(us.drop (n*u.size)++spare)).toArray.size=cs.size:=by
        simp only[List.size_toArray,Ym,hn3,List.length_drop];omega
       refine⟨.int .i64 n,_,?_,Step.setK (us:=[]) (x:=.arr u l) hH rfl rfl (by simp) hbx hr (by simp[shape,Qco]) (Qa8 hw hsize) ?_,⟨by rw[hn],rfl⟩⟩
       ·have hmin:Nat.min l'.length l.length=n:=hn.symm;simp[Builtin.copy_,ht0,run_underlying hu,hlen,hso,hmin,hf,hst,goInt,QdY]
       ·refine⟨news.take (n*u.size)++us.drop (n*u.size),spare,by simp,?_⟩;rw[hn];exact(Qou (fun _ _ hx=>hx.len) h9 hlr).mono fun _ _ hx=>hx.mono fun _ hg=>⟨.inl hg,rfl⟩
     ·cases h
    ·cases h
   ·rename_i b off len;split at h
    ·rename_i u' l hb;split at h
     ·rename_i hq heq;obtain rfl:=hq.down;simp only[Yc] at h;subst h;simp only[Qga];have hbx:=hl _ _ hb;obtain⟨_,hbr,_⟩:=hH.blk _ _ hbx;obtain⟨v,⟨e',hv1⟩,hU,hh⟩:=hs;injection e' with e'
      subst e';obtain⟨hole,hh⟩:=hh _ _ hbx;obtain⟨n,hn⟩:∃n,n=min l'.length len:=⟨_,rfl⟩
      have hn1:n≤l'.length:=by omega
      have hf:=hfirst n E.w hn1 (fun _=>rfl);have hml:((l.drop off).take len).length=len:=by simp;omega
      have same:n=0→l.take off++over ((l.drop off).take len) l' 0++l.drop (off+len)=l:=by
       intro h0
       have:over ((l.drop off).take len) l' 0=(l.drop off).take len:=by
        rcases Nat.eq_zero_or_pos len with e|e
        ·subst e;simp[over]
        ·have hl0:l'=[]:=Yr (by omega);subst hl0;rw[QeZ];simp
       rw[this,Yy,←List.drop_drop,List.take_append_drop,List.take_append_drop]
      by_cases h0:n=0
      ·refine⟨.int .i64 0,E,?_,Step.noop hH rfl (fun c=>?_),⟨by simp;omega,rfl⟩⟩
       ·rw[h0] at hf;simp at hf;have hmin:Nat.min l'.length len=0:=by rw[←h0,hn]
        rcases hh with⟨hr,rfl,rfl⟩|⟨g,ad,cap,hr,rfl,hc',had⟩
        ·simp[Builtin.copy_,ht0,run_underlying hu,hlen,hso,hf,goInt]
        ·simp[Builtin.copy_,ht0,run_underlying hu,hlen,hso,hmin,hf,goInt,storeCells]
       ·simp only[Qgf];by_cases hc:c=b
        ·subst hc;simp[hbx,same h0]
        ·simp[hc]
      ·rcases hh with⟨hr,rfl,rfl⟩|⟨g,ad,cap,hr,rfl,hc',had⟩
       ·omega
       obtain rfl:=had (by omega);rcases hbr with⟨h6,_⟩|⟨g',cs,el,us,spare,h6,hw,h8,h9⟩
       ·rw[hr] at h6;cases h6
       rw[hr] at h6;injection h6 with h6;subst h6
       have hul:=h9.len (n:=u.size) (fun _ _ hx=>hx.len)
       have hcl:cs.size=us.length+spare.length:=by
        have:=Yv List.length h8;simpa using this
       have hn2:(off+len)*u.size≤us.length:=by rw[hul];exact YL _ hole
       rw[YV] at hn2;have hn4:n*u.size≤len*u.size:=YL _ (by omega);have hn3:(news.take (n*u.size)).length=n*u.size:=by rw[Yq,hnl];exact Nat.min_eq_left (YL _ hn1)
       have hst:=run_storeCells_at P g (off*u.size) el (news.take (n*u.size)) 0 cs E.w hw (by rw[hn3];omega) (fun v hv=>hones v (Jo hv));rw[hn3] at hst;simp only[Nat.add_zero] at hst;have e1:cs.toList.take (off*u.size)=us.take (off*u.size):=by rw[h8,List.take_append_of_le_length (by omega)]
       have e2:cs.toList.drop (off*u.size+n*u.size)=us.drop (off*u.size+n*u.size)++spare:=by rw[h8,List.drop_append_of_le_length (by omega)]
       rw[e1,e2] at hst
       have hsize:(us.take (off*u.size)++news.take (n*u.size)++(us.drop (off*u.size+n*u.size)++spare)).toArray.size=cs.size:=by
        simp only[List.size_toArray,Ym,hn3,List.length_drop,Yq];omega
       refine⟨.int .i64 n,_,?_,Step.setK (us:=[]) (x:=.arr u l) hH rfl rfl (by simp) hbx hr (by simp[shape,Qco];omega) (Qa8 hw hsize) ?_,⟨by rw[hn],rfl⟩⟩
       ·have hmin:Nat.min l'.length len=n:=hn.symm;simp[Builtin.copy_,ht0,run_underlying hu,hlen,hso,hmin,hf,hst,goInt,QdY]
       ·refine⟨us.take (off*u.size)++news.take (n*u.size)++us.drop (off*u.size+n*u.size),spare,by simp,?_⟩;have a1:=(h9.take_drop (fun _ _ hx=>hx.len) off).1;have a2:=(h9.take_drop (fun _ _ hx=>hx.len) off).2;have a3:=(a2.take_drop (fun _ _ hx=>hx.len) len).1;have a4:=(h9.take_drop (fun _ _ hx=>hx.len) (off+len)).2;have a5:=Qou (fun _ _ hx=>CR.len hx) a3 hlr;rw[hml,←hn] at a5;have a6:=(a1.append a5).append a4
        have e3:us.take (off*u.size)++(news.take (n*u.size)++((us.drop (off*u.size)).take (len*u.size)).drop (n*u.size))++us.drop ((off+len)*u.size)=us.take (off*u.size)++news.take (n*u.size)++us.drop (off*u.size+n*u.size):=by
         rw[←Yy,Yy (us.take (off*u.size)++news.take (n*u.size))];congr 1;rw[YV,←List.drop_drop,←List.drop_drop];generalize us.drop (off*u.size)=vs;rw[List.drop_take,show vs.drop (len*u.size)=(vs.drop (n*u.size)).drop (len*u.size-n*u.size) from by rw[List.drop_drop];congr 1;omega,List.take_append_drop]
        rw[e3] at a6;exact a6.mono fun _ _ hx=>hx.mono fun _ hg=>⟨.inl hg,rfl⟩
     ·cases h
    ·cases h
   ·cases h
end
end Go.Fw

