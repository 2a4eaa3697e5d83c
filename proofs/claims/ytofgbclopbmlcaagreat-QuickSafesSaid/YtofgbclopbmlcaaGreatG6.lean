/- Part 6 of the proof. Conditions: none. -/
import Derived.Test.YtofgbclopbmlcaaGreatG5
namespace Go.Fw
set_option linter.unusedVariables false
set_option linter.unusedSimpArgs false
section
variable {P:Program} {T:Tab}
theorem addadd(ad:Addr)(i j:Nat):(ad.add i).add j=ad.add (i+j):=by
 unfold Addr.add;by_cases h1:i=0<;>by_cases h2:j=0<;>simp[h1,h2,Nat.add_assoc]
theorem QEf{α:Type}{w:World}{S:Nat→Prop}{R:α→List Value→Prop}{n:Nat}(hn:∀x vs,R x vs→vs.length=n){l:List α}{ad:Option Addr}{cap a b:Nat}(h:SlR w S R l (.slice ad l.length cap))(hab:a≤b)(hb:b≤l.length) :
 SlR w S R ((l.take b).drop a) (.slice (if cap=a then ad else ad.map (·.add (a*n))) (b-a) (cap-a)):=by
 obtain⟨ad',cap',e,hc,hh⟩:=h;injection e with e1 e2 e3
 subst e1 e3;have hlen:((l.take b).drop a).length=b-a:=by simp;omega
 refine⟨_,_,by rw[hlen],by rw[hlen];omega,fun hne=>?_⟩
 have hpos:a<b:=by
  rcases Nat.lt_or_ge a b with h|h
  ·exact h
  ·exact absurd (List.eq_nil_of_length_eq_zero (by omega)) hne
 obtain⟨x,us,rfl,hs,hlr,hcell⟩:=hh (by intro e;subst e;simp at hb;omega);rw[if_neg (by omega)];have h1:=(hlr.take_drop hn b).1;have h2:=(h1.take_drop hn a).2;refine⟨x.add (a*n),_,rfl,by rw[show(x.add (a*n)).block=x.block from by unfold Addr.add;split<;>rfl];exact hs,h2,fun k u hu=>?_⟩;rw[addadd];refine hcell _ _ ?_;rw[List.getElem?_drop,List.getElem?_take] at hu;split at hu
 ·exact hu
 ·cases hu
theorem Qso{E:Env}{look:Nat→Option Blk}(hT:TabOk P T)(hH:HeapOk E)(hl:∀b x,look b=some x→E.H b=some x){t:TypeId}{x:AV}{lo hi mx:Option AV}{vx:Value}{vlo vhi vmx:Option Value}{r:Res}
 (hx:AVR E x vx) (h1:Qi0 E lo vlo) (h2:Qi0 E hi vhi) (h3:Qi0 E mx vmx) (h:Qsg T look t x lo hi mx=some r) (hp:∀p,r.pre=some p→p) :
 ∃v,(Instr.sliceAt t vx vlo vhi vmx).run P E.w=.ok v E.w∧AVR E r.val v∧r.add=[]∧r.set=[]:=by
 unfold Qsg at h;cases mx with
 |some _=>cases h
 |none =>
 cases vmx with
 |some _=>simp only[Qi0] at h3
 |none =>
 simp only at h;split at h
 ·
  rename_i ht;have hu:=(hT.ty t _ ht).und;simp only[QW] at hu;obtain⟨e,_⟩:=hx;injection e with e
  subst e;split at h
  ·rename_i p a b hb;simp only[okP,Option.some.injEq] at h;subst h;obtain⟨_,_,hrun⟩:=QbG (P:=P) h1 h2 hb (hp _ rfl);exact⟨_,by simp[Instr.sliceAt,run_underlying hu,Instr.slice,hrun false _ E.w (Nat.le_refl _)],⟨rfl,rfl⟩,rfl,rfl⟩
  ·cases h
 ·
  rename_i e _ _ _ _ _ u l ht;have hu:=(hT.ty t _ ht).und;simp only[QW] at hu;split at h
  ·rename_i p a b ti hb hti;split at h
   ·rename_i hsz;simp only[okP,Option.some.injEq] at h;subst h;obtain⟨hab,hbl,hrun⟩:=QbG (P:=P) h1 h2 hb (hp _ rfl);have hs:=Nat.eq_of_beq_eq_true hsz;obtain⟨v,e,hsl⟩:=hx;injection e with e
    subst e;obtain⟨ad,cap,rfl,hc,hh⟩:=hsl;refine⟨_,?_,⟨_,rfl,QEf (n:=u.size) (fun _ _ hx=>hx.len) ⟨ad,cap,rfl,hc,hh⟩ hab hbl⟩,rfl,rfl⟩;simp[Instr.sliceAt,run_underlying hu,Instr.slice,hrun true _ E.w hc,(hT.ty e ti hti).sizeOf,hs]
   ·cases h
  ·cases h
 ·
  rename_i e _ _ _ _ _ b ht;have hu:=(hT.ty t _ ht).und;simp only[QW] at hu;split at h
  ·rename_i u l ti hb hti;have hbx:=hl _ _ hb;split at h
   ·rename_i hsz;have hs:=Nat.eq_of_beq_eq_true hsz;obtain⟨v,⟨e,hv1⟩,hU,hh⟩:=hx;injection e with e
    subst e;split at h
    ·simp only[ok1,Option.some.injEq] at h;subst h;cases vlo<;>cases vhi<;>simp only[Qi0] at h1 h2;rcases hh _ _ hbx with⟨hr,rfl⟩|⟨g,cs,el,cap,hr,hw,rfl,hc,hsz'⟩
     ·refine⟨.slice none 0 0,?_,⟨_,⟨rfl,rfl⟩,hU,hh⟩,rfl,rfl⟩;simp[Instr.sliceAt,run_underlying hu,Instr.slice,Instr.sliceBounds,(hT.ty _ ti hti).sizeOf]
     ·refine⟨.slice (some ⟨g,0,none⟩) l.length cap,?_,⟨_,⟨rfl,rfl⟩,hU,hh⟩,rfl,rfl⟩;simp[Instr.sliceAt,run_underlying hu,Instr.slice,Instr.sliceBounds,(hT.ty _ ti hti).sizeOf,Addr.add]
    ·split at h
     ·rename_i p a c hbd;simp only[okP,Option.some.injEq] at h;subst h;obtain⟨hab,hbl,hrun⟩:=QbG (P:=P) h1 h2 hbd (hp _ rfl);rcases hh _ _ hbx with⟨hr,rfl⟩|⟨g,cs,el,cap,hr,hw,rfl,hc,hsz'⟩
      ·obtain⟨_,hbr,_⟩:=hH.blk _ _ hbx;rcases hbr with⟨_,rfl⟩|⟨g,_,_,_,_,h6,_⟩
       ·simp at hbl;have:a=0:=by omega
        subst this hbl;refine⟨.slice none 0 0,?_,⟨_,⟨rfl,rfl⟩,hU,fun t' l' h'=>⟨Nat.zero_le _,.inl ⟨hr,rfl,rfl⟩⟩⟩,rfl,rfl⟩;have:=hrun true 0 E.w (Nat.le_refl _);simp at this;simp[Instr.sliceAt,run_underlying hu,Instr.slice,this,(hT.ty _ ti hti).sizeOf]
       ·rw[hr] at h6;cases h6
      ·refine⟨_,by simp[Instr.sliceAt,run_underlying hu,Instr.slice,hrun true _ E.w hc,(hT.ty _ ti hti).sizeOf,hs];exact rfl,⟨_,⟨rfl,rfl⟩,hU,fun t' l' h'=>?_⟩,rfl,rfl⟩;rw[hbx] at h';injection h' with h'
       injection h' with e1 e2
       subst e1;have e2:=eq_of_heq e2;subst e2;refine⟨by omega,?_⟩;by_cases hca:cap=a
       ·rw[if_pos hca];exact .inr ⟨g,_,_,hr,rfl,by omega,fun hpos=>by omega⟩
       ·rw[if_neg hca];exact .inr ⟨g,_,_,hr,rfl,by omega,fun _=>by simp[Qbx]⟩
     ·cases h
   ·cases h
  ·cases h
 ·
  rename_i e _ _ _ _ _ b off len ht;have hu:=(hT.ty t _ ht).und;simp only[QW] at hu;split at h
  ·rename_i u l ti hb hti;have hbx:=hl _ _ hb;split at h
   ·rename_i hsz;have hs:=Nat.eq_of_beq_eq_true hsz;split at h
    ·rename_i p a c hbd;simp only[okP,Option.some.injEq] at h;subst h;obtain⟨hab,hbl,hrun⟩:=QbG (P:=P) h1 h2 hbd (hp _ rfl);obtain⟨v,⟨e,hv1⟩,hU,hh⟩:=hx;injection e with e
     subst e;obtain⟨h0,hh⟩:=hh _ _ hbx;rcases hh with⟨hr,rfl,rfl⟩|⟨g,ad,cap,hr,rfl,hc,had⟩
     ·have hc0:c=0:=by omega
      have ha0:a=0:=by omega
      subst hc0 ha0;refine⟨.slice none 0 0,?_,⟨_,⟨rfl,rfl⟩,hU,fun t' l' h'=>?_⟩,rfl,rfl⟩
      ·simp[Instr.sliceAt,run_underlying hu,Instr.slice,hrun true 0 E.w (Nat.le_refl _),(hT.ty _ ti hti).sizeOf]
      ·rw[hbx] at h';injection h' with h'
       injection h' with e1 e2
       subst e1;have e2:=eq_of_heq e2;subst e2;exact⟨by omega,.inl ⟨hr,rfl,rfl⟩⟩
     ·refine⟨_,by simp[Instr.sliceAt,run_underlying hu,Instr.slice,hrun true _ E.w hc,(hT.ty _ ti hti).sizeOf,hs];exact rfl,⟨_,⟨rfl,rfl⟩,hU,fun t' l' h'=>?_⟩,rfl,rfl⟩;rw[hbx] at h';injection h' with h'
      injection h' with e1 e2
      subst e1;have e2:=eq_of_heq e2;subst e2;refine⟨by omega,?_⟩;by_cases hca:cap=a
      ·rw[if_pos hca];exact .inr ⟨g,_,_,hr,rfl,by omega,fun hpos=>by omega⟩
      ·rw[if_neg hca];refine .inr ⟨g,_,_,hr,rfl,by omega,fun hpos=>?_⟩;rw[had (by omega),Qbx,Nat.add_mul]
    ·cases h
   ·cases h
  ·cases h
 ·
  rename_i ht;have hu:=(hT.ty t _ ht).und;simp only[QW] at hu;split at h
  ·rename_i p a c ti hbd hti;simp only[okP,Option.some.injEq] at h;subst h;obtain⟨hab,hbl,hrun⟩:=QbG (P:=P) h1 h2 hbd (hp _ rfl);have hc0:c=0:=by omega
   have ha0:a=0:=by omega
   subst hc0 ha0;obtain⟨e,hv1⟩:=hx;injection e with e
   subst e;refine⟨.slice none 0 0,?_,⟨rfl,rfl⟩,rfl,rfl⟩;simp[Instr.sliceAt,run_underlying hu,Instr.slice,hrun true 0 E.w (Nat.le_refl _),(hT.ty _ ti hti).sizeOf]
  ·cases h
 ·
  rename_i m e _ _ _ _ _ b j ht;have hu:=(hT.ty t _ ht).und;simp only[QW] at hu;split at h
  ·rename_i cs ti hb hti;have hbx:=hl _ _ hb;split at h
   ·rename_i k n l hit;split at h
    ·rename_i hsz;simp only[Bool.and_eq_true] at hsz;have hnm:=Nat.eq_of_beq_eq_true hsz.1.1;have hs1:=Nat.eq_of_beq_eq_true hsz.1.2;have hpos:0<n:=Nat.le_of_ble_eq_true hsz.2;subst hnm;simp only[ok1,Option.some.injEq] at h;subst h;cases vlo<;>cases vhi<;>simp only[Qi0] at h1 h2;obtain⟨v,⟨e,hv1⟩,hU,hh⟩:=hx;injection e with e
     subst e;obtain⟨g,hr,rfl⟩:=hh _ hbx;refine⟨.slice (some ⟨g,j,none⟩) n n,?_,⟨_,⟨rfl,rfl⟩,hU,fun cs' c h' hit'=>?_⟩,rfl,rfl⟩
     ·simp[Instr.sliceAt,run_underlying hu,Instr.sliceBounds,(hT.ty _ ti hti).sizeOf,Instr.sureAddr,pt,Addr.add]
     ·rw[hbx] at h';injection h' with h'
      injection h' with h'
      subst h';rw[hit] at hit';injection hit' with hit'
      subst hit';exact⟨g,n,hr,rfl,Nat.le_refl _⟩
    ·cases h
   ·cases h
  ·cases h
 ·cases h
def QeT(E:Env)(b nm:Nat)(u:Ty)(l:List (Den u)):Env :=
 { w:=E.w,ρ:=fun c=>if c=nm then E.ρ b else E.ρ c,S:=E.S,H:=fun c=>if c=nm then some (.arr u l) else if c=b then none else E.H c,U:=fun c=>E.U c∨c=nm }
theorem Step.cut{E:Env}{r:Res}{b nm:Nat}{u:Ty}{l:List (Den u)}{n:Nat}(hH:HeapOk E)(hb:E.H b=some (.arr u l))(hr1:r.add=[.arr u (l.take n)])(hr2:r.set=[(b,none)])(hnm:¬E.U nm):Step E r nm (QeT E b nm u (l.take n)):=by
 obtain⟨hbU,hbR,hbS⟩:=hH.blk b _ hb
 have hext:Ext E (QeT E b nm u (l.take n)):=by
  refine⟨fun g hg=>⟨hg,rfl⟩,fun c hc=>.inl hc,fun c x' hc hx=>?_⟩;have hne:c≠nm:=fun e=>hnm (e ▸ hc)
  by_cases hcb:c=b
  ·simp[QeT,hne,hcb] at hx;exact absurd (hx.1:b=nm) (fun e=>hnm (e ▸ hbU))
  ·exact⟨x',by simpa[QeT,hne,hcb] using hx,by simp[QeT,hne],rfl,fun g cs el _ h=>⟨cs,h,rfl⟩⟩
 have hbn:b≠nm:=fun e=>hnm (e ▸ hbU)
 have hold:∀c x,c≠nm→(QeT E b nm u (l.take n)).H c=some x→c≠b∧E.H c=some x:=fun c x hne hx=>by
  by_cases hcb:c=b
  ·simp[QeT,hcb,hbn] at hx
  ·exact⟨hcb,by simpa[QeT,hne,hcb] using hx⟩
 refine⟨hext,⟨fun c x hx=>?_,fun c c' x x' g hx hx' hr hr'=>?_,hH.st⟩,fun c=>?_,fun c=>?_,fun F hF=>?_⟩
 ·by_cases hc:c=nm
  ·subst hc;simp only[QeT,if_true,Option.some.injEq] at hx;subst hx;refine⟨.inr rfl,?_,fun g hg=>hbS g (by simpa[QeT] using hg)⟩;rcases hbR with⟨h1,h2⟩|⟨g,cs,el,us,spare,h1,h2,h3,h4⟩
   ·exact .inl ⟨by simpa[QeT] using h1,by rw[h2];simp⟩
   ·have h5:=(h4.take_drop (n:=u.size) (fun _ _ h=>h.len) n).1;exact .inr ⟨g,cs,el,us.take (n*u.size),us.drop (n*u.size)++spare,by simpa[QeT] using h1,h2,by rw[←List.append_assoc,List.take_append_drop];exact h3,h5⟩
  ·obtain⟨hcb,hx⟩:=hold c x hc hx;obtain⟨h1,h2,h3⟩:=hH.blk c x hx;exact⟨.inl h1,h2.ext hext (by simp[QeT,hc]) (fun _ _=>rfl),fun g hg=>h3 g (by simpa[QeT,hc] using hg)⟩
 ·by_cases hc:c=nm<;>by_cases hc':c'=nm
  ·rw[hc,hc']
  ·obtain⟨hcb,hx'⟩:=hold c' x' hc' hx';have:=hH.inj b c' _ x' g hb hx' (by simpa[QeT,hc] using hr) (by simpa[QeT,hc'] using hr');exact absurd this.symm hcb
  ·obtain⟨hcb,hx⟩:=hold c x hc hx;have:=hH.inj c b x _ g hx hb (by simpa[QeT,hc] using hr) (by simpa[QeT,hc'] using hr');exact absurd this hcb
  ·exact hH.inj c c' x x' g (hold c x hc hx).2 (hold c' x' hc' hx').2 (by simpa[QeT,hc] using hr) (by simpa[QeT,hc'] using hr')
 ·rw[hr1,hr2];simp only[addF,Qf5,QeT]
 ·rw[hr1];simp only[QeT,List.length_singleton];constructor
  ·rintro (h|h)
   ·exact .inl h
   ·exact .inr (by omega)
  ·rintro (h|h)
   ·exact .inl h
   ·exact .inr (by omega)
 ·refine⟨hF.os,hF.tape,hF.output,hF.size,hF.old,fun c x g hx hr=>?_,hF.S⟩;by_cases hc:c=nm
  ·exact hF.own b _ g hb (by simpa[QeT,hc] using hr)
  ·exact hF.own c x g (hold c x hc hx).2 (by simpa[QeT,hc] using hr)
theorem QBs{E:Env}{look:Nat→Option Blk}(hT:TabOk P T)(hH:HeapOk E)(hl:∀b x,look b=some x→E.H b=some x){nm:Nat}{t:TypeId}{x:AV}{lo hi mx:Option AV}{vx:Value}{vlo vhi vmx:Option Value}{r:Res}
 (hnm:¬E.U nm) (hx:AVR E x vx) (h1:Qi0 E lo vlo) (h2:Qi0 E hi vhi) (h3:Qi0 E mx vmx) (h:cutA T look nm t x lo hi mx=some r) (hp:∀p,r.pre=some p→p) :
 ∃v E',(Instr.sliceAt t vx vlo vhi vmx).run P E.w=.ok v E'.w∧Step E r nm E'∧AVR E' r.val v:=by
 unfold cutA at h;split at h
 ·split at h
  ·split at h
   ·split at h
    ·split at h
     ·rename_i b _ _ _ k n _ _ e _ _ _ _ _ u l ht hb _ ti hti _ hsz;simp only[Option.some.injEq] at h;subst h;have hbx:=hl _ _ hb;have hu:=(hT.ty t _ ht).und;simp only[QW] at hu;rw[Bool.and_eq_true] at hsz;have hs:=Nat.eq_of_beq_eq_true hsz.1;obtain⟨hn0,hn1⟩:0≤n∧n≤l.length:=hp _ rfl;cases vmx with
      |some _=>simp only[Qi0] at h3
      |none =>
      have hbd:QdQ l.length none (some (.one (.c (.imm (.int k n)))))=some (0≤n∧n≤l.length,0,n.toNat):=rfl;obtain⟨hab,hbl,hrun⟩:=QbG (P:=P) h1 h2 hbd ⟨hn0,hn1⟩;obtain⟨v,⟨e1,hv1⟩,hU,hh⟩:=hx;injection e1 with e1
      subst e1;rcases hh _ _ hbx with⟨hr,rfl⟩|⟨g,cs,el,cap,hr,hw,rfl,hc,hsz'⟩
      ·obtain⟨_,hbr,_⟩:=hH.blk _ _ hbx;rcases hbr with⟨_,rfl⟩|⟨g,_,_,_,_,h6,_⟩
       ·have hn2:n.toNat=0:=by simpa using hbl
        refine⟨.slice none 0 0,QeT E b nm u (List.take n.toNat []),?_,Step.cut hH hbx rfl rfl hnm,⟨_,⟨rfl,rfl⟩,.inr rfl,fun t' l' h'=>.inl ⟨by simp[QeT,hr],rfl⟩⟩⟩;have:=hrun true 0 E.w (Nat.le_refl _);simp[hn2] at this;simp[Instr.sliceAt,run_underlying hu,Instr.slice,this,(hT.ty _ ti hti).sizeOf,QeT]
       ·rw[hr] at h6;cases h6
      ·refine⟨.slice (some ⟨g,0,none⟩) n.toNat cap,QeT E b nm u (l.take n.toNat),?_,Step.cut hH hbx rfl rfl hnm,⟨_,⟨rfl,rfl⟩,.inr rfl,fun t' l' h'=>?_⟩⟩
       ·simp[Instr.sliceAt,run_underlying hu,Instr.slice,hrun true _ E.w hc,(hT.ty _ ti hti).sizeOf,hs,QeT,Qbx]
       ·simp only[QeT,if_true,Option.some.injEq] at h';injection h' with e1 e2
        subst e1;have e2:=eq_of_heq e2;subst e2;have hlt:(l.take n.toNat).length=n.toNat:=by rw[List.length_take];omega
        rw[hlt];exact .inr ⟨g,cs,el,cap,by simp[QeT,hr],hw,rfl,by omega,hsz'⟩
     ·cases h
    ·cases h
   ·cases h
  ·cases h
 ·cases h
end
section
variable {P:Program} {T:Tab}
theorem QjK{E:Env}{look:Nat→Option Blk}(hT:TabOk P T)(hH:HeapOk E)(hl:∀b x,look b=some x→E.H b=some x){t:TypeId}{x i:AV}{vx vi:Value}{r:Res}
 (hx:AVR E x vx) (hi:AVR E i vi) (h:Qf2 T look t x i=some r) (hp:∀p,r.pre=some p→p) :
 ∃v,(Instr.indexAt t vx vi).run P E.w=.ok v E.w∧AVR E r.val v∧r.add=[]∧r.set=[]:=by
 unfold Qf2 at h;split at h
 ·rename_i k n;obtain⟨e,_⟩:=hi;injection e with e
  subst e;split at h
  ·
   rename_i e _ _ _ _ _ ht;have hu:=(hT.ty t _ ht).und;simp only[QW] at hu;split at h
   ·rename_i u l;cases hti:T.ty e with
    |none=>rw[hti] at h;cases h
    |some ti =>
     rw[hti] at h;simp only at h;cases hsz:Nat.beq ti.size u.size with
     |false=>rw[hsz] at h;cases h
     |true =>
      rw[hsz] at h;simp only[okP,Option.some.injEq] at h;subst h;have hs:=Nat.eq_of_beq_eq_true hsz;obtain⟨h0,h1⟩:=hp _ rfl;obtain⟨v,e,hsl⟩:=hx;injection e with e
      subst e;obtain⟨ad,cap,rfl,hc,hh⟩:=hsl;obtain⟨ad',us,rfl,hS,hlr,hcell⟩:=hh (by intro e;subst e;simp at h1;omega);refine⟨.pointer (some (ad'.add (n.toNat*u.size))),?_,⟨by omega,ad',us,by simp,hS,hlr,hcell⟩,rfl,rfl⟩;simp[Instr.indexAt,asIntOf,run_underlying hu,(hT.ty e ti hti).sizeOf,h0,h1,hs]
   ·rename_i b;split at h
    ·rename_i u l ti hb hti;have hbx:=hl _ _ hb;cases hsz:Nat.beq ti.size u.size with
     |false=>rw[hsz] at h;cases h
     |true =>
      rw[hsz] at h;simp only[okP,Option.some.injEq] at h;subst h;have hs:=Nat.eq_of_beq_eq_true hsz;obtain⟨h0,h1⟩:=hp _ rfl;obtain⟨v,⟨e,hv1⟩,hU,hh⟩:=hx;injection e with e
      subst e;rcases hh _ _ hbx with⟨hr,rfl⟩|⟨g,cs,el,cap,hr,hw,rfl,hc,hsz'⟩
      ·obtain⟨_,hbr,_⟩:=hH.blk _ _ hbx;rcases hbr with⟨_,rfl⟩|⟨g,_,_,_,_,h6,_⟩
       ·simp at h1;omega
       ·rw[hr] at h6;cases h6
      ·refine⟨pt g (n.toNat*u.size),?_,⟨_,⟨rfl,rfl⟩,hU,fun t' l' h' hi'=>?_⟩,rfl,rfl⟩
       ·simp[Instr.indexAt,asIntOf,run_underlying hu,(hT.ty e ti hti).sizeOf,h0,h1,hs,pt,Qbx]
       ·rw[hbx] at h';injection h' with h'
        injection h' with e1 e2
        subst e1;exact⟨g,hr,rfl⟩
    ·cases h
   ·rename_i b off len;split at h
    ·rename_i u l ti hb hti;have hbx:=hl _ _ hb;cases hsz:Nat.beq ti.size u.size with
     |false=>rw[hsz] at h;cases h
     |true =>
      rw[hsz] at h;simp only[okP,Option.some.injEq] at h;subst h;have hs:=Nat.eq_of_beq_eq_true hsz;obtain⟨h0,h1⟩:=hp _ rfl;obtain⟨v,⟨e,hv1⟩,hU,hh⟩:=hx;injection e with e
      subst e;obtain⟨hle,hh⟩:=hh _ _ hbx;rcases hh with⟨hr,rfl,rfl⟩|⟨g,ad,cap,hr,rfl,hc,had⟩
      ·simp at h1;omega
      ·refine⟨pt g ((off+n.toNat)*u.size),?_,⟨_,⟨rfl,rfl⟩,hU,fun t' l' h' hi'=>?_⟩,rfl,rfl⟩
       ·simp[Instr.indexAt,asIntOf,run_underlying hu,(hT.ty e ti hti).sizeOf,h0,h1,hs,pt,had (by omega),Qbx,Nat.add_mul]
       ·rw[hbx] at h';injection h' with h'
        injection h' with e1 e2
        subst e1;exact⟨g,hr,rfl⟩
    ·cases h
   ·rename_i b j m;split at h
    ·rename_i cs ti hb hti;have hbx:=hl _ _ hb;cases hsz:Nat.beq ti.size 1 with
     |false=>rw[hsz] at h;cases h
     |true =>
      rw[hsz] at h;simp only[okP,Option.some.injEq] at h;subst h;have hs:=Nat.eq_of_beq_eq_true hsz;obtain⟨h0,h1⟩:=hp _ rfl;obtain⟨v,⟨e,hv1⟩,hU,hh⟩:=hx;injection e with e
      subst e;obtain⟨g,cap,hr,rfl,hc⟩:=hh _ hbx;refine⟨pt g (j+n.toNat),?_,⟨_,⟨rfl,rfl⟩,hU,fun cs' h'=>?_⟩,rfl,rfl⟩
      ·simp[Instr.indexAt,asIntOf,run_underlying hu,(hT.ty e ti hti).sizeOf,h0,h1,hs,pt,Qbx]
      ·exact⟨g,hr,rfl⟩
    ·cases h
   ·cases h
  ·
   rename_i m e _ _ _ _ _ ht;have hu:=(hT.ty t _ ht).und;simp only[QW] at hu;split at h
   ·rename_i b j ti hti;split at h
    ·rename_i cs hb;have hbx:=hl _ _ hb;cases hsz:Nat.beq ti.size 1 with
     |false=>rw[hsz] at h;cases h
     |true =>
      rw[hsz] at h;simp only[okP,Option.some.injEq] at h;subst h;have hs:=Nat.eq_of_beq_eq_true hsz;obtain⟨h0,h1⟩:=hp _ rfl;obtain⟨v,⟨e,hv1⟩,hU,hh⟩:=hx;injection e with e
      subst e;obtain⟨g,hr,rfl⟩:=hh _ hbx;refine⟨pt g (j+n.toNat),?_,⟨_,⟨rfl,rfl⟩,hU,fun cs' h'=>⟨g,hr,rfl⟩⟩,rfl,rfl⟩;simp[Instr.indexAt,asIntOf,run_underlying hu,Instr.sureAddr,(hT.ty _ ti hti).sizeOf,h0,h1,hs,pt,Qbx]
    ·cases h
   ·cases h
  ·cases h
 ·cases h
theorem QjL{E:Env}{look:Nat→Option Blk}(hT:TabOk P T)(hl:∀b x,look b=some x→E.H b=some x){s:TypeId}{x:AV}{vx:Value}{f:Nat}{r:Res}
 (hx:AVR E x vx) (h:Qf1 T look s x f=some r) (hp:∀p,r.pre=some p→p) :
 ∃v,(Instr.fieldAt s vx f).run P E.w=.ok v E.w∧AVR E r.val v∧r.add=[]∧r.set=[]:=by
 unfold Qf1 at h;split at h
 ·rename_i fs _ _ _ _ _ ht;have hu:=(hT.ty s _ ht).und;simp only[QW] at hu;obtain⟨F,hF,hfs,_⟩:=hu;split at h
  ·rename_i u o hfo;obtain⟨fd,h1,h2,h3⟩:=hfs _ _ _ hfo;cases hti:T.ty u with
   |none=>rw[hti] at h;cases h
   |some ti =>
    rw[hti] at h;simp only at h;cases hpz:Nat.blt 0 ti.size with
    |false=>rw[hpz] at h;cases h
    |true =>
     rw[hpz] at h;simp only at h;have hpos:0<ti.size:=Nat.le_of_ble_eq_true hpz;have hso:∀w,(sizeOf fd.type).run P w=.ok ti.size w:=by rw[h2];exact(hT.ty u ti hti).sizeOf
     have hne:¬ti.size=0:=by omega
     have run:∀ad:Addr,(Instr.fieldAt s (.pointer (some ad)) f).run P E.w=.ok (.pointer (some (ad.add o))) E.w:=by
      intro ad;simp[Instr.fieldAt,run_underlying hF,h1,Instr.sureAddr,fieldPlace,hso,hne,h3]
     split at h
     ·split at h
      ·rename_i b j _ cs hb;simp only[ok1,Option.some.injEq] at h;subst h;have hbx:=hl _ _ hb;obtain⟨v,⟨e,hv1⟩,hU,hh⟩:=hx;injection e with e
       subst e;obtain⟨g,hr,rfl⟩:=hh _ hbx;refine⟨pt g (j+o),by rw[show pt g (j+o)=.pointer (some ((⟨g,j,none⟩:Addr).add o)) from by rw[Qbx];rfl];exact run _,⟨_,⟨rfl,rfl⟩,hU,fun cs' h'=>⟨g,hr,rfl⟩⟩,rfl,rfl⟩
      ·cases h
     ·split at h
      ·rename_i b i j _ t' l hb;simp only[okP,Option.some.injEq] at h;subst h;have hi:=hp _ rfl;have hbx:=hl _ _ hb;obtain⟨v,⟨e,hv1⟩,hU,hh⟩:=hx;injection e with e
       subst e;obtain⟨g,hr,rfl⟩:=hh _ _ hbx hi;refine⟨pt g (i*t'.size+j+o),by rw[show pt g (i*t'.size+j+o)=.pointer (some ((⟨g,i*t'.size+j,none⟩:Addr).add o)) from by rw[Qbx];rfl];exact run _,⟨_,⟨rfl,rfl⟩,hU,fun t2 l2 h' hi'=>?_⟩,rfl,rfl⟩;rw[hbx] at h';injection h' with h'
       injection h' with e1 e2
       subst e1;exact⟨g,hr,by rw[Nat.add_assoc]⟩
      ·cases h
     ·rename_i t' l i j;simp only[ok1,Option.some.injEq] at h;subst h;obtain⟨hi,ad,us,e,hS,hlr,hcell⟩:=hx;injection e with e
      subst e;refine⟨_,run _,⟨hi,ad,us,?_,hS,hlr,hcell⟩,rfl,rfl⟩;rw[addadd,Nat.add_assoc]
     ·cases h
  ·cases h
 ·cases h
theorem QwU{E:Env}(hT:TabOk P T){u:TypeId}{ti:TI}(hti:T.ty u=some ti){cs:List Cell}{vals:Array Value}(hr:IR E cs vals.toList){o:Nat} :
 (∀r,ti.isAgg=true→QaB cs o ti.size=some r→∃v,(part u vals o).run P E.w=.ok v E.w∧AVR E (.agg r) v) ∧
 (∀c,ti.isAgg=false→QaW cs o=some c→c.size=1→∃v,(part u vals o).run P E.w=.ok v E.w∧AVR E (.cell c) v):=by
 have hok:=hT.ty u ti hti;constructor
 ·intro r hag h;obtain⟨a,m,b,e,ha,hm,hmr⟩:=Qdm hr h;refine⟨.agg (vals.extract o (o+ti.size)),by simp[part,hok.agg,hag,hok.sizeOf],_,rfl,?_⟩
  have:(vals.extract o (o+ti.size)).toList=m:=by
   rw[Array.toList_extract,e];simp[List.extract_eq_take_drop,←ha,←hm,List.drop_append]
  rw[this];exact hmr
 ·intro c hag h hs;obtain⟨a,m,b,e,ha,hmr⟩:=Qc0 hr h;have hml:=hmr.len;rw[hs] at hml
  match m,hml with
  | [v],_ =>
    have:vals[o]?=some v:=by
     rw[←Array.getElem?_toList,e,List.append_assoc,List.getElem?_append_right (by omega),ha];simp
    exact⟨v,by simp[part,hok.agg,hag,this],hmr⟩
theorem QwV{c:Cell}(h:∀k n l,c≠.run k n l):c.size=1:=by
 cases c<;>first|rfl|exact absurd rfl (h _ _ _)
theorem Qsp{E:Env}(hT:TabOk P T){t:TypeId}{x:AV}{vx:Value}{f:Nat}{r:Res}(hx:AVR E x vx)(h:Qsd T t x f=some r) :
 ∃v,(Instr.field t vx f).run P E.w=.ok v E.w∧AVR E r.val v∧r.add=[]∧r.set=[]∧r.pre=none:=by
 unfold Qsd at h;split at h
 ·rename_i fs _ _ _ _ _ ht;have hu:=(hT.ty t _ ht).und;simp only[QW] at hu;obtain⟨F,hF,hfs,_⟩:=hu;split at h
  ·rename_i u o hfo;obtain⟨fd,h1,h2,h3⟩:=hfs _ _ _ hfo;split at h
   ·rename_i ti cs hti;obtain⟨vals,rfl,hr⟩:=hx;have hp:=QwU (P:=P) hT hti hr (o:=o)
    have run:∀v,(part u vals o).run P E.w=.ok v E.w→(Instr.field t (.agg vals) f).run P E.w=.ok v E.w:=by
     intro v hv;simp[Instr.field,run_underlying hF,h1,asAgg,h2,h3,hv]
    cases hag:ti.isAgg with
    |true =>
     rw[hag] at h;simp only at h;cases hq:QaB cs o ti.size with
     |none=>rw[hq] at h;cases h
     |some r' =>
      rw[hq] at h;simp only[ok1,Option.some.injEq] at h;subst h;obtain⟨v,hv,hvr⟩:=hp.1 r' hag hq;exact⟨v,run v hv,hvr,rfl,rfl,rfl⟩
    |false =>
     rw[hag] at h;simp only at h;split at h
     ·cases h
     ·rename_i c hq hnr;simp only[ok1,Option.some.injEq] at h;subst h;obtain⟨v,hv,hvr⟩:=hp.2 c hag hnr (QwV fun k n l e=>hq k n l (by rw[←e]));exact⟨v,run v hv,hvr,rfl,rfl,rfl⟩
     ·cases h
   ·cases h
  ·cases h
 ·cases h
theorem Qsq{E:Env}(hT:TabOk P T){t:TypeId}{x i:AV}{vx vi:Value}{r:Res}(hx:AVR E x vx)(hi:AVR E i vi)(h:Qsc T t x i=some r)(hp:∀p,r.pre=some p→p) :
 ∃v,(Instr.index t vx vi).run P E.w=.ok v E.w∧AVR E r.val v∧r.add=[]∧r.set=[]:=by
 unfold Qsc at h;split at h
 ·rename_i k n;obtain⟨e,_⟩:=hi;injection e with e
  subst e;split at h
  ·rename_i m e _ _ _ _ _ k' m' l ht;have hu:=(hT.ty t _ ht).und;simp only[QW] at hu;cases hti:T.ty e with
   |none=>rw[hti] at h;cases h
   |some ti =>
    rw[hti] at h;simp only at h;split at h
    ·rename_i hc;simp only[Bool.and_eq_true] at hc;have hs:=Nat.eq_of_beq_eq_true hc.1.1;have hm:=Nat.eq_of_beq_eq_true hc.1.2;have hag:ti.isAgg=false:=by simpa using hc.2
     subst hm;simp only[okP,Option.some.injEq] at h;subst h;obtain⟨h0,h1⟩:=hp _ rfl;obtain⟨vals,rfl,r',rest,e,⟨hln,rfl⟩,hrest⟩:=hx;simp only[IR] at hrest;subst hrest
     have hget:vals[n.toNat]?=some (.int k' (l.getD n.toNat 0)):=by
      rw[←Array.getElem?_toList,e];simp[List.getD,List.getElem?_eq_getElem (show n.toNat<l.length by omega)]
     have hok:=hT.ty _ ti hti;refine⟨_,?_,⟨rfl,rfl⟩,rfl,rfl⟩;simp[Instr.index,asIntOf,run_underlying hu,h0,h1,hok.sizeOf,hs,part,hok.agg,hag,hget]
    ·cases h
  ·rename_i s ht;have hu:=(hT.ty t _ ht).und;simp only[QW] at hu;simp only[okP,Option.some.injEq] at h;subst h;obtain⟨h0,h1⟩:=hp _ rfl;obtain⟨e,_⟩:=hx;injection e with e
   subst e;refine⟨_,?_,⟨rfl,rfl⟩,rfl,rfl⟩;have hlt:n.toNat<s.size:=by omega
   have:Qfg s n.toNat=(s[n.toNat].toNat:Int):=by
    unfold Qfg;have h5:n.toNat<s.data.toList.length:=by simpa using hlt
    rw[List.getD,List.getElem?_eq_getElem h5];simp only[Option.getD_some,Array.getElem_toList];rfl
   rw[this];simp[Instr.index,asIntOf,run_underlying hu,h0,hlt]
  ·cases h
 ·cases h
end
end Go.Fw

