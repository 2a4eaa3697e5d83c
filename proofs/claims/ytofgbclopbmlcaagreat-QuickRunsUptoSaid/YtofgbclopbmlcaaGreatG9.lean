/- Part 9 of the proof. Conditions: none. -/
import Derived.Test.YtofgbclopbmlcaaGreatG8
namespace Go.Fw
set_option linter.unusedVariables false
set_option linter.unusedSimpArgs false
section
variable {P:Program} {T:Tab}
theorem QjN{look:Nat→Option Blk}:∀(f:Nat) (bs acc acc':List Nat),acc.Nodup→reach look f bs acc=some acc' →
 acc'.Nodup∧(∀b∈bs,b∈acc')∧(∀b∈acc,b∈acc')∧∀b∈acc',b∈acc∨∃x,look b=some x∧∀n∈x.names,n∈acc'
 |f,[],acc,acc',hn,h=>by
  have:acc=acc':=by cases f<;>simpa[reach] using h
  subst this;exact⟨hn,fun b hb=>by simp at hb,fun _ h=>h,fun b hb=>.inl hb⟩
 |0,b::bs,acc,acc',hn,h=>by simp[reach] at h
 |f+1,b::bs,acc,acc',hn,h=>by
  unfold reach at h;cases hc:acc.contains b with
  |true =>
   rw[hc] at h;simp only at h;obtain⟨h1,h2,h3,h4⟩:=QjN f bs acc acc' hn h;have hb:b∈acc:=by simpa using hc
   refine⟨h1,fun c hcm=>?_,h3,h4⟩;rcases List.mem_cons.1 hcm with rfl|hcm
   ·exact h3 _ hb
   ·exact h2 c hcm
  |false =>
   rw[hc] at h;simp only at h;cases hl:look b with
   |none=>rw[hl] at h;cases h
   |some x =>
    rw[hl] at h;simp only at h;have hb:b∉acc:=by simpa using hc
    obtain⟨h1,h2,h3,h4⟩:=QjN f (bs++x.names) (acc++[b]) acc' (by rw[List.nodup_append];exact⟨hn,by simp,fun a ha c hcm=>by simp at hcm;subst hcm;exact fun e=>hb (e ▸ ha)⟩) h;refine⟨h1,fun c hcm=>?_,fun c hcm=>h3 c (by simp[hcm]),fun c hcm=>?_⟩
    ·rcases List.mem_cons.1 hcm with rfl|hcm
     ·exact h3 _ (by simp)
     ·exact h2 c (by simp[hcm])
    ·rcases h4 c hcm with h5|h5
     ·rcases List.mem_append.1 h5 with h5|h5
      ·exact .inl h5
      ·simp at h5;subst h5;exact .inr ⟨x,hl,fun n hnm=>h2 n (by simp[hnm])⟩
     ·exact .inr h5
theorem Qol:∀(l:List Nat) (i k b:Nat),l.Nodup→l[i]?=some b→Qqt b l k=some (k+i)
 |x::l,0,k,b,hn,h=>by
  simp at h;subst h;unfold Qqt;simp
 |x::l,i+1,k,b,hn,h=>by
  simp at h
  have hne:x≠b:=by
   rintro rfl
   exact(List.nodup_cons.1 hn).1 (List.mem_of_getElem? h)
  unfold Qqt
  have:Nat.beq x b=false:=by
   rw[Bool.eq_false_iff];intro e;exact hne (Nat.eq_of_beq_eq_true e)
  rw[this];show Qqt b l (k+1)=_;rw[Qol l i (k+1) b (List.nodup_cons.1 hn).2 h];simp only[Option.some.injEq];omega
theorem QdF{acc:List Nat}{i b:Nat}(hn:acc.Nodup)(h:acc[i]?=some b):idx acc b=i:=by
 unfold idx;rw[Qol acc i 0 b hn h];simp
theorem QdV{acc:List Nat}{b:Nat}(hn:acc.Nodup)(h:b∈acc):acc[idx acc b]?=some b:=by
 obtain⟨i,hi⟩:=List.mem_iff_getElem?.1 h;rw[QdF hn hi];exact hi
theorem Qom:∀(acc:List Nat) (upd:List (Option Blk)) (H:Nat→Option Blk),acc.Nodup→upd.length=acc.length→∀b,Qf5 H (acc.zip upd) b=if b∈acc then (upd[idx acc b]?).getD none else H b
 | [],upd,H,_,hl,b=>by
   have:upd=[]:=List.eq_nil_of_length_eq_zero hl;subst this;simp[Qf5]
 |a::acc,o::upd,H,hn,hl,b=>by
  have hn':=List.nodup_cons.1 hn;simp only[List.zip_cons_cons,Qf5];rw[Qom acc upd _ hn'.2 (by simpa using hl)];by_cases hb:b∈acc
  ·rw[if_pos hb,if_pos (by simp[hb])];have h1:=QdV hn'.2 hb;have h2:(a::acc)[idx acc b+1]?=some b:=by simpa using h1
   rw[QdF hn h2];simp
  ·rw[if_neg hb];by_cases hba:b=a
   ·subst hba;have h2:(b::acc)[0]?=some b:=rfl;rw[if_pos rfl,if_pos (by simp),QdF hn h2];simp
   ·rw[if_neg hba,if_neg (by simp[hb,hba])]
 |a::acc,[],H,_,hl,b=>by simp at hl
def QeD(E:Env)(acc:List Nat)(bl:List Blk):Env :=
 { w:=E.w,ρ:=fun i=>(acc[i]?).bind E.ρ,S:=E.S,H:=fun i=>bl[i]?,U:=fun i=>i<bl.length }
theorem Qon{E:Env}(hH:HeapOk E){acc:List Nat}{bl:List Blk}(hn:acc.Nodup)(hlen:bl.length=acc.length)(hbl:∀(i b:Nat),acc[i]?=some b→∃x,E.H b=some x∧bl[i]?=some (x.rn (idx acc))){b:Nat}(hb:b∈acc):QwY E (QeD E acc bl) (idx acc) b:=by
 intro hU;have h1:=QdV hn hb;refine⟨by show idx acc b<bl.length;rw[hlen];exact(List.getElem?_eq_some_iff.1 h1).1,fun x hx=>?_⟩;obtain⟨y,hy,hy2⟩:=hbl _ _ h1;have hx:bl[idx acc b]?=some x:=hx;rw[hy2] at hx;injection hx with hx
 subst hx;exact⟨y,hy,QcE _ _,by simp[QeD,h1]⟩
theorem Qw0{E:Env}(hH:HeapOk E){acc:List Nat}{bl:List Blk}(hn:acc.Nodup)(hlen:bl.length=acc.length)(hbl:∀(i b:Nat),acc[i]?=some b→∃x,E.H b=some x∧bl[i]?=some (x.rn (idx acc))∧∀n∈x.names,n∈acc):HeapOk (QeD E acc bl):=by
 have hbl':∀(i b:Nat),acc[i]?=some b→∃x,E.H b=some x∧bl[i]?=some (x.rn (idx acc)):=fun i b h=>let ⟨x,h1,h2,_⟩:=hbl i b h;⟨x,h1,h2⟩
 have get:∀(i:Nat) x,bl[i]?=some x→∃b y,acc[i]?=some b∧E.H b=some y∧x=y.rn (idx acc)∧∀n∈y.names,n∈acc:=by
  intro i x hx;have hi:i<acc.length:=by rw[←hlen];exact(List.getElem?_eq_some_iff.1 hx).1
  obtain⟨y,h1,h2,h3⟩:=hbl i acc[i] (List.getElem?_eq_getElem hi);rw[hx] at h2;injection h2 with h2
  exact⟨acc[i],y,List.getElem?_eq_getElem hi,h1,h2,h3⟩
 refine⟨fun i x hx=>?_,fun i i' x x' g hx hx' hr hr'=>?_,hH.st⟩
 ·obtain⟨b,y,h1,h2,rfl,h4⟩:=get i x hx;obtain⟨k1,k2,k3⟩:=hH.blk b y h2;have:=Qoc.rn (E:=E) (E':=QeD E acc bl) (f:=idx acc) (i:=b) rfl (.inl fun _ h=>h) (fun j hj=>Qon hH hn hlen hbl' (h4 j hj)) (by rw[QdF hn h1];simp[QeD,h1]) k2;rw[QdF hn h1] at this;exact⟨(List.getElem?_eq_some_iff.1 hx).1,this,fun g hg=>k3 g (by simpa[QeD,h1] using hg)⟩
 ·obtain⟨b,y,h1,h2,rfl,h4⟩:=get i x hx;obtain⟨b',y',h1',h2',rfl,h4'⟩:=get i' x' hx';have:=hH.inj b b' y y' g h2 h2' (by simpa[QeD,h1] using hr) (by simpa[QeD,h1'] using hr');subst this;rw[←QdF hn h1,←QdF hn h1']
theorem QqC{E:Env}(hH:HeapOk E){acc:List Nat}{bl:List Blk}{nm:Nat}{r:AV}{upd:List (Option Blk)}{fresh:List Blk}{p:Option Prop}{v:Value}{E':Env}(hn:acc.Nodup)(hlen:bl.length=acc.length)(hul:upd.length=acc.length)
 (hbl:∀(i b:Nat),acc[i]?=some b→∃x,E.H b=some x∧bl[i]?=some (x.rn (idx acc))) (hnm:∀k,k<fresh.length→¬E.U (nm+k)) (hb:Back (QeD E acc bl) bl.length r upd fresh v E') (back:Nat→Nat) (hback:∀i,back i=match acc[i]? with|some b=>b|none=>nm+(i-acc.length)) :
 ∃E'',E''.w=E'.w∧Step E { pre:=p,val:=r.rn back,add:=fresh.map (·.rn back),set:=acc.zip (upd.map fun o=>match o with|some b=>some (b.rn back)|none=>none) } nm E''∧AVR E'' (r.rn back) v:=by
 have hback1:∀i b,acc[i]?=some b→back i=b:=fun i b h=>by rw[hback,h]
 have hback2:∀i,acc.length≤i→back i=nm+(i-acc.length):=fun i h=>by rw[hback,List.getElem?_eq_none h]
 have hown0:∀g,(Qhk (QeD E acc bl)).own0 g→∃b x,b∈acc∧E.H b=some x∧E.ρ b=some g:=by
  rintro g ⟨i,x,hx,hr⟩
  have hi:i<acc.length:=by rw[←hlen];exact(List.getElem?_eq_some_iff.1 hx).1
  obtain⟨y,h1,h2⟩:=hbl i acc[i] (List.getElem?_eq_getElem hi);exact⟨acc[i],y,List.getElem_mem hi,h1,by simpa[QeD,List.getElem?_eq_getElem hi] using hr⟩
 have hsize:E.w.heap.size≤E'.w.heap.size:=hb.fr.size
 have hold:∀g,g<E.w.heap.size→(∀b x,b∈acc→E.H b=some x→E.ρ b≠some g)→E'.w.heap[g]?=E.w.heap[g]?:=fun g hg ho=>hb.fr.old g hg fun h=>by
  obtain⟨b,x,h1,h2,h3⟩:=hown0 g h;exact ho b x h1 h2 h3
 have hinU:∀b,E.U b→¬(nm≤b∧b<nm+fresh.length):=fun b hU h=>hnm (b-nm) (by omega) (by rwa[show nm+(b-nm)=b from by omega])
 have haccU:∀b,b∈acc→E.U b∧∃x,E.H b=some x:=fun b hba=>by
  obtain⟨x,h1,_⟩:=hbl _ b (QdV hn hba);exact⟨(hH.blk b x h1).1,x,h1⟩
 let E'':Env:=Env.mk E'.w (fun b=>if nm≤b∧b<nm+fresh.length then E'.ρ (acc.length+(b-nm)) else E.ρ b) E'.S
  (fun b=>if nm≤b∧b<nm+fresh.length then (fresh[b-nm]?).map (·.rn back) else if b∈acc then ((upd[idx acc b]?).getD none).map (·.rn back) else E.H b) (fun b=>E.U b∨(nm≤b∧b<nm+fresh.length))
 have hHold:∀i,i<acc.length→E'.H i=(upd[i]?).getD none:=fun i hi=>by rw[hb.H i,if_pos (by omega)]
 have hHnew:∀i,E'.H (acc.length+i)=fresh[i]?:=fun i=>by rw[hb.H _,if_neg (by omega),hlen,Nat.add_sub_cancel_left]
 have hacc:∀b,b∈acc→∀x,E''.H b=some x→∃y,E'.H (idx acc b)=some y∧x=y.rn back∧E'.ρ (idx acc b)=E.ρ b∧∃z,E.H b=some z∧shape y=shape z:=by
  intro b hba x hx;have hnin:=hinU b (haccU b hba).1;have h1:=QdV hn hba;have hi:idx acc b<acc.length:=(List.getElem?_eq_some_iff.1 h1).1;simp only[E'',hnin,if_false,hba,if_true] at hx;rw[←hHold _ hi] at hx;cases hy:E'.H (idx acc b) with
  |none=>rw[hy] at hx;cases hx
  |some y =>
   rw[hy] at hx;injection hx with hx
   obtain⟨z,hz,hr,hsh,_⟩:=hb.ext.H (idx acc b) y (by show idx acc b<bl.length;omega) hy;obtain⟨z0,h2,h3⟩:=hbl _ b h1;have hz:bl[idx acc b]?=some z:=hz;rw[h3] at hz;injection hz with hz
   subst hz;exact⟨y,rfl,hx.symm,by rw[hr];simp[QeD,h1],z0,h2,by rw[hsh,QcE]⟩
 have hnew:∀b,nm≤b∧b<nm+fresh.length→∀x,E''.H b=some x→∃y,E'.H (acc.length+(b-nm))=some y∧fresh[b-nm]?=some y∧x=y.rn back:=by
  intro b hbn x hx;simp only[E'',hbn,and_self,if_true] at hx;cases hf:fresh[b-nm]? with
  |none=>rw[hf] at hx;cases hx
  |some y=>rw[hf] at hx;injection hx with hx;exact⟨y,by rw[hHnew,hf],rfl,hx.symm⟩
 have hoth:∀b,¬(nm≤b∧b<nm+fresh.length)→b∉acc→∀x,E''.H b=some x→E.H b=some x:=fun b h1 h2 x hx=>by simpa[E'',h1,h2] using hx
 have hothw:∀b x,b∉acc→E.H b=some x→∀g,E.ρ b=some g→E'.w.heap[g]?=E.w.heap[g]?:=fun b x hba hx g hr =>
  hold g (QaR hH hx hr).1 fun c y hc hy hrc=>hba (hH.inj c b y x g hy hx hrc hr ▸ hc)
 have hS:∀g,E.S g→E'.S g∧E'.w.heap[g]?=E.w.heap[g]?:=fun g hg=>hb.ext.S g hg
 have hext:Ext E E'':=by
  refine⟨fun g hg=>hS g hg,fun b h=>.inl h,fun b x' hU hx=>?_⟩;have hnin:=hinU b hU;by_cases hba:b∈acc
  ·obtain⟨y,h1,rfl,h3,z,h4,h5⟩:=hacc b hba x' hx;refine⟨z,h4,by simp[E'',hnin],by rw[QcE,h5],fun g cs el hr hc=>?_⟩;have hi:=QdV hn hba;obtain⟨_,_,_,_,hsz⟩:=hb.ext.H (idx acc b) y (by show idx acc b<bl.length;have:=(List.getElem?_eq_some_iff.1 hi).1;omega) h1;exact hsz g cs el (by simp[QeD,hi,hr]) hc
  ·have hx:=hoth b hnin hba x' hx;exact⟨x',hx,by simp[E'',hnin],rfl,fun g cs el hr hc=>⟨cs,(hothw b x' hba hx g hr).trans hc,rfl⟩⟩
 have hat:∀i,QwY E' E'' back i:=by
  intro i hU;have hi:i<acc.length+fresh.length:=by have:=(hb.U i).1 hU;omega
  by_cases hia:i<acc.length
  ·have h1:=List.getElem?_eq_getElem hia;rw[hback1 i _ h1];have hm:acc[i]∈acc:=List.getElem_mem hia;refine⟨.inl (haccU _ hm).1,fun x hx=>?_⟩;obtain⟨y,h2,rfl,h4,_⟩:=hacc _ hm x hx;rw[QdF hn h1] at h2 h4;exact⟨y,h2,QcE _ _,by simp[E'',hinU _ (haccU _ hm).1,h4]⟩
  ·rw[hback2 i (by omega)];have h1:nm≤nm+(i-acc.length)∧nm+(i-acc.length)<nm+fresh.length:=by omega
   refine⟨.inr h1,fun x hx=>?_⟩;obtain⟨y,h2,h3,rfl⟩:=hnew _ h1 x hx;rw[show acc.length+(nm+(i-acc.length)-nm)=i from by omega] at h2;exact⟨y,h2,QcE _ _,by simp only[E'',h1,and_self,if_true];congr 1;omega⟩
 have hownr:∀i y g,E'.H i=some y→E'.ρ i=some g→E.w.heap.size≤g∨∃b x,b∈acc∧E.H b=some x∧E.ρ b=some g:=fun i y g hy hr=>(hb.fr.own i y g hy hr).imp id (hown0 g)
 refine⟨E'',rfl,⟨hext,⟨fun b x hx=>?_,fun b b' x x' g hx hx' hr hr'=>?_,hb.ok.st⟩,fun b=>?_,fun b=>?_,fun F hF=>⟨hb.fr.os.trans hF.os,hb.fr.tape.trans hF.tape,hb.fr.output.trans hF.output,Nat.le_trans hF.size hsize,fun g hg ho=>?_,fun b x g hx hr=>?_,fun g hg=>?_⟩⟩,?_⟩
 ·by_cases hbn:nm≤b∧b<nm+fresh.length
  ·obtain⟨y,h1,h2,rfl⟩:=hnew b hbn x hx;obtain⟨k1,k2,k3⟩:=hb.ok.blk _ _ h1;have hbk:back (acc.length+(b-nm))=b:=by rw[hback2 _ (by omega)];omega
   have:=Qoc.rn (E:=E') (E':=E'') (f:=back) (i:=acc.length+(b-nm)) rfl (.inl fun _ h=>h) (fun j _=>hat j) (by rw[hbk];simp[E'',hbn]) k2;rw[hbk] at this;exact⟨.inr hbn,this,fun g hg=>k3 g (by simpa[E'',hbn] using hg)⟩
  ·by_cases hba:b∈acc
   ·obtain⟨y,h1,rfl,h3,_⟩:=hacc b hba x hx;obtain⟨k1,k2,k3⟩:=hb.ok.blk _ _ h1;have hbk:back (idx acc b)=b:=hback1 _ _ (QdV hn hba);have:=Qoc.rn (E:=E') (E':=E'') (f:=back) (i:=idx acc b) rfl (.inl fun _ h=>h) (fun j _=>hat j) (by rw[hbk];simp[E'',hbn,h3]) k2;rw[hbk] at this;exact⟨.inl (haccU b hba).1,this,fun g hg=>k3 g (by rw[h3];simpa[E'',hbn] using hg)⟩
   ·have hx:=hoth b hbn hba x hx;obtain⟨k1,k2,k3⟩:=hH.blk b x hx;refine⟨.inl k1,k2.ext hext (by simp[E'',hbn]) (fun g hg=>hothw b x hba hx g hg),fun g hg hs=>?_⟩;have hg:E.ρ b=some g:=by simpa[E'',hbn] using hg
    have hlt:=(QaR hH hx hg).1;rcases hb.fr.S g hs with h|h|h
    ·exact k3 g hg h
    ·have h:E.w.heap.size≤g:=h;omega
    ·obtain⟨c,y,hc,hy,hr⟩:=hown0 g h;exact hba (hH.inj c b y x g hy hx hr hg ▸ hc)
 ·
  have cls:∀b x,E''.H b=some x→(∃i y,E'.H i=some y∧E''.ρ b=E'.ρ i∧back i=b)∨(b∉acc∧E.H b=some x∧E''.ρ b=E.ρ b):=by
   intro b x hx;by_cases hbn:nm≤b∧b<nm+fresh.length
   ·obtain⟨y,h1,h2,rfl⟩:=hnew b hbn x hx;exact .inl ⟨_,y,h1,by simp[E'',hbn],by rw[hback2 _ (by omega)];omega⟩
   ·by_cases hba:b∈acc
    ·obtain⟨y,h1,rfl,h3,_⟩:=hacc b hba x hx;exact .inl ⟨_,y,h1,by simp[E'',hbn,h3],hback1 _ _ (QdV hn hba)⟩
    ·exact .inr ⟨hba,hoth b hbn hba x hx,by simp[E'',hbn]⟩
  rcases cls b x hx with⟨i,y,h1,h2,h3⟩|⟨h1,h2,h3⟩<;>rcases cls b' x' hx' with⟨i',y',h1',h2',h3'⟩|⟨h1',h2',h3'⟩
  ·rw[h2] at hr;rw[h2'] at hr';have:=hb.ok.inj i i' y y' g h1 h1' hr hr';subst this;rw[←h3,←h3']
  ·rw[h2] at hr;rw[h3'] at hr';have hlt:=(QaR hH h2' hr').1;rcases hownr i y g h1 hr with h|⟨c,z,hc,hz,hrc⟩
   ·omega
   ·exact absurd (hH.inj c b' z x' g hz h2' hrc hr' ▸ hc) h1'
  ·rw[h3] at hr;rw[h2'] at hr';have hlt:=(QaR hH h2 hr).1;rcases hownr i' y' g h1' hr' with h|⟨c,z,hc,hz,hrc⟩
   ·omega
   ·exact absurd (hH.inj c b z x g hz h2 hrc hr ▸ hc) h1
  ·rw[h3] at hr;rw[h3'] at hr';exact hH.inj b b' x x' g h2 h2' hr hr'
 ·rw[QjM,Qom acc _ _ hn (by simp[hul])];simp only[List.length_map];by_cases hbn:nm≤b∧b<nm+fresh.length
  ·simp[E'',hbn]
  ·simp only[E'',hbn,if_false];by_cases hba:b∈acc
   ·simp only[hba,if_true,List.getElem?_map];cases upd[idx acc b]? with
    |none=>rfl
    |some o=>cases o<;>rfl
   ·simp[hba]
 ·simp[E'']
 ·refine(hold g (Nat.lt_of_lt_of_le hg hF.size) fun b x hba hx hr=>?_).trans (hF.old g hg ho);rcases hF.own b x g hx hr with h|h
  ·omega
  ·exact ho h
 ·have own':∀i y,E'.H i=some y→E'.ρ i=some g→F.w0.heap.size≤g∨F.own0 g:=fun i y hy hry=>by
   rcases hownr i y g hy hry with h|⟨c,z,hc,hz,hrc⟩
   ·exact .inl (Nat.le_trans hF.size h)
   ·exact hF.own c z g hz hrc
  by_cases hbn:nm≤b∧b<nm+fresh.length
  ·obtain⟨y,h1,h2,rfl⟩:=hnew b hbn x hx;exact own' _ y h1 (by simpa[E'',hbn] using hr)
  ·by_cases hba:b∈acc
   ·obtain⟨y,h1,rfl,h3,_⟩:=hacc b hba x hx;exact own' _ y h1 (by rw[h3];simpa[E'',hbn] using hr)
   ·exact hF.own b x g (hoth b hbn hba x hx) (by simpa[E'',hbn] using hr)
 ·rcases hb.fr.S g hg with h|h|h
  ·exact hF.S g h
  ·exact .inr (.inl (Nat.le_trans hF.size h))
  ·obtain⟨c,z,hc,hz,hrc⟩:=hown0 g h;exact .inr (hF.own c z g hz hrc)
 ·exact AVR.rn (E:=E') (E':=E'') rfl (.inl fun _ h=>h) (fun i _=>hat i) hb.val
end
end Go.Fw

