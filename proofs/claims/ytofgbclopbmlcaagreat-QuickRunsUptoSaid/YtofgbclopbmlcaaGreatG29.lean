/- Part 29 of the proof. Conditions: none. -/
import Derived.Test.YtofgbclopbmlcaaGreatG17
import Derived.ChangeArms
import Derived.ChangeOld
import Derived.SizedLaws
import Derived.Test.YtofgbclopbmlcaaGreatG18
namespace Go.Fw
open Go.IntKind (i64)
set_option maxHeartbeats 8000000
open Go.ChangeShapes Go.WideShapes
set_option linter.unusedVariables false
set_option linter.unusedSimpArgs false
def Wf:(u:Ty)→Den u→Prop
 |.int k,x=>(Lit.int k x).wf=true
 |.ints k n,l=>List.length l=n∧∀x∈(l:List Int),(Lit.int k x).wf=true
 |.bool,_=>True
 |.str,s=>ByteArray.size s≤reachBytes
 |.sl t,l=>List.length l*t.by_≤reachBytes∧∀x∈(l:List (Den t)),Wf t x
 |.pair a b,x=>Wf a x.1∧Wf b x.2
theorem Qxk(a:Addr)(x y:Nat):(a.add x).add y=a.add (x+y):=by
 unfold Addr.add;split<;>split<;>simp_all [Nat.add_assoc]
structure BulkLaw{H:Type}(bk:DataW H→Nat)(ba:List (DataW H)→Nat):Prop where
 cons:∀d r,bk d+ba r≤ba (d::r)
 one:∀d,1≤bk d
 sl:∀e s,ba e+1≤bk (.slice e s)
 ag:∀p,ba p≤bk (.agg p)
 st:∀b,b.length+1≤bk (.lit (.string b))
def bd:(u:Ty)→Den u→Nat
 |.int _,_=>1
 |.ints _ n,_=>n
 |.bool,_=>1
 |.str,s=>ByteArray.size s+1
 |.sl t,l=>(List.map (bd t) l).sum+1
 |.pair a b,x=>bd a x.1+bd b x.2
theorem BulkLaw.len{H:Type}{bk:DataW H→Nat}{ba:List (DataW H)→Nat}(B:BulkLaw bk ba):∀l,l.length≤ba l
 | []=>Nat.zero_le _
 |d::r=>by
  have h1:=B.cons d r;have h2:=B.one d;have h3:=B.len r;simp only[List.length_cons];omega
def Qj3(B:Nat→Nat):Nat→Nat
 |0=>0
 |n+1=>Qj3 B n+B n
theorem Qi9(B:Nat→Nat):∀n,Qj3 B (n+1)=B 0+Qj3 (fun i=>B (i+1)) n
 |0=>by simp[Qj3]
 |n+1=>by rw[Qj3,Qi9 B n,Qj3];omega
theorem BulkLaw.sum{H:Type}{bk:DataW H→Nat}{ba:List (DataW H)→Nat}(B:BulkLaw bk ba):∀l:List (DataW H),Qj3 (fun i=>bk (l.getD i .nil)) l.length≤ba l
 | []=>Nat.zero_le _
 |d::r=>by
  have h1:=B.cons d r;have h2:=B.sum r;rw[List.length_cons,Qi9];simp only[List.getD_cons_zero,List.getD_cons_succ];omega
theorem QsX(H:Type):BulkLaw (H:=H) (fun d=>SizeOf.sizeOf d) (fun l=>SizeOf.sizeOf l) where
 cons:=fun d r=>by simp
 one:=fun d=>by cases d<;>simp<;>omega
 sl:=fun e s=>by simp;omega
 ag:=fun p=>by simp
 st:=fun b=>by
  have:∀b:List UInt8,b.length≤SizeOf.sizeOf b:=by
   intro b
   induction b with
   |nil=>simp
   |cons x r ih=>simp;omega
  have:=this b;simp;omega
theorem Qja{α:Type}{R:α→List Value→Prop}{Q:α→Prop}{m:α→Nat}{B:Nat→Nat}{w:World}{a:Addr}{c:Nat}:∀(len:Nat),(∀i,i<len→∃d r,R d r∧(Q d∧m d≤B i)∧r.length=c∧∀j,j<c→w.cell? ((a.add (i*c)).add j)=r[j]?) →
 ∃(l:List α) (us:List Value),l.length=len∧Qu R l us∧(∀x∈l,Q x)∧us.length=len*c∧(∀k u,us[k]?=some u→w.cell? (a.add k)=some u)∧(l.map m).sum≤Qj3 B len
 |0,_=>⟨[],[],rfl,rfl,fun x h=>(by cases h),by simp,fun k u h=>(by simp at h),Nat.le_refl _⟩
 |len+1,h=>by
  obtain⟨l,us,h1,h2,h3,h4,h5,h6⟩:=Qja len fun i hi=>h i (by omega)
  obtain⟨d,r,g1,⟨g2,g5⟩,g3,g4⟩:=h len (by omega);refine⟨l++[d],us++r,by simp[h1],h2.append ⟨r,[],by simp,g1,rfl⟩,fun x hx=>?_,by simp[h4,g3,Nat.add_mul],fun k u hk=>?_,by simp[Qj3];omega⟩
  ·rcases List.mem_append.1 hx with hx|hx
   ·exact h3 x hx
   ·simp at hx;subst hx;exact g2
  ·rw[List.getElem?_append] at hk;split at hk
   ·exact h5 k u hk
   ·have hlt:=(List.getElem?_eq_some_iff.1 hk).1;have:=g4 (k-us.length) (by omega);rw[Qxk] at this;have e:len*c+(k-us.length)=k:=by omega
    rw[e] at this;rw[this,hk]
section
variable {H:Type} {enc:TypeId×Value→H} {P:Program} {w:World} {sp:Nat→Bool} {held:Bool}
def QoQ(w:World)(g:Nat):Prop:=g<w.heap.size
theorem QhK{e:TypeId}{d:DataW H}{n:Nat}(hn:n∈DataW.weights P e d):∀{l:List (DataW H)},d∈l→n∈DataW.weightsAll P e l
 | [],h=>by cases h
 |x::l,h=>by
  simp only[DataW.weightsAll,List.mem_append];rcases List.mem_cons.1 h with rfl|h
  ·exact .inl hn
  ·exact .inr (QhK hn h)
variable {bk:DataW H→Nat} {ba:List (DataW H)→Nat}
theorem QhL(B:BulkLaw bk ba){g:Ty→TypeId→Bool}{n:Nat}(ih:∀{u:Ty} {t:TypeId} {cs:List Value} {x:DataW H×List MemPlace},g u t=true→(∀z∈DataW.weights P t x.1,z≤reachBytes)→DataW.trod enc P w 0 sp held n t cs=some x→∃d:Den u,CR w (QoQ w) u d cs∧Wf u d∧bd u d≤bk x.1) :
 ∀(fs:List Field) (u:Ty) (off:Nat) (cs:List Value) (xs:List (DataW H×List MemPlace)),QeC P g u fs off=true→off+u.size=cs.length→xs.length=fs.length→(∀z∈DataW.weightsEach P (fs.map (·.type)) (xs.map (·.1)),z≤reachBytes) →
   (∀(i:Nat) (f:Field),fs[i]?=some f→DataW.trod enc P w 0 sp held n f.type ((cs.drop f.offset).take (P.cellsOf f.type))=xs[i]?)→∃d:Den u,CR w (QoQ w) u d (cs.drop off)∧Wf u d∧bd u d≤ba (xs.map (·.1))
 | [],u,off,cs,xs,h,_,_,_,_=>by simp[QeC] at h
 | [f],u,off,cs,xs,h,hl,hxl,hz,hx=>by
   simp only[QeC,Bool.and_eq_true] at h;obtain⟨⟨h1,h2⟩,h3⟩:=h;have h2:=Nat.eq_of_beq_eq_true h2;have h3:=Nat.eq_of_beq_eq_true h3;have:=hx 0 f rfl;have hlt:0<xs.length:=by rw[hxl];simp
   rw[List.getElem?_eq_getElem hlt,h2,h3,List.take_of_length_le (by simp;omega)] at this
   obtain⟨d0,c0,w0,b0⟩:=ih h1 (fun z hz'=>hz z (by
    cases xs with
    |nil=>simp at hlt
    |cons y ys=>simp only[List.map_cons,DataW.weightsEach,List.mem_append];exact .inl hz')) this
   refine⟨d0,c0,w0,?_⟩;cases xs with
   |nil=>simp at hlt
   |cons y ys =>
    have:=B.cons y.1 (ys.map (·.1));simp only[List.map_cons];simp only[List.getElem_cons_zero] at b0;omega
 |f::f'::fs,u,off,cs,xs,h,hl,hxl,hz,hx=>by
  unfold QeC at h;split at h
  ·rename_i a b;simp only[Bool.and_eq_true] at h;obtain⟨⟨⟨h1,h2⟩,h3⟩,h4⟩:=h;have h2:=Nat.eq_of_beq_eq_true h2;have h3:=Nat.eq_of_beq_eq_true h3;have h0:=hx 0 f rfl;have hlt:0<xs.length:=by rw[hxl];simp
   rw[List.getElem?_eq_getElem hlt,h2,h3] at h0
   have hz1:∀z∈DataW.weights P f.type xs[0].1,z≤reachBytes:=fun z hz'=>hz z (by
    cases xs with
    |nil=>simp at hlt
    |cons y ys=>simp only[List.map_cons,DataW.weightsEach,List.mem_append];exact .inl hz')
   have hz2:∀z∈DataW.weightsEach P ((f'::fs).map (·.type)) (xs.tail.map (·.1)),z≤reachBytes:=fun z hz'=>hz z (by
    cases xs with
    |nil=>simp at hlt
    |cons y ys=>rw[show((f::f'::fs).map (·.type))=f.type::(f'::fs).map (·.type) from rfl,show((y::ys).map (·.1))=y.1::ys.map (·.1) from rfl,DataW.weightsEach,List.mem_append];exact .inr hz')
   obtain⟨d1,c1,w1,b1⟩:=ih h1 hz1 h0
   obtain⟨d2,c2,w2,b2⟩:=QhL B ih (f'::fs) b (off+a.size) cs xs.tail h4 (by simp only[Ty.size] at hl;omega) (by simp[hxl]) hz2 fun i g hg=>by
    have:=hx (i+1) g (by simpa using hg);rw[this];cases xs with
    |nil=>simp at hlt
    |cons y ys=>simp
   refine⟨(d1,d2),⟨_,_,by rw[←List.drop_drop,List.take_append_drop],c1,c2⟩,⟨w1,w2⟩,?_⟩;cases xs with
   |nil=>simp at hlt
   |cons y ys =>
    have:=B.cons y.1 (ys.map (·.1));simp only[List.map_cons,bd];simp only[List.getElem_cons_zero] at b1;simp only[List.tail_cons] at b2;omega
  ·cases h
theorem QqP{t e:TypeId}{m fuel:Nat}{cs:List Value}{x:DataW H×List MemPlace}(ht:P.underlying t=some (.array m e))(h:DataW.trod enc P w 0 sp held fuel t cs=some x) :
 ∃(xs:List (DataW H×List MemPlace)) (n:Nat),x.1=.agg (xs.map (·.1))∧cs.length=P.cellsOf t∧xs.length=m∧∀i,i<m→DataW.trod enc P w 0 sp held n e ((cs.drop (i*P.cellsOf e)).take (P.cellsOf e))=xs[i]?:=by
 cases fuel with
 |zero=>simp[DataW.trod] at h
 |succ n =>
  unfold DataW.trod at h;rw[ht] at h;split at h<;>simp_all;obtain⟨hl,xs,hp,hd⟩:=h;exact⟨xs,by rw[←hd],by simpa using mapM_some_length hp,n,fun i hi=>mapM_some_get hp i i (by simp[hi])⟩
theorem QsY{k:IntKind}:∀(cs:List Value),(∀i,i<cs.length→∃n:Int,cs[i]?=some (.int k n)∧(Lit.int k n).wf=true)→∃l:List Int,cs=l.map (.int k)∧∀x∈l,(Lit.int k x).wf=true
 | [],_=>⟨[],rfl,fun x h=>(by cases h)⟩
 |v::cs,h=>by
  obtain⟨n,h1,h2⟩:=h 0 (by simp);simp at h1;subst h1;obtain⟨l,rfl,h3⟩:=QsY cs fun i hi=>by simpa using h (i+1) (by simpa using hi)
  refine⟨n::l,rfl,fun x hx=>?_⟩;rcases List.mem_cons.1 hx with rfl|hx
  ·exact h2
  ·exact h3 x hx
theorem Qne(B:BulkLaw bk ba):∀(m:Nat) {u:Ty} {t:TypeId} {fuel:Nat} {cs:List Value} {x:DataW H×List MemPlace},Qbe P m u t=true→(∀z∈DataW.weights P t x.1,z≤reachBytes)→DataW.trod enc P w 0 sp held fuel t cs=some x→∃d:Den u,CR w (QoQ w) u d cs∧Wf u d∧bd u d≤bk x.1
 |0,_,_,_,_,_,h,_,_=>by cases h
 |m+1,u,t,fuel,cs,x,h,hz,hx=>by
  unfold Qbe at h;split at h
  ·rename_i hu;obtain⟨b,rfl,_⟩:=DataW.trod_bool hu hx;exact⟨b,rfl,trivial,B.one _⟩
  ·rename_i k k' hu;simp only[decide_eq_true_eq] at h;subst h;obtain⟨n,rfl,_,hw⟩:=DataW.trod_int hu hx;exact⟨n,rfl,hw,B.one _⟩
  ·rename_i hu;obtain⟨s,rfl,rfl,hs⟩:=DataW.trod_string hu hx;exact⟨s,rfl,by show ByteArray.size s≤reachBytes;simpa using hz s.data.toList.length (by simp[DataW.weights]),by have:=B.st s.data.toList;rw[Array.length_toList] at this;exact this⟩
  ·rename_i e v hu;simp only[Bool.and_eq_true] at h;obtain⟨⟨⟨h1,h2⟩,h3⟩,h4⟩:=h;have h2:=Nat.eq_of_beq_eq_true h2;have h3:1≤v.size:=by simpa using h3
   have h4:v.by_≤P.bytesOf e:=by simpa using h4
   rcases DataW.trod_slice hu hx with⟨rfl,_⟩|⟨a,len,cap,elems,rest,n,rfl,rfl,rfl,hb,hl,hm,hlen,hel,_,_⟩
   ·exact⟨[],⟨_,rfl,none,0,rfl,Nat.le_refl _,fun hne=>absurd rfl hne⟩,⟨by simp[Nat.zero_le],fun x hx=>(by cases hx)⟩,B.one _⟩
   ·have hw0:∀d∈elems.map (·.1),∀z∈DataW.weights P e d,z≤reachBytes:=fun d hd z hz'=>hz z (by
     simp only[DataW.weights,hu,List.mem_cons,List.mem_append]
     exact .inr (.inl (QhK hz' hd)))
    have each:∀i,i<len→∃(d:Den v) (r:List Value),CR w (QoQ w) v d r∧(Wf v d∧bd v d≤bk ((elems.map (·.1)).getD i .nil))∧r.length=v.size∧∀j,j<v.size→w.cell? ((a.add (i*v.size)).add j)=r[j]?:=by
     intro i hi;have:=hel i hi;rw[List.getElem?_eq_getElem (by omega),h2] at this;obtain⟨r,hr,ht⟩:=Option.bind_eq_some_iff.1 this;obtain⟨_,hrl,hrc⟩:=World.cells?_some hr;obtain⟨d,c1,w1,b1⟩:=Qne B m h1 (hw0 _ (List.mem_map_of_mem (List.getElem_mem (by omega)))) ht;exact⟨d,r,c1,⟨w1,by rw[List.getD_eq_getElem?_getD,List.getElem?_map,List.getElem?_eq_getElem (by omega)];exact b1⟩,hrl,hrc⟩
    obtain⟨l,us,e1,e2,e3,e4,e5,e6⟩:=Qja (B:=fun i=>bk ((elems.map (·.1)).getD i .nil)) len each;refine⟨l,⟨_,rfl,some a,cap,by rw[e1],by omega,fun hne=>⟨a,us,rfl,?_,e2,e5⟩⟩,⟨?_,e3⟩,?_⟩
    rotate_left
    ·have:=hz ((elems.length+rest.length)*P.bytesOf e) (by simp[DataW.weights,hu]);have k1:l.length*v.by_≤(elems.length+rest.length)*P.bytesOf e:=Nat.mul_le_mul (by omega) h4;exact Nat.le_trans k1 this
    ·have k1:=B.sum (elems.map (·.1));rw[List.length_map,show elems.length=len by omega] at k1;have k2:=B.sl (elems.map (·.1)) (rest.map (·.1));simp only[bd];exact Nat.le_trans (Nat.succ_le_succ (Nat.le_trans e6 k1)) k2
    have hlen0:0<len:=by
     rw[←e1];exact List.length_pos_iff.2 hne
    have:=hel 0 hlen0;rw[List.getElem?_eq_getElem (by omega),h2] at this;obtain⟨r,hr,_⟩:=Option.bind_eq_some_iff.1 this;have hb:=World.cells?_block hr (by omega);have hbl:(a.add (0*v.size)).block=a.block:=by unfold Addr.add;split<;>rfl
    rw[hbl] at hb;exact hb
  ·rename_i u F hu;rw[Bool.and_eq_true] at h;obtain⟨xs,n,rfl,rfl,hl,hxl,hf⟩:=DataW.trod_struct hu hx;have hz':∀z∈DataW.weightsEach P (F.toList.map (·.type)) (xs.map (·.1)),z≤reachBytes:=fun z h=>hz z (by simp only[DataW.weights,hu];exact h)
   have h2:=Nat.eq_of_beq_eq_true h.2;have:=QhL B (g:=Qbe P m) (fun h1 h2 h3=>Qne B m h1 h2 h3) F.toList _ 0 cs xs h.1 (by omega) (by simpa using hxl) hz' fun i f hi=>hf i f (by rw[←Array.getElem?_toList];exact hi)
   obtain⟨d,c1,w1,b1⟩:=this;exact⟨d,by simpa using c1,w1,Nat.le_trans b1 (B.ag _)⟩
  ·rename_i hu;split at h
   ·rename_i k' he;simp only[Bool.and_eq_true,decide_eq_true_eq] at h;obtain⟨⟨⟨rfl,h2⟩,h3⟩,h4⟩:=h;have h2:=Nat.eq_of_beq_eq_true h2;have h3:=Nat.eq_of_beq_eq_true h3;have h4:=Nat.eq_of_beq_eq_true h4;obtain⟨xs,n,hx1,hl,hxl,hf⟩:=QqP hu hx
    obtain⟨l,rfl,hw⟩:=QsY cs fun i hi=>by
     have:=hf i (by omega);rw[h3,List.getElem?_eq_getElem (by omega)] at this;obtain⟨z,hz,_,hwz⟩:=DataW.trod_int he this;refine⟨z,?_,hwz⟩;have:=congrArg (·[0]?) hz;simpa[List.getElem?_take] using this
    exact⟨l,⟨by simp at hl;omega,rfl⟩,⟨by simp at hl;omega,hw⟩,by rw[hx1];have k:=B.len (xs.map (·.1));rw[List.length_map] at k;simp only[bd];have k2:=B.ag (xs.map (·.1));omega⟩
   ·cases h
  ·cases h
end
end Go.Fw

namespace Go.Proofs.YtofgbclopbmlcaaGreat
open Go.IntKind (i64)
set_option maxHeartbeats 8000000
open Go.Fw
set_option linter.unusedVariables false
set_option linter.unusedSimpArgs false
abbrev bA(m:List Int)(i:Nat):Int:=m.getD i 0
def u8s(m:List Int):Prop:=∀x∈m,0≤x∧x<256
instance (m:List Int):Decidable (u8s m):=by unfold u8s;exact inferInstance
theorem Qdu{m:List Int}(h:u8s m)(i:Nat):0≤bA m i∧bA m i<256:=by
 unfold bA;rw[List.getD_eq_getElem?_getD];cases hi:m[i]? with
 |none=>exact⟨by decide,by decide⟩
 |some x=>exact h x (List.mem_of_getElem? hi)
theorem QsZ{l:List Int}(h:∀x∈l,Wf (.int .u8) x):u8s l:=by
 intro x hx;have h2:(decide (IntKind.u8.min≤x)&&decide (x≤IntKind.u8.max))=true:=h x hx;have e1:IntKind.u8.min=0:=by decide +kernel
 have e2:IntKind.u8.max=255:=by decide +kernel
 rw[e1,e2] at h2;simp only[Bool.and_eq_true,decide_eq_true_eq] at h2;exact⟨h2.1,by omega⟩
def Qnf(pos:Int):Bool:=decide (pos%64<48)&&decide (pos/64<32)
def Qfz(m:List Int)(pos:Int):Int:=bA m (8+pos/64/8*6+pos%64/8).toNat%16
def Q2(m:List Int)(pos:Int):Bool :=
 (decide (bA m 1≤pos%64)&&decide (pos%64<bA m 1+8))&&((decide (bA m 2≤pos/64)&&decide (pos/64<bA m 2+8))&&decide (bA m 4/2 ^ (7-(pos%64-bA m 1)).toNat%2=1))
def Qbz(m:List Int)(pos:Int)(i:Nat):Bool :=
 decide (pos%64=bA m 1+i)&&((decide (bA m 2≤pos/64)&&decide (pos/64<bA m 2+8))&&decide (bA m 4/2 ^ (7-i)%2=1))
theorem QqQ{m:List Int}{pos:Int}{i:Nat}(hi:i<8)(h:Qbz m pos i=true):Q2 m pos=true:=by
 unfold Qbz at h;simp only[Bool.and_eq_true,decide_eq_true_eq] at h;obtain⟨h1,h2,h3⟩:=h;unfold Q2;simp only[Bool.and_eq_true,decide_eq_true_eq];refine⟨⟨by omega,by omega⟩,h2,?_⟩;have e:(7-(pos%64-bA m 1)).toNat=7-i:=by omega
 rw[e];exact h3
theorem Qs0{m:List Int}{pos:Int}(h:∀i,i<8→Qbz m pos i=false):Q2 m pos=false:=by
 cases hs:Q2 m pos with
 |false=>rfl
 |true =>
  exfalso;unfold Q2 at hs;simp only[Bool.and_eq_true,decide_eq_true_eq] at hs;obtain⟨⟨h1,h2⟩,h3,h4⟩:=hs;have:=h (pos%64-bA m 1).toNat (by omega)
  have ht:Qbz m pos (pos%64-bA m 1).toNat=true:=by
   unfold Qbz;simp only[Bool.and_eq_true,decide_eq_true_eq];refine⟨by omega,h3,?_⟩;have e:(7-(pos%64-bA m 1)).toNat=7-(pos%64-bA m 1).toNat:=by omega
   rw[←e];exact h4
  rw[ht] at this;cases this
def QY(m:List Int)(pos:Int):Int:=if Qnf pos=true then (if Q2 m pos=true then bA m 3%16 else Qfz m pos) else bA m 0%16
def QgF(m:List Int)(pos:Int):Bool:=Qnf pos&&(Q2 m pos&&decide (Qfz m pos≠0))
theorem Qxl(m:List Int)(pos:Int):0≤Qfz m pos∧Qfz m pos<16:=by unfold Qfz;omega
theorem Qxm:∀x,x<256→∀i,i<8→(shl .u8 ((x:Nat):Int) ((i:Nat):Int)≥128↔x/2 ^ (7-i)%2=1):=by decide +kernel
theorem Qs1:∀x,x<256→∀i,i<8→(land .u8 (shr .u8 ((x:Nat):Int) ((i:Nat):Int)) 1=1↔x/2 ^ i%2=1):=by decide +kernel
theorem QlI{x:Int}(h:0≤x∧x<256){i:Nat}(hi:i<8):shl .u8 x ((i:Nat):Int)≥128↔x/2 ^ (7-i)%2=1:=by
 obtain⟨n,rfl⟩:=Int.eq_ofNat_of_zero_le h.1;rw[Qxm n (by omega) i hi];have e:((n:Int)/2 ^ (7-i)%2)=((n/2 ^ (7-i)%2:Nat):Int):=by simp
 rw[e];omega
theorem QqR{x:Int}(h:0≤x∧x<256){i:Nat}(hi:i<8):land .u8 (shr .u8 x ((i:Nat):Int)) 1=1↔x/2 ^ i%2=1:=by
 obtain⟨n,rfl⟩:=Int.eq_ofNat_of_zero_le h.1;rw[Qs1 n (by omega) i hi];have e:((n:Int)/2 ^ i%2)=((n/2 ^ i%2:Nat):Int):=by simp
 rw[e];omega
theorem QEv:∀n,n<256→land .i64 ((n:Nat):Int) 15=((n:Nat):Int)%16:=by decide +kernel
theorem Qng{x:Int}(h:0≤x∧x<256):land .i64 (i64.wrap x) 15=x%16:=by
 rw[w64 (by omega) (by omega)];obtain⟨n,rfl⟩:=Int.eq_ofNat_of_zero_le h.1;exact QEv n (by omega)
def vP(N:List Int):Int:=if N.length=0 then 2559 else N.getD 0 0%2560
abbrev vH(N:List Int):Int:=N.getD 1 0%2
def vN(N:List Int):List Int:=[vP N,vH N]
def vM(M:List Int):List Int:=over (List.replicate 32 0) M 0
theorem Qc4(N:List Int):0≤vP N∧vP N<2560:=by unfold vP;split<;>omega
theorem QaN(M:List Int):(vM M).length=32:=by unfold vM;rw[Qcl];rfl
theorem Qd1{M:List Int}(h:u8s M):u8s (vM M):=by
 intro x hx
 have:∀(l:List Int) (i:Nat),(∀y∈l,0≤y∧y<256)→∀y∈over l M i,0≤y∧y<256:=by
  intro l
  induction l with
  |nil=>intro i _ y hy;cases hy
  |cons d l ih =>
   intro i hl y hy;rcases List.mem_cons.1 hy with rfl|hy
   ·rw[List.getD_eq_getElem?_getD];cases hi:M[i]? with
    |none=>exact hl d (List.mem_cons_self)
    |some z=>exact h z (List.mem_of_getElem? hi)
   ·exact ih (i+1) (fun y hy=>hl y (List.mem_cons_of_mem _ hy)) y hy
 exact this _ 0 (fun y hy=>by rw[List.eq_of_mem_replicate hy];decide) x hx
theorem QBQ{m:List Int}(h:m.length=32):vM m=m:=by
 unfold vM;rw[QeV];simp only[List.length_replicate,List.drop_replicate,h,Nat.sub_self,List.replicate_zero,List.append_nil,List.drop_zero];exact List.take_of_length_le (by omega)
theorem cell_at{pos:Int}(hp0:0≤pos)(hp1:pos<2560):i64.wrap (i64.wrap (8+i64.wrap (i64.wrap (Int.tdiv (i64.wrap (Int.tdiv pos 64)) 8)*6))+i64.wrap (Int.tdiv (Int.tmod pos 64) 8))=8+pos/64/8*6+pos%64/8:=by
 have eq64:i64.wrap (Int.tdiv pos 64)=pos/64:=by rw[Int.tdiv_eq_ediv_of_nonneg hp0,w64 (by omega) (by omega)]
 have er64:Int.tmod pos 64=pos%64:=Int.tmod_eq_emod_of_nonneg hp0
 rw[eq64,er64,Int.tdiv_eq_ediv_of_nonneg (show 0≤pos/64 by omega),Int.tdiv_eq_ediv_of_nonneg (show 0≤pos%64 by omega),w64 (x:=pos/64/8) (by omega) (by omega),w64 (x:=pos/64/8*6) (by omega) (by omega),
  w64 (x:=8+pos/64/8*6) (by omega) (by omega),w64 (x:=pos%64/8) (by omega) (by omega),w64 (by omega) (by omega)]
def QaS(m:List Int):List Int→List Int
 | [p,h]=>[(p+1)%2560,if QgF m ((p+1)%2560)=true then 1 else h]
 |l=>l
theorem QBR{p h:Int}(hp:0≤p∧p<2560)(hh:0≤h∧h<2):vN [p,h]=[p,h]:=by
 show[p%2560,h%2]=_;rw[Int.emod_eq_of_lt hp.1 hp.2,Int.emod_eq_of_lt hh.1 hh.2]
def QqS(m:List Int)(p:Int)(n:Nat):Bool:=(List.range n).any fun j=>QgF m ((p+1+j)%2560)
theorem Qs2(m:List Int)(p:Int)(n:Nat):QqS m p (n+1)=(QqS m p n||QgF m ((p+1+n)%2560)):=by
 unfold QqS;rw[List.range_succ,List.any_append];simp
theorem Qxn(m:List Int){p h:Int}(hp:0≤p∧p<2560):∀n,Qq (QaS m) n [p,h]=[(p+n)%2560,if QqS m p n=true then 1 else h]
 |0=>by
  rw[Qq];have e:(p+((0:Nat):Int))%2560=p:=by omega
  rw[e];rfl
 |n+1=>by
  rw[QR,Qxn m hp n,QaS,Qs2];have e:((p+(n:Int))%2560+1)%2560=(p+((n+1:Nat):Int))%2560:=by omega
  have e2:(p+1+(n:Int))%2560=(p+((n+1:Nat):Int))%2560:=by omega
  rw[e,e2];cases QgF m ((p+((n+1:Nat):Int))%2560)<;>cases QqS m p n<;>rfl
theorem Qs3{m:List Int}{p:Int}{a b:Nat}(h:a≤b)(ha:QqS m p a=true):QqS m p b=true:=by
 unfold QqS at *;rw[List.any_eq_true] at *;obtain⟨j,hj,hh⟩:=ha;exact⟨j,List.mem_range.2 (by have:=List.mem_range.1 hj;omega),hh⟩
theorem QoR{m:List Int}{p:Int}{a:Nat}(h:2560≤a):QqS m p a=QqS m p 2560:=by
 cases h2:QqS m p 2560 with
 |true=>exact Qs3 h h2
 |false =>
  cases ha:QqS m p a with
  |false=>rfl
  |true =>
   exfalso;unfold QqS at ha h2;rw[List.any_eq_true] at ha;obtain⟨j,hj,hh⟩:=ha;rw[List.any_eq_false] at h2;refine h2 (j%2560) (List.mem_range.2 (by omega)) ?_;have e:(p+1+((j%2560:Nat):Int))%2560=(p+1+(j:Int))%2560:=by omega
   rw[e];exact hh
theorem Qs4(m:List Int){p h:Int}(hp:0≤p∧p<2560){n:Nat}(hn:5120<n):Qq (QaS m) n [p,h]=Qq (QaS m) (2560+n%2560) [p,h]:=by
 rw[Qxn m hp,Qxn m hp,QoR (by omega),QoR (a:=2560+n%2560) (by omega)];have e:(p+(n:Int))%2560=(p+((2560+n%2560:Nat):Int))%2560:=by omega
 rw[e]
abbrev DS:=List Int×List Int
def Qa6{α:Type}(f:α→α):Nat→α→α
 |0,l=>l
 |n+1,l=>Qa6 f n (f l)
theorem QhM{α:Type}(f:α→α):∀(m n:Nat) (l:α),Qa6 f (m+n) l=Qa6 f n (Qa6 f m l)
 |0,n,l=>by rw[Nat.zero_add];rfl
 |m+1,n,l=>by
  have e:m+1+n=(m+n)+1:=by omega
  rw[e];exact QhM f m n (f l)
theorem Qgh{α:Type}(f:α→α)(n:Nat)(l:α):Qa6 f (n+1) l=f (Qa6 f n l):=by
 rw[QhM f n 1];rfl
theorem QlJ{α:Type}{f:α→α}{l:α}(h:f l=l):∀n,Qa6 f n l=l
 |0=>rfl
 |n+1=>by rw[Qa6,h];exact QlJ h n
def atI(k t s i:Int):Int:=256*k-256+64*t+16*s+i
def toI(c t:Int):Int:=if c=1 then (if t+1<4 then t+1 else t) else (if 0≤t-1 then t-1 else t)
def QgN:DS→DS
 |([k,t,c,s,i,l,d,r,o,x],m) =>
  if c<3 then ([k,toI c t,0,s,i,0,d,r,o,x],m)
  else if i+1=16 then ([k,t,0,s,0,0,if c=3 then m.getD (atI k t s i).toNat 0 else d,if c=4 then 0 else 1,if r=1 then 1 else o,x],if c=3 then m else m.set (atI k t s i).toNat d)
  else ([k,t,c,s,i+1,20,if c=3 then m.getD (atI k t s i).toNat 0 else d,1,if r=1 then 1 else o,x],if c=3 then m else m.set (atI k t s i).toNat d)
 |s=>s
def Qat:DS→DS
 |([k,t,c,s,i,l,d,r,o,x],m) =>
  if c>0 then
   (if c>2∧k=0 then ([k,t,0,s,i,l,d,r,o,x],m)
    else if l>1 then ([k,t,c,s,i,l-1,d,r,o,x],m)
    else QgN ([k,t,c,s,i,l,d,r,o,x],m))
  else ([k,t,c,s,i,l,d,r,o,x],m)
 |s=>s
inductive dOk(q:Nat):List Int→Prop
 |mk {k t c s i l d r o x:Int} (hk:0≤k∧k≤q∧k<256) (ht:0≤t∧t<4) (hc:0≤c∧c≤4) (hs:0≤s∧s<4) (hi:0≤i∧i<16) (hl:0≤l∧l<64) (hd:0≤d∧d<256) (hr:0≤r∧r<2) (ho:0≤o∧o<2) (hx:0≤x∧x<2):dOk q [k,t,c,s,i,l,d,r,o,x]
theorem dOk.len{q:Nat}{l:List Int}(h:dOk q l):l.length=10:=by cases h;rfl
theorem Qs5(N:List Int)(q:Nat):dOk q (dN N q):=by
 refine⟨?_,by omega,?_,by omega,by omega,by omega,by omega,by omega,by omega,by omega⟩
 ·split<;>omega
 ·split<;>omega
theorem QBS{q:Nat}{l:List Int}(h:dOk q l):dN l q=l:=by
 cases h with
 |mk hk ht hc hs hi hl hd hr ho hx =>
  rename_i k t c s i l d r o x;show[if k%256>q then 0 else k%256,t%4,if c%8>4 then 0 else c%8,s%4,i%16,l%64,d%256,r%2,o%2,x%2]=_
  rw[Int.emod_eq_of_lt hk.1 hk.2.2,Int.emod_eq_of_lt ht.1 ht.2,Int.emod_eq_of_lt (a:=c) (b:=8) hc.1 (by omega),Int.emod_eq_of_lt hs.1 hs.2,Int.emod_eq_of_lt hi.1 hi.2,Int.emod_eq_of_lt hl.1 hl.2,Int.emod_eq_of_lt hd.1 hd.2,
   Int.emod_eq_of_lt hr.1 hr.2,Int.emod_eq_of_lt ho.1 ho.2,Int.emod_eq_of_lt hx.1 hx.2,if_neg (by omega),if_neg (by omega)]
structure DOk(q:Nat)(s:DS):Prop where
 n:dOk q s.1
 m:s.2.length=q*256
 u:u8s s.2
theorem Qnh{m:List Int}(h:u8s m){d:Int}(hd:0≤d∧d<256)(i:Nat):u8s (m.set i d):=by
 intro x hx;rcases List.mem_or_eq_of_mem_set hx with h1|rfl
 ·exact h x h1
 ·exact hd
theorem QEw{c t:Int}(h:0≤t∧t<4):0≤toI c t∧toI c t<4:=by
 unfold toI;split<;>split<;>omega
theorem Qj4{q:Nat}{s:DS}(h:DOk q s):DOk q (QgN s):=by
 obtain⟨n,m⟩:=s;obtain⟨hn,hm,hu⟩:=h;have hm:m.length=q*256:=hm;have hu:u8s m:=hu;cases hn with
 |mk hk ht hc hs hi hl hd hr ho hx =>
  rename_i k t c s i l d r o x;have hb:=Qdu hu (atI k t s i).toNat;have hb:0≤m.getD (atI k t s i).toNat 0∧m.getD (atI k t s i).toNat 0<256:=hb;have hdd:0≤(if c=3 then m.getD (atI k t s i).toNat 0 else d)∧(if c=3 then m.getD (atI k t s i).toNat 0 else d)<256:=by split<;>assumption
  have hoo:0≤(if r=1 then 1 else o)∧(if r=1 then 1 else o)<2:=by split<;>omega
  have hlen:(if c=3 then m else m.set (atI k t s i).toNat d).length=q*256:=by split<;>simp[hm]
  have huu:u8s (if c=3 then m else m.set (atI k t s i).toNat d):=by
   split
   ·exact hu
   ·exact Qnh hu hd _
  rw[QgN];by_cases h1:c<3
  ·rw[if_pos h1];exact⟨⟨hk,QEw ht,by omega,hs,hi,by omega,hd,hr,ho,hx⟩,hm,hu⟩
  ·rw[if_neg h1];by_cases h2:i+1=16
   ·rw[if_pos h2];exact⟨⟨hk,ht,by omega,hs,by omega,by omega,hdd,by split<;>omega,hoo,hx⟩,hlen,huu⟩
   ·rw[if_neg h2];exact⟨⟨hk,ht,hc,hs,by omega,by omega,hdd,by omega,hoo,hx⟩,hlen,huu⟩
theorem QoS{q:Nat}{s:DS}(h:DOk q s):DOk q (Qat s):=by
 obtain⟨n,m⟩:=s;have h0:=h;obtain⟨hn,hm,hu⟩:=h;have hm:m.length=q*256:=hm;have hu:u8s m:=hu;cases hn with
 |mk hk ht hc hs hi hl hd hr ho hx =>
  rename_i k t c s i l d r o x;rw[Qat];by_cases h1:c>0
  ·rw[if_pos h1];by_cases h2:c>2∧k=0
   ·rw[if_pos h2];exact⟨⟨hk,ht,by omega,hs,hi,hl,hd,hr,ho,hx⟩,hm,hu⟩
   ·rw[if_neg h2];by_cases h3:l>1
    ·rw[if_pos h3];exact⟨⟨hk,ht,hc,hs,hi,by omega,hd,hr,ho,hx⟩,hm,hu⟩
    ·rw[if_neg h3];exact Qj4 h0
  ·rw[if_neg h1];exact h0
theorem QgV{q:Nat}{s:DS}(h:DOk q s):∀n,DOk q (Qa6 Qat n s)
 |0=>h
 |n+1=>by rw[Qgh];exact QoS (QgV h n)
theorem QlK{k t c s i l d r o x:Int}{m:List Int}(hc:¬c>0)(n:Nat):Qa6 Qat n ([k,t,c,s,i,l,d,r,o,x],m)=([k,t,c,s,i,l,d,r,o,x],m) :=
 QlJ (by rw[Qat,if_neg hc]) n
theorem Qs6{k t c s i l d r o x:Int}{m:List Int}(hc:c>2)(hk:k=0){n:Nat}(hn:0<n):Qa6 Qat n ([k,t,c,s,i,l,d,r,o,x],m)=([k,t,0,s,i,l,d,r,o,x],m):=by
 obtain⟨n,rfl⟩:∃n',n=n'+1:=⟨n-1,by omega⟩
 rw[Qa6,Qat,if_pos (by omega),if_pos ⟨hc,hk⟩];exact QlK (by decide) n
theorem QfA{k t c s i d r o x:Int}{m:List Int}(hc:c>0)(hk:¬(c>2∧k=0)):∀(n:Nat) (l:Int),(n:Int)<l→Qa6 Qat n ([k,t,c,s,i,l,d,r,o,x],m)=([k,t,c,s,i,l-n,d,r,o,x],m)
 |0,l,_=>by rw[Qa6];simp
 |n+1,l,h=>by
  rw[Qa6,Qat,if_pos hc,if_neg hk,if_pos (by omega),QfA hc hk n (l-1) (by omega)];have:l-1-(n:Int)=l-((n+1:Nat):Int):=by omega
  rw[this]
theorem QqT{k t c s i l l' d r o x:Int}{m:List Int}:QgN ([k,t,c,s,i,l,d,r,o,x],m)=QgN ([k,t,c,s,i,l',d,r,o,x],m):=rfl
theorem QlL{k t c s i l d r o x:Int}{m:List Int}(hc:c>0)(hk:¬(c>2∧k=0))(hl:0≤l){n:Nat}(hn:0<n)(h:¬(n:Int)<l) :
 Qa6 Qat n ([k,t,c,s,i,l,d,r,o,x],m)=Qa6 Qat ((n:Int)-max 1 l).toNat (QgN ([k,t,c,s,i,0,d,r,o,x],m)):=by
 have e:n=(l-1).toNat+(((n:Int)-max 1 l).toNat+1):=by omega
 rw[e,QhM]
 have e2:Qa6 Qat (l-1).toNat ([k,t,c,s,i,l,d,r,o,x],m)=([k,t,c,s,i,l-((l-1).toNat:Nat),d,r,o,x],m):=by
  by_cases h0:l=0
  ·subst h0;show Qa6 Qat 0 _=_;rw[Qa6];simp
  ·exact QfA hc hk _ _ (by omega)
 have e3:(((l-1).toNat+(((n:Int)-max 1 l).toNat+1):Nat):Int)=n:=by omega
 rw[e2,e3,Qa6,Qat,if_pos hc,if_neg hk,if_neg (by omega)];rw[QqT (l':=0)]
def Qni:List Int→Int
 | [k,t,c,s,i,l,d,r,o,x]=>atI k t s i
 |_=>0
def QEx(s:DS):Prop:=0<s.1.getD 2 0∧(2<s.1.getD 2 0→0<s.1.getD 0 0)∧s.1.getD 5 0=0
theorem Qz2{k t s i:Int}{q:Nat}(hk:0<k∧k≤q)(ht:0≤t∧t<4)(hs:0≤s∧s<4)(hi:0≤i∧i<16):0≤atI k t s i∧atI k t s i<((q*256:Nat):Int):=by
 unfold atI;omega
theorem l10{a b c d e f g h i j a' b' c' d' e' f' g' h' i' j':Int}(h1:a=a')(h2:b=b')(h3:c=c')(h4:d=d')(h5:e=e')(h6:f=f')(h7:g=g')(h8:h=h')(h9:i=i')(h10:j=j'):[a,b,c,d,e,f,g,h,i,j]=[a',b',c',d',e',f',g',h',i',j']:=by rw[h1,h2,h3,h4,h5,h6,h7,h8,h9,h10]
theorem QBT{k t s i:Int}(hk:0≤k∧k<256)(ht:0≤t∧t<4)(hs:0≤s∧s<4)(hi:0≤i∧i<16) :
 i64.wrap (i64.wrap (i64.wrap (i64.wrap (i64.wrap (256*k)-256)+i64.wrap (64*t))+i64.wrap (16*s))+i)=atI k t s i:=by
 rw[w64 (x:=256*k) (by omega) (by omega),w64 (x:=256*k-256) (by omega) (by omega),w64 (x:=64*t) (by omega) (by omega),w64 (x:=256*k-256+64*t) (by omega) (by omega),w64 (x:=16*s) (by omega) (by omega),
  w64 (x:=256*k-256+64*t+16*s) (by omega) (by omega),w64 (by omega) (by omega)];rfl
theorem or1{o r:Int}(ho:0≤o∧o<2)(hr:0≤r∧r<2):lor .i64 o r=if r=1 then 1 else o:=by
 have a1:o=0∨o=1:=by omega
 have a2:r=0∨r=1:=by omega
 rcases a1 with rfl|rfl<;>rcases a2 with rfl|rfl<;>decide +kernel
set_option maxRecDepth 100000
theorem Qz3{x:Int}(h:0≤x∧x<256):IntKind.u8.wrap x=x:=by
 show x%256=x;omega
theorem Qnj{l l' m m':List Int}(h:l=l')(h2:m=m'):[some (Blk.arr (.int .i64) l),some (Blk.arr (.int .u8) m)]=[some (Blk.arr (.int .i64) l'),some (Blk.arr (.int .u8) m')]:=by rw[h,h2]
def Qs7:PSpec:=⟨[gl],fun(l,_)=>(some (∃q,dOk q l),I (Qni l),[])⟩
theorem Qs8:G0 257 Qs7.spec:=by
 have hP:S0 _:=(Qb (T:=tree))
 have hT:=tabs hP Qc;refine Qs7.gd hT hP Tryz.func257 fun(l:List Int) hq=>?_
 obtain⟨q,hp⟩:∃q,dOk q l:=hq _ rfl;cases hp with
 |mk hk ht hc hs hi hl hd hr ho hx =>
 rename_i k t c s i l d r o x
 repeat' first|(apply Ea;conv=>whnf)|apply Eb|apply Ec<;>intro _|apply Ed<;>intro _|apply Ee<;>intro _|apply Ef hT hP
 all_goals first
  |exact of_decide_eq_true rfl
  |(refine .k [] [] _ rfl (Qd ?_)
    show i64.wrap (i64.wrap (i64.wrap (i64.wrap (k-1)*256)+i64.wrap (i64.wrap (i64.wrap (t*4)+s)*16))+i)=atI k t s i
    rw[w64 (x:=k-1) (by omega) (by omega),w64 (x:=t*4) (by omega) (by omega),w64 (x:=(k-1)*256) (by omega) (by omega),w64 (x:=t*4+s) (by omega) (by omega),w64 (x:=(t*4+s)*16) (by omega) (by omega),
     w64 (x:=(k-1)*256+(t*4+s)*16) (by omega) (by omega),w64 (by omega) (by omega)]
    unfold atI;omega)
  |skip
def Qxo:List V1→List Blk→Option DS:=fun a b=>(match a,b with| [.c (.own 0),.c (.own 1)],[.arr (.int .i64) l,.arr (.int .u8) m]=>some (l,m)|_,_=>none)
theorem QoT{a:List V1}{b:List Blk}{x:DS}(h:Qxo a b=some x):a=[.c (.own 0),.c (.own 1)]∧b=[.arr (.int .i64) x.1,.arr (.int .u8) x.2]:=by
 unfold Qxo at h;split at h
 ·injection h with h;subst h;exact⟨rfl,rfl⟩
 ·cases h
theorem QEy(k t c s i l d r o x:Int):Qni [k,t,c,s,i,l,d,r,o,x]=atI k t s i:=rfl
theorem Qs9{c t:Int}(ht:0≤t∧t<4)(hc:c=1∨c=2):imax 0 (imin (i64.wrap (i64.wrap (t+3)-i64.wrap (2*c))) 3)=toI c t:=by
 rw[w64 (x:=t+3) (by omega) (by omega),w64 (x:=2*c) (by omega) (by omega),w64 (by omega) (by omega)];unfold toI imax imin
 (repeat' split)<;>omega
def QEz:WSpec:=⟨DS,fun _=>[.c (.own 0),.c (.own 1)],fun s=>[.arr (.int .i64) s.1,.arr (.int .u8) s.2],Qxo,
 fun s=>(some ((∃q,DOk q s)∧QEx s),.tup [],[some (.arr (.int .i64) (QgN s).1),some (.arr (.int .u8) (QgN s).2)],[])⟩
theorem QBU:G0 230 QEz.spec:=by
 have hP:S0 _:=Qa Qs8 (Qb (T:=tree));have hT:=tabs hP Qc;refine QEz.gd hT hP Tryz.func230 (fun _ _ _ h=>QoT h) fun((l,m):DS) hq=>?_
 obtain⟨⟨q,hn,hm,hu⟩,hc1,hc2,hc3⟩:(∃q,DOk q (l,m))∧QEx (l,m):=hq _ rfl;have hm:m.length=q*256:=hm;have hu:u8s m:=hu;have hn:dOk q l:=hn;cases hn with
 |mk hk ht hc hs hi hl hd hr ho hx =>
 rename_i k t c s i l d r o x;have hc1:0<c:=hc1;have hc2:2<c→0<k:=hc2;have hc3:l=0:=hc3;subst hc3;have hb:=Qdu hu (atI k t s i).toNat;have hb:0≤m.getD (atI k t s i).toNat 0∧m.getD (atI k t s i).toNat 0<256:=hb;have hor:=or1 ho hr;have hoo:0≤lor .i64 o r∧lor .i64 o r<2:=by rw[hor];split<;>omega
 have hn1:dOk q [k,t,c,s,i,0,d,r,lor .i64 o r,x]:=⟨hk,ht,hc,hs,hi,by omega,hd,hr,hoo,hx⟩
 have hat:0<k→0≤atI k t s i∧atI k t s i<(m.length:Int):=fun h=>by rw[hm];exact Qz2 ⟨h,hk.2.1⟩ ht hs hi
 have ewi:i64.wrap (i+1)=i+1:=w64 (by omega) (by omega);have ewd:=Qz3 hd;have ewb:i64.wrap (m.getD (atI k t s i).toNat 0)=m.getD (atI k t s i).toNat 0:=w64 (by omega) (by omega);have ep:Qni [k,t,c,s,i,0,d,r,lor .i64 o r,x]=atI k t s i:=rfl
 repeat' first|(apply Ea;conv=>whnf)|apply Eb|apply Ec<;>intro _|apply Ed<;>intro _|apply Ee<;>intro _|apply Ef hT hP
 all_goals first
  |exact of_decide_eq_true rfl
  |exact⟨q,hn1⟩
  |skip
 all_goals(try refine .mk [] [0,1] _ R R R R R (Qnj ?_ ?_) rfl)
 all_goals clear hT hP hq
 all_goals(simp only[Qf] at *)
 all_goals(simp only[Int.reduceToNat,List.set_cons_succ,List.set_cons_zero,List.getD_cons_succ,List.getD_cons_zero,QEy] at *)
 all_goals(try simp only[QEy,hor,ewi,ewd] at *)
 all_goals(try exact hat (hc2 (by omega)))
 all_goals(try(have:=hat (hc2 (by omega));omega))
 all_goals(try rw[Qs9 ht (by omega)])
 all_goals(try simp_all [QgN])
 all_goals(rw[if_neg (show¬c<3 by omega)])
def Qz4:WSpec:=⟨DS,fun _=>[.c (.own 0),.c (.own 1)],fun s=>[.arr (.int .i64) s.1,.arr (.int .u8) s.2],Qxo,
 fun s=>(some ((∃q,DOk q s)∧0<s.1.getD 2 0),.tup [],[some (.arr (.int .i64) (Qat s).1),some (.arr (.int .u8) (Qat s).2)],[])⟩
theorem QBV{c t:Int}(ht:0≤t∧t<4)(hc:c=1∨c=2):i64.wrap (t+[1,-1].getD (c-1).toNat (dflt (.int .i64)))=if c=1 then t+1 else t-1:=by
 rcases hc with rfl|rfl
 ·show i64.wrap (t+1)=_;rw[w64 (by omega) (by omega)];rfl
 ·show i64.wrap (t+-1)=_;rw[w64 (by omega) (by omega)];rfl
theorem Qxp:G0 148 Qz4.spec:=by
 have hP:S0 _:=(Qb (T:=tree))
 have hT:=tabs hP Qc;refine Qz4.gd hT hP Tryz.func148 (fun _ _ _ h=>QoT h) fun((l,m):DS) hq=>?_
 obtain⟨⟨q,hn,hm,hu⟩,hc1⟩:(∃q,DOk q (l,m))∧0<l.getD 2 0:=hq _ rfl;have hm:m.length=q*256:=hm;have hu:u8s m:=hu;have hn:dOk q l:=hn;cases hn with
 |mk hk ht hc hs hi hl hd hr ho hx =>
 rename_i k t c s i l d r o x;have hc1:0<c:=hc1;have hb:=Qdu hu (atI k t s i).toNat;have hb:0≤m.getD (atI k t s i).toNat 0∧m.getD (atI k t s i).toNat 0<256:=hb;have hat:0<k→0≤atI k t s i∧atI k t s i<(m.length:Int):=fun h=>by rw[hm];exact Qz2 ⟨h,hk.2.1⟩ ht hs hi
 have ewi:i64.wrap (i+1)=i+1:=w64 (by omega) (by omega);have ewb:i64.wrap (m.getD (atI k t s i).toNat 0)=m.getD (atI k t s i).toNat 0:=w64 (by omega) (by omega);have ewd:=Qz3 hd;have hA:=QBT ⟨hk.1,hk.2.2⟩ ht hs hi;have ewl:l>1→i64.wrap (l-1)=l-1:=fun h=>w64 (by omega) (by omega)
 have ewc:i64.wrap (c-1)=c-1:=w64 (by omega) (by omega);have etr:c<3→i64.wrap (t+[1,-1].getD (c-1).toNat (dflt (.int .i64)))=if c=1 then t+1 else t-1:=fun h=>QBV ht (by omega)
 repeat' first|(apply Ea;conv=>whnf)|apply Eb|apply Ec<;>intro _|apply Ed<;>intro _|apply Ee<;>intro _|apply Ef hT hP
 all_goals first
  |exact of_decide_eq_true rfl
  |skip
 all_goals(try refine .mk [] [0,1] _ R R R R R (Qnj ?_ ?_) rfl)
 all_goals clear hT hP hq
 all_goals(simp only[Qf] at *)
 all_goals(simp only[Int.reduceToNat,List.set_cons_succ,List.set_cons_zero,List.getD_cons_succ,List.getD_cons_zero] at *)
 all_goals(try simp only[hA,ewi,ewd,ewc] at *)
 all_goals(try(simp only[List.length_cons,List.length_nil];omega))
 all_goals(try exact hat (by omega))
 all_goals(try(have:=hat (by omega);omega))
 all_goals(try(have h3:¬c<3:=by assumption))
 all_goals(try simp_all [-List.getD_eq_getElem?_getD,Qat,QgN])
 all_goals(try unfold toI)
 all_goals(try(by_cases h1:c=1<;>simp only[h1,if_true,if_false] at *))
 all_goals(repeat' split)
 all_goals first
  |rfl
  |(exfalso;omega)
  |exact l10 R R R R R R ewb R R R
  |exact l10 rfl (by omega) R R R R R R R R
  |skip
 all_goals trace_state
end Go.Proofs.YtofgbclopbmlcaaGreat

