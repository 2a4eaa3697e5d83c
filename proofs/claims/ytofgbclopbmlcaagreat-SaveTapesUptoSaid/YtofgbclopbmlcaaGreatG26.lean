/- Part 26 of the proof. Conditions: none. -/
import Derived.Test.YtofgbclopbmlcaaGreatG10
import Derived.ChangeArms
import Derived.ChangeOld
import Derived.SizedLaws
import Derived.Test.YtofgbclopbmlcaaGreatG13
import Derived.Test.YtofgbclopbmlcaaGreatG22
import Derived.Test.YtofgbclopbmlcaaGreatG25
namespace Go.Fw
open Go.IntKind (i64)
set_option maxHeartbeats 8000000
open Go.ChangeShapes Go.WideShapes
set_option linter.unusedVariables false
set_option linter.unusedSimpArgs false
def Wf:(u:Ty)→Den u→Prop
 |.int k,x=>(Lit.int k x).wf=true
 |.ints k n,l=>List.length l=n∧∀x∈(l:List Int),(Lit.int k x).wf=true
 |.bool,_=>True
 |.str,s=>ByteArray.size s≤reachBytes
 |.sl t,l=>List.length l*t.by_≤reachBytes∧∀x∈(l:List (Den t)),Wf t x
 |.pair a b,x=>Wf a x.1∧Wf b x.2
theorem QxJ(a:Addr)(x y:Nat):(a.add x).add y=a.add (x+y):=by
 unfold Addr.add;split<;>split<;>simp_all [Nat.add_assoc]
structure BulkLaw{H:Type}(bk:DataW H→Nat)(ba:List (DataW H)→Nat):Prop where
 cons:∀d r,bk d+ba r≤ba (d::r)
 one:∀d,1≤bk d
 sl:∀e s,ba e+1≤bk (.slice e s)
 ag:∀p,ba p≤bk (.agg p)
 st:∀b,b.length+1≤bk (.lit (.string b))
def bd:(u:Ty)→Den u→Nat
 |.int _,_=>1
 |.ints _ n,_=>n
 |.bool,_=>1
 |.str,s=>ByteArray.size s+1
 |.sl t,l=>(List.map (bd t) l).sum+1
 |.pair a b,x=>bd a x.1+bd b x.2
theorem BulkLaw.len{H:Type}{bk:DataW H→Nat}{ba:List (DataW H)→Nat}(B:BulkLaw bk ba):∀l,l.length≤ba l
 | []=>YR _
 |d::r=>by
  have h1:=B.cons d r;have h2:=B.one d;have h3:=B.len r;simp only[Yx];omega
def Qkk(B:Nat→Nat):Nat→Nat
 |0=>0
 |n+1=>Qkk B n+B n
theorem Qjo(B:Nat→Nat):∀n,Qkk B (n+1)=B 0+Qkk (fun i=>B (i+1)) n
 |0=>by simp[Qkk]
 |n+1=>by rw[Qkk,Qjo B n,Qkk];omega
theorem BulkLaw.sum{H:Type}{bk:DataW H→Nat}{ba:List (DataW H)→Nat}(B:BulkLaw bk ba):∀l:List (DataW H),Qkk (fun i=>bk (l.getD i .nil)) l.length≤ba l
 | []=>YR _
 |d::r=>by
  have h1:=B.cons d r;have h2:=B.sum r;rw[Yx,Qjo];simp only[List.getD_cons_zero,List.getD_cons_succ];omega
theorem Qjp{α:Type}{R:α→List Value→Prop}{Q:α→Prop}{m:α→Nat}{B:Nat→Nat}{w:World}{a:Addr}{c:Nat}:∀(len:Nat),(∀i,i<len→∃d r,R d r∧(Q d∧m d≤B i)∧r.length=c∧∀j,j<c→w.cell? ((a.add (i*c)).add j)=r[j]?) →
 ∃(l:List α) (us:List Value),l.length=len∧Qw R l us∧(∀x∈l,Q x)∧us.length=len*c∧(∀k u,us[k]?=some u→w.cell? (a.add k)=some u)∧(l.map m).sum≤Qkk B len
 |0,_=>⟨[],[],rfl,rfl,fun x h=>(by cases h),by simp,fun k u h=>(by simp at h),YE _⟩
 |len+1,h=>by
  obtain⟨l,us,h1,h2,h3,h4,h5,h6⟩:=Qjp len fun i hi=>h i (by omega)
  obtain⟨d,r,g1,⟨g2,g5⟩,g3,g4⟩:=h len (by omega);refine⟨l++[d],us++r,by simp[h1],h2.append ⟨r,[],by simp,g1,rfl⟩,fun x hx=>?_,by simp[h4,g3,YV],fun k u hk=>?_,by simp[Qkk];omega⟩
  ·rcases YN.1 hx with hx|hx
   ·exact h3 x hx
   ·simp at hx;subst hx;exact g2
  ·rw[List.getElem?_append] at hk;split at hk
   ·exact h5 k u hk
   ·have hlt:=(Yu.1 hk).1;have:=g4 (k-us.length) (by omega);rw[QxJ] at this;have e:len*c+(k-us.length)=k:=by omega
    rw[e] at this;rw[this,hk]
section
variable {H:Type} {enc:TypeId×Value→H} {P:Program} {w:World} {sp:Nat→Bool} {held:Bool}
def Qo4(w:World)(g:Nat):Prop:=g<w.heap.size
theorem QhZ{e:TypeId}{d:DataW H}{n:Nat}(hn:n∈DataW.weights P e d):∀{l:List (DataW H)},d∈l→n∈DataW.weightsAll P e l
 | [],h=>by cases h
 |x::l,h=>by
  simp only[DataW.weightsAll,YN];rcases Yt.1 h with rfl|h
  ·exact .inl hn
  ·exact .inr (QhZ hn h)
variable {bk:DataW H→Nat} {ba:List (DataW H)→Nat}
theorem Qh0(B:BulkLaw bk ba){g:Ty→TypeId→Bool}{n:Nat}(ih:∀{u:Ty} {t:TypeId} {cs:List Value} {x:DataW H×List MemPlace},g u t=true→(∀z∈DataW.weights P t x.1,z≤reachBytes)→DataW.trod enc P w 0 sp held n t cs=some x→∃d:Den u,CR w (Qo4 w) u d cs∧Wf u d∧bd u d≤bk x.1) :
 ∀(fs:List Field) (u:Ty) (off:Nat) (cs:List Value) (xs:List (DataW H×List MemPlace)),QeF P g u fs off=true→off+u.size=cs.length→xs.length=fs.length→(∀z∈DataW.weightsEach P (fs.map (·.type)) (xs.map (·.1)),z≤reachBytes) →
   (∀(i:Nat) (f:Field),fs[i]?=some f→DataW.trod enc P w 0 sp held n f.type ((cs.drop f.offset).take (P.cellsOf f.type))=xs[i]?)→∃d:Den u,CR w (Qo4 w) u d (cs.drop off)∧Wf u d∧bd u d≤ba (xs.map (·.1))
 | [],u,off,cs,xs,h,_,_,_,_=>by simp[QeF] at h
 | [f],u,off,cs,xs,h,hl,hxl,hz,hx=>by
   simp only[QeF,Yj] at h;obtain⟨⟨h1,h2⟩,h3⟩:=h;have h2:=Yg h2;have h3:=Yg h3;have:=hx 0 f rfl;have hlt:0<xs.length:=by rw[hxl];simp
   rw[Ye hlt,h2,h3,Yh (by simp;omega)] at this
   obtain⟨d0,c0,w0,b0⟩:=ih h1 (fun z hz'=>hz z (by
    cases xs with
    |nil=>simp at hlt
    |cons y ys=>simp only[Jb,DataW.weightsEach,YN];exact .inl hz')) this
   refine⟨d0,c0,w0,?_⟩;cases xs with
   |nil=>simp at hlt
   |cons y ys =>
    have:=B.cons y.1 (ys.map (·.1));simp only[Jb];simp only[List.getElem_cons_zero] at b0;omega
 |f::f'::fs,u,off,cs,xs,h,hl,hxl,hz,hx=>by
  unfold QeF at h;split at h
  ·rename_i a b;simp only[Yj] at h;obtain⟨⟨⟨h1,h2⟩,h3⟩,h4⟩:=h;have h2:=Yg h2;have h3:=Yg h3;have h0:=hx 0 f rfl;have hlt:0<xs.length:=by rw[hxl];simp
   rw[Ye hlt,h2,h3] at h0
   have hz1:∀z∈DataW.weights P f.type xs[0].1,z≤reachBytes:=fun z hz'=>hz z (by
    cases xs with
    |nil=>simp at hlt
    |cons y ys=>simp only[Jb,DataW.weightsEach,YN];exact .inl hz')
   have hz2:∀z∈DataW.weightsEach P ((f'::fs).map (·.type)) (xs.tail.map (·.1)),z≤reachBytes:=fun z hz'=>hz z (by
    cases xs with
    |nil=>simp at hlt
    |cons y ys=>rw[show((f::f'::fs).map (·.type))=f.type::(f'::fs).map (·.type) from rfl,show((y::ys).map (·.1))=y.1::ys.map (·.1) from rfl,DataW.weightsEach,YN];exact .inr hz')
   obtain⟨d1,c1,w1,b1⟩:=ih h1 hz1 h0
   obtain⟨d2,c2,w2,b2⟩:=Qh0 B ih (f'::fs) b (off+a.size) cs xs.tail h4 (by simp only[Ty.size] at hl;omega) (by simp[hxl]) hz2 fun i g hg=>by
    have:=hx (i+1) g (by simpa using hg);rw[this];cases xs with
    |nil=>simp at hlt
    |cons y ys=>simp
   refine⟨(d1,d2),⟨_,_,by rw[←List.drop_drop,List.take_append_drop],c1,c2⟩,⟨w1,w2⟩,?_⟩;cases xs with
   |nil=>simp at hlt
   |cons y ys =>
    have:=B.cons y.1 (ys.map (·.1));simp only[Jb,bd];simp only[List.getElem_cons_zero] at b1;simp only[List.tail_cons] at b2;omega
  ·cases h
theorem Qrd{t e:TypeId}{m fuel:Nat}{cs:List Value}{x:DataW H×List MemPlace}(ht:P.underlying t=some (.array m e))(h:DataW.trod enc P w 0 sp held fuel t cs=some x) :
 ∃(xs:List (DataW H×List MemPlace)) (n:Nat),x.1=.agg (xs.map (·.1))∧cs.length=P.cellsOf t∧xs.length=m∧∀i,i<m→DataW.trod enc P w 0 sp held n e ((cs.drop (i*P.cellsOf e)).take (P.cellsOf e))=xs[i]?:=by
 cases fuel with
 |zero=>simp[DataW.trod] at h
 |succ n =>
  unfold DataW.trod at h;rw[ht] at h;split at h<;>simp_all;obtain⟨hl,xs,hp,hd⟩:=h;exact⟨xs,by rw[←hd],by simpa using mapM_some_length hp,n,fun i hi=>mapM_some_get hp i i (by simp[hi])⟩
theorem Qts{k:IntKind}:∀(cs:List Value),(∀i,i<cs.length→∃n:Int,cs[i]?=some (.int k n)∧(Lit.int k n).wf=true)→∃l:List Int,cs=l.map (.int k)∧∀x∈l,(Lit.int k x).wf=true
 | [],_=>⟨[],rfl,fun x h=>(by cases h)⟩
 |v::cs,h=>by
  obtain⟨n,h1,h2⟩:=h 0 (by simp);simp at h1;subst h1;obtain⟨l,rfl,h3⟩:=Qts cs fun i hi=>by simpa using h (i+1) (by simpa using hi)
  refine⟨n::l,rfl,fun x hx=>?_⟩;rcases Yt.1 hx with rfl|hx
  ·exact h2
  ·exact h3 x hx
theorem Qnr(B:BulkLaw bk ba):∀(m:Nat) {u:Ty} {t:TypeId} {fuel:Nat} {cs:List Value} {x:DataW H×List MemPlace},Qbj P m u t=true→(∀z∈DataW.weights P t x.1,z≤reachBytes)→DataW.trod enc P w 0 sp held fuel t cs=some x→∃d:Den u,CR w (Qo4 w) u d cs∧Wf u d∧bd u d≤bk x.1
 |0,_,_,_,_,_,h,_,_=>by cases h
 |m+1,u,t,fuel,cs,x,h,hz,hx=>by
  unfold Qbj at h;split at h
  ·rename_i hu;obtain⟨b,rfl,_⟩:=DataW.trod_bool hu hx;exact⟨b,rfl,trivial,B.one _⟩
  ·rename_i k k' hu;simp only[YB] at h;subst h;obtain⟨n,rfl,_,hw⟩:=DataW.trod_int hu hx;exact⟨n,rfl,hw,B.one _⟩
  ·rename_i hu;obtain⟨s,rfl,rfl,hs⟩:=DataW.trod_string hu hx;exact⟨s,rfl,by show ByteArray.size s≤reachBytes;simpa using hz s.data.toList.length (by simp[DataW.weights]),by have:=B.st s.data.toList;rw[Array.length_toList] at this;exact this⟩
  ·rename_i e v hu;simp only[Yj] at h;obtain⟨⟨⟨h1,h2⟩,h3⟩,h4⟩:=h;have h2:=Yg h2;have h3:1≤v.size:=by simpa using h3
   have h4:v.by_≤P.bytesOf e:=by simpa using h4
   rcases DataW.trod_slice hu hx with⟨rfl,_⟩|⟨a,len,cap,elems,rest,n,rfl,rfl,rfl,hb,hl,hm,hlen,hel,_,_⟩
   ·exact⟨[],⟨_,rfl,none,0,rfl,YE _,fun hne=>YD rfl hne⟩,⟨by simp[YR],fun x hx=>(by cases hx)⟩,B.one _⟩
   ·have hw0:∀d∈elems.map (·.1),∀z∈DataW.weights P e d,z≤reachBytes:=fun d hd z hz'=>hz z (by
     simp only[DataW.weights,hu,Yt,YN]
     exact .inr (.inl (QhZ hz' hd)))
    have each:∀i,i<len→∃(d:Den v) (r:List Value),CR w (Qo4 w) v d r∧(Wf v d∧bd v d≤bk ((elems.map (·.1)).getD i .nil))∧r.length=v.size∧∀j,j<v.size→w.cell? ((a.add (i*v.size)).add j)=r[j]?:=by
     intro i hi;have:=hel i hi;rw[Ye (by omega),h2] at this;obtain⟨r,hr,ht⟩:=Option.bind_eq_some_iff.1 this;obtain⟨_,hrl,hrc⟩:=World.cells?_some hr;obtain⟨d,c1,w1,b1⟩:=Qnr B m h1 (hw0 _ (List.mem_map_of_mem (YW (by omega)))) ht;exact⟨d,r,c1,⟨w1,by rw[Yd,Jc,Ye (by omega)];exact b1⟩,hrl,hrc⟩
    obtain⟨l,us,e1,e2,e3,e4,e5,e6⟩:=Qjp (B:=fun i=>bk ((elems.map (·.1)).getD i .nil)) len each;refine⟨l,⟨_,rfl,some a,cap,by rw[e1],by omega,fun hne=>⟨a,us,rfl,?_,e2,e5⟩⟩,⟨?_,e3⟩,?_⟩
    rotate_left
    ·have:=hz ((elems.length+rest.length)*P.bytesOf e) (by simp[DataW.weights,hu]);have k1:l.length*v.by_≤(elems.length+rest.length)*P.bytesOf e:=Nat.mul_le_mul (by omega) h4;exact YG k1 this
    ·have k1:=B.sum (elems.map (·.1));rw[Jf,show elems.length=len by omega] at k1;have k2:=B.sl (elems.map (·.1)) (rest.map (·.1));simp only[bd];exact YG (Jm (YG e6 k1)) k2
    have hlen0:0<len:=by
     rw[←e1];exact List.length_pos_iff.2 hne
    have:=hel 0 hlen0;rw[Ye (by omega),h2] at this;obtain⟨r,hr,_⟩:=Option.bind_eq_some_iff.1 this;have hb:=World.cells?_block hr (by omega);have hbl:(a.add (0*v.size)).block=a.block:=by unfold Addr.add;split<;>rfl
    rw[hbl] at hb;exact hb
  ·rename_i u F hu;rw[Yj] at h;obtain⟨xs,n,rfl,rfl,hl,hxl,hf⟩:=DataW.trod_struct hu hx;have hz':∀z∈DataW.weightsEach P (F.toList.map (·.type)) (xs.map (·.1)),z≤reachBytes:=fun z h=>hz z (by simp only[DataW.weights,hu];exact h)
   have h2:=Yg h.2;have:=Qh0 B (g:=Qbj P m) (fun h1 h2 h3=>Qnr B m h1 h2 h3) F.toList _ 0 cs xs h.1 (by omega) (by simpa using hxl) hz' fun i f hi=>hf i f (by rw[←YA];exact hi)
   obtain⟨d,c1,w1,b1⟩:=this;exact⟨d,by simpa using c1,w1,YG b1 (B.ag _)⟩
  ·rename_i hu;split at h
   ·rename_i k' he;simp only[Yj,YB] at h;obtain⟨⟨⟨rfl,h2⟩,h3⟩,h4⟩:=h;have h2:=Yg h2;have h3:=Yg h3;have h4:=Yg h4;obtain⟨xs,n,hx1,hl,hxl,hf⟩:=Qrd hu hx
    obtain⟨l,rfl,hw⟩:=Qts cs fun i hi=>by
     have:=hf i (by omega);rw[h3,Ye (by omega)] at this;obtain⟨z,hz,_,hwz⟩:=DataW.trod_int he this;refine⟨z,?_,hwz⟩;have:=Yv (·[0]?) hz;simpa[List.getElem?_take] using this
    exact⟨l,⟨by simp at hl;omega,rfl⟩,⟨by simp at hl;omega,hw⟩,by rw[hx1];have k:=B.len (xs.map (·.1));rw[Jf] at k;simp only[bd];have k2:=B.ag (xs.map (·.1));omega⟩
   ·cases h
  ·cases h
end
end Go.Fw

namespace Go.Proofs.YtofgbclopbmlcaaGreat
open Go.IntKind (i64)
set_option maxHeartbeats 8000000
open Go.Fw
set_option linter.unusedVariables false
set_option linter.unusedSimpArgs false
abbrev bA(m:List Int)(i:Nat):Int:=m.getD i 0
def u8s(m:List Int):Prop:=∀x∈m,0≤x∧x<256
instance (m:List Int):Decidable (u8s m):=by unfold u8s;exact inferInstance
theorem QcU{m:List Int}(h:u8s m)(i:Nat):0≤bA m i∧bA m i<256:=by
 unfold bA;rw[Yd];cases g:m[i]? with
 |none=>exact⟨by decide,by decide⟩
 |some x=>exact h x (List.mem_of_getElem? g)
theorem QAN{l:List Int}(h:∀x∈l,Wf (.int .u8) x):u8s l:=by
 intro x u;have c:(decide (IntKind.u8.min≤x)&&decide (x≤IntKind.u8.max))=true:=h x u;have e1:IntKind.u8.min=0:=by decide +kernel
 have e2:IntKind.u8.max=255:=by decide +kernel
 rw[e1,e2] at c;simp only[Yj,YB] at c;exact⟨c.1,by omega⟩
def Qns(pos:Int):Bool:=decide (pos%64<48)&&decide (pos/64<32)
def QfC(m:List Int)(pos:Int):Int:=bA m (8+pos/64/8*6+pos%64/8).toNat%16
def Q5(m:List Int)(pos:Int):Bool :=
 (decide (bA m 1≤pos%64)&&decide (pos%64<bA m 1+8))&&((decide (bA m 2≤pos/64)&&decide (pos/64<bA m 2+8))&&decide (bA m 4/2 ^ (7-(pos%64-bA m 1)).toNat%2=1))
def QbD(m:List Int)(pos:Int)(i:Nat):Bool :=
 decide (pos%64=bA m 1+i)&&((decide (bA m 2≤pos/64)&&decide (pos/64<bA m 2+8))&&decide (bA m 4/2 ^ (7-i)%2=1))
theorem Qre{m:List Int}{pos:Int}{i:Nat}(g:i<8)(h:QbD m pos i=true):Q5 m pos=true:=by
 unfold QbD at h;simp only[Yj,YB] at h;obtain⟨h1,c,A⟩:=h;unfold Q5;simp only[Yj,YB];refine⟨⟨by omega,by omega⟩,c,?_⟩;have e:(7-(pos%64-bA m 1)).toNat=7-i:=by omega
 rw[e];exact A
theorem Qtt{m:List Int}{pos:Int}(h:∀i,i<8→QbD m pos i=false):Q5 m pos=false:=by
 cases w:Q5 m pos with
 |false=>rfl
 |true =>
  exfalso;unfold Q5 at w;simp only[Yj,YB] at w;obtain⟨⟨h1,c⟩,A,h4⟩:=w;have:=h (pos%64-bA m 1).toNat (by omega)
  have ht:QbD m pos (pos%64-bA m 1).toNat=true:=by
   unfold QbD;simp only[Yj,YB];refine⟨by omega,A,?_⟩;have e:(7-(pos%64-bA m 1)).toNat=7-(pos%64-bA m 1).toNat:=by omega
   rw[←e];exact h4
  rw[ht] at this;cases this
def Qaj(m:List Int)(pos:Int):Int:=if Qns pos=true then (if Q5 m pos=true then bA m 3%16 else QfC m pos) else bA m 0%16
def QgQ(m:List Int)(pos:Int):Bool:=Qns pos&&(Q5 m pos&&decide (QfC m pos≠0))
theorem QxK(m:List Int)(pos:Int):0≤QfC m pos∧QfC m pos<16:=by unfold QfC;omega
theorem QxL:∀x,x<256→∀i,i<8→(shl .u8 ((x:Nat):Int) ((i:Nat):Int)≥128↔x/2 ^ (7-i)%2=1):=by decide +kernel
theorem Qtu:∀x,x<256→∀i,i<8→(land .u8 (shr .u8 ((x:Nat):Int) ((i:Nat):Int)) 1=1↔x/2 ^ i%2=1):=by decide +kernel
theorem QlU{x:Int}(h:0≤x∧x<256){i:Nat}(g:i<8):shl .u8 x ((i:Nat):Int)≥128↔x/2 ^ (7-i)%2=1:=by
 obtain⟨n,rfl⟩:=Yz h.1;rw[QxL n (by omega) i g];have e:((n:Int)/2 ^ (7-i)%2)=((n/2 ^ (7-i)%2:Nat):Int):=by simp
 rw[e];omega
theorem Qrf{x:Int}(h:0≤x∧x<256){i:Nat}(g:i<8):land .u8 (shr .u8 x ((i:Nat):Int)) 1=1↔x/2 ^ i%2=1:=by
 obtain⟨n,rfl⟩:=Yz h.1;rw[Qtu n (by omega) i g];have e:((n:Int)/2 ^ i%2)=((n/2 ^ i%2:Nat):Int):=by simp
 rw[e];omega
theorem QFE:∀n,n<256→land .i64 ((n:Nat):Int) 15=((n:Nat):Int)%16:=by decide +kernel
theorem Qnt{x:Int}(h:0≤x∧x<256):land .i64 (i64.wrap x) 15=x%16:=by
 rw[w64 (by omega) (by omega)];obtain⟨n,rfl⟩:=Yz h.1;exact QFE n (by omega)
def vP(N:List Int):Int:=if N.length=0 then 2559 else N.getD 0 0%2560
abbrev vH(N:List Int):Int:=N.getD 1 0%2
def vN(N:List Int):List Int:=[vP N,vH N]
def vM(M:List Int):List Int:=over (List.replicate 32 0) M 0
theorem QdB(N:List Int):0≤vP N∧vP N<2560:=by unfold vP;split<;>omega
theorem Qa0(M:List Int):(vM M).length=32:=by unfold vM;rw[Qco];rfl
theorem Qe5{M:List Int}(h:u8s M):u8s (vM M):=by
 intro x u
 have:∀(l:List Int) (i:Nat),(∀y∈l,0≤y∧y<256)→∀y∈over l M i,0≤y∧y<256:=by
  intro l
  induction l with
  |nil=>intro i _ y f;cases f
  |cons d l ih =>
   intro i hl y f;rcases Yt.1 f with rfl|f
   ·rw[Yd];cases g:M[i]? with
    |none=>exact hl d (YZ)
    |some z=>exact h z (List.mem_of_getElem? g)
   ·exact ih (i+1) (fun y f=>hl y (YP _ f)) y f
 exact this _ 0 (fun y f=>by rw[List.eq_of_mem_replicate f];decide) x u
theorem QCK{m:List Int}(h:m.length=32):vM m=m:=by
 unfold vM;rw[QeZ];simp only[Jr,List.drop_replicate,h,Jk,List.replicate_zero,Jd,List.drop_zero];exact Yh (by omega)
theorem cell_at{pos:Int}(s:0≤pos)(hp1:pos<2560):i64.wrap (i64.wrap (8+i64.wrap (i64.wrap (Int.tdiv (i64.wrap (Int.tdiv pos 64)) 8)*6))+i64.wrap (Int.tdiv (Int.tmod pos 64) 8))=8+pos/64/8*6+pos%64/8:=by
 have eq64:i64.wrap (Int.tdiv pos 64)=pos/64:=by rw[Yp s,w64 (by omega) (by omega)]
 have er64:Int.tmod pos 64=pos%64:=Yi s
 rw[eq64,er64,Yp (show 0≤pos/64 by omega),Yp (show 0≤pos%64 by omega),w64 (x:=pos/64/8) (by omega) (by omega),w64 (x:=pos/64/8*6) (by omega) (by omega),
  w64 (x:=8+pos/64/8*6) (by omega) (by omega),w64 (x:=pos%64/8) (by omega) (by omega),w64 (by omega) (by omega)]
def QaV(m:List Int):List Int→List Int
 | [p,h]=>[(p+1)%2560,if QgQ m ((p+1)%2560)=true then 1 else h]
 |l=>l
theorem QCL{p h:Int}(q:0≤p∧p<2560)(r:0≤h∧h<2):vN [p,h]=[p,h]:=by
 show[p%2560,h%2]=_;rw[YC q.1 q.2,YC r.1 r.2]
def Qrg(m:List Int)(p:Int)(n:Nat):Bool:=(List.range n).any fun j=>QgQ m ((p+1+j)%2560)
theorem Qtv(m:List Int)(p:Int)(n:Nat):Qrg m p (n+1)=(Qrg m p n||QgQ m ((p+1+n)%2560)):=by
 unfold Qrg;rw[List.range_succ,List.any_append];simp
theorem QxM(m:List Int){p h:Int}(q:0≤p∧p<2560):∀n,Qr (QaV m) n [p,h]=[(p+n)%2560,if Qrg m p n=true then 1 else h]
 |0=>by
  rw[Qr];have e:(p+((0:Nat):Int))%2560=p:=by omega
  rw[e];rfl
 |n+1=>by
  rw[QX,QxM m q n,QaV,Qtv];have e:((p+(n:Int))%2560+1)%2560=(p+((n+1:Nat):Int))%2560:=by omega
  have e2:(p+1+(n:Int))%2560=(p+((n+1:Nat):Int))%2560:=by omega
  rw[e,e2];cases QgQ m ((p+((n+1:Nat):Int))%2560)<;>cases Qrg m p n<;>rfl
theorem Qtw{m:List Int}{p:Int}{a b:Nat}(h:a≤b)(t:Qrg m p a=true):Qrg m p b=true:=by
 unfold Qrg at *;rw[List.any_eq_true] at *;obtain⟨j,hj,r⟩:=t;exact⟨j,List.mem_range.2 (by have:=List.mem_range.1 hj;omega),r⟩
theorem Qo5{m:List Int}{p:Int}{a:Nat}(h:2560≤a):Qrg m p a=Qrg m p 2560:=by
 cases c:Qrg m p 2560 with
 |true=>exact Qtw h c
 |false =>
  cases t:Qrg m p a with
  |false=>rfl
  |true =>
   exfalso;unfold Qrg at t c;rw[List.any_eq_true] at t;obtain⟨j,hj,r⟩:=t;rw[List.any_eq_false] at c;refine c (j%2560) (List.mem_range.2 (by omega)) ?_;have e:(p+1+((j%2560:Nat):Int))%2560=(p+1+(j:Int))%2560:=by omega
   rw[e];exact r
theorem Qtx(m:List Int){p h:Int}(q:0≤p∧p<2560){n:Nat}(hn:5120<n):Qr (QaV m) n [p,h]=Qr (QaV m) (2560+n%2560) [p,h]:=by
 rw[QxM m q,QxM m q,Qo5 (by omega),Qo5 (a:=2560+n%2560) (by omega)];have e:(p+(n:Int))%2560=(p+((2560+n%2560:Nat):Int))%2560:=by omega
 rw[e]
abbrev DS:=List Int×List Int
def Qa9{α:Type}(f:α→α):Nat→α→α
 |0,l=>l
 |n+1,l=>Qa9 f n (f l)
theorem Qh1{α:Type}(f:α→α):∀(m n:Nat) (l:α),Qa9 f (m+n) l=Qa9 f n (Qa9 f m l)
 |0,n,l=>by rw[Jh];rfl
 |m+1,n,l=>by
  have e:m+1+n=(m+n)+1:=by omega
  rw[e];exact Qh1 f m n (f l)
theorem Qgr{α:Type}(f:α→α)(n:Nat)(l:α):Qa9 f (n+1) l=f (Qa9 f n l):=by
 rw[Qh1 f n 1];rfl
theorem QlV{α:Type}{f:α→α}{l:α}(h:f l=l):∀n,Qa9 f n l=l
 |0=>rfl
 |n+1=>by rw[Qa9,h];exact QlV h n
def atI(k t s i:Int):Int:=256*k-256+64*t+16*s+i
def toI(c t:Int):Int:=if c=1 then (if t+1<4 then t+1 else t) else (if 0≤t-1 then t-1 else t)
def QgY:DS→DS
 |([k,t,c,s,i,l,d,r,o,x],m) =>
  if c<3 then ([k,toI c t,0,s,i,0,d,r,o,x],m)
  else if i+1=16 then ([k,t,0,s,0,0,if c=3 then m.getD (atI k t s i).toNat 0 else d,if c=4 then 0 else 1,if r=1 then 1 else o,x],if c=3 then m else m.set (atI k t s i).toNat d)
  else ([k,t,c,s,i+1,20,if c=3 then m.getD (atI k t s i).toNat 0 else d,1,if r=1 then 1 else o,x],if c=3 then m else m.set (atI k t s i).toNat d)
 |s=>s
def Qay:DS→DS
 |([k,t,c,s,i,l,d,r,o,x],m) =>
  if c>0 then
   (if c>2∧k=0 then ([k,t,0,s,i,l,d,r,o,x],m)
    else if l>1 then ([k,t,c,s,i,l-1,d,r,o,x],m)
    else QgY ([k,t,c,s,i,l,d,r,o,x],m))
  else ([k,t,c,s,i,l,d,r,o,x],m)
 |s=>s
inductive dOk(q:Nat):List Int→Prop
 |mk {k t c s i l d r o x:Int} (p:0≤k∧k≤q∧k<256) (z:0≤t∧t<4) (w:0≤c∧c≤4) (A:0≤s∧s<4) (D:0≤i∧i<16) (K:0≤l∧l<64) (C:0≤d∧d<256) (E:0≤r∧r<2) (F:0≤o∧o<2) (y:0≤x∧x<2):dOk q [k,t,c,s,i,l,d,r,o,x]
theorem dOk.len{q:Nat}{l:List Int}(h:dOk q l):l.length=10:=by cases h;rfl
theorem Qty(N:List Int)(q:Nat):dOk q (dN N q):=by
 refine⟨?_,by omega,?_,by omega,by omega,by omega,by omega,by omega,by omega,by omega⟩
 ·split<;>omega
 ·split<;>omega
theorem QCM{q:Nat}{l:List Int}(h:dOk q l):dN l q=l:=by
 cases h with
 |mk p z w A D K C E F y =>
  rename_i k t c s i l d r o x;show[if k%256>q then 0 else k%256,t%4,if c%8>4 then 0 else c%8,s%4,i%16,l%64,d%256,r%2,o%2,x%2]=_
  rw[YC p.1 p.2.2,YC z.1 z.2,YC (a:=c) (b:=8) w.1 (by omega),YC A.1 A.2,YC D.1 D.2,YC K.1 K.2,YC C.1 C.2,
   YC E.1 E.2,YC F.1 F.2,YC y.1 y.2,Yb (by omega),Yb (by omega)]
structure DOk(q:Nat)(s:DS):Prop where
 n:dOk q s.1
 m:s.2.length=q*256
 u:u8s s.2
theorem Qnu{m:List Int}(h:u8s m){d:Int}(C:0≤d∧d<256)(i:Nat):u8s (m.set i d):=by
 intro x y;rcases List.mem_or_eq_of_mem_set y with H|rfl
 ·exact h x H
 ·exact C
theorem QFF{c t:Int}(h:0≤t∧t<4):0≤toI c t∧toI c t<4:=by
 unfold toI;split<;>split<;>omega
theorem Qkl{q:Nat}{s:DS}(h:DOk q s):DOk q (QgY s):=by
 obtain⟨n,m⟩:=s;obtain⟨P,G,B⟩:=h;have G:m.length=q*256:=G;have B:u8s m:=B;cases P with
 |mk p z w A D K C E F y =>
  rename_i k t c s i l d r o x;have hb:=QcU B (atI k t s i).toNat;have hb:0≤m.getD (atI k t s i).toNat 0∧m.getD (atI k t s i).toNat 0<256:=hb;have Q:0≤(if c=3 then m.getD (atI k t s i).toNat 0 else d)∧(if c=3 then m.getD (atI k t s i).toNat 0 else d)<256:=by split<;>assumption
  have O:0≤(if r=1 then 1 else o)∧(if r=1 then 1 else o)<2:=by split<;>omega
  have J:(if c=3 then m else m.set (atI k t s i).toNat d).length=q*256:=by split<;>simp[G]
  have M:u8s (if c=3 then m else m.set (atI k t s i).toNat d):=by
   split
   ·exact B
   ·exact Qnu B C _
  rw[QgY];by_cases H:c<3
  ·rw[Yf H];exact⟨⟨p,QFF z,by omega,A,D,by omega,C,E,F,y⟩,G,B⟩
  ·rw[Yb H];by_cases L:i+1=16
   ·rw[Yf L];exact⟨⟨p,z,by omega,A,by omega,by omega,Q,by split<;>omega,O,y⟩,J,M⟩
   ·rw[Yb L];exact⟨⟨p,z,w,A,by omega,by omega,Q,by omega,O,y⟩,J,M⟩
theorem Qo6{q:Nat}{s:DS}(h:DOk q s):DOk q (Qay s):=by
 obtain⟨n,m⟩:=s;have T:=h;obtain⟨P,G,B⟩:=h;have G:m.length=q*256:=G;have B:u8s m:=B;cases P with
 |mk p z w A D K C E F y =>
  rename_i k t c s i l d r o x;rw[Qay];by_cases H:c>0
  ·rw[Yf H];by_cases L:c>2∧k=0
   ·rw[Yf L];exact⟨⟨p,z,by omega,A,D,K,C,E,F,y⟩,G,B⟩
   ·rw[Yb L];by_cases S:l>1
    ·rw[Yf S];exact⟨⟨p,z,w,A,D,by omega,C,E,F,y⟩,G,B⟩
    ·rw[Yb S];exact Qkl T
  ·rw[Yb H];exact T
theorem Qg7{q:Nat}{s:DS}(h:DOk q s):∀n,DOk q (Qa9 Qay n s)
 |0=>h
 |n+1=>by rw[Qgr];exact Qo6 (Qg7 h n)
theorem QlW{k t c s i l d r o x:Int}{m:List Int}(w:¬c>0)(n:Nat):Qa9 Qay n ([k,t,c,s,i,l,d,r,o,x],m)=([k,t,c,s,i,l,d,r,o,x],m) :=
 QlV (by rw[Qay,Yb w]) n
theorem Qtz{k t c s i l d r o x:Int}{m:List Int}(w:c>2)(p:k=0){n:Nat}(P:0<n):Qa9 Qay n ([k,t,c,s,i,l,d,r,o,x],m)=([k,t,0,s,i,l,d,r,o,x],m):=by
 obtain⟨n,rfl⟩:∃n',n=n'+1:=⟨n-1,by omega⟩
 rw[Qa9,Qay,Yf (by omega),Yf ⟨w,p⟩];exact QlW (by decide) n
theorem QfD{k t c s i d r o x:Int}{m:List Int}(w:c>0)(p:¬(c>2∧k=0)):∀(n:Nat) (l:Int),(n:Int)<l→Qa9 Qay n ([k,t,c,s,i,l,d,r,o,x],m)=([k,t,c,s,i,l-n,d,r,o,x],m)
 |0,l,_=>by rw[Qa9];simp
 |n+1,l,h=>by
  rw[Qa9,Qay,Yf w,Yb p,Yf (by omega),QfD w p n (l-1) (by omega)];have:l-1-(n:Int)=l-((n+1:Nat):Int):=by omega
  rw[this]
theorem Qrh{k t c s i l l' d r o x:Int}{m:List Int}:QgY ([k,t,c,s,i,l,d,r,o,x],m)=QgY ([k,t,c,s,i,l',d,r,o,x],m):=rfl
theorem QlX{k t c s i l d r o x:Int}{m:List Int}(w:c>0)(p:¬(c>2∧k=0))(K:0≤l){n:Nat}(P:0<n)(h:¬(n:Int)<l) :
 Qa9 Qay n ([k,t,c,s,i,l,d,r,o,x],m)=Qa9 Qay ((n:Int)-max 1 l).toNat (QgY ([k,t,c,s,i,0,d,r,o,x],m)):=by
 have e:n=(l-1).toNat+(((n:Int)-max 1 l).toNat+1):=by omega
 rw[e,Qh1]
 have e2:Qa9 Qay (l-1).toNat ([k,t,c,s,i,l,d,r,o,x],m)=([k,t,c,s,i,l-((l-1).toNat:Nat),d,r,o,x],m):=by
  by_cases T:l=0
  ·subst T;show Qa9 Qay 0 _=_;rw[Qa9];simp
  ·exact QfD w p _ _ (by omega)
 have e3:(((l-1).toNat+(((n:Int)-max 1 l).toNat+1):Nat):Int)=n:=by omega
 rw[e2,e3,Qa9,Qay,Yf w,Yb p,Yb (by omega)];rw[Qrh (l':=0)]
def Qnv:List Int→Int
 | [k,t,c,s,i,l,d,r,o,x]=>atI k t s i
 |_=>0
def QFG(s:DS):Prop:=0<s.1.getD 2 0∧(2<s.1.getD 2 0→0<s.1.getD 0 0)∧s.1.getD 5 0=0
theorem QAO{k t s i:Int}{q:Nat}(p:0<k∧k≤q)(z:0≤t∧t<4)(A:0≤s∧s<4)(D:0≤i∧i<16):0≤atI k t s i∧atI k t s i<((q*256:Nat):Int):=by
 unfold atI;omega
theorem l10{a b c d e f g h i j a' b' c' d' e' f' g' h' i' j':Int}(H:a=a')(L:b=b')(S:c=c')(h4:d=d')(h5:e=e')(h6:f=f')(h7:g=g')(h8:h=h')(h9:i=i')(U:j=j'):[a,b,c,d,e,f,g,h,i,j]=[a',b',c',d',e',f',g',h',i',j']:=by rw[H,L,S,h4,h5,h6,h7,h8,h9,U]
theorem QCN{k t s i:Int}(p:0≤k∧k<256)(z:0≤t∧t<4)(A:0≤s∧s<4)(D:0≤i∧i<16) :
 i64.wrap (i64.wrap (i64.wrap (i64.wrap (i64.wrap (256*k)-256)+i64.wrap (64*t))+i64.wrap (16*s))+i)=atI k t s i:=by
 rw[w64 (x:=256*k) (by omega) (by omega),w64 (x:=256*k-256) (by omega) (by omega),w64 (x:=64*t) (by omega) (by omega),w64 (x:=256*k-256+64*t) (by omega) (by omega),w64 (x:=16*s) (by omega) (by omega),
  w64 (x:=256*k-256+64*t+16*s) (by omega) (by omega),w64 (by omega) (by omega)];rfl
theorem or1{o r:Int}(F:0≤o∧o<2)(E:0≤r∧r<2):lor .i64 o r=if r=1 then 1 else o:=by
 have a1:o=0∨o=1:=by omega
 have a2:r=0∨r=1:=by omega
 rcases a1 with rfl|rfl<;>rcases a2 with rfl|rfl<;>decide +kernel
set_option maxRecDepth 100000
theorem Qkq{a c:Int}{b d:Bool}(A:a=c)(F:b=d):AV.tup [I1 a,.c (bv b)]=AV.tup [I1 c,.c (bv d)]:=by rw[A,F]
def QAU:PSpec:=⟨[gb,gi],fun(m,pos,_)=>(some (List.length m=32∧u8s m∧0≤pos∧pos<2560),.tup [I1 (Qaj m pos),.c (bv (QgQ m pos))],[])⟩
theorem Qpa:G0 81 QAU.spec:=by
 have E:S0 _:=(Qb (T:=tree))
 have G:=tabs E Qc;refine QAU.gd G E Tryz.func81 fun(m:List Int) (pos:Int) hp=>?_
 obtain⟨H,hu,C,hp1⟩:m.length=32∧u8s m∧0≤pos∧pos<2560:=hp _ rfl;have z:=QcU hu;have eq64:i64.wrap (Int.tdiv pos 64)=pos/64:=by rw[Yp C,w64 (by omega) (by omega)]
 have er64:Int.tmod pos 64=pos%64:=Yi C
 have ecell:i64.wrap (i64.wrap (8+i64.wrap (i64.wrap (Int.tdiv (i64.wrap (Int.tdiv pos 64)) 8)*6))+i64.wrap (Int.tdiv (Int.tmod pos 64) 8))=8+pos/64/8*6+pos%64/8:=by
  rw[eq64,er64,Yp (show 0≤pos/64 by omega),Yp (show 0≤pos%64 by omega),w64 (x:=pos/64/8) (by omega) (by omega),w64 (x:=pos/64/8*6) (by omega) (by omega),
   w64 (x:=8+pos/64/8*6) (by omega) (by omega),w64 (x:=pos%64/8) (by omega) (by omega),w64 (by omega) (by omega)]
 repeat' first|(apply Ea;conv=>whnf)|apply Eb|apply Ec|apply Ed|apply Ee|(apply Ei;intro _)|apply Ef G E
 all_goals first
  |decide
  |(rw[H];exact Ya rfl)
  |(rw[ecell,H];exact⟨by omega,by omega⟩)
  |skip
 ·rename_i h;have h:Int.tmod pos 64≥48:=h;rw[er64] at h;have w:Qns pos=false:=by unfold Qns;rw[Yn (by omega:¬pos%64<48)];rfl
  refine .k [] [] _ rfl (Qkq ?_ ?_)
  ·show Int.tmod (i64.wrap (bA m 0)) 16=Qaj m pos;have B:=z 0;rw[Qaj,w,Yb (by simp),w64 (by omega) (by omega),Yi B.1]
  ·show false=QgQ m pos;rw[QgQ,w];rfl
 ·rename_i A h;have h:i64.wrap (Int.tdiv pos 64)≥32:=h;rw[eq64] at h;have w:Qns pos=false:=by unfold Qns;rw[Yn (by omega:¬pos/64<32),Bool.and_false]
  refine .k [] [] _ rfl (Qkq ?_ ?_)
  ·show Int.tmod (i64.wrap (bA m 0)) 16=Qaj m pos;have B:=z 0;rw[Qaj,w,Yb (by simp),w64 (by omega) (by omega),Yi B.1]
  ·show false=QgQ m pos;rw[QgQ,w];rfl
 rename_i A F;have A:¬Int.tmod pos 64≥48:=A;have F:¬i64.wrap (Int.tdiv pos 64)≥32:=F;rw[er64] at A;rw[eq64] at F;have w:Qns pos=true:=by unfold Qns;rw[Yl (by omega:pos%64<48),Yl (by omega:pos/64<32)];rfl
 have ecv:Int.tmod (i64.wrap (bA m (i64.wrap (i64.wrap (8+i64.wrap (i64.wrap (Int.tdiv (i64.wrap (Int.tdiv pos 64)) 8)*6))+i64.wrap (Int.tdiv (Int.tmod pos 64) 8))).toNat)) 16=QfC m pos:=by
  rw[ecell];have B:=z (8+pos/64/8*6+pos%64/8).toNat;rw[w64 (by omega) (by omega),Yi B.1];rfl
 refine Q4 G E (X:=Int) (fun i=>St.mk ((.cell (.ro (.int .u8) m))::E5 ((I (i64.wrap (Int.tdiv pos 64)))::(I (Int.tmod pos 64))::(I (Int.tmod (i64.wrap (bA m (i64.wrap (i64.wrap (8+i64.wrap (i64.wrap (Int.tdiv (i64.wrap (Int.tdiv pos 64)) 8)*6))+i64.wrap (Int.tdiv (Int.tmod pos 64) 8))).toNat)) 16))::E20 (E5 (E3 ((I i)::E40 (E3 (E1 []))))))) [])
  (fun i=>∃k:Nat,i=k∧k≤8∧∀j,j<k→QbD m pos j=false) (fun i=>(8-i).toNat) 0 (Le.k [] [] ?_) ?_ fun i hi=>?_
 ·repeat' constructor
 ·exact⟨0,rfl,by omega,fun j h=>by omega⟩
 obtain⟨k,rfl,hk,t⟩:=hi;have hb1:=z 1;have hb2:=z 2;have K:=z 3;have D:=z 4;have w1:i64.wrap (i64.wrap (bA m 1)+k)=bA m 1+k:=by rw[w64 (x:=bA m 1) (by omega) (by omega),w64 (by omega) (by omega)]
 have w2:i64.wrap (bA m 2)=bA m 2:=w64 (by omega) (by omega);have w3:i64.wrap (bA m 2+8)=bA m 2+8:=w64 (by omega) (by omega)
 repeat' first|(apply Ea;conv=>whnf)|apply Eb|apply Ec|apply Ed|apply Ee|(apply Ei;intro _)|apply Ef G E
 all_goals first
  |decide
  |(rw[H];exact Ya rfl)
  |exact Int.natCast_nonneg _
  |skip
 ·rename_i u f g r y;have f:Int.tmod pos 64=i64.wrap (i64.wrap (bA m 1)+(k:Int)):=f;rw[er64,w1] at f;have g:i64.wrap (Int.tdiv pos 64)≥i64.wrap (bA m 2):=g;rw[eq64,w2] at g;have r:i64.wrap (Int.tdiv pos 64)<i64.wrap (i64.wrap (bA m 2)+8):=r;rw[eq64,w2,w3] at r;have y:shl .u8 (bA m 4) (k:Int)≥128:=y;rw[QlU D (by omega)] at y
  have s:Q5 m pos=true:=Qre (i:=k) (by omega) (by
   unfold QbD;simp only[Yj,YB]
   exact⟨f,⟨g,r⟩,y⟩)
  refine .k [] [] _ rfl (Qkq ?_ ?_)
  ·show Int.tmod (i64.wrap (bA m 3)) 16=Qaj m pos;rw[Qaj,w,Yf rfl,s,Yf rfl,w64 (by omega) (by omega),Yi K.1]
  ·show decide (Int.tmod (i64.wrap (bA m (i64.wrap (i64.wrap (8+i64.wrap (i64.wrap (Int.tdiv (i64.wrap (Int.tdiv pos 64)) 8)*6))+i64.wrap (Int.tdiv (Int.tmod pos 64) 8))).toNat)) 16>0)=QgQ m pos;rw[QgQ,w,s,ecv];have B:=QxK m pos;show decide (QfC m pos>0)=decide (QfC m pos≠0);congr 1;apply propext;omega
 ·rename_i u f g r y;have f:Int.tmod pos 64=i64.wrap (i64.wrap (bA m 1)+(k:Int)):=f;rw[er64,w1] at f;have g:i64.wrap (Int.tdiv pos 64)≥i64.wrap (bA m 2):=g;rw[eq64,w2] at g;have r:i64.wrap (Int.tdiv pos 64)<i64.wrap (i64.wrap (bA m 2)+8):=r;rw[eq64,w2,w3] at r;have y:¬shl .u8 (bA m 4) (k:Int)≥128:=y;rw[QlU D (by omega)] at y;have e:i64.wrap ((k:Int)+1)=((k+1:Nat):Int):=by rw[w64 (by omega) (by omega)];omega
  have n:QbD m pos k=false:=by
   cases p:QbD m pos k with
   |false=>rfl
   |true =>
    exfalso;unfold QbD at p;simp only[Yj,YB] at p;obtain⟨s1,⟨s2,s3⟩,s4⟩:=p
    first|exact y s4|omega
  apply Yw _;refine Yo ?_ (Yo ?_ (Le.k [] [] ?hh))
  case hh=>repeat' constructor
  ·refine⟨k+1,e,by omega,fun j J=>?_⟩;by_cases q:j=k
   ·rw[q];exact n
   ·exact t j (by omega)
  ·show(8-i64.wrap ((k:Int)+1)).toNat<(8-(k:Int)).toNat;rw[e];omega
 ·rename_i u f g r;have f:Int.tmod pos 64=i64.wrap (i64.wrap (bA m 1)+(k:Int)):=f;rw[er64,w1] at f;have g:i64.wrap (Int.tdiv pos 64)≥i64.wrap (bA m 2):=g;rw[eq64,w2] at g;have r:¬i64.wrap (Int.tdiv pos 64)<i64.wrap (i64.wrap (bA m 2)+8):=r;rw[eq64,w2,w3] at r;have e:i64.wrap ((k:Int)+1)=((k+1:Nat):Int):=by rw[w64 (by omega) (by omega)];omega
  have n:QbD m pos k=false:=by
   cases p:QbD m pos k with
   |false=>rfl
   |true =>
    exfalso;unfold QbD at p;simp only[Yj,YB] at p;obtain⟨s1,⟨s2,s3⟩,s4⟩:=p
    first|exact r s4|omega
  apply Yw _;refine Yo ?_ (Yo ?_ (Le.k [] [] ?hh))
  case hh=>repeat' constructor
  ·refine⟨k+1,e,by omega,fun j J=>?_⟩;by_cases q:j=k
   ·rw[q];exact n
   ·exact t j (by omega)
  ·show(8-i64.wrap ((k:Int)+1)).toNat<(8-(k:Int)).toNat;rw[e];omega
 ·rename_i u f g;have f:Int.tmod pos 64=i64.wrap (i64.wrap (bA m 1)+(k:Int)):=f;rw[er64,w1] at f;have g:¬i64.wrap (Int.tdiv pos 64)≥i64.wrap (bA m 2):=g;rw[eq64,w2] at g;have e:i64.wrap ((k:Int)+1)=((k+1:Nat):Int):=by rw[w64 (by omega) (by omega)];omega
  have n:QbD m pos k=false:=by
   cases p:QbD m pos k with
   |false=>rfl
   |true =>
    exfalso;unfold QbD at p;simp only[Yj,YB] at p;obtain⟨s1,⟨s2,s3⟩,s4⟩:=p
    first|exact g s4|omega
  apply Yw _;refine Yo ?_ (Yo ?_ (Le.k [] [] ?hh))
  case hh=>repeat' constructor
  ·refine⟨k+1,e,by omega,fun j J=>?_⟩;by_cases q:j=k
   ·rw[q];exact n
   ·exact t j (by omega)
  ·show(8-i64.wrap ((k:Int)+1)).toNat<(8-(k:Int)).toNat;rw[e];omega
 ·rename_i u f;have f:¬Int.tmod pos 64=i64.wrap (i64.wrap (bA m 1)+(k:Int)):=f;rw[er64,w1] at f;have e:i64.wrap ((k:Int)+1)=((k+1:Nat):Int):=by rw[w64 (by omega) (by omega)];omega
  have n:QbD m pos k=false:=by
   cases p:QbD m pos k with
   |false=>rfl
   |true =>
    exfalso;unfold QbD at p;simp only[Yj,YB] at p;obtain⟨s1,⟨s2,s3⟩,s4⟩:=p
    first|exact f s4|omega
  apply Yw _;refine Yo ?_ (Yo ?_ (Le.k [] [] ?hh))
  case hh=>repeat' constructor
  ·refine⟨k+1,e,by omega,fun j J=>?_⟩;by_cases q:j=k
   ·rw[q];exact n
   ·exact t j (by omega)
  ·show(8-i64.wrap ((k:Int)+1)).toNat<(8-(k:Int)).toNat;rw[e];omega
 ·rename_i u;obtain rfl:k=8:=by omega
  have s:Q5 m pos=false:=Qtt t;refine .k [] [] _ rfl (Qkq ?_ ?_)
  ·show Int.tmod (i64.wrap (bA m (i64.wrap (i64.wrap (8+i64.wrap (i64.wrap (Int.tdiv (i64.wrap (Int.tdiv pos 64)) 8)*6))+i64.wrap (Int.tdiv (Int.tmod pos 64) 8))).toNat)) 16=Qaj m pos;rw[Qaj,w,Yf rfl,s,Yb (by simp),ecv]
  ·show false=QgQ m pos;rw[QgQ,w,s];rfl
def QLA:PSpec:=⟨[gi],fun(pos,_)=>(some (0≤pos∧pos<2560),.cell (bv (Qns pos)),[])⟩
theorem QAV:G0 254 QLA.spec:=by
 have d:S0 _:=(Qb (T:=tree))
 have g:=tabs d Qc;refine QLA.gd g d Tryz.func254 fun(pos:Int) j=>?_
 have j:0≤pos∧pos<2560:=j _ rfl;have eq64:i64.wrap (Int.tdiv pos 64)=pos/64:=by rw[Yp j.1,w64 (by omega) (by omega)]
 have er64:Int.tmod pos 64=pos%64:=Yi j.1
 repeat' first|(apply Ea;conv=>whnf)|apply Eb|apply Ec|apply Ed|apply Ee|(apply Ei;intro _)|apply Ef g d
 all_goals first
  |decide
  |(rename_i h
    have h:Int.tmod pos 64<48:=h;rw[er64] at h;refine .k [] [] _ rfl (Qj ?_);show decide (i64.wrap (Int.tdiv pos 64)<32)=(decide (pos%64<48)&&decide (pos/64<32))
    rw[eq64,Yl h];rfl)
  |(rename_i h
    have h:¬Int.tmod pos 64<48:=h;rw[er64] at h;refine .k [] [] _ rfl (Qj ?_);show false=(decide (pos%64<48)&&decide (pos/64<32))
    rw[Yn h];rfl)
def QFN:PSpec:=⟨[gb,gi],fun(m,pos,_)=>(some (List.length m=32∧u8s m∧0≤pos∧pos<2560∧Qns pos=true),I (QfC m pos),[])⟩
theorem QtJ:G0 256 QFN.spec:=by
 have d:S0 _:=(Qb (T:=tree))
 have g:=tabs d Qc;refine QFN.gd g d Tryz.func256 fun(m:List Int) (pos:Int) j=>?_
 obtain⟨q,n,a,c,s⟩:m.length=32∧u8s m∧0≤pos∧pos<2560∧Qns pos=true:=j _ rfl;have r:=QcU n;unfold Qns at s;simp only[Yj,YB] at s;have ecell:i64.wrap (i64.wrap (8+i64.wrap (i64.wrap (Int.tdiv (i64.wrap (Int.tdiv pos 64)) 8)*6))+i64.wrap (Int.tdiv (Int.tmod pos 64) 8))=8+pos/64/8*6+pos%64/8:=cell_at a c
 repeat' first|(apply Ea;conv=>whnf)|apply Eb|apply Ec|apply Ed|apply Ee|(apply Ei;intro _)|apply Ef g d
 all_goals first
  |decide
  |(rw[ecell,q];exact⟨by omega,by omega⟩)
  |(refine .k [] [] _ rfl (Qd ?_)
    show land .i64 (i64.wrap (bA m (i64.wrap (i64.wrap (8+i64.wrap (i64.wrap (Int.tdiv (i64.wrap (Int.tdiv pos 64)) 8)*6))+i64.wrap (Int.tdiv (Int.tmod pos 64) 8))).toNat)) 15=QfC m pos
    rw[ecell,Qnt (r _)];rfl)
def QtK:PSpec:=⟨[gb,gi],fun(m,pos,_)=>(some (List.length m=32∧u8s m∧0≤pos∧pos<2560),.cell (bv (Q5 m pos)),[])⟩
theorem Ql2:G0 255 QtK.spec:=by
 have d:S0 _:=(Qb (T:=tree))
 have g:=tabs d Qc;refine QtK.gd g d Tryz.func255 fun(m:List Int) (pos:Int) j=>?_
 obtain⟨q,n,a,c⟩:m.length=32∧u8s m∧0≤pos∧pos<2560:=j _ rfl;have r:=QcU n;have hb1:=r 1;have hb2:=r 2;have eq64:i64.wrap (Int.tdiv pos 64)=pos/64:=by rw[Yp a,w64 (by omega) (by omega)]
 have er64:Int.tmod pos 64=pos%64:=Yi a;have A:i64.wrap (Int.tmod pos 64-i64.wrap (bA m 1))=pos%64-bA m 1:=by rw[er64,w64 (x:=bA m 1) (by omega) (by omega),w64 (by omega) (by omega)]
 have C:i64.wrap (i64.wrap (Int.tdiv pos 64)-i64.wrap (bA m 2))=pos/64-bA m 2:=by rw[eq64,w64 (x:=bA m 2) (by omega) (by omega),w64 (by omega) (by omega)]
 repeat' first|(apply Ea;conv=>whnf)|apply Eb|apply Ec|apply Ed|apply Ee|(apply Ei;intro _)|apply Ef g d
 all_goals first
  |decide
  |(rw[q];exact Ya rfl)
  |skip
 ·rename_i z y w u;have z:i64.wrap (Int.tmod pos 64-i64.wrap (bA m 1))≥0:=z;have y:i64.wrap (Int.tmod pos 64-i64.wrap (bA m 1))<8:=y;have w:i64.wrap (i64.wrap (Int.tdiv pos 64)-i64.wrap (bA m 2))≥0:=w;have u:i64.wrap (i64.wrap (Int.tdiv pos 64)-i64.wrap (bA m 2))<8:=u;have B:=r 4;rw[A] at z y;rw[C] at w u;show 0≤i64.wrap (7-i64.wrap (Int.tmod pos 64-i64.wrap (bA m 1)));rw[A,w64 (by omega) (by omega)];omega
 ·rename_i z y w u;have z:i64.wrap (Int.tmod pos 64-i64.wrap (bA m 1))≥0:=z;have y:i64.wrap (Int.tmod pos 64-i64.wrap (bA m 1))<8:=y;have w:i64.wrap (i64.wrap (Int.tdiv pos 64)-i64.wrap (bA m 2))≥0:=w;have u:i64.wrap (i64.wrap (Int.tdiv pos 64)-i64.wrap (bA m 2))<8:=u;have B:=r 4;rw[A] at z y;rw[C] at w u;refine .k [] [] _ rfl (Qj ?_);show(land .u8 (shr .u8 (bA m 4) (i64.wrap (7-i64.wrap (Int.tmod pos 64-i64.wrap (bA m 1))))) 1==1)=Q5 m pos;rw[A,w64 (x:=7-(pos%64-bA m 1)) (by omega) (by omega)];have e:(7-(pos%64-bA m 1))=(((7-(pos%64-bA m 1)).toNat:Nat):Int):=by omega
  have t:=Qrf B (i:=(7-(pos%64-bA m 1)).toNat) (by omega);rw[←e] at t;unfold Q5;rw[Yl (by omega:bA m 1≤pos%64),Yl (by omega:pos%64<bA m 1+8),Yl (by omega:bA m 2≤pos/64),Yl (by omega:pos/64<bA m 2+8)];show decide (land .u8 (shr .u8 (bA m 4) (7-(pos%64-bA m 1))) 1=1)=decide (bA m 4/2 ^ (7-(pos%64-bA m 1)).toNat%2=1);congr 1;exact propext t
 ·rename_i h;have h:¬i64.wrap (i64.wrap (Int.tdiv pos 64)-i64.wrap (bA m 2))<8:=h;refine .k [] [] _ rfl (Qj ?_);show false=Q5 m pos;cases p:Q5 m pos with
  |false=>rfl
  |true =>
   exfalso;unfold Q5 at p;simp only[Yj,YB] at p;rw[C] at h;omega
 ·rename_i h;have h:¬i64.wrap (i64.wrap (Int.tdiv pos 64)-i64.wrap (bA m 2))≥0:=h;refine .k [] [] _ rfl (Qj ?_);show false=Q5 m pos;cases p:Q5 m pos with
  |false=>rfl
  |true =>
   exfalso;unfold Q5 at p;simp only[Yj,YB] at p;rw[C] at h;omega
 ·rename_i h;have h:¬i64.wrap (Int.tmod pos 64-i64.wrap (bA m 1))<8:=h;refine .k [] [] _ rfl (Qj ?_);show false=Q5 m pos;cases p:Q5 m pos with
  |false=>rfl
  |true =>
   exfalso;unfold Q5 at p;simp only[Yj,YB] at p;rw[A] at h;omega
 ·rename_i h;have h:¬i64.wrap (Int.tmod pos 64-i64.wrap (bA m 1))≥0:=h;refine .k [] [] _ rfl (Qj ?_);show false=Q5 m pos;cases p:Q5 m pos with
  |false=>rfl
  |true =>
   exfalso;unfold Q5 at p;simp only[Yj,YB] at p;rw[A] at h;omega
theorem Qnx{b:Bool}(h:(!b)=false):b=true:=by cases b;cases h;rfl
theorem QxX{b:Bool}(h:(!b)=true):b=false:=by cases b;rfl;cases h
def QAW:PSpec:=⟨[gb,gi],fun(m,pos,_)=>(some (List.length m=32∧u8s m∧0≤pos∧pos<2560),I (Qaj m pos),[])⟩
theorem Qpb:G0 224 QAW.spec:=by
 have d:S0 _:=Qa QAV (Qa Ql2 (Qa QtJ (Qb (T:=tree))));have g:=tabs d Qc;refine QAW.gd g d Tryz.func224 fun(m:List Int) (pos:Int) j=>?_
 obtain⟨q,n,a,c⟩:m.length=32∧u8s m∧0≤pos∧pos<2560:=j _ rfl;have r:=QcU n
 repeat' first|(apply Ea;conv=>whnf)|apply Eb|apply Ec|apply Ed|apply Ee|(apply Ei;intro _)|apply Ef g d
 all_goals first
  |exact⟨a,c⟩
  |exact⟨q,n,a,c⟩
  |(rw[q];exact Ya rfl)
  |(rename_i h _;exact⟨q,n,a,c,Qnx h⟩)
  |skip
 ·rename_i h;have s:=QxX h;refine .k [] [] _ rfl (Qd ?_);show land .i64 (i64.wrap (bA m 0)) 15=Qaj m pos;rw[Qnt (r 0),Qaj,s];rfl
 ·rename_i h f;have s:=Qnx h;have f:Q5 m pos=true:=f;refine .k [] [] _ rfl (Qd ?_);show land .i64 (i64.wrap (bA m 3)) 15=Qaj m pos;rw[Qnt (r 3),Qaj,s,f];rfl
 ·rename_i h f;have s:=Qnx h;have f:Q5 m pos=false:=f;refine .k [] [] _ rfl (Qd ?_);show QfC m pos=Qaj m pos;rw[Qaj,s,f];rfl
def QFO:PSpec:=⟨[gb,gi],fun(m,pos,_)=>(some (List.length m=32∧u8s m∧0≤pos∧pos<2560),.cell (bv (QgQ m pos)),[])⟩
theorem QCU:G0 228 QFO.spec:=by
 have d:S0 _:=Qa QAV (Qa Ql2 (Qa QtJ (Qb (T:=tree))));have g:=tabs d Qc;refine QFO.gd g d Tryz.func228 fun(m:List Int) (pos:Int) j=>?_
 obtain⟨q,n,a,c⟩:m.length=32∧u8s m∧0≤pos∧pos<2560:=j _ rfl
 repeat' first|(apply Ea;conv=>whnf)|apply Eb|apply Ec|apply Ed|apply Ee|(apply Ei;intro _)|apply Ef g d
 all_goals first
  |exact⟨a,c⟩
  |exact⟨q,n,a,c⟩
  |(rename_i h;exact⟨q,n,a,c,h⟩)
  |(rename_i h _;exact⟨q,n,a,c,h⟩)
  |skip
 ·rename_i h f;have h:Qns pos=true:=h;have f:Q5 m pos=true:=f;refine .k [] [] _ rfl (Qj ?_);show _=QgQ m pos;rw[QgQ,h,f];show(QfC m pos != 0)=decide (QfC m pos≠0);by_cases e:QfC m pos=0<;>simp[e]
 ·rename_i h f;have h:Qns pos=true:=h;have f:Q5 m pos=false:=f;refine .k [] [] _ rfl (Qj ?_);show _=QgQ m pos;rw[QgQ,h,f];rfl
 ·rename_i h;have h:Qns pos=false:=h;refine .k [] [] _ rfl (Qj ?_);show _=QgQ m pos;rw[QgQ,h];rfl
theorem QvE{l m:List Int}(hl:u8s l)(hm:u8s m)(h:Qm4 l=Qm4 m):l=m:=by
 have a:(l.map fun n=>UInt8.ofNat n.toNat)=m.map fun n=>UInt8.ofNat n.toNat:=by
  have h2:=Yv (fun b:ByteArray=>b.data.toList) h;simpa[Qm4] using h2
 clear h
 induction l generalizing m with
 |nil =>
  cases m with
  |nil=>rfl
  |cons y m=>simp at a
 |cons x l ih =>
  cases m with
  |nil=>simp at a
  |cons y m =>
   simp only[Jb,List.cons.injEq] at a;obtain⟨e1,e2⟩:=a;have hx:=hl x (YZ ..);have hy:=hm y (YZ ..);have e3:=Yv UInt8.toNat e1;simp only[UInt8.toNat_ofNat'] at e3;have e4:x=y:=by omega
   rw[e4,ih (fun z c=>hl z (YP _ c)) (fun z c=>hm z (YP _ c)) e2]
theorem Qzt:∀(u v:Nat) (a b:List Int),Qmp u++a=Qmp v++b→u=v∧a=b:=by
 intro u
 induction u using Nat.strongRecOn with
 |ind u ih =>
  intro v a b h;by_cases i:u<128
  ·by_cases j:v<128
   ·rw[QbN i,QbN j] at h;injection h with q f
    exact⟨by omega,f⟩
   ·rw[QbN i,Qcy j] at h;injection h with q f
    omega
  ·by_cases j:v<128
   ·rw[Qcy i,QbN j] at h;injection h with q f
    omega
   ·rw[Qcy i,Qcy j] at h;injection h with q f
    obtain⟨e1,e2⟩:=ih (u/128) (by omega) (v/128) a b f;exact⟨by omega,e2⟩
theorem QkR{n m:Int}{a b:List Int}(h:QbO n++a=QbO m++b):n=m∧a=b:=by
 obtain⟨e1,e2⟩:=Qzt _ _ _ _ h;refine⟨?_,e2⟩;unfold zig at e1;split at e1<;>split at e1<;>omega
theorem QgA:∀{l m:List Int} {a b:List Int},l.length=m.length→Qz l++a=Qz m++b→l=m∧a=b
 | [],[],a,b,_,h=>⟨rfl,h⟩
 | [],_::_,_,_,e,_=>by cases e
 |_::_,[],_,_,e,_=>by cases e
 |x::l,y::m,a,b,e,h=>by
  rw[Qe8,Qe8,Yy,Yy] at h;obtain⟨e1,e2⟩:=QkR h;obtain⟨e3,e4⟩:=QgA (by simpa using e) e2;exact⟨by rw[e1,e3],e4⟩
theorem QD7{l m a b:List Int}(e:l.length=m.length)(h:l++a=m++b):l=m∧a=b:=List.append_inj h e
theorem Qzu{x y:Dv}{a b:List Int}(h:QfO x++a=QfO y++b):x=y∧a=b:=by
 unfold QfO at h;simp only[Yy] at h;obtain⟨e1,h⟩:=QkR h;obtain⟨e2,h⟩:=QgA (by omega) h;obtain⟨e3,h⟩:=QkR h;obtain⟨e4,h⟩:=QD7 (by omega) h;exact⟨Prod.ext e2 e4,h⟩
theorem Qqj:∀{l m:List Dv},l.length=m.length→l.flatMap QfO=m.flatMap QfO→l=m
 | [],[],_,_=>rfl
 | [],_::_,e,_=>by cases e
 |_::_,[],e,_=>by cases e
 |x::l,y::m,e,h=>by
  simp only[List.flatMap_cons] at h;obtain⟨e1,e2⟩:=Qzu h;rw[e1,Qqj (by simpa using e) e2]
theorem QvF{m n:Mach}(hm:m.2.1.1.length=9)(p:n.2.1.1.length=9)(h:Qmr m=Qmr n):m=n:=by
 unfold Qmr at h;obtain⟨e1,e2⟩:=QgA (by rw[Qee m hm,Qee n p]) h;obtain⟨tm,⟨r,op,at_,g⟩,ds,b1,b2,b3⟩:=m;obtain⟨tm',⟨r',op',at',nmi'⟩,ds',b1',b2',b3'⟩:=n;unfold QeK at e1;simp only[List.singleton_append,List.cons_append] at e1;injection e1 with e3 e1
 have hr:r.length=r'.length:=by
  have q:r.length=9:=hm;have f:r'.length=9:=p;omega
 obtain⟨e4,e5⟩:=List.append_inj e1 hr;injection e5 with f1 e5
 injection e5 with f2 e5
 injection e5 with f3 e5
 injection e5 with f4 e5
 injection e5 with f5 e5
 injection e5 with f6 e5
 injection e5 with f7 e5
 have f7:(ds.length:Int)=ds'.length:=f7;have e6:=Qqj (l:=ds) (m:=ds') (by omega) e2
 have f3:g=nmi':=by
  have f3:(cond g 1 0:Int)=cond nmi' 1 0:=f3;cases g<;>cases nmi'<;>first|rfl|(exact YD f3 (by decide))
 have f1:op=op':=f1;have f2:at_=at':=f2;have f4:b1=b1':=f4;have f5:b2=b2':=f5;have f6:b3=b3':=f6;have e3:tm=tm':=e3;subst e3 e4 f1 f2 f3 f4 f5 f6 e6;rfl
theorem QnT:∀u:Nat,u8s (Qmp u):=by
 intro u
 induction u using Nat.strongRecOn with
 |ind u ih =>
  by_cases i:u<128
  ·rw[QbN i];intro x c;rw[Jl] at c;subst c;omega
  ·rw[Qcy i];intro x c;rcases Yt.1 c with rfl|c
   ·omega
   ·exact ih (u/128) (by omega) x c
theorem QkS{l m:List Int}(h:u8s l)(f:u8s m):u8s (l++m):=fun x c=>(YN.1 c).elim (h x) (f x)
theorem Qmz(l:List Int):u8s (Qz l):=fun x c=>by
 obtain⟨n,_,p⟩:=List.mem_flatMap.1 c;exact QnT _ x p
def Qm3(m:Mach):Prop:=∀d∈m.2.2.1,u8s d.2
theorem Qqk{m:Mach}(h:Qm3 m):u8s (Qmr m):=by
 refine QkS (Qmz _) fun x c=>?_
 obtain⟨d,hd,c⟩:=List.mem_flatMap.1 c;exact QkS (QkS (QkS (QnT _) (Qmz _)) (QnT _)) (h d hd) x c
set_option linter.constructorNameAsVariable false
def Qeh:Nat→Nat→List Int→Option (Nat×List Int)
 |_,_,[]=>none
 |i,u,c::r =>
  if 63<7*i∨(7*i=63∧c>1) then none
  else if c<128 then (if c=0∧0<i then none else some (u+(c%128).toNat*2 ^ (7*i),r))
  else Qeh (i+1) (u+(c%128).toNat*2 ^ (7*i)) r
def QFh(u:Nat):Int:=if u%2=1 then -((u/2:Nat):Int)-1 else ((u/2:Nat):Int)
def Qg0(b:List Int):Int:=match Qeh 0 0 b with|some x=>QFh x.1|none=>0
def Qja(b:List Int):List Int:=match Qeh 0 0 b with|some x=>x.2|none=>[]
def Qss(b:List Int)(bad:Bool):Bool:=match Qeh 0 0 b with|some _=>bad|none=>true
theorem Qf1{b:List Int}{k:Nat}(h:k<b.length):b.drop k=b.getD k 0::b.drop (k+1):=by
 rw[YJ h,Yd,Ye h];rfl
def Qn6(b:List Int)(k v:Nat):Prop:=k≤10∧v<18446744073709551616∧(k≤9→v<2 ^ (7*k))∧Qeh k v (b.drop k)=Qeh 0 0 b
theorem QHJ{b:List Int}{k v:Nat}(h:Qn6 b k v)(g:¬k<b.length):Qeh 0 0 b=none:=by
 rw[←h.2.2.2,Yk (by omega)];rfl
theorem QHK{b:List Int}{k v:Nat}(h:Qn6 b k v)(g:k<b.length)(j:63<7*k∨(7*k=63∧b.getD k 0>1)):Qeh 0 0 b=none:=by
 rw[←h.2.2.2,Qf1 g,Qeh,Yf j]
theorem QEr{b:List Int}{k v:Nat}(h:Qn6 b k v)(g:k<b.length)(j:¬(63<7*k∨(7*k=63∧b.getD k 0>1)))(z:b.getD k 0=0)(F:0<k):Qeh 0 0 b=none:=by
 rw[←h.2.2.2,Qf1 g,Qeh,Yb j,Yf (by omega),Yf ⟨z,F⟩]
theorem QEs{b:List Int}{k v:Nat}(h:Qn6 b k v)(g:k<b.length)(j:¬(63<7*k∨(7*k=63∧b.getD k 0>1)))(z:b.getD k 0<128)(F:¬(b.getD k 0=0∧0<k)) :
 Qeh 0 0 b=some (v+(b.getD k 0%128).toNat*2 ^ (7*k),b.drop (k+1)):=by
 rw[←h.2.2.2,Qf1 g,Qeh,Yb j,Yf z,Yb F]
theorem QN8{k:Nat}(h:k≤9):2 ^ (7*k)*2≤18446744073709551616∧(k≤8→2 ^ (7*k)*128≤18446744073709551616)∧2 ^ (7*(k+1))=2 ^ (7*k)*128:=by
 have d:k=0∨k=1∨k=2∨k=3∨k=4∨k=5∨k=6∨k=7∨k=8∨k=9:=by omega
 rcases d with rfl|rfl|rfl|rfl|rfl|rfl|rfl|rfl|rfl|rfl<;>decide
theorem Qwp{k v:Nat}{c:Int}(g:k≤9)(B:v<2 ^ (7*k))(d:0≤c∧c<256)(j:¬(7*k=63∧c>1)):v+(c%128).toNat*2 ^ (7*k)<18446744073709551616∧(k+1≤9→v+(c%128).toNat*2 ^ (7*k)<2 ^ (7*(k+1))):=by
 obtain⟨p1,p2,p3⟩:=QN8 g;generalize t:2 ^ (7*k)=P at *;by_cases h9:k=9
 ·have q:(c%128).toNat≤1:=by omega
  have:=YL P q;exact⟨by omega,by omega⟩
 ·have q:(c%128).toNat≤127:=by omega
  have:=YL P q;have h8:=p2 (by omega);exact⟨by omega,fun _=>by rw[p3];omega⟩
theorem QK4{b:List Int}{k v:Nat}(h:Qn6 b k v)(g:k<b.length)(j:¬(63<7*k∨(7*k=63∧b.getD k 0>1)))(z:¬b.getD k 0<128)(d:0≤b.getD k 0∧b.getD k 0<256) :
 Qn6 b (k+1) (v+(b.getD k 0%128).toNat*2 ^ (7*k)):=by
 obtain⟨a1,a2,a3,a4⟩:=h;have A:=Qwp (k:=k) (v:=v) (c:=b.getD k 0) (by omega) (a3 (by omega)) d (fun e=>j (.inr e));refine⟨by omega,A.1,A.2,?_⟩;rw[←a4,Qf1 g,Qeh,Yb j,Yb z]
theorem Qst:∀x:Int,0≤x→x<256→land .u8 x 127=x%128:=QdN (fun x=>land .u8 x 127=x%128) (by decide +kernel)
theorem QEt{v x k:Nat}(B:v<2 ^ k):v ||| x*2 ^ k=v+x*2 ^ k:=by
 rw[Nat.or_comm,Nat.mul_comm,←Nat.two_pow_add_eq_or_of_lt B,Nat.add_comm]
theorem Qz1{a b:Nat}(ha:a<2 ^ 64)(p:b<2 ^ 64):lor .u64 (a:Int) (b:Int)=((a ||| b:Nat):Int):=by
 show(((BitVec.ofInt 64 (a:Int) ||| BitVec.ofInt 64 (b:Int)).toNat:Nat):Int)%18446744073709551616=_;rw[BitVec.toNat_or,QQ,QQ,Qaf ha,Qaf p];have:=Nat.or_lt_two_pow ha p;omega
theorem QHL{k v:Nat}{c:Int}(g:k≤9)(B:v<2 ^ (7*k))(d:0≤c∧c<256)(j:¬(7*k=63∧c>1)) :
 lor .u64 (v:Int) (shl .u64 (IntKind.u64.wrap (land .u8 c 127)) (7*(k:Int)))=((v+(c%128).toNat*2 ^ (7*k):Nat):Int):=by
 have A:=(Qwp g B d j).1;have e1:IntKind.u64.wrap (land .u8 c 127)=(((c%128).toNat:Nat):Int):=by rw[Qst _ d.1 d.2,QGx];omega
 have e2:shl .u64 (((c%128).toNat:Nat):Int) (7*(k:Int))=(((c%128).toNat*2 ^ (7*k):Nat):Int):=by
  show(((c%128).toNat:Nat):Int)*2 ^ (min (7*(k:Int)).toNat 64)%18446744073709551616=_;rw[show(7*(k:Int)).toNat=7*k by omega,Nat.min_eq_left (by omega)];have:((((c%128).toNat*2 ^ (7*k):Nat)):Int)=(((c%128).toNat:Nat):Int)*2 ^ (7*k):=by simp
  rw[←this];omega
 rw[e1,e2,Qz1 (by omega) (by omega),QEt B]
theorem Qz2{x:Int}(h:0≤x∧x≤9223372036854775807):lxor .i64 (-1) x=-x-1:=by
 obtain⟨n,rfl⟩:=Yz h.1;have hn:n<2 ^ 64:=by omega
 show i64.wrap (((BitVec.ofInt 64 (-1) ^^^ BitVec.ofInt 64 (n:Int)).toNat:Nat):Int)=_;have e:BitVec.ofInt 64 (-1)=BitVec.allOnes 64:=by decide
 rw[e,BitVec.allOnes_xor,BitVec.toNat_not,QQ,Qaf hn,Qkz];omega
theorem QjJ{l l':List Int}{x y:Bool}(h:l=l')(z:x=y):[some (Blk.var [.ro (.int .u8) l,bv x])]=[some (Blk.var [.ro (.int .u8) l',bv y])]:=by rw[h,z]
theorem QEu{b:List Int}(bad:Bool)(h:Qeh 0 0 b=none):Qg0 b=0∧Qja b=[]∧Qss b bad=true:=by
 unfold Qg0 Qja Qss;rw[h];exact⟨rfl,rfl,rfl⟩
theorem QEv{b r:List Int}{w:Nat}(bad:Bool)(h:Qeh 0 0 b=some (w,r)):Qg0 b=QFh w∧Qja b=r∧Qss b bad=bad:=by
 unfold Qg0 Qja Qss;rw[h];exact⟨rfl,rfl,rfl⟩
theorem QHM{w:Nat}(hw:w<18446744073709551616)(h:¬land .u64 (w:Int) 1=1):i64.wrap (shr .u64 (w:Int) 1)=QFh w:=by
 rw[Qmq (by omega)] at h;unfold QFh;rw[Yb (by omega),QpY,w64 (by omega) (by omega)];omega
theorem QHN{w:Nat}(hw:w<18446744073709551616)(h:land .u64 (w:Int) 1=1):lxor .i64 (-1) (i64.wrap (shr .u64 (w:Int) 1))=QFh w:=by
 rw[Qmq (by omega)] at h;unfold QFh;rw[Yf (by omega),QpY,w64 (by omega) (by omega),Qz2 (by omega)];omega
def QqA:List V1→List Blk→Option (List Int×Bool):=fun a b=>match a,b with
 | [.c (.ptr 0 0)],[.var [.ro (.int .u8) l,.imm (.bool bad)]]=>some (l,bad)
 |_,_=>none
theorem QmN{a:List V1}{b:List Blk}{x:List Int×Bool}(h:QqA a b=some x):a=[.c (.ptr 0 0)]∧b=[.var [.ro (.int .u8) x.1,bv x.2]]:=by
 unfold QqA at h;split at h
 ·injection h with h;subst h;exact⟨rfl,rfl⟩
 ·cases h
def QBT:WSpec:=⟨List Int×Bool,fun _=>[.c (.ptr 0 0)],fun x=>[.var [.ro (.int .u8) x.1,bv x.2]],QqA,
 fun(b,bad)=>(some (u8s b∧b.length≤4611686018427387904),I (Qg0 b),[some (.var [.ro (.int .u8) (Qja b),bv (Qss b bad)])],[])⟩
theorem Qwq:G0 164 QBT.spec:=by
 have t:S0 _:=(Qb (T:=tree))
 have D:=tabs t Qc;refine QBT.gd D t Tryz.func164 (fun _ _ _ h=>QmN h) fun((b,bad):List Int×Bool) hq=>?_
 obtain⟨hu,C⟩:u8s b∧b.length≤4611686018427387904:=hq _ rfl;clear hq
 repeat' first|(apply Ea;conv=>whnf)|apply Eb|apply Ec|apply Ed|apply Ee|(apply Ei;intro _)|apply Ef D t
 all_goals first
  |exact Ya rfl
  |skip
 refine Q4 D t (X:=Int×Int×Int) (fun(i,u,s)=>St.mk ((.cell (.ptr 0 0))::E2 ((.cell (iv .u64 u))::(I s)::E5 (E1 ((.cell (.ro (.int .u8) b))::(I (b.length:Int))::(I i)::E40 (E10 (E5 (E2 []))))))) [some (.var [.ro (.int .u8) b,bv bad])])
  (fun(i,u,s)=>∃k v:Nat,i=k∧u=v∧s=7*(k:Int)∧Qn6 b k v) (fun(i,u,s)=>((b.length:Int)-i).toNat) (0,0,0) (Le.k [] [0] ?_) ?_ fun(i,u,s) hi=>?_
 ·repeat' constructor
 ·exact⟨0,0,rfl,rfl,rfl,by omega,by omega,by simp,rfl⟩
 obtain⟨k,v,rfl,rfl,rfl,m⟩:=hi;have p:=QcU hu k;have p:0≤b.getD k 0∧b.getD k 0<256:=p;have hk10:=m.1;have hv64:=m.2.1;have hbl:b.length≤4611686018427387904:=C
 repeat' first|(apply Ea;conv=>whnf)|apply Eb|apply Ec|apply Ed|apply Ee|(apply Ei;intro _)|apply Ef D t
 all_goals
  have ec:List.getD (α:=Den (.int .u8)) b ((k:Int)).toNat (dflt (.int .u8))=b.getD k 0:=rfl
  try simp only[ec] at *
  clear ec
 all_goals clear D t
 all_goals
  generalize d:b.getD k 0=c at *
 all_goals first
  |exact Ya rfl
  |(show 0≤(k:Int)∧(k:Int)<(b.length:Int)
    omega)
  |(show 0≤i64.wrap ((k:Int)+1)∧i64.wrap ((k:Int)+1)≤(b.length:Int)
    rw[w64 (by omega) (by omega)]
    omega)
  |(have E:Qeh 0 0 b=none:=by
     first
      |exact QHJ m (by omega)
      |exact QHK m (by omega) (by rw[d];omega)
      |exact QEr m (by omega) (by rw[d];omega) (by rw[d];omega) (by omega)
    obtain⟨e1,e2,e3⟩:=QEu bad E
    exact .le (Le.nilroH 0 [.imm (.slice none 0 0),bv true] [.ro (.int .u8) [],bv true] rfl ⟨.inr ⟨rfl,_,rfl⟩,.inl rfl,trivial⟩) (.mk [] [0] _ R R R R R (QjJ e2.symm e3.symm) (Qd e1.symm)))
  |(have f:k≤9:=by omega
    have E:=QEs m (by omega) (by rw[d];omega) (by rw[d];omega) (by rw[d];omega);rw[d] at E;have A:=(Qwp (k:=k) (v:=v) (c:=c) f (m.2.2.1 f) p (by omega)).1;have eor:=QHL (k:=k) (v:=v) (c:=c) f (m.2.2.1 f) p (by omega);obtain⟨e1,e2,e3⟩:=QEv bad E;simp only[eor] at *;have ed:(b.take b.length).drop (i64.wrap ((k:Int)+1)).toNat=Qja b:=by rw[e2,List.take_length,QJ (by omega)];rfl
    rename_i h
    first
     |exact .mk [] [0] _ R R R R R (QjJ ed e3.symm) (Qd ((QHN A h).trans e1.symm))
     |exact .mk [] [0] _ R R R R R (QjJ ed e3.symm) (Qd ((QHM A h).trans e1.symm)))
  |skip
 all_goals
  have f:k≤9:=by omega
  have hg:=QK4 m (by omega) (by rw[d];omega) (by rw[d];omega) (by rw[d];exact p);rw[d] at hg;have eor:=QHL (k:=k) (v:=v) (c:=c) f (m.2.2.1 f) p (by omega);apply Yw (i64.wrap ((k:Int)+1),lor .u64 (v:Int) (shl .u64 (IntKind.u64.wrap (land .u8 c 127)) (7*(k:Int))),i64.wrap (7*(k:Int)+7));refine Yo ?_ (Yo ?_ (Le.k [] [0] ?hh))
  case hh=>repeat' constructor
  ·exact⟨k+1,_,QJ (by omega),eor,by show i64.wrap (7*(k:Int)+7)=7*((k+1:Nat):Int);rw[w64 (by omega) (by omega)];omega,hg⟩
  ·show((b.length:Int)-i64.wrap ((k:Int)+1)).toNat<((b.length:Int)-(k:Int)).toNat;rw[QJ (by omega)];omega
end Go.Proofs.YtofgbclopbmlcaaGreat

