/- Part 9 of the proof: Fw31 VideoLaw TurnLaw Turn Turn2 Shade Video Video2 Mem DriveO Video3. No statement is handed in here; conditions: none. -/
import Derived.Test.YtofgbclopbmlcaaGreatG8
import Derived.Test.YtofgbclopbmlcaaGreatG5
import Derived.ChangeArms
import Derived.ChangeOld
import Derived.SizedLaws
import Derived.Test.YtofgbclopbmlcaaGreatG6
namespace Go.Fw
open Go.ChangeShapes Go.WideShapes
set_option linter.unusedVariables false
set_option linter.unusedSimpArgs false
def Wf:(u:Ty)→Den u→Prop
 |.int k,x=>(Lit.int k x).wf=true
 |.ints k n,l=>List.length l=n∧∀ x ∈ (l:List Int),(Lit.int k x).wf=true
 |.bool,_=>True
 |.str,s=>ByteArray.size s≤reachBytes
 |.sl t,l=>List.length l*t.by_≤reachBytes∧∀ x ∈ (l:List (Den t)),Wf t x
 |.pair a b,x=>Wf a x.1∧Wf b x.2
theorem Qvh (a:Addr) (x y:Nat):(a.add x).add y=a.add (x+y):=by
 unfold Addr.add
 split<;>split<;>simp_all [Nat.add_assoc]
structure BulkLaw {H:Type} (bk:DataW H→Nat) (ba:List (DataW H)→Nat):Prop where
 cons:∀ d r,bk d+ba r≤ba (d :: r)
 one:∀ d,1≤bk d
 sl:∀ e s,ba e+1≤bk (.slice e s)
 ag:∀ p,ba p≤bk (.agg p)
 st:∀ b,b.length+1≤bk (.lit (.string b))
def bd:(u:Ty)→Den u→Nat
 |.int _,_=>1
 |.ints _ n,_=>n
 |.bool,_=>1
 |.str,s=>ByteArray.size s+1
 |.sl t,l=>(List.map (bd t) l).sum+1
 |.pair a b,x=>bd a x.1+bd b x.2
theorem BulkLaw.len {H:Type} {bk:DataW H→Nat} {ba:List (DataW H)→Nat} (B:BulkLaw bk ba):∀ l,l.length≤ba l
 | []=>Nat.zero_le _
 |d :: r=>by
   have h1:=B.cons d r
   have h2:=B.one d
   have h3:=B.len r
   simp only [List.length_cons]
   omega
def Qi7 (B:Nat→Nat):Nat→Nat
 |0=>0
 |n+1=>Qi7 B n+B n
theorem Qig (B:Nat→Nat):∀ n,Qi7 B (n+1)=B 0+Qi7 (fun i=>B (i+1)) n
 |0=>by simp [Qi7]
 |n+1=>by rw [Qi7,Qig B n,Qi7];omega
theorem BulkLaw.sum {H:Type} {bk:DataW H→Nat} {ba:List (DataW H)→Nat} (B:BulkLaw bk ba):∀ l:List (DataW H),Qi7 (fun i=>bk (l.getD i .nil)) l.length≤ba l
 | []=>Nat.zero_le _
 |d :: r=>by
   have h1:=B.cons d r
   have h2:=B.sum r
   rw [List.length_cons,Qig]
   simp only [List.getD_cons_zero,List.getD_cons_succ]
   omega
theorem Qih {α:Type} {R:α→List Value→Prop} {Q:α→Prop} {m:α→Nat} {B:Nat→Nat} {w:World} {a:Addr} {c:Nat}:∀ (len:Nat),(∀ i,i < len→∃ d r,R d r∧(Q d∧m d≤B i)∧r.length=c∧∀ j,j < c→w.cell? ((a.add (i*c)).add j)=r[j]?) →
 ∃ (l:List α) (us:List Value),l.length=len∧QB R l us∧(∀ x ∈ l,Q x)∧us.length=len*c∧(∀ k u,us[k]?=some u→w.cell? (a.add k)=some u)∧(l.map m).sum≤Qi7 B len
 |0,_=>⟨[],[],rfl,rfl,fun x h=>(by cases h),by simp,fun k u h=>(by simp at h),Nat.le_refl _⟩
 |len+1,h=>by
   obtain ⟨l,us,h1,h2,h3,h4,h5,h6⟩:=Qih len fun i hi=>h i (by omega)
   obtain ⟨d,r,g1,⟨g2,g5⟩,g3,g4⟩:=h len (by omega)
   refine ⟨l++[d],us++r,by simp [h1],h2.append ⟨r,[],by simp,g1,rfl⟩,fun x hx=>?_,by simp [h4,g3,Nat.add_mul],fun k u hk=>?_,by simp [Qi7];omega⟩
   ·rcases List.mem_append.1 hx with hx |hx
    ·exact h3 x hx
    ·simp at hx;subst hx;exact g2
   ·rw [List.getElem?_append] at hk
    split at hk
    ·exact h5 k u hk
    ·have hlt:=(List.getElem?_eq_some_iff.1 hk).1
     have:=g4 (k-us.length) (by omega)
     rw [Qvh] at this
     have e:len*c+(k-us.length)=k:=by omega
     rw [e] at this
     rw [this,hk]
section
variable {H:Type} {enc:TypeId × Value→H} {P:Program} {w:World} {sp:Nat→Bool} {held:Bool}
def QnK (w:World) (g:Nat):Prop:=g < w.heap.size
theorem Qg4 {e:TypeId} {d:DataW H} {n:Nat} (hn:n ∈ DataW.weights P e d):∀ {l:List (DataW H)},d ∈ l→n ∈ DataW.weightsAll P e l
 | [],h=>by cases h
 |x :: l,h=>by
   simp only [DataW.weightsAll,List.mem_append]
   rcases List.mem_cons.1 h with rfl |h
   ·exact .inl hn
   ·exact .inr (Qg4 hn h)
variable {bk:DataW H→Nat} {ba:List (DataW H)→Nat}
theorem Qg5 (B:BulkLaw bk ba) {g:Ty→TypeId→Bool} {n:Nat} (ih:∀ {u:Ty} {t:TypeId} {cs:List Value} {x:DataW H × List MemPlace},g u t=true→(∀ z ∈ DataW.weights P t x.1,z≤reachBytes)→DataW.trod enc P w 0 sp held n t cs=some x→∃ d:Den u,CR w (QnK w) u d cs∧Wf u d∧bd u d≤bk x.1) :
 ∀ (fs:List Field) (u:Ty) (off:Nat) (cs:List Value) (xs:List (DataW H × List MemPlace)),Qd9 P g u fs off=true→off+u.size=cs.length→xs.length=fs.length→(∀ z ∈ DataW.weightsEach P (fs.map (·.type)) (xs.map (·.1)),z≤reachBytes) →
   (∀ (i:Nat) (f:Field),fs[i]?=some f→DataW.trod enc P w 0 sp held n f.type ((cs.drop f.offset).take (P.cellsOf f.type))=xs[i]?)→∃ d:Den u,CR w (QnK w) u d (cs.drop off)∧Wf u d∧bd u d≤ba (xs.map (·.1))
 | [],u,off,cs,xs,h,_,_,_,_=>by simp [Qd9] at h
 | [f],u,off,cs,xs,h,hl,hxl,hz,hx=>by
   simp only [Qd9,Bool.and_eq_true] at h
   obtain ⟨⟨h1,h2⟩,h3⟩:=h
   have h2:=Nat.eq_of_beq_eq_true h2
   have h3:=Nat.eq_of_beq_eq_true h3
   have:=hx 0 f rfl
   have hlt:0 < xs.length:=by rw [hxl];simp
   rw [List.getElem?_eq_getElem hlt,h2,h3,List.take_of_length_le (by simp;omega)] at this
   obtain ⟨d0,c0,w0,b0⟩:=ih h1 (fun z hz'=>hz z (by
    cases xs with
    |nil=>simp at hlt
    |cons y ys=>simp only [List.map_cons,DataW.weightsEach,List.mem_append];exact .inl hz')) this
   refine ⟨d0,c0,w0,?_⟩
   cases xs with
   |nil=>simp at hlt
   |cons y ys =>
     have:=B.cons y.1 (ys.map (·.1))
     simp only [List.map_cons]
     simp only [List.getElem_cons_zero] at b0
     omega
 |f :: f' :: fs,u,off,cs,xs,h,hl,hxl,hz,hx=>by
   unfold Qd9 at h
   split at h
   ·rename_i a b
    simp only [Bool.and_eq_true] at h
    obtain ⟨⟨⟨h1,h2⟩,h3⟩,h4⟩:=h
    have h2:=Nat.eq_of_beq_eq_true h2
    have h3:=Nat.eq_of_beq_eq_true h3
    have h0:=hx 0 f rfl
    have hlt:0 < xs.length:=by rw [hxl];simp
    rw [List.getElem?_eq_getElem hlt,h2,h3] at h0
    have hz1:∀ z ∈ DataW.weights P f.type xs[0].1,z≤reachBytes:=fun z hz'=>hz z (by
     cases xs with
     |nil=>simp at hlt
     |cons y ys=>simp only [List.map_cons,DataW.weightsEach,List.mem_append];exact .inl hz')
    have hz2:∀ z ∈ DataW.weightsEach P ((f' :: fs).map (·.type)) (xs.tail.map (·.1)),z≤reachBytes:=fun z hz'=>hz z (by
     cases xs with
     |nil=>simp at hlt
     |cons y ys=>rw [show ((f :: f' :: fs).map (·.type))=f.type :: (f' :: fs).map (·.type) from rfl,show ((y :: ys).map (·.1))=y.1 :: ys.map (·.1) from rfl,DataW.weightsEach,List.mem_append];exact .inr hz')
    obtain ⟨d1,c1,w1,b1⟩:=ih h1 hz1 h0
    obtain ⟨d2,c2,w2,b2⟩:=Qg5 B ih (f' :: fs) b (off+a.size) cs xs.tail h4 (by simp only [Ty.size] at hl;omega) (by simp [hxl]) hz2 fun i g hg=>by
     have:=hx (i+1) g (by simpa using hg)
     rw [this]
     cases xs with
     |nil=>simp at hlt
     |cons y ys=>simp
    refine ⟨(d1,d2),⟨_,_,by rw [← List.drop_drop,List.take_append_drop],c1,c2⟩,⟨w1,w2⟩,?_⟩
    cases xs with
    |nil=>simp at hlt
    |cons y ys =>
      have:=B.cons y.1 (ys.map (·.1))
      simp only [List.map_cons,bd]
      simp only [List.getElem_cons_zero] at b1
      simp only [List.tail_cons] at b2
      omega
   ·cases h
theorem Qpt {t e:TypeId} {m fuel:Nat} {cs:List Value} {x:DataW H × List MemPlace} (ht:P.underlying t=some (.array m e)) (h:DataW.trod enc P w 0 sp held fuel t cs=some x) :
 ∃ (xs:List (DataW H × List MemPlace)) (n:Nat),x.1=.agg (xs.map (·.1))∧cs.length=P.cellsOf t∧xs.length=m∧∀ i,i < m→DataW.trod enc P w 0 sp held n e ((cs.drop (i*P.cellsOf e)).take (P.cellsOf e))=xs[i]?:=by
 cases fuel with
 |zero=>simp [DataW.trod] at h
 |succ n =>
   unfold DataW.trod at h
   rw [ht] at h
   split at h<;>simp_all
   obtain ⟨hl,xs,hp,hd⟩:=h
   exact ⟨xs,by rw [← hd],by simpa using mapM_some_length hp,n,fun i hi=>mapM_some_get hp i i (by simp [hi])⟩
theorem Qrw {k:IntKind}:∀ (cs:List Value),(∀ i,i < cs.length→∃ n:Int,cs[i]?=some (.int k n)∧(Lit.int k n).wf=true)→∃ l:List Int,cs=l.map (.int k)∧∀ x ∈ l,(Lit.int k x).wf=true
 | [],_=>⟨[],rfl,fun x h=>(by cases h)⟩
 |v :: cs,h=>by
   obtain ⟨n,h1,h2⟩:=h 0 (by simp)
   simp at h1
   subst h1
   obtain ⟨l,rfl,h3⟩:=Qrw cs fun i hi=>by simpa using h (i+1) (by simpa using hi)
   refine ⟨n :: l,rfl,fun x hx=>?_⟩
   rcases List.mem_cons.1 hx with rfl |hx
   ·exact h2
   ·exact h3 x hx
theorem Qmc (B:BulkLaw bk ba):∀ (m:Nat) {u:Ty} {t:TypeId} {fuel:Nat} {cs:List Value} {x:DataW H × List MemPlace},QaX P m u t=true→(∀ z ∈ DataW.weights P t x.1,z≤reachBytes)→DataW.trod enc P w 0 sp held fuel t cs=some x→∃ d:Den u,CR w (QnK w) u d cs∧Wf u d∧bd u d≤bk x.1
 |0,_,_,_,_,_,h,_,_=>by cases h
 |m+1,u,t,fuel,cs,x,h,hz,hx=>by
   unfold QaX at h
   split at h
   ·rename_i hu
    obtain ⟨b,rfl,_⟩:=DataW.trod_bool hu hx
    exact ⟨b,rfl,trivial,B.one _⟩
   ·rename_i k k' hu
    simp only [decide_eq_true_eq] at h
    subst h
    obtain ⟨n,rfl,_,hw⟩:=DataW.trod_int hu hx
    exact ⟨n,rfl,hw,B.one _⟩
   ·rename_i hu
    obtain ⟨s,rfl,rfl,hs⟩:=DataW.trod_string hu hx
    exact ⟨s,rfl,by show ByteArray.size s≤reachBytes;simpa using hz s.data.toList.length (by simp [DataW.weights]),by have:=B.st s.data.toList;rw [Array.length_toList] at this;exact this⟩
   ·rename_i e v hu
    simp only [Bool.and_eq_true] at h
    obtain ⟨⟨⟨h1,h2⟩,h3⟩,h4⟩:=h
    have h2:=Nat.eq_of_beq_eq_true h2
    have h3:1≤v.size:=by simpa using h3
    have h4:v.by_≤P.bytesOf e:=by simpa using h4
    rcases DataW.trod_slice hu hx with ⟨rfl,_⟩ |⟨a,len,cap,elems,rest,n,rfl,rfl,rfl,hb,hl,hm,hlen,hel,_,_⟩
    ·exact ⟨[],⟨_,rfl,none,0,rfl,Nat.le_refl _,fun hne=>absurd rfl hne⟩,⟨by simp [Nat.zero_le],fun x hx=>(by cases hx)⟩,B.one _⟩
    ·have hw0:∀ d ∈ elems.map (·.1),∀ z ∈ DataW.weights P e d,z≤reachBytes:=fun d hd z hz'=>hz z (by
      simp only [DataW.weights,hu,List.mem_cons,List.mem_append]
      exact .inr (.inl (Qg4 hz' hd)))
     have each:∀ i,i < len→∃ (d:Den v) (r:List Value),CR w (QnK w) v d r∧(Wf v d∧bd v d≤bk ((elems.map (·.1)).getD i .nil))∧r.length=v.size∧∀ j,j < v.size→w.cell? ((a.add (i*v.size)).add j)=r[j]?:=by
      intro i hi
      have:=hel i hi
      rw [List.getElem?_eq_getElem (by omega),h2] at this
      obtain ⟨r,hr,ht⟩:=Option.bind_eq_some_iff.1 this
      obtain ⟨_,hrl,hrc⟩:=World.cells?_some hr
      obtain ⟨d,c1,w1,b1⟩:=Qmc B m h1 (hw0 _ (List.mem_map_of_mem (List.getElem_mem (by omega)))) ht
      exact ⟨d,r,c1,⟨w1,by rw [List.getD_eq_getElem?_getD,List.getElem?_map,List.getElem?_eq_getElem (by omega)];exact b1⟩,hrl,hrc⟩
     obtain ⟨l,us,e1,e2,e3,e4,e5,e6⟩:=Qih (B:=fun i=>bk ((elems.map (·.1)).getD i .nil)) len each
     refine ⟨l,⟨_,rfl,some a,cap,by rw [e1],by omega,fun hne=>⟨a,us,rfl,?_,e2,e5⟩⟩,⟨?_,e3⟩,?_⟩
     rotate_left
     ·have:=hz ((elems.length+rest.length)*P.bytesOf e) (by simp [DataW.weights,hu])
      have k1:l.length*v.by_≤(elems.length+rest.length)*P.bytesOf e:=Nat.mul_le_mul (by omega) h4
      exact Nat.le_trans k1 this
     ·have k1:=B.sum (elems.map (·.1))
      rw [List.length_map,show elems.length=len by omega] at k1
      have k2:=B.sl (elems.map (·.1)) (rest.map (·.1))
      simp only [bd]
      exact Nat.le_trans (Nat.succ_le_succ (Nat.le_trans e6 k1)) k2
     have hlen0:0 < len:=by
      rw [← e1]
      exact List.length_pos_iff.2 hne
     have:=hel 0 hlen0
     rw [List.getElem?_eq_getElem (by omega),h2] at this
     obtain ⟨r,hr,_⟩:=Option.bind_eq_some_iff.1 this
     have hb:=World.cells?_block hr (by omega)
     have hbl:(a.add (0*v.size)).block=a.block:=by unfold Addr.add;split<;>rfl
     rw [hbl] at hb
     exact hb
   ·rename_i u F hu
    rw [Bool.and_eq_true] at h
    obtain ⟨xs,n,rfl,rfl,hl,hxl,hf⟩:=DataW.trod_struct hu hx
    have hz':∀ z ∈ DataW.weightsEach P (F.toList.map (·.type)) (xs.map (·.1)),z≤reachBytes:=fun z h=>hz z (by simp only [DataW.weights,hu];exact h)
    have h2:=Nat.eq_of_beq_eq_true h.2
    have:=Qg5 B (g:=QaX P m) (fun h1 h2 h3=>Qmc B m h1 h2 h3) F.toList _ 0 cs xs h.1 (by omega) (by simpa using hxl) hz' fun i f hi=>hf i f (by rw [← Array.getElem?_toList];exact hi)
    obtain ⟨d,c1,w1,b1⟩:=this
    exact ⟨d,by simpa using c1,w1,Nat.le_trans b1 (B.ag _)⟩
   ·rename_i hu
    split at h
    ·rename_i k' he
     simp only [Bool.and_eq_true,decide_eq_true_eq] at h
     obtain ⟨⟨⟨rfl,h2⟩,h3⟩,h4⟩:=h
     have h2:=Nat.eq_of_beq_eq_true h2
     have h3:=Nat.eq_of_beq_eq_true h3
     have h4:=Nat.eq_of_beq_eq_true h4
     obtain ⟨xs,n,hx1,hl,hxl,hf⟩:=Qpt hu hx
     obtain ⟨l,rfl,hw⟩:=Qrw cs fun i hi=>by
      have:=hf i (by omega)
      rw [h3,List.getElem?_eq_getElem (by omega)] at this
      obtain ⟨z,hz,_,hwz⟩:=DataW.trod_int he this
      refine ⟨z,?_,hwz⟩
      have:=congrArg (·[0]?) hz
      simpa [List.getElem?_take] using this
     exact ⟨l,⟨by simp at hl;omega,rfl⟩,⟨by simp at hl;omega,hw⟩,by rw [hx1];have k:=B.len (xs.map (·.1));rw [List.length_map] at k;simp only [bd];have k2:=B.ag (xs.map (·.1));omega⟩
    ·cases h
   ·cases h
end
end Go.Fw

namespace Go.Proofs.YtofgbclopbmlcaaGreat
open Go.Fw
set_option linter.unusedVariables false
set_option linter.unusedSimpArgs false
abbrev bA (m:List Int) (i:Nat):Int:=m.getD i 0
def u8s (m:List Int):Prop:=∀ x ∈ m,0≤x∧x < 256
instance (m:List Int):Decidable (u8s m):=by unfold u8s;exact inferInstance
theorem Qda {m:List Int} (h:u8s m) (i:Nat):0≤bA m i∧bA m i < 256:=by
 unfold bA
 rw [List.getD_eq_getElem?_getD]
 cases hi:m[i]? with
 |none=>exact ⟨by decide,by decide⟩
 |some x=>exact h x (List.mem_of_getElem? hi)
theorem QxQ {l:List Int} (h:∀ x ∈ l,Wf (.int .u8) x):u8s l:=by
 intro x hx
 have h2:(decide (IntKind.u8.min≤x)&&decide (x≤IntKind.u8.max))=true:=h x hx
 have e1:IntKind.u8.min=0:=by decide +kernel
 have e2:IntKind.u8.max=255:=by decide +kernel
 rw [e1,e2] at h2
 simp only [Bool.and_eq_true,decide_eq_true_eq] at h2
 exact ⟨h2.1,by omega⟩
def Qmd (pos:Int):Bool:=decide (pos%64 < 48)&&decide (pos/64 < 32)
def QeZ (m:List Int) (pos:Int):Int:=bA m (8+pos/64/8*6+pos%64/8).toNat%16
def Q2 (m:List Int) (pos:Int):Bool :=
 (decide (bA m 1≤pos%64)&&decide (pos%64 < bA m 1+8))&&((decide (bA m 2≤pos/64)&&decide (pos/64 < bA m 2+8))&&decide (bA m 4/2 ^ (7-(pos%64-bA m 1)).toNat%2=1))
def Qbf (m:List Int) (pos:Int) (i:Nat):Bool :=
 decide (pos%64=bA m 1+i)&&((decide (bA m 2≤pos/64)&&decide (pos/64 < bA m 2+8))&&decide (bA m 4/2 ^ (7-i)%2=1))
theorem Qpu {m:List Int} {pos:Int} {i:Nat} (hi:i < 8) (h:Qbf m pos i=true):Q2 m pos=true:=by
 unfold Qbf at h
 simp only [Bool.and_eq_true,decide_eq_true_eq] at h
 obtain ⟨h1,h2,h3⟩:=h
 unfold Q2
 simp only [Bool.and_eq_true,decide_eq_true_eq]
 refine ⟨⟨by omega,by omega⟩,h2,?_⟩
 have e:(7-(pos%64-bA m 1)).toNat=7-i:=by omega
 rw [e];exact h3
theorem Qrx {m:List Int} {pos:Int} (h:∀ i,i < 8→Qbf m pos i=false):Q2 m pos=false:=by
 cases hs:Q2 m pos with
 |false=>rfl
 |true =>
   exfalso
   unfold Q2 at hs
   simp only [Bool.and_eq_true,decide_eq_true_eq] at hs
   obtain ⟨⟨h1,h2⟩,h3,h4⟩:=hs
   have:=h (pos%64-bA m 1).toNat (by omega)
   have ht:Qbf m pos (pos%64-bA m 1).toNat=true:=by
    unfold Qbf
    simp only [Bool.and_eq_true,decide_eq_true_eq]
    refine ⟨by omega,h3,?_⟩
    have e:(7-(pos%64-bA m 1)).toNat=7-(pos%64-bA m 1).toNat:=by omega
    rw [← e];exact h4
   rw [ht] at this
   cases this
def Qbg (m:List Int) (pos:Int):Int:=if Qmd pos=true then (if Q2 m pos=true then bA m 3%16 else QeZ m pos) else bA m 0%16
def Qf1 (m:List Int) (pos:Int):Bool:=Qmd pos&&(Q2 m pos&&decide (QeZ m pos≠0))
theorem Qvi (m:List Int) (pos:Int):0≤QeZ m pos∧QeZ m pos < 16:=by unfold QeZ;omega
theorem Qvj:∀ x,x < 256→∀ i,i < 8→(shl .u8 ((x:Nat):Int) ((i:Nat):Int)≥128 ↔ x/2 ^ (7-i)%2=1):=by decide +kernel
theorem Qry:∀ x,x < 256→∀ i,i < 8→(land .u8 (shr .u8 ((x:Nat):Int) ((i:Nat):Int)) 1=1 ↔ x/2 ^ i%2=1):=by decide +kernel
theorem QkJ {x:Int} (h:0≤x∧x < 256) {i:Nat} (hi:i < 8):shl .u8 x ((i:Nat):Int)≥128 ↔ x/2 ^ (7-i)%2=1:=by
 obtain ⟨n,rfl⟩:=Int.eq_ofNat_of_zero_le h.1
 rw [Qvj n (by omega) i hi]
 have e:((n:Int)/2 ^ (7-i)%2)=((n/2 ^ (7-i)%2:Nat):Int):=by simp
 rw [e];omega
theorem Qpv {x:Int} (h:0≤x∧x < 256) {i:Nat} (hi:i < 8):land .u8 (shr .u8 x ((i:Nat):Int)) 1=1 ↔ x/2 ^ i%2=1:=by
 obtain ⟨n,rfl⟩:=Int.eq_ofNat_of_zero_le h.1
 rw [Qry n (by omega) i hi]
 have e:((n:Int)/2 ^ i%2)=((n/2 ^ i%2:Nat):Int):=by simp
 rw [e];omega
theorem QBU:∀ n,n < 256→land .i64 ((n:Nat):Int) 15=((n:Nat):Int)%16:=by decide +kernel
theorem Qme {x:Int} (h:0≤x∧x < 256):land .i64 (IntKind.i64.wrap x) 15=x%16:=by
 rw [w64 (by omega) (by omega)]
 obtain ⟨n,rfl⟩:=Int.eq_ofNat_of_zero_le h.1
 exact QBU n (by omega)
def vP (N:List Int):Int:=if N.length=0 then 2559 else N.getD 0 0%2560
abbrev vH (N:List Int):Int:=N.getD 1 0%2
def vN (N:List Int):List Int:=[vP N,vH N]
def vM (M:List Int):List Int:=over (List.replicate 32 0) M 0
theorem Qeu (N:List Int):0≤vP N∧vP N < 2560:=by unfold vP;split<;>omega
theorem Qbh (M:List Int):(vM M).length=32:=by unfold vM;rw [QbW];rfl
theorem Qf9 {M:List Int} (h:u8s M):u8s (vM M):=by
 intro x hx
 have:∀ (l:List Int) (i:Nat),(∀ y ∈ l,0≤y∧y < 256)→∀ y ∈ over l M i,0≤y∧y < 256:=by
  intro l
  induction l with
  |nil=>intro i _ y hy;cases hy
  |cons d l ih =>
    intro i hl y hy
    rcases List.mem_cons.1 hy with rfl |hy
    ·rw [List.getD_eq_getElem?_getD]
     cases hi:M[i]? with
     |none=>exact hl d (List.mem_cons_self)
     |some z=>exact h z (List.mem_of_getElem? hi)
    ·exact ih (i+1) (fun y hy=>hl y (List.mem_cons_of_mem _ hy)) y hy
 exact this _ 0 (fun y hy=>by rw [List.eq_of_mem_replicate hy];decide) x hx
theorem cell_at {pos:Int} (hp0:0≤pos) (hp1:pos < 2560):IntKind.i64.wrap (IntKind.i64.wrap (8+IntKind.i64.wrap (IntKind.i64.wrap (Int.tdiv (IntKind.i64.wrap (Int.tdiv pos 64)) 8)*6))+IntKind.i64.wrap (Int.tdiv (Int.tmod pos 64) 8))=8+pos/64/8*6+pos%64/8:=by
 have eq64:IntKind.i64.wrap (Int.tdiv pos 64)=pos/64:=by rw [Int.tdiv_eq_ediv_of_nonneg hp0,w64 (by omega) (by omega)]
 have er64:Int.tmod pos 64=pos%64:=Int.tmod_eq_emod_of_nonneg hp0
 rw [eq64,er64,Int.tdiv_eq_ediv_of_nonneg (show 0≤pos/64 by omega),Int.tdiv_eq_ediv_of_nonneg (show 0≤pos%64 by omega),w64 (x:=pos/64/8) (by omega) (by omega),w64 (x:=pos/64/8*6) (by omega) (by omega),
  w64 (x:=8+pos/64/8*6) (by omega) (by omega),w64 (x:=pos%64/8) (by omega) (by omega),w64 (by omega) (by omega)]
def Qcf (m:List Int):List Int→List Int
 | [p,h]=>[(p+1)%2560,if Qf1 m ((p+1)%2560)=true then 1 else h]
 |l=>l
def Qpw (m:List Int) (p:Int) (n:Nat):Bool:=(List.range n).any fun j=>Qf1 m ((p+1+j)%2560)
theorem Qrz (m:List Int) (p:Int) (n:Nat):Qpw m p (n+1)=(Qpw m p n||Qf1 m ((p+1+n)%2560)):=by
 unfold Qpw
 rw [List.range_succ,List.any_append];simp
theorem Qzx (m:List Int) {p h:Int} (hp:0≤p∧p < 2560):∀ n,QP (Qcf m) n [p,h]=[(p+n)%2560,if Qpw m p n=true then 1 else h]
 |0=>by
   rw [QP]
   have e:(p+((0:Nat):Int))%2560=p:=by omega
   rw [e];rfl
 |n+1=>by
   rw [QaF,Qzx m hp n,Qcf,Qrz]
   have e:((p+(n:Int))%2560+1)%2560=(p+((n+1:Nat):Int))%2560:=by omega
   have e2:(p+1+(n:Int))%2560=(p+((n+1:Nat):Int))%2560:=by omega
   rw [e,e2]
   cases Qf1 m ((p+((n+1:Nat):Int))%2560)<;>cases Qpw m p n<;>rfl
theorem QrA {m:List Int} {p:Int} {a b:Nat} (h:a≤b) (ha:Qpw m p a=true):Qpw m p b=true:=by
 unfold Qpw at *
 rw [List.any_eq_true] at *
 obtain ⟨j,hj,hh⟩:=ha
 exact ⟨j,List.mem_range.2 (by have:=List.mem_range.1 hj;omega),hh⟩
theorem QnL {m:List Int} {p:Int} {a:Nat} (h:2560≤a):Qpw m p a=Qpw m p 2560:=by
 cases h2:Qpw m p 2560 with
 |true=>exact QrA h h2
 |false =>
   cases ha:Qpw m p a with
   |false=>rfl
   |true =>
     exfalso
     unfold Qpw at ha h2
     rw [List.any_eq_true] at ha
     obtain ⟨j,hj,hh⟩:=ha
     rw [List.any_eq_false] at h2
     refine h2 (j%2560) (List.mem_range.2 (by omega)) ?_
     have e:(p+1+((j%2560:Nat):Int))%2560=(p+1+(j:Int))%2560:=by omega
     rw [e];exact hh
theorem QrB (m:List Int) {p h:Int} (hp:0≤p∧p < 2560) {n:Nat} (hn:5120 < n):QP (Qcf m) n [p,h]=QP (Qcf m) (2560+n%2560) [p,h]:=by
 rw [Qzx m hp,Qzx m hp,QnL (by omega),QnL (a:=2560+n%2560) (by omega)]
 have e:(p+(n:Int))%2560=(p+((2560+n%2560:Nat):Int))%2560:=by omega
 rw [e]
abbrev DS:=List Int × List Int
def Qb3 {α:Type} (f:α→α):Nat→α→α
 |0,l=>l
 |n+1,l=>Qb3 f n (f l)
theorem QkK {α:Type} (f:α→α):∀ (m n:Nat) (l:α),Qb3 f (m+n) l=Qb3 f n (Qb3 f m l)
 |0,n,l=>by rw [Nat.zero_add];rfl
 |m+1,n,l=>by
   have e:m+1+n=(m+n)+1:=by omega
   rw [e]
   exact QkK f m n (f l)
theorem QkL {α:Type} {f:α→α} {l:α} (h:f l=l):∀ n,Qb3 f n l=l
 |0=>rfl
 |n+1=>by rw [Qb3,h];exact QkL h n
def atI (k t s i:Int):Int:=256*k-256+64*t+16*s+i
def toI (c t:Int):Int:=if c=1 then (if t+1 < 4 then t+1 else t) else (if 0≤t-1 then t-1 else t)
def Qga:DS→DS
 |([k,t,c,s,i,l,d,r,o,x],m) =>
   if c < 3 then ([k,toI c t,0,s,i,0,d,r,o,x],m)
   else if i+1=16 then ([k,t,0,s,0,0,if c=3 then m.getD (atI k t s i).toNat 0 else d,if c=4 then 0 else 1,if r=1 then 1 else o,x],if c=3 then m else m.set (atI k t s i).toNat d)
   else ([k,t,c,s,i+1,20,if c=3 then m.getD (atI k t s i).toNat 0 else d,1,if r=1 then 1 else o,x],if c=3 then m else m.set (atI k t s i).toNat d)
 |s=>s
def Qbs:DS→DS
 |([k,t,c,s,i,l,d,r,o,x],m) =>
   if c > 0 then
    (if c > 2∧k=0 then ([k,t,0,s,i,l,d,r,o,x],m)
     else if l > 1 then ([k,t,c,s,i,l-1,d,r,o,x],m)
     else Qga ([k,t,c,s,i,l,d,r,o,x],m))
   else ([k,t,c,s,i,l,d,r,o,x],m)
 |s=>s
inductive dOk (q:Nat):List Int→Prop
 |mk {k t c s i l d r o x:Int} (hk:0≤k∧k≤q∧k < 256) (ht:0≤t∧t < 4) (hc:0≤c∧c≤4) (hs:0≤s∧s < 4) (hi:0≤i∧i < 16) (hl:0≤l∧l < 64) (hd:0≤d∧d < 256) (hr:0≤r∧r < 2) (ho:0≤o∧o < 2) (hx:0≤x∧x < 2):dOk q [k,t,c,s,i,l,d,r,o,x]
theorem dOk.len {q:Nat} {l:List Int} (h:dOk q l):l.length=10:=by cases h;rfl
theorem Qvk (N:List Int) (q:Nat):dOk q (dN N q):=by
 refine ⟨?_,by omega,?_,by omega,by omega,by omega,by omega,by omega,by omega,by omega⟩
 ·split<;>omega
 ·split<;>omega
structure DOk (q:Nat) (s:DS):Prop where
 n:dOk q s.1
 m:s.2.length=q*256
 u:u8s s.2
theorem Qmf {m:List Int} (h:u8s m) {d:Int} (hd:0≤d∧d < 256) (i:Nat):u8s (m.set i d):=by
 intro x hx
 rcases List.mem_or_eq_of_mem_set hx with h1 |rfl
 ·exact h x h1
 ·exact hd
theorem QBV {c t:Int} (h:0≤t∧t < 4):0≤toI c t∧toI c t < 4:=by
 unfold toI
 split<;>split<;>omega
theorem Qi8 {q:Nat} {s:DS} (h:DOk q s):DOk q (Qga s):=by
 obtain ⟨n,m⟩:=s
 obtain ⟨hn,hm,hu⟩:=h
 have hm:m.length=q*256:=hm
 have hu:u8s m:=hu
 cases hn with
 |mk hk ht hc hs hi hl hd hr ho hx =>
   rename_i k t c s i l d r o x
   have hb:=Qda hu (atI k t s i).toNat
   have hb:0≤m.getD (atI k t s i).toNat 0∧m.getD (atI k t s i).toNat 0 < 256:=hb
   have hdd:0≤(if c=3 then m.getD (atI k t s i).toNat 0 else d)∧(if c=3 then m.getD (atI k t s i).toNat 0 else d) < 256:=by split<;>assumption
   have hoo:0≤(if r=1 then 1 else o)∧(if r=1 then 1 else o) < 2:=by split<;>omega
   have hlen:(if c=3 then m else m.set (atI k t s i).toNat d).length=q*256:=by split<;>simp [hm]
   have huu:u8s (if c=3 then m else m.set (atI k t s i).toNat d):=by
    split
    ·exact hu
    ·exact Qmf hu hd _
   rw [Qga]
   by_cases h1:c < 3
   ·rw [if_pos h1]
    exact ⟨⟨hk,QBV ht,by omega,hs,hi,by omega,hd,hr,ho,hx⟩,hm,hu⟩
   ·rw [if_neg h1]
    by_cases h2:i+1=16
    ·rw [if_pos h2]
     exact ⟨⟨hk,ht,by omega,hs,by omega,by omega,hdd,by split<;>omega,hoo,hx⟩,hlen,huu⟩
    ·rw [if_neg h2]
     exact ⟨⟨hk,ht,hc,hs,by omega,by omega,hdd,by omega,hoo,hx⟩,hlen,huu⟩
theorem Qvl {q:Nat} {s:DS} (h:DOk q s):DOk q (Qbs s):=by
 obtain ⟨n,m⟩:=s
 have h0:=h
 obtain ⟨hn,hm,hu⟩:=h
 have hm:m.length=q*256:=hm
 have hu:u8s m:=hu
 cases hn with
 |mk hk ht hc hs hi hl hd hr ho hx =>
   rename_i k t c s i l d r o x
   rw [Qbs]
   by_cases h1:c > 0
   ·rw [if_pos h1]
    by_cases h2:c > 2∧k=0
    ·rw [if_pos h2]
     exact ⟨⟨hk,ht,by omega,hs,hi,hl,hd,hr,ho,hx⟩,hm,hu⟩
    ·rw [if_neg h2]
     by_cases h3:l > 1
     ·rw [if_pos h3]
      exact ⟨⟨hk,ht,hc,hs,hi,by omega,hd,hr,ho,hx⟩,hm,hu⟩
     ·rw [if_neg h3];exact Qi8 h0
   ·rw [if_neg h1];exact h0
theorem QkM {k t c s i l d r o x:Int} {m:List Int} (hc:¬ c > 0) (n:Nat):Qb3 Qbs n ([k,t,c,s,i,l,d,r,o,x],m)=([k,t,c,s,i,l,d,r,o,x],m) :=
 QkL (by rw [Qbs,if_neg hc]) n
theorem QrC {k t c s i l d r o x:Int} {m:List Int} (hc:c > 2) (hk:k=0) {n:Nat} (hn:0 < n):Qb3 Qbs n ([k,t,c,s,i,l,d,r,o,x],m)=([k,t,0,s,i,l,d,r,o,x],m):=by
 obtain ⟨n,rfl⟩:∃ n',n=n'+1:=⟨n-1,by omega⟩
 rw [Qb3,Qbs,if_pos (by omega),if_pos ⟨hc,hk⟩]
 exact QkM (by decide) n
theorem Qe0 {k t c s i d r o x:Int} {m:List Int} (hc:c > 0) (hk:¬ (c > 2∧k=0)):∀ (n:Nat) (l:Int),(n:Int) < l→Qb3 Qbs n ([k,t,c,s,i,l,d,r,o,x],m)=([k,t,c,s,i,l-n,d,r,o,x],m)
 |0,l,_=>by rw [Qb3];simp
 |n+1,l,h=>by
   rw [Qb3,Qbs,if_pos hc,if_neg hk,if_pos (by omega),Qe0 hc hk n (l-1) (by omega)]
   have:l-1-(n:Int)=l-((n+1:Nat):Int):=by omega
   rw [this]
theorem Qpx {k t c s i l l' d r o x:Int} {m:List Int}:Qga ([k,t,c,s,i,l,d,r,o,x],m)=Qga ([k,t,c,s,i,l',d,r,o,x],m):=rfl
theorem QkN {k t c s i l d r o x:Int} {m:List Int} (hc:c > 0) (hk:¬ (c > 2∧k=0)) (hl:0≤l) {n:Nat} (hn:0 < n) (h:¬ (n:Int) < l) :
 Qb3 Qbs n ([k,t,c,s,i,l,d,r,o,x],m)=Qb3 Qbs ((n:Int)-max 1 l).toNat (Qga ([k,t,c,s,i,0,d,r,o,x],m)):=by
 have e:n=(l-1).toNat+(((n:Int)-max 1 l).toNat+1):=by omega
 rw [e,QkK]
 have e2:Qb3 Qbs (l-1).toNat ([k,t,c,s,i,l,d,r,o,x],m)=([k,t,c,s,i,l-((l-1).toNat:Nat),d,r,o,x],m):=by
  by_cases h0:l=0
  ·subst h0
   show Qb3 Qbs 0 _=_
   rw [Qb3];simp
  ·exact Qe0 hc hk _ _ (by omega)
 have e3:(((l-1).toNat+(((n:Int)-max 1 l).toNat+1):Nat):Int)=n:=by omega
 rw [e2,e3,Qb3,Qbs,if_pos hc,if_neg hk,if_neg (by omega)]
 rw [Qpx (l':=0)]
def Qmg:List Int→Int
 | [k,t,c,s,i,l,d,r,o,x]=>atI k t s i
 |_=>0
def QBW (s:DS):Prop:=0 < s.1.getD 2 0∧(2 < s.1.getD 2 0→0 < s.1.getD 0 0)∧s.1.getD 5 0=0
theorem QxR {k t s i:Int} {q:Nat} (hk:0 < k∧k≤q) (ht:0≤t∧t < 4) (hs:0≤s∧s < 4) (hi:0≤i∧i < 16):0≤atI k t s i∧atI k t s i < ((q*256:Nat):Int):=by
 unfold atI;omega
theorem l10 {a b c d e f g h i j a' b' c' d' e' f' g' h' i' j':Int} (h1:a=a') (h2:b=b') (h3:c=c') (h4:d=d') (h5:e=e') (h6:f=f') (h7:g=g') (h8:h=h') (h9:i=i') (h10:j=j'):[a,b,c,d,e,f,g,h,i,j]=[a',b',c',d',e',f',g',h',i',j']:=by rw [h1,h2,h3,h4,h5,h6,h7,h8,h9,h10]
theorem Qzy {k t s i:Int} (hk:0≤k∧k < 256) (ht:0≤t∧t < 4) (hs:0≤s∧s < 4) (hi:0≤i∧i < 16) :
 IntKind.i64.wrap (IntKind.i64.wrap (IntKind.i64.wrap (IntKind.i64.wrap (IntKind.i64.wrap (256*k)-256)+IntKind.i64.wrap (64*t))+IntKind.i64.wrap (16*s))+i)=atI k t s i:=by
 rw [w64 (x:=256*k) (by omega) (by omega),w64 (x:=256*k-256) (by omega) (by omega),w64 (x:=64*t) (by omega) (by omega),w64 (x:=256*k-256+64*t) (by omega) (by omega),w64 (x:=16*s) (by omega) (by omega),
  w64 (x:=256*k-256+64*t+16*s) (by omega) (by omega),w64 (by omega) (by omega)];rfl
theorem or1 {o r:Int} (ho:0≤o∧o < 2) (hr:0≤r∧r < 2):lor .i64 o r=if r=1 then 1 else o:=by
 have a1:o=0∨o=1:=by omega
 have a2:r=0∨r=1:=by omega
 rcases a1 with rfl |rfl<;>rcases a2 with rfl |rfl<;>decide +kernel
set_option maxRecDepth 100000
theorem QxS {x:Int} (h:0≤x∧x < 256):IntKind.u8.wrap x=x:=by
 show x%256=x
 omega
theorem Qmh {l l' m m':List Int} (h:l=l') (h2:m=m'):[some (Blk.arr (.int .i64) l),some (Blk.arr (.int .u8) m)]=[some (Blk.arr (.int .i64) l'),some (Blk.arr (.int .u8) m')]:=by rw [h,h2]
def QrD:Qk:=⟨[gl],fun (l,_)=>(some (∃ q,dOk q l),I (Qmg l),[])⟩
theorem QrE:Qi Tryz.prog 257 QrD.spec:=by
 have hP:Qe Tryz.prog _:=(Qc (T:=tree))
 have hT:=tabs hP Qf
 refine QrD.good (fn:=Tryz.f257) hT hP Tryz.func257 (by kernel_rfl) rfl fun (l:List Int) hq=>?_
 obtain ⟨q,hp⟩:∃ q,dOk q l:=hq _ rfl
 cases hp with
 |mk hk ht hc hs hi hl hd hr ho hx =>
 rename_i k t c s i l d r o x
 repeat' first |(refine Go.mk ?_;conv=>whnf) |refine Ql.go ?_ ?_ |refine Qm.go (fun _=>?_) (fun _=>?_) |refine Br.dec (fun _=>?_) (fun _=>?_) |refine Br.go (fun _=>?_) (fun _=>?_) |refine Qd hT hP mixed ?_ |refine Qb hT hP ?_
 all_goals first
  |exact of_decide_eq_true rfl
  |(refine .mk [] [] _ R R R R R R (Qg ?_)
     show IntKind.i64.wrap (IntKind.i64.wrap (IntKind.i64.wrap (IntKind.i64.wrap (k-1)*256)+IntKind.i64.wrap (IntKind.i64.wrap (IntKind.i64.wrap (t*4)+s)*16))+i)=atI k t s i
     rw [w64 (x:=k-1) (by omega) (by omega),w64 (x:=t*4) (by omega) (by omega),w64 (x:=(k-1)*256) (by omega) (by omega),w64 (x:=t*4+s) (by omega) (by omega),w64 (x:=(t*4+s)*16) (by omega) (by omega),
      w64 (x:=(k-1)*256+(t*4+s)*16) (by omega) (by omega),w64 (by omega) (by omega)]
     unfold atI;omega)
  |skip
def Qvm:List V1→List Blk→Option DS:=fun a b=>(match a,b with | [.c (.own 0),.c (.own 1)],[.arr (.int .i64) l,.arr (.int .u8) m]=>some (l,m) |_,_=>none)
theorem QnM {a:List V1} {b:List Blk} {x:DS} (h:Qvm a b=some x):a=[.c (.own 0),.c (.own 1)]∧b=[.arr (.int .i64) x.1,.arr (.int .u8) x.2]:=by
 unfold Qvm at h
 split at h
 ·injection h with h;subst h;exact ⟨rfl,rfl⟩
 ·cases h
theorem QBX (k t c s i l d r o x:Int):Qmg [k,t,c,s,i,l,d,r,o,x]=atI k t s i:=rfl
theorem QrF {c t:Int} (ht:0≤t∧t < 4) (hc:c=1∨c=2):imax 0 (imin (IntKind.i64.wrap (IntKind.i64.wrap (t+3)-IntKind.i64.wrap (2*c))) 3)=toI c t:=by
 rw [w64 (x:=t+3) (by omega) (by omega),w64 (x:=2*c) (by omega) (by omega),w64 (by omega) (by omega)]
 unfold toI imax imin
 (repeat' split)<;>omega
def QBY:QaV:=⟨DS,fun _=>[.c (.own 0),.c (.own 1)],fun s=>[.arr (.int .i64) s.1,.arr (.int .u8) s.2],Qvm,
 fun s=>(some ((∃ q,DOk q s)∧QBW s),.tup [],[some (.arr (.int .i64) (Qga s).1),some (.arr (.int .u8) (Qga s).2)],[])⟩
set_option maxHeartbeats 8000000 in
theorem Qzz:Qi Tryz.prog 230 QBY.spec:=by
 have hP:Qe Tryz.prog _:=Qa QrE (Qc (T:=tree))
 have hT:=tabs hP Qf
 refine QBY.good (fn:=Tryz.f230) hT hP Tryz.func230 (by kernel_rfl) rfl (fun _ _ _ h=>QnM h) fun ((l,m):DS) hq=>?_
 obtain ⟨⟨q,hn,hm,hu⟩,hc1,hc2,hc3⟩:(∃ q,DOk q (l,m))∧QBW (l,m):=hq _ rfl
 have hm:m.length=q*256:=hm
 have hu:u8s m:=hu
 have hn:dOk q l:=hn
 cases hn with
 |mk hk ht hc hs hi hl hd hr ho hx =>
 rename_i k t c s i l d r o x
 have hc1:0 < c:=hc1
 have hc2:2 < c→0 < k:=hc2
 have hc3:l=0:=hc3
 subst hc3
 have hb:=Qda hu (atI k t s i).toNat
 have hb:0≤m.getD (atI k t s i).toNat 0∧m.getD (atI k t s i).toNat 0 < 256:=hb
 have hor:=or1 ho hr
 have hoo:0≤lor .i64 o r∧lor .i64 o r < 2:=by rw [hor];split<;>omega
 have hn1:dOk q [k,t,c,s,i,0,d,r,lor .i64 o r,x]:=⟨hk,ht,hc,hs,hi,by omega,hd,hr,hoo,hx⟩
 have hat:0 < k→0≤atI k t s i∧atI k t s i < (m.length:Int):=fun h=>by rw [hm];exact QxR ⟨h,hk.2.1⟩ ht hs hi
 have ewi:IntKind.i64.wrap (i+1)=i+1:=w64 (by omega) (by omega)
 have ewd:=QxS hd
 have ewb:IntKind.i64.wrap (m.getD (atI k t s i).toNat 0)=m.getD (atI k t s i).toNat 0:=w64 (by omega) (by omega)
 have ep:Qmg [k,t,c,s,i,0,d,r,lor .i64 o r,x]=atI k t s i:=rfl
 repeat' first |(refine Go.mk ?_;conv=>whnf) |refine Ql.go ?_ ?_ |refine Qm.go (fun _=>?_) (fun _=>?_) |refine Br.dec (fun _=>?_) (fun _=>?_) |refine Br.go (fun _=>?_) (fun _=>?_) |refine Qd hT hP mixed ?_ |refine Qb hT hP ?_
 all_goals first
  |exact of_decide_eq_true rfl
  |exact ⟨q,hn1⟩
  |skip
 all_goals (try refine .mk [] [0,1] _ R R R R R (Qmh ?_ ?_) rfl)
 all_goals clear hT hP hq
 all_goals (simp only [Qj] at *)
 all_goals (simp only [Int.reduceToNat,List.set_cons_succ,List.set_cons_zero,List.getD_cons_succ,List.getD_cons_zero,QBX] at *)
 all_goals (try simp only [QBX,hor,ewi,ewd] at *)
 all_goals (try exact hat (hc2 (by omega)))
 all_goals (try (have:=hat (hc2 (by omega));omega))
 all_goals (try rw [QrF ht (by omega)])
 all_goals (try simp_all [Qga])
 all_goals (rw [if_neg (show ¬ c < 3 by omega)])
def QxT:QaV:=⟨DS,fun _=>[.c (.own 0),.c (.own 1)],fun s=>[.arr (.int .i64) s.1,.arr (.int .u8) s.2],Qvm,
 fun s=>(some ((∃ q,DOk q s)∧0 < s.1.getD 2 0),.tup [],[some (.arr (.int .i64) (Qbs s).1),some (.arr (.int .u8) (Qbs s).2)],[])⟩
theorem QzA {c t:Int} (ht:0≤t∧t < 4) (hc:c=1∨c=2):IntKind.i64.wrap (t+[1,-1].getD (c-1).toNat (dflt (.int .i64)))=if c=1 then t+1 else t-1:=by
 rcases hc with rfl |rfl
 ·show IntKind.i64.wrap (t+1)=_
  rw [w64 (by omega) (by omega)];rfl
 ·show IntKind.i64.wrap (t+-1)=_
  rw [w64 (by omega) (by omega)];rfl
set_option maxHeartbeats 8000000 in
theorem Qvn:Qi Tryz.prog 148 QxT.spec:=by
 have hP:Qe Tryz.prog _:=(Qc (T:=tree))
 have hT:=tabs hP Qf
 refine QxT.good (fn:=Tryz.f148) hT hP Tryz.func148 (by kernel_rfl) rfl (fun _ _ _ h=>QnM h) fun ((l,m):DS) hq=>?_
 obtain ⟨⟨q,hn,hm,hu⟩,hc1⟩:(∃ q,DOk q (l,m))∧0 < l.getD 2 0:=hq _ rfl
 have hm:m.length=q*256:=hm
 have hu:u8s m:=hu
 have hn:dOk q l:=hn
 cases hn with
 |mk hk ht hc hs hi hl hd hr ho hx =>
 rename_i k t c s i l d r o x
 have hc1:0 < c:=hc1
 have hb:=Qda hu (atI k t s i).toNat
 have hb:0≤m.getD (atI k t s i).toNat 0∧m.getD (atI k t s i).toNat 0 < 256:=hb
 have hat:0 < k→0≤atI k t s i∧atI k t s i < (m.length:Int):=fun h=>by rw [hm];exact QxR ⟨h,hk.2.1⟩ ht hs hi
 have ewi:IntKind.i64.wrap (i+1)=i+1:=w64 (by omega) (by omega)
 have ewb:IntKind.i64.wrap (m.getD (atI k t s i).toNat 0)=m.getD (atI k t s i).toNat 0:=w64 (by omega) (by omega)
 have ewd:=QxS hd
 have hA:=Qzy ⟨hk.1,hk.2.2⟩ ht hs hi
 have ewl:l > 1→IntKind.i64.wrap (l-1)=l-1:=fun h=>w64 (by omega) (by omega)
 have ewc:IntKind.i64.wrap (c-1)=c-1:=w64 (by omega) (by omega)
 have etr:c < 3→IntKind.i64.wrap (t+[1,-1].getD (c-1).toNat (dflt (.int .i64)))=if c=1 then t+1 else t-1:=fun h=>QzA ht (by omega)
 repeat' first |(refine Go.mk ?_;conv=>whnf) |refine Ql.go ?_ ?_ |refine Qm.go (fun _=>?_) (fun _=>?_) |refine Br.dec (fun _=>?_) (fun _=>?_) |refine Br.go (fun _=>?_) (fun _=>?_) |refine Qd hT hP mixed ?_ |refine Qb hT hP ?_
 all_goals first
  |exact of_decide_eq_true rfl
  |skip
 all_goals (try refine .mk [] [0,1] _ R R R R R (Qmh ?_ ?_) rfl)
 all_goals clear hT hP hq
 all_goals (simp only [Qj] at *)
 all_goals (simp only [Int.reduceToNat,List.set_cons_succ,List.set_cons_zero,List.getD_cons_succ,List.getD_cons_zero] at *)
 all_goals (try simp only [hA,ewi,ewd,ewc] at *)
 all_goals (try (simp only [List.length_cons,List.length_nil];omega))
 all_goals (try exact hat (by omega))
 all_goals (try (have:=hat (by omega);omega))
 all_goals (try (have h3:¬ c < 3:=by assumption))
 all_goals (try simp_all [-List.getD_eq_getElem?_getD,Qbs,Qga])
 all_goals (try unfold toI)
 all_goals (try (by_cases h1:c=1<;>simp only [h1,if_true,if_false] at *))
 all_goals (repeat' split)
 all_goals first
  |rfl
  |(exfalso;omega)
  |exact l10 R R R R R R ewb R R R
  |exact l10 rfl (by omega) R R R R R R R R
  |skip
 all_goals trace_state
theorem Qjc {M:List Int} (h:u8s M) (n:Nat):u8s (M.take n):=fun x hx=>h x (List.mem_of_mem_take hx)
theorem QFR {M:List Int} (h:u8s M):u8s (dM M):=Qjc h _
theorem QGr (N:List Int) {M:List Int} (h:u8s M):DOk (qF M) (dN N (qF M),dM M):=⟨Qvk N _,QkE M,QFR h⟩
theorem QkR {l m:List Int} (h:l.length=10) (hc:¬ l.getD 2 0 > 0):Qbs (l,m)=(l,m):=by
 match l,h with
 | [k,t,c,s,i,l,d,r,o,x],_ =>
   rw [Qbs]
   exact if_neg hc
def Qvt (k:Int) (s:DS):DS:=Qb3 Qbs k.toNat s
def QxV:Qk:=⟨[gD,gi],fun (d,k,_)=>(some (List.length d.2≤140737488355328∧u8s d.2∧k≤1000000),.agg [.own 0,.own 1],[.arr (.int .i64) (Qvt k (dN d.1 (qF d.2),dM d.2)).1,.arr (.int .u8) (Qvt k (dN d.1 (qF d.2),dM d.2)).2])⟩
set_option maxHeartbeats 8000000 in
theorem Qvu:Qi Tryz.prog 162 QxV.spec:=by
 have hP:Qe Tryz.prog _:=Qa QfF (Qa Qzz (Qc (T:=tree)))
 have hT:=tabs hP Qf
 refine QxV.good (fn:=Tryz.f162) hT hP Tryz.func162 (by kernel_rfl) rfl fun (d:Dv) (k:Int) hp=>?_
 obtain ⟨N,M⟩:=d
 obtain ⟨hl,hu,hk⟩:M.length≤140737488355328∧u8s M∧k≤1000000:=hp _ rfl
 have hn:=QGr N hu
 clear hp
 repeat' first |(refine Go.mk ?_;conv=>whnf) |refine Ql.go ?_ ?_ |refine Qm.go (fun _=>?_) (fun _=>?_) |refine Br.dec (fun _=>?_) (fun _=>?_) |refine Br.go (fun _=>?_) (fun _=>?_) |refine Qd hT hP mixed ?_ |refine Qb hT hP ?_
 all_goals first
  |exact hl
  |exact of_decide_eq_true rfl
  |skip
 refine Qay hT hP (X:=Int × DS) (fun (n,s)=>St.mk (E1 ((I n) :: E2 ((.cell (.ptr 0 0)) :: (.cell (.own 1)) :: (.cell (.own 2)) :: E40 (E10 [])))) [some (.var [.imm (.slice none 0 0),.imm (.slice none 0 0)]),some (.arr (.int .i64) s.1),some (.arr (.int .u8) s.2)])
  (fun (n,s)=>DOk (qF M) s∧Qb3 Qbs n.toNat s=Qvt k (dN N (qF M),dM M)∧n≤1000000) (fun (n,_)=>n.toNat) (k,(dN N (qF M),dM M)) (Le.mk [] [1,2,3] R R ?_ ?_) ?_ fun (n,s) hi=>?_
 ·exact rfl
 ·repeat' first |exact trivial |exact ⟨rfl,rfl⟩ |refine And.intro ?_ ?_
 ·exact ⟨hn,rfl,hk⟩
 obtain ⟨l,m⟩:=s
 obtain ⟨⟨hn',hm',hu'⟩,he,hk'⟩:=hi
 have hm':m.length=qF M*256:=hm'
 have hu':u8s m:=hu'
 have hn':dOk (qF M) l:=hn'
 have hD:DOk (qF M) (l,m):=⟨hn',hm',hu'⟩
 cases hn' with
 |mk hk ht hc hs hi hl hd hr ho hx =>
 rename_i k t c s i l d r o x
 repeat' first |(refine Go.mk ?_;conv=>whnf) |refine Ql.go ?_ ?_ |refine Qm.go (fun _=>?_) (fun _=>?_) |refine Br.dec (fun _=>?_) (fun _=>?_) |refine Br.go (fun _=>?_) (fun _=>?_) |refine Qd hT hP mixed ?_ |refine Qb hT hP ?_
 all_goals first
  |exact of_decide_eq_true rfl
  |skip
 all_goals clear hT hP
 all_goals (try simp only [Qj] at *)
 all_goals (try simp only [Int.reduceToNat,List.set_cons_succ,List.set_cons_zero,List.getD_cons_succ,List.getD_cons_zero] at *)
 ·rename_i h1 h2 h3 h4
  have e:=(QrC (t:=t) (s:=s) (i:=i) (l:=l) (d:=d) (r:=r) (o:=o) (x:=x) (m:=m) (c:=c) (k:=k) (n:=n.toNat) (by omega) h4 (by omega)).symm.trans he
  exact .mk [] [1,2] _ R R R R R (Qmh (congrArg Prod.fst e) (congrArg Prod.snd e)) rfl
 ·rename_i h1 h2 h3 h4 h5
  have e:=(Qe0 (t:=t) (s:=s) (i:=i) (d:=d) (r:=r) (o:=o) (x:=x) (m:=m) (c:=c) (k:=k) h2 (fun h=>h4 h.2) n.toNat l (by omega)).symm.trans he
  rw [show l-(n.toNat:Int)=IntKind.i64.wrap (l-n) by rw [w64 (by omega) (by omega)];omega] at e
  exact .mk [] [1,2] _ R R R R R (Qmh (congrArg Prod.fst e) (congrArg Prod.snd e)) rfl
 ·rename_i h1 h2 h3 h4 h5
  exact ⟨⟨qF M,⟨hk,ht,hc,hs,hi,by omega,hd,hr,ho,hx⟩,hm',hu'⟩,h2,fun _=>by show 0 < k;omega,rfl⟩
 ·rename_i h1 h2 h3 h4 h5
  have hd0:DOk (qF M) ([k,t,c,s,i,0,d,r,o,x],m):=⟨⟨hk,ht,hc,hs,hi,by omega,hd,hr,ho,hx⟩,hm',hu'⟩
  have e:=(QkN (t:=t) (s:=s) (i:=i) (l:=l) (d:=d) (r:=r) (o:=o) (x:=x) (m:=m) (c:=c) (k:=k) (n:=n.toNat) h2 (fun h=>h4 h.2) hl.1 (by omega) (by omega)).symm.trans he
  have e2:IntKind.i64.wrap (n-imax 1 l)=(n.toNat:Int)-max 1 l:=by rw [Q9,w64 (by omega) (by omega)];omega
  apply Exists.intro (_,_,_)
  refine And.intro ?_ (And.intro ?_ (Le.mk [] [0,1,2] R R ?hh ?ht))
  case hh=>exact rfl
  case ht=>repeat' first |exact trivial |exact ⟨rfl,rfl⟩ |refine And.intro ?_ ?_
  ·refine ⟨Qi8 hd0,?_,?_⟩
   ·show Qb3 Qbs (IntKind.i64.wrap (n-imax 1 l)).toNat (Qga ([k,t,c,s,i,0,d,r,o,x],m))=_
    rw [e2];exact e
   ·show IntKind.i64.wrap (n-imax 1 l)≤1000000
    rw [e2];omega
  ·show (IntKind.i64.wrap (n-imax 1 l)).toNat < n.toNat
   rw [e2];omega
 ·rename_i h1 h2 h3 h4
  have e:=(Qe0 (t:=t) (s:=s) (i:=i) (d:=d) (r:=r) (o:=o) (x:=x) (m:=m) (c:=c) (k:=k) h2 (fun h=>h3 (by omega)) n.toNat l (by omega)).symm.trans he
  rw [show l-(n.toNat:Int)=IntKind.i64.wrap (l-n) by rw [w64 (by omega) (by omega)];omega] at e
  exact .mk [] [1,2] _ R R R R R (Qmh (congrArg Prod.fst e) (congrArg Prod.snd e)) rfl
 ·rename_i h1 h2 h3 h4
  exact ⟨⟨qF M,⟨hk,ht,hc,hs,hi,by omega,hd,hr,ho,hx⟩,hm',hu'⟩,h2,fun h=>absurd h (by show ¬ 2 < c;omega),rfl⟩
 ·rename_i h1 h2 h3 h5
  have hd0:DOk (qF M) ([k,t,c,s,i,0,d,r,o,x],m):=⟨⟨hk,ht,hc,hs,hi,by omega,hd,hr,ho,hx⟩,hm',hu'⟩
  have e:=(QkN (t:=t) (s:=s) (i:=i) (l:=l) (d:=d) (r:=r) (o:=o) (x:=x) (m:=m) (c:=c) (k:=k) (n:=n.toNat) h2 (fun h=>h3 (by omega)) hl.1 (by omega) (by omega)).symm.trans he
  have e2:IntKind.i64.wrap (n-imax 1 l)=(n.toNat:Int)-max 1 l:=by rw [Q9,w64 (by omega) (by omega)];omega
  apply Exists.intro (_,_,_)
  refine And.intro ?_ (And.intro ?_ (Le.mk [] [0,1,2] R R ?hh ?ht))
  case hh=>exact rfl
  case ht=>repeat' first |exact trivial |exact ⟨rfl,rfl⟩ |refine And.intro ?_ ?_
  ·refine ⟨Qi8 hd0,?_,?_⟩
   ·show Qb3 Qbs (IntKind.i64.wrap (n-imax 1 l)).toNat (Qga ([k,t,c,s,i,0,d,r,o,x],m))=_
    rw [e2];exact e
   ·show IntKind.i64.wrap (n-imax 1 l)≤1000000
    rw [e2];omega
  ·show (IntKind.i64.wrap (n-imax 1 l)).toNat < n.toNat
   rw [e2];omega
 ·rename_i h1 h2
  have e:=(QkM (t:=t) (s:=s) (i:=i) (l:=l) (d:=d) (r:=r) (o:=o) (x:=x) (m:=m) (c:=c) (k:=k) h2 n.toNat).symm.trans he
  exact .mk [] [1,2] _ R R R R R (Qmh (congrArg Prod.fst e) (congrArg Prod.snd e)) rfl
 ·rename_i h1
  rw [show n.toNat=0 by omega,Qb3] at he
  exact .mk [] [1,2] _ R R R R R (Qmh (congrArg Prod.fst he) (congrArg Prod.snd he)) rfl
theorem Qjd {a c:Int} {b d:Bool} (h1:a=c) (h2:b=d):AV.tup [I1 a,.c (bv b)]=AV.tup [I1 c,.c (bv d)]:=by rw [h1,h2]
def QxW:Qk:=⟨[gb,gi],fun (m,pos,_)=>(some (List.length m=32∧u8s m∧0≤pos∧pos < 2560),.tup [I1 (Qbg m pos),.c (bv (Qf1 m pos))],[])⟩
theorem QnP:Qi Tryz.prog 81 QxW.spec:=by
 have hP:Qe Tryz.prog _:=(Qc (T:=tree))
 have hT:=tabs hP Qf
 refine QxW.good (fn:=Tryz.f81) hT hP Tryz.func81 (by kernel_rfl) rfl fun (m:List Int) (pos:Int) hp=>?_
 obtain ⟨hm,hu,hp0,hp1⟩:m.length=32∧u8s m∧0≤pos∧pos < 2560:=hp _ rfl
 have hb:=Qda hu
 have eq64:IntKind.i64.wrap (Int.tdiv pos 64)=pos/64:=by rw [Int.tdiv_eq_ediv_of_nonneg hp0,w64 (by omega) (by omega)]
 have er64:Int.tmod pos 64=pos%64:=Int.tmod_eq_emod_of_nonneg hp0
 have ecell:IntKind.i64.wrap (IntKind.i64.wrap (8+IntKind.i64.wrap (IntKind.i64.wrap (Int.tdiv (IntKind.i64.wrap (Int.tdiv pos 64)) 8)*6))+IntKind.i64.wrap (Int.tdiv (Int.tmod pos 64) 8))=8+pos/64/8*6+pos%64/8:=by
  rw [eq64,er64,Int.tdiv_eq_ediv_of_nonneg (show 0≤pos/64 by omega),Int.tdiv_eq_ediv_of_nonneg (show 0≤pos%64 by omega),w64 (x:=pos/64/8) (by omega) (by omega),w64 (x:=pos/64/8*6) (by omega) (by omega),
   w64 (x:=8+pos/64/8*6) (by omega) (by omega),w64 (x:=pos%64/8) (by omega) (by omega),w64 (by omega) (by omega)]
 repeat' first |(refine Go.mk ?_;conv=>whnf) |refine Ql.go ?_ ?_ |refine Qm.go (fun _=>?_) (fun _=>?_) |refine Br.dec (fun _=>?_) (fun _=>?_) |refine Br.go (fun _=>?_) (fun _=>?_) |refine Qd hT hP mixed ?_ |refine Qb hT hP ?_
 all_goals first
  |decide
  |(rw [hm];exact of_decide_eq_true rfl)
  |(rw [ecell,hm];exact ⟨by omega,by omega⟩)
  |skip
 ·rename_i h
  have h:Int.tmod pos 64≥48:=h
  rw [er64] at h
  have hv:Qmd pos=false:=by unfold Qmd;rw [decide_eq_false (by omega:¬ pos%64 < 48)];rfl
  refine .mk [] [] _ R R R R R R (Qjd ?_ ?_)
  ·show Int.tmod (IntKind.i64.wrap (bA m 0)) 16=Qbg m pos
   have h0:=hb 0
   rw [Qbg,hv,if_neg (by simp),w64 (by omega) (by omega),Int.tmod_eq_emod_of_nonneg h0.1]
  ·show false=Qf1 m pos
   rw [Qf1,hv];rfl
 ·rename_i h1 h
  have h:IntKind.i64.wrap (Int.tdiv pos 64)≥32:=h
  rw [eq64] at h
  have hv:Qmd pos=false:=by unfold Qmd;rw [decide_eq_false (by omega:¬ pos/64 < 32),Bool.and_false]
  refine .mk [] [] _ R R R R R R (Qjd ?_ ?_)
  ·show Int.tmod (IntKind.i64.wrap (bA m 0)) 16=Qbg m pos
   have h0:=hb 0
   rw [Qbg,hv,if_neg (by simp),w64 (by omega) (by omega),Int.tmod_eq_emod_of_nonneg h0.1]
  ·show false=Qf1 m pos
   rw [Qf1,hv];rfl
 rename_i h1 h2
 have h1:¬ Int.tmod pos 64≥48:=h1
 have h2:¬ IntKind.i64.wrap (Int.tdiv pos 64)≥32:=h2
 rw [er64] at h1
 rw [eq64] at h2
 have hv:Qmd pos=true:=by unfold Qmd;rw [decide_eq_true (by omega:pos%64 < 48),decide_eq_true (by omega:pos/64 < 32)];rfl
 have ecv:Int.tmod (IntKind.i64.wrap (bA m (IntKind.i64.wrap (IntKind.i64.wrap (8+IntKind.i64.wrap (IntKind.i64.wrap (Int.tdiv (IntKind.i64.wrap (Int.tdiv pos 64)) 8)*6))+IntKind.i64.wrap (Int.tdiv (Int.tmod pos 64) 8))).toNat)) 16=QeZ m pos:=by
  rw [ecell]
  have h0:=hb (8+pos/64/8*6+pos%64/8).toNat
  rw [w64 (by omega) (by omega),Int.tmod_eq_emod_of_nonneg h0.1];rfl
 refine Qay hT hP (X:=Int) (fun i=>St.mk ((.cell (.ro (.int .u8) m)) :: E5 ((I (IntKind.i64.wrap (Int.tdiv pos 64))) :: (I (Int.tmod pos 64)) :: (I (Int.tmod (IntKind.i64.wrap (bA m (IntKind.i64.wrap (IntKind.i64.wrap (8+IntKind.i64.wrap (IntKind.i64.wrap (Int.tdiv (IntKind.i64.wrap (Int.tdiv pos 64)) 8)*6))+IntKind.i64.wrap (Int.tdiv (Int.tmod pos 64) 8))).toNat)) 16)) :: E20 (E5 (E3 ((I i) :: E40 (E3 (E1 []))))))) [])
  (fun i=>∃ k:Nat,i=k∧k≤8∧∀ j,j < k→Qbf m pos j=false) (fun i=>(8-i).toNat) 0 (Le.mk [] [] R R ?_ ?_) ?_ fun i hi=>?_
 ·exact rfl
 ·repeat' first |exact trivial |exact ⟨rfl,rfl⟩ |refine And.intro ?_ ?_
 ·exact ⟨0,rfl,by omega,fun j h=>by omega⟩
 obtain ⟨k,rfl,hk,hno⟩:=hi
 have hb1:=hb 1
 have hb2:=hb 2
 have hb3:=hb 3
 have hb4:=hb 4
 have w1:IntKind.i64.wrap (IntKind.i64.wrap (bA m 1)+k)=bA m 1+k:=by rw [w64 (x:=bA m 1) (by omega) (by omega),w64 (by omega) (by omega)]
 have w2:IntKind.i64.wrap (bA m 2)=bA m 2:=w64 (by omega) (by omega)
 have w3:IntKind.i64.wrap (bA m 2+8)=bA m 2+8:=w64 (by omega) (by omega)
 repeat' first |(refine Go.mk ?_;conv=>whnf) |refine Ql.go ?_ ?_ |refine Qm.go (fun _=>?_) (fun _=>?_) |refine Br.dec (fun _=>?_) (fun _=>?_) |refine Br.go (fun _=>?_) (fun _=>?_) |refine Qd hT hP mixed ?_ |refine Qb hT hP ?_
 all_goals first
  |decide
  |(rw [hm];exact of_decide_eq_true rfl)
  |exact Int.natCast_nonneg _
  |skip
 ·rename_i hlt g1 g2 g3 g4
  have g1:Int.tmod pos 64=IntKind.i64.wrap (IntKind.i64.wrap (bA m 1)+(k:Int)):=g1
  rw [er64,w1] at g1
  have g2:IntKind.i64.wrap (Int.tdiv pos 64)≥IntKind.i64.wrap (bA m 2):=g2
  rw [eq64,w2] at g2
  have g3:IntKind.i64.wrap (Int.tdiv pos 64) < IntKind.i64.wrap (IntKind.i64.wrap (bA m 2)+8):=g3
  rw [eq64,w2,w3] at g3
  have g4:shl .u8 (bA m 4) (k:Int)≥128:=g4
  rw [QkJ hb4 (by omega)] at g4
  have hsp:Q2 m pos=true:=Qpu (i:=k) (by omega) (by
   unfold Qbf
   simp only [Bool.and_eq_true,decide_eq_true_eq]
   exact ⟨g1,⟨g2,g3⟩,g4⟩)
  refine .mk [] [] _ R R R R R R (Qjd ?_ ?_)
  ·show Int.tmod (IntKind.i64.wrap (bA m 3)) 16=Qbg m pos
   rw [Qbg,hv,if_pos rfl,hsp,if_pos rfl,w64 (by omega) (by omega),Int.tmod_eq_emod_of_nonneg hb3.1]
  ·show decide (Int.tmod (IntKind.i64.wrap (bA m (IntKind.i64.wrap (IntKind.i64.wrap (8+IntKind.i64.wrap (IntKind.i64.wrap (Int.tdiv (IntKind.i64.wrap (Int.tdiv pos 64)) 8)*6))+IntKind.i64.wrap (Int.tdiv (Int.tmod pos 64) 8))).toNat)) 16 > 0)=Qf1 m pos
   rw [Qf1,hv,hsp,ecv]
   have h0:=Qvi m pos
   show decide (QeZ m pos > 0)=decide (QeZ m pos≠0)
   congr 1
   apply propext
   omega
 ·rename_i hlt g1 g2 g3 g4
  have g1:Int.tmod pos 64=IntKind.i64.wrap (IntKind.i64.wrap (bA m 1)+(k:Int)):=g1
  rw [er64,w1] at g1
  have g2:IntKind.i64.wrap (Int.tdiv pos 64)≥IntKind.i64.wrap (bA m 2):=g2
  rw [eq64,w2] at g2
  have g3:IntKind.i64.wrap (Int.tdiv pos 64) < IntKind.i64.wrap (IntKind.i64.wrap (bA m 2)+8):=g3
  rw [eq64,w2,w3] at g3
  have g4:¬ shl .u8 (bA m 4) (k:Int)≥128:=g4
  rw [QkJ hb4 (by omega)] at g4
  have e:IntKind.i64.wrap ((k:Int)+1)=((k+1:Nat):Int):=by rw [w64 (by omega) (by omega)];omega
  have hsh:Qbf m pos k=false:=by
   cases hs:Qbf m pos k with
   |false=>rfl
   |true =>
     exfalso
     unfold Qbf at hs
     simp only [Bool.and_eq_true,decide_eq_true_eq] at hs
     obtain ⟨s1,⟨s2,s3⟩,s4⟩:=hs
     first |exact g4 s4 |omega
  apply Exists.intro _
  refine And.intro ?_ (And.intro ?_ (Le.mk [] [] R R ?hh ?ht))
  case hh=>exact rfl
  case ht=>repeat' first |exact trivial |exact ⟨rfl,rfl⟩ |refine And.intro ?_ ?_
  ·refine ⟨k+1,e,by omega,fun j hj=>?_⟩
   by_cases hjk:j=k
   ·rw [hjk];exact hsh
   ·exact hno j (by omega)
  ·show (8-IntKind.i64.wrap ((k:Int)+1)).toNat < (8-(k:Int)).toNat
   rw [e];omega
 ·rename_i hlt g1 g2 g3
  have g1:Int.tmod pos 64=IntKind.i64.wrap (IntKind.i64.wrap (bA m 1)+(k:Int)):=g1
  rw [er64,w1] at g1
  have g2:IntKind.i64.wrap (Int.tdiv pos 64)≥IntKind.i64.wrap (bA m 2):=g2
  rw [eq64,w2] at g2
  have g3:¬ IntKind.i64.wrap (Int.tdiv pos 64) < IntKind.i64.wrap (IntKind.i64.wrap (bA m 2)+8):=g3
  rw [eq64,w2,w3] at g3
  have e:IntKind.i64.wrap ((k:Int)+1)=((k+1:Nat):Int):=by rw [w64 (by omega) (by omega)];omega
  have hsh:Qbf m pos k=false:=by
   cases hs:Qbf m pos k with
   |false=>rfl
   |true =>
     exfalso
     unfold Qbf at hs
     simp only [Bool.and_eq_true,decide_eq_true_eq] at hs
     obtain ⟨s1,⟨s2,s3⟩,s4⟩:=hs
     first |exact g3 s4 |omega
  apply Exists.intro _
  refine And.intro ?_ (And.intro ?_ (Le.mk [] [] R R ?hh ?ht))
  case hh=>exact rfl
  case ht=>repeat' first |exact trivial |exact ⟨rfl,rfl⟩ |refine And.intro ?_ ?_
  ·refine ⟨k+1,e,by omega,fun j hj=>?_⟩
   by_cases hjk:j=k
   ·rw [hjk];exact hsh
   ·exact hno j (by omega)
  ·show (8-IntKind.i64.wrap ((k:Int)+1)).toNat < (8-(k:Int)).toNat
   rw [e];omega
 ·rename_i hlt g1 g2
  have g1:Int.tmod pos 64=IntKind.i64.wrap (IntKind.i64.wrap (bA m 1)+(k:Int)):=g1
  rw [er64,w1] at g1
  have g2:¬ IntKind.i64.wrap (Int.tdiv pos 64)≥IntKind.i64.wrap (bA m 2):=g2
  rw [eq64,w2] at g2
  have e:IntKind.i64.wrap ((k:Int)+1)=((k+1:Nat):Int):=by rw [w64 (by omega) (by omega)];omega
  have hsh:Qbf m pos k=false:=by
   cases hs:Qbf m pos k with
   |false=>rfl
   |true =>
     exfalso
     unfold Qbf at hs
     simp only [Bool.and_eq_true,decide_eq_true_eq] at hs
     obtain ⟨s1,⟨s2,s3⟩,s4⟩:=hs
     first |exact g2 s4 |omega
  apply Exists.intro _
  refine And.intro ?_ (And.intro ?_ (Le.mk [] [] R R ?hh ?ht))
  case hh=>exact rfl
  case ht=>repeat' first |exact trivial |exact ⟨rfl,rfl⟩ |refine And.intro ?_ ?_
  ·refine ⟨k+1,e,by omega,fun j hj=>?_⟩
   by_cases hjk:j=k
   ·rw [hjk];exact hsh
   ·exact hno j (by omega)
  ·show (8-IntKind.i64.wrap ((k:Int)+1)).toNat < (8-(k:Int)).toNat
   rw [e];omega
 ·rename_i hlt g1
  have g1:¬ Int.tmod pos 64=IntKind.i64.wrap (IntKind.i64.wrap (bA m 1)+(k:Int)):=g1
  rw [er64,w1] at g1
  have e:IntKind.i64.wrap ((k:Int)+1)=((k+1:Nat):Int):=by rw [w64 (by omega) (by omega)];omega
  have hsh:Qbf m pos k=false:=by
   cases hs:Qbf m pos k with
   |false=>rfl
   |true =>
     exfalso
     unfold Qbf at hs
     simp only [Bool.and_eq_true,decide_eq_true_eq] at hs
     obtain ⟨s1,⟨s2,s3⟩,s4⟩:=hs
     first |exact g1 s4 |omega
  apply Exists.intro _
  refine And.intro ?_ (And.intro ?_ (Le.mk [] [] R R ?hh ?ht))
  case hh=>exact rfl
  case ht=>repeat' first |exact trivial |exact ⟨rfl,rfl⟩ |refine And.intro ?_ ?_
  ·refine ⟨k+1,e,by omega,fun j hj=>?_⟩
   by_cases hjk:j=k
   ·rw [hjk];exact hsh
   ·exact hno j (by omega)
  ·show (8-IntKind.i64.wrap ((k:Int)+1)).toNat < (8-(k:Int)).toNat
   rw [e];omega
 ·rename_i hlt
  obtain rfl:k=8:=by omega
  have hsp:Q2 m pos=false:=Qrx hno
  refine .mk [] [] _ R R R R R R (Qjd ?_ ?_)
  ·show Int.tmod (IntKind.i64.wrap (bA m (IntKind.i64.wrap (IntKind.i64.wrap (8+IntKind.i64.wrap (IntKind.i64.wrap (Int.tdiv (IntKind.i64.wrap (Int.tdiv pos 64)) 8)*6))+IntKind.i64.wrap (Int.tdiv (Int.tmod pos 64) 8))).toNat)) 16=Qbg m pos
   rw [Qbg,hv,if_pos rfl,hsp,if_neg (by simp),ecv]
  ·show false=Qf1 m pos
   rw [Qf1,hv,hsp];rfl
def QGs:Qk:=⟨[gi],fun (pos,_)=>(some (0≤pos∧pos < 2560),.cell (bv (Qmd pos)),[])⟩
theorem QxX:Qi Tryz.prog 254 QGs.spec:=by
 have hP:Qe Tryz.prog _:=(Qc (T:=tree))
 have hT:=tabs hP Qf
 refine QGs.good (fn:=Tryz.f254) hT hP Tryz.func254 (by kernel_rfl) rfl fun (pos:Int) hp=>?_
 have hp:0≤pos∧pos < 2560:=hp _ rfl
 have eq64:IntKind.i64.wrap (Int.tdiv pos 64)=pos/64:=by rw [Int.tdiv_eq_ediv_of_nonneg hp.1,w64 (by omega) (by omega)]
 have er64:Int.tmod pos 64=pos%64:=Int.tmod_eq_emod_of_nonneg hp.1
 repeat' first |(refine Go.mk ?_;conv=>whnf) |refine Ql.go ?_ ?_ |refine Qm.go (fun _=>?_) (fun _=>?_) |refine Br.dec (fun _=>?_) (fun _=>?_) |refine Br.go (fun _=>?_) (fun _=>?_) |refine Qd hT hP mixed ?_ |refine Qb hT hP ?_
 all_goals first
  |decide
  |(rename_i h
     have h:Int.tmod pos 64 < 48:=h
     rw [er64] at h
     refine .mk [] [] _ R R R R R R (Qo ?_)
     show decide (IntKind.i64.wrap (Int.tdiv pos 64) < 32)=(decide (pos%64 < 48)&&decide (pos/64 < 32))
     rw [eq64,decide_eq_true h];rfl)
  |(rename_i h
     have h:¬ Int.tmod pos 64 < 48:=h
     rw [er64] at h
     refine .mk [] [] _ R R R R R R (Qo ?_)
     show false=(decide (pos%64 < 48)&&decide (pos/64 < 32))
     rw [decide_eq_false h];rfl)
def QB2:Qk:=⟨[gb,gi],fun (m,pos,_)=>(some (List.length m=32∧u8s m∧0≤pos∧pos < 2560∧Qmd pos=true),I (QeZ m pos),[])⟩
theorem QrM:Qi Tryz.prog 256 QB2.spec:=by
 have hP:Qe Tryz.prog _:=(Qc (T:=tree))
 have hT:=tabs hP Qf
 refine QB2.good (fn:=Tryz.f256) hT hP Tryz.func256 (by kernel_rfl) rfl fun (m:List Int) (pos:Int) hp=>?_
 obtain ⟨hm,hu,hp0,hp1,hv⟩:m.length=32∧u8s m∧0≤pos∧pos < 2560∧Qmd pos=true:=hp _ rfl
 have hb:=Qda hu
 unfold Qmd at hv
 simp only [Bool.and_eq_true,decide_eq_true_eq] at hv
 have ecell:IntKind.i64.wrap (IntKind.i64.wrap (8+IntKind.i64.wrap (IntKind.i64.wrap (Int.tdiv (IntKind.i64.wrap (Int.tdiv pos 64)) 8)*6))+IntKind.i64.wrap (Int.tdiv (Int.tmod pos 64) 8))=8+pos/64/8*6+pos%64/8:=cell_at hp0 hp1
 repeat' first |(refine Go.mk ?_;conv=>whnf) |refine Ql.go ?_ ?_ |refine Qm.go (fun _=>?_) (fun _=>?_) |refine Br.dec (fun _=>?_) (fun _=>?_) |refine Br.go (fun _=>?_) (fun _=>?_) |refine Qd hT hP mixed ?_ |refine Qb hT hP ?_
 all_goals first
  |decide
  |(rw [ecell,hm];exact ⟨by omega,by omega⟩)
  |(refine .mk [] [] _ R R R R R R (Qg ?_)
     show land .i64 (IntKind.i64.wrap (bA m (IntKind.i64.wrap (IntKind.i64.wrap (8+IntKind.i64.wrap (IntKind.i64.wrap (Int.tdiv (IntKind.i64.wrap (Int.tdiv pos 64)) 8)*6))+IntKind.i64.wrap (Int.tdiv (Int.tmod pos 64) 8))).toNat)) 15=QeZ m pos
     rw [ecell,Qme (hb _)];rfl)
def QrN:Qk:=⟨[gb,gi],fun (m,pos,_)=>(some (List.length m=32∧u8s m∧0≤pos∧pos < 2560),.cell (bv (Q2 m pos)),[])⟩
theorem QkS:Qi Tryz.prog 255 QrN.spec:=by
 have hP:Qe Tryz.prog _:=(Qc (T:=tree))
 have hT:=tabs hP Qf
 refine QrN.good (fn:=Tryz.f255) hT hP Tryz.func255 (by kernel_rfl) rfl fun (m:List Int) (pos:Int) hp=>?_
 obtain ⟨hm,hu,hp0,hp1⟩:m.length=32∧u8s m∧0≤pos∧pos < 2560:=hp _ rfl
 have hb:=Qda hu
 have hb1:=hb 1
 have hb2:=hb 2
 have eq64:IntKind.i64.wrap (Int.tdiv pos 64)=pos/64:=by rw [Int.tdiv_eq_ediv_of_nonneg hp0,w64 (by omega) (by omega)]
 have er64:Int.tmod pos 64=pos%64:=Int.tmod_eq_emod_of_nonneg hp0
 have hx:IntKind.i64.wrap (Int.tmod pos 64-IntKind.i64.wrap (bA m 1))=pos%64-bA m 1:=by rw [er64,w64 (x:=bA m 1) (by omega) (by omega),w64 (by omega) (by omega)]
 have hy:IntKind.i64.wrap (IntKind.i64.wrap (Int.tdiv pos 64)-IntKind.i64.wrap (bA m 2))=pos/64-bA m 2:=by rw [eq64,w64 (x:=bA m 2) (by omega) (by omega),w64 (by omega) (by omega)]
 repeat' first |(refine Go.mk ?_;conv=>whnf) |refine Ql.go ?_ ?_ |refine Qm.go (fun _=>?_) (fun _=>?_) |refine Br.dec (fun _=>?_) (fun _=>?_) |refine Br.go (fun _=>?_) (fun _=>?_) |refine Qd hT hP mixed ?_ |refine Qb hT hP ?_
 all_goals first
  |decide
  |(rw [hm];exact of_decide_eq_true rfl)
  |skip
 ·rename_i g1 g2 g3 g4
  have g1:IntKind.i64.wrap (Int.tmod pos 64-IntKind.i64.wrap (bA m 1))≥0:=g1
  have g2:IntKind.i64.wrap (Int.tmod pos 64-IntKind.i64.wrap (bA m 1)) < 8:=g2
  have g3:IntKind.i64.wrap (IntKind.i64.wrap (Int.tdiv pos 64)-IntKind.i64.wrap (bA m 2))≥0:=g3
  have g4:IntKind.i64.wrap (IntKind.i64.wrap (Int.tdiv pos 64)-IntKind.i64.wrap (bA m 2)) < 8:=g4
  have hb4:=hb 4
  rw [hx] at g1 g2
  rw [hy] at g3 g4
  show 0≤IntKind.i64.wrap (7-IntKind.i64.wrap (Int.tmod pos 64-IntKind.i64.wrap (bA m 1)))
  rw [hx,w64 (by omega) (by omega)]
  omega
 ·rename_i g1 g2 g3 g4
  have g1:IntKind.i64.wrap (Int.tmod pos 64-IntKind.i64.wrap (bA m 1))≥0:=g1
  have g2:IntKind.i64.wrap (Int.tmod pos 64-IntKind.i64.wrap (bA m 1)) < 8:=g2
  have g3:IntKind.i64.wrap (IntKind.i64.wrap (Int.tdiv pos 64)-IntKind.i64.wrap (bA m 2))≥0:=g3
  have g4:IntKind.i64.wrap (IntKind.i64.wrap (Int.tdiv pos 64)-IntKind.i64.wrap (bA m 2)) < 8:=g4
  have hb4:=hb 4
  rw [hx] at g1 g2
  rw [hy] at g3 g4
  refine .mk [] [] _ R R R R R R (Qo ?_)
  show (land .u8 (shr .u8 (bA m 4) (IntKind.i64.wrap (7-IntKind.i64.wrap (Int.tmod pos 64-IntKind.i64.wrap (bA m 1))))) 1 == 1)=Q2 m pos
  rw [hx,w64 (x:=7-(pos%64-bA m 1)) (by omega) (by omega)]
  have e:(7-(pos%64-bA m 1))=(((7-(pos%64-bA m 1)).toNat:Nat):Int):=by omega
  have hbit:=Qpv hb4 (i:=(7-(pos%64-bA m 1)).toNat) (by omega)
  rw [← e] at hbit
  unfold Q2
  rw [decide_eq_true (by omega:bA m 1≤pos%64),decide_eq_true (by omega:pos%64 < bA m 1+8),decide_eq_true (by omega:bA m 2≤pos/64),decide_eq_true (by omega:pos/64 < bA m 2+8)]
  show decide (land .u8 (shr .u8 (bA m 4) (7-(pos%64-bA m 1))) 1=1)=decide (bA m 4/2 ^ (7-(pos%64-bA m 1)).toNat%2=1)
  congr 1
  exact propext hbit
 ·rename_i h
  have h:¬ IntKind.i64.wrap (IntKind.i64.wrap (Int.tdiv pos 64)-IntKind.i64.wrap (bA m 2)) < 8:=h
  refine .mk [] [] _ R R R R R R (Qo ?_)
  show false=Q2 m pos
  cases hs:Q2 m pos with
  |false=>rfl
  |true =>
    exfalso
    unfold Q2 at hs
    simp only [Bool.and_eq_true,decide_eq_true_eq] at hs
    rw [hy] at h
    omega
 ·rename_i h
  have h:¬ IntKind.i64.wrap (IntKind.i64.wrap (Int.tdiv pos 64)-IntKind.i64.wrap (bA m 2))≥0:=h
  refine .mk [] [] _ R R R R R R (Qo ?_)
  show false=Q2 m pos
  cases hs:Q2 m pos with
  |false=>rfl
  |true =>
    exfalso
    unfold Q2 at hs
    simp only [Bool.and_eq_true,decide_eq_true_eq] at hs
    rw [hy] at h
    omega
 ·rename_i h
  have h:¬ IntKind.i64.wrap (Int.tmod pos 64-IntKind.i64.wrap (bA m 1)) < 8:=h
  refine .mk [] [] _ R R R R R R (Qo ?_)
  show false=Q2 m pos
  cases hs:Q2 m pos with
  |false=>rfl
  |true =>
    exfalso
    unfold Q2 at hs
    simp only [Bool.and_eq_true,decide_eq_true_eq] at hs
    rw [hx] at h
    omega
 ·rename_i h
  have h:¬ IntKind.i64.wrap (Int.tmod pos 64-IntKind.i64.wrap (bA m 1))≥0:=h
  refine .mk [] [] _ R R R R R R (Qo ?_)
  show false=Q2 m pos
  cases hs:Q2 m pos with
  |false=>rfl
  |true =>
    exfalso
    unfold Q2 at hs
    simp only [Bool.and_eq_true,decide_eq_true_eq] at hs
    rw [hx] at h
    omega
theorem Qmi {b:Bool} (h:(!b)=false):b=true:=by cases b;cases h;rfl
theorem Qvv {b:Bool} (h:(!b)=true):b=false:=by cases b;rfl;cases h
def QxY:Qk:=⟨[gb,gi],fun (m,pos,_)=>(some (List.length m=32∧u8s m∧0≤pos∧pos < 2560),I (Qbg m pos),[])⟩
theorem Qvw:Qi Tryz.prog 224 QxY.spec:=by
 have hP:Qe Tryz.prog _:=Qa QxX (Qa QkS (Qa QrM (Qc (T:=tree))))
 have hT:=tabs hP Qf
 refine QxY.good (fn:=Tryz.f224) hT hP Tryz.func224 (by kernel_rfl) rfl fun (m:List Int) (pos:Int) hp=>?_
 obtain ⟨hm,hu,hp0,hp1⟩:m.length=32∧u8s m∧0≤pos∧pos < 2560:=hp _ rfl
 have hb:=Qda hu
 repeat' first |(refine Go.mk ?_;conv=>whnf) |refine Ql.go ?_ ?_ |refine Qm.go (fun _=>?_) (fun _=>?_) |refine Br.dec (fun _=>?_) (fun _=>?_) |refine Br.go (fun _=>?_) (fun _=>?_) |refine Qd hT hP mixed ?_ |refine Qb hT hP ?_
 all_goals first
  |exact ⟨hp0,hp1⟩
  |exact ⟨hm,hu,hp0,hp1⟩
  |(rw [hm];exact of_decide_eq_true rfl)
  |(rename_i h _;exact ⟨hm,hu,hp0,hp1,Qmi h⟩)
  |skip
 ·rename_i h
  have hv:=Qvv h
  refine .mk [] [] _ R R R R R R (Qg ?_)
  show land .i64 (IntKind.i64.wrap (bA m 0)) 15=Qbg m pos
  rw [Qme (hb 0),Qbg,hv];rfl
 ·rename_i h h2
  have hv:=Qmi h
  have h2:Q2 m pos=true:=h2
  refine .mk [] [] _ R R R R R R (Qg ?_)
  show land .i64 (IntKind.i64.wrap (bA m 3)) 15=Qbg m pos
  rw [Qme (hb 3),Qbg,hv,h2];rfl
 ·rename_i h h2
  have hv:=Qmi h
  have h2:Q2 m pos=false:=h2
  refine .mk [] [] _ R R R R R R (Qg ?_)
  show QeZ m pos=Qbg m pos
  rw [Qbg,hv,h2];rfl
def QB3:Qk:=⟨[gb,gi],fun (m,pos,_)=>(some (List.length m=32∧u8s m∧0≤pos∧pos < 2560),.cell (bv (Qf1 m pos)),[])⟩
theorem QzF:Qi Tryz.prog 228 QB3.spec:=by
 have hP:Qe Tryz.prog _:=Qa QxX (Qa QkS (Qa QrM (Qc (T:=tree))))
 have hT:=tabs hP Qf
 refine QB3.good (fn:=Tryz.f228) hT hP Tryz.func228 (by kernel_rfl) rfl fun (m:List Int) (pos:Int) hp=>?_
 obtain ⟨hm,hu,hp0,hp1⟩:m.length=32∧u8s m∧0≤pos∧pos < 2560:=hp _ rfl
 repeat' first |(refine Go.mk ?_;conv=>whnf) |refine Ql.go ?_ ?_ |refine Qm.go (fun _=>?_) (fun _=>?_) |refine Br.dec (fun _=>?_) (fun _=>?_) |refine Br.go (fun _=>?_) (fun _=>?_) |refine Qd hT hP mixed ?_ |refine Qb hT hP ?_
 all_goals first
  |exact ⟨hp0,hp1⟩
  |exact ⟨hm,hu,hp0,hp1⟩
  |(rename_i h;exact ⟨hm,hu,hp0,hp1,h⟩)
  |(rename_i h _;exact ⟨hm,hu,hp0,hp1,h⟩)
  |skip
 ·rename_i h h2
  have h:Qmd pos=true:=h
  have h2:Q2 m pos=true:=h2
  refine .mk [] [] _ R R R R R R (Qo ?_)
  show _=Qf1 m pos
  rw [Qf1,h,h2]
  show (QeZ m pos != 0)=decide (QeZ m pos≠0)
  by_cases e:QeZ m pos=0<;>simp [e]
 ·rename_i h h2
  have h:Qmd pos=true:=h
  have h2:Q2 m pos=false:=h2
  refine .mk [] [] _ R R R R R R (Qo ?_)
  show _=Qf1 m pos
  rw [Qf1,h,h2];rfl
 ·rename_i h
  have h:Qmd pos=false:=h
  refine .mk [] [] _ R R R R R R (Qo ?_)
  show _=Qf1 m pos
  rw [Qf1,h];rfl
abbrev Qdb:AV:=.agg [.own 0,.own 1]
theorem QzG {a b c d:Int} (h1:a=c) (h2:b=d):AV.tup [I1 a,I1 b,.c (.own 0)]=AV.tup [I1 c,I1 d,.c (.own 0)]:=by rw [h1,h2]
theorem Qdc {l l' m m':List Int} (h:l=l') (h2:m=m'):[some (Blk.arr (.int .i64) l),some (Blk.arr (.int .u8) m)]=[some (Blk.arr (.int .i64) l'),some (Blk.arr (.int .u8) m')]:=by rw [h,h2]
theorem QzH {x:Int} (h0:0≤x) (h1:x < 256):IntKind.u8.wrap x=x:=by
 show x%256=x
 omega
theorem Qg7 {x y:Int} (h2:x=y):AV.tup [.agg [.own 0,.own 1],I1 x]=AV.tup [.agg [.own 0,.own 1],I1 y]:=by rw [h2]
def QB4:Qk:=⟨[gD],fun (d,_)=>(none,.tup [I1 (vP d.1),I1 (vH d.1),.c (.own 0)],[.arr (.int .u8) (vM d.2)])⟩
theorem Qje:Qi Tryz.prog 223 QB4.spec:=by
 have hP:Qe Tryz.prog _:=Qa QT (Qc (T:=tree))
 have hT:=tabs hP Qf
 refine QB4.good (fn:=Tryz.f223) hT hP Tryz.func223 (by kernel_rfl) rfl fun (d:Dv) _=>?_
 obtain ⟨N,M⟩:=d
 repeat' first |(refine Go.mk ?_;conv=>whnf) |refine Ql.go ?_ ?_ |refine Qm.go (fun _=>?_) (fun _=>?_) |refine Br.dec (fun _=>?_) (fun _=>?_) |refine Br.go (fun _=>?_) (fun _=>?_) |refine Qd hT hP mixed ?_ |refine Qb hT hP ?_
 all_goals first
  |exact of_decide_eq_true rfl
  |(rename_i h
     have h:(N.length:Int) > 0:=h
     show (0:Int)≤0∧(0:Int) < N.length
     omega)
  |(rename_i h
     have h:(N.length:Int) > 1:=h
     show (0:Int)≤1∧(1:Int) < N.length
     omega)
  |(rename_i h2 h
     have h:(N.length:Int) > 1:=h
     have h2:¬ (N.length:Int) > 0:=h2
     exfalso;omega)
  |skip
 ·rename_i h2 h
  have h2:(N.length:Int) > 0:=h2
  refine .mk [] [1] _ R R R R R R (QzG ?_ ?_)
  ·show Int.tmod (IntKind.i64.wrap (Int.tmod (N.getD 0 0) 2560+2560)) 2560=vP N
   rw [QnC _ (by omega) (by omega),vP,if_neg (by omega)]
  ·exact rfl
 ·rename_i h2 h
  have h2:(N.length:Int) > 0:=h2
  have h:¬ (N.length:Int) > 1:=h
  have e:N.getD 1 0=0:=by simp only [List.getD_eq_getElem?_getD];rw [List.getElem?_eq_none (by omega)];rfl
  refine .mk [] [1] _ R R R R R R (QzG ?_ ?_)
  ·show Int.tmod (IntKind.i64.wrap (Int.tmod (N.getD 0 0) 2560+2560)) 2560=vP N
   rw [QnC _ (by omega) (by omega),vP,if_neg (by omega)]
  ·show 0=N.getD 1 0%2
   rw [e];rfl
 ·rename_i h2 h
  have h2:¬ (N.length:Int) > 0:=h2
  have e:N.getD 1 0=0:=by simp only [List.getD_eq_getElem?_getD];rw [List.getElem?_eq_none (by omega)];rfl
  refine .mk [] [1] _ R R R R R R (QzG ?_ ?_)
  ·show 2559=vP N
   rw [vP,if_pos (by omega)]
  ·show 0=N.getD 1 0%2
   rw [e];rfl
def QrO:QaV:=⟨Int × Int × List Int,fun x=>[.c (iv .i64 x.1),.c (iv .i64 x.2.1),.c (.own 0)],fun x=>[.arr (.int .u8) x.2.2],
 fun a b=>(match a,b with | [.c (.imm (.int .i64 p)),.c (.imm (.int .i64 h)),.c (.own 0)],[.arr (.int .u8) m]=>some (p,h,m) |_,_=>none),
 fun x=>(none,.agg [.own 1,.own 0],[some (.arr (.int .u8) x.2.2)],[.arr (.int .i64) [x.1,x.2.1]])⟩
theorem Qgm:Qi Tryz.prog 198 QrO.spec:=by
 have hP:Qe Tryz.prog _:=(Qc (T:=tree))
 have hT:=tabs hP Qf
 refine QrO.good (fn:=Tryz.f198) hT hP Tryz.func198 (by kernel_rfl) rfl ?_ fun ((p,h,m):Int × Int × List Int) _=>?_
 ·intro a b x h
  simp only [QrO] at h
  split at h
  ·injection h with h;subst h;exact ⟨rfl,rfl⟩
  ·cases h
 repeat' first |(refine Go.mk ?_;conv=>whnf) |refine Ql.go ?_ ?_ |refine Qm.go (fun _=>?_) (fun _=>?_) |refine Br.dec (fun _=>?_) (fun _=>?_) |refine Br.go (fun _=>?_) (fun _=>?_) |refine Qd hT hP mixed ?_ |refine Qb hT hP ?_
 all_goals first
  |exact of_decide_eq_true rfl
  |exact .mk [] [0,2] _ R R R R R R R
def QB5:Qk:=⟨[],fun _=>(none,Qdb,[.arr (.int .i64) [2559,0],.arr (.int .u8) (List.replicate 32 0)])⟩
theorem QzI:Qi Tryz.prog 113 QB5.spec:=by
 have hP:Qe Tryz.prog _:=Qa Qgm (Qc (T:=tree))
 have hT:=tabs hP Qf
 refine QB5.good (fn:=Tryz.f113) hT hP Tryz.func113 (by kernel_rfl) rfl fun _=>?_
 repeat' first |(refine Go.mk ?_;conv=>whnf) |refine Ql.go ?_ ?_ |refine Qm.go (fun _=>?_) (fun _=>?_) |refine Br.dec (fun _=>?_) (fun _=>?_) |refine Br.go (fun _=>?_) (fun _=>?_) |refine Qd hT hP mixed ?_ |refine Qb hT hP ?_
 all_goals first
  |exact of_decide_eq_true rfl
  |exact .mk [] [2,1] _ R R R R R R R
  |skip
def QxZ:Qk:=⟨[gD,gi],fun (d,k,_)=>(some (u8s d.2∧k≤4611686018427387904),Qdb,[.arr (.int .i64) (QP (Qcf (vM d.2)) k.toNat [vP d.1,vH d.1]),.arr (.int .u8) (vM d.2)])⟩
theorem Qvx:Qi Tryz.prog 160 QxZ.spec:=by
 have hP:Qe Tryz.prog _:=Qa Qgm (Qa Qje (Qa QzF (Qc (T:=tree))))
 have hT:=tabs hP Qf
 refine QxZ.good (fn:=Tryz.f160) hT hP Tryz.func160 (by kernel_rfl) rfl fun (d:Dv) (k:Int) hp=>?_
 obtain ⟨N,M⟩:=d
 obtain ⟨hu,hk⟩:u8s M∧k≤4611686018427387904:=hp _ rfl
 repeat' first |(refine Go.mk ?_;conv=>whnf) |refine Ql.go ?_ ?_ |refine Qm.go (fun _=>?_) (fun _=>?_) |refine Br.dec (fun _=>?_) (fun _=>?_) |refine Br.go (fun _=>?_) (fun _=>?_) |refine Qd hT hP mixed ?_ |refine Qb hT hP ?_
 all_goals first
  |exact of_decide_eq_true rfl
  |skip
 ·rename_i hg
  have hg:k > 5120:=hg
  have ek:IntKind.i64.wrap (2560+Int.tmod k 2560)=2560+k%2560:=by rw [Int.tmod_eq_emod_of_nonneg (by omega),w64 (by omega) (by omega)]
  refine Qay hT hP (X:=Int × Int × Int) (fun (i,p,h)=>St.mk (E3 (E1 ((.cell (.ptr 0 0)) :: (I p) :: (I h) :: (.cell (.own 1)) :: E10 (E1 ((I (IntKind.i64.wrap (2560+Int.tmod k 2560))) :: (I i) :: E10 (E2 [])))))) [some (.var [.imm (.slice none 0 0),.imm (.slice none 0 0)]),some (.arr (.int .u8) (vM M))])
   (fun (i,p,h)=>∃ j:Nat,i=j∧j≤(IntKind.i64.wrap (2560+Int.tmod k 2560)).toNat∧[p,h]=QP (Qcf (vM M)) j [vP N,vH N]∧0≤p∧p < 2560) (fun (i,_)=>((IntKind.i64.wrap (2560+Int.tmod k 2560))-i).toNat) (0,vP N,vH N) (Le.mk [] [1,2] R R ?_ ?_) ?_ fun (i,p,h) hi=>?_
  rotate_right
  repeat' first |(refine Go.mk ?_;conv=>whnf) |refine Ql.go ?_ ?_ |refine Qm.go (fun _=>?_) (fun _=>?_) |refine Br.dec (fun _=>?_) (fun _=>?_) |refine Br.go (fun _=>?_) (fun _=>?_) |refine Qd hT hP mixed ?_ |refine Qb hT hP ?_
  rotate_right 3
  ·exact rfl
  ·repeat' first |exact trivial |exact ⟨rfl,rfl⟩ |refine And.intro ?_ ?_
  ·exact ⟨0,rfl,Nat.zero_le _,rfl,(Qeu N).1,(Qeu N).2⟩
  all_goals
   obtain ⟨j,rfl,hj,hl,hp0,hp1⟩:=hi
   have hpos:Int.tmod (IntKind.i64.wrap (p+1)) 2560=(p+1)%2560:=by rw [w64 (by omega) (by omega),Int.tmod_eq_emod_of_nonneg (by omega)]
   have hpos2:0≤Int.tmod (IntKind.i64.wrap (p+1)) 2560∧Int.tmod (IntKind.i64.wrap (p+1)) 2560 < 2560:=by rw [hpos];omega
  ·decide
  ·exact ⟨Qbh M,Qf9 hu,hpos2.1,hpos2.2⟩
  ·rename_i hh hlt
   have hlt:(j:Int) < IntKind.i64.wrap (2560+Int.tmod k 2560):=hlt
   have hh:Qf1 (vM M) (Int.tmod (IntKind.i64.wrap (p+1)) 2560)=true:=hh
   rw [hpos] at hh
   have e:IntKind.i64.wrap ((j:Int)+1)=((j+1:Nat):Int):=by rw [w64 (by omega) (by omega)];omega
   apply Exists.intro (_,_,_)
   refine And.intro ?_ (And.intro ?_ (Le.mk [] [0,1] R R ?hh ?ht))
   case hh=>exact rfl
   case ht=>repeat' first |exact trivial |exact ⟨rfl,rfl⟩ |refine And.intro ?_ ?_
   ·refine ⟨j+1,e,by omega,?_,by rw [hpos];omega,by rw [hpos];omega⟩
    rw [QaF,← hl,Qcf,hh,hpos];rfl
   ·show ((IntKind.i64.wrap (2560+Int.tmod k 2560))-IntKind.i64.wrap ((j:Int)+1)).toNat < ((IntKind.i64.wrap (2560+Int.tmod k 2560))-(j:Int)).toNat
    rw [e];omega
  ·rename_i hh hlt
   have hlt:(j:Int) < IntKind.i64.wrap (2560+Int.tmod k 2560):=hlt
   have hh:Qf1 (vM M) (Int.tmod (IntKind.i64.wrap (p+1)) 2560)=false:=hh
   rw [hpos] at hh
   have e:IntKind.i64.wrap ((j:Int)+1)=((j+1:Nat):Int):=by rw [w64 (by omega) (by omega)];omega
   apply Exists.intro (_,_,_)
   refine And.intro ?_ (And.intro ?_ (Le.mk [] [0,1] R R ?hh ?ht))
   case hh=>exact rfl
   case ht=>repeat' first |exact trivial |exact ⟨rfl,rfl⟩ |refine And.intro ?_ ?_
   ·refine ⟨j+1,e,by omega,?_,by rw [hpos];omega,by rw [hpos];omega⟩
    rw [QaF,← hl,Qcf,hh,hpos];rfl
   ·show ((IntKind.i64.wrap (2560+Int.tmod k 2560))-IntKind.i64.wrap ((j:Int)+1)).toNat < ((IntKind.i64.wrap (2560+Int.tmod k 2560))-(j:Int)).toNat
    rw [e];omega
  ·rename_i hlt
   have hlt:¬ (j:Int) < IntKind.i64.wrap (2560+Int.tmod k 2560):=hlt
   have ej:j=(IntKind.i64.wrap (2560+Int.tmod k 2560)).toNat:=by omega
   refine .mk [] [2,1] _ R R R R R (Qdc (l:=[p,h]) ?_ rfl) rfl
   show _=QP (Qcf (vM M)) k.toNat [vP N,vH N]
   have en:j=2560+k.toNat%2560:=by rw [ej,ek];omega
   rw [QrB (vM M) (Qeu N) (n:=k.toNat) (by omega),← en];exact hl
 ·rename_i hg
  have hg:¬ k > 5120:=hg
  refine Qay hT hP (X:=Int × Int × Int) (fun (i,p,h)=>St.mk (E3 (E1 ((.cell (.ptr 0 0)) :: (I p) :: (I h) :: (.cell (.own 1)) :: E10 (E1 ((I k) :: (I i) :: E10 (E2 [])))))) [some (.var [.imm (.slice none 0 0),.imm (.slice none 0 0)]),some (.arr (.int .u8) (vM M))])
   (fun (i,p,h)=>∃ j:Nat,i=j∧j≤k.toNat∧[p,h]=QP (Qcf (vM M)) j [vP N,vH N]∧0≤p∧p < 2560) (fun (i,_)=>(k-i).toNat) (0,vP N,vH N) (Le.mk [] [1,2] R R ?_ ?_) ?_ fun (i,p,h) hi=>?_
  rotate_right
  repeat' first |(refine Go.mk ?_;conv=>whnf) |refine Ql.go ?_ ?_ |refine Qm.go (fun _=>?_) (fun _=>?_) |refine Br.dec (fun _=>?_) (fun _=>?_) |refine Br.go (fun _=>?_) (fun _=>?_) |refine Qd hT hP mixed ?_ |refine Qb hT hP ?_
  rotate_right 3
  ·exact rfl
  ·repeat' first |exact trivial |exact ⟨rfl,rfl⟩ |refine And.intro ?_ ?_
  ·exact ⟨0,rfl,Nat.zero_le _,rfl,(Qeu N).1,(Qeu N).2⟩
  all_goals
   obtain ⟨j,rfl,hj,hl,hp0,hp1⟩:=hi
   have hpos:Int.tmod (IntKind.i64.wrap (p+1)) 2560=(p+1)%2560:=by rw [w64 (by omega) (by omega),Int.tmod_eq_emod_of_nonneg (by omega)]
   have hpos2:0≤Int.tmod (IntKind.i64.wrap (p+1)) 2560∧Int.tmod (IntKind.i64.wrap (p+1)) 2560 < 2560:=by rw [hpos];omega
  ·decide
  ·exact ⟨Qbh M,Qf9 hu,hpos2.1,hpos2.2⟩
  ·rename_i hh hlt
   have hlt:(j:Int) < k:=hlt
   have hh:Qf1 (vM M) (Int.tmod (IntKind.i64.wrap (p+1)) 2560)=true:=hh
   rw [hpos] at hh
   have e:IntKind.i64.wrap ((j:Int)+1)=((j+1:Nat):Int):=by rw [w64 (by omega) (by omega)];omega
   apply Exists.intro (_,_,_)
   refine And.intro ?_ (And.intro ?_ (Le.mk [] [0,1] R R ?hh ?ht))
   case hh=>exact rfl
   case ht=>repeat' first |exact trivial |exact ⟨rfl,rfl⟩ |refine And.intro ?_ ?_
   ·refine ⟨j+1,e,by omega,?_,by rw [hpos];omega,by rw [hpos];omega⟩
    rw [QaF,← hl,Qcf,hh,hpos];rfl
   ·show (k-IntKind.i64.wrap ((j:Int)+1)).toNat < (k-(j:Int)).toNat
    rw [e];omega
  ·rename_i hh hlt
   have hlt:(j:Int) < k:=hlt
   have hh:Qf1 (vM M) (Int.tmod (IntKind.i64.wrap (p+1)) 2560)=false:=hh
   rw [hpos] at hh
   have e:IntKind.i64.wrap ((j:Int)+1)=((j+1:Nat):Int):=by rw [w64 (by omega) (by omega)];omega
   apply Exists.intro (_,_,_)
   refine And.intro ?_ (And.intro ?_ (Le.mk [] [0,1] R R ?hh ?ht))
   case hh=>exact rfl
   case ht=>repeat' first |exact trivial |exact ⟨rfl,rfl⟩ |refine And.intro ?_ ?_
   ·refine ⟨j+1,e,by omega,?_,by rw [hpos];omega,by rw [hpos];omega⟩
    rw [QaF,← hl,Qcf,hh,hpos];rfl
   ·show (k-IntKind.i64.wrap ((j:Int)+1)).toNat < (k-(j:Int)).toNat
    rw [e];omega
  ·rename_i hlt
   have hlt:¬ (j:Int) < k:=hlt
   have ej:j=k.toNat:=by omega
   refine .mk [] [2,1] _ R R R R R (Qdc (l:=[p,h]) ?_ rfl) rfl
   show _=QP (Qcf (vM M)) k.toNat [vP N,vH N]
   rw [← ej];exact hl
def QB6:Qk:=⟨[gD],fun (d,_)=>(some (u8s d.2),I (Qbg (vM d.2) (vP d.1)),[])⟩
theorem QzJ:Qi Tryz.prog 217 QB6.spec:=by
 have hP:Qe Tryz.prog _:=Qa Qje (Qa Qvw (Qc (T:=tree)))
 have hT:=tabs hP Qf
 refine QB6.good (fn:=Tryz.f217) hT hP Tryz.func217 (by kernel_rfl) rfl fun (d:Dv) hp=>?_
 obtain ⟨N,M⟩:=d
 have hu:u8s M:=hp _ rfl
 repeat' first |(refine Go.mk ?_;conv=>whnf) |refine Ql.go ?_ ?_ |refine Qm.go (fun _=>?_) (fun _=>?_) |refine Br.dec (fun _=>?_) (fun _=>?_) |refine Br.go (fun _=>?_) (fun _=>?_) |refine Qd hT hP mixed ?_ |refine Qb hT hP ?_
 ·exact ⟨Qbh M,Qf9 hu,(Qeu N).1,(Qeu N).2⟩
 ·exact .mk [] [] _ R R R R R R R
def vwM (m:List Int) (a k:Int):List Int:=if (0≤a∧a < 32)∧(a < 5∨a > 7) then m.set a.toNat (k%256) else m
def QrP:Qk:=⟨[gD,gi,gi],fun (d,a,k,_)=>(none,Qdb,[.arr (.int .i64) [vP d.1,vH d.1],.arr (.int .u8) (vwM (vM d.2) a k)])⟩
theorem QrQ:Qi Tryz.prog 183 QrP.spec:=by
 have hP:Qe Tryz.prog _:=Qa Qgm (Qa Qje (Qa QT (Qc (T:=tree))))
 have hT:=tabs hP Qf
 refine QrP.good (fn:=Tryz.f183) hT hP Tryz.func183 (by kernel_rfl) rfl fun (d:Dv) (a k:Int) _=>?_
 obtain ⟨N,M⟩:=d
 repeat' first |(refine Go.mk ?_;conv=>whnf) |refine Ql.go ?_ ?_ |refine Qm.go (fun _=>?_) (fun _=>?_) |refine Br.dec (fun _=>?_) (fun _=>?_) |refine Br.go (fun _=>?_) (fun _=>?_) |refine Qd hT hP mixed ?_ |refine Qb hT hP ?_
 all_goals first
  |exact of_decide_eq_true rfl
  |skip
 ·show 0≤a∧a < (vM M).length
  rw [Qbh];omega
 ·show a.toNat < (vM M).length
  rw [Qbh];omega
 ·refine .mk [] [3,2] _ R R R R R (Qdc (l:=[vP N,vH N]) (m:=(vM M).set a.toNat (IntKind.u8.wrap (k%2 ^ (8:Int).toNat))) rfl ?_) rfl
  show _=vwM (vM M) a k
  have e:IntKind.u8.wrap (k%2 ^ (8:Int).toNat)=k%256:=QzH (by show 0≤k%256;omega) (by show k%256 < 256;omega)
  rw [vwM,if_pos ⟨⟨by omega,by omega⟩,by omega⟩,e]
 ·show 0≤a∧a < (vM M).length
  rw [Qbh];omega
 ·show a.toNat < (vM M).length
  rw [Qbh];omega
 ·refine .mk [] [3,2] _ R R R R R (Qdc (l:=[vP N,vH N]) (m:=(vM M).set a.toNat (IntKind.u8.wrap (k%2 ^ (8:Int).toNat))) rfl ?_) rfl
  show _=vwM (vM M) a k
  have e:IntKind.u8.wrap (k%2 ^ (8:Int).toNat)=k%256:=QzH (by show 0≤k%256;omega) (by show k%256 < 256;omega)
  rw [vwM,if_pos ⟨⟨by omega,by omega⟩,by omega⟩,e]
 ·refine .mk [] [3,2] _ R R R R R (Qdc (l:=[vP N,vH N]) (m:=vM M) rfl ?_) rfl
  show _=vwM (vM M) a k
  rw [vwM,if_neg (fun e=>by omega)]
 ·refine .mk [] [3,2] _ R R R R R (Qdc (l:=[vP N,vH N]) (m:=vM M) rfl ?_) rfl
  show _=vwM (vM M) a k
  rw [vwM,if_neg (fun e=>by omega)]
 ·refine .mk [] [3,2] _ R R R R R (Qdc (l:=[vP N,vH N]) (m:=vM M) rfl ?_) rfl
  show _=vwM (vM M) a k
  rw [vwM,if_neg (fun e=>by omega)]
def vrF (N m:List Int) (a:Int):Int:=if a=5 then vP N/64 else if a=6 then vP N%64 else if a=7 then vH N else if 0≤a∧a < 32 then bA m a.toNat else 0
def vrN (N:List Int) (a:Int):List Int:=[vP N,if a=7 then 0 else vH N]
def Qx0:Qk:=⟨[gD,gi],fun (d,a,_)=>(some (u8s d.2),.tup [.agg [.own 0,.own 1],I1 (vrF d.1 (vM d.2) a)],[.arr (.int .i64) (vrN d.1 a),.arr (.int .u8) (vM d.2)])⟩
theorem Qvy:Qi Tryz.prog 176 Qx0.spec:=by
 have hP:Qe Tryz.prog _:=Qa Qgm (Qa Qje (Qc (T:=tree)))
 have hT:=tabs hP Qf
 refine Qx0.good (fn:=Tryz.f176) hT hP Tryz.func176 (by kernel_rfl) rfl fun (d:Dv) (a:Int) hp=>?_
 obtain ⟨N,M⟩:=d
 have hu:u8s M:=hp _ rfl
 have hP0:=Qeu N
 repeat' first |(refine Go.mk ?_;conv=>whnf) |refine Ql.go ?_ ?_ |refine Qm.go (fun _=>?_) (fun _=>?_) |refine Br.dec (fun _=>?_) (fun _=>?_) |refine Br.go (fun _=>?_) (fun _=>?_) |refine Qd hT hP mixed ?_ |refine Qb hT hP ?_
 all_goals first
  |exact of_decide_eq_true rfl
  |(show 0≤a∧a < (vM M).length
     rw [Qbh];omega)
  |(show a.toNat < (vM M).length
     rw [Qbh];omega)
  |skip
 ·rename_i h
  have h:a=5:=h
  refine .mk [] [3,2] _ R R R R R (Qdc (l:=[vP N,vH N]) (m:=vM M) ?_ rfl) (Qg7 ?_)
  ·show _=vrN N a
   rw [vrN,if_neg (by omega)]
  ·show IntKind.i64.wrap (Int.tdiv (vP N) 64)=vrF N (vM M) a
   rw [vrF,if_pos h,Int.tdiv_eq_ediv_of_nonneg hP0.1,w64 (by omega) (by omega)]
 ·rename_i h0 h
  have h:a=6:=h
  refine .mk [] [3,2] _ R R R R R (Qdc (l:=[vP N,vH N]) (m:=vM M) ?_ rfl) (Qg7 ?_)
  ·show _=vrN N a
   rw [vrN,if_neg (by omega)]
  ·show Int.tmod (vP N) 64=vrF N (vM M) a
   rw [vrF,if_neg h0,if_pos h,Int.tmod_eq_emod_of_nonneg hP0.1]
 ·rename_i h0 h1 h
  have h:a=7:=h
  refine .mk [] [3,2] _ R R R R R (Qdc (l:=[vP N,0]) (m:=vM M) ?_ rfl) (Qg7 ?_)
  ·show _=vrN N a
   rw [vrN,if_pos h]
  ·show vH N=vrF N (vM M) a
   rw [vrF,if_neg h0,if_neg h1,if_pos h]
 ·rename_i h0 h1 h2 h3 h4
  have hb:=Qda (Qf9 hu) a.toNat
  refine .mk [] [3,2] _ R R R R R (Qdc (l:=[vP N,vH N]) (m:=vM M) ?_ rfl) (Qg7 ?_)
  ·show _=vrN N a
   rw [vrN,if_neg h2]
  ·show IntKind.i64.wrap (bA (vM M) a.toNat)=vrF N (vM M) a
   rw [vrF,if_neg h0,if_neg h1,if_neg h2,if_pos ⟨h3,h4⟩,w64 (by omega) (by omega)]
 ·rename_i h0 h1 h2 h3 h4
  refine .mk [] [3,2] _ R R R R R (Qdc (l:=[vP N,vH N]) (m:=vM M) ?_ rfl) (Qg7 ?_)
  ·show _=vrN N a
   rw [vrN,if_neg h2]
  ·show 0=vrF N (vM M) a
   rw [vrF,if_neg h0,if_neg h1,if_neg h2,if_neg (fun e=>h4 e.2)]
 ·rename_i h0 h1 h2 h3
  refine .mk [] [3,2] _ R R R R R (Qdc (l:=[vP N,vH N]) (m:=vM M) ?_ rfl) (Qg7 ?_)
  ·show _=vrN N a
   rw [vrN,if_neg h2]
  ·show 0=vrF N (vM M) a
   rw [vrF,if_neg h0,if_neg h1,if_neg h2,if_neg (fun e=>h3 e.1)]
set_option linter.constructorNameAsVariable false
def i64 (x:Int):Prop:=-9223372036854775808≤x∧x≤9223372036854775807
def cP (c:Cv):Prop:=i64 c.2.2.1∧i64 c.2.2.2.1∧List.length c.2.2.2.2≤140737488351232
def dP (d:Dv):Prop:=List.length d.2≤140737488355328∧u8s d.2
def QaS (c:Cv):Int:=max 1 (min (max c.2.2.2.1 1) 4097-1)
theorem Qcz (c:Cv):1≤QaS c∧QaS c≤4096:=by unfold QaS;omega
def Qap (c:Cv):Int:=max 1 (((List.length c.2.2.2.2:Nat)+QaS c-1)/QaS c)
theorem QaP {c:Cv} (h:List.length c.2.2.2.2≤140737488351232):1≤Qap c∧Qap c≤140737488355328∧Qap c*QaS c≤140737488355328:=by
 obtain ⟨h1,h2⟩:=Qcz c
 have h3:((List.length c.2.2.2.2:Nat)+QaS c-1)/QaS c*QaS c≤(List.length c.2.2.2.2:Nat)+QaS c-1:=Int.ediv_mul_le _ (by omega)
 have h4:((List.length c.2.2.2.2:Nat)+QaS c-1)/QaS c≤(List.length c.2.2.2.2:Nat)+QaS c-1:=Int.ediv_le_self _ (by omega)
 unfold Qap
 rcases Int.le_total 1 (((List.length c.2.2.2.2:Nat)+QaS c-1)/QaS c) with h |h
 ·rw [Int.max_eq_right h]
  omega
 ·rw [Int.max_eq_left h]
  omega
def Qbn (c:Cv):Int:=if c.2.1=2 then Qap c*QaS c else max 0 (min c.2.2.2.1 65536)
theorem QkT {c:Cv} (h:List.length c.2.2.2.2≤140737488351232):0≤Qbn c∧Qbn c≤140737488355328:=by
 obtain ⟨h1,h2,h3⟩:=QaP h
 obtain ⟨h4,h5⟩:=Qcz c
 have h6:0≤Qap c*QaS c:=Int.mul_nonneg (by omega) (by omega)
 unfold Qbn
 split
 ·omega
 ·omega
def Qa7 (c:Cv) (M:List Int):List Int:=over (List.replicate (Qbn c).toNat 0) M 0
def memN (c:Cv) (N:List Int):List Int:=if c.2.1=2 then [N.getD 0 0%Qap c] else []
theorem QnS (c:Cv) (M:List Int):(Qa7 c M).length=(Qbn c).toNat:=by
 unfold Qa7;rw [QbW,List.length_replicate]
def QrS:Qk:=⟨[gC],fun (c,_)=>(none,I (QaS c),[])⟩
theorem Qha:Qi Tryz.prog 197 QrS.spec:=by
 have hP:Qe Tryz.prog _:=(Qc (T:=tree))
 have hT:=tabs hP Qf
 refine QrS.good (fn:=Tryz.f197) hT hP Tryz.func197 (by kernel_rfl) rfl fun (c:Cv) _=>?_
 obtain ⟨cn,ck,cb,cs,cd⟩:=c
 repeat' first |(refine Go.mk ?_;conv=>whnf) |refine Ql.go ?_ ?_ |refine Qm.go (fun _=>?_) (fun _=>?_) |refine Br.dec (fun _=>?_) (fun _=>?_) |refine Br.go (fun _=>?_) (fun _=>?_) |refine Qd hT hP mixed ?_ |refine Qb hT hP ?_
 refine .mk [] [] _ R R R R R R (Qg ?_)
 show imax 1 (IntKind.i64.wrap (imin (imax cs 1) 4097-1))=max 1 (min (max cs 1) 4097-1)
 rw [Q9,QbZ,Q9,w64 (by omega) (by omega)]
def QrT:Qk:=⟨[gC],fun (c,_)=>(some (List.length c.2.2.2.2≤140737488351232),I (Qap c),[])⟩
theorem Qhb:Qi Tryz.prog 196 QrT.spec:=by
 have hP:Qe Tryz.prog _:=Qa Qha (Qc (T:=tree))
 have hT:=tabs hP Qf
 refine QrT.good (fn:=Tryz.f196) hT hP Tryz.func196 (by kernel_rfl) rfl fun (c:Cv) hp=>?_
 have hl:List.length c.2.2.2.2≤140737488351232:=hp _ rfl
 obtain ⟨h1,h2⟩:=Qcz c
 obtain ⟨cn,ck,cb,cs,cd⟩:=c
 have hl:cd.length≤140737488351232:=hl
 clear hp
 repeat' first |(refine Go.mk ?_;conv=>whnf) |refine Ql.go ?_ ?_ |refine Qm.go (fun _=>?_) (fun _=>?_) |refine Br.dec (fun _=>?_) (fun _=>?_) |refine Br.go (fun _=>?_) (fun _=>?_) |refine Qd hT hP mixed ?_ |refine Qb hT hP ?_
 all_goals first
  |(show QaS (cn,ck,cb,cs,cd)≠0
     omega)
  |skip
 refine .mk [] [] _ R R R R R R (Qg ?_)
 show imax 1 (IntKind.i64.wrap (Int.tdiv (IntKind.i64.wrap (IntKind.i64.wrap ((cd.length:Int)+QaS (cn,ck,cb,cs,cd))-1)) (QaS (cn,ck,cb,cs,cd))))=Qap (cn,ck,cb,cs,cd)
 have h4:((cd.length:Int)+QaS (cn,ck,cb,cs,cd)-1)/QaS (cn,ck,cb,cs,cd)≤(cd.length:Int)+QaS (cn,ck,cb,cs,cd)-1:=Int.ediv_le_self _ (by omega)
 have h5:0≤((cd.length:Int)+QaS (cn,ck,cb,cs,cd)-1)/QaS (cn,ck,cb,cs,cd):=Int.ediv_nonneg (by omega) (by omega)
 rw [w64 (x:=(cd.length:Int)+QaS (cn,ck,cb,cs,cd)) (by omega) (by omega),w64 (x:=(cd.length:Int)+QaS (cn,ck,cb,cs,cd)-1) (by omega) (by omega),Int.tdiv_eq_ediv_of_nonneg (by omega),w64 (by omega) (by omega),Q9]
 rfl
def QrU:Qk:=⟨[gC],fun (c,_)=>(some (List.length c.2.2.2.2≤140737488351232),I (Qbn c),[])⟩
theorem QkU:Qi Tryz.prog 109 QrU.spec:=by
 have hP:Qe Tryz.prog _:=Qa Qha (Qa Qhb (Qc (T:=tree)))
 have hT:=tabs hP Qf
 refine QrU.good (fn:=Tryz.f109) hT hP Tryz.func109 (by kernel_rfl) rfl fun (c:Cv) hp=>?_
 have hl:List.length c.2.2.2.2≤140737488351232:=hp _ rfl
 obtain ⟨h1,h2⟩:=Qcz c
 obtain ⟨h3,h4,h5⟩:=QaP hl
 have h6:0≤Qap c*QaS c:=Int.mul_nonneg (by omega) (by omega)
 obtain ⟨cn,ck,cb,cs,cd⟩:=c
 clear hp
 repeat' first |(refine Go.mk ?_;conv=>whnf) |refine Ql.go ?_ ?_ |refine Qm.go (fun _=>?_) (fun _=>?_) |refine Br.dec (fun _=>?_) (fun _=>?_) |refine Br.go (fun _=>?_) (fun _=>?_) |refine Qd hT hP mixed ?_ |refine Qb hT hP ?_
 all_goals first
  |exact hl
  |skip
 ·rename_i h
  have h:ck=2:=h
  refine .mk [] [] _ R R R R R R (Qg ?_)
  show IntKind.i64.wrap (Qap (cn,ck,cb,cs,cd)*QaS (cn,ck,cb,cs,cd))=Qbn (cn,ck,cb,cs,cd)
  rw [w64 (by omega) (by omega),Qbn,if_pos h]
 ·rename_i h
  have h:¬ ck=2:=h
  refine .mk [] [] _ R R R R R R (Qg ?_)
  show imax 0 (imin cs 65536)=Qbn (cn,ck,cb,cs,cd)
  rw [Q9,QbZ,Qbn,if_neg h]
theorem Qhc (n a b:Int) (h:a≤b):Qad n a b=max a (min n b):=by
 unfold Qad;(repeat' split)<;>omega
theorem QrV {l k w:Int} (hw:1≤w) (hk:0≤k) (hl:0≤l) (h1:l-k*w≤0) (h2:k=0∨0 < l-(k-1)*w):max 1 (min k 1152921504606846976)=max 1 (min ((l+w-1)/w) 1152921504606846976):=by
 rcases h2 with rfl |h2
 ·have:l=0:=by omega
  subst this
  have:(0+w-1)/w=0:=Int.ediv_eq_zero_of_lt (by omega) (by omega)
  rw [this]
 ·have e:(l+w-1)/w=k:=by
   rw [Int.sub_mul] at h2
   have:l+w-1=(l+w-1-k*w)+k*w:=by omega
   rw [this,Int.add_mul_ediv_right _ _ (by omega),Int.ediv_eq_zero_of_lt (by omega) (by omega)]
   omega
  rw [e]
def QrW:Qk:=⟨[gC],fun (c,_)=>(some (cP c),.tup [I1 (Qap c),I1 (QaS c)],[])⟩
theorem Qe1:Qi Tryz.prog 107 QrW.spec:=by
 have hP:Qe Tryz.prog _:=Qa Qgn (Qc (T:=tree))
 have hT:=tabs hP Qf
 refine QrW.good (fn:=Tryz.f107) hT hP Tryz.func107 (by kernel_rfl) rfl fun (c:Cv) hp=>?_
 obtain ⟨hb,hs,hl⟩:cP c:=hp _ rfl
 obtain ⟨h1,h2⟩:=Qcz c
 obtain ⟨h3,h4,h5⟩:=QaP hl
 obtain ⟨cn,ck,cb,cs,cd⟩:=c
 have hl:cd.length≤140737488351232:=hl
 obtain ⟨hs1,hs2⟩:-9223372036854775808≤cs∧cs≤9223372036854775807:=hs
 clear hp
 have ew:Qad (IntKind.i64.wrap (imax cs 1-1)) 1 4096=QaS (cn,ck,cb,cs,cd):=by
  rw [Q9,Qhc _ _ _ (by omega)]
  unfold QaS
  show _=max 1 (min (max cs 1) 4097-1)
  rw [w64 (by omega) (by omega)];omega
 generalize hw:QaS (cn,ck,cb,cs,cd)=w at *
 repeat' first |(refine Go.mk ?_;conv=>whnf) |refine Ql.go ?_ ?_ |refine Qm.go (fun _=>?_) (fun _=>?_) |refine Br.dec (fun _=>?_) (fun _=>?_) |refine Br.go (fun _=>?_) (fun _=>?_) |refine Qd hT hP mixed ?_ |refine Qb hT hP ?_
 refine Qay hT hP (X:=Int × Int) (fun (k,l)=>St.mk (E3 (E1 ((I (Qad (IntKind.i64.wrap (imax cs 1-1)) 1 4096)) :: (I k) :: (I l) :: E10 (E5 (E3 []))))) [])
  (fun (k,l)=>0≤k∧k≤cd.length∧l=cd.length-k*w∧(k=0∨0 < (cd.length:Int)-(k-1)*w)) (fun (k,l)=>l.toNat) (0,(cd.length:Int)) (Le.mk [] [] R R R ?_) ?_ fun (k,l) hi=>?_
 rotate_right
 repeat' first |(refine Go.mk ?_;conv=>whnf) |refine Ql.go ?_ ?_ |refine Qm.go (fun _=>?_) (fun _=>?_) |refine Br.dec (fun _=>?_) (fun _=>?_) |refine Br.go (fun _=>?_) (fun _=>?_) |refine Qd hT hP mixed ?_ |refine Qb hT hP ?_
 ·rename_i h0
  obtain ⟨hk0,hk,hll,hor⟩:=hi
  have h0:l > 0:=h0
  have hm:k*1≤k*w:=Int.mul_le_mul_of_nonneg_left h1 hk0
  have e1:IntKind.i64.wrap (k+1)=k+1:=w64 (by omega) (by omega)
  have e2:IntKind.i64.wrap (l-Qad (IntKind.i64.wrap (imax cs 1-1)) 1 4096)=l-w:=by rw [ew];exact w64 (by omega) (by omega)
  apply Exists.intro (_,_)
  refine And.intro ?_ (And.intro ?_ (Le.mk [] [] R R ?hh ?ht))
  case hh=>exact rfl
  case ht=>repeat' first |exact trivial |exact ⟨rfl,rfl⟩ |refine And.intro ?_ ?_
  ·show 0≤IntKind.i64.wrap (k+1)∧IntKind.i64.wrap (k+1)≤cd.length∧IntKind.i64.wrap (l-Qad (IntKind.i64.wrap (imax cs 1-1)) 1 4096)=cd.length-IntKind.i64.wrap (k+1)*w∧(IntKind.i64.wrap (k+1)=0∨0 < (cd.length:Int)-(IntKind.i64.wrap (k+1)-1)*w)
   rw [e1,e2,Int.add_mul,Int.one_mul]
   refine ⟨by omega,by omega,by omega,.inr ?_⟩
   have:k+1-1=k:=by omega
   rw [this];omega
  ·show (IntKind.i64.wrap (l-Qad (IntKind.i64.wrap (imax cs 1-1)) 1 4096)).toNat < l.toNat
   rw [e2];omega
 ·rename_i h0
  obtain ⟨hk0,hk,hll,hor⟩:=hi
  have h0:¬ l > 0:=h0
  refine .mk [] [] _ R R R R R R ?_
  show AV.tup [I1 (Qad k 1 1152921504606846976),I1 (Qad (IntKind.i64.wrap (imax cs 1-1)) 1 4096)]=AV.tup [I1 (Qap (cn,ck,cb,cs,cd)),I1 (QaS (cn,ck,cb,cs,cd))]
  have e:=QrV (l:=cd.length) (k:=k) (w:=w) h1 hk0 (by omega) (by omega) hor
  have h7:((cd.length:Int)+w-1)/w≤(cd.length:Int)+w-1:=Int.ediv_le_self _ (by omega)
  have e2:Qad k 1 1152921504606846976=Qap (cn,ck,cb,cs,cd):=by
   rw [Qhc _ _ _ (by omega),e,Qap,hw]
   show _=max 1 (((cd.length:Int)+w-1)/w)
   rw [Int.min_eq_left (by omega)]
  rw [ew,e2,hw]
 ·repeat' first |exact trivial |exact ⟨rfl,rfl⟩ |refine And.intro ?_ ?_
 ·exact ⟨Int.le_refl _,by omega,by show (cd.length:Int)=cd.length-0*w;omega,.inl rfl⟩
theorem QzK (n:Int) (M:List Int) (h:IntKind.i64.wrap n=n):over (List.replicate (IntKind.i64.wrap n).toNat 0) M 0=over (List.replicate n.toNat 0) M 0:=by rw [h]
def QB7:Qk:=⟨[gC,gD],fun (c,d,_)=>(some (cP c),Qdb,[.arr (.int .i64) (memN c d.1),.arr (.int .u8) (Qa7 c d.2)])⟩
theorem Qmj:Qi Tryz.prog 155 QB7.spec:=by
 have hP:Qe Tryz.prog _:=Qa QkU (Qa Qhb (Qc (T:=tree)))
 have hT:=tabs hP Qf
 refine QB7.good (fn:=Tryz.f155) hT hP Tryz.func155 (by kernel_rfl) rfl fun (c:Cv) (d:Dv) hp=>?_
 obtain ⟨hb,hs,hl⟩:cP c:=hp _ rfl
 obtain ⟨h3,h4,h5⟩:=QaP hl
 obtain ⟨h6,h7⟩:=QkT hl
 obtain ⟨N,M⟩:=d
 clear hp
 obtain ⟨cn,ck,cb,cs,cd⟩:=c
 repeat' first |(refine Go.mk ?_;conv=>whnf) |refine Ql.go ?_ ?_ |refine Qm.go (fun _=>?_) (fun _=>?_) |refine Br.dec (fun _=>?_) (fun _=>?_) |refine Br.go (fun _=>?_) (fun _=>?_) |refine Qd hT hP mixed ?_ |refine Qb hT hP ?_
 all_goals (try dsimp only [Qj] at *)
 all_goals first
  |exact hl
  |exact of_decide_eq_true rfl
  |(show Qbn (cn,ck,cb,cs,cd)=Qbn (cn,ck,cb,cs,cd)∧0≤Qbn (cn,ck,cb,cs,cd)∧Qbn (cn,ck,cb,cs,cd)*1≤281474976710656∧Qbn (cn,ck,cb,cs,cd)≤281474976710656
     omega)
  |(show (0:Int)≤0∧(0:Int) < (N.length:Int)
     omega)
  |(show Qap (cn,ck,cb,cs,cd)≠0
     omega)
  |skip
 ·rename_i g1 g2
  refine .mk [] [5,3] _ R R R R R (Qy (l':=memN (cn,ck,cb,cs,cd) N) (m':=Qa7 (cn,ck,cb,cs,cd) M) ?_ rfl) rfl
  show [Int.tmod (IntKind.i64.wrap (Int.tmod (N.getD 0 0) (Qap (cn,ck,cb,cs,cd))+Qap (cn,ck,cb,cs,cd))) (Qap (cn,ck,cb,cs,cd))]=_
  rw [QnC _ (by omega) (by omega),memN,if_pos g1]
 ·rename_i g1 g2
  refine .mk [] [5,3] _ R R R R R (Qy (l:=[0]) (l':=memN (cn,ck,cb,cs,cd) N) (m':=Qa7 (cn,ck,cb,cs,cd) M) ?_ rfl) rfl
  obtain rfl:N=[]:=List.eq_nil_of_length_eq_zero (by omega)
  rw [memN,if_pos g1];rfl
 ·rename_i g1
  refine .le (Le.nilH 2 (.int .i64) _ _ R R R) (.mk [] [5,3] _ R R R R R (Qy (l:=[]) (l':=memN (cn,ck,cb,cs,cd) N) (m':=Qa7 (cn,ck,cb,cs,cd) M) ?_ rfl) rfl)
  rw [memN,if_neg g1]
def QnT:Qk:=⟨[gC,gD],fun (c,d,_)=>(some (cP c∧(c.2.1=0∨c.2.1=1∨c.2.1=2)),Qdb,[.arr (.int .i64) (memN c d.1),.arr (.int .u8) (Qa7 c d.2)])⟩
theorem QfH:Qi Tryz.prog 58 QnT.spec:=by
 have hP:Qe Tryz.prog _:=Qa Qgn (Qa Qe1 (Qa Qcy (Qc (T:=tree))))
 have hT:=tabs hP Qf
 refine QnT.good (fn:=Tryz.f58) hT hP Tryz.func58 (by kernel_rfl) rfl fun (c:Cv) (d:Dv) hp=>?_
 obtain ⟨hc,hk⟩:cP c∧(c.2.1=0∨c.2.1=1∨c.2.1=2):=hp _ rfl
 obtain ⟨hb,hs,hl⟩:=id hc
 obtain ⟨h3,h4,h5⟩:=QaP hl
 obtain ⟨h1,h2⟩:=Qcz c
 obtain ⟨N,M⟩:=d
 clear hp
 obtain ⟨cn,ck,cb,cs,cd⟩:=c
 have hk:ck=0∨ck=1∨ck=2:=hk
 have el:Qad cs 0 65536=max 0 (min cs 65536):=Qhc _ _ _ (by omega)
 rcases hk with rfl |rfl |rfl
 ·repeat' first |(refine Go.mk ?_;conv=>whnf) |refine Ql.go ?_ ?_ |refine Qm.go (fun _=>?_) (fun _=>?_) |refine Br.dec (fun _=>?_) (fun _=>?_) |refine Br.go (fun _=>?_) (fun _=>?_) |refine Qd hT hP mixed ?_ |refine Qb hT hP ?_
  all_goals (try dsimp only [Qj] at *)
  ·omega
  ·rename_i g1
   refine .le (Le.nilH 2 (.int .i64) _ _ R R R) (.mk [] [5,4] _ R R R R R (Qy (l:=[]) (l':=memN (cn,0,cb,cs,cd) N) (m':=Qa7 (cn,0,cb,cs,cd) M) rfl ?_) rfl)
   show over (List.replicate (Qad cs 0 65536).toNat 0) M 0=over (List.replicate (max 0 (min cs 65536)).toNat 0) M 0
   rw [el]
  ·rename_i g1
   refine .le (Le.nilH 2 (.int .i64) _ _ R R R) (.le (Le.nilH 2 (.int .u8) _ _ R R R) (.mk [] [4,5] _ R R R R R (Qy (l:=[]) (l':=memN (cn,0,cb,cs,cd) N) (m:=[]) (m':=Qa7 (cn,0,cb,cs,cd) M) rfl ?_) rfl))
   show _=over (List.replicate (max 0 (min cs 65536)).toNat 0) M 0
   rw [el] at g1
   have:(max 0 (min cs 65536)).toNat=0:=by omega
   rw [this];rfl
 ·repeat' first |(refine Go.mk ?_;conv=>whnf) |refine Ql.go ?_ ?_ |refine Qm.go (fun _=>?_) (fun _=>?_) |refine Br.dec (fun _=>?_) (fun _=>?_) |refine Br.go (fun _=>?_) (fun _=>?_) |refine Qd hT hP mixed ?_ |refine Qb hT hP ?_
  all_goals (try dsimp only [Qj] at *)
  ·omega
  ·rename_i g1
   refine .le (Le.nilH 2 (.int .i64) _ _ R R R) (.mk [] [5,4] _ R R R R R (Qy (l:=[]) (l':=memN (cn,1,cb,cs,cd) N) (m':=Qa7 (cn,1,cb,cs,cd) M) rfl ?_) rfl)
   show over (List.replicate (Qad cs 0 65536).toNat 0) M 0=over (List.replicate (max 0 (min cs 65536)).toNat 0) M 0
   rw [el]
  ·rename_i g1
   refine .le (Le.nilH 2 (.int .i64) _ _ R R R) (.le (Le.nilH 2 (.int .u8) _ _ R R R) (.mk [] [4,5] _ R R R R R (Qy (l:=[]) (l':=memN (cn,1,cb,cs,cd) N) (m:=[]) (m':=Qa7 (cn,1,cb,cs,cd) M) rfl ?_) rfl))
   show _=over (List.replicate (max 0 (min cs 65536)).toNat 0) M 0
   rw [el] at g1
   have:(max 0 (min cs 65536)).toNat=0:=by omega
   rw [this];rfl
 ·have h3:1≤Qap (cn,2,cb,cs,cd):=h3
  have h4:Qap (cn,2,cb,cs,cd)≤140737488355328:=h4
  have h5:Qap (cn,2,cb,cs,cd)*QaS (cn,2,cb,cs,cd)≤140737488355328:=h5
  have h1:1≤QaS (cn,2,cb,cs,cd):=h1
  have h8:1*1≤Qap (cn,2,cb,cs,cd)*QaS (cn,2,cb,cs,cd):=Int.mul_le_mul h3 h1 (by omega) (by omega)
  have ew:IntKind.i64.wrap (Qap (cn,2,cb,cs,cd)*QaS (cn,2,cb,cs,cd))=Qap (cn,2,cb,cs,cd)*QaS (cn,2,cb,cs,cd):=w64 (by omega) (by omega)
  repeat' first |(refine Go.mk ?_;conv=>whnf) |refine Ql.go ?_ ?_ |refine Qm.go (fun _=>?_) (fun _=>?_) |refine Br.dec (fun _=>?_) (fun _=>?_) |refine Br.go (fun _=>?_) (fun _=>?_) |refine Qd hT hP mixed ?_ |refine Qb hT hP ?_
  all_goals (try dsimp only [Qj] at *)
  ·exact hc
  ·refine ⟨by show 1≤1000;omega,fun m hm=>?_⟩
   simp only [List.mem_cons,List.not_mem_nil,or_false] at hm
   subst hm
   show 0 < Qap (cn,2,cb,cs,cd)∧Qap (cn,2,cb,cs,cd)≤4611686018427387904
   omega
  ·rw [ew];omega
  ·rename_i g1
   refine .mk [] [5,6] _ R R R R R (Qy (l':=memN (cn,2,cb,cs,cd) N) (m':=Qa7 (cn,2,cb,cs,cd) M) rfl ?_) rfl
   exact QzK _ M ew
  ·rename_i g1
   exfalso
   have g1:¬ IntKind.i64.wrap (Qap (cn,2,cb,cs,cd)*QaS (cn,2,cb,cs,cd)) > 0:=g1
   rw [ew] at g1
   omega
def QnU:Qk:=⟨[gC,gD],fun (c,d,_)=>(some (c.2.1 < 0∨8 < c.2.1),Qdb,[.arr (.int .i64) [],.arr (.int .u8) []])⟩
theorem QpB:Qi Tryz.prog 58 QnU.spec:=by
 have hP:Qe Tryz.prog _:=Qa Qgn (Qa Qe1 (Qa Qcy (Qc (T:=tree))))
 have hT:=tabs hP Qf
 refine QnU.good (fn:=Tryz.f58) hT hP Tryz.func58 (by kernel_rfl) rfl fun (c:Cv) (d:Dv) hp=>?_
 have hk:c.2.1 < 0∨8 < c.2.1:=hp _ rfl
 obtain ⟨N,M⟩:=d
 clear hp
 obtain ⟨cn,ck,cb,cs,cd⟩:=c
 repeat' first |(refine Go.mk ?_;conv=>whnf) |refine Ql.go ?_ ?_ |refine Qm.go (fun _=>?_) (fun _=>?_) |refine Br.dec (fun _=>?_) (fun _=>?_) |refine Br.go (fun _=>?_) (fun _=>?_) |refine Qd hT hP mixed ?_ |refine Qb hT hP ?_
 all_goals (try dsimp only [Qj] at *)
 all_goals first
  |omega
  |exact .le (Le.nilH 2 (.int .i64) _ _ R R R) (.le (Le.nilH 2 (.int .u8) _ _ R R R) (.mk [] [4,5] _ R R R R R R R))
  |skip
 all_goals trace_state
def QrX:Qk:=⟨[gC,gD],fun (c,d,_)=>(some (c.2.1=8∧List.length d.2≤140737488355328),.agg [.own 0,.own 1],[.arr (.int .i64) (dN d.1 (qF d.2)),.arr (.int .u8) (dM d.2)])⟩
theorem Qb4:Qi Tryz.prog 58 QrX.spec:=by
 refine Qi.sel Qet fun (c,d,_) hp=>?_
 obtain ⟨hk,hl⟩:c.2.1=8∧List.length d.2≤140737488355328:=hp _ rfl
 by_cases h:qF d.2=0
 ·refine ⟨_,Qg3,fun q hq=>?_,?_⟩
  ·cases hq;exact ⟨hk,hl,h⟩
  ·have e:dM d.2=[]:=by unfold dM;rw [h];rfl
   show QqB (AV.agg [.own 0,.imm (.slice none 0 0)],[.arr (.int .i64) (dN d.1 (qF d.2))]) (AV.agg [.own 0,.own 1],[.arr (.int .i64) (dN d.1 (qF d.2)),.arr (.int .u8) (dM d.2)])
   rw [e]
   exact .nil (.int .u8) rfl .refl
 ·exact ⟨_,Qet,fun q hq=>by cases hq;exact ⟨hk,hl,Nat.pos_of_ne_zero h⟩,.refl⟩
def QkV:Qk:=⟨[gC,gD,gi],fun (c,d,a,_)=>(some (c.2.1=8∧List.length d.2≤140737488355328),.tup [.agg [.own 0,.own 1],I1 (drF d.1 (qF d.2) a)],[.arr (.int .i64) (drN d.1 (qF d.2) a),.arr (.int .u8) (dM d.2)])⟩
theorem Qmk:Qi Tryz.prog 76 QkV.spec:=by
 have hP:Qe Tryz.prog _:=Qa Qb4 (Qa QfD (Qa Qma (Qc (T:=tree))))
 have hT:=tabs hP Qf
 refine QkV.good (fn:=Tryz.f76) hT hP Tryz.func76 (by kernel_rfl) rfl fun (c:Cv) (d:Dv) (a:Int) hp=>?_
 obtain ⟨cn,ck,cb,cs,cd⟩:=c
 obtain ⟨N,M⟩:=d
 obtain ⟨rfl,hl⟩:ck=8∧M.length≤140737488355328:=hp _ rfl
 obtain ⟨r0,r1,r2,r3,r4,r5,r6,r7,r8,r9⟩:=eR N (qF M)
 have b1:=Qi9 (decide (e2 N > 0))
 have b2:=Qi9 (decide (e0 N (qF M)=0))
 have hv:IntKind.i64.wrap (IntKind.i64.wrap (IntKind.i64.wrap (Qdo (decide (e2 N > 0))+IntKind.i64.wrap (2*e7 N))+IntKind.i64.wrap (4*e8 N))+IntKind.i64.wrap (8*Qdo (decide (e0 N (qF M)=0))))=Qdo (decide (e2 N > 0))+2*e7 N+4*e8 N+8*Qdo (decide (e0 N (qF M)=0)):=by
  rw [w64 (x:=2*e7 N) (by omega) (by omega),w64 (x:=4*e8 N) (by omega) (by omega),w64 (x:=8*Qdo (decide (e0 N (qF M)=0))) (by omega) (by omega),w64 (x:=Qdo (decide (e2 N > 0))+2*e7 N) (by omega) (by omega),
   w64 (x:=Qdo (decide (e2 N > 0))+2*e7 N+4*e8 N) (by omega) (by omega),w64 (by omega) (by omega)]
 repeat' first |(refine Go.mk ?_;conv=>whnf) |refine Ql.go ?_ ?_ |refine Qm.go (fun _=>?_) (fun _=>?_) |refine Br.dec (fun _=>?_) (fun _=>?_) |refine Br.go (fun _=>?_) (fun _=>?_) |refine Qd hT hP mixed ?_ |refine Qb hT hP ?_
 all_goals first
  |exact ⟨rfl,hl⟩
  |exact of_decide_eq_true rfl
  |skip
 ·rename_i g0 g1 g2
  have g0:a=0:=g0
  have g1:a=1:=g1
  omega
 ·rename_i g0 g1 g2
  have g0:a=0:=g0
  have g1:a=1:=g1
  omega
 ·rename_i g0 g1
  have g0:a=0:=g0
  have g1:¬ a=1:=g1
  refine .mk [] [4,5] _ R R R R R (Qy (l:=[e0 N (qF M),e1 N,e2 N,e3 N,e4 N,e5 N,e6 N,e7 N,0,e9 N]) (l':=drN N (qF M) a) ?_ rfl) (QdE (congrArg (fun z=>QbB [z,e6 N,e1 N,e9 N] a) hv))
  rw [drN,if_neg (fun z=>g1 z.1),if_pos g0]
 ·rename_i g0 g1 g2
  have g0:¬ a=0:=g0
  have g1:a=1:=g1
  have g2:(e2 N != 4)=true:=g2
  have g2:¬ e2 N=4:=by simpa using g2
  refine .mk [] [4,5] _ R R R R R (Qy (l:=[e0 N (qF M),e1 N,e2 N,e3 N,e4 N,e5 N,e6 N,0,e8 N,e9 N]) (l':=drN N (qF M) a) ?_ rfl) (QdE (congrArg (fun z=>QbB [z,e6 N,e1 N,e9 N] a) hv))
  rw [drN,if_pos ⟨g1,g2⟩,if_neg g0]
 ·rename_i g0 g1 g2
  have g0:¬ a=0:=g0
  have g2:(e2 N != 4)=false:=g2
  have g2:e2 N=4:=by simpa using g2
  refine .mk [] [4,5] _ R R R R R (Qy (l:=dN N (qF M)) (l':=drN N (qF M) a) ?_ rfl) (QdE (congrArg (fun z=>QbB [z,e6 N,e1 N,e9 N] a) hv))
  rw [Qvo,drN,if_neg (fun z=>z.2 g2),if_neg g0]
 ·rename_i g0 g1
  have g0:¬ a=0:=g0
  have g1:¬ a=1:=g1
  refine .mk [] [4,5] _ R R R R R (Qy (l:=dN N (qF M)) (l':=drN N (qF M) a) ?_ rfl) (QdE (congrArg (fun z=>QbB [z,e6 N,e1 N,e9 N] a) hv))
  rw [Qvo,drN,if_neg (fun z=>g1 z.1),if_neg g0]
def QkW:Qk:=⟨[gC,gD,gi,gi],fun (c,d,a,k,_)=>(some (c.2.1=8∧List.length d.2≤140737488355328),.agg [.own 0,.own 1],[.arr (.int .i64) (dwN d.1 (qF d.2) a k),.arr (.int .u8) (dM d.2)])⟩
theorem Qml:Qi Tryz.prog 77 QkW.spec:=by
 have hP:Qe Tryz.prog _:=Qa Qb4 (Qa Qb0 (Qa Qpz (Qc (T:=tree))))
 have hT:=tabs hP Qf
 refine QkW.good (fn:=Tryz.f77) hT hP Tryz.func77 (by kernel_rfl) rfl fun (c:Cv) (d:Dv) (a k:Int) hp=>?_
 obtain ⟨cn,ck,cb,cs,cd⟩:=c
 obtain ⟨N,M⟩:=d
 obtain ⟨rfl,hl⟩:ck=8∧M.length≤140737488355328:=hp _ rfl
 obtain ⟨r0,r1,r2,r3,r4,r5,r6,r7,r8,r9⟩:=eR N (qF M)
 repeat' first |(refine Go.mk ?_;conv=>whnf) |refine Ql.go ?_ ?_ |refine Qm.go (fun _=>?_) (fun _=>?_) |refine Br.dec (fun _=>?_) (fun _=>?_) |refine Br.go (fun _=>?_) (fun _=>?_) |refine Qd hT hP mixed ?_ |refine Qb hT hP ?_
 all_goals first
  |exact ⟨rfl,hl⟩
  |exact of_decide_eq_true rfl
  |(refine ⟨rfl,r2.1,?_,?_⟩
     ·exact (by omega:0≤k%256)
     ·exact (by omega:k%256 < 256))
  |exact .mk [] [3,4] _ R R R R R R R
  |skip
def QnV:Qk:=⟨[gC,gD,gi],fun (c,d,k,_)=>(some (c.2.1=8∧List.length d.2≤140737488355328),.agg [.own 0,.own 1],[.arr (.int .i64) (dcN d.1 (qF d.2) k),.arr (.int .u8) (dM d.2)])⟩
theorem QpC:Qi Tryz.prog 73 QnV.spec:=by
 have hP:Qe Tryz.prog _:=Qa Qb4 (Qa Qb0 (Qc (T:=tree)))
 have hT:=tabs hP Qf
 refine QnV.good (fn:=Tryz.f73) hT hP Tryz.func73 (by kernel_rfl) rfl fun (c:Cv) (d:Dv) (k:Int) hp=>?_
 obtain ⟨cn,ck,cb,cs,cd⟩:=c
 obtain ⟨N,M⟩:=d
 obtain ⟨rfl,hl⟩:ck=8∧M.length≤140737488355328:=hp _ rfl
 have hqi:IntKind.i64.wrap (Int.tdiv ((dM M).length:Int) 256)=((qF M:Nat):Int):=by
  have:=Qmb M
  rw [QkE,Int.tdiv_eq_ediv_of_nonneg (by omega),w64 (by omega) (by omega)];omega
 repeat' first |(refine Go.mk ?_;conv=>whnf) |refine Ql.go ?_ ?_ |refine Qm.go (fun _=>?_) (fun _=>?_) |refine Br.dec (fun _=>?_) (fun _=>?_) |refine Br.go (fun _=>?_) (fun _=>?_) |refine Qd hT hP mixed ?_ |refine Qb hT hP ?_
 all_goals first
  |exact ⟨rfl,hl⟩
  |exact of_decide_eq_true rfl
  |skip
 ·rename_i h hk1 hk2
  have h:e2 N=0:=h
  have hk2:k≤IntKind.i64.wrap (Int.tdiv ((dM M).length:Int) 256):=hk2
  rw [hqi] at hk2
  refine .mk [] [3,4] _ R R R R R (Qy (l:=[k%256,e1 N,e2 N,e3 N,e4 N,e5 N,e6 N,e7 N,e8 N,e9 N]) (l':=dcN N (qF M) k) ?_ rfl) rfl
  rw [dcN,if_pos h,if_pos ⟨hk1,hk2⟩]
 ·rename_i h hk1 hk2
  have h:e2 N=0:=h
  have hk2:¬ k≤IntKind.i64.wrap (Int.tdiv ((dM M).length:Int) 256):=hk2
  rw [hqi] at hk2
  refine .mk [] [3,4] _ R R R R R (Qy (l:=[0,e1 N,e2 N,e3 N,e4 N,e5 N,e6 N,e7 N,e8 N,e9 N]) (l':=dcN N (qF M) k) ?_ rfl) rfl
  rw [dcN,if_pos h,if_neg (fun z=>hk2 z.2)]
 ·rename_i h hk1
  have h:e2 N=0:=h
  refine .mk [] [3,4] _ R R R R R (Qy (l:=[0,e1 N,e2 N,e3 N,e4 N,e5 N,e6 N,e7 N,e8 N,e9 N]) (l':=dcN N (qF M) k) ?_ rfl) rfl
  rw [dcN,if_pos h,if_neg (fun z=>hk1 z.1)]
 ·rename_i h
  have h:¬ e2 N=0:=h
  refine .mk [] [3,4] _ R R R R R (Qy (l:=dN N (qF M)) (l':=dcN N (qF M) k) ?_ rfl) rfl
  rw [dcN,if_neg h]
def QkX:Qk:=⟨[gC,gD],fun (c,d,_)=>(some (c.2.1=8∧List.length d.2≤140737488355328∧u8s d.2),.agg [.own 0,.own 1],[.arr (.int .i64) (Qbs (dN d.1 (qF d.2),dM d.2)).1,.arr (.int .u8) (Qbs (dN d.1 (qF d.2),dM d.2)).2])⟩
theorem Qmm:Qi Tryz.prog 79 QkX.spec:=by
 have hP:Qe Tryz.prog _:=Qa Qb4 (Qa Qvn (Qc (T:=tree)))
 have hT:=tabs hP Qf
 refine QkX.good (fn:=Tryz.f79) hT hP Tryz.func79 (by kernel_rfl) rfl fun (c:Cv) (d:Dv) hp=>?_
 obtain ⟨cn,ck,cb,cs,cd⟩:=c
 obtain ⟨N,M⟩:=d
 obtain ⟨rfl,hl,hu⟩:ck=8∧M.length≤140737488355328∧u8s M:=hp _ rfl
 have hn:=QGr N hu
 clear hp
 repeat' first |(refine Go.mk ?_;conv=>whnf) |refine Ql.go ?_ ?_ |refine Qm.go (fun _=>?_) (fun _=>?_) |refine Br.dec (fun _=>?_) (fun _=>?_) |refine Br.go (fun _=>?_) (fun _=>?_) |refine Qd hT hP mixed ?_ |refine Qb hT hP ?_
 all_goals first
  |exact ⟨rfl,hl⟩
  |exact of_decide_eq_true rfl
  |skip
 ·rename_i h
  exact ⟨⟨_,hn⟩,h⟩
 ·exact .mk [] [3,4] _ R R R R R R R
 ·rename_i h
  exact .mk [] [3,4] _ R R R R R (Qy (congrArg Prod.fst (QkR (l:=dN N (qF M)) (m:=dM M) rfl h)).symm (congrArg Prod.snd (QkR (l:=dN N (qF M)) (m:=dM M) rfl h)).symm) rfl
theorem Qe3:([2560,2]:List Int).length≤1000∧∀ m ∈ ([2560,2]:List Int),0 < m∧m≤4611686018427387904:=by decide
def Qog:Qk:=⟨[gC,gD],fun (c,d,_)=>(some (c.2.1=6),Qdb,[.arr (.int .i64) (vN d.1),.arr (.int .u8) (vM d.2)])⟩
theorem QcO:Qi Tryz.prog 58 Qog.spec:=by
 have hP:Qe Tryz.prog _:=Qa Qcy (Qc (T:=tree))
 have hT:=tabs hP Qf
 refine Qog.good (fn:=Tryz.f58) hT hP Tryz.func58 (by kernel_rfl) rfl fun (c:Cv) (d:Dv) hp=>?_
 obtain ⟨cn,ck,cb,cs,cd⟩:=c
 obtain rfl:ck=6:=hp _ rfl
 obtain ⟨N,M⟩:=d
 repeat' first |(refine Go.mk ?_;conv=>whnf) |refine Ql.go ?_ ?_ |refine Qm.go (fun _=>?_) (fun _=>?_) |refine Br.dec (fun _=>?_) (fun _=>?_) |refine Br.go (fun _=>?_) (fun _=>?_) |refine Qd hT hP mixed ?_ |refine Qb hT hP ?_
 all_goals first
  |exact rfl
  |exact Qe3
  |exact of_decide_eq_true rfl
  |skip
 ·rename_i h
  have h:(N.length:Int)=0:=h
  obtain rfl:N=[]:=List.eq_nil_of_length_eq_zero (by omega)
  exact .mk [] [6,7] _ R R R R R R R
 ·rename_i h
  have h:¬ (N.length:Int)=0:=h
  refine .mk [] [5,6] _ R R R R R (Qdc (l:=[N.getD 0 0%2560,N.getD 1 0%2]) ?_ rfl) rfl
  show _=vN N
  rw [vN,vP,if_neg (by omega)]
def Qoh:Qk:=⟨[gC,gD,gi],fun (c,d,a,_)=>(some (c.2.1=6∧u8s d.2),.tup [.agg [.own 0,.own 1],I1 (vrF d.1 (vM d.2) a)],[.arr (.int .i64) (vrN d.1 a),.arr (.int .u8) (vM d.2)])⟩
theorem QpR:Qi Tryz.prog 76 Qoh.spec:=by
 have hP:Qe Tryz.prog _:=Qa QcO (Qc (T:=tree))
 have hT:=tabs hP Qf
 refine Qoh.good (fn:=Tryz.f76) hT hP Tryz.func76 (by kernel_rfl) rfl fun (c:Cv) (d:Dv) (a:Int) hp=>?_
 obtain ⟨cn,ck,cb,cs,cd⟩:=c
 obtain ⟨rfl,hu⟩:ck=6∧u8s d.2:=hp _ rfl
 obtain ⟨N,M⟩:=d
 have hu:u8s M:=hu
 have hP0:=Qeu N
 have hb:=Qda (Qf9 hu) a.toNat
 have e1:IntKind.i64.wrap (Int.tdiv (vP N) 64)=vP N/64:=by rw [Int.tdiv_eq_ediv_of_nonneg hP0.1,w64 (by omega) (by omega)]
 have e2:Int.tmod (vP N) 64=vP N%64:=Int.tmod_eq_emod_of_nonneg hP0.1
 have e3:IntKind.i64.wrap (bA (vM M) a.toNat)=bA (vM M) a.toNat:=w64 (by omega) (by omega)
 repeat' first |(refine Go.mk ?_;conv=>whnf) |refine Ql.go ?_ ?_ |refine Qm.go (fun _=>?_) (fun _=>?_) |refine Br.dec (fun _=>?_) (fun _=>?_) |refine Br.go (fun _=>?_) (fun _=>?_) |refine Qd hT hP mixed ?_ |refine Qb hT hP ?_
 all_goals first
  |exact rfl
  |exact Qe3
  |exact of_decide_eq_true rfl
  |(show 0≤a∧a < (vM M).length
     rw [Qbh];omega)
  |(show a.toNat < (vM M).length
     rw [Qbh];omega)
  |(refine .mk [] [4,5] _ R R R R R (Qdc ?_ rfl) (Qg7 ?_)
     ·show _=vrN N a
      rw [vrN];split<;>first |rfl |(exfalso;omega)
     ·show _=vrF N (vM M) a
      rw [vrF];repeat' split
      all_goals first |rfl |exact e1 |exact e2 |exact e3 |(exfalso;omega))
  |skip
def Qoi:Qk:=⟨[gC,gD,gi,gi],fun (c,d,a,k,_)=>(some (c.2.1=6),Qdb,[.arr (.int .i64) [vP d.1,vH d.1],.arr (.int .u8) (vwM (vM d.2) a k)])⟩
theorem QpS:Qi Tryz.prog 77 Qoi.spec:=by
 have hP:Qe Tryz.prog _:=Qa QcO (Qa Qb0 (Qc (T:=tree)))
 have hT:=tabs hP Qf
 refine Qoi.good (fn:=Tryz.f77) hT hP Tryz.func77 (by kernel_rfl) rfl fun (c:Cv) (d:Dv) (a k:Int) hp=>?_
 obtain ⟨cn,ck,cb,cs,cd⟩:=c
 obtain rfl:ck=6:=hp _ rfl
 obtain ⟨N,M⟩:=d
 have e:IntKind.u8.wrap (k%256)=k%256:=QzH (by omega) (by omega)
 repeat' first |(refine Go.mk ?_;conv=>whnf) |refine Ql.go ?_ ?_ |refine Qm.go (fun _=>?_) (fun _=>?_) |refine Br.dec (fun _=>?_) (fun _=>?_) |refine Br.go (fun _=>?_) (fun _=>?_) |refine Qd hT hP mixed ?_ |refine Qb hT hP ?_
 all_goals first
  |exact rfl
  |exact Qe3
  |exact of_decide_eq_true rfl
  |(show 0≤a∧a < (vM M).length
     rw [Qbh];omega)
  |(show a.toNat < (vM M).length
     rw [Qbh];omega)
  |(exfalso;omega)
  |(refine .mk [] [3,4] _ R R R R R (Qdc rfl (?_:vM M=vwM (vM M) a k)) rfl
     rw [vwM,if_neg (fun e=>by omega)])
  |(refine .mk [] [3,4] _ R R R R R (Qdc rfl (?_:(vM M).set a.toNat (IntKind.u8.wrap (k%256))=vwM (vM M) a k)) rfl
     rw [vwM,if_pos ⟨⟨by omega,by omega⟩,by omega⟩,e])
  |skip
def Qoj:Qk:=⟨[gC,gD],fun (c,d,_)=>(some (c.2.1=6∧u8s d.2),Qdb,[.arr (.int .i64) (Qcf (vM d.2) (vN d.1)),.arr (.int .u8) (vM d.2)])⟩
theorem QpT:Qi Tryz.prog 79 Qoj.spec:=by
 have hP:Qe Tryz.prog _:=Qa QcO (Qa QnP (Qc (T:=tree)))
 have hT:=tabs hP Qf
 refine Qoj.good (fn:=Tryz.f79) hT hP Tryz.func79 (by kernel_rfl) rfl fun (c:Cv) (d:Dv) hp=>?_
 obtain ⟨cn,ck,cb,cs,cd⟩:=c
 obtain ⟨rfl,hu⟩:ck=6∧u8s d.2:=hp _ rfl
 obtain ⟨N,M⟩:=d
 have hu:u8s M:=hu
 have hP0:=Qeu N
 have hpos:Int.tmod (IntKind.i64.wrap (vP N+1)) 2560=(vP N+1)%2560:=by rw [w64 (by omega) (by omega),Int.tmod_eq_emod_of_nonneg (by omega)]
 have hpos2:0≤Int.tmod (IntKind.i64.wrap (vP N+1)) 2560∧Int.tmod (IntKind.i64.wrap (vP N+1)) 2560 < 2560:=by rw [hpos];omega
 repeat' first |(refine Go.mk ?_;conv=>whnf) |refine Ql.go ?_ ?_ |refine Qm.go (fun _=>?_) (fun _=>?_) |refine Br.dec (fun _=>?_) (fun _=>?_) |refine Br.go (fun _=>?_) (fun _=>?_) |refine Qd hT hP mixed ?_ |refine Qb hT hP ?_
 all_goals first
  |exact rfl
  |exact Qe3
  |exact of_decide_eq_true rfl
  |exact ⟨Qbh M,Qf9 hu,hpos2.1,hpos2.2⟩
  |skip
 ·rename_i h
  have h:Qf1 (vM M) (Int.tmod (IntKind.i64.wrap (vP N+1)) 2560)=true:=h
  refine .mk [] [3,4] _ R R R R R (Qdc (l:=[Int.tmod (IntKind.i64.wrap (vP N+1)) 2560,1]) ?_ rfl) rfl
  show _=Qcf (vM M) (vN N)
  rw [hpos] at h ⊢
  rw [vN,Qcf,h];rfl
 ·rename_i h
  have h:Qf1 (vM M) (Int.tmod (IntKind.i64.wrap (vP N+1)) 2560)=false:=h
  refine .mk [] [3,4] _ R R R R R (Qdc (l:=[Int.tmod (IntKind.i64.wrap (vP N+1)) 2560,vH N]) ?_ rfl) rfl
  show _=Qcf (vM M) (vN N)
  rw [hpos] at h ⊢
  rw [vN,Qcf,h];rfl
def Qsp:Qk:=⟨[gC,gD],fun (c,d,_)=>(some (c.2.1=6∧u8s d.2),I (Qbg (vM d.2) (vP d.1)),[])⟩
theorem Qsq:Qi Tryz.prog 72 Qsp.spec:=by
 have hP:Qe Tryz.prog _:=Qa QcO (Qa QnP (Qc (T:=tree)))
 have hT:=tabs hP Qf
 refine Qsp.good (fn:=Tryz.f72) hT hP Tryz.func72 (by kernel_rfl) rfl fun (c:Cv) (d:Dv) hp=>?_
 obtain ⟨cn,ck,cb,cs,cd⟩:=c
 obtain ⟨rfl,hu⟩:ck=6∧u8s d.2:=hp _ rfl
 obtain ⟨N,M⟩:=d
 have hu:u8s M:=hu
 have hP0:=Qeu N
 repeat' first |(refine Go.mk ?_;conv=>whnf) |refine Ql.go ?_ ?_ |refine Qm.go (fun _=>?_) (fun _=>?_) |refine Br.dec (fun _=>?_) (fun _=>?_) |refine Br.go (fun _=>?_) (fun _=>?_) |refine Qd hT hP mixed ?_ |refine Qb hT hP ?_
 all_goals first
  |exact rfl
  |exact Qe3
  |exact of_decide_eq_true rfl
  |exact ⟨Qbh M,Qf9 hu,hP0.1,hP0.2⟩
  |exact .mk [] [] _ R R R R R R R
end Go.Proofs.YtofgbclopbmlcaaGreat

