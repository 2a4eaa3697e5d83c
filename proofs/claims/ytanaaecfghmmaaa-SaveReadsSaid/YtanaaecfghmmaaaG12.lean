/- Part 12 of the proof: ReadW Unp SaveBytes SvReads Fw32 SvReadsW. No statement is handed in here; conditions: none. -/
import Derived.Test.YtanaaecfghmmaaaG11
import Derived.Test.YtanaaecfghmmaaaG9
import Derived.Test.YtanaaecfghmmaaaG10
import Derived.Carry
import Derived.OpenShut
/- save.Read: the state that bytes say. -/
namespace Go.Proofs.Ytanaaecfghmmaaa
open Go.Fw
set_option linter.unusedVariables false
set_option linter.unusedSimpArgs false
set_option linter.constructorNameAsVariable false
set_option maxRecDepth 100000

def machA (m : Mach) : List Cell := [iv .i64 m.1, .run .i64 9 m.2.1.1, iv .i64 m.2.1.2.1, iv .i64 m.2.1.2.2.1, bv m.2.1.2.2.2, .ro DevT m.2.2.1, iv .i64 m.2.2.2.1, iv .i64 m.2.2.2.2.1, iv .i64 m.2.2.2.2.2]
def machZ : Mach := (0, ([0, 0, 0, 0, 0, 0, 0, 0, 0], 0, 0, false), [], 0, 0, 0)
def readE (b : List Int) : Mach × Int := if b.length > 100000 then (machZ, 2) else match readF b with | some m => (m, 0) | none => (machZ, 3)
theorem nextR_u8 {b : List Int} (h : u8s b) : u8s (nextR b) := by
  rcases nx_cases b false with ⟨v, r, e1, e2, e3, e4⟩ | ⟨e1, e2, e3, e4⟩
  · rw [e3]; exact nxO_u8 e1 h
  · rw [e3]; exact fun x hx => by cases hx
theorem nextR_le (b : List Int) : (nextR b).length ≤ b.length := by
  rcases nx_cases b false with ⟨v, r, e1, e2, e3, e4⟩ | ⟨e1, e2, e3, e4⟩
  · rw [e3]; have := (nxO_len e1).1; omega
  · rw [e3]; exact Nat.zero_le _
theorem set_rep {vs : List Int} {k : Nat} (hv : vs.length = k) (hk : k < 9) (v : Int) : (vs ++ List.replicate (9 - k) 0).set k v = (vs ++ [v]) ++ List.replicate (9 - (k + 1)) 0 := by
  rw [show 9 - k = (9 - (k + 1)) + 1 by omega, List.replicate_succ, List.set_append, if_neg (by omega), hv, Nat.sub_self, List.set_cons_zero]
  simp
def manyV (b : List Int) : Int := if manyB b = true then 0 else nextV b
def manyD (b : List Int) (bad : Bool) : Bool := if manyB b = true then true else nextB b bad
theorem many_cases (b : List Int) (bad : Bool) : (∃ (v : Int) (r : List Int), nxO b = some (v, r) ∧ (0 ≤ v ∧ v ≤ (r.length : Int)) ∧ manyV b = v ∧ nextR b = r ∧ manyD b bad = bad) ∨
    (manyV b = 0 ∧ manyD b bad = true ∧ (nxO b = none ∨ ∃ (v : Int) (r : List Int), nxO b = some (v, r) ∧ (v < 0 ∨ v > (r.length : Int)))) := by
  unfold manyV manyD
  rcases nx_cases b bad with ⟨v, r, e1, e2, e3, e4⟩ | ⟨e1, e2, e3, e4⟩
  · by_cases h : v < 0 ∨ v > (r.length : Int)
    · have hm : manyB b = true := by unfold manyB; rw [e2, e3]; exact decide_eq_true h
      rw [hm]
      exact .inr ⟨rfl, rfl, .inr ⟨v, r, e1, h⟩⟩
    · have hm : manyB b = false := by unfold manyB; rw [e2, e3]; exact decide_eq_false h
      rw [hm, e2, e4]
      exact .inl ⟨v, r, e1, by omega, rfl, e3, rfl⟩
  · by_cases hm : manyB b = true
    · rw [hm]
      exact .inr ⟨rfl, rfl, .inl e1⟩
    · rw [if_neg hm, if_neg hm, e2, e4]
      exact .inr ⟨rfl, rfl, .inl e1⟩
theorem manyV_in (b : List Int) : 0 ≤ manyV b ∧ manyV b ≤ ((nextR b).length : Int) := by
  rcases many_cases b false with ⟨v, r, e1, e2, e3, e4, e5⟩ | ⟨e1, e2, e3⟩
  · rw [e3, e4]; exact e2
  · rw [e1]; omega
/-- what is still to come, for a reader whose state is b, bad -/
def comes (T : Option Mach) (F : List Int → Option Mach) (b : List Int) (bad : Bool) : Prop := (bad = false → T = F b) ∧ (bad = true → T = none)
theorem comes_next {T : Option Mach} {F : List Int → Option Mach} {G : Int → List Int → Option Mach} {b : List Int} {bad : Bool} (h : comes T F b bad) (hF : F b = match nxO b with | none => none | some (v, r) => G v r) :
    comes T (G (nextV b)) (nextR b) (nextB b bad) := by
  rcases nx_cases b bad with ⟨v, r, e1, e2, e3, e4⟩ | ⟨e1, e2, e3, e4⟩
  · rw [e1] at hF
    rw [e2, e3, e4]
    exact ⟨fun hb => (h.1 hb).trans hF, h.2⟩
  · rw [e1] at hF
    rw [e4]
    refine ⟨fun hb => (by cases hb), fun _ => ?_⟩
    cases bad with
    | true => exact h.2 rfl
    | false => exact (h.1 rfl).trans hF
theorem comes_many {T : Option Mach} {F : List Int → Option Mach} {G : Int → List Int → Option Mach} {b : List Int} {bad : Bool} (h : comes T F b bad) (hF : F b = match nxO b with | none => none | some (v, r) => G v r) (hG : ∀ v (r : List Int), v < 0 ∨ v > (r.length : Int) → G v r = none) :
    comes T (G (manyV b)) (nextR b) (manyD b bad) := by
  rcases many_cases b bad with ⟨v, r, e1, e2, e3, e4, e5⟩ | ⟨e1, e2, e3⟩
  · rw [e1] at hF
    rw [e3, e4, e5]
    exact ⟨fun hb => (h.1 hb).trans hF, h.2⟩
  · have hF : F b = none := by
      rw [hF]
      rcases e3 with e3 | ⟨v, r, e3, h3⟩
      · rw [e3]
      · rw [e3]; exact hG v r h3
    rw [e2]
    refine ⟨fun hb => (by cases hb), fun _ => ?_⟩
    cases bad with
    | true => exact h.2 rfl
    | false => exact (h.1 rfl).trans hF
def devC (hd : List Int) (n : Nat) (ds : List Dv) (N : List Int) (m : Int) (r3 : List Int) : Option Mach := if m < 0 ∨ m > (r3.length : Int) then none else fin hd (devs n (ds ++ [(N, r3.take m.toNat)]) (r3.drop m.toNat))
def numC (hd : List Int) (n : Nat) (ds : List Dv) (N : List Int) (r2 : List Int) : Option Mach := match nxO r2 with | none => none | some (m, r3) => devC hd n ds N m r3
def numsC (hd : List Int) (n : Nat) (ds : List Dv) (k : Nat) (N : List Int) (b : List Int) : Option Mach := match nums k N b with | none => none | some (N', r2) => numC hd n ds N' r2
def devsC (hd : List Int) (n : Nat) (ds : List Dv) (b : List Int) : Option Mach := fin hd (devs n ds b)
def devK (hd : List Int) (n : Nat) (ds : List Dv) (k : Int) (r : List Int) : Option Mach := if k < 0 then none else numsC hd n ds k.toNat [] r
def bodC (hd : List Int) (n : Int) (r : List Int) : Option Mach := if n < 0 then none else devsC hd n.toNat [] r
theorem devsC_step (hd : List Int) (n : Nat) (ds : List Dv) (b : List Int) : devsC hd (n + 1) ds b = match nxO b with | none => none | some (k, r) => devK hd n ds k r := by
  unfold devsC devs devK numsC numC devC
  cases nxO b with
  | none => rfl
  | some x =>
    obtain ⟨k, r⟩ := x
    dsimp only
    split
    · rfl
    · cases nums k.toNat [] r with
      | none => rfl
      | some y =>
        obtain ⟨N, r2⟩ := y
        dsimp only
        cases nxO r2 with
        | none => rfl
        | some z =>
          obtain ⟨m, r3⟩ := z
          dsimp only
          split <;> rfl
theorem devK_no (hd : List Int) (n : Nat) (ds : List Dv) (v : Int) (r : List Int) (h : v < 0 ∨ v > (r.length : Int)) : devK hd n ds v r = none := by
  unfold devK
  split
  · rfl
  · unfold numsC
    rw [nums_many (by omega)]
theorem bodC_no (hd : List Int) (v : Int) (r : List Int) (h : v < 0 ∨ v > (r.length : Int)) : bodC hd v r = none := by
  unfold bodC
  split
  · rfl
  · unfold devsC
    rw [devs_many (by omega)]; rfl
theorem devC_no (hd : List Int) (n : Nat) (ds : List Dv) (N : List Int) (v : Int) (r : List Int) (h : v < 0 ∨ v > (r.length : Int)) : devC hd n ds N v r = none := if_pos h
theorem numsC_step (hd : List Int) (n : Nat) (ds : List Dv) (k : Nat) (N b : List Int) : numsC hd n ds (k + 1) N b = match nxO b with | none => none | some (v, r) => numsC hd n ds k (N ++ [v]) r := by
  unfold numsC
  rw [nums]
  cases nxO b with
  | none => rfl
  | some x => rfl
theorem bodyF_eq (hd b : List Int) : bodyF hd b = match nxO b with | none => none | some (n, r) => bodC hd n r := rfl
theorem comes_head {b0 hd rb : List Int} {bad : Bool} (h : headQ b0 16 hd rb bad) : comes (readF b0) (bodyF hd) rb bad := by
  refine ⟨fun hb => ?_, fun hb => ?_⟩
  · unfold readF; rw [h.1 hb]
  · unfold readF; rw [h.2 hb]
def snocD (l : List Dv) (x : Dv) : List Dv := l ++ [x]
def snocI (l : List Int) (x : Int) : List Int := l ++ [x]
def readS : PSpec := ⟨[gb], fun (b, _) => (some (u8s b ∧ List.length b ≤ 4611686018427387904), .tup [.agg (machA (readE b).1), .c (iv .i64 (readE b).2)], [])⟩
set_option maxHeartbeats 8000000 in
theorem read_ok : GoodF Try.prog 15 readS.spec := by
  have hT := tab_ok (fs := [(50, nextWS.spec), (51, manyWS.spec), (52, clByteS.spec)]) tree_ok
  have hP : SpecsOk Try.prog (tab tree [(50, nextWS.spec), (51, manyWS.spec), (52, clByteS.spec)]) := specs_cons next_ok (specs_cons many_ok (specs_cons clByte_ok specs_nil))
  refine readS.good (fn := Try.f15) hT hP Try.func15 (by kernel_rfl) rfl fun (b : List Int) hq => ?_
  obtain ⟨hu, hbl⟩ : u8s b ∧ b.length ≤ 4611686018427387904 := hq _ rfl
  clear hq
  repeat' first
    | (refine Go.mk ?_; conv => whnf)
    | refine Need.go ?_ ?_
    | refine NilG.go (fun _ => ?_) (fun _ => ?_)
    | refine Br.dec (fun _ => ?_) (fun _ => ?_)
    | refine Br.go (fun _ => ?_) (fun _ => ?_)
    | refine draw_go hT hP mixed ?_
    | refine round_go hT hP ?_
  · rename_i g
    have g : (b.length : Int) > 100000 := g
    have e : readE b = (machZ, 2) := if_pos (by omega)
    refine .le (Le.nilroH 0 [iv .i64 0, .run .i64 9 [0, 0, 0, 0, 0, 0, 0, 0, 0], iv .i64 0, iv .i64 0, bv false, .imm (.slice none 0 0), iv .i64 0, iv .i64 0, iv .i64 0] (machA machZ) rfl ?_) (.mk [] [] _ rfl rfl rfl rfl rfl rfl ?_)
    · exact ⟨.inl rfl, .inl rfl, .inl rfl, .inl rfl, .inl rfl, .inr ⟨rfl, _, rfl⟩, .inl rfl, .inl rfl, .inl rfl, trivial⟩
    · show AV.tup [.agg (machA machZ), .c (iv .i64 2)] = AV.tup [.agg (machA (readE b).1), .c (iv .i64 (readE b).2)]
      rw [e]
  · exact ⟨hu, hbl⟩
  rename_i g
  have g : ¬ (b.length : Int) > 100000 := g
  have hlb : b.length ≤ 100000 := by omega
  have hE : readE b = match readF b with | some m => (m, 0) | none => (machZ, 3) := if_neg (by omega)
  have hQ0 : headQ b 1 [nextV b] (nextR b) (nextB b false) := headQ_step (a := []) ⟨fun _ => rfl, fun h => by cases h⟩
  obtain ⟨T, hT0⟩ : ∃ T, readF b = T := ⟨_, rfl⟩
  refine up_go hT hP (A := List Int × List Int × Bool) 9 (fun i z => St.mk [.dead, .dead, .cell (.ptr 0 0), .dead, .cell (.ptr 1 0), .cell (.ptr 2 0), .dead, .dead, .dead, .dead, .dead, .dead, .dead, .dead, .dead, .dead, .dead, .dead, .dead, .dead, I i, .dead, .dead, .dead, .dead, .dead, .dead, .dead, .dead, .dead, .dead, .dead, .dead, .dead, .dead, .dead, .dead, .dead, .dead, .dead, .dead, .dead, .dead, .dead, .dead, .dead, .dead, .dead, .dead, .dead, .dead, .dead, .dead, .dead, .dead, .dead, .dead, .dead, .dead, .dead, .dead, .dead, .dead, .dead, .dead, .dead, .dead, .dead, .dead, .dead, .dead, .dead, .dead, .dead, .dead, .dead, .dead, .dead, .dead, .dead, .dead, .dead, .dead, .dead, .dead, .dead, .dead, .dead, .dead, .dead, .dead, .dead, .dead, .dead, .dead, .dead, .dead, .dead, .dead, .dead, .dead, .dead, .dead, .dead, .dead, .dead, .dead, .dead, .dead, .dead, .dead, .dead, .dead, .dead, .dead, .dead]
      [some (.var [iv .i64 0, .run .i64 9 [0, 0, 0, 0, 0, 0, 0, 0, 0], iv .i64 0, iv .i64 0, bv false, .imm (.slice none 0 0), iv .i64 0, iv .i64 0, iv .i64 0]), some (.var [.ro (.int .u8) z.2.1, bv z.2.2]),
       some (.var [iv .i64 (nextV b), .run .i64 9 z.1, iv .i64 0, iv .i64 0, bv false, .imm (.slice none 0 0), iv .i64 0, iv .i64 0, iv .i64 0])])
    (fun k z => ∃ vs : List Int, vs.length = k ∧ z.1 = vs ++ List.replicate (9 - k) 0 ∧ headQ b (k + 1) (nextV b :: vs) z.2.1 z.2.2 ∧ u8s z.2.1 ∧ z.2.1.length ≤ 100000)
    ([0, 0, 0, 0, 0, 0, 0, 0, 0], nextR b, nextB b false) (Le.mk [] [0, 1, 2] rfl rfl ?_ ?_) ⟨[], rfl, rfl, hQ0, nextR_u8 hu, Nat.le_trans (nextR_le b) hlb⟩ fun k z hk hi => ?_
  · exact rfl
  · repeat' first | exact trivial | exact ⟨rfl, rfl⟩ | refine And.intro ?_ ?_
  obtain ⟨R, rb, bad⟩ := z
  obtain ⟨vs, hv, hR, hQ, hur, hlr⟩ := hi
  dsimp only at hR hQ hur hlr
  subst hR
  repeat' first
    | (refine Go.mk ?_; conv => whnf)
    | refine Need.go ?_ ?_
    | refine NilG.go (fun _ => ?_) (fun _ => ?_)
    | refine Br.dec (fun _ => ?_) (fun _ => ?_)
    | refine Br.go (fun _ => ?_) (fun _ => ?_)
    | refine draw_go hT hP mixed ?_
    | refine round_go hT hP ?_
  · exact ⟨hur, by show rb.length ≤ _; omega⟩
  · show 0 ≤ (k : Int) ∧ (k : Int) < ((9 : Nat) : Int)
    omega
  · show k < 9
    omega
  · rename_i g1
    have g1 : (k : Int) < 9 := g1
    apply Exists.intro
    apply Exists.intro ((vs ++ List.replicate (9 - k) 0).set k (nextV rb), nextR rb, nextB rb bad)
    refine And.intro (And.intro ?lt184 (And.intro ?ei184 ?inv184)) (Le.mk [] [0, 1, 2] rfl rfl ?hh184 ?ht184)
    case hh184 => exact rfl
    case ht184 => repeat' first | exact trivial | exact ⟨rfl, rfl⟩ | refine And.intro ?_ ?_
    case lt184 => omega
    case ei184 => exact up_i (by omega)
    exact ⟨vs ++ [nextV rb], by simp [hv], set_rep hv (by omega) _, headQ_step hQ, nextR_u8 hur, Nat.le_trans (nextR_le rb) hlr⟩
  all_goals (
    have a1 := nextR_u8 hur
    have a2 := nextR_u8 a1
    have a3 := nextR_u8 a2
    have a4 := nextR_u8 a3
    have a5 := nextR_u8 a4
    have a6 := nextR_u8 a5
    have l1 := nextR_le rb
    have l2 := nextR_le (nextR rb)
    have l3 := nextR_le (nextR (nextR rb))
    have l4 := nextR_le (nextR (nextR (nextR rb)))
    have l5 := nextR_le (nextR (nextR (nextR (nextR rb))))
    have l6 := nextR_le (nextR (nextR (nextR (nextR (nextR rb))))))
  · exact ⟨hur, by show rb.length ≤ _; omega⟩
  · exact ⟨a1, by show (nextR rb).length ≤ _; omega⟩
  · exact ⟨a2, by show (nextR (nextR rb)).length ≤ _; omega⟩
  · exact ⟨a3, by show (nextR (nextR (nextR rb))).length ≤ _; omega⟩
  · exact ⟨a4, by show (nextR (nextR (nextR (nextR rb)))).length ≤ _; omega⟩
  · exact ⟨a5, by show (nextR (nextR (nextR (nextR (nextR rb))))).length ≤ _; omega⟩
  · exact ⟨a6, by show (nextR (nextR (nextR (nextR (nextR (nextR rb)))))).length ≤ _; omega⟩
  rename_i g1
  have g1 : ¬ (k : Int) < 9 := g1
  obtain rfl : k = 9 := by omega
  obtain ⟨v1, v2, v3, v4, v5, v6, v7, v8, v9, rfl⟩ := nine hv
  have q1 := headQ_step (headQ_step (headQ_step (headQ_step (headQ_step (headQ_step hQ)))))
  obtain ⟨hd, hhd⟩ : ∃ hd : List Int, hd = nextV b :: [v1, v2, v3, v4, v5, v6, v7, v8, v9] ++ [nextV rb] ++ [nextV (nextR rb)] ++ [nextV (nextR (nextR rb))] ++ [nextV (nextR (nextR (nextR rb)))] ++ [nextV (nextR (nextR (nextR (nextR rb))))] ++ [nextV (nextR (nextR (nextR (nextR (nextR rb)))))] := ⟨_, rfl⟩
  rw [← hhd] at q1
  have hM : ∀ ds, machOf hd ds = (nextV b, ([v1, v2, v3, v4, v5, v6, v7, v8, v9], nextV rb, nextV (nextR rb), decide (nextV (nextR (nextR rb)) = 1)), ds, nextV (nextR (nextR (nextR rb))), nextV (nextR (nextR (nextR (nextR rb)))), nextV (nextR (nextR (nextR (nextR (nextR rb)))))) := fun ds => by rw [hhd]; rfl
  have hMi : hd.getD 12 0 = nextV (nextR (nextR rb)) := by rw [hhd]; rfl
  have c1 := comes_many (comes_head q1) (bodyF_eq _ _) (bodC_no hd)
  have hn0 := manyV_in (nextR (nextR (nextR (nextR (nextR (nextR rb))))))
  have ebod : bodC hd (manyV (nextR (nextR (nextR (nextR (nextR (nextR rb))))))) = devsC hd (manyV (nextR (nextR (nextR (nextR (nextR (nextR rb))))))).toNat [] := funext fun r => if_neg (by omega)
  rw [ebod] at c1
  have hl7 : (nextR (nextR (nextR (nextR (nextR (nextR (nextR rb))))))).length ≤ 100000 := by
    have := nextR_le (nextR (nextR (nextR (nextR (nextR (nextR rb))))))
    omega
  refine up_go hT hP (A := List Dv × List Int × Bool) (manyV (nextR (nextR (nextR (nextR (nextR (nextR rb))))))).toNat (fun i z => St.mk [.dead, .dead, .cell (.ptr 0 0), .dead, .cell (.ptr 1 0), .cell (.ptr 2 0), .dead, I (nextV (nextR (nextR rb))), .dead, .dead, .dead, .dead, .dead, .dead, .dead, .dead, .dead, .dead, .dead, .dead, .dead, .dead, .dead, .dead, .dead, .dead, .dead, .dead, .dead, .dead, .dead, .dead, .dead, .dead, .dead, .dead, .dead, .dead, .dead, .dead, .dead, .dead, .dead, .dead, .dead, .dead, .dead, .dead, .dead, .dead, .dead, .dead, .dead, I (manyV (nextR (nextR (nextR (nextR (nextR (nextR rb))))))), I i, .dead, .dead, .dead, .dead, .dead, .dead, .dead, .dead, .dead, .dead, .dead, .dead, .dead, .dead, .dead, .dead, .dead, .dead, .dead, .dead, .dead, .dead, .dead, .dead, .dead, .dead, .dead, .dead, .dead, .dead, .dead, .dead, .dead, .dead, .dead, .dead, .dead, .dead, .dead, .dead, .dead, .dead, .dead, .dead, .dead, .dead, .dead, .dead, .dead, .dead, .dead, .dead, .dead, .dead, .dead, .dead, .dead, .dead, .dead, .dead, .dead]
      [some (.var [iv .i64 0, .run .i64 9 [0, 0, 0, 0, 0, 0, 0, 0, 0], iv .i64 0, iv .i64 0, bv false, .imm (.slice none 0 0), iv .i64 0, iv .i64 0, iv .i64 0]), some (.var [.ro (.int .u8) z.2.1, bv z.2.2]), some (.var [iv .i64 (nextV b), .run .i64 9 [v1, v2, v3, v4, v5, v6, v7, v8, v9], iv .i64 (nextV rb), iv .i64 (nextV (nextR rb)), bv (nextV (nextR (nextR rb)) == 1), .own 3, iv .i64 (nextV (nextR (nextR (nextR rb)))), iv .i64 (nextV (nextR (nextR (nextR (nextR rb))))), iv .i64 (nextV (nextR (nextR (nextR (nextR (nextR rb))))))]), some (.arr DevT z.1)])
    (fun k z => comes (readF b) (devsC hd ((manyV (nextR (nextR (nextR (nextR (nextR (nextR rb))))))).toNat - k) z.1) z.2.1 z.2.2 ∧ u8s z.2.1 ∧ z.2.1.length ≤ 100000 ∧ z.1.length ≤ k)
    ([], nextR (nextR (nextR (nextR (nextR (nextR (nextR rb)))))), manyD (nextR (nextR (nextR (nextR (nextR (nextR rb)))))) (nextB (nextR (nextR (nextR (nextR (nextR rb))))) (nextB (nextR (nextR (nextR (nextR rb)))) (nextB (nextR (nextR (nextR rb))) (nextB (nextR (nextR rb)) (nextB (nextR rb) (nextB rb bad))))))) (.trans (Le.nilH 2 DevT _ _ rfl rfl rfl) (Le.mk [] [0, 1, 2, 3] rfl rfl ?_ ?_)) ⟨c1, nextR_u8 a6, hl7, Nat.le_refl _⟩ fun i z hi hz => ?_
  · exact rfl
  · repeat' first | exact trivial | exact ⟨rfl, rfl⟩ | refine And.intro ?_ ?_
  obtain ⟨ds, rb2, bad2⟩ := z
  obtain ⟨hc, hu2, hlr2, hds⟩ := hz
  dsimp only at hc hu2 hlr2 hds
  repeat' first
    | (refine Go.mk ?_; conv => whnf)
    | refine Need.go ?_ ?_
    | refine NilG.go (fun _ => ?_) (fun _ => ?_)
    | refine Br.dec (fun _ => ?_) (fun _ => ?_)
    | refine Br.go (fun _ => ?_) (fun _ => ?_)
    | refine draw_go hT hP mixed ?_
    | refine round_go hT hP ?_
  · exact ⟨hu2, by show rb2.length ≤ _; omega⟩
  · rename_i g2
    have g2 : (i : Int) < (manyV (nextR (nextR (nextR (nextR (nextR (nextR rb))))))) := g2
    have en : (manyV (nextR (nextR (nextR (nextR (nextR (nextR rb))))))).toNat - i = ((manyV (nextR (nextR (nextR (nextR (nextR (nextR rb))))))).toNat - (i + 1)) + 1 := by omega
    rw [en] at hc
    have c2 := comes_many hc (devsC_step _ _ _ _) (devK_no hd _ ds)
    have hn2 := manyV_in rb2
    have hl2 := nextR_le rb2
    have edv : devK hd ((manyV (nextR (nextR (nextR (nextR (nextR (nextR rb))))))).toNat - (i + 1)) ds (manyV rb2) = numsC hd ((manyV (nextR (nextR (nextR (nextR (nextR (nextR rb))))))).toNat - (i + 1)) ds (manyV rb2).toNat [] := funext fun r => if_neg (by omega)
    rw [edv] at c2
    refine up_go hT hP (A := List Int × List Int × Bool) (manyV rb2).toNat (fun j y => St.mk [.dead, .dead, .cell (.ptr 0 0), .dead, .cell (.ptr 1 0), .cell (.ptr 2 0), .dead, I (nextV (nextR (nextR rb))), .cell (.ptr 4 0), .dead, .dead, .dead, .dead, .dead, .dead, .dead, .dead, .dead, .dead, .dead, .dead, .dead, .dead, .dead, .dead, .dead, .dead, .dead, .dead, .dead, .dead, .dead, .dead, .dead, .dead, .dead, .dead, .dead, .dead, .dead, .dead, .dead, .dead, .dead, .dead, .dead, .dead, .dead, .dead, .dead, .dead, .dead, .dead, I (manyV (nextR (nextR (nextR (nextR (nextR (nextR rb))))))), I i, .dead, .dead, I (manyV rb2), I j, .dead, .dead, .dead, .dead, .dead, .dead, .dead, .dead, .dead, .dead, .dead, .dead, .dead, .dead, .dead, .dead, .dead, .dead, .dead, .dead, .dead, .dead, .dead, .dead, .dead, .dead, .dead, .dead, .dead, .dead, .dead, .dead, .dead, .dead, .dead, .dead, .dead, .dead, .dead, .dead, .dead, .dead, .dead, .dead, .dead, .dead, .dead, .dead, .dead, .dead, .dead, .dead, .dead, .dead, .dead, .dead, .dead]
        [some (.var [iv .i64 0, .run .i64 9 [0, 0, 0, 0, 0, 0, 0, 0, 0], iv .i64 0, iv .i64 0, bv false, .imm (.slice none 0 0), iv .i64 0, iv .i64 0, iv .i64 0]), some (.var [.ro (.int .u8) y.2.1, bv y.2.2]), some (.var [iv .i64 (nextV b), .run .i64 9 [v1, v2, v3, v4, v5, v6, v7, v8, v9], iv .i64 (nextV rb), iv .i64 (nextV (nextR rb)), bv (nextV (nextR (nextR rb)) == 1), .own 3, iv .i64 (nextV (nextR (nextR (nextR rb)))), iv .i64 (nextV (nextR (nextR (nextR (nextR rb))))), iv .i64 (nextV (nextR (nextR (nextR (nextR (nextR rb))))))]), some (.arr DevT ds), some (.var [.own 5, .imm (.slice none 0 0)]), some (.arr (.int .i64) y.1)])
      (fun j y => comes (readF b) (numsC hd ((manyV (nextR (nextR (nextR (nextR (nextR (nextR rb))))))).toNat - (i + 1)) ds ((manyV rb2).toNat - j) y.1) y.2.1 y.2.2 ∧ u8s y.2.1 ∧ y.2.1.length ≤ 100000 ∧ y.1.length ≤ j)
      ([], nextR rb2, manyD rb2 bad2) (.trans (Le.nilH 4 (.int .i64) _ _ rfl rfl rfl) (Le.mk [] [0, 1, 2, 3, 4, 5] rfl rfl ?_ ?_)) ⟨c2, nextR_u8 hu2, by show (nextR rb2).length ≤ _; omega, Nat.le_refl _⟩ fun j y hj hy => ?_
    · exact rfl
    · repeat' first | exact trivial | exact ⟨rfl, rfl⟩ | refine And.intro ?_ ?_
    obtain ⟨Nn, rb3, bad3⟩ := y
    obtain ⟨hc3, hu3, hlr3, hNl⟩ := hy
    dsimp only at hc3 hu3 hlr3 hNl
    repeat' first
      | (refine Go.mk ?_; conv => whnf)
      | refine Need.go ?_ ?_
      | refine NilG.go (fun _ => ?_) (fun _ => ?_)
      | refine Br.dec (fun _ => ?_) (fun _ => ?_)
      | refine Br.go (fun _ => ?_) (fun _ => ?_)
      | refine draw_go hT hP mixed ?_
      | refine round_go hT hP ?_
    all_goals (try dsimp only [castL_eq] at *)
    · exact ⟨hu3, by show rb3.length ≤ _; omega⟩
    · rename_i g3
      have g3 : (j : Int) < manyV rb2 := g3
      show (Nn.length + 1) * 8 ≤ 140737488355328
      omega
    · rename_i g3
      have g3 : (j : Int) < manyV rb2 := g3
      rw [show (manyV rb2).toNat - j = ((manyV rb2).toNat - (j + 1)) + 1 by omega] at hc3
      have c4 := comes_next hc3 (numsC_step _ _ _ _ _ _)
      apply Exists.intro
      apply Exists.intro (snocI Nn (nextV rb3), nextR rb3, nextB rb3 bad3)
      refine And.intro (And.intro ?lt282 (And.intro ?ei282 ?inv282)) (Le.mk [] [0, 1, 2, 3, 4, 7] rfl rfl ?hh282 ?ht282)
      case hh282 => exact rfl
      case ht282 => repeat' first | exact trivial | exact ⟨rfl, rfl⟩ | refine And.intro ?_ ?_
      case lt282 => omega
      case ei282 => exact up_i (by omega)
      exact ⟨c4, nextR_u8 hu3, Nat.le_trans (nextR_le rb3) hlr3, by show (Nn ++ [_]).length ≤ j + 1; rw [List.length_append]; show Nn.length + 1 ≤ j + 1; omega⟩
    · exact ⟨hu3, by show rb3.length ≤ _; omega⟩
    all_goals (
      rename_i g3
      have g3 : ¬ (j : Int) < manyV rb2 := g3
      rw [show (manyV rb2).toNat - j = 0 by omega] at hc3
      have c5 := comes_many hc3 (show numsC hd ((manyV (nextR (nextR (nextR (nextR (nextR (nextR rb))))))).toNat - (i + 1)) ds 0 Nn rb3 = _ from rfl) (devC_no hd _ ds Nn)
      have hn3 := manyV_in rb3
      have hl3 := nextR_le rb3)
    · exact hn3
    · show ((((nextR rb3).take (manyV rb3).toNat).drop 0).length) * 1 ≤ 140737488351232
      rw [List.drop_zero, List.length_take]; omega
    · exact hn3
    · show (ds.length + 1) * 48 ≤ 140737488355328
      omega
    · have etl : (nextR rb3).take (nextR rb3).length = nextR rb3 := List.take_length
      have ecd : devC hd ((manyV (nextR (nextR (nextR (nextR (nextR (nextR rb))))))).toNat - (i + 1)) ds Nn (manyV rb3) (nextR rb3) = devsC hd ((manyV (nextR (nextR (nextR (nextR (nextR (nextR rb))))))).toNat - (i + 1)) (ds ++ [(Nn, (nextR rb3).take (manyV rb3).toNat)]) ((nextR rb3).drop (manyV rb3).toNat) := if_neg (by omega)
      apply Exists.intro
      apply Exists.intro (snocD ds (Nn, List.drop 0 (List.take (manyV rb3).toNat (nextR rb3))), List.drop (manyV rb3).toNat (List.take (nextR rb3).length (nextR rb3)), manyD rb3 bad3)
      refine And.intro (And.intro ?lt306 (And.intro ?ei306 ?inv306)) (Le.mk [] [0, 1, 2, 8] rfl rfl ?hh306 ?ht306)
      case hh306 => exact rfl
      case ht306 => repeat' first | exact trivial | exact ⟨rfl, rfl⟩ | refine And.intro ?_ ?_
      case lt306 => omega
      case ei306 => exact up_i (by omega)
      refine ⟨⟨fun hb => ?_, c5.2⟩, fun x hx => ?_, ?_, ?_⟩
      · rw [etl]
        exact (c5.1 hb).trans ecd
      · dsimp only at hx
        rw [etl] at hx
        exact nextR_u8 hu3 x (List.mem_of_mem_drop hx)
      · show (List.drop (manyV rb3).toNat (List.take (nextR rb3).length (nextR rb3))).length ≤ 100000
        rw [etl, List.length_drop]; omega
      · show (ds ++ [_]).length ≤ i + 1
        rw [List.length_append]
        show ds.length + 1 ≤ i + 1
        omega
  · rename_i g2 g3
    have g3 : bad2 = true := g3
    have hT9 : readF b = none := hc.2 g3
    refine .le (Le.nilroH 0 [iv .i64 0, .run .i64 9 [0, 0, 0, 0, 0, 0, 0, 0, 0], iv .i64 0, iv .i64 0, bv false, .imm (.slice none 0 0), iv .i64 0, iv .i64 0, iv .i64 0] (machA machZ) rfl ?_) (.mk [] [] _ rfl rfl rfl rfl rfl rfl ?_)
    · exact ⟨.inl rfl, .inl rfl, .inl rfl, .inl rfl, .inl rfl, .inr ⟨rfl, _, rfl⟩, .inl rfl, .inl rfl, .inl rfl, trivial⟩
    · show AV.tup [.agg (machA machZ), .c (iv .i64 3)] = AV.tup [.agg (machA (readE b).1), .c (iv .i64 (readE b).2)]
      rw [hE, hT9]
  · rename_i g2 g3 g4
    have g2 : ¬ (i : Int) < (manyV (nextR (nextR (nextR (nextR (nextR (nextR rb))))))) := g2
    have g3 : bad2 = false := g3
    have hc9 := hc.1 g3
    rw [show (manyV (nextR (nextR (nextR (nextR (nextR (nextR rb))))))).toNat - i = 0 by omega] at hc9
    have hT9 : readF b = none := by
      rw [hc9]
      show fin hd (some (ds, rb2)) = none
      unfold fin
      dsimp only
      rw [hMi]
      split
      · rfl
      · rw [if_neg (by omega)]
    refine .le (Le.nilroH 0 [iv .i64 0, .run .i64 9 [0, 0, 0, 0, 0, 0, 0, 0, 0], iv .i64 0, iv .i64 0, bv false, .imm (.slice none 0 0), iv .i64 0, iv .i64 0, iv .i64 0] (machA machZ) rfl ?_) (.mk [] [] _ rfl rfl rfl rfl rfl rfl ?_)
    · exact ⟨.inl rfl, .inl rfl, .inl rfl, .inl rfl, .inl rfl, .inr ⟨rfl, _, rfl⟩, .inl rfl, .inl rfl, .inl rfl, trivial⟩
    · show AV.tup [.agg (machA machZ), .c (iv .i64 3)] = AV.tup [.agg (machA (readE b).1), .c (iv .i64 (readE b).2)]
      rw [hE, hT9]
  · rename_i g2 g3 g4 g5
    have g2 : ¬ (i : Int) < (manyV (nextR (nextR (nextR (nextR (nextR (nextR rb))))))) := g2
    have g3 : bad2 = false := g3
    have hc9 := hc.1 g3
    rw [show (manyV (nextR (nextR (nextR (nextR (nextR (nextR rb))))))).toNat - i = 0 by omega] at hc9
    have hT9 : readF b = none := by
      rw [hc9]
      show fin hd (some (ds, rb2)) = none
      unfold fin
      dsimp only
      rw [hMi]
      split
      · rfl
      · rw [if_neg (by omega)]
    refine .le (Le.nilroH 0 [iv .i64 0, .run .i64 9 [0, 0, 0, 0, 0, 0, 0, 0, 0], iv .i64 0, iv .i64 0, bv false, .imm (.slice none 0 0), iv .i64 0, iv .i64 0, iv .i64 0] (machA machZ) rfl ?_) (.mk [] [] _ rfl rfl rfl rfl rfl rfl ?_)
    · exact ⟨.inl rfl, .inl rfl, .inl rfl, .inl rfl, .inl rfl, .inr ⟨rfl, _, rfl⟩, .inl rfl, .inl rfl, .inl rfl, trivial⟩
    · show AV.tup [.agg (machA machZ), .c (iv .i64 3)] = AV.tup [.agg (machA (readE b).1), .c (iv .i64 (readE b).2)]
      rw [hE, hT9]
  · rename_i g2 g3 g4 g5 g6
    have g2 : ¬ (i : Int) < (manyV (nextR (nextR (nextR (nextR (nextR (nextR rb))))))) := g2
    have g3 : bad2 = false := g3
    have hc9 := hc.1 g3
    rw [show (manyV (nextR (nextR (nextR (nextR (nextR (nextR rb))))))).toNat - i = 0 by omega] at hc9
    have hT9 : readF b = none := by
      rw [hc9]
      show fin hd (some (ds, rb2)) = none
      unfold fin
      dsimp only
      rw [hMi]
      rw [if_pos (by have g6 : (rb2.length : Int) > 0 := g6; omega)]
    refine .le (Le.nilroH 0 [iv .i64 0, .run .i64 9 [0, 0, 0, 0, 0, 0, 0, 0, 0], iv .i64 0, iv .i64 0, bv false, .imm (.slice none 0 0), iv .i64 0, iv .i64 0, iv .i64 0] (machA machZ) rfl ?_) (.mk [] [] _ rfl rfl rfl rfl rfl rfl ?_)
    · exact ⟨.inl rfl, .inl rfl, .inl rfl, .inl rfl, .inl rfl, .inr ⟨rfl, _, rfl⟩, .inl rfl, .inl rfl, .inl rfl, trivial⟩
    · show AV.tup [.agg (machA machZ), .c (iv .i64 3)] = AV.tup [.agg (machA (readE b).1), .c (iv .i64 (readE b).2)]
      rw [hE, hT9]
  · rename_i g2 g3 g4 g5 g6
    have g2 : ¬ (i : Int) < (manyV (nextR (nextR (nextR (nextR (nextR (nextR rb))))))) := g2
    have g3 : bad2 = false := g3
    have g6 : ¬ (rb2.length : Int) > 0 := g6
    have hc9 := hc.1 g3
    rw [show (manyV (nextR (nextR (nextR (nextR (nextR (nextR rb))))))).toNat - i = 0 by omega] at hc9
    have hT9 : readF b = some (machOf hd ds) := by
      rw [hc9]
      show fin hd (some (ds, rb2)) = _
      unfold fin
      dsimp only
      rw [hMi, if_neg (by omega), if_pos (by omega)]
    refine .mk [3] [] _ rfl rfl rfl rfl rfl rfl ?_
    show _ = AV.tup [.agg (machA (readE b).1), .c (iv .i64 (readE b).2)]
    rw [hE, hT9]
    dsimp only
    rw [hM]
    rfl

end Go.Proofs.Ytanaaecfghmmaaa

/- bakeref1.Unpacked: the state that bytes say. -/
namespace Go.Proofs.Ytanaaecfghmmaaa
open Go.Fw
set_option linter.unusedVariables false
set_option linter.unusedSimpArgs false
set_option linter.constructorNameAsVariable false
set_option maxRecDepth 100000

def takV (b : List Int) : Int := (takL 0 0 b).1
def takR (b : List Int) : List Int := (takL 0 0 b).2
def unE (b : List Int) : Mach × Bool := match readF b with | some m => (m, true) | none => (machZ, false)
theorem takL_drop : ∀ (b : List Int) (i u : Nat), ∃ k, (takL i u b).2 = b.drop k ∧ (b ≠ [] → 0 < k)
  | [], i, u => ⟨0, rfl, fun h => absurd rfl h⟩
  | c :: b, i, u => by
    unfold takL
    split
    · exact ⟨(c :: b).length, by simp, fun _ => by simp⟩
    · split
      · exact ⟨1, rfl, fun _ => Nat.one_pos⟩
      · obtain ⟨k, h, _⟩ := takL_drop b (i + 1) (u + (c % 128).toNat * 2 ^ (7 * i))
        exact ⟨k + 1, h, fun _ => Nat.succ_pos _⟩
theorem takL_64 : ∀ (b : List Int) (i u : Nat), u8s b → (i ≤ 9 → u < 2 ^ (7 * i)) → i ≤ 10 → i64P (takL i u b).1
  | [], i, u, _, _, _ => by unfold takL i64P; decide
  | c :: b, i, u, hu, hlt, hi => by
    have hc := hu c (List.mem_cons_self ..)
    unfold takL
    split
    · unfold i64P; decide
    · rename_i h1
      have hi9 : i ≤ 9 := by omega
      have hs := nx_sum (k := i) (v := u) (c := c) hi9 (hlt hi9) hc (fun e => h1 (.inr e))
      split
      · exact decN_64 hs.1
      · exact takL_64 b (i + 1) _ (fun x hx => hu x (List.mem_cons_of_mem _ hx)) hs.2 (by omega)
theorem takV_64 {b : List Int} (hu : u8s b) : i64P (takV b) := takL_64 b 0 0 hu (fun _ => by decide) (by decide)
theorem takR_u8 {b : List Int} (hu : u8s b) : u8s (takR b) := by
  obtain ⟨k, h, _⟩ := takL_drop b 0 0
  unfold takR
  rw [h]; exact fun x hx => hu x (List.mem_of_mem_drop hx)
theorem takR_le (b : List Int) : (takR b).length ≤ b.length := by
  obtain ⟨k, h, _⟩ := takL_drop b 0 0
  unfold takR
  rw [h, List.length_drop]; omega
theorem takR_lt {b : List Int} (hb : 0 < b.length) : (takR b).length < b.length := by
  obtain ⟨k, h, h2⟩ := takL_drop b 0 0
  have := h2 (fun e => by rw [e] at hb; simp at hb)
  unfold takR
  rw [h, List.length_drop]; omega
theorem tak_cases (b : List Int) : (∃ (v : Int) (r : List Int), nxO b = some (v, r) ∧ takV b = v ∧ takR b = r ∧ takG b = true) ∨ (nxO b = none ∧ takG b = false) := by
  unfold takV takR takG nxO
  cases h : nextG 0 0 b with
  | none => exact .inr ⟨rfl, rfl⟩
  | some x =>
    obtain ⟨w, r⟩ := x
    have := takL_some b 0 0 w r h
    exact .inl ⟨decN w, r, rfl, by rw [this], by rw [this], rfl⟩
def comesU (T : Option Mach) (F : List Int → Option Mach) (b : List Int) (ok : Bool) : Prop := (ok = true → T = F b) ∧ (ok = false → T = none)
theorem comesU_next {T : Option Mach} {F : List Int → Option Mach} {G : Int → List Int → Option Mach} {b : List Int} {ok : Bool} (h : comesU T F b ok) (hF : F b = match nxO b with | none => none | some (v, r) => G v r) :
    comesU T (G (takV b)) (takR b) (ok && takG b) := by
  rcases tak_cases b with ⟨v, r, e1, e2, e3, e4⟩ | ⟨e1, e4⟩
  · rw [e1] at hF
    rw [e2, e3, e4, Bool.and_true]
    exact ⟨fun hb => (h.1 hb).trans hF, h.2⟩
  · rw [e1] at hF
    rw [e4, Bool.and_false]
    refine ⟨fun hb => (by cases hb), fun _ => ?_⟩
    cases ok with
    | false => exact h.2 rfl
    | true => exact (h.1 rfl).trans hF
def N16 (k : Nat) (a b : List Int) : Option Mach := match nums k a b with | none => none | some (h, r) => bodyF h r
theorem N16_step (k : Nat) (a b : List Int) : N16 (k + 1) a b = match nxO b with | none => none | some (v, r) => N16 k (a ++ [v]) r := by
  unfold N16
  rw [nums]
  cases nxO b with
  | none => rfl
  | some x => rfl
def bodG (hd : List Int) (ds : List Dv) (n : Int) (r : List Int) : Option Mach := if n < 0 then none else devsC hd n.toNat ds r
def numG (hd : List Int) (n : Nat) (ds : List Dv) (N : List Int) (k : Int) (r : List Int) : Option Mach := if k < 0 then none else numsC hd n ds k.toNat N r
theorem bodG_step (hd : List Int) (ds : List Dv) (n : Int) (hn : 0 < n) (b : List Int) : bodG hd ds n b = match nxO b with | none => none | some (k, r) => numG hd (n - 1).toNat ds [] k r := by
  unfold bodG
  rw [if_neg (by omega), show n.toNat = (n - 1).toNat + 1 by omega, devsC_step]
  rfl
theorem numG_step (hd : List Int) (n : Nat) (ds : List Dv) (N : List Int) (k : Int) (hk : 0 < k) (b : List Int) : numG hd n ds N k b = match nxO b with | none => none | some (v, r) => numG hd n ds (N ++ [v]) (k - 1) r := by
  unfold numG
  rw [if_neg (by omega), show k.toNat = (k - 1).toNat + 1 by omega, numsC_step]
  cases nxO b with
  | none => rfl
  | some x => exact (if_neg (show ¬ k - 1 < 0 by omega)).symm
theorem bodG_nil (hd : List Int) (ds : List Dv) (n : Int) (hn : n ≠ 0) (b : List Int) (h : n < 0 ∨ b.length = 0) : bodG hd ds n b = none := by
  by_cases h0 : n < 0
  · exact if_pos h0
  · have e : b = [] := List.eq_nil_of_length_eq_zero (h.resolve_left h0)
    rw [bodG_step hd ds n (by omega), e]; rfl
theorem numG_nil (hd : List Int) (n : Nat) (ds : List Dv) (N : List Int) (k : Int) (hk : k ≠ 0) (b : List Int) (h : k < 0 ∨ b.length = 0) : numG hd n ds N k b = none := by
  by_cases h0 : k < 0
  · exact if_pos h0
  · have e : b = [] := List.eq_nil_of_length_eq_zero (h.resolve_left h0)
    rw [numG_step hd n ds N k (by omega), e]; rfl
theorem numG_0 (hd : List Int) (n : Nat) (ds : List Dv) (N : List Int) (b : List Int) : numG hd n ds N 0 b = match nxO b with | none => none | some (m, r3) => devC hd n ds N m r3 := rfl
def unpS : PSpec := ⟨[gb], fun (b, _) => (some (u8s b ∧ List.length b ≤ 100000), .tup [.agg (machA (unE b).1), .c (bv (unE b).2)], [])⟩
set_option maxHeartbeats 8000000 in
theorem unp_ok : GoodF Try.prog 17 unpS.spec := by
  have hT := tab_ok (fs := [(54, utS.spec)]) tree_ok
  have hP : SpecsOk Try.prog (tab tree [(54, utS.spec)]) := specs_cons ut_ok specs_nil
  refine unpS.good (fn := Try.f17) hT hP Try.func17 (by kernel_rfl) rfl fun (b : List Int) hq => ?_
  obtain ⟨hu, hbl⟩ : u8s b ∧ b.length ≤ 100000 := hq _ rfl
  clear hq
  have hE : unE b = match readF b with | some m => (m, true) | none => (machZ, false) := rfl
  have c0 : comesU (readF b) (N16 16 []) b true := ⟨fun _ => rfl, fun h => by cases h⟩
  have c1 := comesU_next c0 (N16_step _ _ _)
  repeat' first
    | (refine Go.mk ?_; conv => whnf)
    | refine Need.go ?_ ?_
    | refine NilG.go (fun _ => ?_) (fun _ => ?_)
    | refine Br.dec (fun _ => ?_) (fun _ => ?_)
    | refine Br.go (fun _ => ?_) (fun _ => ?_)
    | refine draw_go hT hP mixed ?_
    | refine round_go hT hP ?_
  · exact ⟨hu, by show b.length ≤ _; omega⟩
  refine up_go hT hP (A := List Int × List Int × Bool) 9 (fun i z => St.mk [.dead, .cell (.ptr 0 0), .cell (.ptr 1 0), .dead, .cell (.ptr 2 0), .cell (.ptr 3 0), .cell (.fn 54 [0, 3]), .dead, .dead, .dead, .dead, .dead, .dead, .dead, .dead, .dead, .dead, I i, .dead, .dead, .dead, .dead, .dead, .dead, .dead, .dead, .dead, .dead, .dead, .dead, .dead, .dead, .dead, .dead, .dead, .dead, .dead, .dead, .dead, .dead, .dead, .dead, .dead, .dead, .dead, .dead, .dead, .dead, .dead, .dead, .dead, .dead, .dead, .dead, .dead, .dead, .dead, .dead, .dead, .dead, .dead, .dead, .dead, .dead, .dead, .dead, .dead, .dead, .dead, .dead, .dead, .dead, .dead, .dead, .dead, .dead, .dead, .dead, .dead, .dead, .dead, .dead, .dead, .dead, .dead, .dead, .dead, .dead, .dead, .dead, .dead, .dead, .dead, .dead, .dead, .dead, .dead, .dead, .dead, .dead, .dead, .dead, .dead, .dead, .dead, .dead, .dead, .dead, .dead, .dead, .dead, .dead, .dead, .dead, .dead, .dead, .dead, .dead, .dead, .dead, .dead, .dead, .dead, .dead, .dead, .dead, .dead, .dead, .dead, .dead, .dead, .dead, .dead, .dead, .dead, .dead, .dead, .dead, .dead, .dead, .dead]
      [some (.var [.ro (.int .u8) z.2.1]), some (.var [iv .i64 0, .run .i64 9 [0, 0, 0, 0, 0, 0, 0, 0, 0], iv .i64 0, iv .i64 0, bv false, .imm (.slice none 0 0), iv .i64 0, iv .i64 0, iv .i64 0]), some (.var [iv .i64 (takV b), .run .i64 9 z.1, iv .i64 0, iv .i64 0, bv false, .imm (.slice none 0 0), iv .i64 0, iv .i64 0, iv .i64 0]), some (.var [bv z.2.2])])
    (fun k z => ∃ vs : List Int, vs.length = k ∧ z.1 = vs ++ List.replicate (9 - k) 0 ∧ comesU (readF b) (N16 (15 - k) (takV b :: vs)) z.2.1 z.2.2 ∧ u8s z.2.1 ∧ z.2.1.length ≤ 100000)
    ([0, 0, 0, 0, 0, 0, 0, 0, 0], takR b, (true && takG b)) (Le.mk [] [0, 1, 2, 3] rfl rfl ?_ ?_) ⟨[], rfl, rfl, c1, takR_u8 hu, Nat.le_trans (takR_le b) hbl⟩ fun k z hk hi => ?_
  · exact rfl
  · repeat' first | exact trivial | exact ⟨rfl, rfl⟩ | refine And.intro ?_ ?_
  obtain ⟨R, rb, ok⟩ := z
  obtain ⟨vs, hv, hR, hQ, hur, hlr⟩ := hi
  dsimp only at hR hQ hur hlr
  subst hR
  repeat' first
    | (refine Go.mk ?_; conv => whnf)
    | refine Need.go ?_ ?_
    | refine NilG.go (fun _ => ?_) (fun _ => ?_)
    | refine Br.dec (fun _ => ?_) (fun _ => ?_)
    | refine Br.go (fun _ => ?_) (fun _ => ?_)
    | refine draw_go hT hP mixed ?_
    | refine round_go hT hP ?_
  · exact ⟨hur, by show rb.length ≤ _; omega⟩
  · show 0 ≤ (k : Int) ∧ (k : Int) < ((9 : Nat) : Int)
    omega
  · show k < 9
    omega
  · rename_i g1
    have g1 : (k : Int) < 9 := g1
    rw [show 15 - k = (15 - (k + 1)) + 1 by omega] at hQ
    apply Exists.intro
    apply Exists.intro ((vs ++ List.replicate (9 - k) 0).set k (takV rb), takR rb, (ok && takG rb))
    refine And.intro (And.intro ?lt146 (And.intro ?ei146 ?inv146)) (Le.mk [] [0, 1, 2, 3] rfl rfl ?hh146 ?ht146)
    case hh146 => exact rfl
    case ht146 => repeat' first | exact trivial | exact ⟨rfl, rfl⟩ | refine And.intro ?_ ?_
    case lt146 => omega
    case ei146 => exact up_i (by omega)
    exact ⟨vs ++ [takV rb], by simp [hv], set_rep hv (by omega) _, comesU_next hQ (N16_step _ _ _), takR_u8 hur, Nat.le_trans (takR_le rb) hlr⟩
  all_goals (
    have a1 := takR_u8 hur
    have l1 := takR_le rb
    have a2 := takR_u8 a1
    have l2 := takR_le (takR rb)
    have a3 := takR_u8 a2
    have l3 := takR_le (takR (takR rb))
    have a4 := takR_u8 a3
    have l4 := takR_le (takR (takR (takR rb)))
    have a5 := takR_u8 a4
    have l5 := takR_le (takR (takR (takR (takR rb))))
    have a6 := takR_u8 a5
    have l6 := takR_le (takR (takR (takR (takR (takR rb)))))
    have a7 := takR_u8 a6
    have l7 := takR_le (takR (takR (takR (takR (takR (takR rb)))))))
  · exact ⟨hur, by show (rb : List Int).length ≤ _; omega⟩
  · exact ⟨a1, by show ((takR rb) : List Int).length ≤ _; omega⟩
  · exact ⟨a2, by show ((takR (takR rb)) : List Int).length ≤ _; omega⟩
  · exact ⟨a3, by show ((takR (takR (takR rb))) : List Int).length ≤ _; omega⟩
  · exact ⟨a4, by show ((takR (takR (takR (takR rb)))) : List Int).length ≤ _; omega⟩
  · exact ⟨a5, by show ((takR (takR (takR (takR (takR rb))))) : List Int).length ≤ _; omega⟩
  · exact ⟨a6, by show ((takR (takR (takR (takR (takR (takR rb)))))) : List Int).length ≤ _; omega⟩
  rename_i g1
  have g1 : ¬ (k : Int) < 9 := g1
  obtain rfl : k = 9 := by omega
  obtain ⟨v1, v2, v3, v4, v5, v6, v7, v8, v9, rfl⟩ := nine hv
  have q1 := comesU_next (comesU_next (comesU_next (comesU_next (comesU_next (comesU_next hQ (N16_step _ _ _)) (N16_step _ _ _)) (N16_step _ _ _)) (N16_step _ _ _)) (N16_step _ _ _)) (N16_step _ _ _)
  obtain ⟨hd, hhd⟩ : ∃ hd : List Int, hd = [takV b, v1, v2, v3, v4, v5, v6, v7, v8, v9, takV rb, takV (takR rb), takV (takR (takR rb)), takV (takR (takR (takR rb))), takV (takR (takR (takR (takR rb)))), takV (takR (takR (takR (takR (takR rb)))))] := ⟨_, rfl⟩
  have q2 : comesU (readF b) (bodyF hd) (takR (takR (takR (takR (takR (takR rb)))))) ((((((ok && takG rb) && takG (takR rb)) && takG (takR (takR rb))) && takG (takR (takR (takR rb)))) && takG (takR (takR (takR (takR rb))))) && takG (takR (takR (takR (takR (takR rb)))))) := by rw [hhd]; exact q1
  have hM : ∀ ds, machOf hd ds = (takV b, ([v1, v2, v3, v4, v5, v6, v7, v8, v9], takV rb, takV (takR rb), decide (takV (takR (takR rb)) = 1)), ds, takV (takR (takR (takR rb))), takV (takR (takR (takR (takR rb)))), takV (takR (takR (takR (takR (takR rb)))))) := fun ds => by rw [hhd]; rfl
  have hMi : hd.getD 12 0 = takV (takR (takR rb)) := by rw [hhd]; rfl
  have c2 : comesU (readF b) (bodG hd [] (takV (takR (takR (takR (takR (takR (takR rb)))))))) (takR (takR (takR (takR (takR (takR (takR rb))))))) (((((((ok && takG rb) && takG (takR rb)) && takG (takR (takR rb))) && takG (takR (takR (takR rb)))) && takG (takR (takR (takR (takR rb))))) && takG (takR (takR (takR (takR (takR rb)))))) && takG (takR (takR (takR (takR (takR (takR rb))))))) := comesU_next q2 (bodyF_eq _ _)
  have h64 := takV_64 a6
  refine loop_go hT hP (X := Int × List Dv × List Int × Bool) (fun x => St.mk [.dead, .cell (.ptr 0 0), .cell (.ptr 1 0), .dead, .cell (.ptr 2 0), .cell (.ptr 3 0), .cell (.fn 54 [0, 3]), .dead, I (takV (takR (takR rb))), I x.1, .dead, .dead, .dead, .dead, .dead, .dead, .dead, .dead, .dead, .dead, .dead, .dead, .dead, .dead, .dead, .dead, .dead, .dead, .dead, .dead, .dead, .dead, .dead, .dead, .dead, .dead, .dead, .dead, .dead, .dead, .dead, .dead, .dead, .dead, .dead, .dead, .dead, .dead, .dead, .dead, .dead, .dead, .dead, .dead, .dead, .dead, .dead, .dead, .dead, .dead, .dead, .dead, .dead, .dead, .dead, .dead, .dead, .dead, .dead, .dead, .dead, .dead, .dead, .dead, .dead, .dead, .dead, .dead, .dead, .dead, .dead, .dead, .dead, .dead, .dead, .dead, .dead, .dead, .dead, .dead, .dead, .dead, .dead, .dead, .dead, .dead, .dead, .dead, .dead, .dead, .dead, .dead, .dead, .dead, .dead, .dead, .dead, .dead, .dead, .dead, .dead, .dead, .dead, .dead, .dead, .dead, .dead, .dead, .dead, .dead, .dead, .dead, .dead, .dead, .dead, .dead, .dead, .dead, .dead, .dead, .dead, .dead, .dead, .dead, .dead, .dead, .dead, .dead, .dead, .dead, .dead]
      [some (.var [.ro (.int .u8) x.2.2.1]), some (.var [iv .i64 0, .run .i64 9 [0, 0, 0, 0, 0, 0, 0, 0, 0], iv .i64 0, iv .i64 0, bv false, .imm (.slice none 0 0), iv .i64 0, iv .i64 0, iv .i64 0]), some (.var [iv .i64 (takV b), .run .i64 9 [v1, v2, v3, v4, v5, v6, v7, v8, v9], iv .i64 (takV rb), iv .i64 (takV (takR rb)), bv false, .own 4, iv .i64 (takV (takR (takR (takR rb)))), iv .i64 (takV (takR (takR (takR (takR rb))))), iv .i64 (takV (takR (takR (takR (takR (takR rb))))))]), some (.var [bv x.2.2.2]), some (.arr DevT x.2.1)])
    (fun x => comesU (readF b) (bodG hd x.2.1 x.1) x.2.2.1 x.2.2.2 ∧ i64P x.1 ∧ u8s x.2.2.1 ∧ x.2.1.length + x.2.2.1.length ≤ 100000) (fun x => x.1.toNat)
    (takV (takR (takR (takR (takR (takR (takR rb)))))), [], takR (takR (takR (takR (takR (takR (takR rb)))))), (((((((ok && takG rb) && takG (takR rb)) && takG (takR (takR rb))) && takG (takR (takR (takR rb)))) && takG (takR (takR (takR (takR rb))))) && takG (takR (takR (takR (takR (takR rb)))))) && takG (takR (takR (takR (takR (takR (takR rb)))))))) (.trans (Le.nilH 2 DevT _ _ rfl rfl rfl) (Le.mk [] [0, 1, 2, 3, 4] rfl rfl ?_ ?_)) ⟨c2, h64, a7, by show 0 + (takR (takR (takR (takR (takR (takR (takR rb))))))).length ≤ _; omega⟩ fun x hx => ?_
  · exact rfl
  · repeat' first | exact trivial | exact ⟨rfl, rfl⟩ | refine And.intro ?_ ?_
  obtain ⟨mn, ds, rb2, ok2⟩ := x
  obtain ⟨hc, hm64, hu2, hlr2⟩ := hx
  dsimp only at hc hm64 hu2 hlr2
  cases ok2
  · repeat' first
      | (refine Go.mk ?_; conv => whnf)
      | refine Need.go ?_ ?_
      | refine NilG.go (fun _ => ?_) (fun _ => ?_)
      | refine Br.dec (fun _ => ?_) (fun _ => ?_)
      | refine Br.go (fun _ => ?_) (fun _ => ?_)
      | refine draw_go hT hP mixed ?_
      | refine round_go hT hP ?_
    have hT9 : readF b = none := hc.2 rfl
    refine .le (Le.nilroH 1 [iv .i64 0, .run .i64 9 [0, 0, 0, 0, 0, 0, 0, 0, 0], iv .i64 0, iv .i64 0, bv false, .imm (.slice none 0 0), iv .i64 0, iv .i64 0, iv .i64 0] (machA machZ) rfl ?_) (.mk [] [] _ rfl rfl rfl rfl rfl rfl ?_)
    · exact ⟨.inl rfl, .inl rfl, .inl rfl, .inl rfl, .inl rfl, .inr ⟨rfl, _, rfl⟩, .inl rfl, .inl rfl, .inl rfl, trivial⟩
    · show AV.tup [.agg (machA machZ), .c (bv false)] = AV.tup [.agg (machA (unE b).1), .c (bv (unE b).2)]
      rw [hE, hT9]
  repeat' first
    | (refine Go.mk ?_; conv => whnf)
    | refine Need.go ?_ ?_
    | refine NilG.go (fun _ => ?_) (fun _ => ?_)
    | refine Br.dec (fun _ => ?_) (fun _ => ?_)
    | refine Br.go (fun _ => ?_) (fun _ => ?_)
    | refine draw_go hT hP mixed ?_
    | refine round_go hT hP ?_
  · rename_i g2 g3
    have hT9 : readF b = none := by
      have g2 : (mn != 0) = true := g2
      rw [hc.1 rfl, bodG_nil hd ds mn (by simpa using g2) rb2 (.inl g3)]
    refine .le (Le.nilroH 1 [iv .i64 0, .run .i64 9 [0, 0, 0, 0, 0, 0, 0, 0, 0], iv .i64 0, iv .i64 0, bv false, .imm (.slice none 0 0), iv .i64 0, iv .i64 0, iv .i64 0] (machA machZ) rfl ?_) (.mk [] [] _ rfl rfl rfl rfl rfl rfl ?_)
    · exact ⟨.inl rfl, .inl rfl, .inl rfl, .inl rfl, .inl rfl, .inr ⟨rfl, _, rfl⟩, .inl rfl, .inl rfl, .inl rfl, trivial⟩
    · show AV.tup [.agg (machA machZ), .c (bv false)] = AV.tup [.agg (machA (unE b).1), .c (bv (unE b).2)]
      rw [hE, hT9]
  · rename_i g2 g3 g4
    have hT9 : readF b = none := by
      have g2 : (mn != 0) = true := g2
      have g4 : (rb2.length : Int) = 0 := g4
      rw [hc.1 rfl, bodG_nil hd ds mn (by simpa using g2) rb2 (.inr (by omega))]
    refine .le (Le.nilroH 1 [iv .i64 0, .run .i64 9 [0, 0, 0, 0, 0, 0, 0, 0, 0], iv .i64 0, iv .i64 0, bv false, .imm (.slice none 0 0), iv .i64 0, iv .i64 0, iv .i64 0] (machA machZ) rfl ?_) (.mk [] [] _ rfl rfl rfl rfl rfl rfl ?_)
    · exact ⟨.inl rfl, .inl rfl, .inl rfl, .inl rfl, .inl rfl, .inr ⟨rfl, _, rfl⟩, .inl rfl, .inl rfl, .inl rfl, trivial⟩
    · show AV.tup [.agg (machA machZ), .c (bv false)] = AV.tup [.agg (machA (unE b).1), .c (bv (unE b).2)]
      rw [hE, hT9]
  · exact ⟨hu2, by show rb2.length ≤ _; omega⟩
  · rename_i g2 g3 g4
    have g2 : (mn != 0) = true := g2
    have g2 : mn ≠ 0 := by simpa using g2
    have g3 : ¬ mn < 0 := g3
    have g4 : ¬ (rb2.length : Int) = 0 := g4
    have c3 := comesU_next hc (bodG_step hd ds mn (by omega) rb2)
    have l9 := takR_lt (b := rb2) (by omega)
    refine loop_go hT hP (X := Int × List Int × List Int × Bool) (fun y => St.mk [.dead, .cell (.ptr 0 0), .cell (.ptr 1 0), .dead, .cell (.ptr 2 0), .cell (.ptr 3 0), .cell (.fn 54 [0, 3]), .dead, I (takV (takR (takR rb))), I mn, .cell (.ptr 5 0), I y.1, .dead, .dead, .dead, .dead, .dead, .dead, .dead, .dead, .dead, .dead, .dead, .dead, .dead, .dead, .dead, .dead, .dead, .dead, .dead, .dead, .dead, .dead, .dead, .dead, .dead, .dead, .dead, .dead, .dead, .dead, .dead, .dead, .dead, .dead, .dead, .dead, .dead, .dead, .dead, .dead, .dead, .dead, .dead, .dead, .dead, .dead, .dead, .dead, .dead, .dead, .dead, .dead, .dead, .dead, .dead, .dead, .dead, .dead, .dead, .dead, .dead, .dead, .dead, .dead, .dead, .dead, .dead, .dead, .dead, .dead, .dead, .dead, .dead, .dead, .dead, .dead, .dead, .dead, .dead, .dead, .dead, .dead, .dead, .dead, .dead, .dead, .dead, .dead, .dead, .dead, .dead, .dead, .dead, .dead, .dead, .dead, .dead, .dead, .dead, .dead, .dead, .dead, .dead, .dead, .dead, .dead, .dead, .dead, .dead, .dead, .dead, .dead, .dead, .dead, .dead, .dead, .dead, .dead, .dead, .dead, .dead, .dead, .dead, .dead, .dead, .dead, .dead, .dead, .dead]
        [some (.var [.ro (.int .u8) y.2.2.1]), some (.var [iv .i64 0, .run .i64 9 [0, 0, 0, 0, 0, 0, 0, 0, 0], iv .i64 0, iv .i64 0, bv false, .imm (.slice none 0 0), iv .i64 0, iv .i64 0, iv .i64 0]), some (.var [iv .i64 (takV b), .run .i64 9 [v1, v2, v3, v4, v5, v6, v7, v8, v9], iv .i64 (takV rb), iv .i64 (takV (takR rb)), bv false, .own 4, iv .i64 (takV (takR (takR (takR rb)))), iv .i64 (takV (takR (takR (takR (takR rb))))), iv .i64 (takV (takR (takR (takR (takR (takR rb))))))]), some (.var [bv y.2.2.2]), some (.arr DevT ds), some (.var [.own 6, .imm (.slice none 0 0)]), some (.arr (.int .i64) y.2.1)])
      (fun y => comesU (readF b) (numG hd (mn - 1).toNat ds y.2.1 y.1) y.2.2.1 y.2.2.2 ∧ i64P y.1 ∧ u8s y.2.2.1 ∧ y.2.1.length + y.2.2.1.length ≤ 100000 ∧ ds.length + y.2.2.1.length + 1 ≤ 100000) (fun y => y.1.toNat)
      (takV rb2, [], takR rb2, (true && takG rb2)) (.trans (Le.nilH 5 (.int .i64) _ _ rfl rfl rfl) (Le.mk [] [0, 1, 2, 3, 4, 5, 6] rfl rfl ?_ ?_)) ⟨c3, takV_64 hu2, takR_u8 hu2, by show 0 + (takR rb2).length ≤ _; omega, by show ds.length + (takR rb2).length + 1 ≤ _; omega⟩ fun y hy => ?_
    · exact rfl
    · repeat' first | exact trivial | exact ⟨rfl, rfl⟩ | refine And.intro ?_ ?_
    obtain ⟨kk, Nn, rb3, ok3⟩ := y
    obtain ⟨hc3, hk64, hu3, hNl, hDl⟩ := hy
    dsimp only at hc3 hk64 hu3 hNl hDl
    unfold i64P at hk64 hm64
    cases ok3
    · repeat' first
        | (refine Go.mk ?_; conv => whnf)
        | refine Need.go ?_ ?_
        | refine NilG.go (fun _ => ?_) (fun _ => ?_)
        | refine Br.dec (fun _ => ?_) (fun _ => ?_)
        | refine Br.go (fun _ => ?_) (fun _ => ?_)
        | refine draw_go hT hP mixed ?_
        | refine round_go hT hP ?_
      · exact ⟨hu3, by show rb3.length ≤ _; omega⟩
      have hT9 : readF b = none := hc3.2 rfl
      refine .le (Le.nilroH 1 [iv .i64 0, .run .i64 9 [0, 0, 0, 0, 0, 0, 0, 0, 0], iv .i64 0, iv .i64 0, bv false, .imm (.slice none 0 0), iv .i64 0, iv .i64 0, iv .i64 0] (machA machZ) rfl ?_) (.mk [] [] _ rfl rfl rfl rfl rfl rfl ?_)
      · exact ⟨.inl rfl, .inl rfl, .inl rfl, .inl rfl, .inl rfl, .inr ⟨rfl, _, rfl⟩, .inl rfl, .inl rfl, .inl rfl, trivial⟩
      · show AV.tup [.agg (machA machZ), .c (bv false)] = AV.tup [.agg (machA (unE b).1), .c (bv (unE b).2)]
        rw [hE, hT9]
    repeat' first
      | (refine Go.mk ?_; conv => whnf)
      | refine Need.go ?_ ?_
      | refine NilG.go (fun _ => ?_) (fun _ => ?_)
      | refine Br.dec (fun _ => ?_) (fun _ => ?_)
      | refine Br.go (fun _ => ?_) (fun _ => ?_)
      | refine draw_go hT hP mixed ?_
      | refine round_go hT hP ?_
    all_goals (try dsimp only [castL_eq] at *)
    · rename_i g5 g6
      have hT9 : readF b = none := by
        have g5 : (kk != 0) = true := g5
        rw [hc3.1 rfl, numG_nil hd _ ds Nn kk (by simpa using g5) rb3 (.inl g6)]
      refine .le (Le.nilroH 1 [iv .i64 0, .run .i64 9 [0, 0, 0, 0, 0, 0, 0, 0, 0], iv .i64 0, iv .i64 0, bv false, .imm (.slice none 0 0), iv .i64 0, iv .i64 0, iv .i64 0] (machA machZ) rfl ?_) (.mk [] [] _ rfl rfl rfl rfl rfl rfl ?_)
      · exact ⟨.inl rfl, .inl rfl, .inl rfl, .inl rfl, .inl rfl, .inr ⟨rfl, _, rfl⟩, .inl rfl, .inl rfl, .inl rfl, trivial⟩
      · show AV.tup [.agg (machA machZ), .c (bv false)] = AV.tup [.agg (machA (unE b).1), .c (bv (unE b).2)]
        rw [hE, hT9]
    · rename_i g5 g6 g7
      have hT9 : readF b = none := by
        have g5 : (kk != 0) = true := g5
        have g7 : (rb3.length : Int) = 0 := g7
        rw [hc3.1 rfl, numG_nil hd _ ds Nn kk (by simpa using g5) rb3 (.inr (by omega))]
      refine .le (Le.nilroH 1 [iv .i64 0, .run .i64 9 [0, 0, 0, 0, 0, 0, 0, 0, 0], iv .i64 0, iv .i64 0, bv false, .imm (.slice none 0 0), iv .i64 0, iv .i64 0, iv .i64 0] (machA machZ) rfl ?_) (.mk [] [] _ rfl rfl rfl rfl rfl rfl ?_)
      · exact ⟨.inl rfl, .inl rfl, .inl rfl, .inl rfl, .inl rfl, .inr ⟨rfl, _, rfl⟩, .inl rfl, .inl rfl, .inl rfl, trivial⟩
      · show AV.tup [.agg (machA machZ), .c (bv false)] = AV.tup [.agg (machA (unE b).1), .c (bv (unE b).2)]
        rw [hE, hT9]
    · exact ⟨hu3, by show rb3.length ≤ _; omega⟩
    · show (Nn.length + 1) * 8 ≤ 140737488355328
      omega
    · rename_i g5 g6 g7
      have g5 : (kk != 0) = true := g5
      have g5 : kk ≠ 0 := by simpa using g5
      have g6 : ¬ kk < 0 := g6
      have g7 : ¬ (rb3.length : Int) = 0 := g7
      have c4 := comesU_next hc3 (numG_step hd _ ds Nn kk (by omega) rb3)
      have l8 := takR_lt (b := rb3) (by omega)
      have ew : IntKind.i64.wrap (kk - 1) = kk - 1 := w64 (by omega) (by omega)
      refine Exists.intro (IntKind.i64.wrap (kk - 1), snocI Nn (takV rb3), takR rb3, (true && takG rb3)) (And.intro ?_ (And.intro ?_ (Le.mk [] [0, 1, 2, 3, 4, 5, 8] rfl rfl ?hh ?ht)))
      case hh => exact rfl
      case ht => repeat' first | exact trivial | exact ⟨rfl, rfl⟩ | refine And.intro ?_ ?_
      · rw [ew]
        exact ⟨c4, by show -9223372036854775808 ≤ kk - 1 ∧ kk - 1 ≤ 9223372036854775807; omega, takR_u8 hu3, by show (Nn ++ [_]).length + (takR rb3).length ≤ _; rw [List.length_append]; show Nn.length + 1 + _ ≤ _; omega, by show ds.length + (takR rb3).length + 1 ≤ _; omega⟩
      · show (IntKind.i64.wrap (kk - 1)).toNat < kk.toNat
        rw [ew]; omega
    · exact ⟨hu3, by show rb3.length ≤ _; omega⟩
    all_goals (
      have hkz : (bif true then kk != 0 else false) = false → comesU (readF b) (devC hd (mn - 1).toNat ds Nn (takV rb3)) (takR rb3) (true && takG rb3) := fun g5 => by
        have g5 : (kk != 0) = false := g5
        have g5 : kk = 0 := by simpa using g5
        rw [g5] at hc3
        exact comesU_next hc3 (numG_0 _ _ _ _ _))
    · rename_i g5 g6
      have c5 := hkz g5
      have hT9 : readF b = none := c5.2 (by simpa using g6)
      refine .le (Le.nilroH 1 [iv .i64 0, .run .i64 9 [0, 0, 0, 0, 0, 0, 0, 0, 0], iv .i64 0, iv .i64 0, bv false, .imm (.slice none 0 0), iv .i64 0, iv .i64 0, iv .i64 0] (machA machZ) rfl ?_) (.mk [] [] _ rfl rfl rfl rfl rfl rfl ?_)
      · exact ⟨.inl rfl, .inl rfl, .inl rfl, .inl rfl, .inl rfl, .inr ⟨rfl, _, rfl⟩, .inl rfl, .inl rfl, .inl rfl, trivial⟩
      · show AV.tup [.agg (machA machZ), .c (bv false)] = AV.tup [.agg (machA (unE b).1), .c (bv (unE b).2)]
        rw [hE, hT9]
    · rename_i g5 g6 g7
      have c5 := hkz g5
      have hT9 : readF b = none := by
        rw [c5.1 (by simpa using g6)]
        exact devC_no hd _ ds Nn _ _ (.inl g7)
      refine .le (Le.nilroH 1 [iv .i64 0, .run .i64 9 [0, 0, 0, 0, 0, 0, 0, 0, 0], iv .i64 0, iv .i64 0, bv false, .imm (.slice none 0 0), iv .i64 0, iv .i64 0, iv .i64 0] (machA machZ) rfl ?_) (.mk [] [] _ rfl rfl rfl rfl rfl rfl ?_)
      · exact ⟨.inl rfl, .inl rfl, .inl rfl, .inl rfl, .inl rfl, .inr ⟨rfl, _, rfl⟩, .inl rfl, .inl rfl, .inl rfl, trivial⟩
      · show AV.tup [.agg (machA machZ), .c (bv false)] = AV.tup [.agg (machA (unE b).1), .c (bv (unE b).2)]
        rw [hE, hT9]
    · rename_i g5 g6 g7 g8
      have c5 := hkz g5
      have hT9 : readF b = none := by
        rw [c5.1 (by simpa using g6)]
        exact devC_no hd _ ds Nn _ _ (.inr g8)
      refine .le (Le.nilroH 1 [iv .i64 0, .run .i64 9 [0, 0, 0, 0, 0, 0, 0, 0, 0], iv .i64 0, iv .i64 0, bv false, .imm (.slice none 0 0), iv .i64 0, iv .i64 0, iv .i64 0] (machA machZ) rfl ?_) (.mk [] [] _ rfl rfl rfl rfl rfl rfl ?_)
      · exact ⟨.inl rfl, .inl rfl, .inl rfl, .inl rfl, .inl rfl, .inr ⟨rfl, _, rfl⟩, .inl rfl, .inl rfl, .inl rfl, trivial⟩
      · show AV.tup [.agg (machA machZ), .c (bv false)] = AV.tup [.agg (machA (unE b).1), .c (bv (unE b).2)]
        rw [hE, hT9]
    all_goals (
      rename_i g5 g6 g7 g8
      have c5 := hkz g5
      have g7 : ¬ takV rb3 < 0 := g7
      have g8 : ¬ takV rb3 > ((takR rb3).length : Int) := g8
      have lr := takR_le rb3)
    · show 0 ≤ takV rb3 ∧ takV rb3 ≤ ((takR rb3).length : Int)
      omega
    · show (0 + (((takR rb3).take (takV rb3).toNat).drop 0).length) * 1 ≤ 140737488355328
      rw [List.drop_zero, List.length_take]; omega
    · show 0 ≤ takV rb3 ∧ takV rb3 ≤ ((takR rb3).length : Int)
      omega
    · show (ds.length + 1) * 48 ≤ 140737488355328
      omega
    · have etl : (takR rb3).take (takR rb3).length = takR rb3 := List.take_length
      have ew : IntKind.i64.wrap (mn - 1) = mn - 1 := w64 (by omega) (by omega)
      have ecd : devC hd (mn - 1).toNat ds Nn (takV rb3) (takR rb3) = devsC hd (mn - 1).toNat (ds ++ [(Nn, (takR rb3).take (takV rb3).toNat)]) ((takR rb3).drop (takV rb3).toNat) := if_neg (by omega)
      refine Exists.intro (IntKind.i64.wrap (mn - 1), snocD ds (Nn, [] ++ List.drop 0 (List.take (takV rb3).toNat (takR rb3))), List.drop (takV rb3).toNat (List.take (takR rb3).length (takR rb3)), (true && takG rb3)) (And.intro ?_ (And.intro ?_ (Le.mk [] [0, 1, 2, 3, 10] rfl rfl ?hh ?ht)))
      case hh => exact rfl
      case ht => repeat' first | exact trivial | exact ⟨rfl, rfl⟩ | refine And.intro ?_ ?_
      · refine ⟨⟨fun hb => ?_, c5.2⟩, ?_, fun x hx => ?_, ?_⟩
        · rw [etl, ew]
          have e9 : bodG hd (snocD ds (Nn, [] ++ List.drop 0 (List.take (takV rb3).toNat (takR rb3)))) (mn - 1) ((takR rb3).drop (takV rb3).toNat) = devsC hd (mn - 1).toNat (ds ++ [(Nn, (takR rb3).take (takV rb3).toNat)]) ((takR rb3).drop (takV rb3).toNat) := if_neg (by omega)
          rw [e9, ← ecd]
          exact c5.1 hb
        · rw [ew]
          show -9223372036854775808 ≤ mn - 1 ∧ mn - 1 ≤ 9223372036854775807
          omega
        · dsimp only at hx
          rw [etl] at hx
          exact takR_u8 hu3 x (List.mem_of_mem_drop hx)
        · show (ds ++ [_]).length + (List.drop (takV rb3).toNat (List.take (takR rb3).length (takR rb3))).length ≤ 100000
          rw [etl, List.length_drop, List.length_append]
          show ds.length + 1 + _ ≤ _
          omega
      · show (IntKind.i64.wrap (mn - 1)).toNat < mn.toNat
        rw [ew]; omega
  · rename_i g2 g3
    have g2 : (mn != 0) = false := g2
    have g2 : mn = 0 := by simpa using g2
    have g3 : (rb2.length : Int) > 0 := g3
    have hT9 : readF b = none := by
      rw [hc.1 rfl, g2]
      show fin hd (some (ds, rb2)) = none
      unfold fin
      dsimp only
      rw [if_pos (by omega)]
    refine .le (Le.nilroH 1 [iv .i64 0, .run .i64 9 [0, 0, 0, 0, 0, 0, 0, 0, 0], iv .i64 0, iv .i64 0, bv false, .imm (.slice none 0 0), iv .i64 0, iv .i64 0, iv .i64 0] (machA machZ) rfl ?_) (.mk [] [] _ rfl rfl rfl rfl rfl rfl ?_)
    · exact ⟨.inl rfl, .inl rfl, .inl rfl, .inl rfl, .inl rfl, .inr ⟨rfl, _, rfl⟩, .inl rfl, .inl rfl, .inl rfl, trivial⟩
    · show AV.tup [.agg (machA machZ), .c (bv false)] = AV.tup [.agg (machA (unE b).1), .c (bv (unE b).2)]
      rw [hE, hT9]
  · rename_i g2 g3 g4 g5
    have g2 : (mn != 0) = false := g2
    have g2 : mn = 0 := by simpa using g2
    have g3 : ¬ (rb2.length : Int) > 0 := g3
    have g4 : (takV (takR (takR rb)) != 0) = true := g4
    have g5 : (takV (takR (takR rb)) != 1) = true := g5
    have hT9 : readF b = none := by
      rw [hc.1 rfl, g2]
      show fin hd (some (ds, rb2)) = none
      unfold fin
      dsimp only
      rw [if_neg (by omega), if_neg]
      rw [hMi]
      intro h
      rcases h with h | h
      · rw [h] at g4; exact absurd g4 (by decide)
      · rw [h] at g5; exact absurd g5 (by decide)
    refine .le (Le.nilroH 1 [iv .i64 0, .run .i64 9 [0, 0, 0, 0, 0, 0, 0, 0, 0], iv .i64 0, iv .i64 0, bv false, .imm (.slice none 0 0), iv .i64 0, iv .i64 0, iv .i64 0] (machA machZ) rfl ?_) (.mk [] [] _ rfl rfl rfl rfl rfl rfl ?_)
    · exact ⟨.inl rfl, .inl rfl, .inl rfl, .inl rfl, .inl rfl, .inr ⟨rfl, _, rfl⟩, .inl rfl, .inl rfl, .inl rfl, trivial⟩
    · show AV.tup [.agg (machA machZ), .c (bv false)] = AV.tup [.agg (machA (unE b).1), .c (bv (unE b).2)]
      rw [hE, hT9]
  · rename_i g2 g3 g4 g5
    have g2 : (mn != 0) = false := g2
    have g2 : mn = 0 := by simpa using g2
    have g3 : ¬ (rb2.length : Int) > 0 := g3
    have g5 : (takV (takR (takR rb)) != 1) = false := g5
    have hx : takV (takR (takR rb)) = 0 ∨ takV (takR (takR rb)) = 1 := .inr (by simpa using g5)
    have hT9 : readF b = some (machOf hd ds) := by
      rw [hc.1 rfl, g2]
      show fin hd (some (ds, rb2)) = _
      unfold fin
      dsimp only
      rw [if_neg (by omega), if_pos]
      rw [hMi]; exact hx
    refine .mk [4] [] _ rfl rfl rfl rfl rfl rfl ?_
    show _ = AV.tup [.agg (machA (unE b).1), .c (bv (unE b).2)]
    rw [hE, hT9]
    dsimp only
    rw [hM]
    rfl
  · rename_i g2 g3 g4
    have g2 : (mn != 0) = false := g2
    have g2 : mn = 0 := by simpa using g2
    have g3 : ¬ (rb2.length : Int) > 0 := g3
    have g4 : (takV (takR (takR rb)) != 0) = false := g4
    have hx : takV (takR (takR rb)) = 0 ∨ takV (takR (takR rb)) = 1 := .inl (by simpa using g4)
    have hT9 : readF b = some (machOf hd ds) := by
      rw [hc.1 rfl, g2]
      show fin hd (some (ds, rb2)) = _
      unfold fin
      dsimp only
      rw [if_neg (by omega), if_pos]
      rw [hMi]; exact hx
    refine .mk [4] [] _ rfl rfl rfl rfl rfl rfl ?_
    show _ = AV.tup [.agg (machA (unE b).1), .c (bv (unE b).2)]
    rw [hE, hT9]
    dsimp only
    rw [hM]
    rfl

end Go.Proofs.Ytanaaecfghmmaaa

/- bakelaw1.SaveBytes answers true, whatever it is given. -/
namespace Go.Proofs.Ytanaaecfghmmaaa
open Go.Fw
set_option linter.unusedVariables false
set_option linter.unusedSimpArgs false
set_option linter.constructorNameAsVariable false
set_option maxRecDepth 100000

def mach0 : Mach := (64, ([0, 0, 0, 0, 0, 0, 0, 0, 0], 0, 0, false), [], 0, 0, 0)
theorem pack0_ok : packP mach0 := by
  refine ⟨fun n hn => ?_, fun d hd => (by cases hd), rfl, by decide⟩
  have hn : n ∈ [64, 0, 0, 0, 0, 0, 0, 0, 0, 0, 0, 0, (0 : Int), 0, 0, 0, 0] := hn
  simp at hn
  unfold i64P
  omega
theorem pack0_eq : packF mach0 = bytes0 := by
  have e64 : encI 64 = [128, 1] := by
    unfold encI zig
    rw [if_neg (by omega), enc7_ge (by decide), enc7_lt (by decide)]; rfl
  have e0 : encI 0 = [0] := by
    unfold encI zig
    rw [if_neg (by omega), enc7_lt (by decide)]; rfl
  show encAll [64, 0, 0, 0, 0, 0, 0, 0, 0, 0, 0, 0, (0 : Int), 0, 0, 0, 0] ++ [] = bytes0
  simp [encAll, e64, e0, bytes0]
def savesS : PSpec := ⟨[], fun _ => (none, .cell (bv true), [])⟩
set_option maxHeartbeats 4000000 in
theorem saves_ok : GoodF Try.prog 14 savesS.spec := by
  have hT := tab_ok (fs := [(49, packS.spec), (15, read0S.spec)]) tree_ok
  have hP : SpecsOk Try.prog (tab tree [(49, packS.spec), (15, read0S.spec)]) := specs_cons bytes_ok (specs_cons read0_ok specs_nil)
  refine savesS.good (fn := Try.f14) hT hP Try.func14 (by kernel_rfl) rfl fun _ => ?_
  repeat' first
    | (refine Go.mk ?_; conv => whnf)
    | refine Need.go ?_ ?_
    | refine NilG.go (fun _ => ?_) (fun _ => ?_)
    | refine Br.dec (fun _ => ?_) (fun _ => ?_)
    | refine Br.go (fun _ => ?_) (fun _ => ?_)
    | refine draw_go hT hP mixed ?_
    | refine round_go hT hP ?_
  all_goals first
    | exact pack0_ok
    | exact pack0_eq
    | exact of_decide_eq_true rfl
    | exact .mk [] [] _ rfl rfl rfl rfl rfl rfl rfl
    | skip
  all_goals trace_state
def sbS : PSpec := ⟨[gM], fun (m, _) => (some (packP m), .cell (bv true), [])⟩
end Go.Proofs.Ytanaaecfghmmaaa

/- bakelaw1.SaveReads answers true, whatever it is given. -/
namespace Go.Proofs.Ytanaaecfghmmaaa
open Go.Fw
set_option linter.unusedVariables false
set_option linter.unusedSimpArgs false
set_option linter.constructorNameAsVariable false
set_option maxRecDepth 100000

def eqSelfS : PSpec := ⟨[gM, gM], fun (m, n, _) => (some (m = n ∧ packP m), .cell (bv true), [])⟩
theorem eqSelf_ok : GoodF Try.prog 16 eqSelfS.spec := by
  have hT := tab_ok (fs := [(53, packS.spec)]) tree_ok
  have hP : SpecsOk Try.prog (tab tree [(53, packS.spec)]) := specs_cons packed_ok specs_nil
  refine eqSelfS.good (fn := Try.f16) hT hP Try.func16 (by kernel_rfl) rfl fun (m n : Mach) hq => ?_
  obtain ⟨e, hm⟩ : m = n ∧ packP m := hq _ rfl
  subst e
  clear hq
  obtain ⟨tm, ⟨r, op, at_, nmi⟩, ds, bd, ba, bdt⟩ := m
  repeat' first
    | (refine Go.mk ?_; conv => whnf)
    | refine Need.go ?_ ?_
    | refine NilG.go (fun _ => ?_) (fun _ => ?_)
    | refine Br.dec (fun _ => ?_) (fun _ => ?_)
    | refine Br.go (fun _ => ?_) (fun _ => ?_)
    | refine draw_go hT hP mixed ?_
    | refine round_go hT hP ?_
  all_goals (try dsimp only [castL_eq] at *)
  all_goals clear hT hP
  · exact hm
  · exact hm
  · refine .mk [] [] _ rfl rfl rfl rfl rfl rfl (imm_bool ?_)
    exact beq_self_eq_true (ByteArray.toList (strOf (packF (tm, (r, op, at_, nmi), ds, bd, ba, bdt))))
theorem packZ : packP machZ := by
  refine ⟨fun n hn => ?_, fun d hd => (by cases hd), rfl, by decide⟩
  have hn : n ∈ [0, 0, 0, 0, 0, 0, 0, 0, 0, 0, 0, 0, (0 : Int), 0, 0, 0, 0] := hn
  simp at hn
  unfold i64P
  omega
theorem readE_P {b : List Int} (hu : u8s b) : packP (readE b).1 := by
  unfold readE
  split
  · exact packZ
  · rename_i h
    cases e : readF b with
    | none => exact packZ
    | some m => exact readF_P hu (by omega) e
def svrS : PSpec := ⟨[gb], fun (b, _) => (some (u8s b ∧ List.length b ≤ 4611686018427387904), .cell (bv true), [])⟩
set_option maxHeartbeats 4000000 in
theorem svr_ok : GoodF Try.prog 4 svrS.spec := by
  have hT := tab_ok (fs := [(14, savesS.spec), (15, readS.spec), (17, unpS.spec), (16, eqSelfS.spec)]) tree_ok
  have hP : SpecsOk Try.prog (tab tree [(14, savesS.spec), (15, readS.spec), (17, unpS.spec), (16, eqSelfS.spec)]) := specs_cons saves_ok (specs_cons read_ok (specs_cons unp_ok (specs_cons eqSelf_ok specs_nil)))
  refine svrS.good (fn := Try.f4) hT hP Try.func4 (by kernel_rfl) rfl fun (b : List Int) hq => ?_
  obtain ⟨hu, hl⟩ : u8s b ∧ b.length ≤ 4611686018427387904 := hq _ rfl
  clear hq
  have hP9 := readE_P hu
  have f1 : b.length > 100000 → readE b = (machZ, 2) := fun h => if_pos h
  have f2 : ¬ b.length > 100000 → (readE b).1 = (unE b).1 ∧ (((unE b).2 = false ∧ (readE b).2 = 3 ∧ (unE b).1 = machZ) ∨ ((unE b).2 = true ∧ (readE b).2 = 0)) := fun h => by
    unfold readE unE
    rw [if_neg h]
    cases readF b with
    | none => exact ⟨rfl, .inl ⟨rfl, rfl, rfl⟩⟩
    | some m => exact ⟨rfl, .inr ⟨rfl, rfl⟩⟩
  repeat' first
    | (refine Go.mk ?_; conv => whnf)
    | refine Need.go ?_ ?_
    | refine NilG.go (fun _ => ?_) (fun _ => ?_)
    | refine Br.dec (fun _ => ?_) (fun _ => ?_)
    | refine Br.go (fun _ => ?_) (fun _ => ?_)
    | refine draw_go hT hP mixed ?_
    | refine round_go hT hP ?_
  all_goals (try dsimp only [castL_eq] at *)
  all_goals clear hT hP
  · exact ⟨hu, hl⟩
  · rename_i g1 g2
    have g1 : (b.length : Int) > 100000 := g1
    refine ⟨?_, hP9⟩
    show (readE b).1 = machZ
    rw [f1 (by omega)]
  · exact .mk [] [] _ rfl rfl rfl rfl rfl rfl rfl
  · rename_i g1 g2
    have g1 : (b.length : Int) > 100000 := g1
    exfalso
    have g2 : ¬ (readE b).2 = 2 := g2
    rw [f1 (by omega)] at g2
    exact g2 rfl
  · rename_i g1
    have g1 : ¬ (b.length : Int) > 100000 := g1
    exact ⟨hu, by omega⟩
  all_goals (
    rename_i g1 g2 g3
    have g1 : ¬ (b.length : Int) > 100000 := g1
    obtain ⟨f3, f4⟩ := f2 (by omega))
  · have g2 : (!(unE b).2) = true := g2
    rcases f4 with ⟨h1, h2, h3⟩ | ⟨h1, h2⟩
    · refine ⟨?_, hP9⟩
      show (readE b).1 = machZ
      rw [f3, h3]
    · rw [h1] at g2; cases g2
  · exact .mk [] [] _ rfl rfl rfl rfl rfl rfl rfl
  · exfalso
    have g2 : (!(unE b).2) = true := g2
    have g3 : ¬ (readE b).2 = 3 := g3
    rcases f4 with ⟨h1, h2, h3⟩ | ⟨h1, h2⟩
    · exact g3 h2
    · rw [h1] at g2; cases g2
  · exact ⟨f3, hP9⟩
  · exact .mk [] [] _ rfl rfl rfl rfl rfl rfl rfl
  · exfalso
    have g2 : (!(unE b).2) = false := g2
    have g3 : ¬ (readE b).2 = 0 := g3
    rcases f4 with ⟨h1, h2, h3⟩ | ⟨h1, h2⟩
    · rw [h1] at g2; cases g2
    · exact g3 h2

end Go.Proofs.Ytanaaecfghmmaaa

/- The arguments of a law: from what they read as to data, and back behind the call. -/
namespace Go.Fw
open Go.ChangeShapes Go.WideShapes Go.RowKit
set_option linter.unusedVariables false
set_option linter.unusedSimpArgs false

def sigFits (P : Program) (m : Nat) (g : Sig) (t : TypeId) : Bool := tyFits P m g.t t && match P.underlying t with
  | some (.struct _) => g.ag
  | some (.int _) => !g.ag
  | some .bool => !g.ag
  | some .string => !g.ag
  | some (.slice _) => !g.ag
  | some (.array _ _) => g.ag
  | _ => false
def sigsFit (P : Program) (m : Nat) : List Sig → List TypeId → Bool
  | [], [] => true
  | g :: gs, t :: ts => sigFits P m g t && sigsFit P m gs ts
  | _, _ => false
def WfA : (gs : List Sig) → Args gs → Prop
  | [], _ => True
  | g :: gs, x => Wf g.t x.1 ∧ WfA gs x.2

section
variable {H : Type} {enc : TypeId × Value → H} {P : Program} {w : World} {base : Nat}

theorem one_cell {v u : Value} (h : v.cells.toList = [u]) (hv : ∀ cs, v ≠ .agg cs) : v = u := by
  cases v with
  | agg cs => exact absurd rfl (hv cs)
  | _ => simpa [Value.cells] using h

theorem CR.one {w : World} {S : Nat → Prop} {t : Ty} {d : Den t} {v : Value} (hc : CR w S t d [v]) (h : (cells t d).length = 1) (E : Env) (hw : E.w = w) (hS : E.S = S) : ∃ c, cells t d = [c] ∧ CellR E c [v] := by
  subst hw; subst hS
  have := hc.items
  match hh : cells t d, h with
  | [c], _ =>
    rw [hh] at this
    obtain ⟨r, s, e, h1, h2⟩ := this
    simp only [IR] at h2
    subst h2
    simp at e
    subst e
    exact ⟨c, rfl, h1⟩

variable {bk : DataW H → Nat} {ba : List (DataW H) → Nat}
theorem v1_open (B : BulkLaw bk ba) {m fuel : Nat} {g : Sig} {t : TypeId} {v : Value} {x : DataW H × List MemPlace} (hf : sigFits P m g t = true) (hv : Value.okWide P w .any base t v) (hz : ∀ z ∈ DataW.weights P t x.1, z ≤ reachBytes)
    (h : DataW.trod enc P w 0 (fun _ => true) true fuel t v.cells.toList = some x) : ∃ d : Den g.t, V1R (startE w) (canonV g d) v ∧ Wf g.t d ∧ bd g.t d ≤ bk x.1 := by
  unfold sigFits at hf
  rw [Bool.and_eq_true] at hf
  obtain ⟨h1, h2⟩ := hf
  obtain ⟨d, hc, hw, hb⟩ := open_cr B m h1 hz h
  refine ⟨d, ?_, hw, hb⟩
  have single : ∀ u, v = u → (∀ cs, v ≠ .agg cs) → g.ag = false → (cells g.t d).length = 1 → V1R (startE w) (canonV g d) v := by
    intro u e hn hg hl
    have hcl : v.cells.toList = [v] := by
      cases v with
      | agg cs => exact absurd rfl (hn cs)
      | _ => rfl
    rw [hcl] at hc
    obtain ⟨c, e1, e2⟩ := hc.one hl (startE w) rfl rfl
    unfold canonV
    rw [hg]
    simp only [e1]
    exact e2
  cases m with
  | zero => cases h1
  | succ m =>
  unfold tyFits at h1
  split at h2
  · rename_i F hu
    obtain ⟨cs, rfl, _⟩ := okWide_struct hu hv
    unfold canonV
    rw [h2]
    exact ⟨cs, rfl, hc.items (E := startE w)⟩
  · rename_i k hu
    obtain ⟨n, rfl⟩ := okWide_int hu hv
    refine single _ rfl (by simp) (by simpa using h2) ?_
    rw [hu] at h1
    match g, d, h1 with
    | ⟨_, .int _⟩, _, _ => rfl
  · rename_i hu
    obtain ⟨n, rfl⟩ := okWide_bool hu hv
    refine single _ rfl (by simp) (by simpa using h2) ?_
    rw [hu] at h1
    match g, d, h1 with
    | ⟨_, .bool⟩, _, _ => rfl
  · rename_i hu
    obtain ⟨n, rfl⟩ := okWide_string hu hv
    refine single _ rfl (by simp) (by simpa using h2) ?_
    rw [hu] at h1
    match g, d, h1 with
    | ⟨_, .str⟩, _, _ => rfl
  · rename_i e hu
    obtain ⟨a, len, cap, rfl⟩ := okWide_slice hu hv
    refine single _ rfl (by simp) (by simpa using h2) ?_
    rw [hu] at h1
    match g, d, h1 with
    | ⟨_, .sl _⟩, _, _ => rfl
  · rename_i n e hu
    obtain ⟨cs, rfl⟩ : ∃ cs, v = .agg cs := by
      simp only [Value.okWide, hu] at hv
      obtain ⟨cs, h1, _⟩ := hv
      exact ⟨cs, h1⟩
    unfold canonV
    rw [h2]
    exact ⟨cs, rfl, hc.items (E := startE w)⟩
  · cases h2

def bdA : (gs : List Sig) → Args gs → Nat
  | [], _ => 0
  | g :: gs, x => bd g.t x.1 + bdA gs x.2
theorem args_open (B : BulkLaw bk ba) {m : Nat} {vt : List TypeId} {gds : List (DataW H)} : ∀ {gs : List Sig} {ts : List TypeId} {vs : List Value} {ds : List (DataW H)} {ps : List MemPlace}, sigsFit P m gs ts = true →
    (∀ (j : Nat) t v, ts[j]? = some t → vs[j]? = some v → Value.okWide P w .any base t v) → (∀ z ∈ DataW.weightsEach P (ts ++ vt) (ds ++ gds), z ≤ reachBytes) →
    DataW.TrodAll enc P w 0 (fun _ => true) true ts vs ds ps → ∃ xs : Args gs, VsR (startE w) (canonArgs gs xs) vs ∧ WfA gs xs ∧ bdA gs xs ≤ ba ds
  | [], [], vs, ds, ps, _, _, _, h => by
    obtain ⟨rfl, rfl, rfl⟩ := trodAll_nil h
    exact ⟨(), rfl, trivial, Nat.zero_le _⟩
  | g :: gs, t :: ts, vs, ds, ps, hf, hv, hz, h => by
    unfold sigsFit at hf
    rw [Bool.and_eq_true] at hf
    obtain ⟨v, vs', d, ds', p, q, rfl, rfl, rfl, ⟨fuel, h1⟩, h2⟩ := trodAll_cons h
    rw [List.cons_append, List.cons_append, DataW.weightsEach] at hz
    obtain ⟨x, hx, wx, bx⟩ := v1_open B (x := (d, p)) hf.1 (hv 0 t v rfl rfl) (fun z hz' => hz z (List.mem_append.2 (.inl hz'))) h1
    obtain ⟨xs, hxs, wxs, bxs⟩ := args_open B hf.2 (fun j t v ht hvj => hv (j + 1) t v (by simpa using ht) (by simpa using hvj)) (fun z hz' => hz z (List.mem_append.2 (.inr hz'))) h2
    exact ⟨(x, xs), VsR.cons hx hxs, ⟨wx, wxs⟩, Nat.le_trans (Nat.add_le_add bx bxs) (B.cons _ _)⟩
  | [], _ :: _, _, _, _, hf, _, _, _ => by cases hf
  | _ :: _, [], _, _, _, hf, _, _, _ => by cases hf

theorem dec_cells {look : Nat → Option Blk} : ∀ (t : Ty) (x : Den t) (r : List Cell), dec look t (cells t x ++ r) = some (x, [], r)
  | .int k, x, r => by simp [cells, dec]
  | .ints k n, l, r => by simp [cells, dec]
  | .bool, b, r => rfl
  | .str, s, r => rfl
  | .sl t, l, r => by
    have : slAs look t (.ro t l) = some l := by
      unfold slAs
      simp only [sliceOf, eqTy, dif_pos, castL]
    simp only [cells, List.cons_append, List.nil_append, dec, this, frzN]
  | .pair a b, x, r => by
    simp only [cells, dec, List.append_assoc, dec_cells a x.1, dec_cells b x.2, List.append_nil]

theorem decAll_cells {look : Nat → Option Blk} (t : Ty) (x : Den t) : decAll look t (cells t x) = some (x, []) := by
  unfold decAll
  have := dec_cells (look := look) t x []
  rw [List.append_nil] at this
  rw [this]

def Sig.fine (g : Sig) : Bool := g.ag || match g.t with | .int _ => true | .bool => true | .str => true | .sl _ => true | _ => false
theorem decV_canon {g : Sig} (h : g.fine = true) (d : Den g.t) : decV g (canonV g d) = some d := by
  obtain ⟨ag, t⟩ := g
  cases ag with
  | true =>
    unfold decV canonV
    simp only [decAll_cells]
  | false =>
    have one : ∃ c, cells t d = [c] := by
      cases t <;> simp [Sig.fine] at h <;> exact ⟨_, rfl⟩
    obtain ⟨c, hc⟩ := one
    have e : canonV ⟨false, t⟩ d = .c c := by unfold canonV; simp only [hc]
    have e2 : decAll (fun _ => none) t [c] = some (d, []) := by rw [← hc]; exact decAll_cells t d
    unfold decV
    simp only [e, e2, hc]
theorem decArgs_canon : ∀ {gs : List Sig} (h : gs.all Sig.fine = true) (xs : Args gs), decArgs gs (canonArgs gs xs) = some xs
  | [], _, () => rfl
  | g :: gs, h, (a, r) => by
    rw [List.all_cons, Bool.and_eq_true] at h
    show (match decV g (canonV g a) with | some d => (match decArgs gs (canonArgs gs r) with | some r => some (d, r) | none => none) | none => none) = _
    rw [decV_canon h.1, decArgs_canon h.2]

def rowsFine (P : Program) (ts : List TypeId) : Bool := ts.all fun t => P.readableRec t && Nat.blt t P.types.size
theorem args_back {W W' : World} (hl : laidOutB P = true) (hb : Below W.heap.size W W') : ∀ {ts : List TypeId} {vs : List Value} {ds : List (DataW H)} {ps : List MemPlace}, rowsFine P ts = true → (∀ x ∈ ps, x.block < W.heap.size) →
    DataW.TrodAll enc P W 0 (fun _ => true) true ts vs ds ps → DataW.TrodAll enc P W' 0 (fun b => decide (b < W.heap.size)) true ts vs ds ps
  | [], vs, ds, ps, _, _, h => by
    obtain ⟨rfl, rfl, rfl⟩ := trodAll_nil h
    exact trodAll_mk0
  | t :: ts, vs, ds, ps, hf, hlt, h => by
    unfold rowsFine at hf
    rw [List.all_cons, Bool.and_eq_true, Bool.and_eq_true] at hf
    obtain ⟨v, vs', d, ds', p, q, rfl, rfl, rfl, h1, h2⟩ := trodAll_cons h
    exact trodAll_cons_mk (Below.trod hl hf.1.1 (by simpa [Nat.blt_eq] using hf.1.2) h1 hb fun x hx => hlt x (List.mem_append.2 (.inl hx))) (args_back hl hb hf.2 (fun x hx => hlt x (List.mem_append.2 (.inr hx))) h2)
end

/-- a law that is true, over arguments of any kind -/
theorem PSpec.law_all {P : Program} {H : Type} {enc : TypeId × Value → H} {f : FuncId} {s : PSpec} (h : GoodF P f s.spec) {W : World} {base m : Nat} {ts vt : List TypeId} {args : Array Value} {ds gds : List (DataW H)} {p : List MemPlace}
    (hfit : sigsFit P m s.gs ts = true) (hfine : s.gs.all Sig.fine = true) (hrow : rowsFine P ts = true) (hl : laidOutB P = true)
    (hval : ∀ (j : Nat) t v, ts[j]? = some t → args.toList[j]? = some v → Value.okWide P W .any base t v)
    (hz : (DataW.weightsEach P (ts ++ vt) (ds ++ gds)).all (· ≤ reachBytes) = true) (hA : DataW.TrodAll enc P W 0 (fun _ => true) true ts args.toList ds p)
    (hs : ∀ xs, WfA s.gs xs → ∃ q, s.out xs = (q, .cell (bv true), []) ∧ ∀ z, q = some z → z) :
    Calls P f args W fun e w' => e = .returned (.bool true) ∧ Below W.heap.size W w' ∧ DataW.TrodAll enc P w' 0 (fun b => decide (b < W.heap.size)) true ts args.toList ds p := by
  obtain ⟨xs, hv, hw, _⟩ := args_open (bulk_size H) hfit hval (fun z hz' => by simpa using List.all_eq_true.1 hz z hz') hA
  obtain ⟨q, h1, h2⟩ := hs xs hw
  refine (PSpec.law h xs hv (decArgs_canon hfine xs) h1 h2).mono fun e W' ⟨he, hb⟩ => ⟨he, hb, ?_⟩
  exact args_back hl hb hrow (DataW.TrodAll.lt hA) hA

/-- a law that is true, over arguments of any kind up to a bulk -/
theorem PSpec.law_upto {P : Program} {H : Type} {enc : TypeId × Value → H} {f : FuncId} {s : PSpec} (h : GoodF P f s.spec) {W : World} {base m N : Nat} {ts vt : List TypeId} {args : Array Value} {ds gds : List (DataW H)} {p : List MemPlace}
    {bk : DataW H → Nat} {ba : List (DataW H) → Nat} (B : BulkLaw bk ba) (hN : ba ds ≤ N)
    (hfit : sigsFit P m s.gs ts = true) (hfine : s.gs.all Sig.fine = true) (hrow : rowsFine P ts = true) (hl : laidOutB P = true)
    (hval : ∀ (j : Nat) t v, ts[j]? = some t → args.toList[j]? = some v → Value.okWide P W .any base t v)
    (hz : (DataW.weightsEach P (ts ++ vt) (ds ++ gds)).all (· ≤ reachBytes) = true) (hA : DataW.TrodAll enc P W 0 (fun _ => true) true ts args.toList ds p)
    (hs : ∀ xs, WfA s.gs xs → bdA s.gs xs ≤ N → ∃ q, s.out xs = (q, .cell (bv true), []) ∧ ∀ z, q = some z → z) :
    Calls P f args W fun e w' => e = .returned (.bool true) ∧ Below W.heap.size W w' ∧ DataW.TrodAll enc P w' 0 (fun b => decide (b < W.heap.size)) true ts args.toList ds p := by
  obtain ⟨xs, hv, hw, hbd⟩ := args_open B hfit hval (fun z hz' => by simpa using List.all_eq_true.1 hz z hz') hA
  obtain ⟨q, h1, h2⟩ := hs xs hw (Nat.le_trans hbd hN)
  refine (PSpec.law h xs hv (decArgs_canon hfine xs) h1 h2).mono fun e W' ⟨he, hb⟩ => ⟨he, hb, ?_⟩
  exact args_back hl hb hrow (DataW.TrodAll.lt hA) hA

end Go.Fw

/- What the argument of SaveReads keeps to. -/
namespace Go.Proofs.Ytanaaecfghmmaaa
open Go.Fw
set_option linter.unusedVariables false
open Go.ChangeShapes Go.WideShapes in
theorem svr_pre (xs : Args svrS.gs) (hw : WfA svrS.gs xs) : u8s xs.1 ∧ List.length xs.1 ≤ 4611686018427387904 := by
  refine ⟨fun x hx => ?_, ?_⟩
  · have h := hw.1.2 x hx
    have h : (Lit.int .u8 x).wf = true := h
    have h : 0 ≤ x ∧ x ≤ 255 := by simpa [Lit.wf, IntKind.min, IntKind.max, IntKind.signed, IntKind.bits] using h
    omega
  · have h := hw.1.1
    have h : List.length xs.1 * 1 ≤ _ := h
    simp only [reachBytes] at h
    omega

end Go.Proofs.Ytanaaecfghmmaaa

