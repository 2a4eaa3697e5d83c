/- Part 13 of the proof: MachLaw Kind4 Kind5 Kind6 Mach Mach2 Wires Finds0 Finds Boards Machs MachPeeks. No statement is handed in here; conditions: none. -/
import Derived.Test.YtblnigjmcjpopaaGreatG7
import Derived.Test.YtblnigjmcjpopaaGreatG11
import Derived.Test.YtblnigjmcjpopaaGreatG12
import Derived.Test.YtblnigjmcjpopaaGreatG10
/- States of machines that have the same bytes are the same. -/
namespace Go.Proofs.YtblnigjmcjpopaaGreat
open Go.Fw
set_option linter.unusedVariables false
set_option linter.unusedSimpArgs false

theorem enc7_inj : ∀ (u v : Nat) (a b : List Int), enc7 u ++ a = enc7 v ++ b → u = v ∧ a = b := by
  intro u
  induction u using Nat.strongRecOn with
  | ind u ih =>
    intro v a b h
    by_cases hu : u < 128
    · by_cases hv : v < 128
      · rw [enc7_lt hu, enc7_lt hv] at h
        injection h with h1 h2
        exact ⟨by omega, h2⟩
      · rw [enc7_lt hu, enc7_ge hv] at h
        injection h with h1 h2
        omega
    · by_cases hv : v < 128
      · rw [enc7_ge hu, enc7_lt hv] at h
        injection h with h1 h2
        omega
      · rw [enc7_ge hu, enc7_ge hv] at h
        injection h with h1 h2
        obtain ⟨e1, e2⟩ := ih (u / 128) (by omega) (v / 128) a b h2
        exact ⟨by omega, e2⟩
theorem encI_inj {n m : Int} {a b : List Int} (h : encI n ++ a = encI m ++ b) : n = m ∧ a = b := by
  obtain ⟨e1, e2⟩ := enc7_inj _ _ _ _ h
  refine ⟨?_, e2⟩
  unfold zig at e1
  split at e1 <;> split at e1 <;> omega
theorem encAll_inj : ∀ {l m : List Int} {a b : List Int}, l.length = m.length → encAll l ++ a = encAll m ++ b → l = m ∧ a = b
  | [], [], a, b, _, h => ⟨rfl, h⟩
  | [], _ :: _, _, _, hl, _ => by cases hl
  | _ :: _, [], _, _, hl, _ => by cases hl
  | x :: l, y :: m, a, b, hl, h => by
    rw [encAll_cons, encAll_cons, List.append_assoc, List.append_assoc] at h
    obtain ⟨e1, e2⟩ := encI_inj h
    obtain ⟨e3, e4⟩ := encAll_inj (by simpa using hl) e2
    exact ⟨by rw [e1, e3], e4⟩
theorem app_inj {l m a b : List Int} (hl : l.length = m.length) (h : l ++ a = m ++ b) : l = m ∧ a = b := List.append_inj h hl
theorem devL_inj {x y : Dv} {a b : List Int} (h : devL x ++ a = devL y ++ b) : x = y ∧ a = b := by
  unfold devL at h
  simp only [List.append_assoc] at h
  obtain ⟨e1, h⟩ := encI_inj h
  obtain ⟨e2, h⟩ := encAll_inj (by omega) h
  obtain ⟨e3, h⟩ := encI_inj h
  obtain ⟨e4, h⟩ := app_inj (by omega) h
  exact ⟨Prod.ext e2 e4, h⟩
theorem devs_inj : ∀ {l m : List Dv}, l.length = m.length → l.flatMap devL = m.flatMap devL → l = m
  | [], [], _, _ => rfl
  | [], _ :: _, hl, _ => by cases hl
  | _ :: _, [], hl, _ => by cases hl
  | x :: l, y :: m, hl, h => by
    simp only [List.flatMap_cons] at h
    obtain ⟨e1, e2⟩ := devL_inj h
    rw [e1, devs_inj (by simpa using hl) e2]
theorem packF_inj {m n : Mach} (hm : m.2.1.1.length = 9) (hn : n.2.1.1.length = 9) (h : packF m = packF n) : m = n := by
  unfold packF at h
  obtain ⟨e1, e2⟩ := encAll_inj (by rw [headL_len m hm, headL_len n hn]) h
  obtain ⟨tm, ⟨r, op, at_, nmi⟩, ds, b1, b2, b3⟩ := m
  obtain ⟨tm', ⟨r', op', at', nmi'⟩, ds', b1', b2', b3'⟩ := n
  unfold headL at e1
  simp only [List.singleton_append, List.cons_append] at e1
  injection e1 with e3 e1
  have hr : r.length = r'.length := by
    have h1 : r.length = 9 := hm
    have h2 : r'.length = 9 := hn
    omega
  obtain ⟨e4, e5⟩ := List.append_inj e1 hr
  injection e5 with f1 e5
  injection e5 with f2 e5
  injection e5 with f3 e5
  injection e5 with f4 e5
  injection e5 with f5 e5
  injection e5 with f6 e5
  injection e5 with f7 e5
  have f7 : (ds.length : Int) = ds'.length := f7
  have e6 := devs_inj (l := ds) (m := ds') (by omega) e2
  have f3 : nmi = nmi' := by
    have f3 : (cond nmi 1 0 : Int) = cond nmi' 1 0 := f3
    cases nmi <;> cases nmi' <;> first | rfl | (exact absurd f3 (by decide))
  have f1 : op = op' := f1
  have f2 : at_ = at' := f2
  have f4 : b1 = b1' := f4
  have f5 : b2 = b2' := f5
  have f6 : b3 = b3' := f6
  have e3 : tm = tm' := e3
  subst e3 e4 f1 f2 f3 f4 f5 f6 e6
  rfl

theorem strOf_inj {l m : List Int} (hl : u8s l) (hm : u8s m) (h : strOf l = strOf m) : l = m := by
  have h1 : (l.map fun n => UInt8.ofNat n.toNat) = m.map fun n => UInt8.ofNat n.toNat := by
    have h2 := congrArg (fun b : ByteArray => b.data.toList) h
    simpa [strOf] using h2
  clear h
  induction l generalizing m with
  | nil =>
    cases m with
    | nil => rfl
    | cons y m => simp at h1
  | cons x l ih =>
    cases m with
    | nil => simp at h1
    | cons y m =>
      simp only [List.map_cons, List.cons.injEq] at h1
      obtain ⟨e1, e2⟩ := h1
      have hx := hl x (List.mem_cons_self ..)
      have hy := hm y (List.mem_cons_self ..)
      have e3 := congrArg UInt8.toNat e1
      simp only [UInt8.toNat_ofNat'] at e3
      have e4 : x = y := by omega
      rw [e4, ih (fun z hz => hl z (List.mem_cons_of_mem _ hz)) (fun z hz => hm z (List.mem_cons_of_mem _ hz)) e2]
theorem enc7_u8 : ∀ u : Nat, u8s (enc7 u) := by
  intro u
  induction u using Nat.strongRecOn with
  | ind u ih =>
    by_cases hu : u < 128
    · rw [enc7_lt hu]
      intro x hx
      rw [List.mem_singleton] at hx
      subst hx; omega
    · rw [enc7_ge hu]
      intro x hx
      rcases List.mem_cons.1 hx with rfl | hx
      · omega
      · exact ih (u / 128) (by omega) x hx
theorem u8s_app {l m : List Int} (h : u8s l) (h2 : u8s m) : u8s (l ++ m) := fun x hx => (List.mem_append.1 hx).elim (h x) (h2 x)
theorem encAll_u8 (l : List Int) : u8s (encAll l) := fun x hx => by
  obtain ⟨n, _, hn⟩ := List.mem_flatMap.1 hx
  exact enc7_u8 _ x hn
def memU (m : Mach) : Prop := ∀ d ∈ m.2.2.1, u8s d.2
theorem packF_u8 {m : Mach} (h : memU m) : u8s (packF m) := by
  refine u8s_app (encAll_u8 _) fun x hx => ?_
  obtain ⟨d, hd, hx⟩ := List.mem_flatMap.1 hx
  exact u8s_app (u8s_app (u8s_app (enc7_u8 _) (encAll_u8 _)) (enc7_u8 _)) (h d hd) x hx

end Go.Proofs.YtblnigjmcjpopaaGreat

/- What the reference gives for chips, whatever the kind. -/
namespace Go.Proofs.YtblnigjmcjpopaaGreat
open Go.Fw
set_option linter.unusedVariables false
set_option linter.unusedSimpArgs false
set_option linter.constructorNameAsVariable false
set_option maxRecDepth 100000

theorem kx_no {k n : Int} (h : k < 0 ∨ 8 < k) (g : k = n) (hn : 0 ≤ n ∧ n ≤ 8) : False := by omega
theorem rd_lin {c : Cv} {d : Dv} {a : Int} (hk : c.2.1 = 0 ∨ c.2.1 = 1) (hu : u8s d.2) (h0 : a ≥ 0) (h1 : a < ((memM c d.2).length : Nat)) : IntKind.i64.wrap ((memM c d.2).getD a.toNat 0) = memRd c d a := by
  have e : placeI c (memD c d) a = a := by
    unfold placeI
    rw [if_neg (by omega), if_neg]
    show ¬ (a < 0 ∨ a ≥ ((memM c d.2).length : Nat))
    omega
  rw [u8s_w (memM_u8 _ hu), memRd, e, if_pos h0]
theorem rd_out {c : Cv} {d : Dv} {a : Int} (hk : c.2.1 = 0 ∨ c.2.1 = 1) (h : ¬ a ≥ 0 ∨ ¬ a < ((memM c d.2).length : Nat)) : 0 = memRd c d a := by
  have e : placeI c (memD c d) a = -1 := by
    unfold placeI
    rw [if_neg (by omega), if_pos]
    show a < 0 ∨ a ≥ ((memM c d.2).length : Nat)
    omega
  rw [memRd, e, if_neg (by decide), if_neg (by omega)]
theorem pl_no {c : Cv} {d : Dv} {a : Int} (hk : c.2.1 = 2) (h : a < 1 ∨ a > winI c) : placeI c (memD c d) a = -1 := by
  unfold placeI
  rw [if_pos hk, if_pos h]
theorem pl_b {c : Cv} {d : Dv} {a : Int} (hk : c.2.1 = 2) (hc : cP c) (g1 : a > 0) (g2 : a ≤ winI c) : IntKind.i64.wrap (IntKind.i64.wrap (IntKind.i64.wrap ((memN c d.1).getD 0 0 * winI c) + a) - 1) = placeI c (memD c d) a ∧ placeI c (memD c d) a ≥ 0 := by
  obtain ⟨b1, b2, b3⟩ := bankI_in hc.2.2
  obtain ⟨w1, w2⟩ := winI_in c
  obtain ⟨_, hx⟩ := mem_placeP d hc
  obtain ⟨_, n0, n1⟩ := hx hk
  have n0 : 0 ≤ (memN c d.1).getD 0 0 := n0
  have n1 : (memN c d.1).getD 0 0 < bankI c := n1
  obtain ⟨m1, m2⟩ := bank_mul n0 n1 w1
  have e : placeI c (memD c d) a = (memN c d.1).getD 0 0 * winI c + a - 1 := by
    unfold placeI
    rw [if_pos hk, if_neg (by omega)]; rfl
  rw [e, w64 (x := (memN c d.1).getD 0 0 * winI c) (by omega) (by omega), w64 (x := (memN c d.1).getD 0 0 * winI c + a) (by omega) (by omega), w64 (by omega) (by omega)]
  exact ⟨rfl, by omega⟩
theorem rd_bw {c : Cv} {d : Dv} {a : Int} (hk : c.2.1 = 2) (hc : cP c) (hu : u8s d.2) (g1 : a > 0) (g2 : a ≤ winI c) : IntKind.i64.wrap ((memM c d.2).getD (IntKind.i64.wrap (IntKind.i64.wrap (IntKind.i64.wrap ((memN c d.1).getD 0 0 * winI c) + a) - 1)).toNat 0) = memRd c d a := by
  obtain ⟨e1, e2⟩ := pl_b (d := d) hk hc g1 g2
  rw [e1, u8s_w (memM_u8 _ hu), memRd, if_pos e2]
theorem bw_in {c : Cv} {d : Dv} {a : Int} (hk : c.2.1 = 2) (hc : cP c) (g1 : a > 0) (g2 : a ≤ winI c) : 0 ≤ IntKind.i64.wrap (IntKind.i64.wrap (IntKind.i64.wrap ((memN c d.1).getD 0 0 * winI c) + a) - 1) ∧ IntKind.i64.wrap (IntKind.i64.wrap (IntKind.i64.wrap ((memN c d.1).getD 0 0 * winI c) + a) - 1) < ((memM c d.2).length : Nat) := by
  obtain ⟨e1, e2⟩ := pl_b (d := d) hk hc g1 g2
  rw [e1]
  exact ⟨e2, mem_place_in d hc e2⟩
theorem rd_b0 {c : Cv} {d : Dv} {a : Int} (hk : c.2.1 = 2) (g : a = 0) : (memN c d.1).getD 0 0 = memRd c d a := by
  rw [memRd, pl_no hk (by omega), if_neg (by decide), if_pos ⟨hk, g⟩]
theorem rd_bx {c : Cv} {d : Dv} {a : Int} (hk : c.2.1 = 2) (g : ¬ a = 0) (h : ¬ a > 0 ∨ ¬ a ≤ winI c) : 0 = memRd c d a := by
  rw [memRd, pl_no hk (by omega), if_neg (by decide), if_neg (fun h => g h.2)]
theorem bN_in {c : Cv} {N : List Int} (hk : c.2.1 = 2) : 0 < (memN c N).length := by
  unfold memN; rw [if_pos hk]; show 0 < 1; omega
theorem wr_lin {c : Cv} {d : Dv} {a k : Int} (hk : c.2.1 = 0) (h0 : a ≥ 0) (h1 : a < ((memM c d.2).length : Nat)) : (memN c d.1, (memM c d.2).set a.toNat (IntKind.u8.wrap (k % 256))) = memWr c d a k := by
  have e : placeI c (memD c d) a = a := by
    unfold placeI
    rw [if_neg (by omega), if_neg]
    show ¬ (a < 0 ∨ a ≥ ((memM c d.2).length : Nat))
    omega
  have e2 : IntKind.u8.wrap (k % 256) = k % 256 := by show k % 256 % 256 = k % 256; omega
  rw [memWr, e, if_neg (by omega), if_pos h0, e2]
theorem wr_out {c : Cv} {d : Dv} {a k : Int} (hk : c.2.1 = 0) (h : ¬ a ≥ 0 ∨ ¬ a < ((memM c d.2).length : Nat)) : (memN c d.1, memM c d.2) = memWr c d a k := by
  have e : placeI c (memD c d) a = -1 := by
    unfold placeI
    rw [if_neg (by omega), if_pos]
    show a < 0 ∨ a ≥ ((memM c d.2).length : Nat)
    omega
  rw [memWr, e, if_neg (by omega), if_neg (by decide), if_neg (by omega)]; rfl
theorem wr_rom {c : Cv} {d : Dv} {a k : Int} (hk : c.2.1 = 1) : (memN c d.1, memM c d.2) = memWr c d a k := by
  rw [memWr, if_pos hk]; rfl
theorem wr_b0 {c : Cv} {d : Dv} {a k : Int} (hk : c.2.1 = 2) (g : a = 0) : ((memN c d.1).set 0 (Int.tmod (k % 256) (bankI c)), memM c d.2) = memWr c d a k := by
  rw [memWr, pl_no hk (by omega), if_neg (by omega), if_neg (by decide), if_pos ⟨hk, g⟩, Int.tmod_eq_emod_of_nonneg (by omega)]
theorem wr_bw {c : Cv} {d : Dv} {a k : Int} (hk : c.2.1 = 2) (hc : cP c) (g1 : a > 0) (g2 : a ≤ winI c) : (memN c d.1, (memM c d.2).set (IntKind.i64.wrap (IntKind.i64.wrap (IntKind.i64.wrap ((memN c d.1).getD 0 0 * winI c) + a) - 1)).toNat (IntKind.u8.wrap (k % 256))) = memWr c d a k := by
  obtain ⟨e1, e2⟩ := pl_b (d := d) hk hc g1 g2
  have e3 : IntKind.u8.wrap (k % 256) = k % 256 := by show k % 256 % 256 = k % 256; omega
  rw [e1, memWr, if_neg (by omega), if_pos e2, e3]
theorem wr_bx {c : Cv} {d : Dv} {a k : Int} (hk : c.2.1 = 2) (g : ¬ a = 0) (h : ¬ a > 0 ∨ ¬ a ≤ winI c) : (memN c d.1, memM c d.2) = memWr c d a k := by
  rw [memWr, pl_no hk (by omega), if_neg (by omega), if_neg (by decide), if_neg (fun h => g h.2)]; rfl
def memK (k : Int) : Prop := k = 0 ∨ k = 1 ∨ k = 2 ∨ (k < 0 ∨ 8 < k)
def kLoaded0S : PSpec := ⟨[gC, gD, gi], fun (c, d, a, _) => (some ((cP c ∧ dP d) ∧ memK c.2.1), .tup [devM1, I1 (loadI c d a)], [.arr (.int .i64) (loadD c d a).1, .arr (.int .u8) (loadD c d a).2])⟩
set_option maxHeartbeats 1000000 in
theorem kLoaded0_ok : GoodF Tryz.prog 7 kLoaded0S.spec := by
  have hT := tab_ok (fs := [(36, kFormedS.spec), (37, pickS.spec), (38, bankedS.spec)]) tree_ok
  have hP : SpecsOk Tryz.prog (tab tree [(36, kFormedS.spec), (37, pickS.spec), (38, bankedS.spec)]) := specs_cons kFormed_ok (specs_cons pick_ok (specs_cons banked_ok specs_nil))
  refine kLoaded0S.good (fn := Tryz.f7) hT hP Tryz.func7 (by kernel_rfl) rfl fun (c : Cv) (d : Dv) (a : Int) hp => ?_
  obtain ⟨cn, ck, cb, cs, cd⟩ := c
  obtain ⟨N, M⟩ := d
  obtain ⟨⟨hc, hl, hu⟩, hk⟩ : (cP (cn, ck, cb, cs, cd) ∧ dP (N, M)) ∧ memK ck := hp _ rfl
  clear hp
  rcases hk with rfl | rfl | rfl | hx
  all_goals
    repeat' first
      | (exfalso; rename_i g; exact kx_no hx g (by decide))
      | (refine Go.mk ?_; conv => whnf)
      | refine Need.go ?_ ?_
      | refine NilG.go (fun _ => ?_) (fun _ => ?_)
      | refine Br.dec (fun _ => ?_) (fun _ => ?_)
      | refine Br.go (fun _ => ?_) (fun _ => ?_)
      | refine draw_go hT hP mixed ?_
      | refine round_go hT hP ?_
    all_goals (try dsimp only [castL_eq] at *)
  all_goals clear hT hP
  · exact ⟨hc, hl⟩
  · rename_i g1 g2
    exact ⟨g1, g2⟩
  · rename_i g1 g2
    have g2 : a < ((memM (cn, 0, cb, cs, cd) M).length : Nat) := g2
    show a.toNat < (memM (cn, 0, cb, cs, cd) M).length
    omega
  · rename_i g1 g2
    refine .mk [] [4, 5] _ rfl rfl rfl rfl rfl rfl (tup_x ?_)
    exact rd_lin (c := (cn, 0, cb, cs, cd)) (d := (N, M)) (.inl rfl) hu g1 g2
  · rename_i g1 g2
    refine .mk [] [4, 5] _ rfl rfl rfl rfl rfl rfl (tup_x ?_)
    exact rd_out (c := (cn, 0, cb, cs, cd)) (d := (N, M)) (.inl rfl) (.inr g2)
  · rename_i g1
    refine .mk [] [4, 5] _ rfl rfl rfl rfl rfl rfl (tup_x ?_)
    exact rd_out (c := (cn, 0, cb, cs, cd)) (d := (N, M)) (.inl rfl) (.inl g1)
  · exact ⟨hc, hl⟩
  · rename_i g1 g2
    exact ⟨g1, g2⟩
  · rename_i g1 g2
    have g2 : a < ((memM (cn, 1, cb, cs, cd) M).length : Nat) := g2
    show a.toNat < (memM (cn, 1, cb, cs, cd) M).length
    omega
  · rename_i g1 g2
    refine .mk [] [4, 5] _ rfl rfl rfl rfl rfl rfl (tup_x ?_)
    exact rd_lin (c := (cn, 1, cb, cs, cd)) (d := (N, M)) (.inr rfl) hu g1 g2
  · rename_i g1 g2
    refine .mk [] [4, 5] _ rfl rfl rfl rfl rfl rfl (tup_x ?_)
    exact rd_out (c := (cn, 1, cb, cs, cd)) (d := (N, M)) (.inr rfl) (.inr g2)
  · rename_i g1
    refine .mk [] [4, 5] _ rfl rfl rfl rfl rfl rfl (tup_x ?_)
    exact rd_out (c := (cn, 1, cb, cs, cd)) (d := (N, M)) (.inr rfl) (.inl g1)
  · exact ⟨hc, hl⟩
  · exact hc
  · have h := bN_in (c := (cn, 2, cb, cs, cd)) (N := N) rfl
    show 0 ≤ (0 : Int) ∧ (0 : Int) < ((memN (cn, 2, cb, cs, cd) N).length : Nat)
    omega
  · exact bN_in (c := (cn, 2, cb, cs, cd)) (N := N) rfl
  · rename_i g1
    refine .mk [] [4, 5] _ rfl rfl rfl rfl rfl rfl (tup_x ?_)
    exact rd_b0 (c := (cn, 2, cb, cs, cd)) (d := (N, M)) rfl g1
  · have h := bN_in (c := (cn, 2, cb, cs, cd)) (N := N) rfl
    show 0 ≤ (0 : Int) ∧ (0 : Int) < ((memN (cn, 2, cb, cs, cd) N).length : Nat)
    omega
  · exact bN_in (c := (cn, 2, cb, cs, cd)) (N := N) rfl
  · rename_i g1 g2 g3
    exact bw_in (c := (cn, 2, cb, cs, cd)) (d := (N, M)) rfl hc g2 g3
  · rename_i g1 g2 g3
    have h := bw_in (c := (cn, 2, cb, cs, cd)) (d := (N, M)) rfl hc g2 g3
    exact (Int.toNat_lt h.1).2 h.2
  · rename_i g1 g2 g3
    refine .mk [] [4, 5] _ rfl rfl rfl rfl rfl rfl (tup_x ?_)
    exact rd_bw (c := (cn, 2, cb, cs, cd)) (d := (N, M)) rfl hc hu g2 g3
  · rename_i g1 g2 g3
    refine .mk [] [4, 5] _ rfl rfl rfl rfl rfl rfl (tup_x ?_)
    exact rd_bx (c := (cn, 2, cb, cs, cd)) (d := (N, M)) rfl g1 (.inr g3)
  · rename_i g1 g2
    refine .mk [] [4, 5] _ rfl rfl rfl rfl rfl rfl (tup_x ?_)
    exact rd_bx (c := (cn, 2, cb, cs, cd)) (d := (N, M)) rfl g1 (.inl g2)
  · exact ⟨hc, hl⟩
  · have e1 : formF (cn, ck, cb, cs, cd) (N, M) = loadD (cn, ck, cb, cs, cd) (N, M) a := by unfold formF loadD; rw [sel_x hx, sel_x hx]
    have e2 : 0 = loadI (cn, ck, cb, cs, cd) (N, M) a := by unfold loadI; rw [sel_x hx]
    exact .mk [] [4, 5] _ rfl rfl rfl rfl rfl (blk_dv e1) (tup_x e2)

def kStored0S : PSpec := ⟨[gC, gD, gi, gi], fun (c, d, a, k, _) => (some ((cP c ∧ dP d) ∧ memK c.2.1), devM, [.arr (.int .i64) (storeF c d a k).1, .arr (.int .u8) (storeF c d a k).2])⟩
set_option maxHeartbeats 1000000 in
theorem kStored0_ok : GoodF Tryz.prog 10 kStored0S.spec := by
  have hT := tab_ok (fs := [(36, kFormedS.spec), (22, modS.spec), (38, bankedS.spec)]) tree_ok
  have hP : SpecsOk Tryz.prog (tab tree [(36, kFormedS.spec), (22, modS.spec), (38, bankedS.spec)]) := specs_cons kFormed_ok (specs_cons mod_ok (specs_cons banked_ok specs_nil))
  refine kStored0S.good (fn := Tryz.f10) hT hP Tryz.func10 (by kernel_rfl) rfl fun (c : Cv) (d : Dv) (a k : Int) hp => ?_
  obtain ⟨cn, ck, cb, cs, cd⟩ := c
  obtain ⟨N, M⟩ := d
  obtain ⟨⟨hc, hl, hu⟩, hk⟩ : (cP (cn, ck, cb, cs, cd) ∧ dP (N, M)) ∧ memK ck := hp _ rfl
  clear hp
  rcases hk with rfl | rfl | rfl | hx
  all_goals
    repeat' first
      | (exfalso; rename_i g; exact kx_no hx g (by decide))
      | (refine Go.mk ?_; conv => whnf)
      | refine Need.go ?_ ?_
      | refine NilG.go (fun _ => ?_) (fun _ => ?_)
      | refine Br.dec (fun _ => ?_) (fun _ => ?_)
      | refine Br.go (fun _ => ?_) (fun _ => ?_)
      | refine draw_go hT hP mixed ?_
      | refine round_go hT hP ?_
    all_goals (try dsimp only [castL_eq] at *)
  all_goals clear hT hP
  · exact ⟨hc, hl⟩
  · exact of_decide_eq_true rfl
  · rename_i g1 g2
    exact ⟨g1, g2⟩
  · rename_i g1 g2
    have g2 : a < ((memM (cn, 0, cb, cs, cd) M).length : Nat) := g2
    show a.toNat < (memM (cn, 0, cb, cs, cd) M).length
    omega
  · rename_i g1 g2
    exact .mk [] [3, 4] _ rfl rfl rfl rfl rfl (blk_dv (wr_lin (c := (cn, 0, cb, cs, cd)) (d := (N, M)) (k := k) rfl g1 g2)) rfl
  · rename_i g1 g2
    exact .mk [] [3, 4] _ rfl rfl rfl rfl rfl (blk_dv (wr_out (c := (cn, 0, cb, cs, cd)) (d := (N, M)) (k := k) rfl (.inr g2))) rfl
  · rename_i g1
    exact .mk [] [3, 4] _ rfl rfl rfl rfl rfl (blk_dv (wr_out (c := (cn, 0, cb, cs, cd)) (d := (N, M)) (k := k) rfl (.inl g1))) rfl
  · exact ⟨hc, hl⟩
  · exact of_decide_eq_true rfl
  · exact .mk [] [3, 4] _ rfl rfl rfl rfl rfl (blk_dv (wr_rom (c := (cn, 1, cb, cs, cd)) (d := (N, M)) (a := a) (k := k) rfl)) rfl
  · exact ⟨hc, hl⟩
  · exact of_decide_eq_true rfl
  · exact hc
  · obtain ⟨b1, b2, b3⟩ := bankI_in (c := (cn, 2, cb, cs, cd)) hc.2.2
    show bankI (cn, 2, cb, cs, cd) ≠ 0
    omega
  · have h := bN_in (c := (cn, 2, cb, cs, cd)) (N := N) rfl
    show 0 ≤ (0 : Int) ∧ (0 : Int) < ((memN (cn, 2, cb, cs, cd) N).length : Nat)
    omega
  · exact bN_in (c := (cn, 2, cb, cs, cd)) (N := N) rfl
  · rename_i g1
    exact .mk [] [3, 4] _ rfl rfl rfl rfl rfl (blk_dv (wr_b0 (c := (cn, 2, cb, cs, cd)) (d := (N, M)) (k := k) rfl g1)) rfl
  · have h := bN_in (c := (cn, 2, cb, cs, cd)) (N := N) rfl
    show 0 ≤ (0 : Int) ∧ (0 : Int) < ((memN (cn, 2, cb, cs, cd) N).length : Nat)
    omega
  · exact bN_in (c := (cn, 2, cb, cs, cd)) (N := N) rfl
  · rename_i g1 g2 g3
    exact bw_in (c := (cn, 2, cb, cs, cd)) (d := (N, M)) rfl hc g2 g3
  · rename_i g1 g2 g3
    have h := bw_in (c := (cn, 2, cb, cs, cd)) (d := (N, M)) rfl hc g2 g3
    exact (Int.toNat_lt h.1).2 h.2
  · rename_i g1 g2 g3
    exact .mk [] [3, 4] _ rfl rfl rfl rfl rfl (blk_dv (wr_bw (c := (cn, 2, cb, cs, cd)) (d := (N, M)) (k := k) rfl hc g2 g3)) rfl
  · rename_i g1 g2 g3
    exact .mk [] [3, 4] _ rfl rfl rfl rfl rfl (blk_dv (wr_bx (c := (cn, 2, cb, cs, cd)) (d := (N, M)) (k := k) rfl g1 (.inr g3))) rfl
  · rename_i g1 g2
    exact .mk [] [3, 4] _ rfl rfl rfl rfl rfl (blk_dv (wr_bx (c := (cn, 2, cb, cs, cd)) (d := (N, M)) (k := k) rfl g1 (.inl g2))) rfl
  · exact ⟨hc, hl⟩
  · exact of_decide_eq_true rfl
  · have e1 : formF (cn, ck, cb, cs, cd) (N, M) = storeF (cn, ck, cb, cs, cd) (N, M) a k := by unfold formF storeF; rw [sel_x hx, sel_x hx]
    exact .mk [] [3, 4] _ rfl rfl rfl rfl rfl (blk_dv e1) rfl

def bothK (d : Dv) : Prop := List.length d.2 ≤ 140737488355328
def givF (c : Cv) (d : Dv) (k : Int) : Dv := sel c.2.1 (memN c d.1, memM c d.2) (timN d.1, []) (pinN d.1 k, []) (sinN d.1 k, []) (vN d.1, vM d.2) (sndN d.1, []) (dcN d.1 (qF d.2) k, dM d.2) ([], [])
def kGiven0S : PSpec := ⟨[gC, gD, gi], fun (c, d, k, _) => (some ((cP c ∧ dP d) ∧ (c.2.1 ≠ 4 ∧ c.2.1 ≠ 5 ∧ c.2.1 ≠ 8)), devM, [.arr (.int .i64) (formF c d).1, .arr (.int .u8) (formF c d).2])⟩
theorem kGiven0_ok : GoodF Tryz.prog 12 kGiven0S.spec := by
  have hT := tab_ok (fs := [(36, kFormedS.spec)]) tree_ok
  have hP : SpecsOk Tryz.prog (tab tree [(36, kFormedS.spec)]) := specs_cons kFormed_ok specs_nil
  refine kGiven0S.good (fn := Tryz.f12) hT hP Tryz.func12 (by kernel_rfl) rfl fun (c : Cv) (d : Dv) (k : Int) hp => ?_
  obtain ⟨cn, ck, cb, cs, cd⟩ := c
  obtain ⟨N, M⟩ := d
  obtain ⟨⟨hc, hl, hu⟩, h4, h5, h8⟩ : (cP (cn, ck, cb, cs, cd) ∧ dP (N, M)) ∧ (ck ≠ 4 ∧ ck ≠ 5 ∧ ck ≠ 8) := hp _ rfl
  clear hp
  rcases kinds ck with rfl | rfl | rfl | rfl | rfl | rfl | rfl | rfl | rfl | hx
  all_goals try (exfalso; omega)
  all_goals
    repeat' first
      | (exfalso; rename_i g; exact kx_no hx g (by decide))
      | (refine Go.mk ?_; conv => whnf)
      | refine Need.go ?_ ?_
      | refine NilG.go (fun _ => ?_) (fun _ => ?_)
      | refine Br.dec (fun _ => ?_) (fun _ => ?_)
      | refine Br.go (fun _ => ?_) (fun _ => ?_)
      | refine draw_go hT hP mixed ?_
      | refine round_go hT hP ?_
    all_goals (try dsimp only [castL_eq] at *)
  all_goals first
    | exact ⟨hc, hl⟩
    | exact .mk [] [3, 4] _ rfl rfl rfl rfl rfl rfl rfl
    | exact .mk [] [] _ rfl rfl rfl rfl rfl rfl rfl
    | skip

def kAsking0S : PSpec := ⟨[gC, gD], fun (c, d, _) => (some ((cP c ∧ dP d) ∧ (c.2.1 ≠ 3 ∧ c.2.1 ≠ 5 ∧ c.2.1 ≠ 8)), .cell (bv false), [])⟩
theorem kAsking0_ok : GoodF Tryz.prog 14 kAsking0S.spec := by
  have hT := tab_ok (fs := [(36, kFormedS.spec)]) tree_ok
  have hP : SpecsOk Tryz.prog (tab tree [(36, kFormedS.spec)]) := specs_cons kFormed_ok specs_nil
  refine kAsking0S.good (fn := Tryz.f14) hT hP Tryz.func14 (by kernel_rfl) rfl fun (c : Cv) (d : Dv) hp => ?_
  obtain ⟨cn, ck, cb, cs, cd⟩ := c
  obtain ⟨N, M⟩ := d
  obtain ⟨⟨hc, hl, hu⟩, h4, h5, h8⟩ : (cP (cn, ck, cb, cs, cd) ∧ dP (N, M)) ∧ (ck ≠ 3 ∧ ck ≠ 5 ∧ ck ≠ 8) := hp _ rfl
  clear hp
  rcases kinds ck with rfl | rfl | rfl | rfl | rfl | rfl | rfl | rfl | rfl | hx
  all_goals try (exfalso; omega)
  all_goals
    repeat' first
      | (exfalso; rename_i g; exact kx_no hx g (by decide))
      | (refine Go.mk ?_; conv => whnf)
      | refine Need.go ?_ ?_
      | refine NilG.go (fun _ => ?_) (fun _ => ?_)
      | refine Br.dec (fun _ => ?_) (fun _ => ?_)
      | refine Br.go (fun _ => ?_) (fun _ => ?_)
      | refine draw_go hT hP mixed ?_
      | refine round_go hT hP ?_
    all_goals (try dsimp only [castL_eq] at *)
  all_goals first
    | exact ⟨hc, hl⟩
    | exact .mk [] [3, 4] _ rfl rfl rfl rfl rfl rfl rfl
    | exact .mk [] [] _ rfl rfl rfl rfl rfl rfl rfl
    | skip

def kShows0S : PSpec := ⟨[gC, gD], fun (c, d, _) => (some ((cP c ∧ dP d) ∧ (c.2.1 < 4 ∨ 8 < c.2.1)), I 0, [])⟩
theorem kShows0_ok : GoodF Tryz.prog 16 kShows0S.spec := by
  have hT := tab_ok (fs := [(36, kFormedS.spec)]) tree_ok
  have hP : SpecsOk Tryz.prog (tab tree [(36, kFormedS.spec)]) := specs_cons kFormed_ok specs_nil
  refine kShows0S.good (fn := Tryz.f16) hT hP Tryz.func16 (by kernel_rfl) rfl fun (c : Cv) (d : Dv) hp => ?_
  obtain ⟨cn, ck, cb, cs, cd⟩ := c
  obtain ⟨N, M⟩ := d
  obtain ⟨⟨hc, hl, hu⟩, hk⟩ : (cP (cn, ck, cb, cs, cd) ∧ dP (N, M)) ∧ (ck < 4 ∨ 8 < ck) := hp _ rfl
  clear hp
  rcases kinds ck with rfl | rfl | rfl | rfl | rfl | rfl | rfl | rfl | rfl | hx
  all_goals try (exfalso; omega)
  all_goals
    repeat' first
      | (exfalso; rename_i g; exact kx_no hx g (by decide))
      | (refine Go.mk ?_; conv => whnf)
      | refine Need.go ?_ ?_
      | refine NilG.go (fun _ => ?_) (fun _ => ?_)
      | refine Br.dec (fun _ => ?_) (fun _ => ?_)
      | refine Br.go (fun _ => ?_) (fun _ => ?_)
      | refine draw_go hT hP mixed ?_
      | refine round_go hT hP ?_
    all_goals (try dsimp only [castL_eq] at *)
  all_goals first
    | exact ⟨hc, hl⟩
    | exact .mk [] [3, 4] _ rfl rfl rfl rfl rfl rfl rfl
    | exact .mk [] [] _ rfl rfl rfl rfl rfl rfl rfl
    | skip

def kRests0S : PSpec := ⟨[gC, gD], fun (c, d, _) => (some ((cP c ∧ dP d) ∧ (c.2.1 < 3 ∨ c.2.1 = 4 ∨ 8 < c.2.1)), I 100000, [])⟩
theorem kRests0_ok : GoodF Tryz.prog 18 kRests0S.spec := by
  have hT := tab_ok (fs := [(36, kFormedS.spec)]) tree_ok
  have hP : SpecsOk Tryz.prog (tab tree [(36, kFormedS.spec)]) := specs_cons kFormed_ok specs_nil
  refine kRests0S.good (fn := Tryz.f18) hT hP Tryz.func18 (by kernel_rfl) rfl fun (c : Cv) (d : Dv) hp => ?_
  obtain ⟨cn, ck, cb, cs, cd⟩ := c
  obtain ⟨N, M⟩ := d
  obtain ⟨⟨hc, hl, hu⟩, hk⟩ : (cP (cn, ck, cb, cs, cd) ∧ dP (N, M)) ∧ (ck < 3 ∨ ck = 4 ∨ 8 < ck) := hp _ rfl
  clear hp
  rcases kinds ck with rfl | rfl | rfl | rfl | rfl | rfl | rfl | rfl | rfl | hx
  all_goals try (exfalso; omega)
  all_goals
    repeat' first
      | (exfalso; rename_i g; exact kx_no hx g (by decide))
      | (refine Go.mk ?_; conv => whnf)
      | refine Need.go ?_ ?_
      | refine NilG.go (fun _ => ?_) (fun _ => ?_)
      | refine Br.dec (fun _ => ?_) (fun _ => ?_)
      | refine Br.go (fun _ => ?_) (fun _ => ?_)
      | refine draw_go hT hP mixed ?_
      | refine round_go hT hP ?_
    all_goals (try dsimp only [castL_eq] at *)
  all_goals first
    | exact ⟨hc, hl⟩
    | exact .mk [] [3, 4] _ rfl rfl rfl rfl rfl rfl rfl
    | exact .mk [] [] _ rfl rfl rfl rfl rfl rfl rfl
    | skip

end Go.Proofs.YtblnigjmcjpopaaGreat

/- Chips read, written, given numbers and asked, whatever the kind: the law ChipActs. -/
namespace Go.Proofs.YtblnigjmcjpopaaGreat
open Go.Fw
set_option linter.unusedVariables false
set_option linter.unusedSimpArgs false
set_option linter.constructorNameAsVariable false
set_option maxRecDepth 100000

theorem kxg {k : Int} (h : k < 0 ∨ 8 < k) : k ≠ 4 ∧ k ≠ 5 ∧ k ≠ 8 := by omega
theorem kxa {k : Int} (h : k < 0 ∨ 8 < k) : k ≠ 3 ∧ k ≠ 5 ∧ k ≠ 8 := by omega
theorem kxs {k : Int} (h : k < 0 ∨ 8 < k) : k < 4 ∨ 8 < k := by omega
def kLoadedS : PSpec := ⟨[gC, gD, gi], fun (c, d, a, _) => (some (cP c ∧ dP d), .tup [devM1, I1 (loadI c d a)], [.arr (.int .i64) (loadD c d a).1, .arr (.int .u8) (loadD c d a).2])⟩
theorem kLoaded_ok : GoodF Tryz.prog 7 kLoadedS.spec := by
  refine GoodF.sel kLoaded0_ok fun (c, d, a, _) hp => ?_
  obtain ⟨cn, ck, cb, cs, cd⟩ := c
  obtain ⟨N, M⟩ := d
  obtain ⟨hc, hl, hu⟩ : cP (cn, ck, cb, cs, cd) ∧ dP (N, M) := hp _ rfl
  clear hp
  show ∃ o1 : Args [gC, gD, gi] → Option Prop × AV × List Blk, _
  rcases kinds ck with rfl | rfl | rfl | rfl | rfl | rfl | rfl | rfl | rfl | hx
  · exact ⟨_, kLoaded0_ok, fun q hq => by cases hq; exact ⟨⟨hc, hl, hu⟩, .inl rfl⟩, .refl⟩
  · exact ⟨_, kLoaded0_ok, fun q hq => by cases hq; exact ⟨⟨hc, hl, hu⟩, .inr (.inl rfl)⟩, .refl⟩
  · exact ⟨_, kLoaded0_ok, fun q hq => by cases hq; exact ⟨⟨hc, hl, hu⟩, .inr (.inr (.inl rfl))⟩, .refl⟩
  · exact ⟨_, tloaded_ok, fun q hq => by cases hq; rfl, .nil (.int .u8) rfl .refl⟩
  · exact ⟨_, ploaded_ok, fun q hq => by cases hq; rfl, .nil (.int .u8) rfl .refl⟩
  · exact ⟨_, sloaded_ok, fun q hq => by cases hq; rfl, .nil (.int .u8) rfl .refl⟩
  · exact ⟨_, vloaded_ok, fun q hq => by cases hq; exact ⟨rfl, hu⟩, .refl⟩
  · exact ⟨_, oloaded_ok, fun q hq => by cases hq; rfl, .nil (.int .u8) rfl .refl⟩
  · exact ⟨_, dloadedO_ok, fun q hq => by cases hq; exact ⟨rfl, hl⟩, .refl⟩
  · exact ⟨_, kLoaded0_ok, fun q hq => by cases hq; exact ⟨⟨hc, hl, hu⟩, .inr (.inr (.inr hx))⟩, .refl⟩

def kStoredS : PSpec := ⟨[gC, gD, gi, gi], fun (c, d, a, k, _) => (some (cP c ∧ dP d), devM, [.arr (.int .i64) (storeF c d a k).1, .arr (.int .u8) (storeF c d a k).2])⟩
theorem kStored_ok : GoodF Tryz.prog 10 kStoredS.spec := by
  refine GoodF.sel kStored0_ok fun (c, d, a, k, _) hp => ?_
  obtain ⟨cn, ck, cb, cs, cd⟩ := c
  obtain ⟨N, M⟩ := d
  obtain ⟨hc, hl, hu⟩ : cP (cn, ck, cb, cs, cd) ∧ dP (N, M) := hp _ rfl
  clear hp
  show ∃ o1 : Args [gC, gD, gi, gi] → Option Prop × AV × List Blk, _
  rcases kinds ck with rfl | rfl | rfl | rfl | rfl | rfl | rfl | rfl | rfl | hx
  · exact ⟨_, kStored0_ok, fun q hq => by cases hq; exact ⟨⟨hc, hl, hu⟩, .inl rfl⟩, .refl⟩
  · exact ⟨_, kStored0_ok, fun q hq => by cases hq; exact ⟨⟨hc, hl, hu⟩, .inr (.inl rfl)⟩, .refl⟩
  · exact ⟨_, kStored0_ok, fun q hq => by cases hq; exact ⟨⟨hc, hl, hu⟩, .inr (.inr (.inl rfl))⟩, .refl⟩
  · exact ⟨_, tstored_ok, fun q hq => by cases hq; rfl, .nil (.int .u8) rfl .refl⟩
  · exact ⟨_, pstored_ok, fun q hq => by cases hq; rfl, .nil (.int .u8) rfl .refl⟩
  · exact ⟨_, sstored_ok, fun q hq => by cases hq; rfl, .nil (.int .u8) rfl .refl⟩
  · exact ⟨_, vstored_ok, fun q hq => by cases hq; rfl, .refl⟩
  · exact ⟨_, ostored_ok, fun q hq => by cases hq; rfl, .nil (.int .u8) rfl .refl⟩
  · exact ⟨_, dstoredO_ok, fun q hq => by cases hq; exact ⟨rfl, hl⟩, .refl⟩
  · exact ⟨_, kStored0_ok, fun q hq => by cases hq; exact ⟨⟨hc, hl, hu⟩, .inr (.inr (.inr hx))⟩, .refl⟩

def kGivenS : PSpec := ⟨[gC, gD, gi], fun (c, d, k, _) => (some (cP c ∧ dP d), devM, [.arr (.int .i64) (givF c d k).1, .arr (.int .u8) (givF c d k).2])⟩
theorem kGiven_ok : GoodF Tryz.prog 12 kGivenS.spec := by
  refine GoodF.sel kGiven0_ok fun (c, d, k, _) hp => ?_
  obtain ⟨cn, ck, cb, cs, cd⟩ := c
  obtain ⟨N, M⟩ := d
  obtain ⟨hc, hl, hu⟩ : cP (cn, ck, cb, cs, cd) ∧ dP (N, M) := hp _ rfl
  clear hp
  show ∃ o1 : Args [gC, gD, gi] → Option Prop × AV × List Blk, _
  rcases kinds ck with rfl | rfl | rfl | rfl | rfl | rfl | rfl | rfl | rfl | hx
  · exact ⟨_, kGiven0_ok, fun q hq => by cases hq; exact ⟨⟨hc, hl, hu⟩, (by decide : (0 : Int) ≠ 4 ∧ (0 : Int) ≠ 5 ∧ (0 : Int) ≠ 8)⟩, .refl⟩
  · exact ⟨_, kGiven0_ok, fun q hq => by cases hq; exact ⟨⟨hc, hl, hu⟩, (by decide : (1 : Int) ≠ 4 ∧ (1 : Int) ≠ 5 ∧ (1 : Int) ≠ 8)⟩, .refl⟩
  · exact ⟨_, kGiven0_ok, fun q hq => by cases hq; exact ⟨⟨hc, hl, hu⟩, (by decide : (2 : Int) ≠ 4 ∧ (2 : Int) ≠ 5 ∧ (2 : Int) ≠ 8)⟩, .refl⟩
  · exact ⟨_, kGiven0_ok, fun q hq => by cases hq; exact ⟨⟨hc, hl, hu⟩, (by decide : (3 : Int) ≠ 4 ∧ (3 : Int) ≠ 5 ∧ (3 : Int) ≠ 8)⟩, .refl⟩
  · exact ⟨_, pgiven_ok, fun q hq => by cases hq; rfl, .nil (.int .u8) rfl .refl⟩
  · exact ⟨_, sgiven_ok, fun q hq => by cases hq; rfl, .nil (.int .u8) rfl .refl⟩
  · exact ⟨_, kGiven0_ok, fun q hq => by cases hq; exact ⟨⟨hc, hl, hu⟩, (by decide : (6 : Int) ≠ 4 ∧ (6 : Int) ≠ 5 ∧ (6 : Int) ≠ 8)⟩, .refl⟩
  · exact ⟨_, kGiven0_ok, fun q hq => by cases hq; exact ⟨⟨hc, hl, hu⟩, (by decide : (7 : Int) ≠ 4 ∧ (7 : Int) ≠ 5 ∧ (7 : Int) ≠ 8)⟩, .refl⟩
  · exact ⟨_, dgivenO_ok, fun q hq => by cases hq; exact ⟨rfl, hl⟩, .refl⟩
  · refine ⟨_, kGiven0_ok, fun q hq => by cases hq; exact ⟨⟨hc, hl, hu⟩, kxg hx⟩, ?_⟩
    have e : formF (cn, ck, cb, cs, cd) (N, M) = givF (cn, ck, cb, cs, cd) (N, M) k := by unfold formF givF; rw [sel_x hx, sel_x hx]
    show Conv (devM, [Blk.arr (.int .i64) (formF (cn, ck, cb, cs, cd) (N, M)).1, .arr (.int .u8) (formF (cn, ck, cb, cs, cd) (N, M)).2]) _
    rw [e]
    exact .refl

def kaskF (c : Cv) (d : Dv) : Bool := sel c.2.1 false (decide (tF d.1 = 1) && decide (tC d.1 ≥ 4)) false (sirqF d.1) false false (dirqF d.1) false
def shwF (c : Cv) (d : Dv) : Int := sel c.2.1 0 0 (land .i64 (d.1.getD 1 0 % 256) (d.1.getD 2 0 % 256)) (s6 d.1 * 256 + s7 d.1) (colorF (vM d.2) (vP d.1)) (ooutF d.1) (e1 d.1) 0
def rstF (c : Cv) (d : Dv) : Int := sel c.2.1 100000 (tnextF d.1) 100000 (snextF d.1) (vnextF (vM d.2) (vP d.1)) (onextF d.1) (dnextF d.1) 100000
def kAskingS : PSpec := ⟨[gC, gD], fun (c, d, _) => (some (cP c ∧ dP d), .cell (bv (kaskF c d)), [])⟩
theorem kAsking_ok : GoodF Tryz.prog 14 kAskingS.spec := by
  refine GoodF.sel kAsking0_ok fun (c, d, _) hp => ?_
  obtain ⟨cn, ck, cb, cs, cd⟩ := c
  obtain ⟨N, M⟩ := d
  obtain ⟨hc, hl, hu⟩ : cP (cn, ck, cb, cs, cd) ∧ dP (N, M) := hp _ rfl
  clear hp
  show ∃ o1 : Args [gC, gD] → Option Prop × AV × List Blk, _
  rcases kinds ck with rfl | rfl | rfl | rfl | rfl | rfl | rfl | rfl | rfl | hx
  · exact ⟨_, kAsking0_ok, fun q hq => by cases hq; exact ⟨⟨hc, hl, hu⟩, (by decide : (0 : Int) ≠ 3 ∧ (0 : Int) ≠ 5 ∧ (0 : Int) ≠ 8)⟩, .refl⟩
  · exact ⟨_, kAsking0_ok, fun q hq => by cases hq; exact ⟨⟨hc, hl, hu⟩, (by decide : (1 : Int) ≠ 3 ∧ (1 : Int) ≠ 5 ∧ (1 : Int) ≠ 8)⟩, .refl⟩
  · exact ⟨_, kAsking0_ok, fun q hq => by cases hq; exact ⟨⟨hc, hl, hu⟩, (by decide : (2 : Int) ≠ 3 ∧ (2 : Int) ≠ 5 ∧ (2 : Int) ≠ 8)⟩, .refl⟩
  · exact ⟨_, task_ok, fun q hq => by cases hq; rfl, .refl⟩
  · exact ⟨_, kAsking0_ok, fun q hq => by cases hq; exact ⟨⟨hc, hl, hu⟩, (by decide : (4 : Int) ≠ 3 ∧ (4 : Int) ≠ 5 ∧ (4 : Int) ≠ 8)⟩, .refl⟩
  · exact ⟨_, sask_ok, fun q hq => by cases hq; rfl, .refl⟩
  · exact ⟨_, kAsking0_ok, fun q hq => by cases hq; exact ⟨⟨hc, hl, hu⟩, (by decide : (6 : Int) ≠ 3 ∧ (6 : Int) ≠ 5 ∧ (6 : Int) ≠ 8)⟩, .refl⟩
  · exact ⟨_, kAsking0_ok, fun q hq => by cases hq; exact ⟨⟨hc, hl, hu⟩, (by decide : (7 : Int) ≠ 3 ∧ (7 : Int) ≠ 5 ∧ (7 : Int) ≠ 8)⟩, .refl⟩
  · exact ⟨_, dask_ok, fun q hq => by cases hq; exact ⟨rfl, hl⟩, .refl⟩
  · refine ⟨_, kAsking0_ok, fun q hq => by cases hq; exact ⟨⟨hc, hl, hu⟩, kxa hx⟩, ?_⟩
    have e : kaskF (cn, ck, cb, cs, cd) (N, M) = false := by unfold kaskF; rw [sel_x hx]
    show Conv (AV.cell (bv false), []) (AV.cell (bv (kaskF (cn, ck, cb, cs, cd) (N, M))), [])
    rw [e]
    exact .refl
def kShowsS : PSpec := ⟨[gC, gD], fun (c, d, _) => (some (cP c ∧ dP d), I (shwF c d), [])⟩
theorem kShows_ok : GoodF Tryz.prog 16 kShowsS.spec := by
  refine GoodF.sel kShows0_ok fun (c, d, _) hp => ?_
  obtain ⟨cn, ck, cb, cs, cd⟩ := c
  obtain ⟨N, M⟩ := d
  obtain ⟨hc, hl, hu⟩ : cP (cn, ck, cb, cs, cd) ∧ dP (N, M) := hp _ rfl
  clear hp
  show ∃ o1 : Args [gC, gD] → Option Prop × AV × List Blk, _
  rcases kinds ck with rfl | rfl | rfl | rfl | rfl | rfl | rfl | rfl | rfl | hx
  · exact ⟨_, kShows0_ok, fun q hq => by cases hq; exact ⟨⟨hc, hl, hu⟩, .inl (by decide : (0 : Int) < 4)⟩, .refl⟩
  · exact ⟨_, kShows0_ok, fun q hq => by cases hq; exact ⟨⟨hc, hl, hu⟩, .inl (by decide : (1 : Int) < 4)⟩, .refl⟩
  · exact ⟨_, kShows0_ok, fun q hq => by cases hq; exact ⟨⟨hc, hl, hu⟩, .inl (by decide : (2 : Int) < 4)⟩, .refl⟩
  · exact ⟨_, kShows0_ok, fun q hq => by cases hq; exact ⟨⟨hc, hl, hu⟩, .inl (by decide : (3 : Int) < 4)⟩, .refl⟩
  · exact ⟨_, pshows_ok, fun q hq => by cases hq; rfl, .refl⟩
  · exact ⟨_, sshows_ok, fun q hq => by cases hq; rfl, .refl⟩
  · exact ⟨_, vshows_ok, fun q hq => by cases hq; exact ⟨rfl, hu⟩, .refl⟩
  · exact ⟨_, oshows_ok, fun q hq => by cases hq; rfl, .refl⟩
  · exact ⟨_, dshows_ok, fun q hq => by cases hq; exact ⟨rfl, hl⟩, .refl⟩
  · refine ⟨_, kShows0_ok, fun q hq => by cases hq; exact ⟨⟨hc, hl, hu⟩, kxs hx⟩, ?_⟩
    have e : shwF (cn, ck, cb, cs, cd) (N, M) = 0 := by unfold shwF; rw [sel_x hx]
    show Conv (I 0, []) (I (shwF (cn, ck, cb, cs, cd) (N, M)), [])
    rw [e]
    exact .refl
def kRestsS : PSpec := ⟨[gC, gD], fun (c, d, _) => (some (cP c ∧ dP d), I (rstF c d), [])⟩
theorem kRests_ok : GoodF Tryz.prog 18 kRestsS.spec := by
  refine GoodF.sel kRests0_ok fun (c, d, _) hp => ?_
  obtain ⟨cn, ck, cb, cs, cd⟩ := c
  obtain ⟨N, M⟩ := d
  obtain ⟨hc, hl, hu⟩ : cP (cn, ck, cb, cs, cd) ∧ dP (N, M) := hp _ rfl
  clear hp
  show ∃ o1 : Args [gC, gD] → Option Prop × AV × List Blk, _
  rcases kinds ck with rfl | rfl | rfl | rfl | rfl | rfl | rfl | rfl | rfl | hx
  · exact ⟨_, kRests0_ok, fun q hq => by cases hq; exact ⟨⟨hc, hl, hu⟩, .inl (by decide : (0 : Int) < 3)⟩, .refl⟩
  · exact ⟨_, kRests0_ok, fun q hq => by cases hq; exact ⟨⟨hc, hl, hu⟩, .inl (by decide : (1 : Int) < 3)⟩, .refl⟩
  · exact ⟨_, kRests0_ok, fun q hq => by cases hq; exact ⟨⟨hc, hl, hu⟩, .inl (by decide : (2 : Int) < 3)⟩, .refl⟩
  · exact ⟨_, trests_ok, fun q hq => by cases hq; rfl, .refl⟩
  · exact ⟨_, kRests0_ok, fun q hq => by cases hq; exact ⟨⟨hc, hl, hu⟩, .inr (.inl rfl)⟩, .refl⟩
  · exact ⟨_, srests_ok, fun q hq => by cases hq; rfl, .refl⟩
  · exact ⟨_, vrests_ok, fun q hq => by cases hq; exact ⟨rfl, hu⟩, .refl⟩
  · exact ⟨_, orests_ok, fun q hq => by cases hq; rfl, .refl⟩
  · exact ⟨_, drests_ok, fun q hq => by cases hq; exact ⟨rfl, hl⟩, .refl⟩
  · refine ⟨_, kRests0_ok, fun q hq => by cases hq; exact ⟨⟨hc, hl, hu⟩, kx3 hx⟩, ?_⟩
    have e : rstF (cn, ck, cb, cs, cd) (N, M) = 100000 := by unfold rstF; rw [sel_x hx]
    show Conv (I 100000, []) (I (rstF (cn, ck, cb, cs, cd) (N, M)), [])
    rw [e]
    exact .refl

-- the program's side

theorem skip_giv {c : Cv} (d : Dv) (k : Int) (h : c.2.1 ≠ 4 ∧ c.2.1 ≠ 5 ∧ c.2.1 ≠ 8) : skipF c d 0 = givF c d k := by
  obtain ⟨cn, ck, cb, cs, cd⟩ := c
  obtain ⟨N, M⟩ := d
  obtain ⟨h4, h5, h8⟩ := h
  rcases kinds ck with rfl | rfl | rfl | rfl | rfl | rfl | rfl | rfl | rfl | hx
  all_goals first
    | exact absurd rfl h4
    | exact absurd rfl h5
    | exact absurd rfl h8
    | rfl
    | (unfold skipF givF; rw [sel_x hx, sel_x hx])
def cInS : PSpec := ⟨[gC, gD, gi], fun (c, d, k, _) => (some (cP c ∧ dP d), devM, [.arr (.int .i64) (givF c d k).1, .arr (.int .u8) (givF c d k).2])⟩
theorem cIn_ok : GoodF Tryz.prog 11 cInS.spec := by
  have hT := tab_ok (fs := [(50, pinOS.spec), (51, sinOS.spec), (52, dchangeS.spec), (53, cSkipS.spec)]) tree_ok
  have hP : SpecsOk Tryz.prog (tab tree [(50, pinOS.spec), (51, sinOS.spec), (52, dchangeS.spec), (53, cSkipS.spec)]) := specs_cons pinO_ok (specs_cons sinO_ok (specs_cons dchange_ok (specs_cons cSkip_ok specs_nil)))
  refine cInS.good (fn := Tryz.f11) hT hP Tryz.func11 (by kernel_rfl) rfl fun (c : Cv) (d : Dv) (k : Int) hp => ?_
  obtain ⟨cn, ck, cb, cs, cd⟩ := c
  obtain ⟨N, M⟩ := d
  obtain ⟨hc, hl, hu⟩ : cP (cn, ck, cb, cs, cd) ∧ dP (N, M) := hp _ rfl
  clear hp
  rcases kinds ck with rfl | rfl | rfl | rfl | rfl | rfl | rfl | rfl | rfl | hx
  all_goals
    repeat' first
      | (refine Go.mk ?_; conv => whnf)
      | refine Need.go ?_ ?_
      | refine NilG.go (fun _ => ?_) (fun _ => ?_)
      | refine Br.dec (fun _ => ?_) (fun _ => ?_)
      | refine Br.go (fun _ => ?_) (fun _ => ?_)
      | refine draw_go hT hP mixed ?_
      | refine round_go hT hP ?_
    all_goals (try dsimp only [castL_eq] at *)
  all_goals first
    | exact ⟨hc, ⟨hl, hu⟩, by decide⟩
    | exact hl
    | exact .mk [] [3, 4] _ rfl rfl rfl rfl rfl rfl rfl
    | (exfalso; omega)
    | exact .mk [] [3, 4] _ rfl rfl rfl rfl rfl (blk_dv (skip_giv (c := (cn, ck, cb, cs, cd)) (N, M) k (kxg hx))) rfl
    | skip

def cIrqS : PSpec := ⟨[gC, gD], fun (c, d, _) => (some (cP c ∧ dP d), .cell (bv (kaskF c d)), [])⟩
theorem cIrq_ok : GoodF Tryz.prog 13 cIrqS.spec := by
  have hT := tab_ok (fs := [(54, tirqS.spec), (55, sirqS.spec), (56, dirqS.spec)]) tree_ok
  have hP : SpecsOk Tryz.prog (tab tree [(54, tirqS.spec), (55, sirqS.spec), (56, dirqS.spec)]) := specs_cons tirq_ok (specs_cons sirq_ok (specs_cons dirq_ok specs_nil))
  refine cIrqS.good (fn := Tryz.f13) hT hP Tryz.func13 (by kernel_rfl) rfl fun (c : Cv) (d : Dv) hp => ?_
  obtain ⟨cn, ck, cb, cs, cd⟩ := c
  obtain ⟨N, M⟩ := d
  obtain ⟨hc, hl, hu⟩ : cP (cn, ck, cb, cs, cd) ∧ dP (N, M) := hp _ rfl
  clear hp
  rcases kinds ck with rfl | rfl | rfl | rfl | rfl | rfl | rfl | rfl | rfl | hx
  all_goals
    repeat' first
      | (refine Go.mk ?_; conv => whnf)
      | refine Need.go ?_ ?_
      | refine NilG.go (fun _ => ?_) (fun _ => ?_)
      | refine Br.dec (fun _ => ?_) (fun _ => ?_)
      | refine Br.go (fun _ => ?_) (fun _ => ?_)
      | refine draw_go hT hP mixed ?_
      | refine round_go hT hP ?_
    all_goals (try dsimp only [castL_eq] at *)
  all_goals first
    | exact hl
    | exact .mk [] [] _ rfl rfl rfl rfl rfl rfl rfl
    | (exfalso; omega)
    | (refine .mk [] [] _ rfl rfl rfl rfl rfl rfl (imm_bool ?_); show false = kaskF (cn, ck, cb, cs, cd) (N, M); unfold kaskF; rw [sel_x hx])
    | skip
def cOutS : PSpec := ⟨[gC, gD], fun (c, d, _) => (some (cP c ∧ dP d), I (shwF c d), [])⟩
theorem cOut_ok : GoodF Tryz.prog 15 cOutS.spec := by
  have hT := tab_ok (fs := [(57, poutS.spec), (58, soutS.spec), (59, voutS.spec), (60, ooutS.spec), (61, doutS.spec)]) tree_ok
  have hP : SpecsOk Tryz.prog (tab tree [(57, poutS.spec), (58, soutS.spec), (59, voutS.spec), (60, ooutS.spec), (61, doutS.spec)]) := specs_cons pout_ok (specs_cons sout_ok (specs_cons vout_ok (specs_cons oout_ok (specs_cons dout_ok specs_nil))))
  refine cOutS.good (fn := Tryz.f15) hT hP Tryz.func15 (by kernel_rfl) rfl fun (c : Cv) (d : Dv) hp => ?_
  obtain ⟨cn, ck, cb, cs, cd⟩ := c
  obtain ⟨N, M⟩ := d
  obtain ⟨hc, hl, hu⟩ : cP (cn, ck, cb, cs, cd) ∧ dP (N, M) := hp _ rfl
  clear hp
  rcases kinds ck with rfl | rfl | rfl | rfl | rfl | rfl | rfl | rfl | rfl | hx
  all_goals
    repeat' first
      | (refine Go.mk ?_; conv => whnf)
      | refine Need.go ?_ ?_
      | refine NilG.go (fun _ => ?_) (fun _ => ?_)
      | refine Br.dec (fun _ => ?_) (fun _ => ?_)
      | refine Br.go (fun _ => ?_) (fun _ => ?_)
      | refine draw_go hT hP mixed ?_
      | refine round_go hT hP ?_
    all_goals (try dsimp only [castL_eq] at *)
  all_goals first
    | exact hl
    | exact hu
    | exact .mk [] [] _ rfl rfl rfl rfl rfl rfl rfl
    | (exfalso; omega)
    | (refine .mk [] [] _ rfl rfl rfl rfl rfl rfl (imm_int ?_); show 0 = shwF (cn, ck, cb, cs, cd) (N, M); unfold shwF; rw [sel_x hx])
    | skip
def cNextS : PSpec := ⟨[gC, gD], fun (c, d, _) => (some (cP c ∧ dP d), I (rstF c d), [])⟩
theorem cNext_ok : GoodF Tryz.prog 17 cNextS.spec := by
  have hT := tab_ok (fs := [(63, tnextS.spec), (64, snextS.spec), (65, vnextS.spec), (66, onextS.spec), (67, dnextS.spec)]) tree_ok
  have hP : SpecsOk Tryz.prog (tab tree [(63, tnextS.spec), (64, snextS.spec), (65, vnextS.spec), (66, onextS.spec), (67, dnextS.spec)]) := specs_cons tnext_ok (specs_cons snext_ok (specs_cons vnext_ok (specs_cons onext_ok (specs_cons dnext_ok specs_nil))))
  refine cNextS.good (fn := Tryz.f17) hT hP Tryz.func17 (by kernel_rfl) rfl fun (c : Cv) (d : Dv) hp => ?_
  obtain ⟨cn, ck, cb, cs, cd⟩ := c
  obtain ⟨N, M⟩ := d
  obtain ⟨hc, hl, hu⟩ : cP (cn, ck, cb, cs, cd) ∧ dP (N, M) := hp _ rfl
  clear hp
  rcases kinds ck with rfl | rfl | rfl | rfl | rfl | rfl | rfl | rfl | rfl | hx
  all_goals
    repeat' first
      | (refine Go.mk ?_; conv => whnf)
      | refine Need.go ?_ ?_
      | refine NilG.go (fun _ => ?_) (fun _ => ?_)
      | refine Br.dec (fun _ => ?_) (fun _ => ?_)
      | refine Br.go (fun _ => ?_) (fun _ => ?_)
      | refine draw_go hT hP mixed ?_
      | refine round_go hT hP ?_
    all_goals (try dsimp only [castL_eq] at *)
  all_goals first
    | exact hl
    | exact hu
    | exact .mk [] [] _ rfl rfl rfl rfl rfl rfl rfl
    | (exfalso; omega)
    | (refine .mk [] [] _ rfl rfl rfl rfl rfl rfl (imm_int ?_); show 100000 = rstF (cn, ck, cb, cs, cd) (N, M); unfold rstF; rw [sel_x hx])
    | skip

end Go.Proofs.YtblnigjmcjpopaaGreat

/- bakelaw1.ChipActs answers true, whatever it is given. -/
namespace Go.Proofs.YtblnigjmcjpopaaGreat
open Go.Fw
set_option linter.unusedVariables false
set_option linter.unusedSimpArgs false
set_option linter.constructorNameAsVariable false
set_option maxRecDepth 100000

def smallD (x : Dv) : Prop := List.length x.1 ≤ 4611686018427387904 ∧ List.length x.2 ≤ 4611686018427387904
theorem small_of {l m : List Int} (h : l.length ≤ 4611686018427387904) (h2 : m.length ≤ 4611686018427387904) : smallD (l, m) := ⟨h, h2⟩
theorem memN_le (c : Cv) (N : List Int) : (memN c N).length ≤ 1 := by
  unfold memN; split <;> (show _ ≤ 1; simp)
theorem memD_small {c : Cv} (h : cP c) (N M : List Int) : smallD (memN c N, memM c M) :=
  ⟨Nat.le_trans (memN_le c N) (by decide), Nat.le_trans (memM_le h M) (by decide)⟩
theorem memWr_small {c : Cv} (h : cP c) (d : Dv) (a k : Int) : smallD (memWr c d a k) := by
  have h1 := memN_le c d.1
  have h2 := memM_le h d.2
  unfold memWr
  split
  · exact memD_small h _ _
  · split
    · refine ⟨Nat.le_trans h1 (by decide), ?_⟩
      show ((memM c d.2).set _ _).length ≤ _
      rw [List.length_set]; omega
    · split
      · refine ⟨?_, Nat.le_trans h2 (by decide)⟩
        show ((memN c d.1).set _ _).length ≤ _
        rw [List.length_set]; omega
      · exact memD_small h _ _
theorem dM_small {M : List Int} (h : M.length ≤ 140737488355328) : (dM M).length ≤ 4611686018427387904 := by
  have := qF_le M
  rw [dM_len]; omega
theorem loadD_small {c : Cv} {d : Dv} (hc : cP c) (hd : dP d) (a : Int) : smallD (loadD c d a) := by
  obtain ⟨cn, ck, cb, cs, cd⟩ := c
  obtain ⟨N, M⟩ := d
  obtain ⟨hl, hu⟩ := hd
  rcases kinds ck with rfl | rfl | rfl | rfl | rfl | rfl | rfl | rfl | rfl | hx
  · exact memD_small (c := (cn, 0, cb, cs, cd)) hc N M
  · exact memD_small (c := (cn, 1, cb, cs, cd)) hc N M
  · exact memD_small (c := (cn, 2, cb, cs, cd)) hc N M
  · exact ⟨(by decide : 4 ≤ 4611686018427387904), Nat.zero_le _⟩
  · exact ⟨(by decide : 3 ≤ 4611686018427387904), Nat.zero_le _⟩
  · exact ⟨(by decide : 8 ≤ 4611686018427387904), Nat.zero_le _⟩
  · refine ⟨(by decide : 2 ≤ 4611686018427387904), ?_⟩
    show (vM M).length ≤ _
    rw [vM_len]; decide
  · refine ⟨?_, Nat.zero_le _⟩
    show (sndN N).length ≤ _
    unfold sndN
    rw [List.length_append, (vo_ok _ 0).len, (vo_ok _ 6).len]; decide
  · exact ⟨(by decide : 10 ≤ 4611686018427387904), dM_small hl⟩
  · unfold loadD; rw [sel_x hx]; exact ⟨Nat.zero_le _, Nat.zero_le _⟩
theorem dN_small (N : List Int) (q : Nat) : (dN N q).length ≤ 4611686018427387904 := by
  unfold dN
  split <;> exact (by decide : 10 ≤ 4611686018427387904)
theorem givF_small {c : Cv} {d : Dv} (hc : cP c) (hd : dP d) (k : Int) : smallD (givF c d k) := by
  obtain ⟨cn, ck, cb, cs, cd⟩ := c
  obtain ⟨N, M⟩ := d
  obtain ⟨hl, hu⟩ := hd
  rcases kinds ck with rfl | rfl | rfl | rfl | rfl | rfl | rfl | rfl | rfl | hx
  · exact memD_small (c := (cn, 0, cb, cs, cd)) hc N M
  · exact memD_small (c := (cn, 1, cb, cs, cd)) hc N M
  · exact memD_small (c := (cn, 2, cb, cs, cd)) hc N M
  · exact ⟨(by decide : 4 ≤ 4611686018427387904), Nat.zero_le _⟩
  · exact ⟨(by decide : 3 ≤ 4611686018427387904), Nat.zero_le _⟩
  · exact ⟨(by decide : 8 ≤ 4611686018427387904), Nat.zero_le _⟩
  · refine ⟨(by decide : 2 ≤ 4611686018427387904), ?_⟩
    show (vM M).length ≤ _
    rw [vM_len]; decide
  · refine ⟨?_, Nat.zero_le _⟩
    show (sndN N).length ≤ _
    unfold sndN
    rw [List.length_append, (vo_ok _ 0).len, (vo_ok _ 6).len]; decide
  · refine ⟨?_, dM_small hl⟩
    show (dcN N (qF M) k).length ≤ _
    unfold dcN
    split
    · exact (by decide : 10 ≤ 4611686018427387904)
    · exact dN_small _ _
  · unfold givF; rw [sel_x hx]; exact ⟨Nat.zero_le _, Nat.zero_le _⟩
theorem storeF_small {c : Cv} {d : Dv} (hc : cP c) (hd : dP d) (a k : Int) : smallD (storeF c d a k) := by
  obtain ⟨cn, ck, cb, cs, cd⟩ := c
  obtain ⟨N, M⟩ := d
  obtain ⟨hl, hu⟩ := hd
  rcases kinds ck with rfl | rfl | rfl | rfl | rfl | rfl | rfl | rfl | rfl | hx
  · exact memWr_small (c := (cn, 0, cb, cs, cd)) hc (N, M) a k
  · exact memWr_small (c := (cn, 1, cb, cs, cd)) hc (N, M) a k
  · exact memWr_small (c := (cn, 2, cb, cs, cd)) hc (N, M) a k
  · refine ⟨?_, Nat.zero_le _⟩
    show (twN N a k).length ≤ _
    unfold twN
    repeat' split
    all_goals exact (by decide : 4 ≤ 4611686018427387904)
  · exact ⟨(by decide : 3 ≤ 4611686018427387904), Nat.zero_le _⟩
  · refine ⟨?_, Nat.zero_le _⟩
    show (swN N a k).length ≤ _
    unfold swN
    repeat' split
    all_goals exact (by decide : 8 ≤ 4611686018427387904)
  · refine ⟨(by decide : 2 ≤ 4611686018427387904), ?_⟩
    show (vwM (vM M) a k).length ≤ _
    unfold vwM
    split
    · rw [List.length_set, vM_len]; decide
    · rw [vM_len]; decide
  · refine ⟨?_, Nat.zero_le _⟩
    show (owF N a k).length ≤ _
    have hs : (sndN N).length ≤ 4611686018427387904 := by
      unfold sndN
      rw [List.length_append, (vo_ok _ 0).len, (vo_ok _ 6).len]; decide
    unfold owF
    repeat' split
    all_goals (try simp only [List.length_set])
    all_goals exact hs
  · refine ⟨?_, dM_small hl⟩
    show (dwN N (qF M) a k).length ≤ _
    rw [dwN_len]; decide
  · unfold storeF; rw [sel_x hx]; exact ⟨Nat.zero_le _, Nat.zero_le _⟩

def cactS : PSpec := ⟨[gC, gD, gi, gi], fun (c, d, a, k, _) => (some (cP c ∧ dP d), .cell (bv true), [])⟩
set_option maxHeartbeats 1000000 in
theorem cacts_ok : GoodF Tryz.prog 3 cactS.spec := by
  have hT := tab_ok (fs := [(5, chipsS.spec), (8, sameS.spec), (6, cReadS.spec), (7, kLoadedS.spec), (9, cWriteS.spec), (10, kStoredS.spec), (11, cInS.spec), (12, kGivenS.spec), (13, cIrqS.spec), (14, kAskingS.spec), (15, cOutS.spec), (16, kShowsS.spec), (17, cNextS.spec), (18, kRestsS.spec)]) tree_ok
  have hP : SpecsOk Tryz.prog (tab tree [(5, chipsS.spec), (8, sameS.spec), (6, cReadS.spec), (7, kLoadedS.spec), (9, cWriteS.spec), (10, kStoredS.spec), (11, cInS.spec), (12, kGivenS.spec), (13, cIrqS.spec), (14, kAskingS.spec), (15, cOutS.spec), (16, kShowsS.spec), (17, cNextS.spec), (18, kRestsS.spec)]) := specs_cons chips_ok (specs_cons same_ok (specs_cons cRead_ok (specs_cons kLoaded_ok (specs_cons cWrite_ok (specs_cons kStored_ok (specs_cons cIn_ok (specs_cons kGiven_ok (specs_cons cIrq_ok (specs_cons kAsking_ok (specs_cons cOut_ok (specs_cons kShows_ok (specs_cons cNext_ok (specs_cons kRests_ok specs_nil)))))))))))))
  refine cactS.good (fn := Tryz.f3) hT hP Tryz.func3 (by kernel_rfl) rfl fun (c : Cv) (d : Dv) (a k : Int) hp => ?_
  obtain ⟨hc, hd⟩ : cP c ∧ dP d := hp _ rfl
  clear hp
  have l1 := loadD_small hc hd a
  have l2 := storeF_small hc hd a k
  have l3 := givF_small hc hd k
  obtain ⟨cn, ck, cb, cs, cd⟩ := c
  obtain ⟨N, M⟩ := d
  repeat' first
    | (exfalso; rename_i g; exact g rfl)
    | (refine Go.mk ?_; conv => whnf)
    | refine Need.go ?_ ?_
    | refine NilG.go (fun _ => ?_) (fun _ => ?_)
    | refine Br.dec (fun _ => ?_) (fun _ => ?_)
    | refine Br.go (fun _ => ?_) (fun _ => ?_)
    | refine draw_go hT hP mixed ?_
    | refine round_go hT hP ?_
  all_goals (try dsimp only [castL_eq] at *)
  all_goals first
    | exact ⟨hc, hd⟩
    | exact l1
    | exact l2
    | exact l3
    | (exfalso; rename_i g; revert g; simp; done)
    | (refine .mk [] [] _ rfl rfl rfl rfl rfl rfl (imm_bool ?_)
       simp)
    | skip

end Go.Proofs.YtblnigjmcjpopaaGreat

/- States of machines: copied, compared. -/
namespace Go.Proofs.YtblnigjmcjpopaaGreat
open Go.Fw
set_option linter.unusedVariables false
set_option linter.unusedSimpArgs false
set_option linter.constructorNameAsVariable false
set_option maxRecDepth 100000

def machO (m : Mach) (b : Nat) : AV := .agg [iv .i64 m.1, .run .i64 9 m.2.1.1, iv .i64 m.2.1.2.1, iv .i64 m.2.1.2.2.1, bv m.2.1.2.2.2, .own b, iv .i64 m.2.2.2.1, iv .i64 m.2.2.2.2.1, iv .i64 m.2.2.2.2.2]
def okDs (l : List Dv) : Prop := l.length * 48 ≤ 140737488351232 ∧ ∀ x ∈ l, List.length x.1 * 8 ≤ 140737488351232 ∧ List.length x.2 * 1 ≤ 140737488351232
def mcopyS : PSpec := ⟨[gM], fun (m, _) => (some (okDs m.2.2.1), machO m 0, [.arr DevT m.2.2.1])⟩
theorem mcopy_ok : GoodF Tryz.prog 73 mcopyS.spec := by
  have hT := tab_ok (fs := [(26, clDevS.spec), (116, clIntS.spec), (117, clByteS.spec)]) tree_ok
  have hP : SpecsOk Tryz.prog (tab tree [(26, clDevS.spec), (116, clIntS.spec), (117, clByteS.spec)]) := specs_cons clDev_ok (specs_cons clInt_ok (specs_cons clByte_ok specs_nil))
  refine mcopyS.good (fn := Tryz.f73) hT hP Tryz.func73 (by kernel_rfl) rfl fun (m : Mach) hq => ?_
  obtain ⟨h1, h2⟩ : okDs m.2.2.1 := hq _ rfl
  clear hq
  obtain ⟨tm, ⟨r, op, at_, nmi⟩, ds, bd, ba, bdt⟩ := m
  have h1 : ds.length * 48 ≤ 140737488351232 := h1
  have h2 : ∀ x ∈ ds, List.length x.1 * 8 ≤ 140737488351232 ∧ List.length x.2 * 1 ≤ 140737488351232 := h2
  repeat' first
    | (refine Go.mk ?_; conv => whnf)
    | refine Need.go ?_ ?_
    | refine NilG.go (fun _ => ?_) (fun _ => ?_)
    | refine Br.dec (fun _ => ?_) (fun _ => ?_)
    | refine Br.go (fun _ => ?_) (fun _ => ?_)
    | refine draw_go hT hP mixed ?_
    | refine round_go hT hP ?_
  all_goals (try dsimp only [castL_eq] at *)
  · exact h1
  refine up_go hT hP (A := Unit) ds.length (fun i _ => St.mk [.dead, .cell (.ptr 0 0), .cell (.ptr 1 0), .dead, .dead, .dead, .dead, .dead, .dead, .dead, .cell (.own 2), I ds.length, I i, .dead, .dead, .dead, .dead, .dead, .dead, .dead, .dead, .dead, .dead, .dead, .dead, .dead, .dead, .dead, .dead, .dead]
      [some (.var [.imm (.int .i64 tm), .run .i64 9 r, .imm (.int .i64 op), .imm (.int .i64 at_), .imm (.bool nmi), .own 2, .imm (.int .i64 bd), .imm (.int .i64 ba), .imm (.int .i64 bdt)]),
       some (.var [.imm (.int .i64 0), .run .i64 9 (List.replicate 9 0), .imm (.int .i64 0), .imm (.int .i64 0), .imm (.bool false), .imm (.slice none 0 0), .imm (.int .i64 0), .imm (.int .i64 0), .imm (.int .i64 0)]), some (.arr DevT ds)])
    (fun k _ => True) () (Le.mk [] [0, 1, 2] rfl rfl ?_ ?_) trivial fun k _ hk _ => ?_
  · exact rfl
  · repeat' first | exact trivial | exact ⟨rfl, rfl⟩ | refine And.intro ?_ ?_
  repeat' first
    | (refine Go.mk ?_; conv => whnf)
    | refine Need.go ?_ ?_
    | refine NilG.go (fun _ => ?_) (fun _ => ?_)
    | refine Br.dec (fun _ => ?_) (fun _ => ?_)
    | refine Br.go (fun _ => ?_) (fun _ => ?_)
    | refine draw_go hT hP mixed ?_
    | refine round_go hT hP ?_
  all_goals (try dsimp only [castL_eq] at *)
  all_goals clear hT hP
  · rename_i g
    show 0 ≤ (k : Int) ∧ (k : Int) < (ds.length : Int)
    omega
  · rename_i g
    show k < ds.length
    omega
  · rename_i g
    exact (h2 _ (memD' (dflt DevT) (show k < ds.length by omega))).1
  · rename_i g
    exact (h2 _ (memD' (dflt DevT) (show k < ds.length by omega))).2
  · rename_i g
    show 0 ≤ (k : Int) ∧ (k : Int) < (ds.length : Int)
    omega
  · rename_i g
    show k < ds.length
    omega
  · rename_i g
    have g1 : (k : Int) < (ds.length : Int) := g
    apply Exists.intro
    apply Exists.intro ()
    refine And.intro (And.intro ?lt (And.intro ?ei trivial)) (Le.mk [] [0, 1, 2] rfl rfl ?hh ?ht)
    case hh => exact congrArg (fun z => [some (.var [.imm (.int .i64 tm), .run .i64 9 r, .imm (.int .i64 op), .imm (.int .i64 at_), .imm (.bool nmi), .own 2, .imm (.int .i64 bd), .imm (.int .i64 ba), .imm (.int .i64 bdt)]),
       some (.var [.imm (.int .i64 0), .run .i64 9 (List.replicate 9 0), .imm (.int .i64 0), .imm (.int .i64 0), .imm (.bool false), .imm (.slice none 0 0), .imm (.int .i64 0), .imm (.int .i64 0), .imm (.int .i64 0)]), some (Blk.arr DevT z)]) (setD_self ds k (dflt DevT))
    case ht => repeat' first | exact trivial | exact ⟨rfl, rfl⟩ | refine And.intro ?_ ?_
    case lt => omega
    case ei => exact up_i (by omega)
  · exact .mk [] [2] _ rfl rfl rfl rfl rfl rfl rfl

-- compared

noncomputable def sameM (m n : Mach) : Bool := eqB m n
def okSm (m : Mach) : Prop := m.2.1.1.length = 9 ∧ m.2.2.1.length ≤ 4611686018427387904 ∧ ∀ x ∈ m.2.2.1, okDev x
noncomputable def msameS : PSpec := ⟨[gM, gM], fun (m, n, _) => (some (okSm m ∧ n.2.1.1.length = 9), .cell (bv (sameM m n)), [])⟩
theorem msame_ok : GoodF Tryz.prog 20 msameS.spec := by
  have hT := tab_ok (fs := [(70, eqDevsS.spec)]) tree_ok
  have hP : SpecsOk Tryz.prog (tab tree [(70, eqDevsS.spec)]) := specs_cons eqDevs_ok specs_nil
  refine msameS.good (fn := Tryz.f20) hT hP Tryz.func20 (by kernel_rfl) rfl fun (m n : Mach) hq => ?_
  obtain ⟨⟨h9, h1, h2⟩, h9'⟩ : okSm m ∧ n.2.1.1.length = 9 := hq _ rfl
  clear hq
  obtain ⟨tm, ⟨r, op, at_, nmi⟩, ds, bd, ba, bdt⟩ := m
  obtain ⟨tm', ⟨r', op', at', nmi'⟩, ds', bd', ba', bdt'⟩ := n
  repeat' first
    | (refine Go.mk ?_; conv => whnf)
    | refine Need.go ?_ ?_
    | refine NilG.go (fun _ => ?_) (fun _ => ?_)
    | refine Br.dec (fun _ => ?_) (fun _ => ?_)
    | refine Br.go (fun _ => ?_) (fun _ => ?_)
    | refine draw_go hT hP mixed ?_
    | refine round_go hT hP ?_
  all_goals (try dsimp only [castL_eq] at *)
  all_goals clear hT hP
  · exact ⟨rfl, h1, h2⟩
  · rename_i g1 g2 g3
    have e1 : tm = tm' := g1
    have e2 := denEq_eq (u := ((Ty.ints IntKind.i64 9).pair ((Ty.int IntKind.i64).pair ((Ty.int IntKind.i64).pair Ty.bool)))) (x := (r, op, at_, nmi)) (y := (r', op', at', nmi')) rfl g2
    have e3 := denEq_eq (u := ((Ty.int IntKind.i64).pair ((Ty.int IntKind.i64).pair (Ty.int IntKind.i64)))) (x := (bd, ba, bdt)) (y := (bd', ba', bdt')) rfl g3
    refine .mk [] [] _ rfl rfl rfl rfl rfl rfl (imm_bool ?_)
    show eqB ds ds' = eqB ((tm, (r, op, at_, nmi), ds, bd, ba, bdt) : Mach) (tm', (r', op', at', nmi'), ds', bd', ba', bdt')
    rw [e2, e1]
    obtain ⟨f1, f2, f3⟩ : bd = bd' ∧ ba = ba' ∧ bdt = bdt' := by simpa using e3
    rw [f1, f2, f3]
    by_cases e : ds = ds'
    · rw [e, eqB_t rfl, eqB_t rfl]
    · rw [eqB_f e, eqB_f (fun h => e (by injection h with _ h; injection h with _ h; injection h with h _))]
  · rename_i g1 g2 g3
    refine .mk [] [] _ rfl rfl rfl rfl rfl rfl (imm_bool ?_)
    refine (eqB_f (fun h => ?_)).symm
    have g3 : denEq ((Ty.int IntKind.i64).pair ((Ty.int IntKind.i64).pair (Ty.int IntKind.i64))) (bd, ba, bdt) (bd', ba', bdt') = false := g3
    injection h with _ h; injection h with _ h; injection h with _ h
    rw [h, denEq_self rfl] at g3; cases g3
  · rename_i g1 g2
    refine .mk [] [] _ rfl rfl rfl rfl rfl rfl (imm_bool ?_)
    refine (eqB_f (fun h => ?_)).symm
    have g2 : denEq ((Ty.ints IntKind.i64 9).pair ((Ty.int IntKind.i64).pair ((Ty.int IntKind.i64).pair Ty.bool))) (r, op, at_, nmi) (r', op', at', nmi') = false := g2
    injection h with _ h; injection h with h _
    rw [h, denEq_self rfl] at g2; cases g2
  · rename_i g1
    refine .mk [] [] _ rfl rfl rfl rfl rfl rfl (imm_bool ?_)
    refine (eqB_f (fun h => ?_)).symm
    injection h with h _
    exact g1 h

-- the same bytes

noncomputable def rEqualS : PSpec := ⟨[gM, gM], fun (m, n, _) => (some ((packP m ∧ memU m) ∧ packP n ∧ memU n), .cell (bv (sameM m n)), [])⟩
theorem pack_same {m n : Mach} (hm : packP m ∧ memU m) (hn : packP n ∧ memU n) : strEq (strOf (packF m)) (strOf (packF n)) = sameM m n := by
  by_cases e : m = n
  · subst e
    show strEq _ _ = eqB m m
    rw [eqB_t rfl]
    exact (Lib.bytes_beq_iff _ _).2 rfl
  · show strEq _ _ = eqB m n
    rw [eqB_f e, Bool.eq_false_iff]
    intro h
    exact e (packF_inj hm.1.2.2.1 hn.1.2.2.1 (strOf_inj (packF_u8 hm.2) (packF_u8 hn.2) ((Lib.bytes_beq_iff _ _).1 h)))
theorem rEqual_ok : GoodF Tryz.prog 21 rEqualS.spec := by
  have hT := tab_ok (fs := [(72, packS.spec)]) tree_ok
  have hP : SpecsOk Tryz.prog (tab tree [(72, packS.spec)]) := specs_cons packed_ok specs_nil
  refine rEqualS.good (fn := Tryz.f21) hT hP Tryz.func21 (by kernel_rfl) rfl fun (m n : Mach) hq => ?_
  obtain ⟨hm, hn⟩ : (packP m ∧ memU m) ∧ packP n ∧ memU n := hq _ rfl
  clear hq
  have e := pack_same hm hn
  obtain ⟨tm, ⟨r, op, at_, nmi⟩, ds, bd, ba, bdt⟩ := m
  obtain ⟨tm', ⟨r', op', at', nmi'⟩, ds', bd', ba', bdt'⟩ := n
  repeat' first
    | (refine Go.mk ?_; conv => whnf)
    | refine Need.go ?_ ?_
    | refine NilG.go (fun _ => ?_) (fun _ => ?_)
    | refine Br.dec (fun _ => ?_) (fun _ => ?_)
    | refine Br.go (fun _ => ?_) (fun _ => ?_)
    | refine draw_go hT hP mixed ?_
    | refine round_go hT hP ?_
  all_goals (try dsimp only [castL_eq] at *)
  all_goals clear hT hP
  · exact hm.1
  · exact hn.1
  · exact .mk [] [] _ rfl rfl rfl rfl rfl rfl (imm_bool e)

end Go.Proofs.YtblnigjmcjpopaaGreat

/- Addresses of a machine read and written. -/
namespace Go.Proofs.YtblnigjmcjpopaaGreat
open Go.Fw
set_option linter.unusedVariables false
set_option linter.unusedSimpArgs false
set_option linter.constructorNameAsVariable false
set_option maxRecDepth 100000

def adI (a : Int) : Int := a % 2 ^ Int.toNat 16
theorem adI_eq (a : Int) : adI a = a % 65536 := rfl
theorem adI_in (a : Int) : 0 ≤ adI a ∧ adI a < 65536 := by rw [adI_eq]; omega
def fI (b : Bd) (a : Int) : Int := if 0 ≤ findF b a then findF b a else 0
def hasF (b : Bd) (a : Int) : Bool := decide (0 ≤ findF b a)
theorem hasF_t {b : Bd} {a : Int} (h : (!hasF b a) = false) : (0 ≤ findF b a ∧ findF b a < b.2.2.1.length) ∧ fI b a = findF b a := by
  have h1 : 0 ≤ findF b a := by
    by_cases h1 : 0 ≤ findF b a
    · exact h1
    · unfold hasF at h; rw [decide_eq_false h1] at h; cases h
  have hF : findF b a = -1 ∨ (0 ≤ findF b a ∧ findF b a < b.2.2.1.length) := fstI_in (ownB a) b.2.2.1
  exact ⟨by omega, if_pos h1⟩
theorem hasF_f {b : Bd} {a : Int} (h : (!hasF b a) = true) : ¬ 0 ≤ findF b a := fun h1 => by
  unfold hasF at h; rw [decide_eq_true h1] at h; cases h
def bfind2S : PSpec := ⟨[gBd, gi], fun (b, a, _) => (some (bP b a), .tup [I1 (fI b a), I1 (atF b a), .c (bv (hasF b a))], [])⟩
theorem bFind2_ok : GoodF Tryz.prog 74 bfind2S.spec := bFind_ok
def chAt (b : Bd) (a : Int) : Cv := b.2.2.1.getD (findF b (adI a)).toNat (dflt ChipT)
def dvAt (b : Bd) (m : Mach) (a : Int) : Dv := m.2.2.1.getD (findF b (adI a)).toNat (dflt DevT)
def memAt (b : Bd) (m : Mach) (a : Int) : Prop := (0 ≤ findF b (adI a) ∧ findF b (adI a) < (m.2.2.1.length : Nat)) ∧ 0 ≤ (chAt b a).2.1 ∧ (chAt b a).2.1 ≤ 2
instance (b : Bd) (m : Mach) (a : Int) : Decidable (memAt b m a) := by unfold memAt; infer_instance
def peekF (b : Bd) (m : Mach) (a : Int) : Int := if memAt b m a then loadI (chAt b a) (dvAt b m a) (adI a - (chAt b a).2.2.1) else 255
def pokeF (b : Bd) (m : Mach) (a k : Int) : Mach := if memAt b m a then (m.1, m.2.1, m.2.2.1.set (findF b (adI a)).toNat (storeF (chAt b a) (dvAt b m a) (adI a - (chAt b a).2.2.1) k), m.2.2.2) else m
def peekP (b : Bd) (m : Mach) : Prop := (b.2.2.1.length * 64 ≤ 140737488351232 ∧ ∀ c ∈ b.2.2.1, cP c) ∧ okDs m.2.2.1 ∧ ∀ d ∈ m.2.2.1, dP d
theorem peek_bP {b : Bd} {m : Mach} (h : peekP b m) (a : Int) : bP b (adI a) := by
  have := adI_in a
  exact ⟨by have := h.1.1; omega, ⟨by omega, by omega⟩, fun c hc => ⟨(h.1.2 c hc).1, (h.1.2 c hc).2.1⟩⟩
theorem atF_eq {b : Bd} {a : Int} (h : 0 ≤ findF b (adI a)) : atF b (adI a) = adI a - (chAt b a).2.2.1 := if_pos h
def mpeekS : PSpec := ⟨[gBd, gM, gi], fun (b, m, a, _) => (some (peekP b m), I (peekF b m a), [])⟩
theorem mpeek_ok : GoodF Tryz.prog 25 mpeekS.spec := by
  have hT := tab_ok (fs := [(75, lowM.spec), (74, bfind2S.spec), (6, cReadS.spec)]) tree_ok
  have hP : SpecsOk Tryz.prog (tab tree [(75, lowM.spec), (74, bfind2S.spec), (6, cReadS.spec)]) := specs_cons lowM_ok (specs_cons bFind2_ok (specs_cons cRead_ok specs_nil))
  refine mpeekS.good (fn := Tryz.f25) hT hP Tryz.func25 (by kernel_rfl) rfl fun (b : Bd) (m : Mach) (a : Int) hq => ?_
  have hpp : peekP b m := hq _ rfl
  have hbP := peek_bP hpp a
  have hatF := @atF_eq b a
  obtain ⟨⟨h1, h2⟩, h3, h4⟩ := hpp
  clear hq
  obtain ⟨bn, ⟨un, ui, ur, uq, um⟩, bc, bw⟩ := b
  obtain ⟨tm, ⟨r, op, at_, nmi⟩, ds, bd, ba, bdt⟩ := m
  have h1 : bc.length * 64 ≤ 140737488351232 := h1
  have h2 : ∀ c ∈ bc, cP c := h2
  have h4 : ∀ d ∈ ds, dP d := h4
  repeat' first
    | (refine Go.mk ?_; conv => whnf)
    | refine Need.go ?_ ?_
    | refine NilG.go (fun _ => ?_) (fun _ => ?_)
    | refine Br.dec (fun _ => ?_) (fun _ => ?_)
    | refine Br.go (fun _ => ?_) (fun _ => ?_)
    | refine draw_go hT hP mixed ?_
    | refine round_go hT hP ?_
  all_goals (try dsimp only [castL_eq] at *)
  all_goals clear hT hP
  · exact of_decide_eq_true rfl
  · exact hbP
  · rename_i g1
    have g1 := hasF_f (a := adI a) g1
    refine .mk [] [] _ rfl rfl rfl rfl rfl rfl (imm_int ?_)
    exact (if_neg fun h => g1 h.1.1 : peekF (bn, (un, ui, ur, uq, um), bc, bw) (tm, (r, op, at_, nmi), ds, bd, ba, bdt) a = 255).symm
  · rename_i g1 g2
    obtain ⟨⟨f1, f2⟩, f3⟩ := hasF_t (a := adI a) g1
    have g2 : fI (bn, (un, ui, ur, uq, um), bc, bw) (adI a) ≥ (ds.length : Int) := g2
    rw [f3] at g2
    refine .mk [] [] _ rfl rfl rfl rfl rfl rfl (imm_int ?_)
    exact (if_neg fun h => by have h := h.1.2; have h : findF (bn, (un, ui, ur, uq, um), bc, bw) (adI a) < (ds.length : Nat) := h; omega : peekF (bn, (un, ui, ur, uq, um), bc, bw) (tm, (r, op, at_, nmi), ds, bd, ba, bdt) a = 255).symm
  · rename_i g1 g2
    obtain ⟨⟨f1, f2⟩, f3⟩ := hasF_t (a := adI a) g1
    show 0 ≤ fI (bn, (un, ui, ur, uq, um), bc, bw) (adI a) ∧ fI (bn, (un, ui, ur, uq, um), bc, bw) (adI a) < (bc.length : Int)
    rw [f3]; exact ⟨f1, f2⟩
  · rename_i g1 g2 g3
    obtain ⟨⟨f1, f2⟩, f3⟩ := hasF_t (a := adI a) g1
    have g3 : (bc.getD (fI (bn, (un, ui, ur, uq, um), bc, bw) (adI a)).toNat (dflt ChipT)).2.1 < 0 := g3
    rw [f3] at g3
    refine .mk [] [] _ rfl rfl rfl rfl rfl rfl (imm_int ?_)
    exact (if_neg fun h => by have h := h.2.1; have g3 : (chAt (bn, (un, ui, ur, uq, um), bc, bw) a).2.1 < 0 := g3; omega : peekF (bn, (un, ui, ur, uq, um), bc, bw) (tm, (r, op, at_, nmi), ds, bd, ba, bdt) a = 255).symm
  · rename_i g1 g2 g3
    obtain ⟨⟨f1, f2⟩, f3⟩ := hasF_t (a := adI a) g1
    show 0 ≤ fI (bn, (un, ui, ur, uq, um), bc, bw) (adI a) ∧ fI (bn, (un, ui, ur, uq, um), bc, bw) (adI a) < (bc.length : Int)
    rw [f3]; exact ⟨f1, f2⟩
  · rename_i g1 g2 g3 g4
    obtain ⟨⟨f1, f2⟩, f3⟩ := hasF_t (a := adI a) g1
    have g4 : (bc.getD (fI (bn, (un, ui, ur, uq, um), bc, bw) (adI a)).toNat (dflt ChipT)).2.1 > 2 := g4
    rw [f3] at g4
    refine .mk [] [] _ rfl rfl rfl rfl rfl rfl (imm_int ?_)
    exact (if_neg fun h => by have h := h.2.2; have g4 : (chAt (bn, (un, ui, ur, uq, um), bc, bw) a).2.1 > 2 := g4; omega : peekF (bn, (un, ui, ur, uq, um), bc, bw) (tm, (r, op, at_, nmi), ds, bd, ba, bdt) a = 255).symm
  · rename_i g1 g2 g3 g4
    obtain ⟨⟨f1, f2⟩, f3⟩ := hasF_t (a := adI a) g1
    show 0 ≤ fI (bn, (un, ui, ur, uq, um), bc, bw) (adI a) ∧ fI (bn, (un, ui, ur, uq, um), bc, bw) (adI a) < (bc.length : Int)
    rw [f3]; exact ⟨f1, f2⟩
  · rename_i g1 g2 g3 g4
    obtain ⟨⟨f1, f2⟩, f3⟩ := hasF_t (a := adI a) g1
    have g2 : ¬ fI (bn, (un, ui, ur, uq, um), bc, bw) (adI a) ≥ (ds.length : Int) := g2
    show 0 ≤ fI (bn, (un, ui, ur, uq, um), bc, bw) (adI a) ∧ fI (bn, (un, ui, ur, uq, um), bc, bw) (adI a) < (ds.length : Int)
    rw [f3] at g2 ⊢; omega
  · rename_i g1 g2 g3 g4
    obtain ⟨⟨f1, f2⟩, f3⟩ := hasF_t (a := adI a) g1
    have g2 : ¬ fI (bn, (un, ui, ur, uq, um), bc, bw) (adI a) ≥ (ds.length : Int) := g2
    have f2 : findF (bn, (un, ui, ur, uq, um), bc, bw) (adI a) < (bc.length : Int) := f2
    show cP (bc.getD (fI (bn, (un, ui, ur, uq, um), bc, bw) (adI a)).toNat (dflt ChipT)) ∧ dP (ds.getD (fI (bn, (un, ui, ur, uq, um), bc, bw) (adI a)).toNat (dflt DevT))
    rw [f3] at g2 ⊢
    exact ⟨h2 _ (memD' _ (by omega)), h4 _ (memD' _ (by omega))⟩
  · rename_i g1 g2 g3 g4
    obtain ⟨⟨f1, f2⟩, f3⟩ := hasF_t (a := adI a) g1
    have g2 : ¬ fI (bn, (un, ui, ur, uq, um), bc, bw) (adI a) ≥ (ds.length : Int) := g2
    have g3 : ¬ (bc.getD (fI (bn, (un, ui, ur, uq, um), bc, bw) (adI a)).toNat (dflt ChipT)).2.1 < 0 := g3
    have g4 : ¬ (bc.getD (fI (bn, (un, ui, ur, uq, um), bc, bw) (adI a)).toNat (dflt ChipT)).2.1 > 2 := g4
    rw [f3] at g2 g3 g4
    refine .mk [] [] _ rfl rfl rfl rfl rfl rfl (imm_int ?_)
    show loadI (bc.getD (fI (bn, (un, ui, ur, uq, um), bc, bw) (adI a)).toNat (dflt ChipT)) (ds.getD (fI (bn, (un, ui, ur, uq, um), bc, bw) (adI a)).toNat (dflt DevT)) (atF (bn, (un, ui, ur, uq, um), bc, bw) (adI a)) = _
    rw [f3, hatF f1]
    exact (if_pos ⟨⟨f1, by show _ < (ds.length : Int); omega⟩, by show 0 ≤ (chAt (bn, (un, ui, ur, uq, um), bc, bw) a).2.1; have g3 : ¬ (chAt (bn, (un, ui, ur, uq, um), bc, bw) a).2.1 < 0 := g3; omega, by have g4 : ¬ (chAt (bn, (un, ui, ur, uq, um), bc, bw) a).2.1 > 2 := g4; omega⟩ : peekF (bn, (un, ui, ur, uq, um), bc, bw) (tm, (r, op, at_, nmi), ds, bd, ba, bdt) a = _).symm

theorem fI_of {b : Bd} {a : Int} (h1 : 0 ≤ findF b a) : findF b a < b.2.2.1.length ∧ fI b a = findF b a := by
  have hF : findF b a = -1 ∨ (0 ≤ findF b a ∧ findF b a < b.2.2.1.length) := fstI_in (ownB a) b.2.2.1
  exact ⟨by omega, if_pos h1⟩
def mpokeS : PSpec := ⟨[gBd, gM, gi, gi], fun (b, m, a, k, _) => (some (peekP b m), machO (pokeF b m a k) 0, [.arr DevT (pokeF b m a k).2.2.1])⟩
theorem mpoke_ok : GoodF Tryz.prog 24 mpokeS.spec := by
  have hT := tab_ok (fs := [(73, mcopyS.spec), (75, lowM.spec), (74, bfind2S.spec), (9, cWriteS.spec)]) tree_ok
  have hP : SpecsOk Tryz.prog (tab tree [(73, mcopyS.spec), (75, lowM.spec), (74, bfind2S.spec), (9, cWriteS.spec)]) := specs_cons mcopy_ok (specs_cons lowM_ok (specs_cons bFind2_ok (specs_cons cWrite_ok specs_nil)))
  refine mpokeS.good (fn := Tryz.f24) hT hP Tryz.func24 (by kernel_rfl) rfl fun (b : Bd) (m : Mach) (a k : Int) hq => ?_
  have hpp : peekP b m := hq _ rfl
  have hbP := peek_bP hpp a
  have hatF := @atF_eq b a
  obtain ⟨⟨h1, h2⟩, h3, h4⟩ := hpp
  clear hq
  obtain ⟨bn, ⟨un, ui, ur, uq, um⟩, bc, bw⟩ := b
  obtain ⟨tm, ⟨r, op, at_, nmi⟩, ds, bd, ba, bdt⟩ := m
  have h1 : bc.length * 64 ≤ 140737488351232 := h1
  have h2 : ∀ c ∈ bc, cP c := h2
  have h4 : ∀ d ∈ ds, dP d := h4
  repeat' first
    | (refine Go.mk ?_; conv => whnf)
    | refine Need.go ?_ ?_
    | refine NilG.go (fun _ => ?_) (fun _ => ?_)
    | refine Br.dec (fun _ => ?_) (fun _ => ?_)
    | refine Br.go (fun _ => ?_) (fun _ => ?_)
    | refine draw_go hT hP mixed ?_
    | refine round_go hT hP ?_
  all_goals (try dsimp only [castL_eq] at *)
  all_goals clear hT hP
  · exact h3
  · exact of_decide_eq_true rfl
  · exact hbP
  · rename_i g1 g2
    obtain ⟨f2, f3⟩ := fI_of (a := adI a) g1
    show 0 ≤ fI (bn, (un, ui, ur, uq, um), bc, bw) (adI a) ∧ fI (bn, (un, ui, ur, uq, um), bc, bw) (adI a) < (bc.length : Int)
    rw [f3]; exact ⟨g1, f2⟩
  · rename_i g1 g2 g3
    obtain ⟨f2, f3⟩ := fI_of (a := adI a) g1
    show 0 ≤ fI (bn, (un, ui, ur, uq, um), bc, bw) (adI a) ∧ fI (bn, (un, ui, ur, uq, um), bc, bw) (adI a) < (bc.length : Int)
    rw [f3]; exact ⟨g1, f2⟩
  · rename_i g1 g2 g3 g4
    obtain ⟨f2, f3⟩ := fI_of (a := adI a) g1
    show 0 ≤ fI (bn, (un, ui, ur, uq, um), bc, bw) (adI a) ∧ fI (bn, (un, ui, ur, uq, um), bc, bw) (adI a) < (bc.length : Int)
    rw [f3]; exact ⟨g1, f2⟩
  · rename_i g1 g2 g3 g4
    obtain ⟨f2, f3⟩ := fI_of (a := adI a) g1
    have g2 : fI (bn, (un, ui, ur, uq, um), bc, bw) (adI a) < (ds.length : Int) := g2
    show 0 ≤ fI (bn, (un, ui, ur, uq, um), bc, bw) (adI a) ∧ fI (bn, (un, ui, ur, uq, um), bc, bw) (adI a) < (ds.length : Int)
    rw [f3] at g2 ⊢; exact ⟨g1, g2⟩
  · rename_i g1 g2 g3 g4
    obtain ⟨f2, f3⟩ := fI_of (a := adI a) g1
    have g2 : fI (bn, (un, ui, ur, uq, um), bc, bw) (adI a) < (ds.length : Int) := g2
    show (fI (bn, (un, ui, ur, uq, um), bc, bw) (adI a)).toNat < ds.length
    rw [f3] at g2 ⊢
    have g1 : 0 ≤ findF (bn, (un, ui, ur, uq, um), bc, bw) (adI a) := g1
    omega
  · rename_i g1 g2 g3 g4
    obtain ⟨f2, f3⟩ := fI_of (a := adI a) g1
    have g1 : 0 ≤ findF (bn, (un, ui, ur, uq, um), bc, bw) (adI a) := g1
    have g2 : fI (bn, (un, ui, ur, uq, um), bc, bw) (adI a) < (ds.length : Int) := g2
    have f2 : findF (bn, (un, ui, ur, uq, um), bc, bw) (adI a) < (bc.length : Int) := f2
    show cP (bc.getD (fI (bn, (un, ui, ur, uq, um), bc, bw) (adI a)).toNat (dflt ChipT)) ∧ dP (ds.getD (fI (bn, (un, ui, ur, uq, um), bc, bw) (adI a)).toNat (dflt DevT))
    rw [f3] at g2 ⊢
    exact ⟨h2 _ (memD' _ (by omega)), h4 _ (memD' _ (by omega))⟩
  · rename_i g1 g2 g3 g4
    obtain ⟨f2, f3⟩ := fI_of (a := adI a) g1
    have g2 : fI (bn, (un, ui, ur, uq, um), bc, bw) (adI a) < (ds.length : Int) := g2
    show 0 ≤ fI (bn, (un, ui, ur, uq, um), bc, bw) (adI a) ∧ fI (bn, (un, ui, ur, uq, um), bc, bw) (adI a) < (ds.length : Int)
    rw [f3] at g2 ⊢; exact ⟨g1, g2⟩
  · rename_i g1 g2 g3 g4
    obtain ⟨f2, f3⟩ := fI_of (a := adI a) g1
    have g2 : fI (bn, (un, ui, ur, uq, um), bc, bw) (adI a) < (ds.length : Int) := g2
    show (fI (bn, (un, ui, ur, uq, um), bc, bw) (adI a)).toNat < ds.length
    rw [f3] at g2 ⊢
    have g1 : 0 ≤ findF (bn, (un, ui, ur, uq, um), bc, bw) (adI a) := g1
    omega
  · rename_i g1 g2 g3 g4
    obtain ⟨f2, f3⟩ := fI_of (a := adI a) g1
    have g2 : fI (bn, (un, ui, ur, uq, um), bc, bw) (adI a) < (ds.length : Int) := g2
    have g3 : (bc.getD (fI (bn, (un, ui, ur, uq, um), bc, bw) (adI a)).toNat (dflt ChipT)).2.1 ≥ 0 := g3
    have g4 : (bc.getD (fI (bn, (un, ui, ur, uq, um), bc, bw) (adI a)).toNat (dflt ChipT)).2.1 ≤ 2 := g4
    rw [f3] at g2 g3 g4
    have e : ((tm, (r, op, at_, nmi), ds.set (fI (bn, (un, ui, ur, uq, um), bc, bw) (adI a)).toNat (storeF (bc.getD (fI (bn, (un, ui, ur, uq, um), bc, bw) (adI a)).toNat (dflt ChipT)) (ds.getD (fI (bn, (un, ui, ur, uq, um), bc, bw) (adI a)).toNat (dflt DevT)) (atF (bn, (un, ui, ur, uq, um), bc, bw) (adI a)) k), bd, ba, bdt) : Mach) = pokeF (bn, (un, ui, ur, uq, um), bc, bw) (tm, (r, op, at_, nmi), ds, bd, ba, bdt) a k := by
      rw [f3, hatF g1]
      exact (if_pos (c := memAt (bn, (un, ui, ur, uq, um), bc, bw) (tm, (r, op, at_, nmi), ds, bd, ba, bdt) a) ⟨⟨g1, g2⟩, g3, g4⟩).symm
    exact .mk [] [3] _ rfl rfl rfl rfl rfl (congrArg (fun z : Mach => [some (Blk.arr DevT z.2.2.1)]) e) (congrArg (fun z : Mach => machO z 0) e)
  · rename_i g1 g2 g3 g4
    obtain ⟨f2, f3⟩ := fI_of (a := adI a) g1
    have g4 : ¬ (bc.getD (fI (bn, (un, ui, ur, uq, um), bc, bw) (adI a)).toNat (dflt ChipT)).2.1 ≤ 2 := g4
    rw [f3] at g4
    have e : ((tm, (r, op, at_, nmi), ds, bd, ba, bdt) : Mach) = pokeF (bn, (un, ui, ur, uq, um), bc, bw) (tm, (r, op, at_, nmi), ds, bd, ba, bdt) a k := (if_neg (c := memAt (bn, (un, ui, ur, uq, um), bc, bw) (tm, (r, op, at_, nmi), ds, bd, ba, bdt) a) fun h => g4 h.2.2).symm
    exact .mk [] [3] _ rfl rfl rfl rfl rfl (congrArg (fun z : Mach => [some (Blk.arr DevT z.2.2.1)]) e) (congrArg (fun z : Mach => machO z 0) e)
  · rename_i g1 g2 g3
    obtain ⟨f2, f3⟩ := fI_of (a := adI a) g1
    have g3 : ¬ (bc.getD (fI (bn, (un, ui, ur, uq, um), bc, bw) (adI a)).toNat (dflt ChipT)).2.1 ≥ 0 := g3
    rw [f3] at g3
    have e : ((tm, (r, op, at_, nmi), ds, bd, ba, bdt) : Mach) = pokeF (bn, (un, ui, ur, uq, um), bc, bw) (tm, (r, op, at_, nmi), ds, bd, ba, bdt) a k := (if_neg (c := memAt (bn, (un, ui, ur, uq, um), bc, bw) (tm, (r, op, at_, nmi), ds, bd, ba, bdt) a) fun h => g3 h.2.1).symm
    exact .mk [] [3] _ rfl rfl rfl rfl rfl (congrArg (fun z : Mach => [some (Blk.arr DevT z.2.2.1)]) e) (congrArg (fun z : Mach => machO z 0) e)
  · rename_i g1 g2
    obtain ⟨f2, f3⟩ := fI_of (a := adI a) g1
    have g2 : ¬ fI (bn, (un, ui, ur, uq, um), bc, bw) (adI a) < (ds.length : Int) := g2
    rw [f3] at g2
    have e : ((tm, (r, op, at_, nmi), ds, bd, ba, bdt) : Mach) = pokeF (bn, (un, ui, ur, uq, um), bc, bw) (tm, (r, op, at_, nmi), ds, bd, ba, bdt) a k := (if_neg (c := memAt (bn, (un, ui, ur, uq, um), bc, bw) (tm, (r, op, at_, nmi), ds, bd, ba, bdt) a) fun h => g2 h.1.2).symm
    exact .mk [] [3] _ rfl rfl rfl rfl rfl (congrArg (fun z : Mach => [some (Blk.arr DevT z.2.2.1)]) e) (congrArg (fun z : Mach => machO z 0) e)
  · rename_i g1
    have g1 : ¬ 0 ≤ findF (bn, (un, ui, ur, uq, um), bc, bw) (adI a) := g1
    have e : ((tm, (r, op, at_, nmi), ds, bd, ba, bdt) : Mach) = pokeF (bn, (un, ui, ur, uq, um), bc, bw) (tm, (r, op, at_, nmi), ds, bd, ba, bdt) a k := (if_neg (c := memAt (bn, (un, ui, ur, uq, um), bc, bw) (tm, (r, op, at_, nmi), ds, bd, ba, bdt) a) fun h => g1 h.1.1).symm
    exact .mk [] [3] _ rfl rfl rfl rfl rfl (congrArg (fun z : Mach => [some (Blk.arr DevT z.2.2.1)]) e) (congrArg (fun z : Mach => machO z 0) e)

end Go.Proofs.YtblnigjmcjpopaaGreat

/- Wires: which are so. -/
namespace Go.Proofs.YtblnigjmcjpopaaGreat
open Go.Fw
set_option linter.unusedVariables false
set_option linter.unusedSimpArgs false
set_option linter.constructorNameAsVariable false
set_option maxRecDepth 100000

theorem fstG_any {α : Type} (p : α → Bool) : ∀ (l : List α) (k : Nat), decide (fstG p l k ≥ 0) = l.any p
  | [], k => rfl
  | x :: r, k => by
    unfold fstG
    by_cases h : p x = true
    · rw [if_pos h, List.any_cons, h, decide_eq_true (by omega)]; rfl
    · rw [if_neg h, List.any_cons, fstG_any p r (k + 1)]
      have : p x = false := by simpa using h
      rw [this]; rfl
theorem fst_any {α : Type} (p : α → Bool) (l : List α) : decide (fstI p l ≥ 0) = l.any p := fstG_any p l 0
def irqS : ByteArray := ⟨#[46, 105, 114, 113]⟩
def cpuIrq : ByteArray := ⟨#[99, 112, 117, 46, 105, 114, 113]⟩
def wireB (s : ByteArray) (w : Wr) : Bool := strEq w.1 s
def heardB (c : Cv) (w : Wr) : Bool := bif strEq w.1 (c.1 ++ irqS) then strEq w.2 cpuIrq else false
def looseB (c : Cv) (w : Wr) : Bool := strEq w.1 (c.1 ++ irqS)
def nameOk (c : Cv) : Prop := c.1.size < 4611686018427387900

def locRd : List V1 → List Blk → Option (Wr × ByteArray) := fun a b => match a, b with
  | [.agg [.imm (.string wa), .imm (.string wb)], .c (.ptr 0 0)], [.var [.imm (.string s)]] => some ((wa, wb), s)
  | _, _ => none
theorem locRd_ok {a : List V1} {b : List Blk} {x : Wr × ByteArray} (h : locRd a b = some x) : a = [.agg [.imm (.string x.1.1), .imm (.string x.1.2)], .c (.ptr 0 0)] ∧ b = [.var [.imm (.string x.2)]] := by
  unfold locRd at h
  split at h
  · injection h with h; subst h; exact ⟨rfl, rfl⟩
  · cases h
def locS : WSpec := ⟨Wr × ByteArray, fun x => [.agg [.imm (.string x.1.1), .imm (.string x.1.2)], .c (.ptr 0 0)], fun x => [.var [.imm (.string x.2)]], locRd,
  fun x => (some ((fun _ => True) x.2), .cell (bv (wireB x.2 x.1)), [some (.var [.imm (.string x.2)])], [])⟩
structure loX where
  l : List Wr
  d : ByteArray
def hecRd : List V1 → List Blk → Option (Wr × Cv) := fun a b => match a, b with
  | [.agg [.imm (.string wa), .imm (.string wb)], .c (.ptr 0 0)], [.var [.imm (.string cn), .imm (.int .i64 ck), .imm (.int .i64 cb), .imm (.int .i64 cs), .ro (.int .u8) cd]] => some ((wa, wb), (cn, ck, cb, cs, cd))
  | _, _ => none
theorem hecRd_ok {a : List V1} {b : List Blk} {x : Wr × Cv} (h : hecRd a b = some x) : a = [.agg [.imm (.string x.1.1), .imm (.string x.1.2)], .c (.ptr 0 0)] ∧ b = [.var [.imm (.string x.2.1), iv .i64 x.2.2.1, iv .i64 x.2.2.2.1, iv .i64 x.2.2.2.2.1, .ro (.int .u8) x.2.2.2.2.2]] := by
  unfold hecRd at h
  split at h
  · injection h with h; subst h; exact ⟨rfl, rfl⟩
  · cases h
def hecS : WSpec := ⟨Wr × Cv, fun x => [.agg [.imm (.string x.1.1), .imm (.string x.1.2)], .c (.ptr 0 0)], fun x => [.var [.imm (.string x.2.1), iv .i64 x.2.2.1, iv .i64 x.2.2.2.1, iv .i64 x.2.2.2.2.1, .ro (.int .u8) x.2.2.2.2.2]], hecRd,
  fun x => (some ((nameOk) x.2), .cell (bv (heardB x.2 x.1)), [some (.var [.imm (.string x.2.1), iv .i64 x.2.2.1, iv .i64 x.2.2.2.1, iv .i64 x.2.2.2.2.1, .ro (.int .u8) x.2.2.2.2.2])], [])⟩
structure heX where
  l : List Wr
  d : Cv
def bfcRd : List V1 → List Blk → Option (Wr × Cv) := fun a b => match a, b with
  | [.agg [.imm (.string wa), .imm (.string wb)], .c (.ptr 0 0)], [.var [.imm (.string cn), .imm (.int .i64 ck), .imm (.int .i64 cb), .imm (.int .i64 cs), .ro (.int .u8) cd]] => some ((wa, wb), (cn, ck, cb, cs, cd))
  | _, _ => none
theorem bfcRd_ok {a : List V1} {b : List Blk} {x : Wr × Cv} (h : bfcRd a b = some x) : a = [.agg [.imm (.string x.1.1), .imm (.string x.1.2)], .c (.ptr 0 0)] ∧ b = [.var [.imm (.string x.2.1), iv .i64 x.2.2.1, iv .i64 x.2.2.2.1, iv .i64 x.2.2.2.2.1, .ro (.int .u8) x.2.2.2.2.2]] := by
  unfold bfcRd at h
  split at h
  · injection h with h; subst h; exact ⟨rfl, rfl⟩
  · cases h
def bfcS : WSpec := ⟨Wr × Cv, fun x => [.agg [.imm (.string x.1.1), .imm (.string x.1.2)], .c (.ptr 0 0)], fun x => [.var [.imm (.string x.2.1), iv .i64 x.2.2.1, iv .i64 x.2.2.2.1, iv .i64 x.2.2.2.2.1, .ro (.int .u8) x.2.2.2.2.2]], bfcRd,
  fun x => (some ((nameOk) x.2), .cell (bv (looseB x.2 x.1)), [some (.var [.imm (.string x.2.1), iv .i64 x.2.2.1, iv .i64 x.2.2.2.1, iv .i64 x.2.2.2.2.1, .ro (.int .u8) x.2.2.2.2.2])], [])⟩
structure bfX where
  l : List Wr
  d : Cv
end Go.Proofs.YtblnigjmcjpopaaGreat

/- Lists compared; a wire looked for. -/
namespace Go.Proofs.YtblnigjmcjpopaaGreat
open Go.Fw
set_option linter.unusedVariables false
set_option linter.unusedSimpArgs false
set_option linter.constructorNameAsVariable false
set_option maxRecDepth 100000

theorem strEq_iff {x y : ByteArray} : strEq x y = true ↔ x = y := Lib.bytes_beq_iff x y
def beqB (x y : Bool) : Bool := x == y
theorem beqB_iff {x y : Bool} : beqB x y = true ↔ x = y := by cases x <;> cases y <;> decide
theorem denEq_iff {x y : Wr} : denEq WireT x y = true ↔ x = y := ⟨fun h => denEq_eq (u := WireT) rfl h, fun h => by subst h; show (strEq x.1 x.1 && strEq x.2 x.2) = true; rw [strEq_iff.2 rfl, strEq_iff.2 rfl]; rfl⟩

noncomputable def eqStrS : PSpec := ⟨[⟨false, .sl .str⟩, ⟨false, .sl .str⟩], fun (l, m, _) => (some (List.length l ≤ 4611686018427387904), .cell (bv (eqB (α := List ByteArray) l m)), [])⟩
noncomputable def eqBoolS : PSpec := ⟨[⟨false, .sl .bool⟩, ⟨false, .sl .bool⟩], fun (l, m, _) => (some (List.length l ≤ 4611686018427387904), .cell (bv (eqB (α := List Bool) l m)), [])⟩
noncomputable def eqWrS : PSpec := ⟨[⟨false, .sl WireT⟩, ⟨false, .sl WireT⟩], fun (l, m, _) => (some (List.length l ≤ 4611686018427387904), .cell (bv (eqB (α := List Wr) l m)), [])⟩
abbrev gWr : Sig := ⟨true, WireT⟩
def sameW (v w : Wr) : Bool := denEq WireT v w
def wIdxS : PSpec := ⟨[⟨false, .sl WireT⟩, gWr], fun (l, v, _) => (some (List.length l ≤ 4611686018427387904), I (fstI (sameW v) l), [])⟩
theorem wIdx_ok : GoodF Tryz.prog 139 wIdxS.spec := by
  have hT := tab_ok (fs := []) tree_ok
  have hP : SpecsOk Tryz.prog (tab tree []) := specs_nil
  refine wIdxS.good (fn := Tryz.f139) hT hP Tryz.func139 (by kernel_rfl) rfl fun (l : List Wr) (v : Wr) hq => ?_
  have hl : l.length ≤ 4611686018427387904 := hq _ rfl
  obtain ⟨va, vb⟩ := v
  clear hq
  repeat' first
    | (refine Go.mk ?_; conv => whnf)
    | refine Need.go ?_ ?_
    | refine NilG.go (fun _ => ?_) (fun _ => ?_)
    | refine Br.dec (fun _ => ?_) (fun _ => ?_)
    | refine Br.go (fun _ => ?_) (fun _ => ?_)
    | refine draw_go hT hP mixed ?_
    | refine round_go hT hP ?_
  refine up_go hT hP (A := Unit) l.length (fun i _ => St.mk [.cell (.ro WireT l), .dead, .dead, .cell (.ptr 0 0), .dead, .dead, .dead, I l.length, I i, .dead, .dead, .dead, .dead, .dead, .dead, .dead, .dead, .dead, .dead] [some (.var [.imm (.string va), .imm (.string vb)])])
    (fun k _ => fstG (sameW (va, vb)) (l.drop k) k = fstI (sameW (va, vb)) l) () (Le.mk [] [0] rfl rfl rfl ?_) rfl fun k _ hk hi => ?_
  · repeat' first | exact trivial | exact ⟨rfl, rfl⟩ | refine And.intro ?_ ?_
  repeat' first
    | (refine Go.mk ?_; conv => whnf)
    | refine Need.go ?_ ?_
    | refine NilG.go (fun _ => ?_) (fun _ => ?_)
    | refine Br.dec (fun _ => ?_) (fun _ => ?_)
    | refine Br.go (fun _ => ?_) (fun _ => ?_)
    | refine draw_go hT hP mixed ?_
    | refine round_go hT hP ?_
  all_goals clear hT hP
  · rename_i g1
    have g1 : (k : Int) < (l.length : Int) := g1
    show 0 ≤ (k : Int) ∧ (k : Int) < (l.length : Int)
    omega
  · rename_i g1 g2
    have g1 : (k : Int) < (l.length : Int) := g1
    exact .mk [] [] _ rfl rfl rfl rfl rfl rfl (imm_int (fst_hit (dflt WireT) (by omega) g2 hi))
  · rename_i g1 g2
    have g1 : (k : Int) < (l.length : Int) := g1
    have hp : ¬ sameW (va, vb) (l.getD k (dflt WireT)) = true := by
      have g2 : sameW (va, vb) (l.getD k (dflt WireT)) = false := g2
      rw [g2]; decide
    apply Exists.intro
    apply Exists.intro ()
    refine And.intro (And.intro ?lt249 (And.intro ?ei249 ?inv249)) (Le.mk [] [0] rfl rfl ?hh249 ?ht249)
    case hh249 => exact rfl
    case ht249 => repeat' first | exact trivial | exact ⟨rfl, rfl⟩ | refine And.intro ?_ ?_
    case lt249 => omega
    case ei249 => exact up_i (by omega)
    exact fst_miss (dflt WireT) (by omega) hp hi
  · rename_i g1
    have g1 : ¬ (k : Int) < (l.length : Int) := g1
    exact .mk [] [] _ rfl rfl rfl rfl rfl rfl (imm_int (fst_none (by omega) hi))
def wHasS : PSpec := ⟨[⟨false, .sl WireT⟩, gWr], fun (l, v, _) => (some (List.length l ≤ 4611686018427387904), .cell (bv (l.any (sameW v))), [])⟩
theorem wHas_ok : GoodF Tryz.prog 129 wHasS.spec := by
  have hT := tab_ok (fs := [(139, wIdxS.spec)]) tree_ok
  have hP : SpecsOk Tryz.prog (tab tree [(139, wIdxS.spec)]) := specs_cons wIdx_ok specs_nil
  refine wHasS.good (fn := Tryz.f129) hT hP Tryz.func129 (by kernel_rfl) rfl fun (l : List Wr) (v : Wr) hq => ?_
  have hl : l.length ≤ 4611686018427387904 := hq _ rfl
  obtain ⟨va, vb⟩ := v
  clear hq
  repeat' first
    | (refine Go.mk ?_; conv => whnf)
    | refine Need.go ?_ ?_
    | refine NilG.go (fun _ => ?_) (fun _ => ?_)
    | refine Br.dec (fun _ => ?_) (fun _ => ?_)
    | refine Br.go (fun _ => ?_) (fun _ => ?_)
    | refine draw_go hT hP mixed ?_
    | refine round_go hT hP ?_
  all_goals clear hT hP
  · exact hl
  · exact .mk [] [] _ rfl rfl rfl rfl rfl rfl (imm_bool (fst_any (sameW (va, vb)) l))

end Go.Proofs.YtblnigjmcjpopaaGreat

/- Boards: which pins are loose, which chips are heard. -/
namespace Go.Proofs.YtblnigjmcjpopaaGreat
open Go.Fw
set_option linter.unusedVariables false
set_option linter.unusedSimpArgs false
set_option linter.constructorNameAsVariable false
set_option maxRecDepth 100000

def bdP (b : Bd) : Prop := (b.2.2.1.length * 64 ≤ 140737488351232 ∧ b.2.2.2.length * 32 ≤ 140737488351232) ∧ ∀ c ∈ b.2.2.1, cP c ∧ c.1.size ≤ 140737488351232
theorem take_snoc {α : Type} {l : List α} {k : Nat} (d : α) (h : k < l.length) : l.take (k + 1) = l.take k ++ [l.getD k d] := by
  rw [List.take_add_one, List.getD_eq_getElem?_getD, List.getElem?_eq_getElem h]; rfl
def isLoose (w : List Wr) (c : Cv) : Bool := askK c.2.1 && !w.any (wireB (c.1 ++ irqS))
def looseL (w : List Wr) (l : List Cv) : List ByteArray := (l.filter (isLoose w)).map fun c => c.1 ++ irqS
theorem loose_yes {w : List Wr} {l : List Cv} {k : Nat} (h : k < l.length) (h2 : isLoose w (l.getD k (dflt ChipT)) = true) : looseL w (l.take k) ++ [(l.getD k (dflt ChipT)).1 ++ irqS] = looseL w (l.take (k + 1)) := by
  unfold looseL
  rw [take_snoc (dflt ChipT) h, List.filter_append, List.map_append, List.filter_cons, if_pos h2]; rfl
theorem loose_no {w : List Wr} {l : List Cv} {k : Nat} (h : k < l.length) (h2 : isLoose w (l.getD k (dflt ChipT)) = false) : looseL w (l.take k) = looseL w (l.take (k + 1)) := by
  unfold looseL
  rw [take_snoc (dflt ChipT) h, List.filter_append, List.map_append, List.filter_cons, if_neg (by rw [h2]; decide)]; simp
theorem loose_len (w : List Wr) (l : List Cv) : (looseL w l).length ≤ l.length := by
  unfold looseL
  rw [List.length_map]; exact List.length_filter_le _ _
def looseS : PSpec := ⟨[gBd], fun (b, _) => (some (bdP b), .cell (.own 0), [.arr .str (looseL b.2.2.2 b.2.2.1)])⟩
def heardL (w : List Wr) (l : List Cv) : List Bool := l.map fun c => askK c.2.1 && w.any (heardB c)
theorem heardL_len (w : List Wr) (l : List Cv) : (heardL w l).length = l.length := List.length_map ..
def heardK (w : List Wr) (l : List Cv) (k : Nat) : List Bool := heardL w (l.take k) ++ List.replicate (l.length - k) false
theorem heardK_set {w : List Wr} {l : List Cv} {k : Nat} (h : k < l.length) {b : Bool} (hb : (askK (l.getD k (dflt ChipT)).2.1 && w.any (heardB (l.getD k (dflt ChipT)))) = b) : (heardK w l k).set k b = heardK w l (k + 1) := by
  have hl : (heardL w (l.take k)).length = k := by rw [heardL_len, List.length_take]; omega
  have e : l.length - k = (l.length - (k + 1)) + 1 := by omega
  unfold heardK
  rw [e, List.replicate_succ, List.set_append, if_neg (by omega), hl, Nat.sub_self, List.set_cons_zero, take_snoc (dflt ChipT) h]
  unfold heardL
  rw [List.map_append, List.map_cons, List.map_nil, hb]
  simp
theorem heardK_len (w : List Wr) (l : List Cv) {k : Nat} (h : k ≤ l.length) : (heardK w l k).length = l.length := by
  unfold heardK; rw [List.length_append, heardL_len, List.length_take, List.length_replicate]; omega
def heardS : PSpec := ⟨[gBd], fun (b, _) => (some (bdP b), .cell (.own 0), [.arr .bool (heardL b.2.2.2 b.2.2.1)])⟩
theorem heardL_snoc {w : List Wr} {l : List Cv} {k : Nat} (h : k < l.length) {b : Bool} (hb : (askK (l.getD k (dflt ChipT)).2.1 && w.any (heardB (l.getD k (dflt ChipT)))) = b) : heardL w (l.take k) ++ [b] = heardL w (l.take (k + 1)) := by
  unfold heardL
  rw [take_snoc (dflt ChipT) h, List.map_append, List.map_cons, List.map_nil, hb]
theorem heard_same (c : Cv) (w : List Wr) : w.any (heardB c) = w.any (sameW (c.1 ++ irqS, cpuIrq)) := by
  have e : heardB c = sameW (c.1 ++ irqS, cpuIrq) := by
    funext x
    have h1 : strEq x.1 (c.1 ++ irqS) = strEq (c.1 ++ irqS) x.1 := by
      rw [Bool.eq_iff_iff, strEq_iff, strEq_iff]; exact eq_comm
    have h2 : strEq x.2 cpuIrq = strEq cpuIrq x.2 := by
      rw [Bool.eq_iff_iff, strEq_iff, strEq_iff]; exact eq_comm
    show (bif strEq x.1 (c.1 ++ irqS) then strEq x.2 cpuIrq else false) = (strEq (c.1 ++ irqS) x.1 && strEq cpuIrq x.2)
    rw [h1, h2]
    cases strEq (c.1 ++ irqS) x.1 <;> rfl
  rw [e]
end Go.Proofs.YtblnigjmcjpopaaGreat

/- A board that is valid, and its RAM has an address. -/
namespace Go.Proofs.YtblnigjmcjpopaaGreat
open Go.Fw
set_option linter.unusedVariables false
set_option linter.unusedSimpArgs false
set_option linter.constructorNameAsVariable false
set_option maxRecDepth 100000

-- a board that is valid

def simB : Bd := (⟨#[98]⟩, (⟨#[99]⟩, [], [], [], []), [(⟨#[114, 97, 109]⟩, 0, 8, 4, [])], [])
def simpleS : PSpec := ⟨[], fun _ => (none, .agg [.imm (.string ⟨#[98]⟩), .imm (.string ⟨#[99]⟩), .imm (.slice none 0 0), .imm (.slice none 0 0), .imm (.slice none 0 0), .imm (.slice none 0 0), .own 0, .imm (.slice none 0 0)], [.arr ChipT [(⟨#[114, 97, 109]⟩, 0, 8, 4, [])]])⟩
theorem simple_ok : GoodF Tryz.prog 69 simpleS.spec := by
  have hT := tab_ok (fs := []) tree_ok
  have hP : SpecsOk Tryz.prog (tab tree []) := specs_nil
  refine simpleS.good (fn := Tryz.f69) hT hP Tryz.func69 (by kernel_rfl) rfl fun _ => ?_
  repeat' first
    | (refine Go.mk ?_; conv => whnf)
    | refine Need.go ?_ ?_
    | refine NilG.go (fun _ => ?_) (fun _ => ?_)
    | refine Br.dec (fun _ => ?_) (fun _ => ?_)
    | refine Br.go (fun _ => ?_) (fun _ => ?_)
    | refine draw_go hT hP mixed ?_
    | refine round_go hT hP ?_
  all_goals first
    | exact of_decide_eq_true rfl
    | exact .mk [] [1] _ rfl rfl rfl rfl rfl rfl rfl
    | skip
def bcheck0S : PSpec := ⟨[gBd], fun (b, _) => (some (b = simB), I 0, [])⟩
theorem bCheck0_ok : GoodF Tryz.prog 112 bcheck0S.spec := by
  have hT := tab_ok (fs := [(83, nameS.spec), (127, check0S.spec), (28, chipES.spec)]) tree_ok
  have hP : SpecsOk Tryz.prog (tab tree [(83, nameS.spec), (127, check0S.spec), (28, chipES.spec)]) := specs_cons tName_ok (specs_cons check0_ok (specs_cons cCheck_ok specs_nil))
  refine bcheck0S.good (fn := Tryz.f112) hT hP Tryz.func112 (by kernel_rfl) rfl fun (b : Bd) hq => ?_
  obtain rfl : b = simB := hq _ rfl
  clear hq
  repeat' first
    | (refine Go.mk ?_; conv => whnf)
    | refine Need.go ?_ ?_
    | refine NilG.go (fun _ => ?_) (fun _ => ?_)
    | refine Br.dec (fun _ => ?_) (fun _ => ?_)
    | refine Br.go (fun _ => ?_) (fun _ => ?_)
    | refine draw_go hT hP mixed ?_
    | refine round_go hT hP ?_
  · exact rfl
  refine loop_unroll 2 ?_
  repeat' first
    | (refine Go.mk ?_; conv => whnf)
    | refine Need.go ?_ ?_
    | refine NilG.go (fun _ => ?_) (fun _ => ?_)
    | refine Br.dec (fun _ => ?_) (fun _ => ?_)
    | refine Br.go (fun _ => ?_) (fun _ => ?_)
    | refine draw_go hT hP mixed ?_
    | refine round_go hT hP ?_
  · exact of_decide_eq_true rfl
  · exact ⟨⟨by decide, by decide⟩, ⟨by decide, by decide⟩, by decide⟩
  · rename_i h
    exfalso
    have h : (chipE (⟨#[114, 97, 109]⟩, 0, 8, 4, []) != 0) = true := h
    revert h; decide +kernel
  · exact of_decide_eq_true rfl
  rename_i h
  clear h
  refine loop_unroll 1 ?_
  repeat' first
    | (refine Go.mk ?_; conv => whnf)
    | refine Need.go ?_ ?_
    | refine NilG.go (fun _ => ?_) (fun _ => ?_)
    | refine Br.dec (fun _ => ?_) (fun _ => ?_)
    | refine Br.go (fun _ => ?_) (fun _ => ?_)
    | refine draw_go hT hP mixed ?_
    | refine round_go hT hP ?_
  refine loop_unroll 1 ?_
  repeat' first
    | (refine Go.mk ?_; conv => whnf)
    | refine Need.go ?_ ?_
    | refine NilG.go (fun _ => ?_) (fun _ => ?_)
    | refine Br.dec (fun _ => ?_) (fun _ => ?_)
    | refine Br.go (fun _ => ?_) (fun _ => ?_)
    | refine draw_go hT hP mixed ?_
    | refine round_go hT hP ?_
  all_goals first
    | exact of_decide_eq_true rfl
    | exact .mk [] [] _ rfl rfl rfl rfl rfl rfl rfl
    | skip

def boardsS : PSpec := ⟨[], fun _ => (none, .cell (bv true), [])⟩
theorem simB_P : bP simB 9 := ⟨by decide, ⟨by decide, by decide⟩, fun c hc => by
  have hc : c ∈ [((⟨#[114, 97, 109]⟩, 0, 8, 4, []) : Cv)] := hc
  rw [List.mem_singleton] at hc
  subst hc
  exact ⟨⟨by decide, by decide⟩, ⟨by decide, by decide⟩⟩⟩
end Go.Proofs.YtblnigjmcjpopaaGreat

/- A fact: a byte written to the RAM of the simple board is read back. -/
namespace Go.Proofs.YtblnigjmcjpopaaGreat
open Go.Fw
set_option linter.unusedVariables false
set_option linter.unusedSimpArgs false
set_option linter.constructorNameAsVariable false
set_option maxRecDepth 100000

def cnewS : PSpec := ⟨[], fun _ => (none, .agg [.run .i64 9 [0, 0, 0, 0, 4, 0, 0, 0, 0], iv .i64 258, iv .i64 0, bv false], [])⟩
theorem cnew_ok : GoodF Tryz.prog 113 cnewS.spec := by
  have hT := tab_ok (fs := []) tree_ok
  have hP : SpecsOk Tryz.prog (tab tree []) := specs_nil
  refine cnewS.good (fn := Tryz.f113) hT hP Tryz.func113 (by kernel_rfl) rfl fun _ => ?_
  repeat' first
    | (refine Go.mk ?_; conv => whnf)
    | refine Need.go ?_ ?_
    | refine NilG.go (fun _ => ?_) (fun _ => ?_)
    | refine Br.dec (fun _ => ?_) (fun _ => ?_)
    | refine Br.go (fun _ => ?_) (fun _ => ?_)
    | refine draw_go hT hP mixed ?_
    | refine round_go hT hP ?_
  all_goals first
    | exact of_decide_eq_true rfl
    | exact .mk [] [] _ rfl rfl rfl rfl rfl rfl rfl
    | skip
def simC : Cv := (⟨#[114, 97, 109]⟩, 0, 8, 4, [])
def simM : Mach := (0, ([0, 0, 0, 0, 4, 0, 0, 0, 0], 258, 0, false), [freshF simC], 0, 0, 0)
def machV (m : Mach) : V1 := .agg [iv .i64 m.1, .run .i64 9 m.2.1.1, iv .i64 m.2.1.2.1, iv .i64 m.2.1.2.2.1, bv m.2.1.2.2.2, .ro DevT m.2.2.1, iv .i64 m.2.2.2.1, iv .i64 m.2.2.2.2.1, iv .i64 m.2.2.2.2.2]
def mnew0S : PSpec := ⟨[gBd], fun (b, _) => (some (b = simB), .tup [machV simM, I1 0], [])⟩
theorem simC_ok : cP simC := ⟨⟨by decide, by decide⟩, ⟨by decide, by decide⟩, by decide⟩
theorem mnew0_ok : GoodF Tryz.prog 68 mnew0S.spec := by
  have hT := tab_ok (fs := [(112, bcheck0S.spec), (113, cnewS.spec), (27, cNewS.spec)]) tree_ok
  have hP : SpecsOk Tryz.prog (tab tree [(112, bcheck0S.spec), (113, cnewS.spec), (27, cNewS.spec)]) := specs_cons bCheck0_ok (specs_cons cnew_ok (specs_cons cNew_ok specs_nil))
  refine mnew0S.good (fn := Tryz.f68) hT hP Tryz.func68 (by kernel_rfl) rfl fun (b : Bd) hq => ?_
  obtain rfl : b = simB := hq _ rfl
  clear hq
  repeat' first
    | (refine Go.mk ?_; conv => whnf)
    | refine Need.go ?_ ?_
    | refine NilG.go (fun _ => ?_) (fun _ => ?_)
    | refine Br.dec (fun _ => ?_) (fun _ => ?_)
    | refine Br.go (fun _ => ?_) (fun _ => ?_)
    | refine draw_go hT hP mixed ?_
    | refine round_go hT hP ?_
  · exact rfl
  refine up_go hT hP (A := List Dv) 1 (fun i o => St.mk [.dead, .dead, .cell (.ptr 0 0), .dead, .dead, .cell (.ptr 1 0), .dead, .dead, .dead, .dead, .dead, .dead, .dead, .dead, .dead, .dead, .dead, .cell (.ro ChipT [simC]), I 1, I i, .dead, .dead, .dead, .dead, .dead, .dead, .dead, .dead, .dead, .dead, .dead, .dead]
      [some (.var [.imm (.int .i64 0), .run .i64 9 (List.replicate 9 0), .imm (.int .i64 0), .imm (.int .i64 0), .imm (.bool false), .imm (.slice none 0 0), .imm (.int .i64 0), .imm (.int .i64 0), .imm (.int .i64 0)]), some (.var [.imm (.int .i64 0), .run .i64 9 [0, 0, 0, 0, 4, 0, 0, 0, 0], .imm (.int .i64 258), .imm (.int .i64 0), .imm (.bool false), .own 2, .imm (.int .i64 0), .imm (.int .i64 0), .imm (.int .i64 0)]), some (.arr DevT o)])
    (fun k o => o = [freshF simC].take k) [] (.trans (Le.nilH 2 DevT _ _ rfl rfl rfl) (Le.mk [] [1, 2, 3] rfl rfl ?_ ?_)) rfl fun k o hk hi => ?_
  · exact rfl
  · repeat' first | exact trivial | exact ⟨rfl, rfl⟩ | refine And.intro ?_ ?_
  repeat' first
    | (refine Go.mk ?_; conv => whnf)
    | refine Need.go ?_ ?_
    | refine NilG.go (fun _ => ?_) (fun _ => ?_)
    | refine Br.dec (fun _ => ?_) (fun _ => ?_)
    | refine Br.go (fun _ => ?_) (fun _ => ?_)
    | refine draw_go hT hP mixed ?_
    | refine round_go hT hP ?_
  all_goals (try dsimp only [castL_eq] at *)
  all_goals clear hT hP
  · rename_i g
    have g : (k : Int) < 1 := g
    show 0 ≤ (k : Int) ∧ (k : Int) < 1
    omega
  · rename_i g
    have g : (k : Int) < 1 := g
    obtain rfl : k = 0 := by omega
    exact simC_ok
  · rename_i g
    have g : (k : Int) < 1 := g
    have hl : o.length ≤ 1 := by rw [hi, List.length_take]; exact Nat.min_le_right _ _
    show (o.length + 1) * 48 ≤ 140737488355328
    omega
  · rename_i g
    have g : (k : Int) < 1 := g
    obtain rfl : k = 0 := by omega
    obtain rfl : o = [] := hi
    apply Exists.intro
    apply Exists.intro _
    refine And.intro (And.intro ?lt79 (And.intro ?ei79 ?inv79)) (Le.mk [] [0, 1, 7] rfl rfl ?hh79 ?ht79)
    case hh79 => exact rfl
    case ht79 => repeat' first | exact trivial | exact ⟨rfl, rfl⟩ | refine And.intro ?_ ?_
    case lt79 => omega
    case ei79 => exact up_i (by omega)
    rfl
  · rename_i g
    have g : ¬ (k : Int) < 1 := g
    obtain rfl : k = 1 := by omega
    obtain rfl : o = [freshF simC] := hi
    exact .mk [2] [] _ rfl rfl rfl rfl rfl rfl rfl

def devOk (d : Dv) : Bool := decide (List.length d.1 ≤ 100) && (decide (List.length d.2 ≤ 100) && d.2.all fun x => decide (0 ≤ x ∧ x < 256))
theorem devOk_of {d : Dv} (h : devOk d = true) : (List.length d.1 ≤ 100 ∧ List.length d.2 ≤ 100) ∧ u8s d.2 := by
  unfold devOk at h
  simp only [Bool.and_eq_true, decide_eq_true_eq, List.all_eq_true] at h
  exact ⟨⟨h.1, h.2.1⟩, fun x hx => h.2.2 x hx⟩
theorem sim_pp {m : Mach} (h : m.2.2.1.length ≤ 10 ∧ m.2.2.1.all devOk = true) : peekP simB m := by
  refine ⟨⟨by decide, fun c hc => ?_⟩, ⟨by have := h.1; omega, fun d hd => ?_⟩, fun d hd => ?_⟩
  · have hc : c ∈ [simC] := hc
    rw [List.mem_singleton] at hc
    subst hc; exact simC_ok
  · obtain ⟨⟨h1, h2⟩, h3⟩ := devOk_of (List.all_eq_true.1 h.2 d hd)
    omega
  · obtain ⟨⟨h1, h2⟩, h3⟩ := devOk_of (List.all_eq_true.1 h.2 d hd)
    exact ⟨by omega, h3⟩
theorem simM_d : simM.2.2.1.length ≤ 10 ∧ simM.2.2.1.all devOk = true := by decide +kernel
theorem pokeS_d : (pokeF simB simM 9 77).2.2.1.length ≤ 10 ∧ (pokeF simB simM 9 77).2.2.1.all devOk = true := by decide +kernel
theorem peekS_eq : (bif true then (peekF simB (pokeF simB simM 9 77) 9 == 77) else false) = true := by decide +kernel
def simpleRS : PSpec := ⟨[], fun _ => (none, .agg [.imm (.string ⟨#[98]⟩), .imm (.string ⟨#[99]⟩), .imm (.slice none 0 0), .imm (.slice none 0 0), .imm (.slice none 0 0), .imm (.slice none 0 0), .ro ChipT [simC], .imm (.slice none 0 0)], [])⟩
theorem simpleR_ok : GoodF Tryz.prog 69 simpleRS.spec := by
  have hT := tab_ok (fs := []) tree_ok
  have hP : SpecsOk Tryz.prog (tab tree []) := specs_nil
  refine simpleRS.good (fn := Tryz.f69) hT hP Tryz.func69 (by kernel_rfl) rfl fun _ => ?_
  repeat' first
    | (refine Go.mk ?_; conv => whnf)
    | refine Need.go ?_ ?_
    | refine NilG.go (fun _ => ?_) (fun _ => ?_)
    | refine Br.dec (fun _ => ?_) (fun _ => ?_)
    | refine Br.go (fun _ => ?_) (fun _ => ?_)
    | refine draw_go hT hP mixed ?_
    | refine round_go hT hP ?_
  all_goals first
    | exact of_decide_eq_true rfl
    | exact .mk [1] [] _ rfl rfl rfl rfl rfl rfl rfl
    | skip
def machinesS : PSpec := ⟨[], fun _ => (none, .cell (bv true), [])⟩
theorem machines_ok : GoodF Tryz.prog 19 machinesS.spec := by
  have hT := tab_ok (fs := [(69, simpleRS.spec), (68, mnew0S.spec), (24, mpokeS.spec), (25, mpeekS.spec)]) tree_ok
  have hP : SpecsOk Tryz.prog (tab tree [(69, simpleRS.spec), (68, mnew0S.spec), (24, mpokeS.spec), (25, mpeekS.spec)]) := specs_cons simpleR_ok (specs_cons mnew0_ok (specs_cons mpoke_ok (specs_cons mpeek_ok specs_nil)))
  refine machinesS.good (fn := Tryz.f19) hT hP Tryz.func19 (by kernel_rfl) rfl fun _ => ?_
  repeat' first
    | (refine Go.mk ?_; conv => whnf)
    | refine Need.go ?_ ?_
    | refine NilG.go (fun _ => ?_) (fun _ => ?_)
    | refine Br.dec (fun _ => ?_) (fun _ => ?_)
    | refine Br.go (fun _ => ?_) (fun _ => ?_)
    | refine draw_go hT hP mixed ?_
    | refine round_go hT hP ?_
  all_goals (try dsimp only [castL_eq] at *)
  all_goals clear hT hP
  · exact rfl
  · exact sim_pp simM_d
  · exact sim_pp pokeS_d
  · exact .mk [] [] _ rfl rfl rfl rfl rfl rfl (imm_bool peekS_eq)

end Go.Proofs.YtblnigjmcjpopaaGreat

/- bakelaw1.MachPeeks answers true, whatever it is given. -/
namespace Go.Proofs.YtblnigjmcjpopaaGreat
open Go.Fw
set_option linter.unusedVariables false
set_option linter.unusedSimpArgs false
set_option linter.constructorNameAsVariable false
set_option maxRecDepth 100000

def goodM (m : Mach) : Prop := packP m ∧ memU m
structure MpP (b : Bd) (m n : Mach) (a k : Int) : Prop where
  pk : peekP b m
  gm : goodM m
  gn : goodM n
  sm : okSm m
  sn : n.2.1.1.length = 9
  gp : goodM (pokeF b m a k)
theorem own_sub {b : Bd} {m : Mach} {a : Int} (h : peekP b m) (h1 : 0 ≤ findF b (adI a)) : IntKind.i64.wrap (adI a - (chAt b a).2.2.1) = adI a - (chAt b a).2.2.1 := by
  have ho : ownB (adI a) (chAt b a) = true := fstI_get (dflt ChipT) h1
  unfold ownB at ho
  simp only [Bool.and_eq_true, decide_eq_true_eq] at ho
  obtain ⟨f2, _⟩ := fI_of h1
  have hc := h.1.2 (chAt b a) (memD' _ (by have h1 : 0 ≤ findF b (adI a) := h1; omega))
  have h3 := ho.1
  have h4 := ho.2.2
  have h5 := hc.2.1.2
  exact w64 (by omega) (by omega)
theorem poke_no {b : Bd} {m : Mach} {a k : Int} (h : ¬ memAt b m a) : pokeF b m a k = m := if_neg h
def mpS : PSpec := ⟨[gBd, gM, gM, gi, gi], fun (b, m, n, a, k, _) => (some (MpP b m n a k), .cell (bv true), [])⟩
set_option maxHeartbeats 2000000 in
theorem mp_ok : GoodF Tryz.prog 4 mpS.spec := by
  have hT := tab_ok (fs := [(19, machinesS.spec), (20, msameS.spec), (21, rEqualS.spec), (22, modS.spec), (23, rownerS.spec), (24, mpokeS.spec), (25, mpeekS.spec), (7, kLoadedS.spec), (26, clDevS.spec), (10, kStoredS.spec)]) tree_ok
  have hP : SpecsOk Tryz.prog (tab tree [(19, machinesS.spec), (20, msameS.spec), (21, rEqualS.spec), (22, modS.spec), (23, rownerS.spec), (24, mpokeS.spec), (25, mpeekS.spec), (7, kLoadedS.spec), (26, clDevS.spec), (10, kStoredS.spec)]) := specs_cons machines_ok (specs_cons msame_ok (specs_cons rEqual_ok (specs_cons mod_ok (specs_cons rOwner_ok (specs_cons mpoke_ok (specs_cons mpeek_ok (specs_cons kLoaded_ok (specs_cons clDev_ok (specs_cons kStored_ok specs_nil)))))))))
  refine mpS.good (fn := Tryz.f4) hT hP Tryz.func4 (by kernel_rfl) rfl fun (b : Bd) (m n : Mach) (a k : Int) hq => ?_
  have hp : MpP b m n a k := hq _ rfl
  clear hq
  have hbP := peek_bP hp.pk a
  have hsub := @own_sub b m a hp.pk
  obtain ⟨bn, ⟨un, ui, ur, uq, um⟩, bc, bw⟩ := b
  obtain ⟨tm, ⟨r, op, at_, nmi⟩, ds, bd, ba, bdt⟩ := m
  obtain ⟨tm', ⟨r', op', at', nmi'⟩, ds', bd', ba', bdt'⟩ := n
  repeat' first
    | (refine Go.mk ?_; conv => whnf)
    | refine Need.go ?_ ?_
    | refine NilG.go (fun _ => ?_) (fun _ => ?_)
    | refine Br.dec (fun _ => ?_) (fun _ => ?_)
    | refine Br.go (fun _ => ?_) (fun _ => ?_)
    | refine draw_go hT hP mixed ?_
    | refine round_go hT hP ?_
  all_goals (try dsimp only [castL_eq] at *)
  all_goals clear hT hP
  · exact ⟨hp.sm, hp.sn⟩
  · exact ⟨hp.gm, hp.gn⟩
  · rename_i g1
    exfalso
    have g1 : (sameM (tm, (r, op, at_, nmi), ds, bd, ba, bdt) (tm', (r', op', at', nmi'), ds', bd', ba', bdt') != sameM (tm, (r, op, at_, nmi), ds, bd, ba, bdt) (tm', (r', op', at', nmi'), ds', bd', ba', bdt')) = true := g1
    rw [bne_self_eq_false] at g1; cases g1
  · exact ⟨hp.sm, hp.sm.1⟩
  · rename_i g1 g2
    exfalso
    have g2 : (!sameM (tm, (r, op, at_, nmi), ds, bd, ba, bdt) (tm, (r, op, at_, nmi), ds, bd, ba, bdt)) = true := g2
    have e : sameM (tm, (r, op, at_, nmi), ds, bd, ba, bdt) (tm, (r, op, at_, nmi), ds, bd, ba, bdt) = true := eqB_t rfl
    rw [e] at g2; cases g2
  · exact of_decide_eq_true rfl
  · exact hbP
  · exact hp.pk
  · exact hp.pk
  · exact ⟨hp.gp, hp.gm⟩
  · have h0 : findF (bn, (un, ui, ur, uq, um), bc, bw) (adI a) < 0 := by assumption
    have h : ¬ memAt (bn, (un, ui, ur, uq, um), bc, bw) (tm, (r, op, at_, nmi), ds, bd, ba, bdt) a := fun h => by have := h.1.1; omega
    refine .mk [] [] _ rfl rfl rfl rfl rfl rfl (imm_bool ?_)
    show sameM (pokeF (bn, (un, ui, ur, uq, um), bc, bw) (tm, (r, op, at_, nmi), ds, bd, ba, bdt) a k) (tm, (r, op, at_, nmi), ds, bd, ba, bdt) = true
    rw [poke_no h]; exact eqB_t rfl
  · have h0 : findF (bn, (un, ui, ur, uq, um), bc, bw) (adI a) < 0 := by assumption
    have h : ¬ memAt (bn, (un, ui, ur, uq, um), bc, bw) (tm, (r, op, at_, nmi), ds, bd, ba, bdt) a := fun h => by have := h.1.1; omega
    exfalso
    rename_i gz
    exact gz (if_neg h)
  · exact hp.pk
  · exact ⟨hp.gp, hp.gm⟩
  · have h0 : findF (bn, (un, ui, ur, uq, um), bc, bw) (adI a) ≥ (ds.length : Int) := by assumption
    have h : ¬ memAt (bn, (un, ui, ur, uq, um), bc, bw) (tm, (r, op, at_, nmi), ds, bd, ba, bdt) a := fun h => by have h := h.1.2; have h : findF (bn, (un, ui, ur, uq, um), bc, bw) (adI a) < (ds.length : Nat) := h; omega
    refine .mk [] [] _ rfl rfl rfl rfl rfl rfl (imm_bool ?_)
    show sameM (pokeF (bn, (un, ui, ur, uq, um), bc, bw) (tm, (r, op, at_, nmi), ds, bd, ba, bdt) a k) (tm, (r, op, at_, nmi), ds, bd, ba, bdt) = true
    rw [poke_no h]; exact eqB_t rfl
  · have h0 : findF (bn, (un, ui, ur, uq, um), bc, bw) (adI a) ≥ (ds.length : Int) := by assumption
    have h : ¬ memAt (bn, (un, ui, ur, uq, um), bc, bw) (tm, (r, op, at_, nmi), ds, bd, ba, bdt) a := fun h => by have h := h.1.2; have h : findF (bn, (un, ui, ur, uq, um), bc, bw) (adI a) < (ds.length : Nat) := h; omega
    exfalso
    rename_i gz
    exact gz (if_neg h)
  · have h0 : ¬ findF (bn, (un, ui, ur, uq, um), bc, bw) (adI a) < 0 := by assumption
    exact ⟨by omega, (fI_of (b := (bn, (un, ui, ur, uq, um), bc, bw)) (a := adI a) (by omega)).1⟩
  · exact hp.pk
  · exact ⟨hp.gp, hp.gm⟩
  · have h0 : (chAt (bn, (un, ui, ur, uq, um), bc, bw) a).2.1 < 0 := by assumption
    have h : ¬ memAt (bn, (un, ui, ur, uq, um), bc, bw) (tm, (r, op, at_, nmi), ds, bd, ba, bdt) a := fun h => by have := h.2.1; omega
    refine .mk [] [] _ rfl rfl rfl rfl rfl rfl (imm_bool ?_)
    show sameM (pokeF (bn, (un, ui, ur, uq, um), bc, bw) (tm, (r, op, at_, nmi), ds, bd, ba, bdt) a k) (tm, (r, op, at_, nmi), ds, bd, ba, bdt) = true
    rw [poke_no h]; exact eqB_t rfl
  · have h0 : (chAt (bn, (un, ui, ur, uq, um), bc, bw) a).2.1 < 0 := by assumption
    have h : ¬ memAt (bn, (un, ui, ur, uq, um), bc, bw) (tm, (r, op, at_, nmi), ds, bd, ba, bdt) a := fun h => by have := h.2.1; omega
    exfalso
    rename_i gz
    exact gz (if_neg h)
  · have h0 : ¬ findF (bn, (un, ui, ur, uq, um), bc, bw) (adI a) < 0 := by assumption
    exact ⟨by omega, (fI_of (b := (bn, (un, ui, ur, uq, um), bc, bw)) (a := adI a) (by omega)).1⟩
  · exact hp.pk
  · exact ⟨hp.gp, hp.gm⟩
  · have h0 : (chAt (bn, (un, ui, ur, uq, um), bc, bw) a).2.1 > 2 := by assumption
    have h : ¬ memAt (bn, (un, ui, ur, uq, um), bc, bw) (tm, (r, op, at_, nmi), ds, bd, ba, bdt) a := fun h => by have := h.2.2; omega
    refine .mk [] [] _ rfl rfl rfl rfl rfl rfl (imm_bool ?_)
    show sameM (pokeF (bn, (un, ui, ur, uq, um), bc, bw) (tm, (r, op, at_, nmi), ds, bd, ba, bdt) a k) (tm, (r, op, at_, nmi), ds, bd, ba, bdt) = true
    rw [poke_no h]; exact eqB_t rfl
  · have h0 : (chAt (bn, (un, ui, ur, uq, um), bc, bw) a).2.1 > 2 := by assumption
    have h : ¬ memAt (bn, (un, ui, ur, uq, um), bc, bw) (tm, (r, op, at_, nmi), ds, bd, ba, bdt) a := fun h => by have := h.2.2; omega
    exfalso
    rename_i gz
    exact gz (if_neg h)
  · have h0 : ¬ findF (bn, (un, ui, ur, uq, um), bc, bw) (adI a) < 0 := by assumption
    exact ⟨by omega, (fI_of (b := (bn, (un, ui, ur, uq, um), bc, bw)) (a := adI a) (by omega)).1⟩
  · have h0 : ¬ findF (bn, (un, ui, ur, uq, um), bc, bw) (adI a) < 0 := by assumption
    have h1 : ¬ findF (bn, (un, ui, ur, uq, um), bc, bw) (adI a) ≥ (ds.length : Int) := by assumption
    show 0 ≤ findF (bn, (un, ui, ur, uq, um), bc, bw) (adI a) ∧ findF (bn, (un, ui, ur, uq, um), bc, bw) (adI a) < (ds.length : Int)
    omega
  · have h0 : ¬ findF (bn, (un, ui, ur, uq, um), bc, bw) (adI a) < 0 := by assumption
    have h1 : ¬ findF (bn, (un, ui, ur, uq, um), bc, bw) (adI a) ≥ (ds.length : Int) := by assumption
    have h2 := (fI_of (b := (bn, (un, ui, ur, uq, um), bc, bw)) (a := adI a) (by omega)).1
    have h2 : findF (bn, (un, ui, ur, uq, um), bc, bw) (adI a) < (bc.length : Nat) := h2
    exact ⟨hp.pk.1.2 _ (memD' (l := bc) (dflt ChipT) (show (findF (bn, (un, ui, ur, uq, um), bc, bw) (adI a)).toNat < bc.length by omega)), hp.pk.2.2 _ (memD' (l := ds) (dflt DevT) (show (findF (bn, (un, ui, ur, uq, um), bc, bw) (adI a)).toNat < ds.length by omega))⟩
  · exact hp.pk.2.1.1
  · have h0 : ¬ findF (bn, (un, ui, ur, uq, um), bc, bw) (adI a) < 0 := by assumption
    have h1 : ¬ findF (bn, (un, ui, ur, uq, um), bc, bw) (adI a) ≥ (ds.length : Int) := by assumption
    show 0 ≤ findF (bn, (un, ui, ur, uq, um), bc, bw) (adI a) ∧ findF (bn, (un, ui, ur, uq, um), bc, bw) (adI a) < (ds.length : Int)
    omega
  · have h0 : ¬ findF (bn, (un, ui, ur, uq, um), bc, bw) (adI a) < 0 := by assumption
    have h1 : ¬ findF (bn, (un, ui, ur, uq, um), bc, bw) (adI a) ≥ (ds.length : Int) := by assumption
    have h2 := (fI_of (b := (bn, (un, ui, ur, uq, um), bc, bw)) (a := adI a) (by omega)).1
    have h2 : findF (bn, (un, ui, ur, uq, um), bc, bw) (adI a) < (bc.length : Nat) := h2
    exact ⟨hp.pk.1.2 _ (memD' (l := bc) (dflt ChipT) (show (findF (bn, (un, ui, ur, uq, um), bc, bw) (adI a)).toNat < bc.length by omega)), hp.pk.2.2 _ (memD' (l := ds) (dflt DevT) (show (findF (bn, (un, ui, ur, uq, um), bc, bw) (adI a)).toNat < ds.length by omega))⟩
  · have h0 : ¬ findF (bn, (un, ui, ur, uq, um), bc, bw) (adI a) < 0 := by assumption
    have h1 : ¬ findF (bn, (un, ui, ur, uq, um), bc, bw) (adI a) ≥ (ds.length : Int) := by assumption
    show 0 ≤ findF (bn, (un, ui, ur, uq, um), bc, bw) (adI a) ∧ findF (bn, (un, ui, ur, uq, um), bc, bw) (adI a) < (ds.length : Int)
    omega
  · have h0 : ¬ findF (bn, (un, ui, ur, uq, um), bc, bw) (adI a) < 0 := by assumption
    have h1 : ¬ findF (bn, (un, ui, ur, uq, um), bc, bw) (adI a) ≥ (ds.length : Int) := by assumption
    show (findF (bn, (un, ui, ur, uq, um), bc, bw) (adI a)).toNat < ds.length
    omega
  · exact hp.pk
  · skip
    have h0 : ¬ findF (bn, (un, ui, ur, uq, um), bc, bw) (adI a) < 0 := by assumption
    have h1 : ¬ findF (bn, (un, ui, ur, uq, um), bc, bw) (adI a) ≥ (ds.length : Int) := by assumption
    have h2 : ¬ (chAt (bn, (un, ui, ur, uq, um), bc, bw) a).2.1 < 0 := by assumption
    have h3 : ¬ (chAt (bn, (un, ui, ur, uq, um), bc, bw) a).2.1 > 2 := by assumption
    have h : memAt (bn, (un, ui, ur, uq, um), bc, bw) (tm, (r, op, at_, nmi), ds, bd, ba, bdt) a := ⟨⟨by omega, by show findF (bn, (un, ui, ur, uq, um), bc, bw) (adI a) < (ds.length : Int); omega⟩, by omega, by omega⟩
    have e := hsub (by omega)
    have e2 : ((tm, (r, op, at_, nmi), ds.set (findF (bn, (un, ui, ur, uq, um), bc, bw) (adI a)).toNat (storeF (chAt (bn, (un, ui, ur, uq, um), bc, bw) a) (dvAt (bn, (un, ui, ur, uq, um), bc, bw) (tm, (r, op, at_, nmi), ds, bd, ba, bdt) a) (IntKind.i64.wrap (adI a - (chAt (bn, (un, ui, ur, uq, um), bc, bw) a).2.2.1)) k), bd, ba, bdt) : Mach) = pokeF (bn, (un, ui, ur, uq, um), bc, bw) (tm, (r, op, at_, nmi), ds, bd, ba, bdt) a k := by
      rw [e]; exact (if_pos h).symm
    refine ⟨hp.gp, ?_⟩
    have hg := hp.gp
    rw [← e2] at hg
    exact hg
  · skip
    have h0 : ¬ findF (bn, (un, ui, ur, uq, um), bc, bw) (adI a) < 0 := by assumption
    have h1 : ¬ findF (bn, (un, ui, ur, uq, um), bc, bw) (adI a) ≥ (ds.length : Int) := by assumption
    have h2 : ¬ (chAt (bn, (un, ui, ur, uq, um), bc, bw) a).2.1 < 0 := by assumption
    have h3 : ¬ (chAt (bn, (un, ui, ur, uq, um), bc, bw) a).2.1 > 2 := by assumption
    have h : memAt (bn, (un, ui, ur, uq, um), bc, bw) (tm, (r, op, at_, nmi), ds, bd, ba, bdt) a := ⟨⟨by omega, by show findF (bn, (un, ui, ur, uq, um), bc, bw) (adI a) < (ds.length : Int); omega⟩, by omega, by omega⟩
    have e := hsub (by omega)
    have e2 : ((tm, (r, op, at_, nmi), ds.set (findF (bn, (un, ui, ur, uq, um), bc, bw) (adI a)).toNat (storeF (chAt (bn, (un, ui, ur, uq, um), bc, bw) a) (dvAt (bn, (un, ui, ur, uq, um), bc, bw) (tm, (r, op, at_, nmi), ds, bd, ba, bdt) a) (IntKind.i64.wrap (adI a - (chAt (bn, (un, ui, ur, uq, um), bc, bw) a).2.2.1)) k), bd, ba, bdt) : Mach) = pokeF (bn, (un, ui, ur, uq, um), bc, bw) (tm, (r, op, at_, nmi), ds, bd, ba, bdt) a k := by
      rw [e]; exact (if_pos h).symm
    refine .mk [] [] _ rfl rfl rfl rfl rfl rfl (imm_bool ?_)
    show sameM (pokeF (bn, (un, ui, ur, uq, um), bc, bw) (tm, (r, op, at_, nmi), ds, bd, ba, bdt) a k) (tm, (r, op, at_, nmi), ds.set (findF (bn, (un, ui, ur, uq, um), bc, bw) (adI a)).toNat (storeF (chAt (bn, (un, ui, ur, uq, um), bc, bw) a) (dvAt (bn, (un, ui, ur, uq, um), bc, bw) (tm, (r, op, at_, nmi), ds, bd, ba, bdt) a) (IntKind.i64.wrap (adI a - (chAt (bn, (un, ui, ur, uq, um), bc, bw) a).2.2.1)) k), bd, ba, bdt) = true
    rw [e2]; exact eqB_t rfl
  · rename_i gz
    have h0 : ¬ findF (bn, (un, ui, ur, uq, um), bc, bw) (adI a) < 0 := by assumption
    have h1 : ¬ findF (bn, (un, ui, ur, uq, um), bc, bw) (adI a) ≥ (ds.length : Int) := by assumption
    have h2 : ¬ (chAt (bn, (un, ui, ur, uq, um), bc, bw) a).2.1 < 0 := by assumption
    have h3 : ¬ (chAt (bn, (un, ui, ur, uq, um), bc, bw) a).2.1 > 2 := by assumption
    have h : memAt (bn, (un, ui, ur, uq, um), bc, bw) (tm, (r, op, at_, nmi), ds, bd, ba, bdt) a := ⟨⟨by omega, by show findF (bn, (un, ui, ur, uq, um), bc, bw) (adI a) < (ds.length : Int); omega⟩, by omega, by omega⟩
    have e := hsub (by omega)
    have e2 : ((tm, (r, op, at_, nmi), ds.set (findF (bn, (un, ui, ur, uq, um), bc, bw) (adI a)).toNat (storeF (chAt (bn, (un, ui, ur, uq, um), bc, bw) a) (dvAt (bn, (un, ui, ur, uq, um), bc, bw) (tm, (r, op, at_, nmi), ds, bd, ba, bdt) a) (IntKind.i64.wrap (adI a - (chAt (bn, (un, ui, ur, uq, um), bc, bw) a).2.2.1)) k), bd, ba, bdt) : Mach) = pokeF (bn, (un, ui, ur, uq, um), bc, bw) (tm, (r, op, at_, nmi), ds, bd, ba, bdt) a k := by
      rw [e]; exact (if_pos h).symm
    exfalso
    have e3 : peekF (bn, (un, ui, ur, uq, um), bc, bw) (tm, (r, op, at_, nmi), ds, bd, ba, bdt) a = loadI (chAt (bn, (un, ui, ur, uq, um), bc, bw) a) (dvAt (bn, (un, ui, ur, uq, um), bc, bw) (tm, (r, op, at_, nmi), ds, bd, ba, bdt) a) (IntKind.i64.wrap (adI a - (chAt (bn, (un, ui, ur, uq, um), bc, bw) a).2.2.1)) := by
      rw [e]; exact if_pos h
    exact gz e3

end Go.Proofs.YtblnigjmcjpopaaGreat

