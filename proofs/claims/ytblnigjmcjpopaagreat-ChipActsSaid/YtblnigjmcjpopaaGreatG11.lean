/- Part 11 of the proof: Kind5 Kind6 VideoTicks DriveTicks TickD Fw32 KindW ActsW. No statement is handed in here; conditions: none. -/
import Derived.Test.YtblnigjmcjpopaaGreatG10
import Derived.Test.YtblnigjmcjpopaaGreatG9
import Derived.Test.YtblnigjmcjpopaaGreatG7
import Derived.Test.YtblnigjmcjpopaaGreatG8
import Derived.Carry
import Derived.OpenShut
/- Chips read, written, given numbers and asked, whatever the kind: the law ChipActs. -/
namespace Go.Proofs.YtblnigjmcjpopaaGreat
open Go.Fw
set_option linter.unusedVariables false
set_option linter.unusedSimpArgs false
set_option linter.constructorNameAsVariable false
set_option maxRecDepth 100000

theorem kxg {k : Int} (h : k < 0 ∨ 8 < k) : k ≠ 4 ∧ k ≠ 5 ∧ k ≠ 8 := by omega
theorem kxa {k : Int} (h : k < 0 ∨ 8 < k) : k ≠ 3 ∧ k ≠ 5 ∧ k ≠ 8 := by omega
theorem kxs {k : Int} (h : k < 0 ∨ 8 < k) : k < 4 ∨ 8 < k := by omega
def kLoadedS : PSpec := ⟨[gC, gD, gi], fun (c, d, a, _) => (some (cP c ∧ dP d), .tup [devM1, I1 (loadI c d a)], [.arr (.int .i64) (loadD c d a).1, .arr (.int .u8) (loadD c d a).2])⟩
theorem kLoaded_ok : GoodF Tryz.prog 7 kLoadedS.spec := by
  refine GoodF.sel kLoaded0_ok fun (c, d, a, _) hp => ?_
  obtain ⟨cn, ck, cb, cs, cd⟩ := c
  obtain ⟨N, M⟩ := d
  obtain ⟨hc, hl, hu⟩ : cP (cn, ck, cb, cs, cd) ∧ dP (N, M) := hp _ rfl
  clear hp
  show ∃ o1 : Args [gC, gD, gi] → Option Prop × AV × List Blk, _
  rcases kinds ck with rfl | rfl | rfl | rfl | rfl | rfl | rfl | rfl | rfl | hx
  · exact ⟨_, kLoaded0_ok, fun q hq => by cases hq; exact ⟨⟨hc, hl, hu⟩, .inl rfl⟩, .refl⟩
  · exact ⟨_, kLoaded0_ok, fun q hq => by cases hq; exact ⟨⟨hc, hl, hu⟩, .inr (.inl rfl)⟩, .refl⟩
  · exact ⟨_, kLoaded0_ok, fun q hq => by cases hq; exact ⟨⟨hc, hl, hu⟩, .inr (.inr (.inl rfl))⟩, .refl⟩
  · exact ⟨_, tloaded_ok, fun q hq => by cases hq; rfl, .nil (.int .u8) rfl .refl⟩
  · exact ⟨_, ploaded_ok, fun q hq => by cases hq; rfl, .nil (.int .u8) rfl .refl⟩
  · exact ⟨_, sloaded_ok, fun q hq => by cases hq; rfl, .nil (.int .u8) rfl .refl⟩
  · exact ⟨_, vloaded_ok, fun q hq => by cases hq; exact ⟨rfl, hu⟩, .refl⟩
  · exact ⟨_, oloaded_ok, fun q hq => by cases hq; rfl, .nil (.int .u8) rfl .refl⟩
  · exact ⟨_, dloadedO_ok, fun q hq => by cases hq; exact ⟨rfl, hl⟩, .refl⟩
  · exact ⟨_, kLoaded0_ok, fun q hq => by cases hq; exact ⟨⟨hc, hl, hu⟩, .inr (.inr (.inr hx))⟩, .refl⟩

def kStoredS : PSpec := ⟨[gC, gD, gi, gi], fun (c, d, a, k, _) => (some (cP c ∧ dP d), devM, [.arr (.int .i64) (storeF c d a k).1, .arr (.int .u8) (storeF c d a k).2])⟩
theorem kStored_ok : GoodF Tryz.prog 10 kStoredS.spec := by
  refine GoodF.sel kStored0_ok fun (c, d, a, k, _) hp => ?_
  obtain ⟨cn, ck, cb, cs, cd⟩ := c
  obtain ⟨N, M⟩ := d
  obtain ⟨hc, hl, hu⟩ : cP (cn, ck, cb, cs, cd) ∧ dP (N, M) := hp _ rfl
  clear hp
  show ∃ o1 : Args [gC, gD, gi, gi] → Option Prop × AV × List Blk, _
  rcases kinds ck with rfl | rfl | rfl | rfl | rfl | rfl | rfl | rfl | rfl | hx
  · exact ⟨_, kStored0_ok, fun q hq => by cases hq; exact ⟨⟨hc, hl, hu⟩, .inl rfl⟩, .refl⟩
  · exact ⟨_, kStored0_ok, fun q hq => by cases hq; exact ⟨⟨hc, hl, hu⟩, .inr (.inl rfl)⟩, .refl⟩
  · exact ⟨_, kStored0_ok, fun q hq => by cases hq; exact ⟨⟨hc, hl, hu⟩, .inr (.inr (.inl rfl))⟩, .refl⟩
  · exact ⟨_, tstored_ok, fun q hq => by cases hq; rfl, .nil (.int .u8) rfl .refl⟩
  · exact ⟨_, pstored_ok, fun q hq => by cases hq; rfl, .nil (.int .u8) rfl .refl⟩
  · exact ⟨_, sstored_ok, fun q hq => by cases hq; rfl, .nil (.int .u8) rfl .refl⟩
  · exact ⟨_, vstored_ok, fun q hq => by cases hq; rfl, .refl⟩
  · exact ⟨_, ostored_ok, fun q hq => by cases hq; rfl, .nil (.int .u8) rfl .refl⟩
  · exact ⟨_, dstoredO_ok, fun q hq => by cases hq; exact ⟨rfl, hl⟩, .refl⟩
  · exact ⟨_, kStored0_ok, fun q hq => by cases hq; exact ⟨⟨hc, hl, hu⟩, .inr (.inr (.inr hx))⟩, .refl⟩

def kGivenS : PSpec := ⟨[gC, gD, gi], fun (c, d, k, _) => (some (cP c ∧ dP d), devM, [.arr (.int .i64) (givF c d k).1, .arr (.int .u8) (givF c d k).2])⟩
theorem kGiven_ok : GoodF Tryz.prog 12 kGivenS.spec := by
  refine GoodF.sel kGiven0_ok fun (c, d, k, _) hp => ?_
  obtain ⟨cn, ck, cb, cs, cd⟩ := c
  obtain ⟨N, M⟩ := d
  obtain ⟨hc, hl, hu⟩ : cP (cn, ck, cb, cs, cd) ∧ dP (N, M) := hp _ rfl
  clear hp
  show ∃ o1 : Args [gC, gD, gi] → Option Prop × AV × List Blk, _
  rcases kinds ck with rfl | rfl | rfl | rfl | rfl | rfl | rfl | rfl | rfl | hx
  · exact ⟨_, kGiven0_ok, fun q hq => by cases hq; exact ⟨⟨hc, hl, hu⟩, (by decide : (0 : Int) ≠ 4 ∧ (0 : Int) ≠ 5 ∧ (0 : Int) ≠ 8)⟩, .refl⟩
  · exact ⟨_, kGiven0_ok, fun q hq => by cases hq; exact ⟨⟨hc, hl, hu⟩, (by decide : (1 : Int) ≠ 4 ∧ (1 : Int) ≠ 5 ∧ (1 : Int) ≠ 8)⟩, .refl⟩
  · exact ⟨_, kGiven0_ok, fun q hq => by cases hq; exact ⟨⟨hc, hl, hu⟩, (by decide : (2 : Int) ≠ 4 ∧ (2 : Int) ≠ 5 ∧ (2 : Int) ≠ 8)⟩, .refl⟩
  · exact ⟨_, kGiven0_ok, fun q hq => by cases hq; exact ⟨⟨hc, hl, hu⟩, (by decide : (3 : Int) ≠ 4 ∧ (3 : Int) ≠ 5 ∧ (3 : Int) ≠ 8)⟩, .refl⟩
  · exact ⟨_, pgiven_ok, fun q hq => by cases hq; rfl, .nil (.int .u8) rfl .refl⟩
  · exact ⟨_, sgiven_ok, fun q hq => by cases hq; rfl, .nil (.int .u8) rfl .refl⟩
  · exact ⟨_, kGiven0_ok, fun q hq => by cases hq; exact ⟨⟨hc, hl, hu⟩, (by decide : (6 : Int) ≠ 4 ∧ (6 : Int) ≠ 5 ∧ (6 : Int) ≠ 8)⟩, .refl⟩
  · exact ⟨_, kGiven0_ok, fun q hq => by cases hq; exact ⟨⟨hc, hl, hu⟩, (by decide : (7 : Int) ≠ 4 ∧ (7 : Int) ≠ 5 ∧ (7 : Int) ≠ 8)⟩, .refl⟩
  · exact ⟨_, dgivenO_ok, fun q hq => by cases hq; exact ⟨rfl, hl⟩, .refl⟩
  · refine ⟨_, kGiven0_ok, fun q hq => by cases hq; exact ⟨⟨hc, hl, hu⟩, kxg hx⟩, ?_⟩
    have e : formF (cn, ck, cb, cs, cd) (N, M) = givF (cn, ck, cb, cs, cd) (N, M) k := by unfold formF givF; rw [sel_x hx, sel_x hx]
    show Conv (devM, [Blk.arr (.int .i64) (formF (cn, ck, cb, cs, cd) (N, M)).1, .arr (.int .u8) (formF (cn, ck, cb, cs, cd) (N, M)).2]) _
    rw [e]
    exact .refl

def kaskF (c : Cv) (d : Dv) : Bool := sel c.2.1 false (decide (tF d.1 = 1) && decide (tC d.1 ≥ 4)) false (sirqF d.1) false false (dirqF d.1) false
def shwF (c : Cv) (d : Dv) : Int := sel c.2.1 0 0 (land .i64 (d.1.getD 1 0 % 256) (d.1.getD 2 0 % 256)) (s6 d.1 * 256 + s7 d.1) (colorF (vM d.2) (vP d.1)) (ooutF d.1) (e1 d.1) 0
def rstF (c : Cv) (d : Dv) : Int := sel c.2.1 100000 (tnextF d.1) 100000 (snextF d.1) (vnextF (vM d.2) (vP d.1)) (onextF d.1) (dnextF d.1) 100000
def kAskingS : PSpec := ⟨[gC, gD], fun (c, d, _) => (some (cP c ∧ dP d), .cell (bv (kaskF c d)), [])⟩
theorem kAsking_ok : GoodF Tryz.prog 14 kAskingS.spec := by
  refine GoodF.sel kAsking0_ok fun (c, d, _) hp => ?_
  obtain ⟨cn, ck, cb, cs, cd⟩ := c
  obtain ⟨N, M⟩ := d
  obtain ⟨hc, hl, hu⟩ : cP (cn, ck, cb, cs, cd) ∧ dP (N, M) := hp _ rfl
  clear hp
  show ∃ o1 : Args [gC, gD] → Option Prop × AV × List Blk, _
  rcases kinds ck with rfl | rfl | rfl | rfl | rfl | rfl | rfl | rfl | rfl | hx
  · exact ⟨_, kAsking0_ok, fun q hq => by cases hq; exact ⟨⟨hc, hl, hu⟩, (by decide : (0 : Int) ≠ 3 ∧ (0 : Int) ≠ 5 ∧ (0 : Int) ≠ 8)⟩, .refl⟩
  · exact ⟨_, kAsking0_ok, fun q hq => by cases hq; exact ⟨⟨hc, hl, hu⟩, (by decide : (1 : Int) ≠ 3 ∧ (1 : Int) ≠ 5 ∧ (1 : Int) ≠ 8)⟩, .refl⟩
  · exact ⟨_, kAsking0_ok, fun q hq => by cases hq; exact ⟨⟨hc, hl, hu⟩, (by decide : (2 : Int) ≠ 3 ∧ (2 : Int) ≠ 5 ∧ (2 : Int) ≠ 8)⟩, .refl⟩
  · exact ⟨_, task_ok, fun q hq => by cases hq; rfl, .refl⟩
  · exact ⟨_, kAsking0_ok, fun q hq => by cases hq; exact ⟨⟨hc, hl, hu⟩, (by decide : (4 : Int) ≠ 3 ∧ (4 : Int) ≠ 5 ∧ (4 : Int) ≠ 8)⟩, .refl⟩
  · exact ⟨_, sask_ok, fun q hq => by cases hq; rfl, .refl⟩
  · exact ⟨_, kAsking0_ok, fun q hq => by cases hq; exact ⟨⟨hc, hl, hu⟩, (by decide : (6 : Int) ≠ 3 ∧ (6 : Int) ≠ 5 ∧ (6 : Int) ≠ 8)⟩, .refl⟩
  · exact ⟨_, kAsking0_ok, fun q hq => by cases hq; exact ⟨⟨hc, hl, hu⟩, (by decide : (7 : Int) ≠ 3 ∧ (7 : Int) ≠ 5 ∧ (7 : Int) ≠ 8)⟩, .refl⟩
  · exact ⟨_, dask_ok, fun q hq => by cases hq; exact ⟨rfl, hl⟩, .refl⟩
  · refine ⟨_, kAsking0_ok, fun q hq => by cases hq; exact ⟨⟨hc, hl, hu⟩, kxa hx⟩, ?_⟩
    have e : kaskF (cn, ck, cb, cs, cd) (N, M) = false := by unfold kaskF; rw [sel_x hx]
    show Conv (AV.cell (bv false), []) (AV.cell (bv (kaskF (cn, ck, cb, cs, cd) (N, M))), [])
    rw [e]
    exact .refl
def kShowsS : PSpec := ⟨[gC, gD], fun (c, d, _) => (some (cP c ∧ dP d), I (shwF c d), [])⟩
theorem kShows_ok : GoodF Tryz.prog 16 kShowsS.spec := by
  refine GoodF.sel kShows0_ok fun (c, d, _) hp => ?_
  obtain ⟨cn, ck, cb, cs, cd⟩ := c
  obtain ⟨N, M⟩ := d
  obtain ⟨hc, hl, hu⟩ : cP (cn, ck, cb, cs, cd) ∧ dP (N, M) := hp _ rfl
  clear hp
  show ∃ o1 : Args [gC, gD] → Option Prop × AV × List Blk, _
  rcases kinds ck with rfl | rfl | rfl | rfl | rfl | rfl | rfl | rfl | rfl | hx
  · exact ⟨_, kShows0_ok, fun q hq => by cases hq; exact ⟨⟨hc, hl, hu⟩, .inl (by decide : (0 : Int) < 4)⟩, .refl⟩
  · exact ⟨_, kShows0_ok, fun q hq => by cases hq; exact ⟨⟨hc, hl, hu⟩, .inl (by decide : (1 : Int) < 4)⟩, .refl⟩
  · exact ⟨_, kShows0_ok, fun q hq => by cases hq; exact ⟨⟨hc, hl, hu⟩, .inl (by decide : (2 : Int) < 4)⟩, .refl⟩
  · exact ⟨_, kShows0_ok, fun q hq => by cases hq; exact ⟨⟨hc, hl, hu⟩, .inl (by decide : (3 : Int) < 4)⟩, .refl⟩
  · exact ⟨_, pshows_ok, fun q hq => by cases hq; rfl, .refl⟩
  · exact ⟨_, sshows_ok, fun q hq => by cases hq; rfl, .refl⟩
  · exact ⟨_, vshows_ok, fun q hq => by cases hq; exact ⟨rfl, hu⟩, .refl⟩
  · exact ⟨_, oshows_ok, fun q hq => by cases hq; rfl, .refl⟩
  · exact ⟨_, dshows_ok, fun q hq => by cases hq; exact ⟨rfl, hl⟩, .refl⟩
  · refine ⟨_, kShows0_ok, fun q hq => by cases hq; exact ⟨⟨hc, hl, hu⟩, kxs hx⟩, ?_⟩
    have e : shwF (cn, ck, cb, cs, cd) (N, M) = 0 := by unfold shwF; rw [sel_x hx]
    show Conv (I 0, []) (I (shwF (cn, ck, cb, cs, cd) (N, M)), [])
    rw [e]
    exact .refl
def kRestsS : PSpec := ⟨[gC, gD], fun (c, d, _) => (some (cP c ∧ dP d), I (rstF c d), [])⟩
theorem kRests_ok : GoodF Tryz.prog 18 kRestsS.spec := by
  refine GoodF.sel kRests0_ok fun (c, d, _) hp => ?_
  obtain ⟨cn, ck, cb, cs, cd⟩ := c
  obtain ⟨N, M⟩ := d
  obtain ⟨hc, hl, hu⟩ : cP (cn, ck, cb, cs, cd) ∧ dP (N, M) := hp _ rfl
  clear hp
  show ∃ o1 : Args [gC, gD] → Option Prop × AV × List Blk, _
  rcases kinds ck with rfl | rfl | rfl | rfl | rfl | rfl | rfl | rfl | rfl | hx
  · exact ⟨_, kRests0_ok, fun q hq => by cases hq; exact ⟨⟨hc, hl, hu⟩, .inl (by decide : (0 : Int) < 3)⟩, .refl⟩
  · exact ⟨_, kRests0_ok, fun q hq => by cases hq; exact ⟨⟨hc, hl, hu⟩, .inl (by decide : (1 : Int) < 3)⟩, .refl⟩
  · exact ⟨_, kRests0_ok, fun q hq => by cases hq; exact ⟨⟨hc, hl, hu⟩, .inl (by decide : (2 : Int) < 3)⟩, .refl⟩
  · exact ⟨_, trests_ok, fun q hq => by cases hq; rfl, .refl⟩
  · exact ⟨_, kRests0_ok, fun q hq => by cases hq; exact ⟨⟨hc, hl, hu⟩, .inr (.inl rfl)⟩, .refl⟩
  · exact ⟨_, srests_ok, fun q hq => by cases hq; rfl, .refl⟩
  · exact ⟨_, vrests_ok, fun q hq => by cases hq; exact ⟨rfl, hu⟩, .refl⟩
  · exact ⟨_, orests_ok, fun q hq => by cases hq; rfl, .refl⟩
  · exact ⟨_, drests_ok, fun q hq => by cases hq; exact ⟨rfl, hl⟩, .refl⟩
  · refine ⟨_, kRests0_ok, fun q hq => by cases hq; exact ⟨⟨hc, hl, hu⟩, kx3 hx⟩, ?_⟩
    have e : rstF (cn, ck, cb, cs, cd) (N, M) = 100000 := by unfold rstF; rw [sel_x hx]
    show Conv (I 100000, []) (I (rstF (cn, ck, cb, cs, cd) (N, M)), [])
    rw [e]
    exact .refl

-- the program's side

theorem skip_giv {c : Cv} (d : Dv) (k : Int) (h : c.2.1 ≠ 4 ∧ c.2.1 ≠ 5 ∧ c.2.1 ≠ 8) : skipF c d 0 = givF c d k := by
  obtain ⟨cn, ck, cb, cs, cd⟩ := c
  obtain ⟨N, M⟩ := d
  obtain ⟨h4, h5, h8⟩ := h
  rcases kinds ck with rfl | rfl | rfl | rfl | rfl | rfl | rfl | rfl | rfl | hx
  all_goals first
    | exact absurd rfl h4
    | exact absurd rfl h5
    | exact absurd rfl h8
    | rfl
    | (unfold skipF givF; rw [sel_x hx, sel_x hx])
def cInS : PSpec := ⟨[gC, gD, gi], fun (c, d, k, _) => (some (cP c ∧ dP d), devM, [.arr (.int .i64) (givF c d k).1, .arr (.int .u8) (givF c d k).2])⟩
theorem cIn_ok : GoodF Tryz.prog 11 cInS.spec := by
  have hT := tab_ok (fs := [(50, pinOS.spec), (51, sinOS.spec), (52, dchangeS.spec), (53, cSkipS.spec)]) tree_ok
  have hP : SpecsOk Tryz.prog (tab tree [(50, pinOS.spec), (51, sinOS.spec), (52, dchangeS.spec), (53, cSkipS.spec)]) := specs_cons pinO_ok (specs_cons sinO_ok (specs_cons dchange_ok (specs_cons cSkip_ok specs_nil)))
  refine cInS.good (fn := Tryz.f11) hT hP Tryz.func11 (by kernel_rfl) rfl fun (c : Cv) (d : Dv) (k : Int) hp => ?_
  obtain ⟨cn, ck, cb, cs, cd⟩ := c
  obtain ⟨N, M⟩ := d
  obtain ⟨hc, hl, hu⟩ : cP (cn, ck, cb, cs, cd) ∧ dP (N, M) := hp _ rfl
  clear hp
  rcases kinds ck with rfl | rfl | rfl | rfl | rfl | rfl | rfl | rfl | rfl | hx
  all_goals
    repeat' first
      | (refine Go.mk ?_; conv => whnf)
      | refine Need.go ?_ ?_
      | refine NilG.go (fun _ => ?_) (fun _ => ?_)
      | refine Br.dec (fun _ => ?_) (fun _ => ?_)
      | refine Br.go (fun _ => ?_) (fun _ => ?_)
      | refine draw_go hT hP mixed ?_
      | refine round_go hT hP ?_
    all_goals (try dsimp only [castL_eq] at *)
  all_goals first
    | exact ⟨hc, ⟨hl, hu⟩, by decide⟩
    | exact hl
    | exact .mk [] [3, 4] _ rfl rfl rfl rfl rfl rfl rfl
    | (exfalso; omega)
    | exact .mk [] [3, 4] _ rfl rfl rfl rfl rfl (blk_dv (skip_giv (c := (cn, ck, cb, cs, cd)) (N, M) k (kxg hx))) rfl
    | skip

def cIrqS : PSpec := ⟨[gC, gD], fun (c, d, _) => (some (cP c ∧ dP d), .cell (bv (kaskF c d)), [])⟩
theorem cIrq_ok : GoodF Tryz.prog 13 cIrqS.spec := by
  have hT := tab_ok (fs := [(54, tirqS.spec), (55, sirqS.spec), (56, dirqS.spec)]) tree_ok
  have hP : SpecsOk Tryz.prog (tab tree [(54, tirqS.spec), (55, sirqS.spec), (56, dirqS.spec)]) := specs_cons tirq_ok (specs_cons sirq_ok (specs_cons dirq_ok specs_nil))
  refine cIrqS.good (fn := Tryz.f13) hT hP Tryz.func13 (by kernel_rfl) rfl fun (c : Cv) (d : Dv) hp => ?_
  obtain ⟨cn, ck, cb, cs, cd⟩ := c
  obtain ⟨N, M⟩ := d
  obtain ⟨hc, hl, hu⟩ : cP (cn, ck, cb, cs, cd) ∧ dP (N, M) := hp _ rfl
  clear hp
  rcases kinds ck with rfl | rfl | rfl | rfl | rfl | rfl | rfl | rfl | rfl | hx
  all_goals
    repeat' first
      | (refine Go.mk ?_; conv => whnf)
      | refine Need.go ?_ ?_
      | refine NilG.go (fun _ => ?_) (fun _ => ?_)
      | refine Br.dec (fun _ => ?_) (fun _ => ?_)
      | refine Br.go (fun _ => ?_) (fun _ => ?_)
      | refine draw_go hT hP mixed ?_
      | refine round_go hT hP ?_
    all_goals (try dsimp only [castL_eq] at *)
  all_goals first
    | exact hl
    | exact .mk [] [] _ rfl rfl rfl rfl rfl rfl rfl
    | (exfalso; omega)
    | (refine .mk [] [] _ rfl rfl rfl rfl rfl rfl (imm_bool ?_); show false = kaskF (cn, ck, cb, cs, cd) (N, M); unfold kaskF; rw [sel_x hx])
    | skip
def cOutS : PSpec := ⟨[gC, gD], fun (c, d, _) => (some (cP c ∧ dP d), I (shwF c d), [])⟩
theorem cOut_ok : GoodF Tryz.prog 15 cOutS.spec := by
  have hT := tab_ok (fs := [(57, poutS.spec), (58, soutS.spec), (59, voutS.spec), (60, ooutS.spec), (61, doutS.spec)]) tree_ok
  have hP : SpecsOk Tryz.prog (tab tree [(57, poutS.spec), (58, soutS.spec), (59, voutS.spec), (60, ooutS.spec), (61, doutS.spec)]) := specs_cons pout_ok (specs_cons sout_ok (specs_cons vout_ok (specs_cons oout_ok (specs_cons dout_ok specs_nil))))
  refine cOutS.good (fn := Tryz.f15) hT hP Tryz.func15 (by kernel_rfl) rfl fun (c : Cv) (d : Dv) hp => ?_
  obtain ⟨cn, ck, cb, cs, cd⟩ := c
  obtain ⟨N, M⟩ := d
  obtain ⟨hc, hl, hu⟩ : cP (cn, ck, cb, cs, cd) ∧ dP (N, M) := hp _ rfl
  clear hp
  rcases kinds ck with rfl | rfl | rfl | rfl | rfl | rfl | rfl | rfl | rfl | hx
  all_goals
    repeat' first
      | (refine Go.mk ?_; conv => whnf)
      | refine Need.go ?_ ?_
      | refine NilG.go (fun _ => ?_) (fun _ => ?_)
      | refine Br.dec (fun _ => ?_) (fun _ => ?_)
      | refine Br.go (fun _ => ?_) (fun _ => ?_)
      | refine draw_go hT hP mixed ?_
      | refine round_go hT hP ?_
    all_goals (try dsimp only [castL_eq] at *)
  all_goals first
    | exact hl
    | exact hu
    | exact .mk [] [] _ rfl rfl rfl rfl rfl rfl rfl
    | (exfalso; omega)
    | (refine .mk [] [] _ rfl rfl rfl rfl rfl rfl (imm_int ?_); show 0 = shwF (cn, ck, cb, cs, cd) (N, M); unfold shwF; rw [sel_x hx])
    | skip
def cNextS : PSpec := ⟨[gC, gD], fun (c, d, _) => (some (cP c ∧ dP d), I (rstF c d), [])⟩
theorem cNext_ok : GoodF Tryz.prog 17 cNextS.spec := by
  have hT := tab_ok (fs := [(63, tnextS.spec), (64, snextS.spec), (65, vnextS.spec), (66, onextS.spec), (67, dnextS.spec)]) tree_ok
  have hP : SpecsOk Tryz.prog (tab tree [(63, tnextS.spec), (64, snextS.spec), (65, vnextS.spec), (66, onextS.spec), (67, dnextS.spec)]) := specs_cons tnext_ok (specs_cons snext_ok (specs_cons vnext_ok (specs_cons onext_ok (specs_cons dnext_ok specs_nil))))
  refine cNextS.good (fn := Tryz.f17) hT hP Tryz.func17 (by kernel_rfl) rfl fun (c : Cv) (d : Dv) hp => ?_
  obtain ⟨cn, ck, cb, cs, cd⟩ := c
  obtain ⟨N, M⟩ := d
  obtain ⟨hc, hl, hu⟩ : cP (cn, ck, cb, cs, cd) ∧ dP (N, M) := hp _ rfl
  clear hp
  rcases kinds ck with rfl | rfl | rfl | rfl | rfl | rfl | rfl | rfl | rfl | hx
  all_goals
    repeat' first
      | (refine Go.mk ?_; conv => whnf)
      | refine Need.go ?_ ?_
      | refine NilG.go (fun _ => ?_) (fun _ => ?_)
      | refine Br.dec (fun _ => ?_) (fun _ => ?_)
      | refine Br.go (fun _ => ?_) (fun _ => ?_)
      | refine draw_go hT hP mixed ?_
      | refine round_go hT hP ?_
    all_goals (try dsimp only [castL_eq] at *)
  all_goals first
    | exact hl
    | exact hu
    | exact .mk [] [] _ rfl rfl rfl rfl rfl rfl rfl
    | (exfalso; omega)
    | (refine .mk [] [] _ rfl rfl rfl rfl rfl rfl (imm_int ?_); show 100000 = rstF (cn, ck, cb, cs, cd) (N, M); unfold rstF; rw [sel_x hx])
    | skip

end Go.Proofs.YtblnigjmcjpopaaGreat

/- bakelaw1.ChipActs answers true, whatever it is given. -/
namespace Go.Proofs.YtblnigjmcjpopaaGreat
open Go.Fw
set_option linter.unusedVariables false
set_option linter.unusedSimpArgs false
set_option linter.constructorNameAsVariable false
set_option maxRecDepth 100000

def smallD (x : Dv) : Prop := List.length x.1 ≤ 4611686018427387904 ∧ List.length x.2 ≤ 4611686018427387904
theorem small_of {l m : List Int} (h : l.length ≤ 4611686018427387904) (h2 : m.length ≤ 4611686018427387904) : smallD (l, m) := ⟨h, h2⟩
theorem memN_le (c : Cv) (N : List Int) : (memN c N).length ≤ 1 := by
  unfold memN; split <;> (show _ ≤ 1; simp)
theorem memD_small {c : Cv} (h : cP c) (N M : List Int) : smallD (memN c N, memM c M) :=
  ⟨Nat.le_trans (memN_le c N) (by decide), Nat.le_trans (memM_le h M) (by decide)⟩
theorem memWr_small {c : Cv} (h : cP c) (d : Dv) (a k : Int) : smallD (memWr c d a k) := by
  have h1 := memN_le c d.1
  have h2 := memM_le h d.2
  unfold memWr
  split
  · exact memD_small h _ _
  · split
    · refine ⟨Nat.le_trans h1 (by decide), ?_⟩
      show ((memM c d.2).set _ _).length ≤ _
      rw [List.length_set]; omega
    · split
      · refine ⟨?_, Nat.le_trans h2 (by decide)⟩
        show ((memN c d.1).set _ _).length ≤ _
        rw [List.length_set]; omega
      · exact memD_small h _ _
theorem dM_small {M : List Int} (h : M.length ≤ 140737488355328) : (dM M).length ≤ 4611686018427387904 := by
  have := qF_le M
  rw [dM_len]; omega
theorem loadD_small {c : Cv} {d : Dv} (hc : cP c) (hd : dP d) (a : Int) : smallD (loadD c d a) := by
  obtain ⟨cn, ck, cb, cs, cd⟩ := c
  obtain ⟨N, M⟩ := d
  obtain ⟨hl, hu⟩ := hd
  rcases kinds ck with rfl | rfl | rfl | rfl | rfl | rfl | rfl | rfl | rfl | hx
  · exact memD_small (c := (cn, 0, cb, cs, cd)) hc N M
  · exact memD_small (c := (cn, 1, cb, cs, cd)) hc N M
  · exact memD_small (c := (cn, 2, cb, cs, cd)) hc N M
  · exact ⟨(by decide : 4 ≤ 4611686018427387904), Nat.zero_le _⟩
  · exact ⟨(by decide : 3 ≤ 4611686018427387904), Nat.zero_le _⟩
  · exact ⟨(by decide : 8 ≤ 4611686018427387904), Nat.zero_le _⟩
  · refine ⟨(by decide : 2 ≤ 4611686018427387904), ?_⟩
    show (vM M).length ≤ _
    rw [vM_len]; decide
  · refine ⟨?_, Nat.zero_le _⟩
    show (sndN N).length ≤ _
    unfold sndN
    rw [List.length_append, (vo_ok _ 0).len, (vo_ok _ 6).len]; decide
  · exact ⟨(by decide : 10 ≤ 4611686018427387904), dM_small hl⟩
  · unfold loadD; rw [sel_x hx]; exact ⟨Nat.zero_le _, Nat.zero_le _⟩
theorem dN_small (N : List Int) (q : Nat) : (dN N q).length ≤ 4611686018427387904 := by
  unfold dN
  split <;> exact (by decide : 10 ≤ 4611686018427387904)
theorem givF_small {c : Cv} {d : Dv} (hc : cP c) (hd : dP d) (k : Int) : smallD (givF c d k) := by
  obtain ⟨cn, ck, cb, cs, cd⟩ := c
  obtain ⟨N, M⟩ := d
  obtain ⟨hl, hu⟩ := hd
  rcases kinds ck with rfl | rfl | rfl | rfl | rfl | rfl | rfl | rfl | rfl | hx
  · exact memD_small (c := (cn, 0, cb, cs, cd)) hc N M
  · exact memD_small (c := (cn, 1, cb, cs, cd)) hc N M
  · exact memD_small (c := (cn, 2, cb, cs, cd)) hc N M
  · exact ⟨(by decide : 4 ≤ 4611686018427387904), Nat.zero_le _⟩
  · exact ⟨(by decide : 3 ≤ 4611686018427387904), Nat.zero_le _⟩
  · exact ⟨(by decide : 8 ≤ 4611686018427387904), Nat.zero_le _⟩
  · refine ⟨(by decide : 2 ≤ 4611686018427387904), ?_⟩
    show (vM M).length ≤ _
    rw [vM_len]; decide
  · refine ⟨?_, Nat.zero_le _⟩
    show (sndN N).length ≤ _
    unfold sndN
    rw [List.length_append, (vo_ok _ 0).len, (vo_ok _ 6).len]; decide
  · refine ⟨?_, dM_small hl⟩
    show (dcN N (qF M) k).length ≤ _
    unfold dcN
    split
    · exact (by decide : 10 ≤ 4611686018427387904)
    · exact dN_small _ _
  · unfold givF; rw [sel_x hx]; exact ⟨Nat.zero_le _, Nat.zero_le _⟩
theorem storeF_small {c : Cv} {d : Dv} (hc : cP c) (hd : dP d) (a k : Int) : smallD (storeF c d a k) := by
  obtain ⟨cn, ck, cb, cs, cd⟩ := c
  obtain ⟨N, M⟩ := d
  obtain ⟨hl, hu⟩ := hd
  rcases kinds ck with rfl | rfl | rfl | rfl | rfl | rfl | rfl | rfl | rfl | hx
  · exact memWr_small (c := (cn, 0, cb, cs, cd)) hc (N, M) a k
  · exact memWr_small (c := (cn, 1, cb, cs, cd)) hc (N, M) a k
  · exact memWr_small (c := (cn, 2, cb, cs, cd)) hc (N, M) a k
  · refine ⟨?_, Nat.zero_le _⟩
    show (twN N a k).length ≤ _
    unfold twN
    repeat' split
    all_goals exact (by decide : 4 ≤ 4611686018427387904)
  · exact ⟨(by decide : 3 ≤ 4611686018427387904), Nat.zero_le _⟩
  · refine ⟨?_, Nat.zero_le _⟩
    show (swN N a k).length ≤ _
    unfold swN
    repeat' split
    all_goals exact (by decide : 8 ≤ 4611686018427387904)
  · refine ⟨(by decide : 2 ≤ 4611686018427387904), ?_⟩
    show (vwM (vM M) a k).length ≤ _
    unfold vwM
    split
    · rw [List.length_set, vM_len]; decide
    · rw [vM_len]; decide
  · refine ⟨?_, Nat.zero_le _⟩
    show (owF N a k).length ≤ _
    have hs : (sndN N).length ≤ 4611686018427387904 := by
      unfold sndN
      rw [List.length_append, (vo_ok _ 0).len, (vo_ok _ 6).len]; decide
    unfold owF
    repeat' split
    all_goals (try simp only [List.length_set])
    all_goals exact hs
  · refine ⟨?_, dM_small hl⟩
    show (dwN N (qF M) a k).length ≤ _
    rw [dwN_len]; decide
  · unfold storeF; rw [sel_x hx]; exact ⟨Nat.zero_le _, Nat.zero_le _⟩

def cactS : PSpec := ⟨[gC, gD, gi, gi], fun (c, d, a, k, _) => (some (cP c ∧ dP d), .cell (bv true), [])⟩
set_option maxHeartbeats 1000000 in
theorem cacts_ok : GoodF Tryz.prog 3 cactS.spec := by
  have hT := tab_ok (fs := [(5, chipsS.spec), (8, sameS.spec), (6, cReadS.spec), (7, kLoadedS.spec), (9, cWriteS.spec), (10, kStoredS.spec), (11, cInS.spec), (12, kGivenS.spec), (13, cIrqS.spec), (14, kAskingS.spec), (15, cOutS.spec), (16, kShowsS.spec), (17, cNextS.spec), (18, kRestsS.spec)]) tree_ok
  have hP : SpecsOk Tryz.prog (tab tree [(5, chipsS.spec), (8, sameS.spec), (6, cReadS.spec), (7, kLoadedS.spec), (9, cWriteS.spec), (10, kStoredS.spec), (11, cInS.spec), (12, kGivenS.spec), (13, cIrqS.spec), (14, kAskingS.spec), (15, cOutS.spec), (16, kShowsS.spec), (17, cNextS.spec), (18, kRestsS.spec)]) := specs_cons chips_ok (specs_cons same_ok (specs_cons cRead_ok (specs_cons kLoaded_ok (specs_cons cWrite_ok (specs_cons kStored_ok (specs_cons cIn_ok (specs_cons kGiven_ok (specs_cons cIrq_ok (specs_cons kAsking_ok (specs_cons cOut_ok (specs_cons kShows_ok (specs_cons cNext_ok (specs_cons kRests_ok specs_nil)))))))))))))
  refine cactS.good (fn := Tryz.f3) hT hP Tryz.func3 (by kernel_rfl) rfl fun (c : Cv) (d : Dv) (a k : Int) hp => ?_
  obtain ⟨hc, hd⟩ : cP c ∧ dP d := hp _ rfl
  clear hp
  have l1 := loadD_small hc hd a
  have l2 := storeF_small hc hd a k
  have l3 := givF_small hc hd k
  obtain ⟨cn, ck, cb, cs, cd⟩ := c
  obtain ⟨N, M⟩ := d
  repeat' first
    | (exfalso; rename_i g; exact g rfl)
    | (refine Go.mk ?_; conv => whnf)
    | refine Need.go ?_ ?_
    | refine NilG.go (fun _ => ?_) (fun _ => ?_)
    | refine Br.dec (fun _ => ?_) (fun _ => ?_)
    | refine Br.go (fun _ => ?_) (fun _ => ?_)
    | refine draw_go hT hP mixed ?_
    | refine round_go hT hP ?_
  all_goals (try dsimp only [castL_eq] at *)
  all_goals first
    | exact ⟨hc, hd⟩
    | exact l1
    | exact l2
    | exact l3
    | (exfalso; rename_i g; revert g; simp; done)
    | (refine .mk [] [] _ rfl rfl rfl rfl rfl rfl (imm_bool ?_)
       simp)
    | skip

end Go.Proofs.YtblnigjmcjpopaaGreat

/- bakelaw1.VideoTicks answers true, whatever it is given. -/
namespace Go.Proofs.YtblnigjmcjpopaaGreat
open Go.Fw
set_option linter.unusedVariables false
set_option linter.unusedSimpArgs false
set_option maxRecDepth 100000

theorem iterV_form2 (m : List Int) {p h : Int} (hp : 0 ≤ p ∧ p < 2560) (hh : 0 ≤ h ∧ h < 2) (n : Nat) : vN (iterF (tickV m) n [p, h]) = iterF (tickV m) n [p, h] := by
  rw [iterV m hp]
  refine vN_idem (by omega) ?_
  split
  · decide
  · exact hh
theorem iterV_form (m N : List Int) (n : Nat) : vN (iterF (tickV m) n (vN N)) = iterF (tickV m) n (vN N) :=
  iterV_form2 m (vP_in N) (by show 0 ≤ N.getD 1 0 % 2 ∧ N.getD 1 0 % 2 < 2; omega) n
theorem len2 {l : List Int} (h : vN l = l) : l.length ≤ 4611686018427387904 := by
  rw [← h]; exact (by decide : 2 ≤ 4611686018427387904)
theorem lenM (M : List Int) : (vM M).length ≤ 4611686018427387904 := by rw [vM_len]; decide
def vtS : PSpec := ⟨[gD, gi], fun (d, k, _) => (some (u8s d.2), .cell (bv true), [])⟩
end Go.Proofs.YtblnigjmcjpopaaGreat

/- bakelaw1.DriveTicks answers true, whatever it is given. -/
namespace Go.Proofs.YtblnigjmcjpopaaGreat
open Go.Fw
set_option linter.unusedVariables false
set_option linter.unusedSimpArgs false
set_option maxRecDepth 100000

theorem form_id {q : Nat} {s : DS} (h : DOk q s) : (dN s.1 (qF s.2), dM s.2) = s := by
  obtain ⟨l, m⟩ := s
  obtain ⟨h1, h2, h3⟩ := h
  have h1 : dOk q l := h1
  have h2 : m.length = q * 256 := h2
  have e : qF m = q := by unfold qF; omega
  show (dN l (qF m), dM m) = (l, m)
  have e2 : dM m = m := by unfold dM; rw [e, ← h2, List.take_length]
  rw [e, dN_idem h1, e2]
theorem DOk.lens {q : Nat} {s : DS} (h : DOk q s) (hq : q * 256 ≤ 140737488355328) : s.1.length ≤ 4611686018427387904 ∧ s.2.length ≤ 4611686018427387904 := by
  refine ⟨?_, ?_⟩
  · rw [h.n.len]; decide
  · rw [h.m]; omega
def dtP (d : Dv) : Prop := List.length d.2 ≤ 140737488355328 ∧ u8s d.2
def dtS : PSpec := ⟨[gD, gi], fun (d, k, _) => (some (dtP d), .cell (bv true), [])⟩
end Go.Proofs.YtblnigjmcjpopaaGreat

/- Cycles of any chip, many times; bakelaw1.ChipTicks answers true, whatever it is given. -/
namespace Go.Proofs.YtblnigjmcjpopaaGreat
open Go.Fw
set_option linter.unusedVariables false
set_option linter.unusedSimpArgs false
set_option linter.constructorNameAsVariable false
set_option maxRecDepth 100000

theorem over_self {n : Nat} {l : List Int} (h : l.length = n) : over (List.replicate n 0) l 0 = l := by
  rw [over_eq, List.drop_zero, List.length_replicate, Nat.sub_zero, List.drop_of_length_le (by simp [h]), List.append_nil, List.take_of_length_le (by omega)]
theorem memM_idem (c : Cv) (M : List Int) : memM c (memM c M) = memM c M := over_self (memM_len c M)
theorem memN_idem (c : Cv) (N : List Int) : memN c (memN c N) = memN c N := by
  unfold memN
  split
  · show [N.getD 0 0 % bankI c % bankI c] = _
    rw [Int.emod_emod]
  · rfl
theorem memD_idem (c : Cv) (d : Dv) : memD c (memD c d) = memD c d := by
  show (memN c (memN c d.1), memM c (memM c d.2)) = _
  rw [memN_idem, memM_idem]; rfl
theorem portN_idem (N : List Int) : portN (portN N) = portN N := by
  show [N.getD 0 0 % 256 % 256, N.getD 1 0 % 256 % 256, N.getD 2 0 % 256 % 256] = _
  rw [Int.emod_emod, Int.emod_emod, Int.emod_emod]; rfl
theorem vM_idem2 (M : List Int) : vM (vM M) = vM M := vM_idem (vM_len M)
/-- after so many cycles -/
def itF (c : Cv) (d : Dv) (j : Nat) : Dv := sel c.2.1 (memD c d) (iterT j (timN d.1), []) (portN d.1, []) (iterF tickS j (serN d.1), []) (iterF (tickV (vM d.2)) j (vN d.1), vM d.2) (iterF tickW j (sndN d.1), []) (iterA turnF j (dN d.1 (qF d.2), dM d.2)) ([], [])
theorem itF_zero (c : Cv) (d : Dv) : itF c d 0 = formF c d := by
  obtain ⟨cn, ck, cb, cs, cd⟩ := c
  rcases kinds ck with rfl | rfl | rfl | rfl | rfl | rfl | rfl | rfl | rfl | hx
  all_goals first
    | rfl
    | (unfold itF formF; rw [sel_x hx, sel_x hx])
theorem itF_skip (c : Cv) (d : Dv) (k : Int) : skipF c d k = itF c d k.toNat := by
  obtain ⟨cn, ck, cb, cs, cd⟩ := c
  rcases kinds ck with rfl | rfl | rfl | rfl | rfl | rfl | rfl | rfl | rfl | hx
  all_goals first
    | rfl
    | (unfold itF skipF; rw [sel_x hx, sel_x hx])
theorem itF_succ (c : Cv) {d : Dv} (hu : u8s d.2) (j : Nat) : tickF c (itF c d j) = itF c d (j + 1) := by
  obtain ⟨cn, ck, cb, cs, cd⟩ := c
  obtain ⟨N, M⟩ := d
  rcases kinds ck with rfl | rfl | rfl | rfl | rfl | rfl | rfl | rfl | rfl | hx
  · exact memD_idem (cn, 0, cb, cs, cd) (N, M)
  · exact memD_idem (cn, 1, cb, cs, cd) (N, M)
  · exact memD_idem (cn, 2, cb, cs, cd) (N, M)
  · show (tickT (timN (iterT j (timN N))), ([] : List Int)) = (iterT (j + 1) (timN N), [])
    rw [iter_form, iterT_succ]
  · show (portN (portN N), ([] : List Int)) = (portN N, [])
    rw [portN_idem]
  · show (tickS (serN (iterF tickS j (serN N))), ([] : List Int)) = (iterF tickS (j + 1) (serN N), [])
    rw [iterS_form, iterF_succ]
  · show (tickV (vM (vM M)) (vN (iterF (tickV (vM M)) j (vN N))), vM (vM M)) = (iterF (tickV (vM M)) (j + 1) (vN N), vM M)
    rw [vM_idem2, iterV_form, iterF_succ]
  · show (tickW (sndN (iterF tickW j (sndN N))), ([] : List Int)) = (iterF tickW (j + 1) (sndN N), [])
    rw [iterW_form, iterF_succ]
  · show turnF (dN (iterA turnF j (dN N (qF M), dM M)).1 (qF (iterA turnF j (dN N (qF M), dM M)).2), dM (iterA turnF j (dN N (qF M), dM M)).2) = iterA turnF (j + 1) (dN N (qF M), dM M)
    rw [form_id (iterT_ok (DOkN N hu) j), iterA_succ]
  · unfold tickF itF
    rw [sel_x hx, sel_x hx]
theorem itF_P {c : Cv} {d : Dv} (hc : cP c) (hd : dP d) (j : Nat) : dP (itF c d j) ∧ (itF c d j).1.length ≤ 12 := by
  obtain ⟨cn, ck, cb, cs, cd⟩ := c
  obtain ⟨N, M⟩ := d
  obtain ⟨hl, hu⟩ := hd
  have nil : dP (([] : List Int), ([] : List Int)) := ⟨Nat.zero_le _, fun x hx => by cases hx⟩
  have mm : ∀ k, cP (cn, k, cb, cs, cd) → dP (memD (cn, k, cb, cs, cd) (N, M)) ∧ (memD (cn, k, cb, cs, cd) (N, M)).1.length ≤ 12 := fun k h => by
    refine ⟨⟨memM_le h _, memM_u8 _ hu⟩, ?_⟩
    show (memN (cn, k, cb, cs, cd) N).length ≤ 12
    unfold memN; split <;> (show _ ≤ 12; simp)
  have one : ∀ l : List Int, l.length ≤ 12 → dP (l, ([] : List Int)) ∧ (l, ([] : List Int)).1.length ≤ 12 := fun l h => ⟨⟨Nat.zero_le _, fun x hx => by cases hx⟩, h⟩
  rcases kinds ck with rfl | rfl | rfl | rfl | rfl | rfl | rfl | rfl | rfl | hx
  · exact mm 0 hc
  · exact mm 1 hc
  · exact mm 2 hc
  · refine one _ ?_
    have e := iter_form N j
    rw [← e]; exact (by decide : 4 ≤ 12)
  · exact one _ (by decide : 3 ≤ 12)
  · refine one _ ?_
    have e := iterS_form N j
    rw [← e]; exact (by decide : 8 ≤ 12)
  · refine ⟨⟨?_, vM_u8 hu⟩, ?_⟩
    · show (vM M).length ≤ _
      rw [vM_len]; decide
    · show (iterF (tickV (vM M)) j (vN N)).length ≤ 12
      rw [← iterV_form]; exact (by decide : 2 ≤ 12)
  · refine one _ ?_
    have e := iterW_form N j
    rw [← e]
    unfold sndN
    rw [List.length_append, (vo_ok _ 0).len, (vo_ok _ 6).len]; decide
  · have h := iterT_ok (DOkN N hu) j
    have hq := qF_le M
    refine ⟨⟨?_, h.u⟩, ?_⟩
    · show (iterA turnF j (dN N (qF M), dM M)).2.length ≤ _
      have hl : M.length ≤ 140737488355328 := hl
      have hm := h.m
      have hm : (iterA turnF j (dN N (qF M), dM M)).2.length = qF M * 256 := hm
      omega
    · show (iterA turnF j (dN N (qF M), dM M)).1.length ≤ _
      rw [h.n.len]; decide
  · unfold itF; rw [sel_x hx]; exact ⟨nil, Nat.zero_le _⟩

def ctS : PSpec := ⟨[gC, gD, gi], fun (c, d, k, _) => (some (cP c ∧ dP d), .cell (bv true), [])⟩
end Go.Proofs.YtblnigjmcjpopaaGreat

/- The arguments of a law: from what they read as to data, and back behind the call. -/
namespace Go.Fw
open Go.ChangeShapes Go.WideShapes Go.RowKit
set_option linter.unusedVariables false
set_option linter.unusedSimpArgs false

def sigFits (P : Program) (m : Nat) (g : Sig) (t : TypeId) : Bool := tyFits P m g.t t && match P.underlying t with
  | some (.struct _) => g.ag
  | some (.int _) => !g.ag
  | some .bool => !g.ag
  | some .string => !g.ag
  | some (.slice _) => !g.ag
  | some (.array _ _) => g.ag
  | _ => false
def sigsFit (P : Program) (m : Nat) : List Sig → List TypeId → Bool
  | [], [] => true
  | g :: gs, t :: ts => sigFits P m g t && sigsFit P m gs ts
  | _, _ => false
def WfA : (gs : List Sig) → Args gs → Prop
  | [], _ => True
  | g :: gs, x => Wf g.t x.1 ∧ WfA gs x.2

section
variable {H : Type} {enc : TypeId × Value → H} {P : Program} {w : World} {base : Nat}

theorem one_cell {v u : Value} (h : v.cells.toList = [u]) (hv : ∀ cs, v ≠ .agg cs) : v = u := by
  cases v with
  | agg cs => exact absurd rfl (hv cs)
  | _ => simpa [Value.cells] using h

theorem CR.one {w : World} {S : Nat → Prop} {t : Ty} {d : Den t} {v : Value} (hc : CR w S t d [v]) (h : (cells t d).length = 1) (E : Env) (hw : E.w = w) (hS : E.S = S) : ∃ c, cells t d = [c] ∧ CellR E c [v] := by
  subst hw; subst hS
  have := hc.items
  match hh : cells t d, h with
  | [c], _ =>
    rw [hh] at this
    obtain ⟨r, s, e, h1, h2⟩ := this
    simp only [IR] at h2
    subst h2
    simp at e
    subst e
    exact ⟨c, rfl, h1⟩

variable {bk : DataW H → Nat} {ba : List (DataW H) → Nat}
theorem v1_open (B : BulkLaw bk ba) {m fuel : Nat} {g : Sig} {t : TypeId} {v : Value} {x : DataW H × List MemPlace} (hf : sigFits P m g t = true) (hv : Value.okWide P w .any base t v) (hz : ∀ z ∈ DataW.weights P t x.1, z ≤ reachBytes)
    (h : DataW.trod enc P w 0 (fun _ => true) true fuel t v.cells.toList = some x) : ∃ d : Den g.t, V1R (startE w) (canonV g d) v ∧ Wf g.t d ∧ bd g.t d ≤ bk x.1 := by
  unfold sigFits at hf
  rw [Bool.and_eq_true] at hf
  obtain ⟨h1, h2⟩ := hf
  obtain ⟨d, hc, hw, hb⟩ := open_cr B m h1 hz h
  refine ⟨d, ?_, hw, hb⟩
  have single : ∀ u, v = u → (∀ cs, v ≠ .agg cs) → g.ag = false → (cells g.t d).length = 1 → V1R (startE w) (canonV g d) v := by
    intro u e hn hg hl
    have hcl : v.cells.toList = [v] := by
      cases v with
      | agg cs => exact absurd rfl (hn cs)
      | _ => rfl
    rw [hcl] at hc
    obtain ⟨c, e1, e2⟩ := hc.one hl (startE w) rfl rfl
    unfold canonV
    rw [hg]
    simp only [e1]
    exact e2
  cases m with
  | zero => cases h1
  | succ m =>
  unfold tyFits at h1
  split at h2
  · rename_i F hu
    obtain ⟨cs, rfl, _⟩ := okWide_struct hu hv
    unfold canonV
    rw [h2]
    exact ⟨cs, rfl, hc.items (E := startE w)⟩
  · rename_i k hu
    obtain ⟨n, rfl⟩ := okWide_int hu hv
    refine single _ rfl (by simp) (by simpa using h2) ?_
    rw [hu] at h1
    match g, d, h1 with
    | ⟨_, .int _⟩, _, _ => rfl
  · rename_i hu
    obtain ⟨n, rfl⟩ := okWide_bool hu hv
    refine single _ rfl (by simp) (by simpa using h2) ?_
    rw [hu] at h1
    match g, d, h1 with
    | ⟨_, .bool⟩, _, _ => rfl
  · rename_i hu
    obtain ⟨n, rfl⟩ := okWide_string hu hv
    refine single _ rfl (by simp) (by simpa using h2) ?_
    rw [hu] at h1
    match g, d, h1 with
    | ⟨_, .str⟩, _, _ => rfl
  · rename_i e hu
    obtain ⟨a, len, cap, rfl⟩ := okWide_slice hu hv
    refine single _ rfl (by simp) (by simpa using h2) ?_
    rw [hu] at h1
    match g, d, h1 with
    | ⟨_, .sl _⟩, _, _ => rfl
  · rename_i n e hu
    obtain ⟨cs, rfl⟩ : ∃ cs, v = .agg cs := by
      simp only [Value.okWide, hu] at hv
      obtain ⟨cs, h1, _⟩ := hv
      exact ⟨cs, h1⟩
    unfold canonV
    rw [h2]
    exact ⟨cs, rfl, hc.items (E := startE w)⟩
  · cases h2

def bdA : (gs : List Sig) → Args gs → Nat
  | [], _ => 0
  | g :: gs, x => bd g.t x.1 + bdA gs x.2
theorem args_open (B : BulkLaw bk ba) {m : Nat} {vt : List TypeId} {gds : List (DataW H)} : ∀ {gs : List Sig} {ts : List TypeId} {vs : List Value} {ds : List (DataW H)} {ps : List MemPlace}, sigsFit P m gs ts = true →
    (∀ (j : Nat) t v, ts[j]? = some t → vs[j]? = some v → Value.okWide P w .any base t v) → (∀ z ∈ DataW.weightsEach P (ts ++ vt) (ds ++ gds), z ≤ reachBytes) →
    DataW.TrodAll enc P w 0 (fun _ => true) true ts vs ds ps → ∃ xs : Args gs, VsR (startE w) (canonArgs gs xs) vs ∧ WfA gs xs ∧ bdA gs xs ≤ ba ds
  | [], [], vs, ds, ps, _, _, _, h => by
    obtain ⟨rfl, rfl, rfl⟩ := trodAll_nil h
    exact ⟨(), rfl, trivial, Nat.zero_le _⟩
  | g :: gs, t :: ts, vs, ds, ps, hf, hv, hz, h => by
    unfold sigsFit at hf
    rw [Bool.and_eq_true] at hf
    obtain ⟨v, vs', d, ds', p, q, rfl, rfl, rfl, ⟨fuel, h1⟩, h2⟩ := trodAll_cons h
    rw [List.cons_append, List.cons_append, DataW.weightsEach] at hz
    obtain ⟨x, hx, wx, bx⟩ := v1_open B (x := (d, p)) hf.1 (hv 0 t v rfl rfl) (fun z hz' => hz z (List.mem_append.2 (.inl hz'))) h1
    obtain ⟨xs, hxs, wxs, bxs⟩ := args_open B hf.2 (fun j t v ht hvj => hv (j + 1) t v (by simpa using ht) (by simpa using hvj)) (fun z hz' => hz z (List.mem_append.2 (.inr hz'))) h2
    exact ⟨(x, xs), VsR.cons hx hxs, ⟨wx, wxs⟩, Nat.le_trans (Nat.add_le_add bx bxs) (B.cons _ _)⟩
  | [], _ :: _, _, _, _, hf, _, _, _ => by cases hf
  | _ :: _, [], _, _, _, hf, _, _, _ => by cases hf

theorem dec_cells {look : Nat → Option Blk} : ∀ (t : Ty) (x : Den t) (r : List Cell), dec look t (cells t x ++ r) = some (x, [], r)
  | .int k, x, r => by simp [cells, dec]
  | .ints k n, l, r => by simp [cells, dec]
  | .bool, b, r => rfl
  | .str, s, r => rfl
  | .sl t, l, r => by
    have : slAs look t (.ro t l) = some l := by
      unfold slAs
      simp only [sliceOf, eqTy, dif_pos, castL]
    simp only [cells, List.cons_append, List.nil_append, dec, this, frzN]
  | .pair a b, x, r => by
    simp only [cells, dec, List.append_assoc, dec_cells a x.1, dec_cells b x.2, List.append_nil]

theorem decAll_cells {look : Nat → Option Blk} (t : Ty) (x : Den t) : decAll look t (cells t x) = some (x, []) := by
  unfold decAll
  have := dec_cells (look := look) t x []
  rw [List.append_nil] at this
  rw [this]

def Sig.fine (g : Sig) : Bool := g.ag || match g.t with | .int _ => true | .bool => true | .str => true | .sl _ => true | _ => false
theorem decV_canon {g : Sig} (h : g.fine = true) (d : Den g.t) : decV g (canonV g d) = some d := by
  obtain ⟨ag, t⟩ := g
  cases ag with
  | true =>
    unfold decV canonV
    simp only [decAll_cells]
  | false =>
    have one : ∃ c, cells t d = [c] := by
      cases t <;> simp [Sig.fine] at h <;> exact ⟨_, rfl⟩
    obtain ⟨c, hc⟩ := one
    have e : canonV ⟨false, t⟩ d = .c c := by unfold canonV; simp only [hc]
    have e2 : decAll (fun _ => none) t [c] = some (d, []) := by rw [← hc]; exact decAll_cells t d
    unfold decV
    simp only [e, e2, hc]
theorem decArgs_canon : ∀ {gs : List Sig} (h : gs.all Sig.fine = true) (xs : Args gs), decArgs gs (canonArgs gs xs) = some xs
  | [], _, () => rfl
  | g :: gs, h, (a, r) => by
    rw [List.all_cons, Bool.and_eq_true] at h
    show (match decV g (canonV g a) with | some d => (match decArgs gs (canonArgs gs r) with | some r => some (d, r) | none => none) | none => none) = _
    rw [decV_canon h.1, decArgs_canon h.2]

def rowsFine (P : Program) (ts : List TypeId) : Bool := ts.all fun t => P.readableRec t && Nat.blt t P.types.size
theorem args_back {W W' : World} (hl : laidOutB P = true) (hb : Below W.heap.size W W') : ∀ {ts : List TypeId} {vs : List Value} {ds : List (DataW H)} {ps : List MemPlace}, rowsFine P ts = true → (∀ x ∈ ps, x.block < W.heap.size) →
    DataW.TrodAll enc P W 0 (fun _ => true) true ts vs ds ps → DataW.TrodAll enc P W' 0 (fun b => decide (b < W.heap.size)) true ts vs ds ps
  | [], vs, ds, ps, _, _, h => by
    obtain ⟨rfl, rfl, rfl⟩ := trodAll_nil h
    exact trodAll_mk0
  | t :: ts, vs, ds, ps, hf, hlt, h => by
    unfold rowsFine at hf
    rw [List.all_cons, Bool.and_eq_true, Bool.and_eq_true] at hf
    obtain ⟨v, vs', d, ds', p, q, rfl, rfl, rfl, h1, h2⟩ := trodAll_cons h
    exact trodAll_cons_mk (Below.trod hl hf.1.1 (by simpa [Nat.blt_eq] using hf.1.2) h1 hb fun x hx => hlt x (List.mem_append.2 (.inl hx))) (args_back hl hb hf.2 (fun x hx => hlt x (List.mem_append.2 (.inr hx))) h2)
end

/-- a law that is true, over arguments of any kind -/
theorem PSpec.law_all {P : Program} {H : Type} {enc : TypeId × Value → H} {f : FuncId} {s : PSpec} (h : GoodF P f s.spec) {W : World} {base m : Nat} {ts vt : List TypeId} {args : Array Value} {ds gds : List (DataW H)} {p : List MemPlace}
    (hfit : sigsFit P m s.gs ts = true) (hfine : s.gs.all Sig.fine = true) (hrow : rowsFine P ts = true) (hl : laidOutB P = true)
    (hval : ∀ (j : Nat) t v, ts[j]? = some t → args.toList[j]? = some v → Value.okWide P W .any base t v)
    (hz : (DataW.weightsEach P (ts ++ vt) (ds ++ gds)).all (· ≤ reachBytes) = true) (hA : DataW.TrodAll enc P W 0 (fun _ => true) true ts args.toList ds p)
    (hs : ∀ xs, WfA s.gs xs → ∃ q, s.out xs = (q, .cell (bv true), []) ∧ ∀ z, q = some z → z) :
    Calls P f args W fun e w' => e = .returned (.bool true) ∧ Below W.heap.size W w' ∧ DataW.TrodAll enc P w' 0 (fun b => decide (b < W.heap.size)) true ts args.toList ds p := by
  obtain ⟨xs, hv, hw, _⟩ := args_open (bulk_size H) hfit hval (fun z hz' => by simpa using List.all_eq_true.1 hz z hz') hA
  obtain ⟨q, h1, h2⟩ := hs xs hw
  refine (PSpec.law h xs hv (decArgs_canon hfine xs) h1 h2).mono fun e W' ⟨he, hb⟩ => ⟨he, hb, ?_⟩
  exact args_back hl hb hrow (DataW.TrodAll.lt hA) hA

/-- a law that is true, over arguments of any kind up to a bulk -/
theorem PSpec.law_upto {P : Program} {H : Type} {enc : TypeId × Value → H} {f : FuncId} {s : PSpec} (h : GoodF P f s.spec) {W : World} {base m N : Nat} {ts vt : List TypeId} {args : Array Value} {ds gds : List (DataW H)} {p : List MemPlace}
    {bk : DataW H → Nat} {ba : List (DataW H) → Nat} (B : BulkLaw bk ba) (hN : ba ds ≤ N)
    (hfit : sigsFit P m s.gs ts = true) (hfine : s.gs.all Sig.fine = true) (hrow : rowsFine P ts = true) (hl : laidOutB P = true)
    (hval : ∀ (j : Nat) t v, ts[j]? = some t → args.toList[j]? = some v → Value.okWide P W .any base t v)
    (hz : (DataW.weightsEach P (ts ++ vt) (ds ++ gds)).all (· ≤ reachBytes) = true) (hA : DataW.TrodAll enc P W 0 (fun _ => true) true ts args.toList ds p)
    (hs : ∀ xs, WfA s.gs xs → bdA s.gs xs ≤ N → ∃ q, s.out xs = (q, .cell (bv true), []) ∧ ∀ z, q = some z → z) :
    Calls P f args W fun e w' => e = .returned (.bool true) ∧ Below W.heap.size W w' ∧ DataW.TrodAll enc P w' 0 (fun b => decide (b < W.heap.size)) true ts args.toList ds p := by
  obtain ⟨xs, hv, hw, hbd⟩ := args_open B hfit hval (fun z hz' => by simpa using List.all_eq_true.1 hz z hz') hA
  obtain ⟨q, h1, h2⟩ := hs xs hw (Nat.le_trans hbd hN)
  refine (PSpec.law h xs hv (decArgs_canon hfine xs) h1 h2).mono fun e W' ⟨he, hb⟩ => ⟨he, hb, ?_⟩
  exact args_back hl hb hrow (DataW.TrodAll.lt hA) hA

end Go.Fw

/- What chips and their states that read well keep to. -/
namespace Go.Proofs.YtblnigjmcjpopaaGreat
open Go.Fw
set_option linter.unusedVariables false
set_option linter.unusedSimpArgs false
theorem i64_of {x : Int} (h : (Lit.int .i64 x).wf = true) : i64 x := by
  have := h
  simp [Lit.wf] at this
  exact this
theorem cP_of {c : Cv} (h : Wf gC.t c) : cP c := ⟨i64_of h.2.2.1, i64_of h.2.2.2.1, Nat.le_trans (Nat.le_of_eq (Nat.mul_one _).symm) h.2.2.2.2.1⟩
theorem dP_of {d : Dv} (h : Wf gD.t d) : dP d := ⟨Nat.le_trans (Nat.le_of_eq (Nat.mul_one _).symm) (Nat.le_trans h.2.1 (by decide)), u8s_of h.2.2⟩
theorem cc_pre (xs : Args ccS.gs) (hw : WfA ccS.gs xs) : cP xs.1 := cP_of hw.1
theorem ct_pre (xs : Args ctS.gs) (hw : WfA ctS.gs xs) : cP xs.1 ∧ dP xs.2.1 := ⟨cP_of hw.1, dP_of hw.2.1⟩

end Go.Proofs.YtblnigjmcjpopaaGreat

/- What the arguments of ChipActs keep to. -/
namespace Go.Proofs.YtblnigjmcjpopaaGreat
open Go.Fw
set_option linter.unusedVariables false
theorem cact_pre (xs : Args cactS.gs) (hw : WfA cactS.gs xs) : cP xs.1 ∧ dP xs.2.1 := ⟨cP_of hw.1, dP_of hw.2.1⟩

end Go.Proofs.YtblnigjmcjpopaaGreat

