/- Part 10 of the proof: Mem DriveO Video3 Kind Kind2 ChipE Kind3 VideoTicks DriveTicks TickD Fw32 KindW. No statement is handed in here; conditions: none. -/
import Derived.Test.YtblnigjmcjpopaaG6
import Derived.Test.YtblnigjmcjpopaaG9
import Derived.Test.YtblnigjmcjpopaaG7
import Derived.Test.YtblnigjmcjpopaaG8
import Derived.Carry
import Derived.OpenShut
/- The memories: windows, banks, how many bytes there are; their states in form. -/
namespace Go.Proofs.Ytblnigjmcjpopaa
open Go.Fw
set_option linter.unusedVariables false
set_option linter.unusedSimpArgs false
set_option linter.constructorNameAsVariable false
set_option maxRecDepth 100000

def i64 (x : Int) : Prop := -9223372036854775808 ≤ x ∧ x ≤ 9223372036854775807
def cP (c : Cv) : Prop := i64 c.2.2.1 ∧ i64 c.2.2.2.1 ∧ List.length c.2.2.2.2 ≤ 140737488351232
def dP (d : Dv) : Prop := List.length d.2 ≤ 140737488355328 ∧ u8s d.2
def winI (c : Cv) : Int := max 1 (min (max c.2.2.2.1 1) 4097 - 1)
theorem winI_in (c : Cv) : 1 ≤ winI c ∧ winI c ≤ 4096 := by unfold winI; omega
def bankI (c : Cv) : Int := max 1 (((List.length c.2.2.2.2 : Nat) + winI c - 1) / winI c)
theorem bankI_in {c : Cv} (h : List.length c.2.2.2.2 ≤ 140737488351232) : 1 ≤ bankI c ∧ bankI c ≤ 140737488355328 ∧ bankI c * winI c ≤ 140737488355328 := by
  obtain ⟨h1, h2⟩ := winI_in c
  have h3 : ((List.length c.2.2.2.2 : Nat) + winI c - 1) / winI c * winI c ≤ (List.length c.2.2.2.2 : Nat) + winI c - 1 := Int.ediv_mul_le _ (by omega)
  have h4 : ((List.length c.2.2.2.2 : Nat) + winI c - 1) / winI c ≤ (List.length c.2.2.2.2 : Nat) + winI c - 1 := Int.ediv_le_self _ (by omega)
  unfold bankI
  rcases Int.le_total 1 (((List.length c.2.2.2.2 : Nat) + winI c - 1) / winI c) with h | h
  · rw [Int.max_eq_right h]
    omega
  · rw [Int.max_eq_left h]
    omega
def bytesI (c : Cv) : Int := if c.2.1 = 2 then bankI c * winI c else max 0 (min c.2.2.2.1 65536)
theorem bytesI_in {c : Cv} (h : List.length c.2.2.2.2 ≤ 140737488351232) : 0 ≤ bytesI c ∧ bytesI c ≤ 140737488355328 := by
  obtain ⟨h1, h2, h3⟩ := bankI_in h
  obtain ⟨h4, h5⟩ := winI_in c
  have h6 : 0 ≤ bankI c * winI c := Int.mul_nonneg (by omega) (by omega)
  unfold bytesI
  split
  · omega
  · omega
def memM (c : Cv) (M : List Int) : List Int := over (List.replicate (bytesI c).toNat 0) M 0
def memN (c : Cv) (N : List Int) : List Int := if c.2.1 = 2 then [N.getD 0 0 % bankI c] else []
theorem memM_len (c : Cv) (M : List Int) : (memM c M).length = (bytesI c).toNat := by
  unfold memM; rw [over_length, List.length_replicate]

def windowS : PSpec := ⟨[gC], fun (c, _) => (none, I (winI c), [])⟩
theorem window_ok : GoodF Try.prog 100 windowS.spec := by
  have hT := tab_ok (fs := []) tree_ok
  have hP : SpecsOk Try.prog (tab tree []) := specs_nil
  refine windowS.good (fn := Try.f100) hT hP Try.func100 (by kernel_rfl) rfl fun (c : Cv) _ => ?_
  obtain ⟨cn, ck, cb, cs, cd⟩ := c
  repeat' first
    | (refine Go.mk ?_; conv => whnf)
    | refine Need.go ?_ ?_
    | refine NilG.go (fun _ => ?_) (fun _ => ?_)
    | refine Br.dec (fun _ => ?_) (fun _ => ?_)
    | refine Br.go (fun _ => ?_) (fun _ => ?_)
    | refine draw_go hT hP mixed ?_
    | refine round_go hT hP ?_
  refine .mk [] [] _ rfl rfl rfl rfl rfl rfl (imm_int ?_)
  show imax 1 (IntKind.i64.wrap (imin (imax cs 1) 4097 - 1)) = max 1 (min (max cs 1) 4097 - 1)
  rw [imax_eq, imin_eq, imax_eq, w64 (by omega) (by omega)]

def cBanksS : PSpec := ⟨[gC], fun (c, _) => (some (List.length c.2.2.2.2 ≤ 140737488351232), I (bankI c), [])⟩
theorem cBanks_ok : GoodF Try.prog 47 cBanksS.spec := by
  have hT := tab_ok (fs := [(100, windowS.spec)]) tree_ok
  have hP : SpecsOk Try.prog (tab tree [(100, windowS.spec)]) := specs_cons window_ok specs_nil
  refine cBanksS.good (fn := Try.f47) hT hP Try.func47 (by kernel_rfl) rfl fun (c : Cv) hp => ?_
  have hl : List.length c.2.2.2.2 ≤ 140737488351232 := hp _ rfl
  obtain ⟨h1, h2⟩ := winI_in c
  obtain ⟨cn, ck, cb, cs, cd⟩ := c
  have hl : cd.length ≤ 140737488351232 := hl
  clear hp
  repeat' first
    | (refine Go.mk ?_; conv => whnf)
    | refine Need.go ?_ ?_
    | refine NilG.go (fun _ => ?_) (fun _ => ?_)
    | refine Br.dec (fun _ => ?_) (fun _ => ?_)
    | refine Br.go (fun _ => ?_) (fun _ => ?_)
    | refine draw_go hT hP mixed ?_
    | refine round_go hT hP ?_
  all_goals first
    | (show winI (cn, ck, cb, cs, cd) ≠ 0
       omega)
    | skip
  refine .mk [] [] _ rfl rfl rfl rfl rfl rfl (imm_int ?_)
  show imax 1 (IntKind.i64.wrap (Int.tdiv (IntKind.i64.wrap (IntKind.i64.wrap ((cd.length : Int) + winI (cn, ck, cb, cs, cd)) - 1)) (winI (cn, ck, cb, cs, cd)))) = bankI (cn, ck, cb, cs, cd)
  have h4 : ((cd.length : Int) + winI (cn, ck, cb, cs, cd) - 1) / winI (cn, ck, cb, cs, cd) ≤ (cd.length : Int) + winI (cn, ck, cb, cs, cd) - 1 := Int.ediv_le_self _ (by omega)
  have h5 : 0 ≤ ((cd.length : Int) + winI (cn, ck, cb, cs, cd) - 1) / winI (cn, ck, cb, cs, cd) := Int.ediv_nonneg (by omega) (by omega)
  rw [w64 (x := (cd.length : Int) + winI (cn, ck, cb, cs, cd)) (by omega) (by omega), w64 (x := (cd.length : Int) + winI (cn, ck, cb, cs, cd) - 1) (by omega) (by omega), Int.tdiv_eq_ediv_of_nonneg (by omega), w64 (by omega) (by omega), imax_eq]
  rfl

def cBytesS : PSpec := ⟨[gC], fun (c, _) => (some (List.length c.2.2.2.2 ≤ 140737488351232), I (bytesI c), [])⟩
theorem cBytes_ok : GoodF Try.prog 103 cBytesS.spec := by
  have hT := tab_ok (fs := [(100, windowS.spec), (47, cBanksS.spec)]) tree_ok
  have hP : SpecsOk Try.prog (tab tree [(100, windowS.spec), (47, cBanksS.spec)]) := specs_cons window_ok (specs_cons cBanks_ok specs_nil)
  refine cBytesS.good (fn := Try.f103) hT hP Try.func103 (by kernel_rfl) rfl fun (c : Cv) hp => ?_
  have hl : List.length c.2.2.2.2 ≤ 140737488351232 := hp _ rfl
  obtain ⟨h1, h2⟩ := winI_in c
  obtain ⟨h3, h4, h5⟩ := bankI_in hl
  have h6 : 0 ≤ bankI c * winI c := Int.mul_nonneg (by omega) (by omega)
  obtain ⟨cn, ck, cb, cs, cd⟩ := c
  clear hp
  repeat' first
    | (refine Go.mk ?_; conv => whnf)
    | refine Need.go ?_ ?_
    | refine NilG.go (fun _ => ?_) (fun _ => ?_)
    | refine Br.dec (fun _ => ?_) (fun _ => ?_)
    | refine Br.go (fun _ => ?_) (fun _ => ?_)
    | refine draw_go hT hP mixed ?_
    | refine round_go hT hP ?_
  all_goals first
    | exact hl
    | skip
  · rename_i h
    have h : ck = 2 := h
    refine .mk [] [] _ rfl rfl rfl rfl rfl rfl (imm_int ?_)
    show IntKind.i64.wrap (bankI (cn, ck, cb, cs, cd) * winI (cn, ck, cb, cs, cd)) = bytesI (cn, ck, cb, cs, cd)
    rw [w64 (by omega) (by omega), bytesI, if_pos h]
  · rename_i h
    have h : ¬ ck = 2 := h
    refine .mk [] [] _ rfl rfl rfl rfl rfl rfl (imm_int ?_)
    show imax 0 (imin cs 65536) = bytesI (cn, ck, cb, cs, cd)
    rw [imax_eq, imin_eq, bytesI, if_neg h]

theorem limitF_eq (n a b : Int) (h : a ≤ b) : limitF n a b = max a (min n b) := by
  unfold limitF; (repeat' split) <;> omega

/-- how many rounds bring a number to zero or below -/
theorem banks_end {l k w : Int} (hw : 1 ≤ w) (hk : 0 ≤ k) (hl : 0 ≤ l) (h1 : l - k * w ≤ 0) (h2 : k = 0 ∨ 0 < l - (k - 1) * w) : max 1 (min k 1152921504606846976) = max 1 (min ((l + w - 1) / w) 1152921504606846976) := by
  rcases h2 with rfl | h2
  · have : l = 0 := by omega
    subst this
    have : (0 + w - 1) / w = 0 := Int.ediv_eq_zero_of_lt (by omega) (by omega)
    rw [this]
  · have e : (l + w - 1) / w = k := by
      rw [Int.sub_mul] at h2
      have : l + w - 1 = (l + w - 1 - k * w) + k * w := by omega
      rw [this, Int.add_mul_ediv_right _ _ (by omega), Int.ediv_eq_zero_of_lt (by omega) (by omega)]
      omega
    rw [e]
def bankedS : PSpec := ⟨[gC], fun (c, _) => (some (cP c), .tup [I1 (bankI c), I1 (winI c)], [])⟩
theorem banked_ok : GoodF Try.prog 43 bankedS.spec := by
  have hT := tab_ok (fs := [(95, limitS.spec)]) tree_ok
  have hP : SpecsOk Try.prog (tab tree [(95, limitS.spec)]) := specs_cons limit_ok specs_nil
  refine bankedS.good (fn := Try.f43) hT hP Try.func43 (by kernel_rfl) rfl fun (c : Cv) hp => ?_
  obtain ⟨hb, hs, hl⟩ : cP c := hp _ rfl
  obtain ⟨h1, h2⟩ := winI_in c
  obtain ⟨h3, h4, h5⟩ := bankI_in hl
  obtain ⟨cn, ck, cb, cs, cd⟩ := c
  have hl : cd.length ≤ 140737488351232 := hl
  obtain ⟨hs1, hs2⟩ : -9223372036854775808 ≤ cs ∧ cs ≤ 9223372036854775807 := hs
  clear hp
  have ew : limitF (IntKind.i64.wrap (imax cs 1 - 1)) 1 4096 = winI (cn, ck, cb, cs, cd) := by
    rw [imax_eq, limitF_eq _ _ _ (by omega)]
    unfold winI
    show _ = max 1 (min (max cs 1) 4097 - 1)
    rw [w64 (by omega) (by omega)]; omega
  generalize hw : winI (cn, ck, cb, cs, cd) = w at *
  repeat' first
    | (refine Go.mk ?_; conv => whnf)
    | refine Need.go ?_ ?_
    | refine NilG.go (fun _ => ?_) (fun _ => ?_)
    | refine Br.dec (fun _ => ?_) (fun _ => ?_)
    | refine Br.go (fun _ => ?_) (fun _ => ?_)
    | refine draw_go hT hP mixed ?_
    | refine round_go hT hP ?_
  refine loop_go hT hP (X := Int × Int) (fun (k, l) => St.mk [.dead, .dead, .dead, .dead, I (limitF (IntKind.i64.wrap (imax cs 1 - 1)) 1 4096), I k, I l, .dead, .dead, .dead, .dead, .dead, .dead, .dead, .dead, .dead, .dead, .dead, .dead, .dead, .dead, .dead, .dead, .dead, .dead] [])
    (fun (k, l) => 0 ≤ k ∧ k ≤ cd.length ∧ l = cd.length - k * w ∧ (k = 0 ∨ 0 < (cd.length : Int) - (k - 1) * w)) (fun (k, l) => l.toNat) (0, (cd.length : Int)) (Le.mk [] [] rfl rfl rfl ?_) ?_ fun (k, l) hi => ?_
  rotate_right
  repeat' first
    | (refine Go.mk ?_; conv => whnf)
    | refine Need.go ?_ ?_
    | refine NilG.go (fun _ => ?_) (fun _ => ?_)
    | refine Br.dec (fun _ => ?_) (fun _ => ?_)
    | refine Br.go (fun _ => ?_) (fun _ => ?_)
    | refine draw_go hT hP mixed ?_
    | refine round_go hT hP ?_
  · rename_i h0
    obtain ⟨hk0, hk, hll, hor⟩ := hi
    have h0 : l > 0 := h0
    have hm : k * 1 ≤ k * w := Int.mul_le_mul_of_nonneg_left h1 hk0
    have e1 : IntKind.i64.wrap (k + 1) = k + 1 := w64 (by omega) (by omega)
    have e2 : IntKind.i64.wrap (l - limitF (IntKind.i64.wrap (imax cs 1 - 1)) 1 4096) = l - w := by rw [ew]; exact w64 (by omega) (by omega)
    apply Exists.intro (_, _)
    refine And.intro ?_ (And.intro ?_ (Le.mk [] [] rfl rfl ?hh ?ht))
    case hh => exact rfl
    case ht => repeat' first | exact trivial | exact ⟨rfl, rfl⟩ | refine And.intro ?_ ?_
    · show 0 ≤ IntKind.i64.wrap (k + 1) ∧ IntKind.i64.wrap (k + 1) ≤ cd.length ∧ IntKind.i64.wrap (l - limitF (IntKind.i64.wrap (imax cs 1 - 1)) 1 4096) = cd.length - IntKind.i64.wrap (k + 1) * w ∧ (IntKind.i64.wrap (k + 1) = 0 ∨ 0 < (cd.length : Int) - (IntKind.i64.wrap (k + 1) - 1) * w)
      rw [e1, e2, Int.add_mul, Int.one_mul]
      refine ⟨by omega, by omega, by omega, .inr ?_⟩
      have : k + 1 - 1 = k := by omega
      rw [this]; omega
    · show (IntKind.i64.wrap (l - limitF (IntKind.i64.wrap (imax cs 1 - 1)) 1 4096)).toNat < l.toNat
      rw [e2]; omega
  · rename_i h0
    obtain ⟨hk0, hk, hll, hor⟩ := hi
    have h0 : ¬ l > 0 := h0
    refine .mk [] [] _ rfl rfl rfl rfl rfl rfl ?_
    show AV.tup [I1 (limitF k 1 1152921504606846976), I1 (limitF (IntKind.i64.wrap (imax cs 1 - 1)) 1 4096)] = AV.tup [I1 (bankI (cn, ck, cb, cs, cd)), I1 (winI (cn, ck, cb, cs, cd))]
    have e := banks_end (l := cd.length) (k := k) (w := w) h1 hk0 (by omega) (by omega) hor
    have h7 : ((cd.length : Int) + w - 1) / w ≤ (cd.length : Int) + w - 1 := Int.ediv_le_self _ (by omega)
    have e2 : limitF k 1 1152921504606846976 = bankI (cn, ck, cb, cs, cd) := by
      rw [limitF_eq _ _ _ (by omega), e, bankI, hw]
      show _ = max 1 (((cd.length : Int) + w - 1) / w)
      rw [Int.min_eq_left (by omega)]
    rw [ew, e2, hw]
  · repeat' first | exact trivial | exact ⟨rfl, rfl⟩ | refine And.intro ?_ ?_
  · exact ⟨Int.le_refl _, by omega, by show (cd.length : Int) = cd.length - 0 * w; omega, .inl rfl⟩

theorem copy_eq (n : Int) (M : List Int) (h : IntKind.i64.wrap n = n) : over (List.replicate (IntKind.i64.wrap n).toNat 0) M 0 = over (List.replicate n.toNat 0) M 0 := by rw [h]
/-- the state of a memory -/
def cfitS : PSpec := ⟨[gC, gD], fun (c, d, _) => (some (cP c), devM, [.arr (.int .i64) (memN c d.1), .arr (.int .u8) (memM c d.2)])⟩
theorem cfit_ok : GoodF Try.prog 120 cfitS.spec := by
  have hT := tab_ok (fs := [(103, cBytesS.spec), (47, cBanksS.spec)]) tree_ok
  have hP : SpecsOk Try.prog (tab tree [(103, cBytesS.spec), (47, cBanksS.spec)]) := specs_cons cBytes_ok (specs_cons cBanks_ok specs_nil)
  refine cfitS.good (fn := Try.f120) hT hP Try.func120 (by kernel_rfl) rfl fun (c : Cv) (d : Dv) hp => ?_
  obtain ⟨hb, hs, hl⟩ : cP c := hp _ rfl
  obtain ⟨h3, h4, h5⟩ := bankI_in hl
  obtain ⟨h6, h7⟩ := bytesI_in hl
  obtain ⟨N, M⟩ := d
  clear hp
  obtain ⟨cn, ck, cb, cs, cd⟩ := c
  repeat' first
    | (refine Go.mk ?_; conv => whnf)
    | refine Need.go ?_ ?_
    | refine NilG.go (fun _ => ?_) (fun _ => ?_)
    | refine Br.dec (fun _ => ?_) (fun _ => ?_)
    | refine Br.go (fun _ => ?_) (fun _ => ?_)
    | refine draw_go hT hP mixed ?_
    | refine round_go hT hP ?_
  all_goals (try dsimp only [castL_eq] at *)
  all_goals first
    | exact hl
    | exact of_decide_eq_true rfl
    | (show bytesI (cn, ck, cb, cs, cd) = bytesI (cn, ck, cb, cs, cd) ∧ 0 ≤ bytesI (cn, ck, cb, cs, cd) ∧ bytesI (cn, ck, cb, cs, cd) * 1 ≤ 281474976710656 ∧ bytesI (cn, ck, cb, cs, cd) ≤ 281474976710656
       omega)
    | (show (0 : Int) ≤ 0 ∧ (0 : Int) < (N.length : Int)
       omega)
    | (show bankI (cn, ck, cb, cs, cd) ≠ 0
       omega)
    | skip
  · rename_i g1 g2
    refine .mk [] [5, 3] _ rfl rfl rfl rfl rfl (blk2_eq (l' := memN (cn, ck, cb, cs, cd) N) (m' := memM (cn, ck, cb, cs, cd) M) ?_ rfl) rfl
    show [Int.tmod (IntKind.i64.wrap (Int.tmod (N.getD 0 0) (bankI (cn, ck, cb, cs, cd)) + bankI (cn, ck, cb, cs, cd))) (bankI (cn, ck, cb, cs, cd))] = _
    rw [mod_eq _ (by omega) (by omega), memN, if_pos g1]
  · rename_i g1 g2
    refine .mk [] [5, 3] _ rfl rfl rfl rfl rfl (blk2_eq (l := [0]) (l' := memN (cn, ck, cb, cs, cd) N) (m' := memM (cn, ck, cb, cs, cd) M) ?_ rfl) rfl
    obtain rfl : N = [] := List.eq_nil_of_length_eq_zero (by omega)
    rw [memN, if_pos g1]; rfl
  · rename_i g1
    refine .le (Le.nilH 2 (.int .i64) _ _ rfl rfl rfl) (.mk [] [5, 3] _ rfl rfl rfl rfl rfl (blk2_eq (l := []) (l' := memN (cn, ck, cb, cs, cd) N) (m' := memM (cn, ck, cb, cs, cd) M) ?_ rfl) rfl)
    rw [memN, if_neg g1]

/-- the reference's state of a memory: it may be without bytes -/
def mformedS : PSpec := ⟨[gC, gD], fun (c, d, _) => (some (cP c ∧ (c.2.1 = 0 ∨ c.2.1 = 1 ∨ c.2.1 = 2)), devM, [.arr (.int .i64) (memN c d.1), .arr (.int .u8) (memM c d.2)])⟩
theorem mformed_ok : GoodF Try.prog 54 mformedS.spec := by
  have hT := tab_ok (fs := [(95, limitS.spec), (43, bankedS.spec), (117, formS.spec)]) tree_ok
  have hP : SpecsOk Try.prog (tab tree [(95, limitS.spec), (43, bankedS.spec), (117, formS.spec)]) := specs_cons limit_ok (specs_cons banked_ok (specs_cons form_ok specs_nil))
  refine mformedS.good (fn := Try.f54) hT hP Try.func54 (by kernel_rfl) rfl fun (c : Cv) (d : Dv) hp => ?_
  obtain ⟨hc, hk⟩ : cP c ∧ (c.2.1 = 0 ∨ c.2.1 = 1 ∨ c.2.1 = 2) := hp _ rfl
  obtain ⟨hb, hs, hl⟩ := id hc
  obtain ⟨h3, h4, h5⟩ := bankI_in hl
  obtain ⟨h1, h2⟩ := winI_in c
  obtain ⟨N, M⟩ := d
  clear hp
  obtain ⟨cn, ck, cb, cs, cd⟩ := c
  have hk : ck = 0 ∨ ck = 1 ∨ ck = 2 := hk
  have el : limitF cs 0 65536 = max 0 (min cs 65536) := limitF_eq _ _ _ (by omega)
  rcases hk with rfl | rfl | rfl
  · repeat' first
      | (refine Go.mk ?_; conv => whnf)
      | refine Need.go ?_ ?_
      | refine NilG.go (fun _ => ?_) (fun _ => ?_)
      | refine Br.dec (fun _ => ?_) (fun _ => ?_)
      | refine Br.go (fun _ => ?_) (fun _ => ?_)
      | refine draw_go hT hP mixed ?_
      | refine round_go hT hP ?_
    all_goals (try dsimp only [castL_eq] at *)
    · omega
    · rename_i g1
      refine .le (Le.nilH 2 (.int .i64) _ _ rfl rfl rfl) (.mk [] [5, 4] _ rfl rfl rfl rfl rfl (blk2_eq (l := []) (l' := memN (cn, 0, cb, cs, cd) N) (m' := memM (cn, 0, cb, cs, cd) M) rfl ?_) rfl)
      show over (List.replicate (limitF cs 0 65536).toNat 0) M 0 = over (List.replicate (max 0 (min cs 65536)).toNat 0) M 0
      rw [el]
    · rename_i g1
      refine .le (Le.nilH 2 (.int .i64) _ _ rfl rfl rfl) (.le (Le.nilH 2 (.int .u8) _ _ rfl rfl rfl) (.mk [] [4, 5] _ rfl rfl rfl rfl rfl (blk2_eq (l := []) (l' := memN (cn, 0, cb, cs, cd) N) (m := []) (m' := memM (cn, 0, cb, cs, cd) M) rfl ?_) rfl))
      show _ = over (List.replicate (max 0 (min cs 65536)).toNat 0) M 0
      rw [el] at g1
      have : (max 0 (min cs 65536)).toNat = 0 := by omega
      rw [this]; rfl
  · repeat' first
      | (refine Go.mk ?_; conv => whnf)
      | refine Need.go ?_ ?_
      | refine NilG.go (fun _ => ?_) (fun _ => ?_)
      | refine Br.dec (fun _ => ?_) (fun _ => ?_)
      | refine Br.go (fun _ => ?_) (fun _ => ?_)
      | refine draw_go hT hP mixed ?_
      | refine round_go hT hP ?_
    all_goals (try dsimp only [castL_eq] at *)
    · omega
    · rename_i g1
      refine .le (Le.nilH 2 (.int .i64) _ _ rfl rfl rfl) (.mk [] [5, 4] _ rfl rfl rfl rfl rfl (blk2_eq (l := []) (l' := memN (cn, 1, cb, cs, cd) N) (m' := memM (cn, 1, cb, cs, cd) M) rfl ?_) rfl)
      show over (List.replicate (limitF cs 0 65536).toNat 0) M 0 = over (List.replicate (max 0 (min cs 65536)).toNat 0) M 0
      rw [el]
    · rename_i g1
      refine .le (Le.nilH 2 (.int .i64) _ _ rfl rfl rfl) (.le (Le.nilH 2 (.int .u8) _ _ rfl rfl rfl) (.mk [] [4, 5] _ rfl rfl rfl rfl rfl (blk2_eq (l := []) (l' := memN (cn, 1, cb, cs, cd) N) (m := []) (m' := memM (cn, 1, cb, cs, cd) M) rfl ?_) rfl))
      show _ = over (List.replicate (max 0 (min cs 65536)).toNat 0) M 0
      rw [el] at g1
      have : (max 0 (min cs 65536)).toNat = 0 := by omega
      rw [this]; rfl
  · have h3 : 1 ≤ bankI (cn, 2, cb, cs, cd) := h3
    have h4 : bankI (cn, 2, cb, cs, cd) ≤ 140737488355328 := h4
    have h5 : bankI (cn, 2, cb, cs, cd) * winI (cn, 2, cb, cs, cd) ≤ 140737488355328 := h5
    have h1 : 1 ≤ winI (cn, 2, cb, cs, cd) := h1
    have h8 : 1 * 1 ≤ bankI (cn, 2, cb, cs, cd) * winI (cn, 2, cb, cs, cd) := Int.mul_le_mul h3 h1 (by omega) (by omega)
    have ew : IntKind.i64.wrap (bankI (cn, 2, cb, cs, cd) * winI (cn, 2, cb, cs, cd)) = bankI (cn, 2, cb, cs, cd) * winI (cn, 2, cb, cs, cd) := w64 (by omega) (by omega)
    repeat' first
      | (refine Go.mk ?_; conv => whnf)
      | refine Need.go ?_ ?_
      | refine NilG.go (fun _ => ?_) (fun _ => ?_)
      | refine Br.dec (fun _ => ?_) (fun _ => ?_)
      | refine Br.go (fun _ => ?_) (fun _ => ?_)
      | refine draw_go hT hP mixed ?_
      | refine round_go hT hP ?_
    all_goals (try dsimp only [castL_eq] at *)
    · exact hc
    · refine ⟨by show 1 ≤ 1000; omega, fun m hm => ?_⟩
      simp only [List.mem_cons, List.not_mem_nil, or_false] at hm
      subst hm
      show 0 < bankI (cn, 2, cb, cs, cd) ∧ bankI (cn, 2, cb, cs, cd) ≤ 4611686018427387904
      omega
    · rw [ew]; omega
    · rename_i g1
      refine .mk [] [5, 6] _ rfl rfl rfl rfl rfl (blk2_eq (l' := memN (cn, 2, cb, cs, cd) N) (m' := memM (cn, 2, cb, cs, cd) M) rfl ?_) rfl
      exact copy_eq _ M ew
    · rename_i g1
      exfalso
      have g1 : ¬ IntKind.i64.wrap (bankI (cn, 2, cb, cs, cd) * winI (cn, 2, cb, cs, cd)) > 0 := g1
      rw [ew] at g1
      omega

/-- no kind at all -/
def xformedS : PSpec := ⟨[gC, gD], fun (c, d, _) => (some (c.2.1 < 0 ∨ 8 < c.2.1), devM, [.arr (.int .i64) [], .arr (.int .u8) []])⟩
theorem xformed_ok : GoodF Try.prog 54 xformedS.spec := by
  have hT := tab_ok (fs := [(95, limitS.spec), (43, bankedS.spec), (117, formS.spec)]) tree_ok
  have hP : SpecsOk Try.prog (tab tree [(95, limitS.spec), (43, bankedS.spec), (117, formS.spec)]) := specs_cons limit_ok (specs_cons banked_ok (specs_cons form_ok specs_nil))
  refine xformedS.good (fn := Try.f54) hT hP Try.func54 (by kernel_rfl) rfl fun (c : Cv) (d : Dv) hp => ?_
  have hk : c.2.1 < 0 ∨ 8 < c.2.1 := hp _ rfl
  obtain ⟨N, M⟩ := d
  clear hp
  obtain ⟨cn, ck, cb, cs, cd⟩ := c
  repeat' first
    | (refine Go.mk ?_; conv => whnf)
    | refine Need.go ?_ ?_
    | refine NilG.go (fun _ => ?_) (fun _ => ?_)
    | refine Br.dec (fun _ => ?_) (fun _ => ?_)
    | refine Br.go (fun _ => ?_) (fun _ => ?_)
    | refine draw_go hT hP mixed ?_
    | refine round_go hT hP ?_
  all_goals (try dsimp only [castL_eq] at *)
  all_goals first
    | omega
    | exact .le (Le.nilH 2 (.int .i64) _ _ rfl rfl rfl) (.le (Le.nilH 2 (.int .u8) _ _ rfl rfl rfl) (.mk [] [4, 5] _ rfl rfl rfl rfl rfl rfl rfl))
    | skip
  all_goals trace_state

end Go.Proofs.Ytblnigjmcjpopaa

/- The chip that reads and writes disks, for the reference: results in blocks of their own. -/
namespace Go.Proofs.Ytblnigjmcjpopaa
open Go.Fw
set_option linter.unusedVariables false
set_option linter.unusedSimpArgs false
set_option linter.constructorNameAsVariable false
set_option maxRecDepth 100000

def dformedOS : PSpec := ⟨[gC, gD], fun (c, d, _) => (some (c.2.1 = 8 ∧ List.length d.2 ≤ 140737488355328), .agg [.own 0, .own 1], [.arr (.int .i64) (dN d.1 (qF d.2)), .arr (.int .u8) (dM d.2)])⟩
theorem dformedO_ok : GoodF Try.prog 54 dformedOS.spec := by
  refine GoodF.sel dformed1_ok fun (c, d, _) hp => ?_
  obtain ⟨hk, hl⟩ : c.2.1 = 8 ∧ List.length d.2 ≤ 140737488355328 := hp _ rfl
  by_cases h : qF d.2 = 0
  · refine ⟨_, dformed0_ok, fun q hq => ?_, ?_⟩
    · cases hq; exact ⟨hk, hl, h⟩
    · have e : dM d.2 = [] := by unfold dM; rw [h]; rfl
      show Conv (AV.agg [.own 0, .imm (.slice none 0 0)], [.arr (.int .i64) (dN d.1 (qF d.2))]) (AV.agg [.own 0, .own 1], [.arr (.int .i64) (dN d.1 (qF d.2)), .arr (.int .u8) (dM d.2)])
      rw [e]
      exact .nil (.int .u8) rfl .refl
  · exact ⟨_, dformed1_ok, fun q hq => by cases hq; exact ⟨hk, hl, Nat.pos_of_ne_zero h⟩, .refl⟩

def dloadedOS : PSpec := ⟨[gC, gD, gi], fun (c, d, a, _) => (some (c.2.1 = 8 ∧ List.length d.2 ≤ 140737488355328), .tup [.agg [.own 0, .own 1], I1 (drF d.1 (qF d.2) a)], [.arr (.int .i64) (drN d.1 (qF d.2) a), .arr (.int .u8) (dM d.2)])⟩
def dstoredOS : PSpec := ⟨[gC, gD, gi, gi], fun (c, d, a, k, _) => (some (c.2.1 = 8 ∧ List.length d.2 ≤ 140737488355328), .agg [.own 0, .own 1], [.arr (.int .i64) (dwN d.1 (qF d.2) a k), .arr (.int .u8) (dM d.2)])⟩
def dgivenOS : PSpec := ⟨[gC, gD, gi], fun (c, d, k, _) => (some (c.2.1 = 8 ∧ List.length d.2 ≤ 140737488355328), .agg [.own 0, .own 1], [.arr (.int .i64) (dcN d.1 (qF d.2) k), .arr (.int .u8) (dM d.2)])⟩
def dtickedOS : PSpec := ⟨[gC, gD], fun (c, d, _) => (some (c.2.1 = 8 ∧ List.length d.2 ≤ 140737488355328 ∧ u8s d.2), .agg [.own 0, .own 1], [.arr (.int .i64) (turnF (dN d.1 (qF d.2), dM d.2)).1, .arr (.int .u8) (turnF (dN d.1 (qF d.2), dM d.2)).2])⟩
theorem dtickedO_ok : GoodF Try.prog 55 dtickedOS.spec := by
  have hT := tab_ok (fs := [(54, dformedOS.spec), (119, turnsS.spec)]) tree_ok
  have hP : SpecsOk Try.prog (tab tree [(54, dformedOS.spec), (119, turnsS.spec)]) := specs_cons dformedO_ok (specs_cons turns_ok specs_nil)
  refine dtickedOS.good (fn := Try.f55) hT hP Try.func55 (by kernel_rfl) rfl fun (c : Cv) (d : Dv) hp => ?_
  obtain ⟨cn, ck, cb, cs, cd⟩ := c
  obtain ⟨N, M⟩ := d
  obtain ⟨rfl, hl, hu⟩ : ck = 8 ∧ M.length ≤ 140737488355328 ∧ u8s M := hp _ rfl
  have hn := DOkN N hu
  clear hp
  repeat' first
    | (refine Go.mk ?_; conv => whnf)
    | refine Need.go ?_ ?_
    | refine NilG.go (fun _ => ?_) (fun _ => ?_)
    | refine Br.dec (fun _ => ?_) (fun _ => ?_)
    | refine Br.go (fun _ => ?_) (fun _ => ?_)
    | refine draw_go hT hP mixed ?_
    | refine round_go hT hP ?_
  all_goals first
    | exact ⟨rfl, hl⟩
    | exact of_decide_eq_true rfl
    | skip
  · rename_i h
    exact ⟨⟨_, hn⟩, h⟩
  · exact .mk [] [3, 4] _ rfl rfl rfl rfl rfl rfl rfl
  · rename_i h
    exact .mk [] [3, 4] _ rfl rfl rfl rfl rfl (blk2_eq (congrArg Prod.fst (turn_zero (l := dN N (qF M)) (m := dM M) rfl h)).symm (congrArg Prod.snd (turn_zero (l := dN N (qF M)) (m := dM M) rfl h)).symm) rfl

end Go.Proofs.Ytblnigjmcjpopaa

/- The chip that draws, by the document. -/
namespace Go.Proofs.Ytblnigjmcjpopaa
open Go.Fw
set_option linter.unusedVariables false
set_option linter.unusedSimpArgs false
set_option maxRecDepth 100000

def vidC : Cv := (ByteArray.empty, 6, 0, 0, [])
theorem vmods_ok : ([2560, 2] : List Int).length ≤ 1000 ∧ ∀ m ∈ ([2560, 2] : List Int), 0 < m ∧ m ≤ 4611686018427387904 := by decide
def vformedS : PSpec := ⟨[gC, gD], fun (c, d, _) => (some (c.2.1 = 6), devM, [.arr (.int .i64) (vN d.1), .arr (.int .u8) (vM d.2)])⟩
theorem vformed_ok : GoodF Try.prog 54 vformedS.spec := by
  have hT := tab_ok (fs := [(117, formS.spec)]) tree_ok
  have hP : SpecsOk Try.prog (tab tree [(117, formS.spec)]) := specs_cons form_ok specs_nil
  refine vformedS.good (fn := Try.f54) hT hP Try.func54 (by kernel_rfl) rfl fun (c : Cv) (d : Dv) hp => ?_
  obtain ⟨cn, ck, cb, cs, cd⟩ := c
  obtain rfl : ck = 6 := hp _ rfl
  obtain ⟨N, M⟩ := d
  repeat' first
    | (refine Go.mk ?_; conv => whnf)
    | refine Need.go ?_ ?_
    | refine NilG.go (fun _ => ?_) (fun _ => ?_)
    | refine Br.dec (fun _ => ?_) (fun _ => ?_)
    | refine Br.go (fun _ => ?_) (fun _ => ?_)
    | refine draw_go hT hP mixed ?_
    | refine round_go hT hP ?_
  all_goals first
    | exact rfl
    | exact vmods_ok
    | exact of_decide_eq_true rfl
    | skip
  · rename_i h
    have h : (N.length : Int) = 0 := h
    obtain rfl : N = [] := List.eq_nil_of_length_eq_zero (by omega)
    exact .mk [] [6, 7] _ rfl rfl rfl rfl rfl rfl rfl
  · rename_i h
    have h : ¬ (N.length : Int) = 0 := h
    refine .mk [] [5, 6] _ rfl rfl rfl rfl rfl (blk_v (l := [N.getD 0 0 % 2560, N.getD 1 0 % 2]) ?_ rfl) rfl
    show _ = vN N
    rw [vN, vP, if_neg (by omega)]

def vfreshS : PSpec := ⟨[gC], fun (c, _) => (some (c.2.1 = 6), devM, [.arr (.int .i64) [2559, 0], .arr (.int .u8) (List.replicate 32 0)])⟩
theorem vfresh_ok : GoodF Try.prog 50 vfreshS.spec := by
  have hT := tab_ok (fs := [(54, vformedS.spec)]) tree_ok
  have hP : SpecsOk Try.prog (tab tree [(54, vformedS.spec)]) := specs_cons vformed_ok specs_nil
  refine vfreshS.good (fn := Try.f50) hT hP Try.func50 (by kernel_rfl) rfl fun (c : Cv) hp => ?_
  obtain ⟨cn, ck, cb, cs, cd⟩ := c
  obtain rfl : ck = 6 := hp _ rfl
  repeat' first
    | (refine Go.mk ?_; conv => whnf)
    | refine Need.go ?_ ?_
    | refine NilG.go (fun _ => ?_) (fun _ => ?_)
    | refine Br.dec (fun _ => ?_) (fun _ => ?_)
    | refine Br.go (fun _ => ?_) (fun _ => ?_)
    | refine draw_go hT hP mixed ?_
    | refine round_go hT hP ?_
  all_goals first
    | exact rfl
    | exact vmods_ok
    | exact of_decide_eq_true rfl
    | skip
  · exact .mk [] [2, 3] _ rfl rfl rfl rfl rfl rfl rfl

def vloadedS : PSpec := ⟨[gC, gD, gi], fun (c, d, a, _) => (some (c.2.1 = 6 ∧ u8s d.2), .tup [.agg [.own 0, .own 1], I1 (vrF d.1 (vM d.2) a)], [.arr (.int .i64) (vrN d.1 a), .arr (.int .u8) (vM d.2)])⟩
def vstoredS : PSpec := ⟨[gC, gD, gi, gi], fun (c, d, a, k, _) => (some (c.2.1 = 6), devM, [.arr (.int .i64) [vP d.1, vH d.1], .arr (.int .u8) (vwM (vM d.2) a k)])⟩
def vtickedS : PSpec := ⟨[gC, gD], fun (c, d, _) => (some (c.2.1 = 6 ∧ u8s d.2), devM, [.arr (.int .i64) (tickV (vM d.2) (vN d.1)), .arr (.int .u8) (vM d.2)])⟩
theorem vticked_ok : GoodF Try.prog 55 vtickedS.spec := by
  have hT := tab_ok (fs := [(54, vformedS.spec), (118, shadeS.spec)]) tree_ok
  have hP : SpecsOk Try.prog (tab tree [(54, vformedS.spec), (118, shadeS.spec)]) := specs_cons vformed_ok (specs_cons shade_ok specs_nil)
  refine vtickedS.good (fn := Try.f55) hT hP Try.func55 (by kernel_rfl) rfl fun (c : Cv) (d : Dv) hp => ?_
  obtain ⟨cn, ck, cb, cs, cd⟩ := c
  obtain ⟨rfl, hu⟩ : ck = 6 ∧ u8s d.2 := hp _ rfl
  obtain ⟨N, M⟩ := d
  have hu : u8s M := hu
  have hP0 := vP_in N
  have hpos : Int.tmod (IntKind.i64.wrap (vP N + 1)) 2560 = (vP N + 1) % 2560 := by rw [w64 (by omega) (by omega), Int.tmod_eq_emod_of_nonneg (by omega)]
  have hpos2 : 0 ≤ Int.tmod (IntKind.i64.wrap (vP N + 1)) 2560 ∧ Int.tmod (IntKind.i64.wrap (vP N + 1)) 2560 < 2560 := by rw [hpos]; omega
  repeat' first
    | (refine Go.mk ?_; conv => whnf)
    | refine Need.go ?_ ?_
    | refine NilG.go (fun _ => ?_) (fun _ => ?_)
    | refine Br.dec (fun _ => ?_) (fun _ => ?_)
    | refine Br.go (fun _ => ?_) (fun _ => ?_)
    | refine draw_go hT hP mixed ?_
    | refine round_go hT hP ?_
  all_goals first
    | exact rfl
    | exact vmods_ok
    | exact of_decide_eq_true rfl
    | exact ⟨vM_len M, vM_u8 hu, hpos2.1, hpos2.2⟩
    | skip
  · rename_i h
    have h : hitB (vM M) (Int.tmod (IntKind.i64.wrap (vP N + 1)) 2560) = true := h
    refine .mk [] [3, 4] _ rfl rfl rfl rfl rfl (blk_v (l := [Int.tmod (IntKind.i64.wrap (vP N + 1)) 2560, 1]) ?_ rfl) rfl
    show _ = tickV (vM M) (vN N)
    rw [hpos] at h ⊢
    rw [vN, tickV, h]; rfl
  · rename_i h
    have h : hitB (vM M) (Int.tmod (IntKind.i64.wrap (vP N + 1)) 2560) = false := h
    refine .mk [] [3, 4] _ rfl rfl rfl rfl rfl (blk_v (l := [Int.tmod (IntKind.i64.wrap (vP N + 1)) 2560, vH N]) ?_ rfl) rfl
    show _ = tickV (vM M) (vN N)
    rw [hpos] at h ⊢
    rw [vN, tickV, h]; rfl

def vshowsS : PSpec := ⟨[gC, gD], fun (c, d, _) => (some (c.2.1 = 6 ∧ u8s d.2), I (colorF (vM d.2) (vP d.1)), [])⟩
def vrestsS : PSpec := ⟨[gC, gD], fun (c, d, _) => (some (c.2.1 = 6 ∧ u8s d.2), I (vnextF (vM d.2) (vP d.1)), [])⟩
end Go.Proofs.Ytblnigjmcjpopaa

/- All kinds of chips at once: what each chip's functions give, in blocks of their own. -/
namespace Go.Proofs.Ytblnigjmcjpopaa
open Go.Fw
set_option linter.unusedVariables false
set_option linter.unusedSimpArgs false
set_option linter.constructorNameAsVariable false
set_option maxRecDepth 100000

abbrev devM1 : V1 := .agg [.own 0, .own 1]
def tnewOS : PSpec := ⟨[], fun _ => (none, devM, [.arr (.int .i64) [0, 0, 0, 0], .arr (.int .u8) []])⟩
theorem tnewO_ok : GoodF Try.prog 104 tnewOS.spec := GoodF.nil (.int .u8) tnew_ok (fun xs hp => ⟨hp, rfl, rfl⟩)
def tskipOS : PSpec := ⟨[gD, gi], fun (d, k, _) => (some (k ≤ 4611686018427387904), devM, [.arr (.int .i64) (iterT k.toNat (timN d.1)), .arr (.int .u8) []])⟩
theorem tskipO_ok : GoodF Try.prog 121 tskipOS.spec := GoodF.nil (.int .u8) tskip_ok (fun xs hp => ⟨hp, rfl, rfl⟩)
def twriteOS : PSpec := ⟨[gD, gi, gi], fun (d, a, k, _) => (none, devM, [.arr (.int .i64) (twN d.1 a k), .arr (.int .u8) []])⟩
theorem twriteO_ok : GoodF Try.prog 162 twriteOS.spec := GoodF.nil (.int .u8) twrite_ok (fun xs hp => ⟨hp, rfl, rfl⟩)
def treadOS : PSpec := ⟨[gD, gi], fun (d, a, _) => (none, .tup [devM1, I1 (trF d.1 a)], [.arr (.int .i64) (trN d.1 a), .arr (.int .u8) []])⟩
theorem treadO_ok : GoodF Try.prog 155 treadOS.spec := GoodF.nil (.int .u8) tread_ok (fun xs hp => ⟨hp, rfl, rfl⟩)
def pnewOS : PSpec := ⟨[], fun _ => (none, devM, [.arr (.int .i64) [255, 0, 0], .arr (.int .u8) []])⟩
theorem pnewO_ok : GoodF Try.prog 105 pnewOS.spec := GoodF.nil (.int .u8) pnew_ok (fun xs hp => ⟨hp, rfl, rfl⟩)
def pinOS : PSpec := ⟨[gD, gi], fun (d, k, _) => (none, devM, [.arr (.int .i64) (pinN d.1 k), .arr (.int .u8) []])⟩
theorem pinO_ok : GoodF Try.prog 122 pinOS.spec := GoodF.nil (.int .u8) pin_ok (fun xs hp => ⟨hp, rfl, rfl⟩)
def pwriteOS : PSpec := ⟨[gD, gi, gi], fun (d, a, k, _) => (none, devM, [.arr (.int .i64) (pwN d.1 a k), .arr (.int .u8) []])⟩
theorem pwriteO_ok : GoodF Try.prog 163 pwriteOS.spec := GoodF.nil (.int .u8) pwrite_ok (fun xs hp => ⟨hp, rfl, rfl⟩)
def preadOS : PSpec := ⟨[gD, gi], fun (d, a, _) => (none, .tup [devM1, I1 (preadF d.1 a)], [.arr (.int .i64) (portN d.1), .arr (.int .u8) []])⟩
theorem preadO_ok : GoodF Try.prog 156 preadOS.spec := GoodF.nil (.int .u8) pread_ok (fun xs hp => ⟨hp, rfl, rfl⟩)
def snewOS : PSpec := ⟨[], fun _ => (none, devM, [.arr (.int .i64) [0, 0, 0, 0, 0, 0, 0, 0], .arr (.int .u8) []])⟩
theorem snewO_ok : GoodF Try.prog 106 snewOS.spec := GoodF.nil (.int .u8) snew_ok (fun xs hp => ⟨hp, rfl, rfl⟩)
def sskipOS : PSpec := ⟨[gD, gi], fun (d, k, _) => (some (k ≤ 4611686018427387904), devM, [.arr (.int .i64) (iterF tickS k.toNat (serN d.1)), .arr (.int .u8) []])⟩
theorem sskipO_ok : GoodF Try.prog 124 sskipOS.spec := GoodF.nil (.int .u8) sskip_ok (fun xs hp => ⟨hp, rfl, rfl⟩)
def sinOS : PSpec := ⟨[gD, gi], fun (d, k, _) => (none, devM, [.arr (.int .i64) (sinN d.1 k), .arr (.int .u8) []])⟩
def swriteOS : PSpec := ⟨[gD, gi, gi], fun (d, a, k, _) => (none, devM, [.arr (.int .i64) (swN d.1 a k), .arr (.int .u8) []])⟩
theorem swriteO_ok : GoodF Try.prog 164 swriteOS.spec := GoodF.nil (.int .u8) swrite_ok (fun xs hp => ⟨hp, rfl, rfl⟩)
def sreadOS : PSpec := ⟨[gD, gi], fun (d, a, _) => (none, .tup [devM1, I1 (srF d.1 a)], [.arr (.int .i64) (srN d.1 a), .arr (.int .u8) []])⟩
theorem sreadO_ok : GoodF Try.prog 157 sreadOS.spec := GoodF.nil (.int .u8) sread_ok (fun xs hp => ⟨hp, rfl, rfl⟩)
def onewOS : PSpec := ⟨[], fun _ => (none, devM, [.arr (.int .i64) (List.replicate 12 0), .arr (.int .u8) []])⟩
theorem onewO_ok : GoodF Try.prog 108 onewOS.spec := GoodF.nil (.int .u8) onew_ok (fun xs hp => ⟨hp, rfl, rfl⟩)
def oskipOS : PSpec := ⟨[gD, gi], fun (d, k, _) => (some (k ≤ 10000000), devM, [.arr (.int .i64) (iterF tickW k.toNat (sndN d.1)), .arr (.int .u8) []])⟩
theorem oskipO_ok : GoodF Try.prog 126 oskipOS.spec := GoodF.nil (.int .u8) oskip_ok (fun xs hp => ⟨hp, rfl, rfl⟩)
def owriteOS : PSpec := ⟨[gD, gi, gi], fun (d, a, k, _) => (none, devM, [.arr (.int .i64) (owF d.1 a k), .arr (.int .u8) []])⟩
theorem owriteO_ok : GoodF Try.prog 166 owriteOS.spec := GoodF.nil (.int .u8) owrite_ok (fun xs hp => ⟨hp, rfl, rfl⟩)
def oreadOS : PSpec := ⟨[gD, gi], fun (d, a, _) => (none, .tup [devM1, I1 (orF d.1 a)], [.arr (.int .i64) (sndN d.1), .arr (.int .u8) []])⟩
theorem oreadO_ok : GoodF Try.prog 159 oreadOS.spec := GoodF.nil (.int .u8) oread_ok (fun xs hp => ⟨hp, rfl, rfl⟩)

theorem kinds (k : Int) : k = 0 ∨ k = 1 ∨ k = 2 ∨ k = 3 ∨ k = 4 ∨ k = 5 ∨ k = 6 ∨ k = 7 ∨ k = 8 ∨ (k < 0 ∨ 8 < k) := by omega
def sel {α : Type} (k : Int) (m t p s v o r x : α) : α := if 0 ≤ k ∧ k ≤ 2 then m else if k = 3 then t else if k = 4 then p else if k = 5 then s else if k = 6 then v else if k = 7 then o else if k = 8 then r else x
theorem sel_x {α : Type} {k : Int} (h : k < 0 ∨ 8 < k) (m t p s v o r x : α) : sel k m t p s v o r x = x := by
  unfold sel
  rw [if_neg (by omega), if_neg (by omega), if_neg (by omega), if_neg (by omega), if_neg (by omega), if_neg (by omega), if_neg (by omega)]

theorem kx3 {k : Int} (h : k < 0 ∨ 8 < k) : k < 3 ∨ k = 4 ∨ 8 < k := by omega
theorem k3 {k : Int} (h : k < 3 ∨ k = 4 ∨ 8 < k) : k < 3 ∨ k = 4 ∨ 8 < k := h

-- what a state is in its form, a cycle later, ..

def formF (c : Cv) (d : Dv) : Dv := sel c.2.1 (memN c d.1, memM c d.2) (timN d.1, []) (portN d.1, []) (serN d.1, []) (vN d.1, vM d.2) (sndN d.1, []) (dN d.1 (qF d.2), dM d.2) ([], [])
def tickF (c : Cv) (d : Dv) : Dv := sel c.2.1 (memN c d.1, memM c d.2) (tickT (timN d.1), []) (portN d.1, []) (tickS (serN d.1), []) (tickV (vM d.2) (vN d.1), vM d.2) (tickW (sndN d.1), []) (turnF (dN d.1 (qF d.2), dM d.2)) ([], [])

def kFormedS : PSpec := ⟨[gC, gD], fun (c, d, _) => (some (cP c ∧ List.length d.2 ≤ 140737488355328), devM, [.arr (.int .i64) (formF c d).1, .arr (.int .u8) (formF c d).2])⟩
theorem kFormed_ok : GoodF Try.prog 54 kFormedS.spec := by
  refine GoodF.sel dformed1_ok fun (c, d, _) hp => ?_
  obtain ⟨cn, ck, cb, cs, cd⟩ := c
  obtain ⟨N, M⟩ := d
  obtain ⟨hc, hl⟩ : cP (cn, ck, cb, cs, cd) ∧ List.length M ≤ 140737488355328 := hp _ rfl
  clear hp
  show ∃ o1 : Args [gC, gD] → Option Prop × AV × List Blk, _
  rcases kinds ck with rfl | rfl | rfl | rfl | rfl | rfl | rfl | rfl | rfl | hx
  · exact ⟨_, mformed_ok, fun q hq => by cases hq; exact ⟨hc, .inl rfl⟩, .refl⟩
  · exact ⟨_, mformed_ok, fun q hq => by cases hq; exact ⟨hc, .inr (.inl rfl)⟩, .refl⟩
  · exact ⟨_, mformed_ok, fun q hq => by cases hq; exact ⟨hc, .inr (.inr rfl)⟩, .refl⟩
  · exact ⟨_, tformed_ok, fun q hq => by cases hq; rfl, .nil (.int .u8) rfl .refl⟩
  · exact ⟨_, pformed_ok, fun q hq => by cases hq; rfl, .nil (.int .u8) rfl .refl⟩
  · exact ⟨_, sformed_ok, fun q hq => by cases hq; rfl, .nil (.int .u8) rfl .refl⟩
  · exact ⟨_, vformed_ok, fun q hq => by cases hq; rfl, .refl⟩
  · exact ⟨_, oformed_ok, fun q hq => by cases hq; rfl, .nil (.int .u8) rfl .refl⟩
  · exact ⟨_, dformedO_ok, fun q hq => by cases hq; exact ⟨rfl, hl⟩, .refl⟩
  · refine ⟨_, xformed_ok, fun q hq => by cases hq; exact hx, ?_⟩
    have e : formF (cn, ck, cb, cs, cd) (N, M) = ([], []) := sel_x hx ..
    show Conv (devM, [Blk.arr (.int .i64) [], .arr (.int .u8) []]) (devM, [.arr (.int .i64) (formF (cn, ck, cb, cs, cd) (N, M)).1, .arr (.int .u8) (formF (cn, ck, cb, cs, cd) (N, M)).2])
    rw [e]
    exact .refl

def kTickedS : PSpec := ⟨[gC, gD], fun (c, d, _) => (some (cP c ∧ dP d), devM, [.arr (.int .i64) (tickF c d).1, .arr (.int .u8) (tickF c d).2])⟩
/-- the kinds that nothing happens to -/
def kTicked0S : PSpec := ⟨[gC, gD], fun (c, d, _) => (some (cP c ∧ dP d ∧ (c.2.1 < 3 ∨ c.2.1 = 4 ∨ 8 < c.2.1)), devM, [.arr (.int .i64) (formF c d).1, .arr (.int .u8) (formF c d).2])⟩
theorem kTicked0_ok : GoodF Try.prog 55 kTicked0S.spec := by
  have hT := tab_ok (fs := [(54, kFormedS.spec)]) tree_ok
  have hP : SpecsOk Try.prog (tab tree [(54, kFormedS.spec)]) := specs_cons kFormed_ok specs_nil
  refine kTicked0S.good (fn := Try.f55) hT hP Try.func55 (by kernel_rfl) rfl fun (c : Cv) (d : Dv) hp => ?_
  obtain ⟨cn, ck, cb, cs, cd⟩ := c
  obtain ⟨N, M⟩ := d
  obtain ⟨hc, ⟨hl, hu⟩, hx⟩ : cP (cn, ck, cb, cs, cd) ∧ dP (N, M) ∧ (ck < 3 ∨ ck = 4 ∨ 8 < ck) := hp _ rfl
  clear hp
  repeat' first
    | (refine Go.mk ?_; conv => whnf)
    | refine Need.go ?_ ?_
    | refine NilG.go (fun _ => ?_) (fun _ => ?_)
    | refine Br.dec (fun _ => ?_) (fun _ => ?_)
    | refine Br.go (fun _ => ?_) (fun _ => ?_)
    | refine draw_go hT hP mixed ?_
    | refine round_go hT hP ?_
  all_goals (try dsimp only [castL_eq] at *)
  all_goals first
    | exact ⟨hc, hl⟩
    | omega
    | exact .mk [] [3, 4] _ rfl rfl rfl rfl rfl rfl rfl
    | skip
theorem kTicked_ok : GoodF Try.prog 55 kTickedS.spec := by
  refine GoodF.sel kTicked0_ok fun (c, d, _) hp => ?_
  obtain ⟨cn, ck, cb, cs, cd⟩ := c
  obtain ⟨N, M⟩ := d
  obtain ⟨hc, hl, hu⟩ : cP (cn, ck, cb, cs, cd) ∧ dP (N, M) := hp _ rfl
  clear hp
  show ∃ o1 : Args [gC, gD] → Option Prop × AV × List Blk, _
  rcases kinds ck with rfl | rfl | rfl | rfl | rfl | rfl | rfl | rfl | rfl | hx
  · exact ⟨_, kTicked0_ok, fun q hq => by cases hq; exact ⟨hc, ⟨hl, hu⟩, .inl (by decide : (0 : Int) < 3)⟩, .refl⟩
  · exact ⟨_, kTicked0_ok, fun q hq => by cases hq; exact ⟨hc, ⟨hl, hu⟩, .inl (by decide : (1 : Int) < 3)⟩, .refl⟩
  · exact ⟨_, kTicked0_ok, fun q hq => by cases hq; exact ⟨hc, ⟨hl, hu⟩, .inl (by decide : (2 : Int) < 3)⟩, .refl⟩
  · exact ⟨_, ticked_ok, fun q hq => by cases hq; rfl, .nil (.int .u8) rfl .refl⟩
  · exact ⟨_, kTicked0_ok, fun q hq => by cases hq; exact ⟨hc, ⟨hl, hu⟩, .inr (.inl rfl)⟩, .refl⟩
  · exact ⟨_, sticked_ok, fun q hq => by cases hq; rfl, .nil (.int .u8) rfl .refl⟩
  · exact ⟨_, vticked_ok, fun q hq => by cases hq; exact ⟨rfl, hu⟩, .refl⟩
  · exact ⟨_, oticked_ok, fun q hq => by cases hq; rfl, .nil (.int .u8) rfl .refl⟩
  · exact ⟨_, dtickedO_ok, fun q hq => by cases hq; exact ⟨rfl, hl, hu⟩, .refl⟩
  · refine ⟨_, kTicked0_ok, fun q hq => by cases hq; exact ⟨hc, ⟨hl, hu⟩, kx3 hx⟩, ?_⟩
    have e : formF (cn, ck, cb, cs, cd) (N, M) = tickF (cn, ck, cb, cs, cd) (N, M) := by unfold formF tickF; rw [sel_x hx, sel_x hx]
    show Conv (devM, [Blk.arr (.int .i64) (formF (cn, ck, cb, cs, cd) (N, M)).1, .arr (.int .u8) (formF (cn, ck, cb, cs, cd) (N, M)).2]) _
    rw [e]
    exact .refl

/-- a cycle, many times -/
def skipF (c : Cv) (d : Dv) (k : Int) : Dv := sel c.2.1 (memN c d.1, memM c d.2) (iterT k.toNat (timN d.1), []) (portN d.1, []) (iterF tickS k.toNat (serN d.1), []) (iterF (tickV (vM d.2)) k.toNat (vN d.1), vM d.2) (iterF tickW k.toNat (sndN d.1), []) (skipD k (dN d.1 (qF d.2), dM d.2)) ([], [])
def firstS : PSpec := ⟨[gD], fun (d, _) => (none, I (d.1.getD 0 0), [])⟩
theorem first_ok : GoodF Try.prog 123 firstS.spec := by
  have hT := tab_ok (fs := []) tree_ok
  have hP : SpecsOk Try.prog (tab tree []) := specs_nil
  refine firstS.good (fn := Try.f123) hT hP Try.func123 (by kernel_rfl) rfl fun (d : Dv) _ => ?_
  obtain ⟨N, M⟩ := d
  repeat' first
    | (refine Go.mk ?_; conv => whnf)
    | refine Need.go ?_ ?_
    | refine NilG.go (fun _ => ?_) (fun _ => ?_)
    | refine Br.dec (fun _ => ?_) (fun _ => ?_)
    | refine Br.go (fun _ => ?_) (fun _ => ?_)
    | refine draw_go hT hP mixed ?_
    | refine round_go hT hP ?_
  all_goals (try dsimp only [castL_eq] at *)
  · rename_i h
    obtain rfl : N = [] := List.eq_nil_of_length_eq_zero (by omega)
    exact .mk [] [] _ rfl rfl rfl rfl rfl rfl rfl
  · rename_i h
    show 0 ≤ (0 : Int) ∧ (0 : Int) < (N.length : Int)
    omega
  · exact .mk [] [] _ rfl rfl rfl rfl rfl rfl rfl
theorem pin_first (N : List Int) : pinN N (N.getD 0 0) = portN N := rfl

def cSkipS : PSpec := ⟨[gC, gD, gi], fun (c, d, k, _) => (some (cP c ∧ dP d ∧ k ≤ 1500), devM, [.arr (.int .i64) (skipF c d k).1, .arr (.int .u8) (skipF c d k).2])⟩
theorem cSkip_ok : GoodF Try.prog 57 cSkipS.spec := by
  have hT := tab_ok (fs := [(120, cfitS.spec), (121, tskipOS.spec), (122, pinOS.spec), (123, firstS.spec), (124, sskipOS.spec), (125, vskipS.spec), (126, oskipOS.spec), (127, dskipS.spec)]) tree_ok
  have hP : SpecsOk Try.prog (tab tree [(120, cfitS.spec), (121, tskipOS.spec), (122, pinOS.spec), (123, firstS.spec), (124, sskipOS.spec), (125, vskipS.spec), (126, oskipOS.spec), (127, dskipS.spec)]) := specs_cons cfit_ok (specs_cons tskipO_ok (specs_cons pinO_ok (specs_cons first_ok (specs_cons sskipO_ok (specs_cons vskip_ok (specs_cons oskipO_ok (specs_cons dskip_ok specs_nil)))))))
  refine cSkipS.good (fn := Try.f57) hT hP Try.func57 (by kernel_rfl) rfl fun (c : Cv) (d : Dv) (k : Int) hp => ?_
  obtain ⟨cn, ck, cb, cs, cd⟩ := c
  obtain ⟨N, M⟩ := d
  obtain ⟨hc, ⟨hl, hu⟩, hk⟩ : cP (cn, ck, cb, cs, cd) ∧ dP (N, M) ∧ k ≤ 1500 := hp _ rfl
  clear hp
  rcases kinds ck with rfl | rfl | rfl | rfl | rfl | rfl | rfl | rfl | rfl | hx
  all_goals
    repeat' first
      | (refine Go.mk ?_; conv => whnf)
      | refine Need.go ?_ ?_
      | refine NilG.go (fun _ => ?_) (fun _ => ?_)
      | refine Br.dec (fun _ => ?_) (fun _ => ?_)
      | refine Br.go (fun _ => ?_) (fun _ => ?_)
      | refine draw_go hT hP mixed ?_
      | refine round_go hT hP ?_
    all_goals (try dsimp only [castL_eq] at *)
  all_goals first
    | exact hc
    | exact Int.le_trans hk (by decide)
    | exact ⟨hu, Int.le_trans hk (by decide)⟩
    | exact ⟨hl, hu, hk⟩
    | exact .mk [] [3, 4] _ rfl rfl rfl rfl rfl rfl rfl
    | (exfalso; omega)
    | (refine .le (Le.nilH 2 (.int .i64) _ _ rfl rfl rfl) (.le (Le.nilH 2 (.int .u8) _ _ rfl rfl rfl) (.mk [] [3, 4] _ rfl rfl rfl rfl rfl (blk2_eq (l := []) (m := []) ?_ ?_) rfl)) <;> (unfold skipF; rw [sel_x hx]))
    | skip
  all_goals trace_state

end Go.Proofs.Ytblnigjmcjpopaa

/- Memories read and written. -/
namespace Go.Proofs.Ytblnigjmcjpopaa
open Go.Fw
set_option linter.unusedVariables false
set_option linter.unusedSimpArgs false
set_option linter.constructorNameAsVariable false
set_option maxRecDepth 100000

theorem u8s_over {l M : List Int} (h1 : u8s l) (h2 : u8s M) : u8s (over l M 0) := by
  rw [over_eq]
  intro x hx
  rcases List.mem_append.1 hx with hx | hx
  · exact h2 x (List.mem_of_mem_drop (List.mem_of_mem_take hx))
  · exact h1 x (List.mem_of_mem_drop hx)
theorem u8s_zero (n : Nat) : u8s (List.replicate n 0) := fun x hx => by
  rw [List.eq_of_mem_replicate hx]; decide
theorem memM_u8 (c : Cv) {M : List Int} (h : u8s M) : u8s (memM c M) := u8s_over (u8s_zero _) h
theorem u8s_getD {M : List Int} (h : u8s M) (n : Nat) : 0 ≤ M.getD n 0 ∧ M.getD n 0 < 256 := by
  by_cases hn : n < M.length
  · rw [List.getD_eq_getElem?_getD, List.getElem?_eq_getElem hn]
    exact h _ (List.getElem_mem hn)
  · rw [List.getD_eq_getElem?_getD, List.getElem?_eq_none (by omega)]; decide
theorem u8s_w {M : List Int} (h : u8s M) (n : Nat) : IntKind.i64.wrap (M.getD n 0) = M.getD n 0 := by
  have := u8s_getD h n
  exact w64 (by omega) (by omega)
def placeI (c : Cv) (d : Dv) (a : Int) : Int := if c.2.1 = 2 then (if a < 1 ∨ a > winI c then -1 else d.1.getD 0 0 * winI c + a - 1) else if a < 0 ∨ a ≥ (List.length d.2 : Nat) then -1 else a
def placeP (c : Cv) (d : Dv) : Prop := cP c ∧ (c.2.1 = 2 → 0 < List.length d.1 ∧ 0 ≤ d.1.getD 0 0 ∧ d.1.getD 0 0 < bankI c)
theorem bank_mul {n b w : Int} (h0 : 0 ≤ n) (h1 : n < b) (hw : 1 ≤ w) : 0 ≤ n * w ∧ n * w + w ≤ b * w := by
  have h2 : (n + 1) * w ≤ b * w := Int.mul_le_mul_of_nonneg_right (by omega) (by omega)
  have h3 : 0 ≤ n * w := Int.mul_nonneg h0 (by omega)
  rw [Int.add_mul, Int.one_mul] at h2
  exact ⟨h3, h2⟩
def mPlaceS : PSpec := ⟨[gC, gD, gi], fun (c, d, a, _) => (some (placeP c d), I (placeI c d a), [])⟩
theorem mPlace_ok : GoodF Try.prog 192 mPlaceS.spec := by
  have hT := tab_ok (fs := [(100, windowS.spec)]) tree_ok
  have hP : SpecsOk Try.prog (tab tree [(100, windowS.spec)]) := specs_cons window_ok specs_nil
  refine mPlaceS.good (fn := Try.f192) hT hP Try.func192 (by kernel_rfl) rfl fun (c : Cv) (d : Dv) (a : Int) hp => ?_
  obtain ⟨cn, ck, cb, cs, cd⟩ := c
  obtain ⟨N, M⟩ := d
  obtain ⟨hc, hx⟩ : placeP (cn, ck, cb, cs, cd) (N, M) := hp _ rfl
  clear hp
  have hx : ck = 2 → 0 < N.length ∧ 0 ≤ N.getD 0 0 ∧ N.getD 0 0 < bankI (cn, ck, cb, cs, cd) := hx
  obtain ⟨w1, w2⟩ := winI_in (cn, ck, cb, cs, cd)
  obtain ⟨b1, b2, b3⟩ := bankI_in hc.2.2
  repeat' first
    | (refine Go.mk ?_; conv => whnf)
    | refine Need.go ?_ ?_
    | refine NilG.go (fun _ => ?_) (fun _ => ?_)
    | refine Br.dec (fun _ => ?_) (fun _ => ?_)
    | refine Br.go (fun _ => ?_) (fun _ => ?_)
    | refine draw_go hT hP mixed ?_
    | refine round_go hT hP ?_
  all_goals (try dsimp only [castL_eq] at *)
  all_goals clear hT hP
  · rename_i g1 g2
    refine .mk [] [] _ rfl rfl rfl rfl rfl rfl (imm_int ?_)
    exact (by unfold placeI; rw [if_pos g1, if_pos (.inl g2)] : -1 = placeI (cn, ck, cb, cs, cd) (N, M) a)
  · rename_i g1 g2 g3
    refine .mk [] [] _ rfl rfl rfl rfl rfl rfl (imm_int ?_)
    exact (by unfold placeI; rw [if_pos g1, if_pos (.inr g3)] : -1 = placeI (cn, ck, cb, cs, cd) (N, M) a)
  · rename_i g1 g2 g3
    have := hx g1
    show (0 : Int) ≤ 0 ∧ (0 : Int) < (N.length : Int)
    omega
  · rename_i g1 g2 g3
    refine .mk [] [] _ rfl rfl rfl rfl rfl rfl (imm_int ?_)
    show IntKind.i64.wrap (IntKind.i64.wrap (IntKind.i64.wrap (N.getD 0 0 * winI (cn, ck, cb, cs, cd)) + a) - 1) = placeI (cn, ck, cb, cs, cd) (N, M) a
    obtain ⟨_, n0, n1⟩ := hx g1
    obtain ⟨m1, m2⟩ := bank_mul n0 n1 w1
    have g2 : ¬ a < 1 := g2
    have g3 : ¬ a > winI (cn, ck, cb, cs, cd) := g3
    have b3 : bankI (cn, ck, cb, cs, cd) * winI (cn, ck, cb, cs, cd) ≤ 140737488355328 := b3
    unfold placeI
    rw [if_pos (show (cn, ck, cb, cs, cd).2.1 = 2 from g1), if_neg (by omega), w64 (x := N.getD 0 0 * winI (cn, ck, cb, cs, cd)) (by omega) (by omega), w64 (x := N.getD 0 0 * winI (cn, ck, cb, cs, cd) + a) (by omega) (by omega), w64 (by omega) (by omega)]
  · rename_i g1 g2
    refine .mk [] [] _ rfl rfl rfl rfl rfl rfl (imm_int ?_)
    exact (by unfold placeI; rw [if_neg g1, if_pos (.inl g2)] : -1 = placeI (cn, ck, cb, cs, cd) (N, M) a)
  · rename_i g1 g2 g3
    refine .mk [] [] _ rfl rfl rfl rfl rfl rfl (imm_int ?_)
    exact (by unfold placeI; rw [if_neg g1, if_pos (.inr g3)] : -1 = placeI (cn, ck, cb, cs, cd) (N, M) a)
  · rename_i g1 g2 g3
    refine .mk [] [] _ rfl rfl rfl rfl rfl rfl (imm_int ?_)
    exact (by unfold placeI; rw [if_neg g1, if_neg (fun h => h.elim g2 g3)] : a = placeI (cn, ck, cb, cs, cd) (N, M) a)

/-- the state of a memory, in its form -/
def memD (c : Cv) (d : Dv) : Dv := (memN c d.1, memM c d.2)
theorem mem_placeP {c : Cv} (d : Dv) (h : cP c) : placeP c (memD c d) := by
  refine ⟨h, fun hk => ?_⟩
  obtain ⟨b1, b2, b3⟩ := bankI_in h.2.2
  unfold memD memN
  rw [if_pos hk]
  exact ⟨by show 0 < 1; omega, Int.emod_nonneg _ (by omega), Int.emod_lt_of_pos _ (by omega)⟩
theorem mem_place_in {c : Cv} (d : Dv) (h : cP c) {a : Int} (h2 : placeI c (memD c d) a ≥ 0) : placeI c (memD c d) a < ((memM c d.2).length : Nat) := by
  obtain ⟨b1, b2, b3⟩ := bankI_in h.2.2
  obtain ⟨w1, w2⟩ := winI_in c
  obtain ⟨_, hx⟩ := mem_placeP d h
  unfold placeI at h2 ⊢
  by_cases hk : c.2.1 = 2
  · rw [if_pos hk] at h2 ⊢
    by_cases ha : a < 1 ∨ a > winI c
    · rw [if_pos ha] at h2; omega
    · rw [if_neg ha]
      obtain ⟨_, n0, n1⟩ := hx hk
      obtain ⟨m1, m2⟩ := bank_mul n0 n1 w1
      rw [memM_len, bytesI, if_pos hk]
      omega
  · rw [if_neg hk] at h2 ⊢
    by_cases ha : a < 0 ∨ a ≥ ((memD c d).2.length : Nat)
    · rw [if_pos ha] at h2; omega
    · rw [if_neg ha]
      show a < ((memD c d).2.length : Nat)
      omega
def memRd (c : Cv) (d : Dv) (a : Int) : Int := if placeI c (memD c d) a ≥ 0 then (memM c d.2).getD (placeI c (memD c d) a).toNat 0 else if c.2.1 = 2 ∧ a = 0 then (memN c d.1).getD 0 0 else 0
def cReadMS : PSpec := ⟨[gC, gD, gi], fun (c, d, a, _) => (some (cP c ∧ dP d), .tup [devM1, I1 (memRd c d a)], [.arr (.int .i64) (memN c d.1), .arr (.int .u8) (memM c d.2)])⟩
theorem cReadM_ok : GoodF Try.prog 154 cReadMS.spec := by
  have hT := tab_ok (fs := [(120, cfitS.spec), (192, mPlaceS.spec)]) tree_ok
  have hP : SpecsOk Try.prog (tab tree [(120, cfitS.spec), (192, mPlaceS.spec)]) := specs_cons cfit_ok (specs_cons mPlace_ok specs_nil)
  refine cReadMS.good (fn := Try.f154) hT hP Try.func154 (by kernel_rfl) rfl fun (c : Cv) (d : Dv) (a : Int) hp => ?_
  obtain ⟨cn, ck, cb, cs, cd⟩ := c
  obtain ⟨N, M⟩ := d
  obtain ⟨hc, hl, hu⟩ : cP (cn, ck, cb, cs, cd) ∧ dP (N, M) := hp _ rfl
  clear hp
  have h0 := mem_placeP (N, M) hc
  have h1 := @mem_place_in _ (N, M) hc a
  repeat' first
    | (refine Go.mk ?_; conv => whnf)
    | refine Need.go ?_ ?_
    | refine NilG.go (fun _ => ?_) (fun _ => ?_)
    | refine Br.dec (fun _ => ?_) (fun _ => ?_)
    | refine Br.go (fun _ => ?_) (fun _ => ?_)
    | refine draw_go hT hP mixed ?_
    | refine round_go hT hP ?_
  all_goals (try dsimp only [castL_eq] at *)
  all_goals clear hT hP
  · exact hc
  · exact h0
  · rename_i g
    have h1 := h1 g
    exact ⟨g, h1⟩
  · rename_i g
    have h1 := h1 g
    have h1 : placeI (cn, ck, cb, cs, cd) (memN (cn, ck, cb, cs, cd) N, memM (cn, ck, cb, cs, cd) M) a < ((memM (cn, ck, cb, cs, cd) M).length : Nat) := h1
    omega
  · rename_i g
    refine .mk [] [3, 4] _ rfl rfl rfl rfl rfl rfl (tup_r2 ?_)
    show IntKind.i64.wrap ((memM (cn, ck, cb, cs, cd) M).getD (placeI (cn, ck, cb, cs, cd) (memN (cn, ck, cb, cs, cd) N, memM (cn, ck, cb, cs, cd) M) a).toNat 0) = memRd (cn, ck, cb, cs, cd) (N, M) a
    rw [u8s_w (memM_u8 _ hu), memRd, if_pos (show placeI (cn, ck, cb, cs, cd) (memD (cn, ck, cb, cs, cd) (N, M)) a ≥ 0 from g)]; rfl
  · rename_i g g1 g2
    exact ⟨Int.le_refl _, by have : 0 < (memN (cn, ck, cb, cs, cd) N).length := (h0.2 g1).1; show (0 : Int) < ((memN (cn, ck, cb, cs, cd) N).length : Nat); omega⟩
  · rename_i g g1 g2
    exact (h0.2 g1).1
  · rename_i g g1 g2
    refine .mk [] [3, 4] _ rfl rfl rfl rfl rfl rfl (tup_r2 ?_)
    show (memN (cn, ck, cb, cs, cd) N).getD 0 0 = memRd (cn, ck, cb, cs, cd) (N, M) a
    rw [memRd, if_neg (show ¬ placeI (cn, ck, cb, cs, cd) (memD (cn, ck, cb, cs, cd) (N, M)) a ≥ 0 from g), if_pos ⟨g1, g2⟩]
  · rename_i g g1 g2
    refine .mk [] [3, 4] _ rfl rfl rfl rfl rfl rfl (tup_r2 ?_)
    show 0 = memRd (cn, ck, cb, cs, cd) (N, M) a
    rw [memRd, if_neg (show ¬ placeI (cn, ck, cb, cs, cd) (memD (cn, ck, cb, cs, cd) (N, M)) a ≥ 0 from g), if_neg (fun h => g2 h.2)]
  · rename_i g g1
    refine .mk [] [3, 4] _ rfl rfl rfl rfl rfl rfl (tup_r2 ?_)
    show 0 = memRd (cn, ck, cb, cs, cd) (N, M) a
    rw [memRd, if_neg (show ¬ placeI (cn, ck, cb, cs, cd) (memD (cn, ck, cb, cs, cd) (N, M)) a ≥ 0 from g), if_neg (fun h => g1 h.1)]

def memWr (c : Cv) (d : Dv) (a k : Int) : Dv := if c.2.1 = 1 then memD c d else if placeI c (memD c d) a ≥ 0 then (memN c d.1, (memM c d.2).set (placeI c (memD c d) a).toNat (k % 256)) else if c.2.1 = 2 ∧ a = 0 then ((memN c d.1).set 0 (k % 256 % bankI c), memM c d.2) else memD c d
def cWriteMS : PSpec := ⟨[gC, gD, gi, gi], fun (c, d, a, k, _) => (some (cP c), devM, [.arr (.int .i64) (memWr c d a k).1, .arr (.int .u8) (memWr c d a k).2])⟩
theorem cWriteM_ok : GoodF Try.prog 161 cWriteMS.spec := by
  have hT := tab_ok (fs := [(120, cfitS.spec), (192, mPlaceS.spec), (70, lowM.spec), (47, cBanksS.spec)]) tree_ok
  have hP : SpecsOk Try.prog (tab tree [(120, cfitS.spec), (192, mPlaceS.spec), (70, lowM.spec), (47, cBanksS.spec)]) := specs_cons cfit_ok (specs_cons mPlace_ok (specs_cons lowM_ok (specs_cons cBanks_ok specs_nil)))
  refine cWriteMS.good (fn := Try.f161) hT hP Try.func161 (by kernel_rfl) rfl fun (c : Cv) (d : Dv) (a k : Int) hp => ?_
  obtain ⟨cn, ck, cb, cs, cd⟩ := c
  obtain ⟨N, M⟩ := d
  have hc : cP (cn, ck, cb, cs, cd) := hp _ rfl
  clear hp
  have h0 := mem_placeP (N, M) hc
  have h1 := @mem_place_in _ (N, M) hc a
  obtain ⟨b1, b2, b3⟩ := bankI_in hc.2.2
  repeat' first
    | (refine Go.mk ?_; conv => whnf)
    | refine Need.go ?_ ?_
    | refine NilG.go (fun _ => ?_) (fun _ => ?_)
    | refine Br.dec (fun _ => ?_) (fun _ => ?_)
    | refine Br.go (fun _ => ?_) (fun _ => ?_)
    | refine draw_go hT hP mixed ?_
    | refine round_go hT hP ?_
  all_goals (try dsimp only [castL_eq] at *)
  all_goals clear hT hP
  · exact hc
  · exact h0
  · rename_i g
    refine .mk [] [3, 4] _ rfl rfl rfl rfl rfl (blk2_eq (l := memN (cn, ck, cb, cs, cd) N) (l' := (memWr (cn, ck, cb, cs, cd) (N, M) a k).1) (m := memM (cn, ck, cb, cs, cd) M) (m' := (memWr (cn, ck, cb, cs, cd) (N, M) a k).2) ?_ ?_) rfl
    all_goals (rw [memWr, if_pos (show (cn, ck, cb, cs, cd).2.1 = 1 from g)]; rfl)
  · exact of_decide_eq_true rfl
  · rename_i g0 g
    exact ⟨g, h1 g⟩
  · rename_i g0 g
    have h1 := h1 g
    have h1 : placeI (cn, ck, cb, cs, cd) (memN (cn, ck, cb, cs, cd) N, memM (cn, ck, cb, cs, cd) M) a < ((memM (cn, ck, cb, cs, cd) M).length : Nat) := h1
    omega
  · rename_i g0 g
    refine .mk [] [3, 4] _ rfl rfl rfl rfl rfl (blk2_eq (l := memN (cn, ck, cb, cs, cd) N) (l' := (memWr (cn, ck, cb, cs, cd) (N, M) a k).1) (m := (memM (cn, ck, cb, cs, cd) M).set (placeI (cn, ck, cb, cs, cd) (memD (cn, ck, cb, cs, cd) (N, M)) a).toNat (IntKind.u8.wrap (k % 256))) (m' := (memWr (cn, ck, cb, cs, cd) (N, M) a k).2) ?_ ?_) rfl
    all_goals rw [memWr, if_neg (show ¬ (cn, ck, cb, cs, cd).2.1 = 1 from g0), if_pos (show placeI (cn, ck, cb, cs, cd) (memD (cn, ck, cb, cs, cd) (N, M)) a ≥ 0 from g)]
    have e : IntKind.u8.wrap (k % 256) = k % 256 := by show k % 256 % 256 = k % 256; omega
    rw [e]
  · exact of_decide_eq_true rfl
  · exact hc.2.2
  · show bankI (cn, ck, cb, cs, cd) ≠ 0
    omega
  · rename_i g0 g g1 g2
    exact ⟨Int.le_refl _, by have : 0 < (memN (cn, ck, cb, cs, cd) N).length := (h0.2 g1).1; show (0 : Int) < ((memN (cn, ck, cb, cs, cd) N).length : Nat); omega⟩
  · rename_i g0 g g1 g2
    exact (h0.2 g1).1
  · rename_i g0 g g1 g2
    refine .mk [] [3, 4] _ rfl rfl rfl rfl rfl (blk2_eq (l := (memN (cn, ck, cb, cs, cd) N).set 0 (Int.tmod (k % 256) (bankI (cn, ck, cb, cs, cd)))) (l' := (memWr (cn, ck, cb, cs, cd) (N, M) a k).1) (m := memM (cn, ck, cb, cs, cd) M) (m' := (memWr (cn, ck, cb, cs, cd) (N, M) a k).2) ?_ ?_) rfl
    all_goals rw [memWr, if_neg (show ¬ (cn, ck, cb, cs, cd).2.1 = 1 from g0), if_neg (show ¬ placeI (cn, ck, cb, cs, cd) (memD (cn, ck, cb, cs, cd) (N, M)) a ≥ 0 from g), if_pos ⟨g1, g2⟩]
    rw [Int.tmod_eq_emod_of_nonneg (by omega)]
  · rename_i g0 g g1 g2
    refine .mk [] [3, 4] _ rfl rfl rfl rfl rfl (blk2_eq (l := memN (cn, ck, cb, cs, cd) N) (l' := (memWr (cn, ck, cb, cs, cd) (N, M) a k).1) (m := memM (cn, ck, cb, cs, cd) M) (m' := (memWr (cn, ck, cb, cs, cd) (N, M) a k).2) ?_ ?_) rfl
    all_goals (rw [memWr, if_neg (show ¬ (cn, ck, cb, cs, cd).2.1 = 1 from g0), if_neg (show ¬ placeI (cn, ck, cb, cs, cd) (memD (cn, ck, cb, cs, cd) (N, M)) a ≥ 0 from g), if_neg (fun h => g2 h.2)]; rfl)
  · rename_i g0 g g1
    refine .mk [] [3, 4] _ rfl rfl rfl rfl rfl (blk2_eq (l := memN (cn, ck, cb, cs, cd) N) (l' := (memWr (cn, ck, cb, cs, cd) (N, M) a k).1) (m := memM (cn, ck, cb, cs, cd) M) (m' := (memWr (cn, ck, cb, cs, cd) (N, M) a k).2) ?_ ?_) rfl
    all_goals (rw [memWr, if_neg (show ¬ (cn, ck, cb, cs, cd).2.1 = 1 from g0), if_neg (show ¬ placeI (cn, ck, cb, cs, cd) (memD (cn, ck, cb, cs, cd) (N, M)) a ≥ 0 from g), if_neg (fun h => g1 h.1)]; rfl)

-- reading and writing, whatever the kind

def loadD (c : Cv) (d : Dv) (a : Int) : Dv := sel c.2.1 (memD c d) (trN d.1 a, []) (portN d.1, []) (srN d.1 a, []) (vrN d.1 a, vM d.2) (sndN d.1, []) (drN d.1 (qF d.2) a, dM d.2) ([], [])
def loadI (c : Cv) (d : Dv) (a : Int) : Int := sel c.2.1 (memRd c d a) (trF d.1 a) (preadF d.1 a) (srF d.1 a) (vrF d.1 (vM d.2) a) (orF d.1 a) (drF d.1 (qF d.2) a) 0
def storeF (c : Cv) (d : Dv) (a k : Int) : Dv := sel c.2.1 (memWr c d a k) (twN d.1 a k, []) (pwN d.1 a k, []) (swN d.1 a k, []) ([vP d.1, vH d.1], vwM (vM d.2) a k) (owF d.1 a k, []) (dwN d.1 (qF d.2) a k, dM d.2) ([], [])
def cReadS : PSpec := ⟨[gC, gD, gi], fun (c, d, a, _) => (some (cP c ∧ dP d), .tup [devM1, I1 (loadI c d a)], [.arr (.int .i64) (loadD c d a).1, .arr (.int .u8) (loadD c d a).2])⟩
theorem tup_x {r r' : Int} (h : r = r') : AV.tup [devM1, I1 r] = AV.tup [devM1, I1 r'] := by rw [h]
theorem cRead_ok : GoodF Try.prog 96 cReadS.spec := by
  have hT := tab_ok (fs := [(154, cReadMS.spec), (155, treadOS.spec), (156, preadOS.spec), (157, sreadOS.spec), (158, vreadS.spec), (159, oreadOS.spec), (160, dreadS.spec)]) tree_ok
  have hP : SpecsOk Try.prog (tab tree [(154, cReadMS.spec), (155, treadOS.spec), (156, preadOS.spec), (157, sreadOS.spec), (158, vreadS.spec), (159, oreadOS.spec), (160, dreadS.spec)]) := specs_cons cReadM_ok (specs_cons treadO_ok (specs_cons preadO_ok (specs_cons sreadO_ok (specs_cons vread_ok (specs_cons oreadO_ok (specs_cons dread_ok specs_nil))))))
  refine cReadS.good (fn := Try.f96) hT hP Try.func96 (by kernel_rfl) rfl fun (c : Cv) (d : Dv) (a : Int) hp => ?_
  obtain ⟨cn, ck, cb, cs, cd⟩ := c
  obtain ⟨N, M⟩ := d
  obtain ⟨hc, hl, hu⟩ : cP (cn, ck, cb, cs, cd) ∧ dP (N, M) := hp _ rfl
  clear hp
  rcases kinds ck with rfl | rfl | rfl | rfl | rfl | rfl | rfl | rfl | rfl | hx
  all_goals
    repeat' first
      | (refine Go.mk ?_; conv => whnf)
      | refine Need.go ?_ ?_
      | refine NilG.go (fun _ => ?_) (fun _ => ?_)
      | refine Br.dec (fun _ => ?_) (fun _ => ?_)
      | refine Br.go (fun _ => ?_) (fun _ => ?_)
      | refine draw_go hT hP mixed ?_
      | refine round_go hT hP ?_
    all_goals (try dsimp only [castL_eq] at *)
  all_goals first
    | exact ⟨hc, hl, hu⟩
    | exact hu
    | exact hl
    | exact .mk [] [3, 4] _ rfl rfl rfl rfl rfl rfl rfl
    | (exfalso; omega)
    | (refine .le (Le.nilH 2 (.int .i64) _ _ rfl rfl rfl) (.le (Le.nilH 2 (.int .u8) _ _ rfl rfl rfl) (.mk [] [3, 4] _ rfl rfl rfl rfl rfl (blk2_eq (l := []) (m := []) ?_ ?_) (tup_x ?_))) <;> first | (unfold loadD; rw [sel_x hx]) | (unfold loadI; rw [sel_x hx]))
    | skip

def cWriteS : PSpec := ⟨[gC, gD, gi, gi], fun (c, d, a, k, _) => (some (cP c ∧ dP d), devM, [.arr (.int .i64) (storeF c d a k).1, .arr (.int .u8) (storeF c d a k).2])⟩
theorem cWrite_ok : GoodF Try.prog 97 cWriteS.spec := by
  have hT := tab_ok (fs := [(161, cWriteMS.spec), (162, twriteOS.spec), (163, pwriteOS.spec), (164, swriteOS.spec), (165, vwriteS.spec), (166, owriteOS.spec), (167, dwriteS.spec)]) tree_ok
  have hP : SpecsOk Try.prog (tab tree [(161, cWriteMS.spec), (162, twriteOS.spec), (163, pwriteOS.spec), (164, swriteOS.spec), (165, vwriteS.spec), (166, owriteOS.spec), (167, dwriteS.spec)]) := specs_cons cWriteM_ok (specs_cons twriteO_ok (specs_cons pwriteO_ok (specs_cons swriteO_ok (specs_cons vwrite_ok (specs_cons owriteO_ok (specs_cons dwrite_ok specs_nil))))))
  refine cWriteS.good (fn := Try.f97) hT hP Try.func97 (by kernel_rfl) rfl fun (c : Cv) (d : Dv) (a k : Int) hp => ?_
  obtain ⟨cn, ck, cb, cs, cd⟩ := c
  obtain ⟨N, M⟩ := d
  obtain ⟨hc, hl, hu⟩ : cP (cn, ck, cb, cs, cd) ∧ dP (N, M) := hp _ rfl
  clear hp
  rcases kinds ck with rfl | rfl | rfl | rfl | rfl | rfl | rfl | rfl | rfl | hx
  all_goals
    repeat' first
      | (refine Go.mk ?_; conv => whnf)
      | refine Need.go ?_ ?_
      | refine NilG.go (fun _ => ?_) (fun _ => ?_)
      | refine Br.dec (fun _ => ?_) (fun _ => ?_)
      | refine Br.go (fun _ => ?_) (fun _ => ?_)
      | refine draw_go hT hP mixed ?_
      | refine round_go hT hP ?_
    all_goals (try dsimp only [castL_eq] at *)
  all_goals first
    | exact hc
    | exact hl
    | exact .mk [] [3, 4] _ rfl rfl rfl rfl rfl rfl rfl
    | (exfalso; omega)
    | (refine .le (Le.nilH 2 (.int .i64) _ _ rfl rfl rfl) (.le (Le.nilH 2 (.int .u8) _ _ rfl rfl rfl) (.mk [] [3, 4] _ rfl rfl rfl rfl rfl (blk2_eq (l := []) (m := []) ?_ ?_) rfl)) <;> (unfold storeF; rw [sel_x hx]))
    | skip

def cTickS : PSpec := ⟨[gC, gD], fun (c, d, _) => (some (cP c ∧ dP d), devM, [.arr (.int .i64) (tickF c d).1, .arr (.int .u8) (tickF c d).2])⟩
theorem skip_one (c : Cv) (d : Dv) : skipF c d 1 = tickF c d := by
  obtain ⟨cn, ck, cb, cs, cd⟩ := c
  obtain ⟨N, M⟩ := d
  rcases kinds ck with rfl | rfl | rfl | rfl | rfl | rfl | rfl | rfl | rfl | hx
  all_goals first
    | rfl
    | (unfold skipF tickF; rw [sel_x hx, sel_x hx])
theorem cTick_ok : GoodF Try.prog 56 cTickS.spec := by
  have hT := tab_ok (fs := [(57, cSkipS.spec)]) tree_ok
  have hP : SpecsOk Try.prog (tab tree [(57, cSkipS.spec)]) := specs_cons cSkip_ok specs_nil
  refine cTickS.good (fn := Try.f56) hT hP Try.func56 (by kernel_rfl) rfl fun (c : Cv) (d : Dv) hp => ?_
  obtain ⟨hc, hd⟩ : cP c ∧ dP d := hp _ rfl
  obtain ⟨cn, ck, cb, cs, cd⟩ := c
  obtain ⟨N, M⟩ := d
  clear hp
  repeat' first
    | (refine Go.mk ?_; conv => whnf)
    | refine Need.go ?_ ?_
    | refine NilG.go (fun _ => ?_) (fun _ => ?_)
    | refine Br.dec (fun _ => ?_) (fun _ => ?_)
    | refine Br.go (fun _ => ?_) (fun _ => ?_)
    | refine draw_go hT hP mixed ?_
    | refine round_go hT hP ?_
  all_goals (try dsimp only [castL_eq] at *)
  · exact ⟨hc, hd, by decide⟩
  · exact .mk [] [3, 4] _ rfl rfl rfl rfl rfl (blk2_eq (congrArg Prod.fst (skip_one (cn, ck, cb, cs, cd) (N, M))) (congrArg Prod.snd (skip_one (cn, ck, cb, cs, cd) (N, M)))) rfl

end Go.Proofs.Ytblnigjmcjpopaa

/- Chips: which are valid. -/
namespace Go.Proofs.Ytblnigjmcjpopaa
open Go.Fw
set_option linter.unusedVariables false
set_option linter.unusedSimpArgs false
set_option linter.constructorNameAsVariable false
set_option maxRecDepth 100000

def cmemoryS : PSpec := ⟨[gi], fun (k, _) => (none, .cell (bv (decide (k = 0) || (decide (k = 1) || decide (k = 2)))), [])⟩
theorem cmemory_ok : GoodF Try.prog 98 cmemoryS.spec := by
  have hT := tab_ok (fs := []) tree_ok
  have hP : SpecsOk Try.prog (tab tree []) := specs_nil
  refine cmemoryS.good (fn := Try.f98) hT hP Try.func98 (by kernel_rfl) rfl fun (k : Int) _ => ?_
  repeat' first
    | (refine Go.mk ?_; conv => whnf)
    | refine Need.go ?_ ?_
    | refine NilG.go (fun _ => ?_) (fun _ => ?_)
    | refine Br.dec (fun _ => ?_) (fun _ => ?_)
    | refine Br.go (fun _ => ?_) (fun _ => ?_)
    | refine draw_go hT hP mixed ?_
    | refine round_go hT hP ?_
  all_goals (refine .mk [] [] _ rfl rfl rfl rfl rfl rfl (imm_bool ?_))
  all_goals (simp_all)
  all_goals (by_cases h : k = 2 <;> simp [h])
def sizeK (k : Int) : Int := sel k 0 4 2 3 32 8 4 0
def csizeS : PSpec := ⟨[gi], fun (k, _) => (none, I (sizeK k), [])⟩
theorem csize_ok : GoodF Try.prog 99 csizeS.spec := by
  have hT := tab_ok (fs := []) tree_ok
  have hP : SpecsOk Try.prog (tab tree []) := specs_nil
  refine csizeS.good (fn := Try.f99) hT hP Try.func99 (by kernel_rfl) rfl fun (k : Int) _ => ?_
  rcases kinds k with rfl | rfl | rfl | rfl | rfl | rfl | rfl | rfl | rfl | hx
  all_goals
    repeat' first
      | (refine Go.mk ?_; conv => whnf)
      | refine Need.go ?_ ?_
      | refine NilG.go (fun _ => ?_) (fun _ => ?_)
      | refine Br.dec (fun _ => ?_) (fun _ => ?_)
      | refine Br.go (fun _ => ?_) (fun _ => ?_)
      | refine draw_go hT hP mixed ?_
      | refine round_go hT hP ?_
  all_goals first
    | exact .mk [] [] _ rfl rfl rfl rfl rfl rfl rfl
    | (exfalso; dsimp only [gi, Den] at *; omega)
    | exact .mk [] [] _ rfl rfl rfl rfl rfl rfl (imm_int (sel_x hx ..).symm)
    | skip

def cpuStr : ByteArray := ⟨#[99, 112, 117]⟩
def chipBad (k s : Int) (n : Nat) : Bool := (decide (k = 0 ∨ k = 1) && decide ((n : Int) > s)) || ((decide (3 ≤ k ∧ k ≤ 7) && decide (n > 0)) || (decide (k = 8) && decide (¬ n % 256 = 0)))
def chipE (c : Cv) : Int :=
  if nameB (bytesOf c.1) = false then 15 else if strEq c.1 cpuStr = true then 20 else if c.2.1 < 0 ∨ 8 < c.2.1 then 8
  else if (c.2.1 ≤ 2 ∧ c.2.2.2.1 < (if c.2.1 = 2 then 2 else 1)) ∨ (2 < c.2.1 ∧ ¬ c.2.2.2.1 = sizeK c.2.1) then 1 else if c.2.2.2.1 > 4096 ∨ List.length c.2.2.2.2 > 4096 then 2
  else if c.2.2.1 < 0 ∨ c.2.2.1 > IntKind.i64.wrap (65536 - c.2.2.2.1) then 19 else if chipBad c.2.1 c.2.2.2.1 (List.length c.2.2.2.2) = true then 3 else 0
def chipES : PSpec := ⟨[gC], fun (c, _) => (some (cP c), I (chipE c), [])⟩
set_option maxHeartbeats 8000000 in
theorem cCheck_ok : GoodF Try.prog 45 chipES.spec := by
  have hT := tab_ok (fs := [(85, nameS.spec), (98, cmemoryS.spec), (99, csizeS.spec)]) tree_ok
  have hP : SpecsOk Try.prog (tab tree [(85, nameS.spec), (98, cmemoryS.spec), (99, csizeS.spec)]) := specs_cons tName_ok (specs_cons cmemory_ok (specs_cons csize_ok specs_nil))
  refine chipES.good (fn := Try.f45) hT hP Try.func45 (by kernel_rfl) rfl fun (c : Cv) hp => ?_
  obtain ⟨hb, hs, hl⟩ : cP c := hp _ rfl
  obtain ⟨cn, ck, cb, cs, cd⟩ := c
  obtain ⟨hs1, hs2⟩ : -9223372036854775808 ≤ cs ∧ cs ≤ 9223372036854775807 := hs
  clear hp hb hl
  have hcn : cpuStr = ⟨#[99, 112, 117]⟩ := rfl
  have htm : Int.tmod (cd.length : Int) 256 = ((cd.length % 256 : Nat) : Int) := by rw [Int.tmod_eq_emod_of_nonneg (by omega)]; omega
  rcases kinds ck with rfl | rfl | rfl | rfl | rfl | rfl | rfl | rfl | rfl | hx
  rotate_right
  · have h8 : ¬ (¬ ck < 0 ∧ ¬ ck ≥ 9) := by omega
    repeat' first
      | (exfalso; exact h8 ⟨by assumption, by assumption⟩)
      | (refine Go.mk ?_; conv => whnf)
      | refine Need.go ?_ ?_
      | refine NilG.go (fun _ => ?_) (fun _ => ?_)
      | refine Br.dec (fun _ => ?_) (fun _ => ?_)
      | refine Br.go (fun _ => ?_) (fun _ => ?_)
      | refine draw_go hT hP mixed ?_
      | refine round_go hT hP ?_
    all_goals (try dsimp only [castL_eq] at *)
    all_goals clear hT hP
    all_goals (refine .mk [] [] _ rfl rfl rfl rfl rfl rfl (imm_int ?_))
    all_goals (show _ = chipE (cn, ck, cb, cs, cd))
    all_goals (unfold chipE)
    all_goals (dsimp only)
    all_goals (simp_all)
    all_goals (intros; omega)
  · repeat' first
      | (refine Go.mk ?_; conv => whnf)
      | refine Need.go ?_ ?_
      | refine NilG.go (fun _ => ?_) (fun _ => ?_)
      | refine Br.dec (fun _ => ?_) (fun _ => ?_)
      | refine Br.go (fun _ => ?_) (fun _ => ?_)
      | refine draw_go hT hP mixed ?_
      | refine round_go hT hP ?_
    all_goals (try dsimp only [castL_eq] at *)
    all_goals first
      | exact of_decide_eq_true rfl
      | skip
    all_goals clear hT hP
    all_goals (refine .mk [] [] _ rfl rfl rfl rfl rfl rfl (imm_int ?_))
    all_goals (show _ = chipE (cn, 0, cb, cs, cd))
    all_goals (simp_all [chipE, chipBad, sizeK, sel])
    all_goals (intros; (repeat' split) <;> omega)
  · repeat' first
      | (refine Go.mk ?_; conv => whnf)
      | refine Need.go ?_ ?_
      | refine NilG.go (fun _ => ?_) (fun _ => ?_)
      | refine Br.dec (fun _ => ?_) (fun _ => ?_)
      | refine Br.go (fun _ => ?_) (fun _ => ?_)
      | refine draw_go hT hP mixed ?_
      | refine round_go hT hP ?_
    all_goals (try dsimp only [castL_eq] at *)
    all_goals first
      | exact of_decide_eq_true rfl
      | skip
    all_goals clear hT hP
    all_goals (refine .mk [] [] _ rfl rfl rfl rfl rfl rfl (imm_int ?_))
    all_goals (show _ = chipE (cn, 1, cb, cs, cd))
    all_goals (simp_all [chipE, chipBad, sizeK, sel])
    all_goals (intros; (repeat' split) <;> omega)
  · repeat' first
      | (refine Go.mk ?_; conv => whnf)
      | refine Need.go ?_ ?_
      | refine NilG.go (fun _ => ?_) (fun _ => ?_)
      | refine Br.dec (fun _ => ?_) (fun _ => ?_)
      | refine Br.go (fun _ => ?_) (fun _ => ?_)
      | refine draw_go hT hP mixed ?_
      | refine round_go hT hP ?_
    all_goals (try dsimp only [castL_eq] at *)
    all_goals first
      | exact of_decide_eq_true rfl
      | skip
    all_goals clear hT hP
    all_goals (refine .mk [] [] _ rfl rfl rfl rfl rfl rfl (imm_int ?_))
    all_goals (show _ = chipE (cn, 2, cb, cs, cd))
    all_goals (simp_all [chipE, chipBad, sizeK, sel])
    all_goals (intros; (repeat' split) <;> omega)
  · repeat' first
      | (refine Go.mk ?_; conv => whnf)
      | refine Need.go ?_ ?_
      | refine NilG.go (fun _ => ?_) (fun _ => ?_)
      | refine Br.dec (fun _ => ?_) (fun _ => ?_)
      | refine Br.go (fun _ => ?_) (fun _ => ?_)
      | refine draw_go hT hP mixed ?_
      | refine round_go hT hP ?_
    all_goals (try dsimp only [castL_eq] at *)
    all_goals first
      | exact of_decide_eq_true rfl
      | skip
    all_goals clear hT hP
    all_goals (refine .mk [] [] _ rfl rfl rfl rfl rfl rfl (imm_int ?_))
    all_goals (show _ = chipE (cn, 3, cb, cs, cd))
    all_goals (simp_all [chipE, chipBad, sizeK, sel])
    all_goals (intros; (repeat' split) <;> omega)
  · repeat' first
      | (refine Go.mk ?_; conv => whnf)
      | refine Need.go ?_ ?_
      | refine NilG.go (fun _ => ?_) (fun _ => ?_)
      | refine Br.dec (fun _ => ?_) (fun _ => ?_)
      | refine Br.go (fun _ => ?_) (fun _ => ?_)
      | refine draw_go hT hP mixed ?_
      | refine round_go hT hP ?_
    all_goals (try dsimp only [castL_eq] at *)
    all_goals first
      | exact of_decide_eq_true rfl
      | skip
    all_goals clear hT hP
    all_goals (refine .mk [] [] _ rfl rfl rfl rfl rfl rfl (imm_int ?_))
    all_goals (show _ = chipE (cn, 4, cb, cs, cd))
    all_goals (simp_all [chipE, chipBad, sizeK, sel])
    all_goals (intros; (repeat' split) <;> omega)
  · repeat' first
      | (refine Go.mk ?_; conv => whnf)
      | refine Need.go ?_ ?_
      | refine NilG.go (fun _ => ?_) (fun _ => ?_)
      | refine Br.dec (fun _ => ?_) (fun _ => ?_)
      | refine Br.go (fun _ => ?_) (fun _ => ?_)
      | refine draw_go hT hP mixed ?_
      | refine round_go hT hP ?_
    all_goals (try dsimp only [castL_eq] at *)
    all_goals first
      | exact of_decide_eq_true rfl
      | skip
    all_goals clear hT hP
    all_goals (refine .mk [] [] _ rfl rfl rfl rfl rfl rfl (imm_int ?_))
    all_goals (show _ = chipE (cn, 5, cb, cs, cd))
    all_goals (simp_all [chipE, chipBad, sizeK, sel])
    all_goals (intros; (repeat' split) <;> omega)
  · repeat' first
      | (refine Go.mk ?_; conv => whnf)
      | refine Need.go ?_ ?_
      | refine NilG.go (fun _ => ?_) (fun _ => ?_)
      | refine Br.dec (fun _ => ?_) (fun _ => ?_)
      | refine Br.go (fun _ => ?_) (fun _ => ?_)
      | refine draw_go hT hP mixed ?_
      | refine round_go hT hP ?_
    all_goals (try dsimp only [castL_eq] at *)
    all_goals first
      | exact of_decide_eq_true rfl
      | skip
    all_goals clear hT hP
    all_goals (refine .mk [] [] _ rfl rfl rfl rfl rfl rfl (imm_int ?_))
    all_goals (show _ = chipE (cn, 6, cb, cs, cd))
    all_goals (simp_all [chipE, chipBad, sizeK, sel])
    all_goals (intros; (repeat' split) <;> omega)
  · repeat' first
      | (refine Go.mk ?_; conv => whnf)
      | refine Need.go ?_ ?_
      | refine NilG.go (fun _ => ?_) (fun _ => ?_)
      | refine Br.dec (fun _ => ?_) (fun _ => ?_)
      | refine Br.go (fun _ => ?_) (fun _ => ?_)
      | refine draw_go hT hP mixed ?_
      | refine round_go hT hP ?_
    all_goals (try dsimp only [castL_eq] at *)
    all_goals first
      | exact of_decide_eq_true rfl
      | skip
    all_goals clear hT hP
    all_goals (refine .mk [] [] _ rfl rfl rfl rfl rfl rfl (imm_int ?_))
    all_goals (show _ = chipE (cn, 7, cb, cs, cd))
    all_goals (simp_all [chipE, chipBad, sizeK, sel])
    all_goals (intros; (repeat' split) <;> omega)
  · repeat' first
      | (refine Go.mk ?_; conv => whnf)
      | refine Need.go ?_ ?_
      | refine NilG.go (fun _ => ?_) (fun _ => ?_)
      | refine Br.dec (fun _ => ?_) (fun _ => ?_)
      | refine Br.go (fun _ => ?_) (fun _ => ?_)
      | refine draw_go hT hP mixed ?_
      | refine round_go hT hP ?_
    all_goals (try dsimp only [castL_eq] at *)
    all_goals first
      | exact of_decide_eq_true rfl
      | skip
    all_goals clear hT hP
    all_goals (refine .mk [] [] _ rfl rfl rfl rfl rfl rfl (imm_int ?_))
    all_goals (show _ = chipE (cn, 8, cb, cs, cd))
    all_goals (simp_all [chipE, chipBad, sizeK, sel])
    all_goals (intros; (repeat' split) <;> omega)
set_option maxHeartbeats 8000000 in
theorem rChipErr_ok : GoodF Try.prog 46 chipES.spec := by
  have hT := tab_ok (fs := [(88, nameS.spec)]) tree_ok
  have hP : SpecsOk Try.prog (tab tree [(88, nameS.spec)]) := specs_cons rNamed_ok specs_nil
  refine chipES.good (fn := Try.f46) hT hP Try.func46 (by kernel_rfl) rfl fun (c : Cv) hp => ?_
  obtain ⟨hb, hs, hl⟩ : cP c := hp _ rfl
  obtain ⟨cn, ck, cb, cs, cd⟩ := c
  obtain ⟨hs1, hs2⟩ : -9223372036854775808 ≤ cs ∧ cs ≤ 9223372036854775807 := hs
  clear hp hb hl
  have hcn : cpuStr = ⟨#[99, 112, 117]⟩ := rfl
  have htm : Int.tmod (cd.length : Int) 256 = ((cd.length % 256 : Nat) : Int) := by rw [Int.tmod_eq_emod_of_nonneg (by omega)]; omega
  rcases kinds ck with rfl | rfl | rfl | rfl | rfl | rfl | rfl | rfl | rfl | hx
  rotate_right
  · have h8 : ¬ (¬ ck < 0 ∧ ¬ ck > 8) := by omega
    repeat' first
      | (exfalso; exact h8 ⟨by assumption, by assumption⟩)
      | (refine Go.mk ?_; conv => whnf)
      | refine Need.go ?_ ?_
      | refine NilG.go (fun _ => ?_) (fun _ => ?_)
      | refine Br.dec (fun _ => ?_) (fun _ => ?_)
      | refine Br.go (fun _ => ?_) (fun _ => ?_)
      | refine draw_go hT hP mixed ?_
      | refine round_go hT hP ?_
    all_goals (try dsimp only [castL_eq] at *)
    all_goals clear hT hP
    all_goals (refine .mk [] [] _ rfl rfl rfl rfl rfl rfl (imm_int ?_))
    all_goals (show _ = chipE (cn, ck, cb, cs, cd))
    all_goals (unfold chipE)
    all_goals (dsimp only)
    all_goals (simp_all)
    all_goals (intros; omega)
  · repeat' first
      | (refine Go.mk ?_; conv => whnf)
      | refine Need.go ?_ ?_
      | refine NilG.go (fun _ => ?_) (fun _ => ?_)
      | refine Br.dec (fun _ => ?_) (fun _ => ?_)
      | refine Br.go (fun _ => ?_) (fun _ => ?_)
      | refine draw_go hT hP mixed ?_
      | refine round_go hT hP ?_
    all_goals (try dsimp only [castL_eq] at *)
    all_goals first
      | exact of_decide_eq_true rfl
      | skip
    all_goals clear hT hP
    all_goals (refine .mk [] [] _ rfl rfl rfl rfl rfl rfl (imm_int ?_))
    all_goals (show _ = chipE (cn, 0, cb, cs, cd))
    all_goals (simp_all [chipE, chipBad, sizeK, sel, imax_eq])
    all_goals (intros; (repeat' split) <;> first | omega | (have hz := List.length_pos_iff.2 (by assumption : cd ≠ []); omega))
  · repeat' first
      | (refine Go.mk ?_; conv => whnf)
      | refine Need.go ?_ ?_
      | refine NilG.go (fun _ => ?_) (fun _ => ?_)
      | refine Br.dec (fun _ => ?_) (fun _ => ?_)
      | refine Br.go (fun _ => ?_) (fun _ => ?_)
      | refine draw_go hT hP mixed ?_
      | refine round_go hT hP ?_
    all_goals (try dsimp only [castL_eq] at *)
    all_goals first
      | exact of_decide_eq_true rfl
      | skip
    all_goals clear hT hP
    all_goals (refine .mk [] [] _ rfl rfl rfl rfl rfl rfl (imm_int ?_))
    all_goals (show _ = chipE (cn, 1, cb, cs, cd))
    all_goals (simp_all [chipE, chipBad, sizeK, sel, imax_eq])
    all_goals (intros; (repeat' split) <;> first | omega | (have hz := List.length_pos_iff.2 (by assumption : cd ≠ []); omega))
  · repeat' first
      | (refine Go.mk ?_; conv => whnf)
      | refine Need.go ?_ ?_
      | refine NilG.go (fun _ => ?_) (fun _ => ?_)
      | refine Br.dec (fun _ => ?_) (fun _ => ?_)
      | refine Br.go (fun _ => ?_) (fun _ => ?_)
      | refine draw_go hT hP mixed ?_
      | refine round_go hT hP ?_
    all_goals (try dsimp only [castL_eq] at *)
    all_goals first
      | exact of_decide_eq_true rfl
      | skip
    all_goals clear hT hP
    all_goals (refine .mk [] [] _ rfl rfl rfl rfl rfl rfl (imm_int ?_))
    all_goals (show _ = chipE (cn, 2, cb, cs, cd))
    all_goals (simp_all [chipE, chipBad, sizeK, sel, imax_eq])
    all_goals (intros; (repeat' split) <;> first | omega | (have hz := List.length_pos_iff.2 (by assumption : cd ≠ []); omega))
  · repeat' first
      | (refine Go.mk ?_; conv => whnf)
      | refine Need.go ?_ ?_
      | refine NilG.go (fun _ => ?_) (fun _ => ?_)
      | refine Br.dec (fun _ => ?_) (fun _ => ?_)
      | refine Br.go (fun _ => ?_) (fun _ => ?_)
      | refine draw_go hT hP mixed ?_
      | refine round_go hT hP ?_
    all_goals (try dsimp only [castL_eq] at *)
    all_goals first
      | exact of_decide_eq_true rfl
      | skip
    all_goals clear hT hP
    all_goals (refine .mk [] [] _ rfl rfl rfl rfl rfl rfl (imm_int ?_))
    all_goals (show _ = chipE (cn, 3, cb, cs, cd))
    all_goals (simp_all [chipE, chipBad, sizeK, sel, imax_eq])
    all_goals (intros; (repeat' split) <;> first | omega | (have hz := List.length_pos_iff.2 (by assumption : cd ≠ []); omega))
  · repeat' first
      | (refine Go.mk ?_; conv => whnf)
      | refine Need.go ?_ ?_
      | refine NilG.go (fun _ => ?_) (fun _ => ?_)
      | refine Br.dec (fun _ => ?_) (fun _ => ?_)
      | refine Br.go (fun _ => ?_) (fun _ => ?_)
      | refine draw_go hT hP mixed ?_
      | refine round_go hT hP ?_
    all_goals (try dsimp only [castL_eq] at *)
    all_goals first
      | exact of_decide_eq_true rfl
      | skip
    all_goals clear hT hP
    all_goals (refine .mk [] [] _ rfl rfl rfl rfl rfl rfl (imm_int ?_))
    all_goals (show _ = chipE (cn, 4, cb, cs, cd))
    all_goals (simp_all [chipE, chipBad, sizeK, sel, imax_eq])
    all_goals (intros; (repeat' split) <;> first | omega | (have hz := List.length_pos_iff.2 (by assumption : cd ≠ []); omega))
  · repeat' first
      | (refine Go.mk ?_; conv => whnf)
      | refine Need.go ?_ ?_
      | refine NilG.go (fun _ => ?_) (fun _ => ?_)
      | refine Br.dec (fun _ => ?_) (fun _ => ?_)
      | refine Br.go (fun _ => ?_) (fun _ => ?_)
      | refine draw_go hT hP mixed ?_
      | refine round_go hT hP ?_
    all_goals (try dsimp only [castL_eq] at *)
    all_goals first
      | exact of_decide_eq_true rfl
      | skip
    all_goals clear hT hP
    all_goals (refine .mk [] [] _ rfl rfl rfl rfl rfl rfl (imm_int ?_))
    all_goals (show _ = chipE (cn, 5, cb, cs, cd))
    all_goals (simp_all [chipE, chipBad, sizeK, sel, imax_eq])
    all_goals (intros; (repeat' split) <;> first | omega | (have hz := List.length_pos_iff.2 (by assumption : cd ≠ []); omega))
  · repeat' first
      | (refine Go.mk ?_; conv => whnf)
      | refine Need.go ?_ ?_
      | refine NilG.go (fun _ => ?_) (fun _ => ?_)
      | refine Br.dec (fun _ => ?_) (fun _ => ?_)
      | refine Br.go (fun _ => ?_) (fun _ => ?_)
      | refine draw_go hT hP mixed ?_
      | refine round_go hT hP ?_
    all_goals (try dsimp only [castL_eq] at *)
    all_goals first
      | exact of_decide_eq_true rfl
      | skip
    all_goals clear hT hP
    all_goals (refine .mk [] [] _ rfl rfl rfl rfl rfl rfl (imm_int ?_))
    all_goals (show _ = chipE (cn, 6, cb, cs, cd))
    all_goals (simp_all [chipE, chipBad, sizeK, sel, imax_eq])
    all_goals (intros; (repeat' split) <;> first | omega | (have hz := List.length_pos_iff.2 (by assumption : cd ≠ []); omega))
  · repeat' first
      | (refine Go.mk ?_; conv => whnf)
      | refine Need.go ?_ ?_
      | refine NilG.go (fun _ => ?_) (fun _ => ?_)
      | refine Br.dec (fun _ => ?_) (fun _ => ?_)
      | refine Br.go (fun _ => ?_) (fun _ => ?_)
      | refine draw_go hT hP mixed ?_
      | refine round_go hT hP ?_
    all_goals (try dsimp only [castL_eq] at *)
    all_goals first
      | exact of_decide_eq_true rfl
      | skip
    all_goals clear hT hP
    all_goals (refine .mk [] [] _ rfl rfl rfl rfl rfl rfl (imm_int ?_))
    all_goals (show _ = chipE (cn, 7, cb, cs, cd))
    all_goals (simp_all [chipE, chipBad, sizeK, sel, imax_eq])
    all_goals (intros; (repeat' split) <;> first | omega | (have hz := List.length_pos_iff.2 (by assumption : cd ≠ []); omega))
  · repeat' first
      | (refine Go.mk ?_; conv => whnf)
      | refine Need.go ?_ ?_
      | refine NilG.go (fun _ => ?_) (fun _ => ?_)
      | refine Br.dec (fun _ => ?_) (fun _ => ?_)
      | refine Br.go (fun _ => ?_) (fun _ => ?_)
      | refine draw_go hT hP mixed ?_
      | refine round_go hT hP ?_
    all_goals (try dsimp only [castL_eq] at *)
    all_goals first
      | exact of_decide_eq_true rfl
      | skip
    all_goals clear hT hP
    all_goals (refine .mk [] [] _ rfl rfl rfl rfl rfl rfl (imm_int ?_))
    all_goals (show _ = chipE (cn, 8, cb, cs, cd))
    all_goals (simp_all [chipE, chipBad, sizeK, sel, imax_eq])
    all_goals (intros; (repeat' split) <;> first | omega | (have hz := List.length_pos_iff.2 (by assumption : cd ≠ []); omega))

end Go.Proofs.Ytblnigjmcjpopaa

/- New states of chips; a byte of RAM is read back. -/
namespace Go.Proofs.Ytblnigjmcjpopaa
open Go.Fw
set_option linter.unusedVariables false
set_option linter.unusedSimpArgs false
set_option linter.constructorNameAsVariable false
set_option maxRecDepth 100000

def freshF (c : Cv) : Dv := sel c.2.1 (memN c [], memM c c.2.2.2.2) ([0, 0, 0, 0], []) ([255, 0, 0], []) ([0, 0, 0, 0, 0, 0, 0, 0], []) ([2559, 0], List.replicate 32 0) (List.replicate 12 0, []) ([0, 0, 0, 0, 0, 0, 0, 0, 0, 0], dM c.2.2.2.2) ([], [])
theorem dN_zero (q : Nat) : dN [] q = [0, 0, 0, 0, 0, 0, 0, 0, 0, 0] := by
  unfold dN
  have h : ¬ ((([] : List Int).getD 0 0) % 256 > (q : Int)) := by show ¬ (0 : Int) > q; omega
  rw [if_neg h]; rfl
theorem ffM {c : Cv} (h : c.2.1 = 0 ∨ c.2.1 = 1 ∨ c.2.1 = 2 ∨ c.2.1 = 8) : formF c ([], c.2.2.2.2) = freshF c := by
  obtain ⟨cn, ck, cb, cs, cd⟩ := c
  have h : ck = 0 ∨ ck = 1 ∨ ck = 2 ∨ ck = 8 := h
  rcases h with rfl | rfl | rfl | rfl
  · rfl
  · rfl
  · rfl
  · show (dN [] (qF cd), dM cd) = _
    rw [dN_zero]; rfl
theorem vN_nil : vN [] = [2559, 0] := rfl
theorem vM_nil : vM [] = List.replicate 32 0 := rfl
theorem sndN_nil : sndN [] = List.replicate 12 0 := rfl
theorem ffX {c : Cv} (h : ¬ (c.2.1 = 0 ∨ c.2.1 = 1 ∨ c.2.1 = 2 ∨ c.2.1 = 8 ∨ c.2.1 = 4)) : formF c ([], []) = freshF c := by
  obtain ⟨cn, ck, cb, cs, cd⟩ := c
  have h : ¬ (ck = 0 ∨ ck = 1 ∨ ck = 2 ∨ ck = 8 ∨ ck = 4) := h
  rcases kinds ck with rfl | rfl | rfl | rfl | rfl | rfl | rfl | rfl | rfl | hx
  · exact absurd (by decide) h
  · exact absurd (by decide) h
  · exact absurd (by decide) h
  · rfl
  · exact absurd (by decide) h
  · rfl
  · show (vN [], vM []) = ([2559, 0], List.replicate 32 0)
    rw [vN_nil, vM_nil]
  · show (sndN [], []) = (List.replicate 12 0, [])
    rw [sndN_nil]
  · exact absurd (by decide) h
  · unfold formF freshF; rw [sel_x hx, sel_x hx]
theorem blk_dv {x y : Dv} (h : x = y) : [some (Blk.arr (.int .i64) x.1), some (Blk.arr (.int .u8) x.2)] = [some (Blk.arr (.int .i64) y.1), some (Blk.arr (.int .u8) y.2)] := by rw [h]
def kFreshS : PSpec := ⟨[gC], fun (c, _) => (some (cP c), devM, [.arr (.int .i64) (freshF c).1, .arr (.int .u8) (freshF c).2])⟩
theorem kFresh_ok : GoodF Try.prog 50 kFreshS.spec := by
  have hT := tab_ok (fs := [(54, kFormedS.spec)]) tree_ok
  have hP : SpecsOk Try.prog (tab tree [(54, kFormedS.spec)]) := specs_cons kFormed_ok specs_nil
  refine kFreshS.good (fn := Try.f50) hT hP Try.func50 (by kernel_rfl) rfl fun (c : Cv) hp => ?_
  have hc : cP c := hp _ rfl
  clear hp
  obtain ⟨cn, ck, cb, cs, cd⟩ := c
  have hl : cd.length ≤ 140737488355328 := Nat.le_trans hc.2.2 (by decide)
  repeat' first
    | (refine Go.mk ?_; conv => whnf)
    | refine Need.go ?_ ?_
    | refine NilG.go (fun _ => ?_) (fun _ => ?_)
    | refine Br.dec (fun _ => ?_) (fun _ => ?_)
    | refine Br.go (fun _ => ?_) (fun _ => ?_)
    | refine draw_go hT hP mixed ?_
    | refine round_go hT hP ?_
  all_goals (try dsimp only [castL_eq] at *)
  · rename_i h
    exact ⟨hc, hl⟩
  · rename_i h
    exact .mk [] [2, 3] _ rfl rfl rfl rfl rfl (blk_dv (x := formF (cn, ck, cb, cs, cd) ([], cd)) (ffM (c := (cn, ck, cb, cs, cd)) (.inl h))) rfl
  · rename_i h
    exact ⟨hc, hl⟩
  · rename_i h
    exact .mk [] [2, 3] _ rfl rfl rfl rfl rfl (blk_dv (x := formF (cn, ck, cb, cs, cd) ([], cd)) (ffM (c := (cn, ck, cb, cs, cd)) (.inr (.inl h)))) rfl
  · rename_i h
    exact ⟨hc, hl⟩
  · rename_i h
    exact .mk [] [2, 3] _ rfl rfl rfl rfl rfl (blk_dv (x := formF (cn, ck, cb, cs, cd) ([], cd)) (ffM (c := (cn, ck, cb, cs, cd)) (.inr (.inr (.inl h))))) rfl
  · rename_i h
    exact ⟨hc, hl⟩
  · rename_i h
    exact .mk [] [2, 3] _ rfl rfl rfl rfl rfl (blk_dv (x := formF (cn, ck, cb, cs, cd) ([], cd)) (ffM (c := (cn, ck, cb, cs, cd)) (.inr (.inr (.inr h))))) rfl
  · rename_i h
    have h : ck = 4 := h
    subst h
    exact .le (Le.nilH 1 (.int .u8) _ _ rfl rfl rfl) (.mk [] [2, 3] _ rfl rfl rfl rfl rfl rfl rfl)
  · exact ⟨hc, Nat.zero_le _⟩
  · rename_i h0 h1 h2 h8 h4
    exact .mk [] [2, 3] _ rfl rfl rfl rfl rfl (blk_dv (x := formF (cn, ck, cb, cs, cd) ([], [])) (ffX (c := (cn, ck, cb, cs, cd)) (fun h => by rcases h with h | h | h | h | h; exact h0 h; exact h1 h; exact h2 h; exact h8 h; exact h4 h))) rfl

def cNewS : PSpec := ⟨[gC], fun (c, _) => (some (cP c), devM, [.arr (.int .i64) (freshF c).1, .arr (.int .u8) (freshF c).2])⟩
theorem memN_zero (c : Cv) (h : c.2.1 = 2) : memN c [] = [0] := by unfold memN; rw [if_pos h]; show [0 % bankI c] = [0]; rw [Int.zero_emod]
theorem cNew_ok : GoodF Try.prog 49 cNewS.spec := by
  have hT := tab_ok (fs := [(103, cBytesS.spec), (104, tnewOS.spec), (105, pnewOS.spec), (106, snewOS.spec), (107, vnewS.spec), (108, onewOS.spec), (109, dnewS.spec)]) tree_ok
  have hP : SpecsOk Try.prog (tab tree [(103, cBytesS.spec), (104, tnewOS.spec), (105, pnewOS.spec), (106, snewOS.spec), (107, vnewS.spec), (108, onewOS.spec), (109, dnewS.spec)]) := specs_cons cBytes_ok (specs_cons tnewO_ok (specs_cons pnewO_ok (specs_cons snewO_ok (specs_cons vnew_ok (specs_cons onewO_ok (specs_cons dnew_ok specs_nil))))))
  refine cNewS.good (fn := Try.f49) hT hP Try.func49 (by kernel_rfl) rfl fun (c : Cv) hp => ?_
  have hc : cP c := hp _ rfl
  clear hp
  obtain ⟨h6, h7⟩ := bytesI_in hc.2.2
  obtain ⟨cn, ck, cb, cs, cd⟩ := c
  have hl : cd.length ≤ 140737488355328 := Nat.le_trans hc.2.2 (by decide)
  rcases kinds ck with rfl | rfl | rfl | rfl | rfl | rfl | rfl | rfl | rfl | hx
  all_goals
    repeat' first
      | (refine Go.mk ?_; conv => whnf)
      | refine Need.go ?_ ?_
      | refine NilG.go (fun _ => ?_) (fun _ => ?_)
      | refine Br.dec (fun _ => ?_) (fun _ => ?_)
      | refine Br.go (fun _ => ?_) (fun _ => ?_)
      | refine draw_go hT hP mixed ?_
      | refine round_go hT hP ?_
    all_goals (try dsimp only [castL_eq] at *)
  all_goals first
    | exact hc.2.2
    | exact hl
    | (exfalso; omega)
    | exact ⟨rfl, h6, by omega, by omega⟩
    | skip
  · exact .le (Le.nilH 1 (.int .i64) _ _ rfl rfl rfl) (.mk [] [4, 2] _ rfl rfl rfl rfl rfl (blk_dv (x := ([], memM (cn, 0, cb, cs, cd) cd)) (y := freshF (cn, 0, cb, cs, cd)) rfl) rfl)
  · exact .le (Le.nilH 1 (.int .i64) _ _ rfl rfl rfl) (.mk [] [4, 2] _ rfl rfl rfl rfl rfl (blk_dv (x := ([], memM (cn, 1, cb, cs, cd) cd)) (y := freshF (cn, 1, cb, cs, cd)) rfl) rfl)
  · refine .mk [] [4, 2] _ rfl rfl rfl rfl rfl (blk_dv (x := ([0], memM (cn, 2, cb, cs, cd) cd)) (y := freshF (cn, 2, cb, cs, cd)) ?_) rfl
    show _ = (memN (cn, 2, cb, cs, cd) [], memM (cn, 2, cb, cs, cd) cd)
    rw [memN_zero _ rfl]
  · exact .mk [] [2, 3] _ rfl rfl rfl rfl rfl rfl rfl
  · exact .mk [] [2, 3] _ rfl rfl rfl rfl rfl rfl rfl
  · exact .mk [] [2, 3] _ rfl rfl rfl rfl rfl rfl rfl
  · exact .mk [] [2, 3] _ rfl rfl rfl rfl rfl rfl rfl
  · exact .mk [] [2, 3] _ rfl rfl rfl rfl rfl rfl rfl
  · exact .mk [] [2, 3] _ rfl rfl rfl rfl rfl rfl rfl
  · refine .le (Le.nilH 1 (.int .i64) _ _ rfl rfl rfl) (.le (Le.nilH 1 (.int .u8) _ _ rfl rfl rfl) (.mk [] [2, 3] _ rfl rfl rfl rfl rfl (blk_dv (x := ([], [])) (y := freshF (cn, ck, cb, cs, cd)) ?_) rfl))
    unfold freshF; rw [sel_x hx]

def ramC : Cv := (⟨#[97]⟩, 0, 0, 4, [])
def chipsS : PSpec := ⟨[], fun _ => (none, .cell (bv true), [])⟩
theorem ramC_ok : cP ramC := ⟨⟨by decide, by decide⟩, ⟨by decide, by decide⟩, by decide⟩
theorem ram_dP1 : dP (freshF ramC) := ⟨by decide +kernel, by unfold u8s; decide +kernel⟩
theorem ram_dP2 : dP (storeF ramC (freshF ramC) 2 9) := ⟨by decide +kernel, by unfold u8s; decide +kernel⟩
theorem chips_ok : GoodF Try.prog 44 chipsS.spec := by
  have hT := tab_ok (fs := [(49, cNewS.spec), (97, cWriteS.spec), (96, cReadS.spec), (45, chipES.spec)]) tree_ok
  have hP : SpecsOk Try.prog (tab tree [(49, cNewS.spec), (97, cWriteS.spec), (96, cReadS.spec), (45, chipES.spec)]) := specs_cons cNew_ok (specs_cons cWrite_ok (specs_cons cRead_ok (specs_cons cCheck_ok specs_nil)))
  refine chipsS.good (fn := Try.f44) hT hP Try.func44 (by kernel_rfl) rfl fun _ => ?_
  repeat' first
    | (refine Go.mk ?_; conv => whnf)
    | refine Need.go ?_ ?_
    | refine NilG.go (fun _ => ?_) (fun _ => ?_)
    | refine Br.dec (fun _ => ?_) (fun _ => ?_)
    | refine Br.go (fun _ => ?_) (fun _ => ?_)
    | refine draw_go hT hP mixed ?_
    | refine round_go hT hP ?_
  all_goals (try dsimp only [castL_eq] at *)
  · exact ramC_ok
  · exact ⟨ramC_ok, ram_dP1⟩
  · exact ⟨ramC_ok, ram_dP2⟩
  · exact ramC_ok
  · refine .mk [] [] _ rfl rfl rfl rfl rfl rfl (imm_bool ?_)
    show (bif (loadI ramC (storeF ramC (freshF ramC) 2 9) 2 == 9) then (chipE ramC == 0) else false) = true
    decide +kernel

theorem freshF_len (c : Cv) : (freshF c).1.length ≤ 12 := by
  obtain ⟨cn, ck, cb, cs, cd⟩ := c
  rcases kinds ck with rfl | rfl | rfl | rfl | rfl | rfl | rfl | rfl | rfl | hx
  · exact Nat.zero_le _
  · exact Nat.zero_le _
  · show (memN (cn, 2, cb, cs, cd) []).length ≤ 12
    unfold memN; split <;> (show _ ≤ 12; simp)
  · exact (by decide : ([0, 0, 0, 0] : List Int).length ≤ 12)
  · exact (by decide : ([255, 0, 0] : List Int).length ≤ 12)
  · exact (by decide : ([0, 0, 0, 0, 0, 0, 0, 0] : List Int).length ≤ 12)
  · exact (by decide : ([2559, 0] : List Int).length ≤ 12)
  · exact (by decide : (List.replicate 12 (0 : Int)).length ≤ 12)
  · exact (by decide : ([0, 0, 0, 0, 0, 0, 0, 0, 0, 0] : List Int).length ≤ 12)
  · unfold freshF; rw [sel_x hx]; decide
theorem memM_le {c : Cv} (h : cP c) (M : List Int) : (memM c M).length ≤ 140737488355328 := by
  obtain ⟨h1, h2⟩ := bytesI_in h.2.2
  rw [memM_len]; omega
theorem freshF_lenM {c : Cv} (h : cP c) : (freshF c).2.length ≤ 140737488355328 := by
  obtain ⟨cn, ck, cb, cs, cd⟩ := c
  rcases kinds ck with rfl | rfl | rfl | rfl | rfl | rfl | rfl | rfl | rfl | hx
  · exact memM_le h _
  · exact memM_le h _
  · exact memM_le h _
  · exact Nat.zero_le _
  · exact Nat.zero_le _
  · exact Nat.zero_le _
  · exact (by decide : (List.replicate 32 (0 : Int)).length ≤ 140737488355328)
  · exact Nat.zero_le _
  · show (dM cd).length ≤ _
    have := qF_le cd
    have h2 : cd.length ≤ 140737488351232 := h.2.2
    rw [dM_len]; omega
  · unfold freshF; rw [sel_x hx]; exact Nat.zero_le _
def ccS : PSpec := ⟨[gC], fun (c, _) => (some (cP c), .cell (bv true), [])⟩
theorem cc_ok : GoodF Try.prog 9 ccS.spec := by
  have hT := tab_ok (fs := [(43, bankedS.spec), (44, chipsS.spec), (45, chipES.spec), (46, chipES.spec), (47, cBanksS.spec), (49, cNewS.spec), (50, kFreshS.spec), (48, sameS.spec)]) tree_ok
  have hP : SpecsOk Try.prog (tab tree [(43, bankedS.spec), (44, chipsS.spec), (45, chipES.spec), (46, chipES.spec), (47, cBanksS.spec), (49, cNewS.spec), (50, kFreshS.spec), (48, sameS.spec)]) := specs_cons banked_ok (specs_cons chips_ok (specs_cons cCheck_ok (specs_cons rChipErr_ok (specs_cons cBanks_ok (specs_cons cNew_ok (specs_cons kFresh_ok (specs_cons same_ok specs_nil)))))))
  refine ccS.good (fn := Try.f9) hT hP Try.func9 (by kernel_rfl) rfl fun (c : Cv) hp => ?_
  have hc : cP c := hp _ rfl
  clear hp
  have h1 := freshF_len c
  have h2 := freshF_lenM hc
  obtain ⟨cn, ck, cb, cs, cd⟩ := c
  repeat' first
    | (refine Go.mk ?_; conv => whnf)
    | refine Need.go ?_ ?_
    | refine NilG.go (fun _ => ?_) (fun _ => ?_)
    | refine Br.dec (fun _ => ?_) (fun _ => ?_)
    | refine Br.go (fun _ => ?_) (fun _ => ?_)
    | refine draw_go hT hP mixed ?_
    | refine round_go hT hP ?_
  all_goals (try dsimp only [castL_eq] at *)
  all_goals first
    | exact hc
    | exact hc.2.2
    | exact ⟨Nat.le_trans h1 (by decide), Nat.le_trans h2 (by decide)⟩
    | (exfalso; rename_i h; exact h rfl)
    | (refine .mk [] [] _ rfl rfl rfl rfl rfl rfl (imm_bool ?_)
       simp)
    | skip

end Go.Proofs.Ytblnigjmcjpopaa

/- bakelaw1.VideoTicks answers true, whatever it is given. -/
namespace Go.Proofs.Ytblnigjmcjpopaa
open Go.Fw
set_option linter.unusedVariables false
set_option linter.unusedSimpArgs false
set_option maxRecDepth 100000

theorem iterV_form2 (m : List Int) {p h : Int} (hp : 0 ≤ p ∧ p < 2560) (hh : 0 ≤ h ∧ h < 2) (n : Nat) : vN (iterF (tickV m) n [p, h]) = iterF (tickV m) n [p, h] := by
  rw [iterV m hp]
  refine vN_idem (by omega) ?_
  split
  · decide
  · exact hh
theorem iterV_form (m N : List Int) (n : Nat) : vN (iterF (tickV m) n (vN N)) = iterF (tickV m) n (vN N) :=
  iterV_form2 m (vP_in N) (by show 0 ≤ N.getD 1 0 % 2 ∧ N.getD 1 0 % 2 < 2; omega) n
theorem len2 {l : List Int} (h : vN l = l) : l.length ≤ 4611686018427387904 := by
  rw [← h]; exact (by decide : 2 ≤ 4611686018427387904)
theorem lenM (M : List Int) : (vM M).length ≤ 4611686018427387904 := by rw [vM_len]; decide
def vtS : PSpec := ⟨[gD, gi], fun (d, k, _) => (some (u8s d.2), .cell (bv true), [])⟩
end Go.Proofs.Ytblnigjmcjpopaa

/- bakelaw1.DriveTicks answers true, whatever it is given. -/
namespace Go.Proofs.Ytblnigjmcjpopaa
open Go.Fw
set_option linter.unusedVariables false
set_option linter.unusedSimpArgs false
set_option maxRecDepth 100000

theorem form_id {q : Nat} {s : DS} (h : DOk q s) : (dN s.1 (qF s.2), dM s.2) = s := by
  obtain ⟨l, m⟩ := s
  obtain ⟨h1, h2, h3⟩ := h
  have h1 : dOk q l := h1
  have h2 : m.length = q * 256 := h2
  have e : qF m = q := by unfold qF; omega
  show (dN l (qF m), dM m) = (l, m)
  have e2 : dM m = m := by unfold dM; rw [e, ← h2, List.take_length]
  rw [e, dN_idem h1, e2]
theorem DOk.lens {q : Nat} {s : DS} (h : DOk q s) (hq : q * 256 ≤ 140737488355328) : s.1.length ≤ 4611686018427387904 ∧ s.2.length ≤ 4611686018427387904 := by
  refine ⟨?_, ?_⟩
  · rw [h.n.len]; decide
  · rw [h.m]; omega
def dtP (d : Dv) : Prop := List.length d.2 ≤ 140737488355328 ∧ u8s d.2
def dtS : PSpec := ⟨[gD, gi], fun (d, k, _) => (some (dtP d), .cell (bv true), [])⟩
end Go.Proofs.Ytblnigjmcjpopaa

/- Cycles of any chip, many times; bakelaw1.ChipTicks answers true, whatever it is given. -/
namespace Go.Proofs.Ytblnigjmcjpopaa
open Go.Fw
set_option linter.unusedVariables false
set_option linter.unusedSimpArgs false
set_option linter.constructorNameAsVariable false
set_option maxRecDepth 100000

theorem over_self {n : Nat} {l : List Int} (h : l.length = n) : over (List.replicate n 0) l 0 = l := by
  rw [over_eq, List.drop_zero, List.length_replicate, Nat.sub_zero, List.drop_of_length_le (by simp [h]), List.append_nil, List.take_of_length_le (by omega)]
theorem memM_idem (c : Cv) (M : List Int) : memM c (memM c M) = memM c M := over_self (memM_len c M)
theorem memN_idem (c : Cv) (N : List Int) : memN c (memN c N) = memN c N := by
  unfold memN
  split
  · show [N.getD 0 0 % bankI c % bankI c] = _
    rw [Int.emod_emod]
  · rfl
theorem memD_idem (c : Cv) (d : Dv) : memD c (memD c d) = memD c d := by
  show (memN c (memN c d.1), memM c (memM c d.2)) = _
  rw [memN_idem, memM_idem]; rfl
theorem portN_idem (N : List Int) : portN (portN N) = portN N := by
  show [N.getD 0 0 % 256 % 256, N.getD 1 0 % 256 % 256, N.getD 2 0 % 256 % 256] = _
  rw [Int.emod_emod, Int.emod_emod, Int.emod_emod]; rfl
theorem vM_idem2 (M : List Int) : vM (vM M) = vM M := vM_idem (vM_len M)
/-- after so many cycles -/
def itF (c : Cv) (d : Dv) (j : Nat) : Dv := sel c.2.1 (memD c d) (iterT j (timN d.1), []) (portN d.1, []) (iterF tickS j (serN d.1), []) (iterF (tickV (vM d.2)) j (vN d.1), vM d.2) (iterF tickW j (sndN d.1), []) (iterA turnF j (dN d.1 (qF d.2), dM d.2)) ([], [])
theorem itF_zero (c : Cv) (d : Dv) : itF c d 0 = formF c d := by
  obtain ⟨cn, ck, cb, cs, cd⟩ := c
  rcases kinds ck with rfl | rfl | rfl | rfl | rfl | rfl | rfl | rfl | rfl | hx
  all_goals first
    | rfl
    | (unfold itF formF; rw [sel_x hx, sel_x hx])
theorem itF_skip (c : Cv) (d : Dv) (k : Int) : skipF c d k = itF c d k.toNat := by
  obtain ⟨cn, ck, cb, cs, cd⟩ := c
  rcases kinds ck with rfl | rfl | rfl | rfl | rfl | rfl | rfl | rfl | rfl | hx
  all_goals first
    | rfl
    | (unfold itF skipF; rw [sel_x hx, sel_x hx])
theorem itF_succ (c : Cv) {d : Dv} (hu : u8s d.2) (j : Nat) : tickF c (itF c d j) = itF c d (j + 1) := by
  obtain ⟨cn, ck, cb, cs, cd⟩ := c
  obtain ⟨N, M⟩ := d
  rcases kinds ck with rfl | rfl | rfl | rfl | rfl | rfl | rfl | rfl | rfl | hx
  · exact memD_idem (cn, 0, cb, cs, cd) (N, M)
  · exact memD_idem (cn, 1, cb, cs, cd) (N, M)
  · exact memD_idem (cn, 2, cb, cs, cd) (N, M)
  · show (tickT (timN (iterT j (timN N))), ([] : List Int)) = (iterT (j + 1) (timN N), [])
    rw [iter_form, iterT_succ]
  · show (portN (portN N), ([] : List Int)) = (portN N, [])
    rw [portN_idem]
  · show (tickS (serN (iterF tickS j (serN N))), ([] : List Int)) = (iterF tickS (j + 1) (serN N), [])
    rw [iterS_form, iterF_succ]
  · show (tickV (vM (vM M)) (vN (iterF (tickV (vM M)) j (vN N))), vM (vM M)) = (iterF (tickV (vM M)) (j + 1) (vN N), vM M)
    rw [vM_idem2, iterV_form, iterF_succ]
  · show (tickW (sndN (iterF tickW j (sndN N))), ([] : List Int)) = (iterF tickW (j + 1) (sndN N), [])
    rw [iterW_form, iterF_succ]
  · show turnF (dN (iterA turnF j (dN N (qF M), dM M)).1 (qF (iterA turnF j (dN N (qF M), dM M)).2), dM (iterA turnF j (dN N (qF M), dM M)).2) = iterA turnF (j + 1) (dN N (qF M), dM M)
    rw [form_id (iterT_ok (DOkN N hu) j), iterA_succ]
  · unfold tickF itF
    rw [sel_x hx, sel_x hx]
theorem itF_P {c : Cv} {d : Dv} (hc : cP c) (hd : dP d) (j : Nat) : dP (itF c d j) ∧ (itF c d j).1.length ≤ 12 := by
  obtain ⟨cn, ck, cb, cs, cd⟩ := c
  obtain ⟨N, M⟩ := d
  obtain ⟨hl, hu⟩ := hd
  have nil : dP (([] : List Int), ([] : List Int)) := ⟨Nat.zero_le _, fun x hx => by cases hx⟩
  have mm : ∀ k, cP (cn, k, cb, cs, cd) → dP (memD (cn, k, cb, cs, cd) (N, M)) ∧ (memD (cn, k, cb, cs, cd) (N, M)).1.length ≤ 12 := fun k h => by
    refine ⟨⟨memM_le h _, memM_u8 _ hu⟩, ?_⟩
    show (memN (cn, k, cb, cs, cd) N).length ≤ 12
    unfold memN; split <;> (show _ ≤ 12; simp)
  have one : ∀ l : List Int, l.length ≤ 12 → dP (l, ([] : List Int)) ∧ (l, ([] : List Int)).1.length ≤ 12 := fun l h => ⟨⟨Nat.zero_le _, fun x hx => by cases hx⟩, h⟩
  rcases kinds ck with rfl | rfl | rfl | rfl | rfl | rfl | rfl | rfl | rfl | hx
  · exact mm 0 hc
  · exact mm 1 hc
  · exact mm 2 hc
  · refine one _ ?_
    have e := iter_form N j
    rw [← e]; exact (by decide : 4 ≤ 12)
  · exact one _ (by decide : 3 ≤ 12)
  · refine one _ ?_
    have e := iterS_form N j
    rw [← e]; exact (by decide : 8 ≤ 12)
  · refine ⟨⟨?_, vM_u8 hu⟩, ?_⟩
    · show (vM M).length ≤ _
      rw [vM_len]; decide
    · show (iterF (tickV (vM M)) j (vN N)).length ≤ 12
      rw [← iterV_form]; exact (by decide : 2 ≤ 12)
  · refine one _ ?_
    have e := iterW_form N j
    rw [← e]
    unfold sndN
    rw [List.length_append, (vo_ok _ 0).len, (vo_ok _ 6).len]; decide
  · have h := iterT_ok (DOkN N hu) j
    have hq := qF_le M
    refine ⟨⟨?_, h.u⟩, ?_⟩
    · show (iterA turnF j (dN N (qF M), dM M)).2.length ≤ _
      have hl : M.length ≤ 140737488355328 := hl
      have hm := h.m
      have hm : (iterA turnF j (dN N (qF M), dM M)).2.length = qF M * 256 := hm
      omega
    · show (iterA turnF j (dN N (qF M), dM M)).1.length ≤ _
      rw [h.n.len]; decide
  · unfold itF; rw [sel_x hx]; exact ⟨nil, Nat.zero_le _⟩

def ctS : PSpec := ⟨[gC, gD, gi], fun (c, d, k, _) => (some (cP c ∧ dP d), .cell (bv true), [])⟩
set_option maxHeartbeats 1000000 in
theorem ct_ok : GoodF Try.prog 11 ctS.spec := by
  have hT := tab_ok (fs := [(44, chipsS.spec), (48, sameS.spec), (54, kFormedS.spec), (55, kTickedS.spec), (56, cTickS.spec), (57, cSkipS.spec)]) tree_ok
  have hP : SpecsOk Try.prog (tab tree [(44, chipsS.spec), (48, sameS.spec), (54, kFormedS.spec), (55, kTickedS.spec), (56, cTickS.spec), (57, cSkipS.spec)]) := specs_cons chips_ok (specs_cons same_ok (specs_cons kFormed_ok (specs_cons kTicked_ok (specs_cons cTick_ok (specs_cons cSkip_ok specs_nil)))))
  refine ctS.good (fn := Try.f11) hT hP Try.func11 (by kernel_rfl) rfl fun (c : Cv) (d : Dv) (k : Int) hp => ?_
  obtain ⟨hc, hd⟩ : cP c ∧ dP d := hp _ rfl
  clear hp
  have e0 := itF_zero c d
  have es : ∀ j, tickF c (itF c d j) = itF c d (j + 1) := itF_succ c hd.2
  have ek := itF_skip c d k
  have eP := itF_P hc hd
  have e1 : tickF c d = itF c d 1 := (skip_one c d).symm.trans (itF_skip c d 1)
  have eL : ∀ j, List.length (itF c d j).1 ≤ 4611686018427387904 ∧ List.length (itF c d j).2 ≤ 4611686018427387904 := fun j => ⟨Nat.le_trans (eP j).2 (by decide), Nat.le_trans (eP j).1.1 (by decide)⟩
  obtain ⟨cn, ck, cb, cs, cd⟩ := c
  obtain ⟨N, M⟩ := d
  repeat' first
    | (refine Go.mk ?_; conv => whnf)
    | refine Need.go ?_ ?_
    | refine NilG.go (fun _ => ?_) (fun _ => ?_)
    | refine Br.dec (fun _ => ?_) (fun _ => ?_)
    | refine Br.go (fun _ => ?_) (fun _ => ?_)
    | refine draw_go hT hP mixed ?_
    | refine round_go hT hP ?_
  all_goals (try dsimp only [castL_eq] at *)
  · exact .mk [] [] _ rfl rfl rfl rfl rfl rfl rfl
  · exact ⟨hc, hd.1⟩
  rename_i hk
  refine loop_go hT hP (X := Int × Dv) (fun (i, l, m) => St.mk [.dead, .dead, I k, .cell (.ptr 0 0), .cell (.ptr 1 0), .dead, .dead, .cell (.ptr 4 0), .dead, .dead, .dead, .dead, .dead, I k, I i, .dead, .dead, .dead, .dead, .dead, .dead, .dead, .dead, .dead, .dead, .dead, .dead, .dead, .dead, .dead, .dead, .dead, .dead, .dead, .dead, .dead, .dead, .dead]
      [some (.var [.imm (.string cn), iv .i64 ck, iv .i64 cb, iv .i64 cs, .ro (.int .u8) cd]), some (.var [.ro (.int .i64) N, .ro (.int .u8) M]), some (.arr (.int .i64) l), some (.arr (.int .u8) m), some (.var [.own 2, .own 3])])
    (fun (i, l, m) => ∃ j : Nat, i = j ∧ j ≤ k.toNat ∧ (l, m) = itF (cn, ck, cb, cs, cd) (N, M) j) (fun (i, _) => (k - i).toNat) (0, formF (cn, ck, cb, cs, cd) (N, M)) (Le.mk [] [0, 1, 2, 3, 4] rfl rfl ?_ ?_) ?_ fun (i, l, m) hi => ?_
  rotate_right
  repeat' first
    | (refine Go.mk ?_; conv => whnf)
    | refine Need.go ?_ ?_
    | refine NilG.go (fun _ => ?_) (fun _ => ?_)
    | refine Br.dec (fun _ => ?_) (fun _ => ?_)
    | refine Br.go (fun _ => ?_) (fun _ => ?_)
    | refine draw_go hT hP mixed ?_
    | refine round_go hT hP ?_
  rotate_right 3
  · exact rfl
  · repeat' first | exact trivial | exact ⟨rfl, rfl⟩ | refine And.intro ?_ ?_
  · exact ⟨0, rfl, Nat.zero_le _, e0.symm⟩
  all_goals (try dsimp only [castL_eq] at *)
  · obtain ⟨j, rfl, hj, he⟩ := hi
    exact ⟨hc, by rw [he]; exact (eP j).1⟩
  · obtain ⟨j, rfl, hj, he⟩ := hi
    rename_i hlt
    have e : IntKind.i64.wrap ((j : Int) + 1) = ((j + 1 : Nat) : Int) := by rw [w64 (by omega) (by omega)]; omega
    apply Exists.intro (_, tickF (cn, ck, cb, cs, cd) (l, m))
    refine And.intro ?_ (And.intro ?_ (Le.mk [] [0, 1, 5, 6, 4] rfl rfl ?hh ?ht))
    case hh => exact rfl
    case ht => repeat' first | exact trivial | exact ⟨rfl, rfl⟩ | refine And.intro ?_ ?_
    · exact ⟨j + 1, e, by omega, by rw [he]; exact es j⟩
    · show (k - IntKind.i64.wrap ((j : Int) + 1)).toNat < (k - (j : Int)).toNat
      rw [e]; omega
  · exact ⟨hc, hd⟩
  · exact ⟨hc, hd⟩
  · rw [e1]; exact eL 1
  · exact ⟨hc, hd, by have hk : ¬ k > 800 := hk; show k ≤ 1500; omega⟩
  · rw [ek]; exact eL _
  · obtain ⟨j, rfl, hj, he⟩ := hi
    have hlt : ¬ (j : Int) < k := by assumption
    refine .mk [] [] _ rfl rfl rfl rfl rfl rfl (imm_bool ?_)
    have e : k.toNat = j := by omega
    show (bif true then (decide ((skipF (cn, ck, cb, cs, cd) (N, M) k).1 = l) && decide ((skipF (cn, ck, cb, cs, cd) (N, M) k).2 = m)) else false) = true
    rw [ek, e, ← he]; simp
  · exfalso
    rename_i h
    simp at h

end Go.Proofs.Ytblnigjmcjpopaa

/- The arguments of a law: from what they read as to data, and back behind the call. -/
namespace Go.Fw
open Go.ChangeShapes Go.WideShapes Go.RowKit
set_option linter.unusedVariables false
set_option linter.unusedSimpArgs false

def sigFits (P : Program) (m : Nat) (g : Sig) (t : TypeId) : Bool := tyFits P m g.t t && match P.underlying t with
  | some (.struct _) => g.ag
  | some (.int _) => !g.ag
  | some .bool => !g.ag
  | some .string => !g.ag
  | some (.slice _) => !g.ag
  | some (.array _ _) => g.ag
  | _ => false
def sigsFit (P : Program) (m : Nat) : List Sig → List TypeId → Bool
  | [], [] => true
  | g :: gs, t :: ts => sigFits P m g t && sigsFit P m gs ts
  | _, _ => false
def WfA : (gs : List Sig) → Args gs → Prop
  | [], _ => True
  | g :: gs, x => Wf g.t x.1 ∧ WfA gs x.2

section
variable {H : Type} {enc : TypeId × Value → H} {P : Program} {w : World} {base : Nat}

theorem one_cell {v u : Value} (h : v.cells.toList = [u]) (hv : ∀ cs, v ≠ .agg cs) : v = u := by
  cases v with
  | agg cs => exact absurd rfl (hv cs)
  | _ => simpa [Value.cells] using h

theorem CR.one {w : World} {S : Nat → Prop} {t : Ty} {d : Den t} {v : Value} (hc : CR w S t d [v]) (h : (cells t d).length = 1) (E : Env) (hw : E.w = w) (hS : E.S = S) : ∃ c, cells t d = [c] ∧ CellR E c [v] := by
  subst hw; subst hS
  have := hc.items
  match hh : cells t d, h with
  | [c], _ =>
    rw [hh] at this
    obtain ⟨r, s, e, h1, h2⟩ := this
    simp only [IR] at h2
    subst h2
    simp at e
    subst e
    exact ⟨c, rfl, h1⟩

variable {bk : DataW H → Nat} {ba : List (DataW H) → Nat}
theorem v1_open (B : BulkLaw bk ba) {m fuel : Nat} {g : Sig} {t : TypeId} {v : Value} {x : DataW H × List MemPlace} (hf : sigFits P m g t = true) (hv : Value.okWide P w .any base t v) (hz : ∀ z ∈ DataW.weights P t x.1, z ≤ reachBytes)
    (h : DataW.trod enc P w 0 (fun _ => true) true fuel t v.cells.toList = some x) : ∃ d : Den g.t, V1R (startE w) (canonV g d) v ∧ Wf g.t d ∧ bd g.t d ≤ bk x.1 := by
  unfold sigFits at hf
  rw [Bool.and_eq_true] at hf
  obtain ⟨h1, h2⟩ := hf
  obtain ⟨d, hc, hw, hb⟩ := open_cr B m h1 hz h
  refine ⟨d, ?_, hw, hb⟩
  have single : ∀ u, v = u → (∀ cs, v ≠ .agg cs) → g.ag = false → (cells g.t d).length = 1 → V1R (startE w) (canonV g d) v := by
    intro u e hn hg hl
    have hcl : v.cells.toList = [v] := by
      cases v with
      | agg cs => exact absurd rfl (hn cs)
      | _ => rfl
    rw [hcl] at hc
    obtain ⟨c, e1, e2⟩ := hc.one hl (startE w) rfl rfl
    unfold canonV
    rw [hg]
    simp only [e1]
    exact e2
  cases m with
  | zero => cases h1
  | succ m =>
  unfold tyFits at h1
  split at h2
  · rename_i F hu
    obtain ⟨cs, rfl, _⟩ := okWide_struct hu hv
    unfold canonV
    rw [h2]
    exact ⟨cs, rfl, hc.items (E := startE w)⟩
  · rename_i k hu
    obtain ⟨n, rfl⟩ := okWide_int hu hv
    refine single _ rfl (by simp) (by simpa using h2) ?_
    rw [hu] at h1
    match g, d, h1 with
    | ⟨_, .int _⟩, _, _ => rfl
  · rename_i hu
    obtain ⟨n, rfl⟩ := okWide_bool hu hv
    refine single _ rfl (by simp) (by simpa using h2) ?_
    rw [hu] at h1
    match g, d, h1 with
    | ⟨_, .bool⟩, _, _ => rfl
  · rename_i hu
    obtain ⟨n, rfl⟩ := okWide_string hu hv
    refine single _ rfl (by simp) (by simpa using h2) ?_
    rw [hu] at h1
    match g, d, h1 with
    | ⟨_, .str⟩, _, _ => rfl
  · rename_i e hu
    obtain ⟨a, len, cap, rfl⟩ := okWide_slice hu hv
    refine single _ rfl (by simp) (by simpa using h2) ?_
    rw [hu] at h1
    match g, d, h1 with
    | ⟨_, .sl _⟩, _, _ => rfl
  · rename_i n e hu
    obtain ⟨cs, rfl⟩ : ∃ cs, v = .agg cs := by
      simp only [Value.okWide, hu] at hv
      obtain ⟨cs, h1, _⟩ := hv
      exact ⟨cs, h1⟩
    unfold canonV
    rw [h2]
    exact ⟨cs, rfl, hc.items (E := startE w)⟩
  · cases h2

def bdA : (gs : List Sig) → Args gs → Nat
  | [], _ => 0
  | g :: gs, x => bd g.t x.1 + bdA gs x.2
theorem args_open (B : BulkLaw bk ba) {m : Nat} {vt : List TypeId} {gds : List (DataW H)} : ∀ {gs : List Sig} {ts : List TypeId} {vs : List Value} {ds : List (DataW H)} {ps : List MemPlace}, sigsFit P m gs ts = true →
    (∀ (j : Nat) t v, ts[j]? = some t → vs[j]? = some v → Value.okWide P w .any base t v) → (∀ z ∈ DataW.weightsEach P (ts ++ vt) (ds ++ gds), z ≤ reachBytes) →
    DataW.TrodAll enc P w 0 (fun _ => true) true ts vs ds ps → ∃ xs : Args gs, VsR (startE w) (canonArgs gs xs) vs ∧ WfA gs xs ∧ bdA gs xs ≤ ba ds
  | [], [], vs, ds, ps, _, _, _, h => by
    obtain ⟨rfl, rfl, rfl⟩ := trodAll_nil h
    exact ⟨(), rfl, trivial, Nat.zero_le _⟩
  | g :: gs, t :: ts, vs, ds, ps, hf, hv, hz, h => by
    unfold sigsFit at hf
    rw [Bool.and_eq_true] at hf
    obtain ⟨v, vs', d, ds', p, q, rfl, rfl, rfl, ⟨fuel, h1⟩, h2⟩ := trodAll_cons h
    rw [List.cons_append, List.cons_append, DataW.weightsEach] at hz
    obtain ⟨x, hx, wx, bx⟩ := v1_open B (x := (d, p)) hf.1 (hv 0 t v rfl rfl) (fun z hz' => hz z (List.mem_append.2 (.inl hz'))) h1
    obtain ⟨xs, hxs, wxs, bxs⟩ := args_open B hf.2 (fun j t v ht hvj => hv (j + 1) t v (by simpa using ht) (by simpa using hvj)) (fun z hz' => hz z (List.mem_append.2 (.inr hz'))) h2
    exact ⟨(x, xs), VsR.cons hx hxs, ⟨wx, wxs⟩, Nat.le_trans (Nat.add_le_add bx bxs) (B.cons _ _)⟩
  | [], _ :: _, _, _, _, hf, _, _, _ => by cases hf
  | _ :: _, [], _, _, _, hf, _, _, _ => by cases hf

theorem dec_cells {look : Nat → Option Blk} : ∀ (t : Ty) (x : Den t) (r : List Cell), dec look t (cells t x ++ r) = some (x, [], r)
  | .int k, x, r => by simp [cells, dec]
  | .ints k n, l, r => by simp [cells, dec]
  | .bool, b, r => rfl
  | .str, s, r => rfl
  | .sl t, l, r => by
    have : slAs look t (.ro t l) = some l := by
      unfold slAs
      simp only [sliceOf, eqTy, dif_pos, castL]
    simp only [cells, List.cons_append, List.nil_append, dec, this, frzN]
  | .pair a b, x, r => by
    simp only [cells, dec, List.append_assoc, dec_cells a x.1, dec_cells b x.2, List.append_nil]

theorem decAll_cells {look : Nat → Option Blk} (t : Ty) (x : Den t) : decAll look t (cells t x) = some (x, []) := by
  unfold decAll
  have := dec_cells (look := look) t x []
  rw [List.append_nil] at this
  rw [this]

def Sig.fine (g : Sig) : Bool := g.ag || match g.t with | .int _ => true | .bool => true | .str => true | .sl _ => true | _ => false
theorem decV_canon {g : Sig} (h : g.fine = true) (d : Den g.t) : decV g (canonV g d) = some d := by
  obtain ⟨ag, t⟩ := g
  cases ag with
  | true =>
    unfold decV canonV
    simp only [decAll_cells]
  | false =>
    have one : ∃ c, cells t d = [c] := by
      cases t <;> simp [Sig.fine] at h <;> exact ⟨_, rfl⟩
    obtain ⟨c, hc⟩ := one
    have e : canonV ⟨false, t⟩ d = .c c := by unfold canonV; simp only [hc]
    have e2 : decAll (fun _ => none) t [c] = some (d, []) := by rw [← hc]; exact decAll_cells t d
    unfold decV
    simp only [e, e2, hc]
theorem decArgs_canon : ∀ {gs : List Sig} (h : gs.all Sig.fine = true) (xs : Args gs), decArgs gs (canonArgs gs xs) = some xs
  | [], _, () => rfl
  | g :: gs, h, (a, r) => by
    rw [List.all_cons, Bool.and_eq_true] at h
    show (match decV g (canonV g a) with | some d => (match decArgs gs (canonArgs gs r) with | some r => some (d, r) | none => none) | none => none) = _
    rw [decV_canon h.1, decArgs_canon h.2]

def rowsFine (P : Program) (ts : List TypeId) : Bool := ts.all fun t => P.readableRec t && Nat.blt t P.types.size
theorem args_back {W W' : World} (hl : laidOutB P = true) (hb : Below W.heap.size W W') : ∀ {ts : List TypeId} {vs : List Value} {ds : List (DataW H)} {ps : List MemPlace}, rowsFine P ts = true → (∀ x ∈ ps, x.block < W.heap.size) →
    DataW.TrodAll enc P W 0 (fun _ => true) true ts vs ds ps → DataW.TrodAll enc P W' 0 (fun b => decide (b < W.heap.size)) true ts vs ds ps
  | [], vs, ds, ps, _, _, h => by
    obtain ⟨rfl, rfl, rfl⟩ := trodAll_nil h
    exact trodAll_mk0
  | t :: ts, vs, ds, ps, hf, hlt, h => by
    unfold rowsFine at hf
    rw [List.all_cons, Bool.and_eq_true, Bool.and_eq_true] at hf
    obtain ⟨v, vs', d, ds', p, q, rfl, rfl, rfl, h1, h2⟩ := trodAll_cons h
    exact trodAll_cons_mk (Below.trod hl hf.1.1 (by simpa [Nat.blt_eq] using hf.1.2) h1 hb fun x hx => hlt x (List.mem_append.2 (.inl hx))) (args_back hl hb hf.2 (fun x hx => hlt x (List.mem_append.2 (.inr hx))) h2)
end

/-- a law that is true, over arguments of any kind -/
theorem PSpec.law_all {P : Program} {H : Type} {enc : TypeId × Value → H} {f : FuncId} {s : PSpec} (h : GoodF P f s.spec) {W : World} {base m : Nat} {ts vt : List TypeId} {args : Array Value} {ds gds : List (DataW H)} {p : List MemPlace}
    (hfit : sigsFit P m s.gs ts = true) (hfine : s.gs.all Sig.fine = true) (hrow : rowsFine P ts = true) (hl : laidOutB P = true)
    (hval : ∀ (j : Nat) t v, ts[j]? = some t → args.toList[j]? = some v → Value.okWide P W .any base t v)
    (hz : (DataW.weightsEach P (ts ++ vt) (ds ++ gds)).all (· ≤ reachBytes) = true) (hA : DataW.TrodAll enc P W 0 (fun _ => true) true ts args.toList ds p)
    (hs : ∀ xs, WfA s.gs xs → ∃ q, s.out xs = (q, .cell (bv true), []) ∧ ∀ z, q = some z → z) :
    Calls P f args W fun e w' => e = .returned (.bool true) ∧ Below W.heap.size W w' ∧ DataW.TrodAll enc P w' 0 (fun b => decide (b < W.heap.size)) true ts args.toList ds p := by
  obtain ⟨xs, hv, hw, _⟩ := args_open (bulk_size H) hfit hval (fun z hz' => by simpa using List.all_eq_true.1 hz z hz') hA
  obtain ⟨q, h1, h2⟩ := hs xs hw
  refine (PSpec.law h xs hv (decArgs_canon hfine xs) h1 h2).mono fun e W' ⟨he, hb⟩ => ⟨he, hb, ?_⟩
  exact args_back hl hb hrow (DataW.TrodAll.lt hA) hA

/-- a law that is true, over arguments of any kind up to a bulk -/
theorem PSpec.law_upto {P : Program} {H : Type} {enc : TypeId × Value → H} {f : FuncId} {s : PSpec} (h : GoodF P f s.spec) {W : World} {base m N : Nat} {ts vt : List TypeId} {args : Array Value} {ds gds : List (DataW H)} {p : List MemPlace}
    {bk : DataW H → Nat} {ba : List (DataW H) → Nat} (B : BulkLaw bk ba) (hN : ba ds ≤ N)
    (hfit : sigsFit P m s.gs ts = true) (hfine : s.gs.all Sig.fine = true) (hrow : rowsFine P ts = true) (hl : laidOutB P = true)
    (hval : ∀ (j : Nat) t v, ts[j]? = some t → args.toList[j]? = some v → Value.okWide P W .any base t v)
    (hz : (DataW.weightsEach P (ts ++ vt) (ds ++ gds)).all (· ≤ reachBytes) = true) (hA : DataW.TrodAll enc P W 0 (fun _ => true) true ts args.toList ds p)
    (hs : ∀ xs, WfA s.gs xs → bdA s.gs xs ≤ N → ∃ q, s.out xs = (q, .cell (bv true), []) ∧ ∀ z, q = some z → z) :
    Calls P f args W fun e w' => e = .returned (.bool true) ∧ Below W.heap.size W w' ∧ DataW.TrodAll enc P w' 0 (fun b => decide (b < W.heap.size)) true ts args.toList ds p := by
  obtain ⟨xs, hv, hw, hbd⟩ := args_open B hfit hval (fun z hz' => by simpa using List.all_eq_true.1 hz z hz') hA
  obtain ⟨q, h1, h2⟩ := hs xs hw (Nat.le_trans hbd hN)
  refine (PSpec.law h xs hv (decArgs_canon hfine xs) h1 h2).mono fun e W' ⟨he, hb⟩ => ⟨he, hb, ?_⟩
  exact args_back hl hb hrow (DataW.TrodAll.lt hA) hA

end Go.Fw

/- What chips and their states that read well keep to. -/
namespace Go.Proofs.Ytblnigjmcjpopaa
open Go.Fw
set_option linter.unusedVariables false
set_option linter.unusedSimpArgs false
theorem i64_of {x : Int} (h : (Lit.int .i64 x).wf = true) : i64 x := by
  have := h
  simp [Lit.wf] at this
  exact this
theorem cP_of {c : Cv} (h : Wf gC.t c) : cP c := ⟨i64_of h.2.2.1, i64_of h.2.2.2.1, Nat.le_trans (Nat.le_of_eq (Nat.mul_one _).symm) h.2.2.2.2.1⟩
theorem dP_of {d : Dv} (h : Wf gD.t d) : dP d := ⟨Nat.le_trans (Nat.le_of_eq (Nat.mul_one _).symm) (Nat.le_trans h.2.1 (by decide)), u8s_of h.2.2⟩
theorem cc_pre (xs : Args ccS.gs) (hw : WfA ccS.gs xs) : cP xs.1 := cP_of hw.1
theorem ct_pre (xs : Args ctS.gs) (hw : WfA ctS.gs xs) : cP xs.1 ∧ dP xs.2.1 := ⟨cP_of hw.1, dP_of hw.2.1⟩

end Go.Proofs.Ytblnigjmcjpopaa

