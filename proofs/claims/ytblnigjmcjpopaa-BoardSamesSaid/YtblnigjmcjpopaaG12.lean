/- Part 12 of the proof: Mem DriveO Video3 Kind Kind2 ChipE Kind3 Board. No statement is handed in here; conditions: none. -/
import Derived.Test.YtblnigjmcjpopaaG6
import Derived.Test.YtblnigjmcjpopaaG11
import Derived.Test.YtblnigjmcjpopaaG7
import Derived.Test.YtblnigjmcjpopaaG8
/- The memories: windows, banks, how many bytes there are; their states in form. -/
namespace Go.Proofs.Ytblnigjmcjpopaa
open Go.Fw
set_option linter.unusedVariables false
set_option linter.unusedSimpArgs false
set_option linter.constructorNameAsVariable false
set_option maxRecDepth 100000

def i64 (x : Int) : Prop := -9223372036854775808 ≤ x ∧ x ≤ 9223372036854775807
def cP (c : Cv) : Prop := i64 c.2.2.1 ∧ i64 c.2.2.2.1 ∧ List.length c.2.2.2.2 ≤ 140737488351232
def dP (d : Dv) : Prop := List.length d.2 ≤ 140737488355328 ∧ u8s d.2
def winI (c : Cv) : Int := max 1 (min (max c.2.2.2.1 1) 4097 - 1)
theorem winI_in (c : Cv) : 1 ≤ winI c ∧ winI c ≤ 4096 := by unfold winI; omega
def bankI (c : Cv) : Int := max 1 (((List.length c.2.2.2.2 : Nat) + winI c - 1) / winI c)
theorem bankI_in {c : Cv} (h : List.length c.2.2.2.2 ≤ 140737488351232) : 1 ≤ bankI c ∧ bankI c ≤ 140737488355328 ∧ bankI c * winI c ≤ 140737488355328 := by
  obtain ⟨h1, h2⟩ := winI_in c
  have h3 : ((List.length c.2.2.2.2 : Nat) + winI c - 1) / winI c * winI c ≤ (List.length c.2.2.2.2 : Nat) + winI c - 1 := Int.ediv_mul_le _ (by omega)
  have h4 : ((List.length c.2.2.2.2 : Nat) + winI c - 1) / winI c ≤ (List.length c.2.2.2.2 : Nat) + winI c - 1 := Int.ediv_le_self _ (by omega)
  unfold bankI
  rcases Int.le_total 1 (((List.length c.2.2.2.2 : Nat) + winI c - 1) / winI c) with h | h
  · rw [Int.max_eq_right h]
    omega
  · rw [Int.max_eq_left h]
    omega
def bytesI (c : Cv) : Int := if c.2.1 = 2 then bankI c * winI c else max 0 (min c.2.2.2.1 65536)
theorem bytesI_in {c : Cv} (h : List.length c.2.2.2.2 ≤ 140737488351232) : 0 ≤ bytesI c ∧ bytesI c ≤ 140737488355328 := by
  obtain ⟨h1, h2, h3⟩ := bankI_in h
  obtain ⟨h4, h5⟩ := winI_in c
  have h6 : 0 ≤ bankI c * winI c := Int.mul_nonneg (by omega) (by omega)
  unfold bytesI
  split
  · omega
  · omega
def memM (c : Cv) (M : List Int) : List Int := over (List.replicate (bytesI c).toNat 0) M 0
def memN (c : Cv) (N : List Int) : List Int := if c.2.1 = 2 then [N.getD 0 0 % bankI c] else []
theorem memM_len (c : Cv) (M : List Int) : (memM c M).length = (bytesI c).toNat := by
  unfold memM; rw [over_length, List.length_replicate]

def windowS : PSpec := ⟨[gC], fun (c, _) => (none, I (winI c), [])⟩
theorem window_ok : GoodF Try.prog 100 windowS.spec := by
  have hT := tab_ok (fs := []) tree_ok
  have hP : SpecsOk Try.prog (tab tree []) := specs_nil
  refine windowS.good (fn := Try.f100) hT hP Try.func100 (by kernel_rfl) rfl fun (c : Cv) _ => ?_
  obtain ⟨cn, ck, cb, cs, cd⟩ := c
  repeat' first
    | (refine Go.mk ?_; conv => whnf)
    | refine Need.go ?_ ?_
    | refine NilG.go (fun _ => ?_) (fun _ => ?_)
    | refine Br.dec (fun _ => ?_) (fun _ => ?_)
    | refine Br.go (fun _ => ?_) (fun _ => ?_)
    | refine draw_go hT hP mixed ?_
    | refine round_go hT hP ?_
  refine .mk [] [] _ rfl rfl rfl rfl rfl rfl (imm_int ?_)
  show imax 1 (IntKind.i64.wrap (imin (imax cs 1) 4097 - 1)) = max 1 (min (max cs 1) 4097 - 1)
  rw [imax_eq, imin_eq, imax_eq, w64 (by omega) (by omega)]

def cBanksS : PSpec := ⟨[gC], fun (c, _) => (some (List.length c.2.2.2.2 ≤ 140737488351232), I (bankI c), [])⟩
theorem cBanks_ok : GoodF Try.prog 47 cBanksS.spec := by
  have hT := tab_ok (fs := [(100, windowS.spec)]) tree_ok
  have hP : SpecsOk Try.prog (tab tree [(100, windowS.spec)]) := specs_cons window_ok specs_nil
  refine cBanksS.good (fn := Try.f47) hT hP Try.func47 (by kernel_rfl) rfl fun (c : Cv) hp => ?_
  have hl : List.length c.2.2.2.2 ≤ 140737488351232 := hp _ rfl
  obtain ⟨h1, h2⟩ := winI_in c
  obtain ⟨cn, ck, cb, cs, cd⟩ := c
  have hl : cd.length ≤ 140737488351232 := hl
  clear hp
  repeat' first
    | (refine Go.mk ?_; conv => whnf)
    | refine Need.go ?_ ?_
    | refine NilG.go (fun _ => ?_) (fun _ => ?_)
    | refine Br.dec (fun _ => ?_) (fun _ => ?_)
    | refine Br.go (fun _ => ?_) (fun _ => ?_)
    | refine draw_go hT hP mixed ?_
    | refine round_go hT hP ?_
  all_goals first
    | (show winI (cn, ck, cb, cs, cd) ≠ 0
       omega)
    | skip
  refine .mk [] [] _ rfl rfl rfl rfl rfl rfl (imm_int ?_)
  show imax 1 (IntKind.i64.wrap (Int.tdiv (IntKind.i64.wrap (IntKind.i64.wrap ((cd.length : Int) + winI (cn, ck, cb, cs, cd)) - 1)) (winI (cn, ck, cb, cs, cd)))) = bankI (cn, ck, cb, cs, cd)
  have h4 : ((cd.length : Int) + winI (cn, ck, cb, cs, cd) - 1) / winI (cn, ck, cb, cs, cd) ≤ (cd.length : Int) + winI (cn, ck, cb, cs, cd) - 1 := Int.ediv_le_self _ (by omega)
  have h5 : 0 ≤ ((cd.length : Int) + winI (cn, ck, cb, cs, cd) - 1) / winI (cn, ck, cb, cs, cd) := Int.ediv_nonneg (by omega) (by omega)
  rw [w64 (x := (cd.length : Int) + winI (cn, ck, cb, cs, cd)) (by omega) (by omega), w64 (x := (cd.length : Int) + winI (cn, ck, cb, cs, cd) - 1) (by omega) (by omega), Int.tdiv_eq_ediv_of_nonneg (by omega), w64 (by omega) (by omega), imax_eq]
  rfl

def cBytesS : PSpec := ⟨[gC], fun (c, _) => (some (List.length c.2.2.2.2 ≤ 140737488351232), I (bytesI c), [])⟩
theorem cBytes_ok : GoodF Try.prog 103 cBytesS.spec := by
  have hT := tab_ok (fs := [(100, windowS.spec), (47, cBanksS.spec)]) tree_ok
  have hP : SpecsOk Try.prog (tab tree [(100, windowS.spec), (47, cBanksS.spec)]) := specs_cons window_ok (specs_cons cBanks_ok specs_nil)
  refine cBytesS.good (fn := Try.f103) hT hP Try.func103 (by kernel_rfl) rfl fun (c : Cv) hp => ?_
  have hl : List.length c.2.2.2.2 ≤ 140737488351232 := hp _ rfl
  obtain ⟨h1, h2⟩ := winI_in c
  obtain ⟨h3, h4, h5⟩ := bankI_in hl
  have h6 : 0 ≤ bankI c * winI c := Int.mul_nonneg (by omega) (by omega)
  obtain ⟨cn, ck, cb, cs, cd⟩ := c
  clear hp
  repeat' first
    | (refine Go.mk ?_; conv => whnf)
    | refine Need.go ?_ ?_
    | refine NilG.go (fun _ => ?_) (fun _ => ?_)
    | refine Br.dec (fun _ => ?_) (fun _ => ?_)
    | refine Br.go (fun _ => ?_) (fun _ => ?_)
    | refine draw_go hT hP mixed ?_
    | refine round_go hT hP ?_
  all_goals first
    | exact hl
    | skip
  · rename_i h
    have h : ck = 2 := h
    refine .mk [] [] _ rfl rfl rfl rfl rfl rfl (imm_int ?_)
    show IntKind.i64.wrap (bankI (cn, ck, cb, cs, cd) * winI (cn, ck, cb, cs, cd)) = bytesI (cn, ck, cb, cs, cd)
    rw [w64 (by omega) (by omega), bytesI, if_pos h]
  · rename_i h
    have h : ¬ ck = 2 := h
    refine .mk [] [] _ rfl rfl rfl rfl rfl rfl (imm_int ?_)
    show imax 0 (imin cs 65536) = bytesI (cn, ck, cb, cs, cd)
    rw [imax_eq, imin_eq, bytesI, if_neg h]

theorem limitF_eq (n a b : Int) (h : a ≤ b) : limitF n a b = max a (min n b) := by
  unfold limitF; (repeat' split) <;> omega

/-- how many rounds bring a number to zero or below -/
theorem banks_end {l k w : Int} (hw : 1 ≤ w) (hk : 0 ≤ k) (hl : 0 ≤ l) (h1 : l - k * w ≤ 0) (h2 : k = 0 ∨ 0 < l - (k - 1) * w) : max 1 (min k 1152921504606846976) = max 1 (min ((l + w - 1) / w) 1152921504606846976) := by
  rcases h2 with rfl | h2
  · have : l = 0 := by omega
    subst this
    have : (0 + w - 1) / w = 0 := Int.ediv_eq_zero_of_lt (by omega) (by omega)
    rw [this]
  · have e : (l + w - 1) / w = k := by
      rw [Int.sub_mul] at h2
      have : l + w - 1 = (l + w - 1 - k * w) + k * w := by omega
      rw [this, Int.add_mul_ediv_right _ _ (by omega), Int.ediv_eq_zero_of_lt (by omega) (by omega)]
      omega
    rw [e]
def bankedS : PSpec := ⟨[gC], fun (c, _) => (some (cP c), .tup [I1 (bankI c), I1 (winI c)], [])⟩
theorem banked_ok : GoodF Try.prog 43 bankedS.spec := by
  have hT := tab_ok (fs := [(95, limitS.spec)]) tree_ok
  have hP : SpecsOk Try.prog (tab tree [(95, limitS.spec)]) := specs_cons limit_ok specs_nil
  refine bankedS.good (fn := Try.f43) hT hP Try.func43 (by kernel_rfl) rfl fun (c : Cv) hp => ?_
  obtain ⟨hb, hs, hl⟩ : cP c := hp _ rfl
  obtain ⟨h1, h2⟩ := winI_in c
  obtain ⟨h3, h4, h5⟩ := bankI_in hl
  obtain ⟨cn, ck, cb, cs, cd⟩ := c
  have hl : cd.length ≤ 140737488351232 := hl
  obtain ⟨hs1, hs2⟩ : -9223372036854775808 ≤ cs ∧ cs ≤ 9223372036854775807 := hs
  clear hp
  have ew : limitF (IntKind.i64.wrap (imax cs 1 - 1)) 1 4096 = winI (cn, ck, cb, cs, cd) := by
    rw [imax_eq, limitF_eq _ _ _ (by omega)]
    unfold winI
    show _ = max 1 (min (max cs 1) 4097 - 1)
    rw [w64 (by omega) (by omega)]; omega
  generalize hw : winI (cn, ck, cb, cs, cd) = w at *
  repeat' first
    | (refine Go.mk ?_; conv => whnf)
    | refine Need.go ?_ ?_
    | refine NilG.go (fun _ => ?_) (fun _ => ?_)
    | refine Br.dec (fun _ => ?_) (fun _ => ?_)
    | refine Br.go (fun _ => ?_) (fun _ => ?_)
    | refine draw_go hT hP mixed ?_
    | refine round_go hT hP ?_
  refine loop_go hT hP (X := Int × Int) (fun (k, l) => St.mk [.dead, .dead, .dead, .dead, I (limitF (IntKind.i64.wrap (imax cs 1 - 1)) 1 4096), I k, I l, .dead, .dead, .dead, .dead, .dead, .dead, .dead, .dead, .dead, .dead, .dead, .dead, .dead, .dead, .dead, .dead, .dead, .dead] [])
    (fun (k, l) => 0 ≤ k ∧ k ≤ cd.length ∧ l = cd.length - k * w ∧ (k = 0 ∨ 0 < (cd.length : Int) - (k - 1) * w)) (fun (k, l) => l.toNat) (0, (cd.length : Int)) (Le.mk [] [] rfl rfl rfl ?_) ?_ fun (k, l) hi => ?_
  rotate_right
  repeat' first
    | (refine Go.mk ?_; conv => whnf)
    | refine Need.go ?_ ?_
    | refine NilG.go (fun _ => ?_) (fun _ => ?_)
    | refine Br.dec (fun _ => ?_) (fun _ => ?_)
    | refine Br.go (fun _ => ?_) (fun _ => ?_)
    | refine draw_go hT hP mixed ?_
    | refine round_go hT hP ?_
  · rename_i h0
    obtain ⟨hk0, hk, hll, hor⟩ := hi
    have h0 : l > 0 := h0
    have hm : k * 1 ≤ k * w := Int.mul_le_mul_of_nonneg_left h1 hk0
    have e1 : IntKind.i64.wrap (k + 1) = k + 1 := w64 (by omega) (by omega)
    have e2 : IntKind.i64.wrap (l - limitF (IntKind.i64.wrap (imax cs 1 - 1)) 1 4096) = l - w := by rw [ew]; exact w64 (by omega) (by omega)
    apply Exists.intro (_, _)
    refine And.intro ?_ (And.intro ?_ (Le.mk [] [] rfl rfl ?hh ?ht))
    case hh => exact rfl
    case ht => repeat' first | exact trivial | exact ⟨rfl, rfl⟩ | refine And.intro ?_ ?_
    · show 0 ≤ IntKind.i64.wrap (k + 1) ∧ IntKind.i64.wrap (k + 1) ≤ cd.length ∧ IntKind.i64.wrap (l - limitF (IntKind.i64.wrap (imax cs 1 - 1)) 1 4096) = cd.length - IntKind.i64.wrap (k + 1) * w ∧ (IntKind.i64.wrap (k + 1) = 0 ∨ 0 < (cd.length : Int) - (IntKind.i64.wrap (k + 1) - 1) * w)
      rw [e1, e2, Int.add_mul, Int.one_mul]
      refine ⟨by omega, by omega, by omega, .inr ?_⟩
      have : k + 1 - 1 = k := by omega
      rw [this]; omega
    · show (IntKind.i64.wrap (l - limitF (IntKind.i64.wrap (imax cs 1 - 1)) 1 4096)).toNat < l.toNat
      rw [e2]; omega
  · rename_i h0
    obtain ⟨hk0, hk, hll, hor⟩ := hi
    have h0 : ¬ l > 0 := h0
    refine .mk [] [] _ rfl rfl rfl rfl rfl rfl ?_
    show AV.tup [I1 (limitF k 1 1152921504606846976), I1 (limitF (IntKind.i64.wrap (imax cs 1 - 1)) 1 4096)] = AV.tup [I1 (bankI (cn, ck, cb, cs, cd)), I1 (winI (cn, ck, cb, cs, cd))]
    have e := banks_end (l := cd.length) (k := k) (w := w) h1 hk0 (by omega) (by omega) hor
    have h7 : ((cd.length : Int) + w - 1) / w ≤ (cd.length : Int) + w - 1 := Int.ediv_le_self _ (by omega)
    have e2 : limitF k 1 1152921504606846976 = bankI (cn, ck, cb, cs, cd) := by
      rw [limitF_eq _ _ _ (by omega), e, bankI, hw]
      show _ = max 1 (((cd.length : Int) + w - 1) / w)
      rw [Int.min_eq_left (by omega)]
    rw [ew, e2, hw]
  · repeat' first | exact trivial | exact ⟨rfl, rfl⟩ | refine And.intro ?_ ?_
  · exact ⟨Int.le_refl _, by omega, by show (cd.length : Int) = cd.length - 0 * w; omega, .inl rfl⟩

theorem copy_eq (n : Int) (M : List Int) (h : IntKind.i64.wrap n = n) : over (List.replicate (IntKind.i64.wrap n).toNat 0) M 0 = over (List.replicate n.toNat 0) M 0 := by rw [h]
/-- the state of a memory -/
def cfitS : PSpec := ⟨[gC, gD], fun (c, d, _) => (some (cP c), devM, [.arr (.int .i64) (memN c d.1), .arr (.int .u8) (memM c d.2)])⟩
theorem cfit_ok : GoodF Try.prog 120 cfitS.spec := by
  have hT := tab_ok (fs := [(103, cBytesS.spec), (47, cBanksS.spec)]) tree_ok
  have hP : SpecsOk Try.prog (tab tree [(103, cBytesS.spec), (47, cBanksS.spec)]) := specs_cons cBytes_ok (specs_cons cBanks_ok specs_nil)
  refine cfitS.good (fn := Try.f120) hT hP Try.func120 (by kernel_rfl) rfl fun (c : Cv) (d : Dv) hp => ?_
  obtain ⟨hb, hs, hl⟩ : cP c := hp _ rfl
  obtain ⟨h3, h4, h5⟩ := bankI_in hl
  obtain ⟨h6, h7⟩ := bytesI_in hl
  obtain ⟨N, M⟩ := d
  clear hp
  obtain ⟨cn, ck, cb, cs, cd⟩ := c
  repeat' first
    | (refine Go.mk ?_; conv => whnf)
    | refine Need.go ?_ ?_
    | refine NilG.go (fun _ => ?_) (fun _ => ?_)
    | refine Br.dec (fun _ => ?_) (fun _ => ?_)
    | refine Br.go (fun _ => ?_) (fun _ => ?_)
    | refine draw_go hT hP mixed ?_
    | refine round_go hT hP ?_
  all_goals (try dsimp only [castL_eq] at *)
  all_goals first
    | exact hl
    | exact of_decide_eq_true rfl
    | (show bytesI (cn, ck, cb, cs, cd) = bytesI (cn, ck, cb, cs, cd) ∧ 0 ≤ bytesI (cn, ck, cb, cs, cd) ∧ bytesI (cn, ck, cb, cs, cd) * 1 ≤ 281474976710656 ∧ bytesI (cn, ck, cb, cs, cd) ≤ 281474976710656
       omega)
    | (show (0 : Int) ≤ 0 ∧ (0 : Int) < (N.length : Int)
       omega)
    | (show bankI (cn, ck, cb, cs, cd) ≠ 0
       omega)
    | skip
  · rename_i g1 g2
    refine .mk [] [5, 3] _ rfl rfl rfl rfl rfl (blk2_eq (l' := memN (cn, ck, cb, cs, cd) N) (m' := memM (cn, ck, cb, cs, cd) M) ?_ rfl) rfl
    show [Int.tmod (IntKind.i64.wrap (Int.tmod (N.getD 0 0) (bankI (cn, ck, cb, cs, cd)) + bankI (cn, ck, cb, cs, cd))) (bankI (cn, ck, cb, cs, cd))] = _
    rw [mod_eq _ (by omega) (by omega), memN, if_pos g1]
  · rename_i g1 g2
    refine .mk [] [5, 3] _ rfl rfl rfl rfl rfl (blk2_eq (l := [0]) (l' := memN (cn, ck, cb, cs, cd) N) (m' := memM (cn, ck, cb, cs, cd) M) ?_ rfl) rfl
    obtain rfl : N = [] := List.eq_nil_of_length_eq_zero (by omega)
    rw [memN, if_pos g1]; rfl
  · rename_i g1
    refine .le (Le.nilH 2 (.int .i64) _ _ rfl rfl rfl) (.mk [] [5, 3] _ rfl rfl rfl rfl rfl (blk2_eq (l := []) (l' := memN (cn, ck, cb, cs, cd) N) (m' := memM (cn, ck, cb, cs, cd) M) ?_ rfl) rfl)
    rw [memN, if_neg g1]

/-- the reference's state of a memory: it may be without bytes -/
def mformedS : PSpec := ⟨[gC, gD], fun (c, d, _) => (some (cP c ∧ (c.2.1 = 0 ∨ c.2.1 = 1 ∨ c.2.1 = 2)), devM, [.arr (.int .i64) (memN c d.1), .arr (.int .u8) (memM c d.2)])⟩
theorem mformed_ok : GoodF Try.prog 54 mformedS.spec := by
  have hT := tab_ok (fs := [(95, limitS.spec), (43, bankedS.spec), (117, formS.spec)]) tree_ok
  have hP : SpecsOk Try.prog (tab tree [(95, limitS.spec), (43, bankedS.spec), (117, formS.spec)]) := specs_cons limit_ok (specs_cons banked_ok (specs_cons form_ok specs_nil))
  refine mformedS.good (fn := Try.f54) hT hP Try.func54 (by kernel_rfl) rfl fun (c : Cv) (d : Dv) hp => ?_
  obtain ⟨hc, hk⟩ : cP c ∧ (c.2.1 = 0 ∨ c.2.1 = 1 ∨ c.2.1 = 2) := hp _ rfl
  obtain ⟨hb, hs, hl⟩ := id hc
  obtain ⟨h3, h4, h5⟩ := bankI_in hl
  obtain ⟨h1, h2⟩ := winI_in c
  obtain ⟨N, M⟩ := d
  clear hp
  obtain ⟨cn, ck, cb, cs, cd⟩ := c
  have hk : ck = 0 ∨ ck = 1 ∨ ck = 2 := hk
  have el : limitF cs 0 65536 = max 0 (min cs 65536) := limitF_eq _ _ _ (by omega)
  rcases hk with rfl | rfl | rfl
  · repeat' first
      | (refine Go.mk ?_; conv => whnf)
      | refine Need.go ?_ ?_
      | refine NilG.go (fun _ => ?_) (fun _ => ?_)
      | refine Br.dec (fun _ => ?_) (fun _ => ?_)
      | refine Br.go (fun _ => ?_) (fun _ => ?_)
      | refine draw_go hT hP mixed ?_
      | refine round_go hT hP ?_
    all_goals (try dsimp only [castL_eq] at *)
    · omega
    · rename_i g1
      refine .le (Le.nilH 2 (.int .i64) _ _ rfl rfl rfl) (.mk [] [5, 4] _ rfl rfl rfl rfl rfl (blk2_eq (l := []) (l' := memN (cn, 0, cb, cs, cd) N) (m' := memM (cn, 0, cb, cs, cd) M) rfl ?_) rfl)
      show over (List.replicate (limitF cs 0 65536).toNat 0) M 0 = over (List.replicate (max 0 (min cs 65536)).toNat 0) M 0
      rw [el]
    · rename_i g1
      refine .le (Le.nilH 2 (.int .i64) _ _ rfl rfl rfl) (.le (Le.nilH 2 (.int .u8) _ _ rfl rfl rfl) (.mk [] [4, 5] _ rfl rfl rfl rfl rfl (blk2_eq (l := []) (l' := memN (cn, 0, cb, cs, cd) N) (m := []) (m' := memM (cn, 0, cb, cs, cd) M) rfl ?_) rfl))
      show _ = over (List.replicate (max 0 (min cs 65536)).toNat 0) M 0
      rw [el] at g1
      have : (max 0 (min cs 65536)).toNat = 0 := by omega
      rw [this]; rfl
  · repeat' first
      | (refine Go.mk ?_; conv => whnf)
      | refine Need.go ?_ ?_
      | refine NilG.go (fun _ => ?_) (fun _ => ?_)
      | refine Br.dec (fun _ => ?_) (fun _ => ?_)
      | refine Br.go (fun _ => ?_) (fun _ => ?_)
      | refine draw_go hT hP mixed ?_
      | refine round_go hT hP ?_
    all_goals (try dsimp only [castL_eq] at *)
    · omega
    · rename_i g1
      refine .le (Le.nilH 2 (.int .i64) _ _ rfl rfl rfl) (.mk [] [5, 4] _ rfl rfl rfl rfl rfl (blk2_eq (l := []) (l' := memN (cn, 1, cb, cs, cd) N) (m' := memM (cn, 1, cb, cs, cd) M) rfl ?_) rfl)
      show over (List.replicate (limitF cs 0 65536).toNat 0) M 0 = over (List.replicate (max 0 (min cs 65536)).toNat 0) M 0
      rw [el]
    · rename_i g1
      refine .le (Le.nilH 2 (.int .i64) _ _ rfl rfl rfl) (.le (Le.nilH 2 (.int .u8) _ _ rfl rfl rfl) (.mk [] [4, 5] _ rfl rfl rfl rfl rfl (blk2_eq (l := []) (l' := memN (cn, 1, cb, cs, cd) N) (m := []) (m' := memM (cn, 1, cb, cs, cd) M) rfl ?_) rfl))
      show _ = over (List.replicate (max 0 (min cs 65536)).toNat 0) M 0
      rw [el] at g1
      have : (max 0 (min cs 65536)).toNat = 0 := by omega
      rw [this]; rfl
  · have h3 : 1 ≤ bankI (cn, 2, cb, cs, cd) := h3
    have h4 : bankI (cn, 2, cb, cs, cd) ≤ 140737488355328 := h4
    have h5 : bankI (cn, 2, cb, cs, cd) * winI (cn, 2, cb, cs, cd) ≤ 140737488355328 := h5
    have h1 : 1 ≤ winI (cn, 2, cb, cs, cd) := h1
    have h8 : 1 * 1 ≤ bankI (cn, 2, cb, cs, cd) * winI (cn, 2, cb, cs, cd) := Int.mul_le_mul h3 h1 (by omega) (by omega)
    have ew : IntKind.i64.wrap (bankI (cn, 2, cb, cs, cd) * winI (cn, 2, cb, cs, cd)) = bankI (cn, 2, cb, cs, cd) * winI (cn, 2, cb, cs, cd) := w64 (by omega) (by omega)
    repeat' first
      | (refine Go.mk ?_; conv => whnf)
      | refine Need.go ?_ ?_
      | refine NilG.go (fun _ => ?_) (fun _ => ?_)
      | refine Br.dec (fun _ => ?_) (fun _ => ?_)
      | refine Br.go (fun _ => ?_) (fun _ => ?_)
      | refine draw_go hT hP mixed ?_
      | refine round_go hT hP ?_
    all_goals (try dsimp only [castL_eq] at *)
    · exact hc
    · refine ⟨by show 1 ≤ 1000; omega, fun m hm => ?_⟩
      simp only [List.mem_cons, List.not_mem_nil, or_false] at hm
      subst hm
      show 0 < bankI (cn, 2, cb, cs, cd) ∧ bankI (cn, 2, cb, cs, cd) ≤ 4611686018427387904
      omega
    · rw [ew]; omega
    · rename_i g1
      refine .mk [] [5, 6] _ rfl rfl rfl rfl rfl (blk2_eq (l' := memN (cn, 2, cb, cs, cd) N) (m' := memM (cn, 2, cb, cs, cd) M) rfl ?_) rfl
      exact copy_eq _ M ew
    · rename_i g1
      exfalso
      have g1 : ¬ IntKind.i64.wrap (bankI (cn, 2, cb, cs, cd) * winI (cn, 2, cb, cs, cd)) > 0 := g1
      rw [ew] at g1
      omega

/-- no kind at all -/
def xformedS : PSpec := ⟨[gC, gD], fun (c, d, _) => (some (c.2.1 < 0 ∨ 8 < c.2.1), devM, [.arr (.int .i64) [], .arr (.int .u8) []])⟩
theorem xformed_ok : GoodF Try.prog 54 xformedS.spec := by
  have hT := tab_ok (fs := [(95, limitS.spec), (43, bankedS.spec), (117, formS.spec)]) tree_ok
  have hP : SpecsOk Try.prog (tab tree [(95, limitS.spec), (43, bankedS.spec), (117, formS.spec)]) := specs_cons limit_ok (specs_cons banked_ok (specs_cons form_ok specs_nil))
  refine xformedS.good (fn := Try.f54) hT hP Try.func54 (by kernel_rfl) rfl fun (c : Cv) (d : Dv) hp => ?_
  have hk : c.2.1 < 0 ∨ 8 < c.2.1 := hp _ rfl
  obtain ⟨N, M⟩ := d
  clear hp
  obtain ⟨cn, ck, cb, cs, cd⟩ := c
  repeat' first
    | (refine Go.mk ?_; conv => whnf)
    | refine Need.go ?_ ?_
    | refine NilG.go (fun _ => ?_) (fun _ => ?_)
    | refine Br.dec (fun _ => ?_) (fun _ => ?_)
    | refine Br.go (fun _ => ?_) (fun _ => ?_)
    | refine draw_go hT hP mixed ?_
    | refine round_go hT hP ?_
  all_goals (try dsimp only [castL_eq] at *)
  all_goals first
    | omega
    | exact .le (Le.nilH 2 (.int .i64) _ _ rfl rfl rfl) (.le (Le.nilH 2 (.int .u8) _ _ rfl rfl rfl) (.mk [] [4, 5] _ rfl rfl rfl rfl rfl rfl rfl))
    | skip
  all_goals trace_state

end Go.Proofs.Ytblnigjmcjpopaa

/- The chip that reads and writes disks, for the reference: results in blocks of their own. -/
namespace Go.Proofs.Ytblnigjmcjpopaa
open Go.Fw
set_option linter.unusedVariables false
set_option linter.unusedSimpArgs false
set_option linter.constructorNameAsVariable false
set_option maxRecDepth 100000

def dformedOS : PSpec := ⟨[gC, gD], fun (c, d, _) => (some (c.2.1 = 8 ∧ List.length d.2 ≤ 140737488355328), .agg [.own 0, .own 1], [.arr (.int .i64) (dN d.1 (qF d.2)), .arr (.int .u8) (dM d.2)])⟩
theorem dformedO_ok : GoodF Try.prog 54 dformedOS.spec := by
  refine GoodF.sel dformed1_ok fun (c, d, _) hp => ?_
  obtain ⟨hk, hl⟩ : c.2.1 = 8 ∧ List.length d.2 ≤ 140737488355328 := hp _ rfl
  by_cases h : qF d.2 = 0
  · refine ⟨_, dformed0_ok, fun q hq => ?_, ?_⟩
    · cases hq; exact ⟨hk, hl, h⟩
    · have e : dM d.2 = [] := by unfold dM; rw [h]; rfl
      show Conv (AV.agg [.own 0, .imm (.slice none 0 0)], [.arr (.int .i64) (dN d.1 (qF d.2))]) (AV.agg [.own 0, .own 1], [.arr (.int .i64) (dN d.1 (qF d.2)), .arr (.int .u8) (dM d.2)])
      rw [e]
      exact .nil (.int .u8) rfl .refl
  · exact ⟨_, dformed1_ok, fun q hq => by cases hq; exact ⟨hk, hl, Nat.pos_of_ne_zero h⟩, .refl⟩

def dloadedOS : PSpec := ⟨[gC, gD, gi], fun (c, d, a, _) => (some (c.2.1 = 8 ∧ List.length d.2 ≤ 140737488355328), .tup [.agg [.own 0, .own 1], I1 (drF d.1 (qF d.2) a)], [.arr (.int .i64) (drN d.1 (qF d.2) a), .arr (.int .u8) (dM d.2)])⟩
def dstoredOS : PSpec := ⟨[gC, gD, gi, gi], fun (c, d, a, k, _) => (some (c.2.1 = 8 ∧ List.length d.2 ≤ 140737488355328), .agg [.own 0, .own 1], [.arr (.int .i64) (dwN d.1 (qF d.2) a k), .arr (.int .u8) (dM d.2)])⟩
def dgivenOS : PSpec := ⟨[gC, gD, gi], fun (c, d, k, _) => (some (c.2.1 = 8 ∧ List.length d.2 ≤ 140737488355328), .agg [.own 0, .own 1], [.arr (.int .i64) (dcN d.1 (qF d.2) k), .arr (.int .u8) (dM d.2)])⟩
def dtickedOS : PSpec := ⟨[gC, gD], fun (c, d, _) => (some (c.2.1 = 8 ∧ List.length d.2 ≤ 140737488355328 ∧ u8s d.2), .agg [.own 0, .own 1], [.arr (.int .i64) (turnF (dN d.1 (qF d.2), dM d.2)).1, .arr (.int .u8) (turnF (dN d.1 (qF d.2), dM d.2)).2])⟩
theorem dtickedO_ok : GoodF Try.prog 55 dtickedOS.spec := by
  have hT := tab_ok (fs := [(54, dformedOS.spec), (119, turnsS.spec)]) tree_ok
  have hP : SpecsOk Try.prog (tab tree [(54, dformedOS.spec), (119, turnsS.spec)]) := specs_cons dformedO_ok (specs_cons turns_ok specs_nil)
  refine dtickedOS.good (fn := Try.f55) hT hP Try.func55 (by kernel_rfl) rfl fun (c : Cv) (d : Dv) hp => ?_
  obtain ⟨cn, ck, cb, cs, cd⟩ := c
  obtain ⟨N, M⟩ := d
  obtain ⟨rfl, hl, hu⟩ : ck = 8 ∧ M.length ≤ 140737488355328 ∧ u8s M := hp _ rfl
  have hn := DOkN N hu
  clear hp
  repeat' first
    | (refine Go.mk ?_; conv => whnf)
    | refine Need.go ?_ ?_
    | refine NilG.go (fun _ => ?_) (fun _ => ?_)
    | refine Br.dec (fun _ => ?_) (fun _ => ?_)
    | refine Br.go (fun _ => ?_) (fun _ => ?_)
    | refine draw_go hT hP mixed ?_
    | refine round_go hT hP ?_
  all_goals first
    | exact ⟨rfl, hl⟩
    | exact of_decide_eq_true rfl
    | skip
  · rename_i h
    exact ⟨⟨_, hn⟩, h⟩
  · exact .mk [] [3, 4] _ rfl rfl rfl rfl rfl rfl rfl
  · rename_i h
    exact .mk [] [3, 4] _ rfl rfl rfl rfl rfl (blk2_eq (congrArg Prod.fst (turn_zero (l := dN N (qF M)) (m := dM M) rfl h)).symm (congrArg Prod.snd (turn_zero (l := dN N (qF M)) (m := dM M) rfl h)).symm) rfl

end Go.Proofs.Ytblnigjmcjpopaa

/- The chip that draws, by the document. -/
namespace Go.Proofs.Ytblnigjmcjpopaa
open Go.Fw
set_option linter.unusedVariables false
set_option linter.unusedSimpArgs false
set_option maxRecDepth 100000

def vidC : Cv := (ByteArray.empty, 6, 0, 0, [])
theorem vmods_ok : ([2560, 2] : List Int).length ≤ 1000 ∧ ∀ m ∈ ([2560, 2] : List Int), 0 < m ∧ m ≤ 4611686018427387904 := by decide
def vformedS : PSpec := ⟨[gC, gD], fun (c, d, _) => (some (c.2.1 = 6), devM, [.arr (.int .i64) (vN d.1), .arr (.int .u8) (vM d.2)])⟩
theorem vformed_ok : GoodF Try.prog 54 vformedS.spec := by
  have hT := tab_ok (fs := [(117, formS.spec)]) tree_ok
  have hP : SpecsOk Try.prog (tab tree [(117, formS.spec)]) := specs_cons form_ok specs_nil
  refine vformedS.good (fn := Try.f54) hT hP Try.func54 (by kernel_rfl) rfl fun (c : Cv) (d : Dv) hp => ?_
  obtain ⟨cn, ck, cb, cs, cd⟩ := c
  obtain rfl : ck = 6 := hp _ rfl
  obtain ⟨N, M⟩ := d
  repeat' first
    | (refine Go.mk ?_; conv => whnf)
    | refine Need.go ?_ ?_
    | refine NilG.go (fun _ => ?_) (fun _ => ?_)
    | refine Br.dec (fun _ => ?_) (fun _ => ?_)
    | refine Br.go (fun _ => ?_) (fun _ => ?_)
    | refine draw_go hT hP mixed ?_
    | refine round_go hT hP ?_
  all_goals first
    | exact rfl
    | exact vmods_ok
    | exact of_decide_eq_true rfl
    | skip
  · rename_i h
    have h : (N.length : Int) = 0 := h
    obtain rfl : N = [] := List.eq_nil_of_length_eq_zero (by omega)
    exact .mk [] [6, 7] _ rfl rfl rfl rfl rfl rfl rfl
  · rename_i h
    have h : ¬ (N.length : Int) = 0 := h
    refine .mk [] [5, 6] _ rfl rfl rfl rfl rfl (blk_v (l := [N.getD 0 0 % 2560, N.getD 1 0 % 2]) ?_ rfl) rfl
    show _ = vN N
    rw [vN, vP, if_neg (by omega)]

def vfreshS : PSpec := ⟨[gC], fun (c, _) => (some (c.2.1 = 6), devM, [.arr (.int .i64) [2559, 0], .arr (.int .u8) (List.replicate 32 0)])⟩
theorem vfresh_ok : GoodF Try.prog 50 vfreshS.spec := by
  have hT := tab_ok (fs := [(54, vformedS.spec)]) tree_ok
  have hP : SpecsOk Try.prog (tab tree [(54, vformedS.spec)]) := specs_cons vformed_ok specs_nil
  refine vfreshS.good (fn := Try.f50) hT hP Try.func50 (by kernel_rfl) rfl fun (c : Cv) hp => ?_
  obtain ⟨cn, ck, cb, cs, cd⟩ := c
  obtain rfl : ck = 6 := hp _ rfl
  repeat' first
    | (refine Go.mk ?_; conv => whnf)
    | refine Need.go ?_ ?_
    | refine NilG.go (fun _ => ?_) (fun _ => ?_)
    | refine Br.dec (fun _ => ?_) (fun _ => ?_)
    | refine Br.go (fun _ => ?_) (fun _ => ?_)
    | refine draw_go hT hP mixed ?_
    | refine round_go hT hP ?_
  all_goals first
    | exact rfl
    | exact vmods_ok
    | exact of_decide_eq_true rfl
    | skip
  · exact .mk [] [2, 3] _ rfl rfl rfl rfl rfl rfl rfl

def vloadedS : PSpec := ⟨[gC, gD, gi], fun (c, d, a, _) => (some (c.2.1 = 6 ∧ u8s d.2), .tup [.agg [.own 0, .own 1], I1 (vrF d.1 (vM d.2) a)], [.arr (.int .i64) (vrN d.1 a), .arr (.int .u8) (vM d.2)])⟩
def vstoredS : PSpec := ⟨[gC, gD, gi, gi], fun (c, d, a, k, _) => (some (c.2.1 = 6), devM, [.arr (.int .i64) [vP d.1, vH d.1], .arr (.int .u8) (vwM (vM d.2) a k)])⟩
def vtickedS : PSpec := ⟨[gC, gD], fun (c, d, _) => (some (c.2.1 = 6 ∧ u8s d.2), devM, [.arr (.int .i64) (tickV (vM d.2) (vN d.1)), .arr (.int .u8) (vM d.2)])⟩
theorem vticked_ok : GoodF Try.prog 55 vtickedS.spec := by
  have hT := tab_ok (fs := [(54, vformedS.spec), (118, shadeS.spec)]) tree_ok
  have hP : SpecsOk Try.prog (tab tree [(54, vformedS.spec), (118, shadeS.spec)]) := specs_cons vformed_ok (specs_cons shade_ok specs_nil)
  refine vtickedS.good (fn := Try.f55) hT hP Try.func55 (by kernel_rfl) rfl fun (c : Cv) (d : Dv) hp => ?_
  obtain ⟨cn, ck, cb, cs, cd⟩ := c
  obtain ⟨rfl, hu⟩ : ck = 6 ∧ u8s d.2 := hp _ rfl
  obtain ⟨N, M⟩ := d
  have hu : u8s M := hu
  have hP0 := vP_in N
  have hpos : Int.tmod (IntKind.i64.wrap (vP N + 1)) 2560 = (vP N + 1) % 2560 := by rw [w64 (by omega) (by omega), Int.tmod_eq_emod_of_nonneg (by omega)]
  have hpos2 : 0 ≤ Int.tmod (IntKind.i64.wrap (vP N + 1)) 2560 ∧ Int.tmod (IntKind.i64.wrap (vP N + 1)) 2560 < 2560 := by rw [hpos]; omega
  repeat' first
    | (refine Go.mk ?_; conv => whnf)
    | refine Need.go ?_ ?_
    | refine NilG.go (fun _ => ?_) (fun _ => ?_)
    | refine Br.dec (fun _ => ?_) (fun _ => ?_)
    | refine Br.go (fun _ => ?_) (fun _ => ?_)
    | refine draw_go hT hP mixed ?_
    | refine round_go hT hP ?_
  all_goals first
    | exact rfl
    | exact vmods_ok
    | exact of_decide_eq_true rfl
    | exact ⟨vM_len M, vM_u8 hu, hpos2.1, hpos2.2⟩
    | skip
  · rename_i h
    have h : hitB (vM M) (Int.tmod (IntKind.i64.wrap (vP N + 1)) 2560) = true := h
    refine .mk [] [3, 4] _ rfl rfl rfl rfl rfl (blk_v (l := [Int.tmod (IntKind.i64.wrap (vP N + 1)) 2560, 1]) ?_ rfl) rfl
    show _ = tickV (vM M) (vN N)
    rw [hpos] at h ⊢
    rw [vN, tickV, h]; rfl
  · rename_i h
    have h : hitB (vM M) (Int.tmod (IntKind.i64.wrap (vP N + 1)) 2560) = false := h
    refine .mk [] [3, 4] _ rfl rfl rfl rfl rfl (blk_v (l := [Int.tmod (IntKind.i64.wrap (vP N + 1)) 2560, vH N]) ?_ rfl) rfl
    show _ = tickV (vM M) (vN N)
    rw [hpos] at h ⊢
    rw [vN, tickV, h]; rfl

def vshowsS : PSpec := ⟨[gC, gD], fun (c, d, _) => (some (c.2.1 = 6 ∧ u8s d.2), I (colorF (vM d.2) (vP d.1)), [])⟩
def vrestsS : PSpec := ⟨[gC, gD], fun (c, d, _) => (some (c.2.1 = 6 ∧ u8s d.2), I (vnextF (vM d.2) (vP d.1)), [])⟩
end Go.Proofs.Ytblnigjmcjpopaa

/- All kinds of chips at once: what each chip's functions give, in blocks of their own. -/
namespace Go.Proofs.Ytblnigjmcjpopaa
open Go.Fw
set_option linter.unusedVariables false
set_option linter.unusedSimpArgs false
set_option linter.constructorNameAsVariable false
set_option maxRecDepth 100000

abbrev devM1 : V1 := .agg [.own 0, .own 1]
def tnewOS : PSpec := ⟨[], fun _ => (none, devM, [.arr (.int .i64) [0, 0, 0, 0], .arr (.int .u8) []])⟩
theorem tnewO_ok : GoodF Try.prog 104 tnewOS.spec := GoodF.nil (.int .u8) tnew_ok (fun xs hp => ⟨hp, rfl, rfl⟩)
def tskipOS : PSpec := ⟨[gD, gi], fun (d, k, _) => (some (k ≤ 4611686018427387904), devM, [.arr (.int .i64) (iterT k.toNat (timN d.1)), .arr (.int .u8) []])⟩
theorem tskipO_ok : GoodF Try.prog 121 tskipOS.spec := GoodF.nil (.int .u8) tskip_ok (fun xs hp => ⟨hp, rfl, rfl⟩)
def twriteOS : PSpec := ⟨[gD, gi, gi], fun (d, a, k, _) => (none, devM, [.arr (.int .i64) (twN d.1 a k), .arr (.int .u8) []])⟩
theorem twriteO_ok : GoodF Try.prog 162 twriteOS.spec := GoodF.nil (.int .u8) twrite_ok (fun xs hp => ⟨hp, rfl, rfl⟩)
def treadOS : PSpec := ⟨[gD, gi], fun (d, a, _) => (none, .tup [devM1, I1 (trF d.1 a)], [.arr (.int .i64) (trN d.1 a), .arr (.int .u8) []])⟩
theorem treadO_ok : GoodF Try.prog 155 treadOS.spec := GoodF.nil (.int .u8) tread_ok (fun xs hp => ⟨hp, rfl, rfl⟩)
def pnewOS : PSpec := ⟨[], fun _ => (none, devM, [.arr (.int .i64) [255, 0, 0], .arr (.int .u8) []])⟩
theorem pnewO_ok : GoodF Try.prog 105 pnewOS.spec := GoodF.nil (.int .u8) pnew_ok (fun xs hp => ⟨hp, rfl, rfl⟩)
def pinOS : PSpec := ⟨[gD, gi], fun (d, k, _) => (none, devM, [.arr (.int .i64) (pinN d.1 k), .arr (.int .u8) []])⟩
theorem pinO_ok : GoodF Try.prog 122 pinOS.spec := GoodF.nil (.int .u8) pin_ok (fun xs hp => ⟨hp, rfl, rfl⟩)
def pwriteOS : PSpec := ⟨[gD, gi, gi], fun (d, a, k, _) => (none, devM, [.arr (.int .i64) (pwN d.1 a k), .arr (.int .u8) []])⟩
theorem pwriteO_ok : GoodF Try.prog 163 pwriteOS.spec := GoodF.nil (.int .u8) pwrite_ok (fun xs hp => ⟨hp, rfl, rfl⟩)
def preadOS : PSpec := ⟨[gD, gi], fun (d, a, _) => (none, .tup [devM1, I1 (preadF d.1 a)], [.arr (.int .i64) (portN d.1), .arr (.int .u8) []])⟩
theorem preadO_ok : GoodF Try.prog 156 preadOS.spec := GoodF.nil (.int .u8) pread_ok (fun xs hp => ⟨hp, rfl, rfl⟩)
def snewOS : PSpec := ⟨[], fun _ => (none, devM, [.arr (.int .i64) [0, 0, 0, 0, 0, 0, 0, 0], .arr (.int .u8) []])⟩
theorem snewO_ok : GoodF Try.prog 106 snewOS.spec := GoodF.nil (.int .u8) snew_ok (fun xs hp => ⟨hp, rfl, rfl⟩)
def sskipOS : PSpec := ⟨[gD, gi], fun (d, k, _) => (some (k ≤ 4611686018427387904), devM, [.arr (.int .i64) (iterF tickS k.toNat (serN d.1)), .arr (.int .u8) []])⟩
theorem sskipO_ok : GoodF Try.prog 124 sskipOS.spec := GoodF.nil (.int .u8) sskip_ok (fun xs hp => ⟨hp, rfl, rfl⟩)
def sinOS : PSpec := ⟨[gD, gi], fun (d, k, _) => (none, devM, [.arr (.int .i64) (sinN d.1 k), .arr (.int .u8) []])⟩
def swriteOS : PSpec := ⟨[gD, gi, gi], fun (d, a, k, _) => (none, devM, [.arr (.int .i64) (swN d.1 a k), .arr (.int .u8) []])⟩
theorem swriteO_ok : GoodF Try.prog 164 swriteOS.spec := GoodF.nil (.int .u8) swrite_ok (fun xs hp => ⟨hp, rfl, rfl⟩)
def sreadOS : PSpec := ⟨[gD, gi], fun (d, a, _) => (none, .tup [devM1, I1 (srF d.1 a)], [.arr (.int .i64) (srN d.1 a), .arr (.int .u8) []])⟩
theorem sreadO_ok : GoodF Try.prog 157 sreadOS.spec := GoodF.nil (.int .u8) sread_ok (fun xs hp => ⟨hp, rfl, rfl⟩)
def onewOS : PSpec := ⟨[], fun _ => (none, devM, [.arr (.int .i64) (List.replicate 12 0), .arr (.int .u8) []])⟩
theorem onewO_ok : GoodF Try.prog 108 onewOS.spec := GoodF.nil (.int .u8) onew_ok (fun xs hp => ⟨hp, rfl, rfl⟩)
def oskipOS : PSpec := ⟨[gD, gi], fun (d, k, _) => (some (k ≤ 10000000), devM, [.arr (.int .i64) (iterF tickW k.toNat (sndN d.1)), .arr (.int .u8) []])⟩
theorem oskipO_ok : GoodF Try.prog 126 oskipOS.spec := GoodF.nil (.int .u8) oskip_ok (fun xs hp => ⟨hp, rfl, rfl⟩)
def owriteOS : PSpec := ⟨[gD, gi, gi], fun (d, a, k, _) => (none, devM, [.arr (.int .i64) (owF d.1 a k), .arr (.int .u8) []])⟩
theorem owriteO_ok : GoodF Try.prog 166 owriteOS.spec := GoodF.nil (.int .u8) owrite_ok (fun xs hp => ⟨hp, rfl, rfl⟩)
def oreadOS : PSpec := ⟨[gD, gi], fun (d, a, _) => (none, .tup [devM1, I1 (orF d.1 a)], [.arr (.int .i64) (sndN d.1), .arr (.int .u8) []])⟩
theorem oreadO_ok : GoodF Try.prog 159 oreadOS.spec := GoodF.nil (.int .u8) oread_ok (fun xs hp => ⟨hp, rfl, rfl⟩)

theorem kinds (k : Int) : k = 0 ∨ k = 1 ∨ k = 2 ∨ k = 3 ∨ k = 4 ∨ k = 5 ∨ k = 6 ∨ k = 7 ∨ k = 8 ∨ (k < 0 ∨ 8 < k) := by omega
def sel {α : Type} (k : Int) (m t p s v o r x : α) : α := if 0 ≤ k ∧ k ≤ 2 then m else if k = 3 then t else if k = 4 then p else if k = 5 then s else if k = 6 then v else if k = 7 then o else if k = 8 then r else x
theorem sel_x {α : Type} {k : Int} (h : k < 0 ∨ 8 < k) (m t p s v o r x : α) : sel k m t p s v o r x = x := by
  unfold sel
  rw [if_neg (by omega), if_neg (by omega), if_neg (by omega), if_neg (by omega), if_neg (by omega), if_neg (by omega), if_neg (by omega)]

theorem kx3 {k : Int} (h : k < 0 ∨ 8 < k) : k < 3 ∨ k = 4 ∨ 8 < k := by omega
theorem k3 {k : Int} (h : k < 3 ∨ k = 4 ∨ 8 < k) : k < 3 ∨ k = 4 ∨ 8 < k := h

-- what a state is in its form, a cycle later, ..

def formF (c : Cv) (d : Dv) : Dv := sel c.2.1 (memN c d.1, memM c d.2) (timN d.1, []) (portN d.1, []) (serN d.1, []) (vN d.1, vM d.2) (sndN d.1, []) (dN d.1 (qF d.2), dM d.2) ([], [])
def tickF (c : Cv) (d : Dv) : Dv := sel c.2.1 (memN c d.1, memM c d.2) (tickT (timN d.1), []) (portN d.1, []) (tickS (serN d.1), []) (tickV (vM d.2) (vN d.1), vM d.2) (tickW (sndN d.1), []) (turnF (dN d.1 (qF d.2), dM d.2)) ([], [])

def kFormedS : PSpec := ⟨[gC, gD], fun (c, d, _) => (some (cP c ∧ List.length d.2 ≤ 140737488355328), devM, [.arr (.int .i64) (formF c d).1, .arr (.int .u8) (formF c d).2])⟩
theorem kFormed_ok : GoodF Try.prog 54 kFormedS.spec := by
  refine GoodF.sel dformed1_ok fun (c, d, _) hp => ?_
  obtain ⟨cn, ck, cb, cs, cd⟩ := c
  obtain ⟨N, M⟩ := d
  obtain ⟨hc, hl⟩ : cP (cn, ck, cb, cs, cd) ∧ List.length M ≤ 140737488355328 := hp _ rfl
  clear hp
  show ∃ o1 : Args [gC, gD] → Option Prop × AV × List Blk, _
  rcases kinds ck with rfl | rfl | rfl | rfl | rfl | rfl | rfl | rfl | rfl | hx
  · exact ⟨_, mformed_ok, fun q hq => by cases hq; exact ⟨hc, .inl rfl⟩, .refl⟩
  · exact ⟨_, mformed_ok, fun q hq => by cases hq; exact ⟨hc, .inr (.inl rfl)⟩, .refl⟩
  · exact ⟨_, mformed_ok, fun q hq => by cases hq; exact ⟨hc, .inr (.inr rfl)⟩, .refl⟩
  · exact ⟨_, tformed_ok, fun q hq => by cases hq; rfl, .nil (.int .u8) rfl .refl⟩
  · exact ⟨_, pformed_ok, fun q hq => by cases hq; rfl, .nil (.int .u8) rfl .refl⟩
  · exact ⟨_, sformed_ok, fun q hq => by cases hq; rfl, .nil (.int .u8) rfl .refl⟩
  · exact ⟨_, vformed_ok, fun q hq => by cases hq; rfl, .refl⟩
  · exact ⟨_, oformed_ok, fun q hq => by cases hq; rfl, .nil (.int .u8) rfl .refl⟩
  · exact ⟨_, dformedO_ok, fun q hq => by cases hq; exact ⟨rfl, hl⟩, .refl⟩
  · refine ⟨_, xformed_ok, fun q hq => by cases hq; exact hx, ?_⟩
    have e : formF (cn, ck, cb, cs, cd) (N, M) = ([], []) := sel_x hx ..
    show Conv (devM, [Blk.arr (.int .i64) [], .arr (.int .u8) []]) (devM, [.arr (.int .i64) (formF (cn, ck, cb, cs, cd) (N, M)).1, .arr (.int .u8) (formF (cn, ck, cb, cs, cd) (N, M)).2])
    rw [e]
    exact .refl

def kTickedS : PSpec := ⟨[gC, gD], fun (c, d, _) => (some (cP c ∧ dP d), devM, [.arr (.int .i64) (tickF c d).1, .arr (.int .u8) (tickF c d).2])⟩
/-- the kinds that nothing happens to -/
def kTicked0S : PSpec := ⟨[gC, gD], fun (c, d, _) => (some (cP c ∧ dP d ∧ (c.2.1 < 3 ∨ c.2.1 = 4 ∨ 8 < c.2.1)), devM, [.arr (.int .i64) (formF c d).1, .arr (.int .u8) (formF c d).2])⟩
theorem kTicked0_ok : GoodF Try.prog 55 kTicked0S.spec := by
  have hT := tab_ok (fs := [(54, kFormedS.spec)]) tree_ok
  have hP : SpecsOk Try.prog (tab tree [(54, kFormedS.spec)]) := specs_cons kFormed_ok specs_nil
  refine kTicked0S.good (fn := Try.f55) hT hP Try.func55 (by kernel_rfl) rfl fun (c : Cv) (d : Dv) hp => ?_
  obtain ⟨cn, ck, cb, cs, cd⟩ := c
  obtain ⟨N, M⟩ := d
  obtain ⟨hc, ⟨hl, hu⟩, hx⟩ : cP (cn, ck, cb, cs, cd) ∧ dP (N, M) ∧ (ck < 3 ∨ ck = 4 ∨ 8 < ck) := hp _ rfl
  clear hp
  repeat' first
    | (refine Go.mk ?_; conv => whnf)
    | refine Need.go ?_ ?_
    | refine NilG.go (fun _ => ?_) (fun _ => ?_)
    | refine Br.dec (fun _ => ?_) (fun _ => ?_)
    | refine Br.go (fun _ => ?_) (fun _ => ?_)
    | refine draw_go hT hP mixed ?_
    | refine round_go hT hP ?_
  all_goals (try dsimp only [castL_eq] at *)
  all_goals first
    | exact ⟨hc, hl⟩
    | omega
    | exact .mk [] [3, 4] _ rfl rfl rfl rfl rfl rfl rfl
    | skip
theorem kTicked_ok : GoodF Try.prog 55 kTickedS.spec := by
  refine GoodF.sel kTicked0_ok fun (c, d, _) hp => ?_
  obtain ⟨cn, ck, cb, cs, cd⟩ := c
  obtain ⟨N, M⟩ := d
  obtain ⟨hc, hl, hu⟩ : cP (cn, ck, cb, cs, cd) ∧ dP (N, M) := hp _ rfl
  clear hp
  show ∃ o1 : Args [gC, gD] → Option Prop × AV × List Blk, _
  rcases kinds ck with rfl | rfl | rfl | rfl | rfl | rfl | rfl | rfl | rfl | hx
  · exact ⟨_, kTicked0_ok, fun q hq => by cases hq; exact ⟨hc, ⟨hl, hu⟩, .inl (by decide : (0 : Int) < 3)⟩, .refl⟩
  · exact ⟨_, kTicked0_ok, fun q hq => by cases hq; exact ⟨hc, ⟨hl, hu⟩, .inl (by decide : (1 : Int) < 3)⟩, .refl⟩
  · exact ⟨_, kTicked0_ok, fun q hq => by cases hq; exact ⟨hc, ⟨hl, hu⟩, .inl (by decide : (2 : Int) < 3)⟩, .refl⟩
  · exact ⟨_, ticked_ok, fun q hq => by cases hq; rfl, .nil (.int .u8) rfl .refl⟩
  · exact ⟨_, kTicked0_ok, fun q hq => by cases hq; exact ⟨hc, ⟨hl, hu⟩, .inr (.inl rfl)⟩, .refl⟩
  · exact ⟨_, sticked_ok, fun q hq => by cases hq; rfl, .nil (.int .u8) rfl .refl⟩
  · exact ⟨_, vticked_ok, fun q hq => by cases hq; exact ⟨rfl, hu⟩, .refl⟩
  · exact ⟨_, oticked_ok, fun q hq => by cases hq; rfl, .nil (.int .u8) rfl .refl⟩
  · exact ⟨_, dtickedO_ok, fun q hq => by cases hq; exact ⟨rfl, hl, hu⟩, .refl⟩
  · refine ⟨_, kTicked0_ok, fun q hq => by cases hq; exact ⟨hc, ⟨hl, hu⟩, kx3 hx⟩, ?_⟩
    have e : formF (cn, ck, cb, cs, cd) (N, M) = tickF (cn, ck, cb, cs, cd) (N, M) := by unfold formF tickF; rw [sel_x hx, sel_x hx]
    show Conv (devM, [Blk.arr (.int .i64) (formF (cn, ck, cb, cs, cd) (N, M)).1, .arr (.int .u8) (formF (cn, ck, cb, cs, cd) (N, M)).2]) _
    rw [e]
    exact .refl

/-- a cycle, many times -/
def skipF (c : Cv) (d : Dv) (k : Int) : Dv := sel c.2.1 (memN c d.1, memM c d.2) (iterT k.toNat (timN d.1), []) (portN d.1, []) (iterF tickS k.toNat (serN d.1), []) (iterF (tickV (vM d.2)) k.toNat (vN d.1), vM d.2) (iterF tickW k.toNat (sndN d.1), []) (skipD k (dN d.1 (qF d.2), dM d.2)) ([], [])
def firstS : PSpec := ⟨[gD], fun (d, _) => (none, I (d.1.getD 0 0), [])⟩
theorem first_ok : GoodF Try.prog 123 firstS.spec := by
  have hT := tab_ok (fs := []) tree_ok
  have hP : SpecsOk Try.prog (tab tree []) := specs_nil
  refine firstS.good (fn := Try.f123) hT hP Try.func123 (by kernel_rfl) rfl fun (d : Dv) _ => ?_
  obtain ⟨N, M⟩ := d
  repeat' first
    | (refine Go.mk ?_; conv => whnf)
    | refine Need.go ?_ ?_
    | refine NilG.go (fun _ => ?_) (fun _ => ?_)
    | refine Br.dec (fun _ => ?_) (fun _ => ?_)
    | refine Br.go (fun _ => ?_) (fun _ => ?_)
    | refine draw_go hT hP mixed ?_
    | refine round_go hT hP ?_
  all_goals (try dsimp only [castL_eq] at *)
  · rename_i h
    obtain rfl : N = [] := List.eq_nil_of_length_eq_zero (by omega)
    exact .mk [] [] _ rfl rfl rfl rfl rfl rfl rfl
  · rename_i h
    show 0 ≤ (0 : Int) ∧ (0 : Int) < (N.length : Int)
    omega
  · exact .mk [] [] _ rfl rfl rfl rfl rfl rfl rfl
theorem pin_first (N : List Int) : pinN N (N.getD 0 0) = portN N := rfl

def cSkipS : PSpec := ⟨[gC, gD, gi], fun (c, d, k, _) => (some (cP c ∧ dP d ∧ k ≤ 1500), devM, [.arr (.int .i64) (skipF c d k).1, .arr (.int .u8) (skipF c d k).2])⟩
theorem cSkip_ok : GoodF Try.prog 57 cSkipS.spec := by
  have hT := tab_ok (fs := [(120, cfitS.spec), (121, tskipOS.spec), (122, pinOS.spec), (123, firstS.spec), (124, sskipOS.spec), (125, vskipS.spec), (126, oskipOS.spec), (127, dskipS.spec)]) tree_ok
  have hP : SpecsOk Try.prog (tab tree [(120, cfitS.spec), (121, tskipOS.spec), (122, pinOS.spec), (123, firstS.spec), (124, sskipOS.spec), (125, vskipS.spec), (126, oskipOS.spec), (127, dskipS.spec)]) := specs_cons cfit_ok (specs_cons tskipO_ok (specs_cons pinO_ok (specs_cons first_ok (specs_cons sskipO_ok (specs_cons vskip_ok (specs_cons oskipO_ok (specs_cons dskip_ok specs_nil)))))))
  refine cSkipS.good (fn := Try.f57) hT hP Try.func57 (by kernel_rfl) rfl fun (c : Cv) (d : Dv) (k : Int) hp => ?_
  obtain ⟨cn, ck, cb, cs, cd⟩ := c
  obtain ⟨N, M⟩ := d
  obtain ⟨hc, ⟨hl, hu⟩, hk⟩ : cP (cn, ck, cb, cs, cd) ∧ dP (N, M) ∧ k ≤ 1500 := hp _ rfl
  clear hp
  rcases kinds ck with rfl | rfl | rfl | rfl | rfl | rfl | rfl | rfl | rfl | hx
  all_goals
    repeat' first
      | (refine Go.mk ?_; conv => whnf)
      | refine Need.go ?_ ?_
      | refine NilG.go (fun _ => ?_) (fun _ => ?_)
      | refine Br.dec (fun _ => ?_) (fun _ => ?_)
      | refine Br.go (fun _ => ?_) (fun _ => ?_)
      | refine draw_go hT hP mixed ?_
      | refine round_go hT hP ?_
    all_goals (try dsimp only [castL_eq] at *)
  all_goals first
    | exact hc
    | exact Int.le_trans hk (by decide)
    | exact ⟨hu, Int.le_trans hk (by decide)⟩
    | exact ⟨hl, hu, hk⟩
    | exact .mk [] [3, 4] _ rfl rfl rfl rfl rfl rfl rfl
    | (exfalso; omega)
    | (refine .le (Le.nilH 2 (.int .i64) _ _ rfl rfl rfl) (.le (Le.nilH 2 (.int .u8) _ _ rfl rfl rfl) (.mk [] [3, 4] _ rfl rfl rfl rfl rfl (blk2_eq (l := []) (m := []) ?_ ?_) rfl)) <;> (unfold skipF; rw [sel_x hx]))
    | skip
  all_goals trace_state

end Go.Proofs.Ytblnigjmcjpopaa

/- Memories read and written. -/
namespace Go.Proofs.Ytblnigjmcjpopaa
open Go.Fw
set_option linter.unusedVariables false
set_option linter.unusedSimpArgs false
set_option linter.constructorNameAsVariable false
set_option maxRecDepth 100000

theorem u8s_over {l M : List Int} (h1 : u8s l) (h2 : u8s M) : u8s (over l M 0) := by
  rw [over_eq]
  intro x hx
  rcases List.mem_append.1 hx with hx | hx
  · exact h2 x (List.mem_of_mem_drop (List.mem_of_mem_take hx))
  · exact h1 x (List.mem_of_mem_drop hx)
theorem u8s_zero (n : Nat) : u8s (List.replicate n 0) := fun x hx => by
  rw [List.eq_of_mem_replicate hx]; decide
theorem memM_u8 (c : Cv) {M : List Int} (h : u8s M) : u8s (memM c M) := u8s_over (u8s_zero _) h
theorem u8s_getD {M : List Int} (h : u8s M) (n : Nat) : 0 ≤ M.getD n 0 ∧ M.getD n 0 < 256 := by
  by_cases hn : n < M.length
  · rw [List.getD_eq_getElem?_getD, List.getElem?_eq_getElem hn]
    exact h _ (List.getElem_mem hn)
  · rw [List.getD_eq_getElem?_getD, List.getElem?_eq_none (by omega)]; decide
theorem u8s_w {M : List Int} (h : u8s M) (n : Nat) : IntKind.i64.wrap (M.getD n 0) = M.getD n 0 := by
  have := u8s_getD h n
  exact w64 (by omega) (by omega)
def placeI (c : Cv) (d : Dv) (a : Int) : Int := if c.2.1 = 2 then (if a < 1 ∨ a > winI c then -1 else d.1.getD 0 0 * winI c + a - 1) else if a < 0 ∨ a ≥ (List.length d.2 : Nat) then -1 else a
def placeP (c : Cv) (d : Dv) : Prop := cP c ∧ (c.2.1 = 2 → 0 < List.length d.1 ∧ 0 ≤ d.1.getD 0 0 ∧ d.1.getD 0 0 < bankI c)
theorem bank_mul {n b w : Int} (h0 : 0 ≤ n) (h1 : n < b) (hw : 1 ≤ w) : 0 ≤ n * w ∧ n * w + w ≤ b * w := by
  have h2 : (n + 1) * w ≤ b * w := Int.mul_le_mul_of_nonneg_right (by omega) (by omega)
  have h3 : 0 ≤ n * w := Int.mul_nonneg h0 (by omega)
  rw [Int.add_mul, Int.one_mul] at h2
  exact ⟨h3, h2⟩
def mPlaceS : PSpec := ⟨[gC, gD, gi], fun (c, d, a, _) => (some (placeP c d), I (placeI c d a), [])⟩
theorem mPlace_ok : GoodF Try.prog 192 mPlaceS.spec := by
  have hT := tab_ok (fs := [(100, windowS.spec)]) tree_ok
  have hP : SpecsOk Try.prog (tab tree [(100, windowS.spec)]) := specs_cons window_ok specs_nil
  refine mPlaceS.good (fn := Try.f192) hT hP Try.func192 (by kernel_rfl) rfl fun (c : Cv) (d : Dv) (a : Int) hp => ?_
  obtain ⟨cn, ck, cb, cs, cd⟩ := c
  obtain ⟨N, M⟩ := d
  obtain ⟨hc, hx⟩ : placeP (cn, ck, cb, cs, cd) (N, M) := hp _ rfl
  clear hp
  have hx : ck = 2 → 0 < N.length ∧ 0 ≤ N.getD 0 0 ∧ N.getD 0 0 < bankI (cn, ck, cb, cs, cd) := hx
  obtain ⟨w1, w2⟩ := winI_in (cn, ck, cb, cs, cd)
  obtain ⟨b1, b2, b3⟩ := bankI_in hc.2.2
  repeat' first
    | (refine Go.mk ?_; conv => whnf)
    | refine Need.go ?_ ?_
    | refine NilG.go (fun _ => ?_) (fun _ => ?_)
    | refine Br.dec (fun _ => ?_) (fun _ => ?_)
    | refine Br.go (fun _ => ?_) (fun _ => ?_)
    | refine draw_go hT hP mixed ?_
    | refine round_go hT hP ?_
  all_goals (try dsimp only [castL_eq] at *)
  all_goals clear hT hP
  · rename_i g1 g2
    refine .mk [] [] _ rfl rfl rfl rfl rfl rfl (imm_int ?_)
    exact (by unfold placeI; rw [if_pos g1, if_pos (.inl g2)] : -1 = placeI (cn, ck, cb, cs, cd) (N, M) a)
  · rename_i g1 g2 g3
    refine .mk [] [] _ rfl rfl rfl rfl rfl rfl (imm_int ?_)
    exact (by unfold placeI; rw [if_pos g1, if_pos (.inr g3)] : -1 = placeI (cn, ck, cb, cs, cd) (N, M) a)
  · rename_i g1 g2 g3
    have := hx g1
    show (0 : Int) ≤ 0 ∧ (0 : Int) < (N.length : Int)
    omega
  · rename_i g1 g2 g3
    refine .mk [] [] _ rfl rfl rfl rfl rfl rfl (imm_int ?_)
    show IntKind.i64.wrap (IntKind.i64.wrap (IntKind.i64.wrap (N.getD 0 0 * winI (cn, ck, cb, cs, cd)) + a) - 1) = placeI (cn, ck, cb, cs, cd) (N, M) a
    obtain ⟨_, n0, n1⟩ := hx g1
    obtain ⟨m1, m2⟩ := bank_mul n0 n1 w1
    have g2 : ¬ a < 1 := g2
    have g3 : ¬ a > winI (cn, ck, cb, cs, cd) := g3
    have b3 : bankI (cn, ck, cb, cs, cd) * winI (cn, ck, cb, cs, cd) ≤ 140737488355328 := b3
    unfold placeI
    rw [if_pos (show (cn, ck, cb, cs, cd).2.1 = 2 from g1), if_neg (by omega), w64 (x := N.getD 0 0 * winI (cn, ck, cb, cs, cd)) (by omega) (by omega), w64 (x := N.getD 0 0 * winI (cn, ck, cb, cs, cd) + a) (by omega) (by omega), w64 (by omega) (by omega)]
  · rename_i g1 g2
    refine .mk [] [] _ rfl rfl rfl rfl rfl rfl (imm_int ?_)
    exact (by unfold placeI; rw [if_neg g1, if_pos (.inl g2)] : -1 = placeI (cn, ck, cb, cs, cd) (N, M) a)
  · rename_i g1 g2 g3
    refine .mk [] [] _ rfl rfl rfl rfl rfl rfl (imm_int ?_)
    exact (by unfold placeI; rw [if_neg g1, if_pos (.inr g3)] : -1 = placeI (cn, ck, cb, cs, cd) (N, M) a)
  · rename_i g1 g2 g3
    refine .mk [] [] _ rfl rfl rfl rfl rfl rfl (imm_int ?_)
    exact (by unfold placeI; rw [if_neg g1, if_neg (fun h => h.elim g2 g3)] : a = placeI (cn, ck, cb, cs, cd) (N, M) a)

/-- the state of a memory, in its form -/
def memD (c : Cv) (d : Dv) : Dv := (memN c d.1, memM c d.2)
theorem mem_placeP {c : Cv} (d : Dv) (h : cP c) : placeP c (memD c d) := by
  refine ⟨h, fun hk => ?_⟩
  obtain ⟨b1, b2, b3⟩ := bankI_in h.2.2
  unfold memD memN
  rw [if_pos hk]
  exact ⟨by show 0 < 1; omega, Int.emod_nonneg _ (by omega), Int.emod_lt_of_pos _ (by omega)⟩
theorem mem_place_in {c : Cv} (d : Dv) (h : cP c) {a : Int} (h2 : placeI c (memD c d) a ≥ 0) : placeI c (memD c d) a < ((memM c d.2).length : Nat) := by
  obtain ⟨b1, b2, b3⟩ := bankI_in h.2.2
  obtain ⟨w1, w2⟩ := winI_in c
  obtain ⟨_, hx⟩ := mem_placeP d h
  unfold placeI at h2 ⊢
  by_cases hk : c.2.1 = 2
  · rw [if_pos hk] at h2 ⊢
    by_cases ha : a < 1 ∨ a > winI c
    · rw [if_pos ha] at h2; omega
    · rw [if_neg ha]
      obtain ⟨_, n0, n1⟩ := hx hk
      obtain ⟨m1, m2⟩ := bank_mul n0 n1 w1
      rw [memM_len, bytesI, if_pos hk]
      omega
  · rw [if_neg hk] at h2 ⊢
    by_cases ha : a < 0 ∨ a ≥ ((memD c d).2.length : Nat)
    · rw [if_pos ha] at h2; omega
    · rw [if_neg ha]
      show a < ((memD c d).2.length : Nat)
      omega
def memRd (c : Cv) (d : Dv) (a : Int) : Int := if placeI c (memD c d) a ≥ 0 then (memM c d.2).getD (placeI c (memD c d) a).toNat 0 else if c.2.1 = 2 ∧ a = 0 then (memN c d.1).getD 0 0 else 0
def cReadMS : PSpec := ⟨[gC, gD, gi], fun (c, d, a, _) => (some (cP c ∧ dP d), .tup [devM1, I1 (memRd c d a)], [.arr (.int .i64) (memN c d.1), .arr (.int .u8) (memM c d.2)])⟩
theorem cReadM_ok : GoodF Try.prog 154 cReadMS.spec := by
  have hT := tab_ok (fs := [(120, cfitS.spec), (192, mPlaceS.spec)]) tree_ok
  have hP : SpecsOk Try.prog (tab tree [(120, cfitS.spec), (192, mPlaceS.spec)]) := specs_cons cfit_ok (specs_cons mPlace_ok specs_nil)
  refine cReadMS.good (fn := Try.f154) hT hP Try.func154 (by kernel_rfl) rfl fun (c : Cv) (d : Dv) (a : Int) hp => ?_
  obtain ⟨cn, ck, cb, cs, cd⟩ := c
  obtain ⟨N, M⟩ := d
  obtain ⟨hc, hl, hu⟩ : cP (cn, ck, cb, cs, cd) ∧ dP (N, M) := hp _ rfl
  clear hp
  have h0 := mem_placeP (N, M) hc
  have h1 := @mem_place_in _ (N, M) hc a
  repeat' first
    | (refine Go.mk ?_; conv => whnf)
    | refine Need.go ?_ ?_
    | refine NilG.go (fun _ => ?_) (fun _ => ?_)
    | refine Br.dec (fun _ => ?_) (fun _ => ?_)
    | refine Br.go (fun _ => ?_) (fun _ => ?_)
    | refine draw_go hT hP mixed ?_
    | refine round_go hT hP ?_
  all_goals (try dsimp only [castL_eq] at *)
  all_goals clear hT hP
  · exact hc
  · exact h0
  · rename_i g
    have h1 := h1 g
    exact ⟨g, h1⟩
  · rename_i g
    have h1 := h1 g
    have h1 : placeI (cn, ck, cb, cs, cd) (memN (cn, ck, cb, cs, cd) N, memM (cn, ck, cb, cs, cd) M) a < ((memM (cn, ck, cb, cs, cd) M).length : Nat) := h1
    omega
  · rename_i g
    refine .mk [] [3, 4] _ rfl rfl rfl rfl rfl rfl (tup_r2 ?_)
    show IntKind.i64.wrap ((memM (cn, ck, cb, cs, cd) M).getD (placeI (cn, ck, cb, cs, cd) (memN (cn, ck, cb, cs, cd) N, memM (cn, ck, cb, cs, cd) M) a).toNat 0) = memRd (cn, ck, cb, cs, cd) (N, M) a
    rw [u8s_w (memM_u8 _ hu), memRd, if_pos (show placeI (cn, ck, cb, cs, cd) (memD (cn, ck, cb, cs, cd) (N, M)) a ≥ 0 from g)]; rfl
  · rename_i g g1 g2
    exact ⟨Int.le_refl _, by have : 0 < (memN (cn, ck, cb, cs, cd) N).length := (h0.2 g1).1; show (0 : Int) < ((memN (cn, ck, cb, cs, cd) N).length : Nat); omega⟩
  · rename_i g g1 g2
    exact (h0.2 g1).1
  · rename_i g g1 g2
    refine .mk [] [3, 4] _ rfl rfl rfl rfl rfl rfl (tup_r2 ?_)
    show (memN (cn, ck, cb, cs, cd) N).getD 0 0 = memRd (cn, ck, cb, cs, cd) (N, M) a
    rw [memRd, if_neg (show ¬ placeI (cn, ck, cb, cs, cd) (memD (cn, ck, cb, cs, cd) (N, M)) a ≥ 0 from g), if_pos ⟨g1, g2⟩]
  · rename_i g g1 g2
    refine .mk [] [3, 4] _ rfl rfl rfl rfl rfl rfl (tup_r2 ?_)
    show 0 = memRd (cn, ck, cb, cs, cd) (N, M) a
    rw [memRd, if_neg (show ¬ placeI (cn, ck, cb, cs, cd) (memD (cn, ck, cb, cs, cd) (N, M)) a ≥ 0 from g), if_neg (fun h => g2 h.2)]
  · rename_i g g1
    refine .mk [] [3, 4] _ rfl rfl rfl rfl rfl rfl (tup_r2 ?_)
    show 0 = memRd (cn, ck, cb, cs, cd) (N, M) a
    rw [memRd, if_neg (show ¬ placeI (cn, ck, cb, cs, cd) (memD (cn, ck, cb, cs, cd) (N, M)) a ≥ 0 from g), if_neg (fun h => g1 h.1)]

def memWr (c : Cv) (d : Dv) (a k : Int) : Dv := if c.2.1 = 1 then memD c d else if placeI c (memD c d) a ≥ 0 then (memN c d.1, (memM c d.2).set (placeI c (memD c d) a).toNat (k % 256)) else if c.2.1 = 2 ∧ a = 0 then ((memN c d.1).set 0 (k % 256 % bankI c), memM c d.2) else memD c d
def cWriteMS : PSpec := ⟨[gC, gD, gi, gi], fun (c, d, a, k, _) => (some (cP c), devM, [.arr (.int .i64) (memWr c d a k).1, .arr (.int .u8) (memWr c d a k).2])⟩
theorem cWriteM_ok : GoodF Try.prog 161 cWriteMS.spec := by
  have hT := tab_ok (fs := [(120, cfitS.spec), (192, mPlaceS.spec), (70, lowM.spec), (47, cBanksS.spec)]) tree_ok
  have hP : SpecsOk Try.prog (tab tree [(120, cfitS.spec), (192, mPlaceS.spec), (70, lowM.spec), (47, cBanksS.spec)]) := specs_cons cfit_ok (specs_cons mPlace_ok (specs_cons lowM_ok (specs_cons cBanks_ok specs_nil)))
  refine cWriteMS.good (fn := Try.f161) hT hP Try.func161 (by kernel_rfl) rfl fun (c : Cv) (d : Dv) (a k : Int) hp => ?_
  obtain ⟨cn, ck, cb, cs, cd⟩ := c
  obtain ⟨N, M⟩ := d
  have hc : cP (cn, ck, cb, cs, cd) := hp _ rfl
  clear hp
  have h0 := mem_placeP (N, M) hc
  have h1 := @mem_place_in _ (N, M) hc a
  obtain ⟨b1, b2, b3⟩ := bankI_in hc.2.2
  repeat' first
    | (refine Go.mk ?_; conv => whnf)
    | refine Need.go ?_ ?_
    | refine NilG.go (fun _ => ?_) (fun _ => ?_)
    | refine Br.dec (fun _ => ?_) (fun _ => ?_)
    | refine Br.go (fun _ => ?_) (fun _ => ?_)
    | refine draw_go hT hP mixed ?_
    | refine round_go hT hP ?_
  all_goals (try dsimp only [castL_eq] at *)
  all_goals clear hT hP
  · exact hc
  · exact h0
  · rename_i g
    refine .mk [] [3, 4] _ rfl rfl rfl rfl rfl (blk2_eq (l := memN (cn, ck, cb, cs, cd) N) (l' := (memWr (cn, ck, cb, cs, cd) (N, M) a k).1) (m := memM (cn, ck, cb, cs, cd) M) (m' := (memWr (cn, ck, cb, cs, cd) (N, M) a k).2) ?_ ?_) rfl
    all_goals (rw [memWr, if_pos (show (cn, ck, cb, cs, cd).2.1 = 1 from g)]; rfl)
  · exact of_decide_eq_true rfl
  · rename_i g0 g
    exact ⟨g, h1 g⟩
  · rename_i g0 g
    have h1 := h1 g
    have h1 : placeI (cn, ck, cb, cs, cd) (memN (cn, ck, cb, cs, cd) N, memM (cn, ck, cb, cs, cd) M) a < ((memM (cn, ck, cb, cs, cd) M).length : Nat) := h1
    omega
  · rename_i g0 g
    refine .mk [] [3, 4] _ rfl rfl rfl rfl rfl (blk2_eq (l := memN (cn, ck, cb, cs, cd) N) (l' := (memWr (cn, ck, cb, cs, cd) (N, M) a k).1) (m := (memM (cn, ck, cb, cs, cd) M).set (placeI (cn, ck, cb, cs, cd) (memD (cn, ck, cb, cs, cd) (N, M)) a).toNat (IntKind.u8.wrap (k % 256))) (m' := (memWr (cn, ck, cb, cs, cd) (N, M) a k).2) ?_ ?_) rfl
    all_goals rw [memWr, if_neg (show ¬ (cn, ck, cb, cs, cd).2.1 = 1 from g0), if_pos (show placeI (cn, ck, cb, cs, cd) (memD (cn, ck, cb, cs, cd) (N, M)) a ≥ 0 from g)]
    have e : IntKind.u8.wrap (k % 256) = k % 256 := by show k % 256 % 256 = k % 256; omega
    rw [e]
  · exact of_decide_eq_true rfl
  · exact hc.2.2
  · show bankI (cn, ck, cb, cs, cd) ≠ 0
    omega
  · rename_i g0 g g1 g2
    exact ⟨Int.le_refl _, by have : 0 < (memN (cn, ck, cb, cs, cd) N).length := (h0.2 g1).1; show (0 : Int) < ((memN (cn, ck, cb, cs, cd) N).length : Nat); omega⟩
  · rename_i g0 g g1 g2
    exact (h0.2 g1).1
  · rename_i g0 g g1 g2
    refine .mk [] [3, 4] _ rfl rfl rfl rfl rfl (blk2_eq (l := (memN (cn, ck, cb, cs, cd) N).set 0 (Int.tmod (k % 256) (bankI (cn, ck, cb, cs, cd)))) (l' := (memWr (cn, ck, cb, cs, cd) (N, M) a k).1) (m := memM (cn, ck, cb, cs, cd) M) (m' := (memWr (cn, ck, cb, cs, cd) (N, M) a k).2) ?_ ?_) rfl
    all_goals rw [memWr, if_neg (show ¬ (cn, ck, cb, cs, cd).2.1 = 1 from g0), if_neg (show ¬ placeI (cn, ck, cb, cs, cd) (memD (cn, ck, cb, cs, cd) (N, M)) a ≥ 0 from g), if_pos ⟨g1, g2⟩]
    rw [Int.tmod_eq_emod_of_nonneg (by omega)]
  · rename_i g0 g g1 g2
    refine .mk [] [3, 4] _ rfl rfl rfl rfl rfl (blk2_eq (l := memN (cn, ck, cb, cs, cd) N) (l' := (memWr (cn, ck, cb, cs, cd) (N, M) a k).1) (m := memM (cn, ck, cb, cs, cd) M) (m' := (memWr (cn, ck, cb, cs, cd) (N, M) a k).2) ?_ ?_) rfl
    all_goals (rw [memWr, if_neg (show ¬ (cn, ck, cb, cs, cd).2.1 = 1 from g0), if_neg (show ¬ placeI (cn, ck, cb, cs, cd) (memD (cn, ck, cb, cs, cd) (N, M)) a ≥ 0 from g), if_neg (fun h => g2 h.2)]; rfl)
  · rename_i g0 g g1
    refine .mk [] [3, 4] _ rfl rfl rfl rfl rfl (blk2_eq (l := memN (cn, ck, cb, cs, cd) N) (l' := (memWr (cn, ck, cb, cs, cd) (N, M) a k).1) (m := memM (cn, ck, cb, cs, cd) M) (m' := (memWr (cn, ck, cb, cs, cd) (N, M) a k).2) ?_ ?_) rfl
    all_goals (rw [memWr, if_neg (show ¬ (cn, ck, cb, cs, cd).2.1 = 1 from g0), if_neg (show ¬ placeI (cn, ck, cb, cs, cd) (memD (cn, ck, cb, cs, cd) (N, M)) a ≥ 0 from g), if_neg (fun h => g1 h.1)]; rfl)

-- reading and writing, whatever the kind

def loadD (c : Cv) (d : Dv) (a : Int) : Dv := sel c.2.1 (memD c d) (trN d.1 a, []) (portN d.1, []) (srN d.1 a, []) (vrN d.1 a, vM d.2) (sndN d.1, []) (drN d.1 (qF d.2) a, dM d.2) ([], [])
def loadI (c : Cv) (d : Dv) (a : Int) : Int := sel c.2.1 (memRd c d a) (trF d.1 a) (preadF d.1 a) (srF d.1 a) (vrF d.1 (vM d.2) a) (orF d.1 a) (drF d.1 (qF d.2) a) 0
def storeF (c : Cv) (d : Dv) (a k : Int) : Dv := sel c.2.1 (memWr c d a k) (twN d.1 a k, []) (pwN d.1 a k, []) (swN d.1 a k, []) ([vP d.1, vH d.1], vwM (vM d.2) a k) (owF d.1 a k, []) (dwN d.1 (qF d.2) a k, dM d.2) ([], [])
def cReadS : PSpec := ⟨[gC, gD, gi], fun (c, d, a, _) => (some (cP c ∧ dP d), .tup [devM1, I1 (loadI c d a)], [.arr (.int .i64) (loadD c d a).1, .arr (.int .u8) (loadD c d a).2])⟩
theorem tup_x {r r' : Int} (h : r = r') : AV.tup [devM1, I1 r] = AV.tup [devM1, I1 r'] := by rw [h]
theorem cRead_ok : GoodF Try.prog 96 cReadS.spec := by
  have hT := tab_ok (fs := [(154, cReadMS.spec), (155, treadOS.spec), (156, preadOS.spec), (157, sreadOS.spec), (158, vreadS.spec), (159, oreadOS.spec), (160, dreadS.spec)]) tree_ok
  have hP : SpecsOk Try.prog (tab tree [(154, cReadMS.spec), (155, treadOS.spec), (156, preadOS.spec), (157, sreadOS.spec), (158, vreadS.spec), (159, oreadOS.spec), (160, dreadS.spec)]) := specs_cons cReadM_ok (specs_cons treadO_ok (specs_cons preadO_ok (specs_cons sreadO_ok (specs_cons vread_ok (specs_cons oreadO_ok (specs_cons dread_ok specs_nil))))))
  refine cReadS.good (fn := Try.f96) hT hP Try.func96 (by kernel_rfl) rfl fun (c : Cv) (d : Dv) (a : Int) hp => ?_
  obtain ⟨cn, ck, cb, cs, cd⟩ := c
  obtain ⟨N, M⟩ := d
  obtain ⟨hc, hl, hu⟩ : cP (cn, ck, cb, cs, cd) ∧ dP (N, M) := hp _ rfl
  clear hp
  rcases kinds ck with rfl | rfl | rfl | rfl | rfl | rfl | rfl | rfl | rfl | hx
  all_goals
    repeat' first
      | (refine Go.mk ?_; conv => whnf)
      | refine Need.go ?_ ?_
      | refine NilG.go (fun _ => ?_) (fun _ => ?_)
      | refine Br.dec (fun _ => ?_) (fun _ => ?_)
      | refine Br.go (fun _ => ?_) (fun _ => ?_)
      | refine draw_go hT hP mixed ?_
      | refine round_go hT hP ?_
    all_goals (try dsimp only [castL_eq] at *)
  all_goals first
    | exact ⟨hc, hl, hu⟩
    | exact hu
    | exact hl
    | exact .mk [] [3, 4] _ rfl rfl rfl rfl rfl rfl rfl
    | (exfalso; omega)
    | (refine .le (Le.nilH 2 (.int .i64) _ _ rfl rfl rfl) (.le (Le.nilH 2 (.int .u8) _ _ rfl rfl rfl) (.mk [] [3, 4] _ rfl rfl rfl rfl rfl (blk2_eq (l := []) (m := []) ?_ ?_) (tup_x ?_))) <;> first | (unfold loadD; rw [sel_x hx]) | (unfold loadI; rw [sel_x hx]))
    | skip

def cWriteS : PSpec := ⟨[gC, gD, gi, gi], fun (c, d, a, k, _) => (some (cP c ∧ dP d), devM, [.arr (.int .i64) (storeF c d a k).1, .arr (.int .u8) (storeF c d a k).2])⟩
theorem cWrite_ok : GoodF Try.prog 97 cWriteS.spec := by
  have hT := tab_ok (fs := [(161, cWriteMS.spec), (162, twriteOS.spec), (163, pwriteOS.spec), (164, swriteOS.spec), (165, vwriteS.spec), (166, owriteOS.spec), (167, dwriteS.spec)]) tree_ok
  have hP : SpecsOk Try.prog (tab tree [(161, cWriteMS.spec), (162, twriteOS.spec), (163, pwriteOS.spec), (164, swriteOS.spec), (165, vwriteS.spec), (166, owriteOS.spec), (167, dwriteS.spec)]) := specs_cons cWriteM_ok (specs_cons twriteO_ok (specs_cons pwriteO_ok (specs_cons swriteO_ok (specs_cons vwrite_ok (specs_cons owriteO_ok (specs_cons dwrite_ok specs_nil))))))
  refine cWriteS.good (fn := Try.f97) hT hP Try.func97 (by kernel_rfl) rfl fun (c : Cv) (d : Dv) (a k : Int) hp => ?_
  obtain ⟨cn, ck, cb, cs, cd⟩ := c
  obtain ⟨N, M⟩ := d
  obtain ⟨hc, hl, hu⟩ : cP (cn, ck, cb, cs, cd) ∧ dP (N, M) := hp _ rfl
  clear hp
  rcases kinds ck with rfl | rfl | rfl | rfl | rfl | rfl | rfl | rfl | rfl | hx
  all_goals
    repeat' first
      | (refine Go.mk ?_; conv => whnf)
      | refine Need.go ?_ ?_
      | refine NilG.go (fun _ => ?_) (fun _ => ?_)
      | refine Br.dec (fun _ => ?_) (fun _ => ?_)
      | refine Br.go (fun _ => ?_) (fun _ => ?_)
      | refine draw_go hT hP mixed ?_
      | refine round_go hT hP ?_
    all_goals (try dsimp only [castL_eq] at *)
  all_goals first
    | exact hc
    | exact hl
    | exact .mk [] [3, 4] _ rfl rfl rfl rfl rfl rfl rfl
    | (exfalso; omega)
    | (refine .le (Le.nilH 2 (.int .i64) _ _ rfl rfl rfl) (.le (Le.nilH 2 (.int .u8) _ _ rfl rfl rfl) (.mk [] [3, 4] _ rfl rfl rfl rfl rfl (blk2_eq (l := []) (m := []) ?_ ?_) rfl)) <;> (unfold storeF; rw [sel_x hx]))
    | skip

def cTickS : PSpec := ⟨[gC, gD], fun (c, d, _) => (some (cP c ∧ dP d), devM, [.arr (.int .i64) (tickF c d).1, .arr (.int .u8) (tickF c d).2])⟩
theorem skip_one (c : Cv) (d : Dv) : skipF c d 1 = tickF c d := by
  obtain ⟨cn, ck, cb, cs, cd⟩ := c
  obtain ⟨N, M⟩ := d
  rcases kinds ck with rfl | rfl | rfl | rfl | rfl | rfl | rfl | rfl | rfl | hx
  all_goals first
    | rfl
    | (unfold skipF tickF; rw [sel_x hx, sel_x hx])
theorem cTick_ok : GoodF Try.prog 56 cTickS.spec := by
  have hT := tab_ok (fs := [(57, cSkipS.spec)]) tree_ok
  have hP : SpecsOk Try.prog (tab tree [(57, cSkipS.spec)]) := specs_cons cSkip_ok specs_nil
  refine cTickS.good (fn := Try.f56) hT hP Try.func56 (by kernel_rfl) rfl fun (c : Cv) (d : Dv) hp => ?_
  obtain ⟨hc, hd⟩ : cP c ∧ dP d := hp _ rfl
  obtain ⟨cn, ck, cb, cs, cd⟩ := c
  obtain ⟨N, M⟩ := d
  clear hp
  repeat' first
    | (refine Go.mk ?_; conv => whnf)
    | refine Need.go ?_ ?_
    | refine NilG.go (fun _ => ?_) (fun _ => ?_)
    | refine Br.dec (fun _ => ?_) (fun _ => ?_)
    | refine Br.go (fun _ => ?_) (fun _ => ?_)
    | refine draw_go hT hP mixed ?_
    | refine round_go hT hP ?_
  all_goals (try dsimp only [castL_eq] at *)
  · exact ⟨hc, hd, by decide⟩
  · exact .mk [] [3, 4] _ rfl rfl rfl rfl rfl (blk2_eq (congrArg Prod.fst (skip_one (cn, ck, cb, cs, cd) (N, M))) (congrArg Prod.snd (skip_one (cn, ck, cb, cs, cd) (N, M)))) rfl

end Go.Proofs.Ytblnigjmcjpopaa

/- Chips: which are valid. -/
namespace Go.Proofs.Ytblnigjmcjpopaa
open Go.Fw
set_option linter.unusedVariables false
set_option linter.unusedSimpArgs false
set_option linter.constructorNameAsVariable false
set_option maxRecDepth 100000

def cmemoryS : PSpec := ⟨[gi], fun (k, _) => (none, .cell (bv (decide (k = 0) || (decide (k = 1) || decide (k = 2)))), [])⟩
theorem cmemory_ok : GoodF Try.prog 98 cmemoryS.spec := by
  have hT := tab_ok (fs := []) tree_ok
  have hP : SpecsOk Try.prog (tab tree []) := specs_nil
  refine cmemoryS.good (fn := Try.f98) hT hP Try.func98 (by kernel_rfl) rfl fun (k : Int) _ => ?_
  repeat' first
    | (refine Go.mk ?_; conv => whnf)
    | refine Need.go ?_ ?_
    | refine NilG.go (fun _ => ?_) (fun _ => ?_)
    | refine Br.dec (fun _ => ?_) (fun _ => ?_)
    | refine Br.go (fun _ => ?_) (fun _ => ?_)
    | refine draw_go hT hP mixed ?_
    | refine round_go hT hP ?_
  all_goals (refine .mk [] [] _ rfl rfl rfl rfl rfl rfl (imm_bool ?_))
  all_goals (simp_all)
  all_goals (by_cases h : k = 2 <;> simp [h])
def sizeK (k : Int) : Int := sel k 0 4 2 3 32 8 4 0
def csizeS : PSpec := ⟨[gi], fun (k, _) => (none, I (sizeK k), [])⟩
theorem csize_ok : GoodF Try.prog 99 csizeS.spec := by
  have hT := tab_ok (fs := []) tree_ok
  have hP : SpecsOk Try.prog (tab tree []) := specs_nil
  refine csizeS.good (fn := Try.f99) hT hP Try.func99 (by kernel_rfl) rfl fun (k : Int) _ => ?_
  rcases kinds k with rfl | rfl | rfl | rfl | rfl | rfl | rfl | rfl | rfl | hx
  all_goals
    repeat' first
      | (refine Go.mk ?_; conv => whnf)
      | refine Need.go ?_ ?_
      | refine NilG.go (fun _ => ?_) (fun _ => ?_)
      | refine Br.dec (fun _ => ?_) (fun _ => ?_)
      | refine Br.go (fun _ => ?_) (fun _ => ?_)
      | refine draw_go hT hP mixed ?_
      | refine round_go hT hP ?_
  all_goals first
    | exact .mk [] [] _ rfl rfl rfl rfl rfl rfl rfl
    | (exfalso; dsimp only [gi, Den] at *; omega)
    | exact .mk [] [] _ rfl rfl rfl rfl rfl rfl (imm_int (sel_x hx ..).symm)
    | skip

def cpuStr : ByteArray := ⟨#[99, 112, 117]⟩
def chipBad (k s : Int) (n : Nat) : Bool := (decide (k = 0 ∨ k = 1) && decide ((n : Int) > s)) || ((decide (3 ≤ k ∧ k ≤ 7) && decide (n > 0)) || (decide (k = 8) && decide (¬ n % 256 = 0)))
def chipE (c : Cv) : Int :=
  if nameB (bytesOf c.1) = false then 15 else if strEq c.1 cpuStr = true then 20 else if c.2.1 < 0 ∨ 8 < c.2.1 then 8
  else if (c.2.1 ≤ 2 ∧ c.2.2.2.1 < (if c.2.1 = 2 then 2 else 1)) ∨ (2 < c.2.1 ∧ ¬ c.2.2.2.1 = sizeK c.2.1) then 1 else if c.2.2.2.1 > 4096 ∨ List.length c.2.2.2.2 > 4096 then 2
  else if c.2.2.1 < 0 ∨ c.2.2.1 > IntKind.i64.wrap (65536 - c.2.2.2.1) then 19 else if chipBad c.2.1 c.2.2.2.1 (List.length c.2.2.2.2) = true then 3 else 0
def chipES : PSpec := ⟨[gC], fun (c, _) => (some (cP c), I (chipE c), [])⟩
set_option maxHeartbeats 8000000 in
theorem cCheck_ok : GoodF Try.prog 45 chipES.spec := by
  have hT := tab_ok (fs := [(85, nameS.spec), (98, cmemoryS.spec), (99, csizeS.spec)]) tree_ok
  have hP : SpecsOk Try.prog (tab tree [(85, nameS.spec), (98, cmemoryS.spec), (99, csizeS.spec)]) := specs_cons tName_ok (specs_cons cmemory_ok (specs_cons csize_ok specs_nil))
  refine chipES.good (fn := Try.f45) hT hP Try.func45 (by kernel_rfl) rfl fun (c : Cv) hp => ?_
  obtain ⟨hb, hs, hl⟩ : cP c := hp _ rfl
  obtain ⟨cn, ck, cb, cs, cd⟩ := c
  obtain ⟨hs1, hs2⟩ : -9223372036854775808 ≤ cs ∧ cs ≤ 9223372036854775807 := hs
  clear hp hb hl
  have hcn : cpuStr = ⟨#[99, 112, 117]⟩ := rfl
  have htm : Int.tmod (cd.length : Int) 256 = ((cd.length % 256 : Nat) : Int) := by rw [Int.tmod_eq_emod_of_nonneg (by omega)]; omega
  rcases kinds ck with rfl | rfl | rfl | rfl | rfl | rfl | rfl | rfl | rfl | hx
  rotate_right
  · have h8 : ¬ (¬ ck < 0 ∧ ¬ ck ≥ 9) := by omega
    repeat' first
      | (exfalso; exact h8 ⟨by assumption, by assumption⟩)
      | (refine Go.mk ?_; conv => whnf)
      | refine Need.go ?_ ?_
      | refine NilG.go (fun _ => ?_) (fun _ => ?_)
      | refine Br.dec (fun _ => ?_) (fun _ => ?_)
      | refine Br.go (fun _ => ?_) (fun _ => ?_)
      | refine draw_go hT hP mixed ?_
      | refine round_go hT hP ?_
    all_goals (try dsimp only [castL_eq] at *)
    all_goals clear hT hP
    all_goals (refine .mk [] [] _ rfl rfl rfl rfl rfl rfl (imm_int ?_))
    all_goals (show _ = chipE (cn, ck, cb, cs, cd))
    all_goals (unfold chipE)
    all_goals (dsimp only)
    all_goals (simp_all)
    all_goals (intros; omega)
  · repeat' first
      | (refine Go.mk ?_; conv => whnf)
      | refine Need.go ?_ ?_
      | refine NilG.go (fun _ => ?_) (fun _ => ?_)
      | refine Br.dec (fun _ => ?_) (fun _ => ?_)
      | refine Br.go (fun _ => ?_) (fun _ => ?_)
      | refine draw_go hT hP mixed ?_
      | refine round_go hT hP ?_
    all_goals (try dsimp only [castL_eq] at *)
    all_goals first
      | exact of_decide_eq_true rfl
      | skip
    all_goals clear hT hP
    all_goals (refine .mk [] [] _ rfl rfl rfl rfl rfl rfl (imm_int ?_))
    all_goals (show _ = chipE (cn, 0, cb, cs, cd))
    all_goals (simp_all [chipE, chipBad, sizeK, sel])
    all_goals (intros; (repeat' split) <;> omega)
  · repeat' first
      | (refine Go.mk ?_; conv => whnf)
      | refine Need.go ?_ ?_
      | refine NilG.go (fun _ => ?_) (fun _ => ?_)
      | refine Br.dec (fun _ => ?_) (fun _ => ?_)
      | refine Br.go (fun _ => ?_) (fun _ => ?_)
      | refine draw_go hT hP mixed ?_
      | refine round_go hT hP ?_
    all_goals (try dsimp only [castL_eq] at *)
    all_goals first
      | exact of_decide_eq_true rfl
      | skip
    all_goals clear hT hP
    all_goals (refine .mk [] [] _ rfl rfl rfl rfl rfl rfl (imm_int ?_))
    all_goals (show _ = chipE (cn, 1, cb, cs, cd))
    all_goals (simp_all [chipE, chipBad, sizeK, sel])
    all_goals (intros; (repeat' split) <;> omega)
  · repeat' first
      | (refine Go.mk ?_; conv => whnf)
      | refine Need.go ?_ ?_
      | refine NilG.go (fun _ => ?_) (fun _ => ?_)
      | refine Br.dec (fun _ => ?_) (fun _ => ?_)
      | refine Br.go (fun _ => ?_) (fun _ => ?_)
      | refine draw_go hT hP mixed ?_
      | refine round_go hT hP ?_
    all_goals (try dsimp only [castL_eq] at *)
    all_goals first
      | exact of_decide_eq_true rfl
      | skip
    all_goals clear hT hP
    all_goals (refine .mk [] [] _ rfl rfl rfl rfl rfl rfl (imm_int ?_))
    all_goals (show _ = chipE (cn, 2, cb, cs, cd))
    all_goals (simp_all [chipE, chipBad, sizeK, sel])
    all_goals (intros; (repeat' split) <;> omega)
  · repeat' first
      | (refine Go.mk ?_; conv => whnf)
      | refine Need.go ?_ ?_
      | refine NilG.go (fun _ => ?_) (fun _ => ?_)
      | refine Br.dec (fun _ => ?_) (fun _ => ?_)
      | refine Br.go (fun _ => ?_) (fun _ => ?_)
      | refine draw_go hT hP mixed ?_
      | refine round_go hT hP ?_
    all_goals (try dsimp only [castL_eq] at *)
    all_goals first
      | exact of_decide_eq_true rfl
      | skip
    all_goals clear hT hP
    all_goals (refine .mk [] [] _ rfl rfl rfl rfl rfl rfl (imm_int ?_))
    all_goals (show _ = chipE (cn, 3, cb, cs, cd))
    all_goals (simp_all [chipE, chipBad, sizeK, sel])
    all_goals (intros; (repeat' split) <;> omega)
  · repeat' first
      | (refine Go.mk ?_; conv => whnf)
      | refine Need.go ?_ ?_
      | refine NilG.go (fun _ => ?_) (fun _ => ?_)
      | refine Br.dec (fun _ => ?_) (fun _ => ?_)
      | refine Br.go (fun _ => ?_) (fun _ => ?_)
      | refine draw_go hT hP mixed ?_
      | refine round_go hT hP ?_
    all_goals (try dsimp only [castL_eq] at *)
    all_goals first
      | exact of_decide_eq_true rfl
      | skip
    all_goals clear hT hP
    all_goals (refine .mk [] [] _ rfl rfl rfl rfl rfl rfl (imm_int ?_))
    all_goals (show _ = chipE (cn, 4, cb, cs, cd))
    all_goals (simp_all [chipE, chipBad, sizeK, sel])
    all_goals (intros; (repeat' split) <;> omega)
  · repeat' first
      | (refine Go.mk ?_; conv => whnf)
      | refine Need.go ?_ ?_
      | refine NilG.go (fun _ => ?_) (fun _ => ?_)
      | refine Br.dec (fun _ => ?_) (fun _ => ?_)
      | refine Br.go (fun _ => ?_) (fun _ => ?_)
      | refine draw_go hT hP mixed ?_
      | refine round_go hT hP ?_
    all_goals (try dsimp only [castL_eq] at *)
    all_goals first
      | exact of_decide_eq_true rfl
      | skip
    all_goals clear hT hP
    all_goals (refine .mk [] [] _ rfl rfl rfl rfl rfl rfl (imm_int ?_))
    all_goals (show _ = chipE (cn, 5, cb, cs, cd))
    all_goals (simp_all [chipE, chipBad, sizeK, sel])
    all_goals (intros; (repeat' split) <;> omega)
  · repeat' first
      | (refine Go.mk ?_; conv => whnf)
      | refine Need.go ?_ ?_
      | refine NilG.go (fun _ => ?_) (fun _ => ?_)
      | refine Br.dec (fun _ => ?_) (fun _ => ?_)
      | refine Br.go (fun _ => ?_) (fun _ => ?_)
      | refine draw_go hT hP mixed ?_
      | refine round_go hT hP ?_
    all_goals (try dsimp only [castL_eq] at *)
    all_goals first
      | exact of_decide_eq_true rfl
      | skip
    all_goals clear hT hP
    all_goals (refine .mk [] [] _ rfl rfl rfl rfl rfl rfl (imm_int ?_))
    all_goals (show _ = chipE (cn, 6, cb, cs, cd))
    all_goals (simp_all [chipE, chipBad, sizeK, sel])
    all_goals (intros; (repeat' split) <;> omega)
  · repeat' first
      | (refine Go.mk ?_; conv => whnf)
      | refine Need.go ?_ ?_
      | refine NilG.go (fun _ => ?_) (fun _ => ?_)
      | refine Br.dec (fun _ => ?_) (fun _ => ?_)
      | refine Br.go (fun _ => ?_) (fun _ => ?_)
      | refine draw_go hT hP mixed ?_
      | refine round_go hT hP ?_
    all_goals (try dsimp only [castL_eq] at *)
    all_goals first
      | exact of_decide_eq_true rfl
      | skip
    all_goals clear hT hP
    all_goals (refine .mk [] [] _ rfl rfl rfl rfl rfl rfl (imm_int ?_))
    all_goals (show _ = chipE (cn, 7, cb, cs, cd))
    all_goals (simp_all [chipE, chipBad, sizeK, sel])
    all_goals (intros; (repeat' split) <;> omega)
  · repeat' first
      | (refine Go.mk ?_; conv => whnf)
      | refine Need.go ?_ ?_
      | refine NilG.go (fun _ => ?_) (fun _ => ?_)
      | refine Br.dec (fun _ => ?_) (fun _ => ?_)
      | refine Br.go (fun _ => ?_) (fun _ => ?_)
      | refine draw_go hT hP mixed ?_
      | refine round_go hT hP ?_
    all_goals (try dsimp only [castL_eq] at *)
    all_goals first
      | exact of_decide_eq_true rfl
      | skip
    all_goals clear hT hP
    all_goals (refine .mk [] [] _ rfl rfl rfl rfl rfl rfl (imm_int ?_))
    all_goals (show _ = chipE (cn, 8, cb, cs, cd))
    all_goals (simp_all [chipE, chipBad, sizeK, sel])
    all_goals (intros; (repeat' split) <;> omega)
set_option maxHeartbeats 8000000 in
theorem rChipErr_ok : GoodF Try.prog 46 chipES.spec := by
  have hT := tab_ok (fs := [(88, nameS.spec)]) tree_ok
  have hP : SpecsOk Try.prog (tab tree [(88, nameS.spec)]) := specs_cons rNamed_ok specs_nil
  refine chipES.good (fn := Try.f46) hT hP Try.func46 (by kernel_rfl) rfl fun (c : Cv) hp => ?_
  obtain ⟨hb, hs, hl⟩ : cP c := hp _ rfl
  obtain ⟨cn, ck, cb, cs, cd⟩ := c
  obtain ⟨hs1, hs2⟩ : -9223372036854775808 ≤ cs ∧ cs ≤ 9223372036854775807 := hs
  clear hp hb hl
  have hcn : cpuStr = ⟨#[99, 112, 117]⟩ := rfl
  have htm : Int.tmod (cd.length : Int) 256 = ((cd.length % 256 : Nat) : Int) := by rw [Int.tmod_eq_emod_of_nonneg (by omega)]; omega
  rcases kinds ck with rfl | rfl | rfl | rfl | rfl | rfl | rfl | rfl | rfl | hx
  rotate_right
  · have h8 : ¬ (¬ ck < 0 ∧ ¬ ck > 8) := by omega
    repeat' first
      | (exfalso; exact h8 ⟨by assumption, by assumption⟩)
      | (refine Go.mk ?_; conv => whnf)
      | refine Need.go ?_ ?_
      | refine NilG.go (fun _ => ?_) (fun _ => ?_)
      | refine Br.dec (fun _ => ?_) (fun _ => ?_)
      | refine Br.go (fun _ => ?_) (fun _ => ?_)
      | refine draw_go hT hP mixed ?_
      | refine round_go hT hP ?_
    all_goals (try dsimp only [castL_eq] at *)
    all_goals clear hT hP
    all_goals (refine .mk [] [] _ rfl rfl rfl rfl rfl rfl (imm_int ?_))
    all_goals (show _ = chipE (cn, ck, cb, cs, cd))
    all_goals (unfold chipE)
    all_goals (dsimp only)
    all_goals (simp_all)
    all_goals (intros; omega)
  · repeat' first
      | (refine Go.mk ?_; conv => whnf)
      | refine Need.go ?_ ?_
      | refine NilG.go (fun _ => ?_) (fun _ => ?_)
      | refine Br.dec (fun _ => ?_) (fun _ => ?_)
      | refine Br.go (fun _ => ?_) (fun _ => ?_)
      | refine draw_go hT hP mixed ?_
      | refine round_go hT hP ?_
    all_goals (try dsimp only [castL_eq] at *)
    all_goals first
      | exact of_decide_eq_true rfl
      | skip
    all_goals clear hT hP
    all_goals (refine .mk [] [] _ rfl rfl rfl rfl rfl rfl (imm_int ?_))
    all_goals (show _ = chipE (cn, 0, cb, cs, cd))
    all_goals (simp_all [chipE, chipBad, sizeK, sel, imax_eq])
    all_goals (intros; (repeat' split) <;> first | omega | (have hz := List.length_pos_iff.2 (by assumption : cd ≠ []); omega))
  · repeat' first
      | (refine Go.mk ?_; conv => whnf)
      | refine Need.go ?_ ?_
      | refine NilG.go (fun _ => ?_) (fun _ => ?_)
      | refine Br.dec (fun _ => ?_) (fun _ => ?_)
      | refine Br.go (fun _ => ?_) (fun _ => ?_)
      | refine draw_go hT hP mixed ?_
      | refine round_go hT hP ?_
    all_goals (try dsimp only [castL_eq] at *)
    all_goals first
      | exact of_decide_eq_true rfl
      | skip
    all_goals clear hT hP
    all_goals (refine .mk [] [] _ rfl rfl rfl rfl rfl rfl (imm_int ?_))
    all_goals (show _ = chipE (cn, 1, cb, cs, cd))
    all_goals (simp_all [chipE, chipBad, sizeK, sel, imax_eq])
    all_goals (intros; (repeat' split) <;> first | omega | (have hz := List.length_pos_iff.2 (by assumption : cd ≠ []); omega))
  · repeat' first
      | (refine Go.mk ?_; conv => whnf)
      | refine Need.go ?_ ?_
      | refine NilG.go (fun _ => ?_) (fun _ => ?_)
      | refine Br.dec (fun _ => ?_) (fun _ => ?_)
      | refine Br.go (fun _ => ?_) (fun _ => ?_)
      | refine draw_go hT hP mixed ?_
      | refine round_go hT hP ?_
    all_goals (try dsimp only [castL_eq] at *)
    all_goals first
      | exact of_decide_eq_true rfl
      | skip
    all_goals clear hT hP
    all_goals (refine .mk [] [] _ rfl rfl rfl rfl rfl rfl (imm_int ?_))
    all_goals (show _ = chipE (cn, 2, cb, cs, cd))
    all_goals (simp_all [chipE, chipBad, sizeK, sel, imax_eq])
    all_goals (intros; (repeat' split) <;> first | omega | (have hz := List.length_pos_iff.2 (by assumption : cd ≠ []); omega))
  · repeat' first
      | (refine Go.mk ?_; conv => whnf)
      | refine Need.go ?_ ?_
      | refine NilG.go (fun _ => ?_) (fun _ => ?_)
      | refine Br.dec (fun _ => ?_) (fun _ => ?_)
      | refine Br.go (fun _ => ?_) (fun _ => ?_)
      | refine draw_go hT hP mixed ?_
      | refine round_go hT hP ?_
    all_goals (try dsimp only [castL_eq] at *)
    all_goals first
      | exact of_decide_eq_true rfl
      | skip
    all_goals clear hT hP
    all_goals (refine .mk [] [] _ rfl rfl rfl rfl rfl rfl (imm_int ?_))
    all_goals (show _ = chipE (cn, 3, cb, cs, cd))
    all_goals (simp_all [chipE, chipBad, sizeK, sel, imax_eq])
    all_goals (intros; (repeat' split) <;> first | omega | (have hz := List.length_pos_iff.2 (by assumption : cd ≠ []); omega))
  · repeat' first
      | (refine Go.mk ?_; conv => whnf)
      | refine Need.go ?_ ?_
      | refine NilG.go (fun _ => ?_) (fun _ => ?_)
      | refine Br.dec (fun _ => ?_) (fun _ => ?_)
      | refine Br.go (fun _ => ?_) (fun _ => ?_)
      | refine draw_go hT hP mixed ?_
      | refine round_go hT hP ?_
    all_goals (try dsimp only [castL_eq] at *)
    all_goals first
      | exact of_decide_eq_true rfl
      | skip
    all_goals clear hT hP
    all_goals (refine .mk [] [] _ rfl rfl rfl rfl rfl rfl (imm_int ?_))
    all_goals (show _ = chipE (cn, 4, cb, cs, cd))
    all_goals (simp_all [chipE, chipBad, sizeK, sel, imax_eq])
    all_goals (intros; (repeat' split) <;> first | omega | (have hz := List.length_pos_iff.2 (by assumption : cd ≠ []); omega))
  · repeat' first
      | (refine Go.mk ?_; conv => whnf)
      | refine Need.go ?_ ?_
      | refine NilG.go (fun _ => ?_) (fun _ => ?_)
      | refine Br.dec (fun _ => ?_) (fun _ => ?_)
      | refine Br.go (fun _ => ?_) (fun _ => ?_)
      | refine draw_go hT hP mixed ?_
      | refine round_go hT hP ?_
    all_goals (try dsimp only [castL_eq] at *)
    all_goals first
      | exact of_decide_eq_true rfl
      | skip
    all_goals clear hT hP
    all_goals (refine .mk [] [] _ rfl rfl rfl rfl rfl rfl (imm_int ?_))
    all_goals (show _ = chipE (cn, 5, cb, cs, cd))
    all_goals (simp_all [chipE, chipBad, sizeK, sel, imax_eq])
    all_goals (intros; (repeat' split) <;> first | omega | (have hz := List.length_pos_iff.2 (by assumption : cd ≠ []); omega))
  · repeat' first
      | (refine Go.mk ?_; conv => whnf)
      | refine Need.go ?_ ?_
      | refine NilG.go (fun _ => ?_) (fun _ => ?_)
      | refine Br.dec (fun _ => ?_) (fun _ => ?_)
      | refine Br.go (fun _ => ?_) (fun _ => ?_)
      | refine draw_go hT hP mixed ?_
      | refine round_go hT hP ?_
    all_goals (try dsimp only [castL_eq] at *)
    all_goals first
      | exact of_decide_eq_true rfl
      | skip
    all_goals clear hT hP
    all_goals (refine .mk [] [] _ rfl rfl rfl rfl rfl rfl (imm_int ?_))
    all_goals (show _ = chipE (cn, 6, cb, cs, cd))
    all_goals (simp_all [chipE, chipBad, sizeK, sel, imax_eq])
    all_goals (intros; (repeat' split) <;> first | omega | (have hz := List.length_pos_iff.2 (by assumption : cd ≠ []); omega))
  · repeat' first
      | (refine Go.mk ?_; conv => whnf)
      | refine Need.go ?_ ?_
      | refine NilG.go (fun _ => ?_) (fun _ => ?_)
      | refine Br.dec (fun _ => ?_) (fun _ => ?_)
      | refine Br.go (fun _ => ?_) (fun _ => ?_)
      | refine draw_go hT hP mixed ?_
      | refine round_go hT hP ?_
    all_goals (try dsimp only [castL_eq] at *)
    all_goals first
      | exact of_decide_eq_true rfl
      | skip
    all_goals clear hT hP
    all_goals (refine .mk [] [] _ rfl rfl rfl rfl rfl rfl (imm_int ?_))
    all_goals (show _ = chipE (cn, 7, cb, cs, cd))
    all_goals (simp_all [chipE, chipBad, sizeK, sel, imax_eq])
    all_goals (intros; (repeat' split) <;> first | omega | (have hz := List.length_pos_iff.2 (by assumption : cd ≠ []); omega))
  · repeat' first
      | (refine Go.mk ?_; conv => whnf)
      | refine Need.go ?_ ?_
      | refine NilG.go (fun _ => ?_) (fun _ => ?_)
      | refine Br.dec (fun _ => ?_) (fun _ => ?_)
      | refine Br.go (fun _ => ?_) (fun _ => ?_)
      | refine draw_go hT hP mixed ?_
      | refine round_go hT hP ?_
    all_goals (try dsimp only [castL_eq] at *)
    all_goals first
      | exact of_decide_eq_true rfl
      | skip
    all_goals clear hT hP
    all_goals (refine .mk [] [] _ rfl rfl rfl rfl rfl rfl (imm_int ?_))
    all_goals (show _ = chipE (cn, 8, cb, cs, cd))
    all_goals (simp_all [chipE, chipBad, sizeK, sel, imax_eq])
    all_goals (intros; (repeat' split) <;> first | omega | (have hz := List.length_pos_iff.2 (by assumption : cd ≠ []); omega))

end Go.Proofs.Ytblnigjmcjpopaa

/- New states of chips; a byte of RAM is read back. -/
namespace Go.Proofs.Ytblnigjmcjpopaa
open Go.Fw
set_option linter.unusedVariables false
set_option linter.unusedSimpArgs false
set_option linter.constructorNameAsVariable false
set_option maxRecDepth 100000

def freshF (c : Cv) : Dv := sel c.2.1 (memN c [], memM c c.2.2.2.2) ([0, 0, 0, 0], []) ([255, 0, 0], []) ([0, 0, 0, 0, 0, 0, 0, 0], []) ([2559, 0], List.replicate 32 0) (List.replicate 12 0, []) ([0, 0, 0, 0, 0, 0, 0, 0, 0, 0], dM c.2.2.2.2) ([], [])
theorem dN_zero (q : Nat) : dN [] q = [0, 0, 0, 0, 0, 0, 0, 0, 0, 0] := by
  unfold dN
  have h : ¬ ((([] : List Int).getD 0 0) % 256 > (q : Int)) := by show ¬ (0 : Int) > q; omega
  rw [if_neg h]; rfl
theorem ffM {c : Cv} (h : c.2.1 = 0 ∨ c.2.1 = 1 ∨ c.2.1 = 2 ∨ c.2.1 = 8) : formF c ([], c.2.2.2.2) = freshF c := by
  obtain ⟨cn, ck, cb, cs, cd⟩ := c
  have h : ck = 0 ∨ ck = 1 ∨ ck = 2 ∨ ck = 8 := h
  rcases h with rfl | rfl | rfl | rfl
  · rfl
  · rfl
  · rfl
  · show (dN [] (qF cd), dM cd) = _
    rw [dN_zero]; rfl
theorem vN_nil : vN [] = [2559, 0] := rfl
theorem vM_nil : vM [] = List.replicate 32 0 := rfl
theorem sndN_nil : sndN [] = List.replicate 12 0 := rfl
theorem ffX {c : Cv} (h : ¬ (c.2.1 = 0 ∨ c.2.1 = 1 ∨ c.2.1 = 2 ∨ c.2.1 = 8 ∨ c.2.1 = 4)) : formF c ([], []) = freshF c := by
  obtain ⟨cn, ck, cb, cs, cd⟩ := c
  have h : ¬ (ck = 0 ∨ ck = 1 ∨ ck = 2 ∨ ck = 8 ∨ ck = 4) := h
  rcases kinds ck with rfl | rfl | rfl | rfl | rfl | rfl | rfl | rfl | rfl | hx
  · exact absurd (by decide) h
  · exact absurd (by decide) h
  · exact absurd (by decide) h
  · rfl
  · exact absurd (by decide) h
  · rfl
  · show (vN [], vM []) = ([2559, 0], List.replicate 32 0)
    rw [vN_nil, vM_nil]
  · show (sndN [], []) = (List.replicate 12 0, [])
    rw [sndN_nil]
  · exact absurd (by decide) h
  · unfold formF freshF; rw [sel_x hx, sel_x hx]
theorem blk_dv {x y : Dv} (h : x = y) : [some (Blk.arr (.int .i64) x.1), some (Blk.arr (.int .u8) x.2)] = [some (Blk.arr (.int .i64) y.1), some (Blk.arr (.int .u8) y.2)] := by rw [h]
def kFreshS : PSpec := ⟨[gC], fun (c, _) => (some (cP c), devM, [.arr (.int .i64) (freshF c).1, .arr (.int .u8) (freshF c).2])⟩
theorem kFresh_ok : GoodF Try.prog 50 kFreshS.spec := by
  have hT := tab_ok (fs := [(54, kFormedS.spec)]) tree_ok
  have hP : SpecsOk Try.prog (tab tree [(54, kFormedS.spec)]) := specs_cons kFormed_ok specs_nil
  refine kFreshS.good (fn := Try.f50) hT hP Try.func50 (by kernel_rfl) rfl fun (c : Cv) hp => ?_
  have hc : cP c := hp _ rfl
  clear hp
  obtain ⟨cn, ck, cb, cs, cd⟩ := c
  have hl : cd.length ≤ 140737488355328 := Nat.le_trans hc.2.2 (by decide)
  repeat' first
    | (refine Go.mk ?_; conv => whnf)
    | refine Need.go ?_ ?_
    | refine NilG.go (fun _ => ?_) (fun _ => ?_)
    | refine Br.dec (fun _ => ?_) (fun _ => ?_)
    | refine Br.go (fun _ => ?_) (fun _ => ?_)
    | refine draw_go hT hP mixed ?_
    | refine round_go hT hP ?_
  all_goals (try dsimp only [castL_eq] at *)
  · rename_i h
    exact ⟨hc, hl⟩
  · rename_i h
    exact .mk [] [2, 3] _ rfl rfl rfl rfl rfl (blk_dv (x := formF (cn, ck, cb, cs, cd) ([], cd)) (ffM (c := (cn, ck, cb, cs, cd)) (.inl h))) rfl
  · rename_i h
    exact ⟨hc, hl⟩
  · rename_i h
    exact .mk [] [2, 3] _ rfl rfl rfl rfl rfl (blk_dv (x := formF (cn, ck, cb, cs, cd) ([], cd)) (ffM (c := (cn, ck, cb, cs, cd)) (.inr (.inl h)))) rfl
  · rename_i h
    exact ⟨hc, hl⟩
  · rename_i h
    exact .mk [] [2, 3] _ rfl rfl rfl rfl rfl (blk_dv (x := formF (cn, ck, cb, cs, cd) ([], cd)) (ffM (c := (cn, ck, cb, cs, cd)) (.inr (.inr (.inl h))))) rfl
  · rename_i h
    exact ⟨hc, hl⟩
  · rename_i h
    exact .mk [] [2, 3] _ rfl rfl rfl rfl rfl (blk_dv (x := formF (cn, ck, cb, cs, cd) ([], cd)) (ffM (c := (cn, ck, cb, cs, cd)) (.inr (.inr (.inr h))))) rfl
  · rename_i h
    have h : ck = 4 := h
    subst h
    exact .le (Le.nilH 1 (.int .u8) _ _ rfl rfl rfl) (.mk [] [2, 3] _ rfl rfl rfl rfl rfl rfl rfl)
  · exact ⟨hc, Nat.zero_le _⟩
  · rename_i h0 h1 h2 h8 h4
    exact .mk [] [2, 3] _ rfl rfl rfl rfl rfl (blk_dv (x := formF (cn, ck, cb, cs, cd) ([], [])) (ffX (c := (cn, ck, cb, cs, cd)) (fun h => by rcases h with h | h | h | h | h; exact h0 h; exact h1 h; exact h2 h; exact h8 h; exact h4 h))) rfl

def cNewS : PSpec := ⟨[gC], fun (c, _) => (some (cP c), devM, [.arr (.int .i64) (freshF c).1, .arr (.int .u8) (freshF c).2])⟩
theorem memN_zero (c : Cv) (h : c.2.1 = 2) : memN c [] = [0] := by unfold memN; rw [if_pos h]; show [0 % bankI c] = [0]; rw [Int.zero_emod]
theorem cNew_ok : GoodF Try.prog 49 cNewS.spec := by
  have hT := tab_ok (fs := [(103, cBytesS.spec), (104, tnewOS.spec), (105, pnewOS.spec), (106, snewOS.spec), (107, vnewS.spec), (108, onewOS.spec), (109, dnewS.spec)]) tree_ok
  have hP : SpecsOk Try.prog (tab tree [(103, cBytesS.spec), (104, tnewOS.spec), (105, pnewOS.spec), (106, snewOS.spec), (107, vnewS.spec), (108, onewOS.spec), (109, dnewS.spec)]) := specs_cons cBytes_ok (specs_cons tnewO_ok (specs_cons pnewO_ok (specs_cons snewO_ok (specs_cons vnew_ok (specs_cons onewO_ok (specs_cons dnew_ok specs_nil))))))
  refine cNewS.good (fn := Try.f49) hT hP Try.func49 (by kernel_rfl) rfl fun (c : Cv) hp => ?_
  have hc : cP c := hp _ rfl
  clear hp
  obtain ⟨h6, h7⟩ := bytesI_in hc.2.2
  obtain ⟨cn, ck, cb, cs, cd⟩ := c
  have hl : cd.length ≤ 140737488355328 := Nat.le_trans hc.2.2 (by decide)
  rcases kinds ck with rfl | rfl | rfl | rfl | rfl | rfl | rfl | rfl | rfl | hx
  all_goals
    repeat' first
      | (refine Go.mk ?_; conv => whnf)
      | refine Need.go ?_ ?_
      | refine NilG.go (fun _ => ?_) (fun _ => ?_)
      | refine Br.dec (fun _ => ?_) (fun _ => ?_)
      | refine Br.go (fun _ => ?_) (fun _ => ?_)
      | refine draw_go hT hP mixed ?_
      | refine round_go hT hP ?_
    all_goals (try dsimp only [castL_eq] at *)
  all_goals first
    | exact hc.2.2
    | exact hl
    | (exfalso; omega)
    | exact ⟨rfl, h6, by omega, by omega⟩
    | skip
  · exact .le (Le.nilH 1 (.int .i64) _ _ rfl rfl rfl) (.mk [] [4, 2] _ rfl rfl rfl rfl rfl (blk_dv (x := ([], memM (cn, 0, cb, cs, cd) cd)) (y := freshF (cn, 0, cb, cs, cd)) rfl) rfl)
  · exact .le (Le.nilH 1 (.int .i64) _ _ rfl rfl rfl) (.mk [] [4, 2] _ rfl rfl rfl rfl rfl (blk_dv (x := ([], memM (cn, 1, cb, cs, cd) cd)) (y := freshF (cn, 1, cb, cs, cd)) rfl) rfl)
  · refine .mk [] [4, 2] _ rfl rfl rfl rfl rfl (blk_dv (x := ([0], memM (cn, 2, cb, cs, cd) cd)) (y := freshF (cn, 2, cb, cs, cd)) ?_) rfl
    show _ = (memN (cn, 2, cb, cs, cd) [], memM (cn, 2, cb, cs, cd) cd)
    rw [memN_zero _ rfl]
  · exact .mk [] [2, 3] _ rfl rfl rfl rfl rfl rfl rfl
  · exact .mk [] [2, 3] _ rfl rfl rfl rfl rfl rfl rfl
  · exact .mk [] [2, 3] _ rfl rfl rfl rfl rfl rfl rfl
  · exact .mk [] [2, 3] _ rfl rfl rfl rfl rfl rfl rfl
  · exact .mk [] [2, 3] _ rfl rfl rfl rfl rfl rfl rfl
  · exact .mk [] [2, 3] _ rfl rfl rfl rfl rfl rfl rfl
  · refine .le (Le.nilH 1 (.int .i64) _ _ rfl rfl rfl) (.le (Le.nilH 1 (.int .u8) _ _ rfl rfl rfl) (.mk [] [2, 3] _ rfl rfl rfl rfl rfl (blk_dv (x := ([], [])) (y := freshF (cn, ck, cb, cs, cd)) ?_) rfl))
    unfold freshF; rw [sel_x hx]

def ramC : Cv := (⟨#[97]⟩, 0, 0, 4, [])
def chipsS : PSpec := ⟨[], fun _ => (none, .cell (bv true), [])⟩
theorem ramC_ok : cP ramC := ⟨⟨by decide, by decide⟩, ⟨by decide, by decide⟩, by decide⟩
theorem ram_dP1 : dP (freshF ramC) := ⟨by decide +kernel, by unfold u8s; decide +kernel⟩
theorem ram_dP2 : dP (storeF ramC (freshF ramC) 2 9) := ⟨by decide +kernel, by unfold u8s; decide +kernel⟩
theorem chips_ok : GoodF Try.prog 44 chipsS.spec := by
  have hT := tab_ok (fs := [(49, cNewS.spec), (97, cWriteS.spec), (96, cReadS.spec), (45, chipES.spec)]) tree_ok
  have hP : SpecsOk Try.prog (tab tree [(49, cNewS.spec), (97, cWriteS.spec), (96, cReadS.spec), (45, chipES.spec)]) := specs_cons cNew_ok (specs_cons cWrite_ok (specs_cons cRead_ok (specs_cons cCheck_ok specs_nil)))
  refine chipsS.good (fn := Try.f44) hT hP Try.func44 (by kernel_rfl) rfl fun _ => ?_
  repeat' first
    | (refine Go.mk ?_; conv => whnf)
    | refine Need.go ?_ ?_
    | refine NilG.go (fun _ => ?_) (fun _ => ?_)
    | refine Br.dec (fun _ => ?_) (fun _ => ?_)
    | refine Br.go (fun _ => ?_) (fun _ => ?_)
    | refine draw_go hT hP mixed ?_
    | refine round_go hT hP ?_
  all_goals (try dsimp only [castL_eq] at *)
  · exact ramC_ok
  · exact ⟨ramC_ok, ram_dP1⟩
  · exact ⟨ramC_ok, ram_dP2⟩
  · exact ramC_ok
  · refine .mk [] [] _ rfl rfl rfl rfl rfl rfl (imm_bool ?_)
    show (bif (loadI ramC (storeF ramC (freshF ramC) 2 9) 2 == 9) then (chipE ramC == 0) else false) = true
    decide +kernel

theorem freshF_len (c : Cv) : (freshF c).1.length ≤ 12 := by
  obtain ⟨cn, ck, cb, cs, cd⟩ := c
  rcases kinds ck with rfl | rfl | rfl | rfl | rfl | rfl | rfl | rfl | rfl | hx
  · exact Nat.zero_le _
  · exact Nat.zero_le _
  · show (memN (cn, 2, cb, cs, cd) []).length ≤ 12
    unfold memN; split <;> (show _ ≤ 12; simp)
  · exact (by decide : ([0, 0, 0, 0] : List Int).length ≤ 12)
  · exact (by decide : ([255, 0, 0] : List Int).length ≤ 12)
  · exact (by decide : ([0, 0, 0, 0, 0, 0, 0, 0] : List Int).length ≤ 12)
  · exact (by decide : ([2559, 0] : List Int).length ≤ 12)
  · exact (by decide : (List.replicate 12 (0 : Int)).length ≤ 12)
  · exact (by decide : ([0, 0, 0, 0, 0, 0, 0, 0, 0, 0] : List Int).length ≤ 12)
  · unfold freshF; rw [sel_x hx]; decide
theorem memM_le {c : Cv} (h : cP c) (M : List Int) : (memM c M).length ≤ 140737488355328 := by
  obtain ⟨h1, h2⟩ := bytesI_in h.2.2
  rw [memM_len]; omega
theorem freshF_lenM {c : Cv} (h : cP c) : (freshF c).2.length ≤ 140737488355328 := by
  obtain ⟨cn, ck, cb, cs, cd⟩ := c
  rcases kinds ck with rfl | rfl | rfl | rfl | rfl | rfl | rfl | rfl | rfl | hx
  · exact memM_le h _
  · exact memM_le h _
  · exact memM_le h _
  · exact Nat.zero_le _
  · exact Nat.zero_le _
  · exact Nat.zero_le _
  · exact (by decide : (List.replicate 32 (0 : Int)).length ≤ 140737488355328)
  · exact Nat.zero_le _
  · show (dM cd).length ≤ _
    have := qF_le cd
    have h2 : cd.length ≤ 140737488351232 := h.2.2
    rw [dM_len]; omega
  · unfold freshF; rw [sel_x hx]; exact Nat.zero_le _
def ccS : PSpec := ⟨[gC], fun (c, _) => (some (cP c), .cell (bv true), [])⟩
theorem cc_ok : GoodF Try.prog 9 ccS.spec := by
  have hT := tab_ok (fs := [(43, bankedS.spec), (44, chipsS.spec), (45, chipES.spec), (46, chipES.spec), (47, cBanksS.spec), (49, cNewS.spec), (50, kFreshS.spec), (48, sameS.spec)]) tree_ok
  have hP : SpecsOk Try.prog (tab tree [(43, bankedS.spec), (44, chipsS.spec), (45, chipES.spec), (46, chipES.spec), (47, cBanksS.spec), (49, cNewS.spec), (50, kFreshS.spec), (48, sameS.spec)]) := specs_cons banked_ok (specs_cons chips_ok (specs_cons cCheck_ok (specs_cons rChipErr_ok (specs_cons cBanks_ok (specs_cons cNew_ok (specs_cons kFresh_ok (specs_cons same_ok specs_nil)))))))
  refine ccS.good (fn := Try.f9) hT hP Try.func9 (by kernel_rfl) rfl fun (c : Cv) hp => ?_
  have hc : cP c := hp _ rfl
  clear hp
  have h1 := freshF_len c
  have h2 := freshF_lenM hc
  obtain ⟨cn, ck, cb, cs, cd⟩ := c
  repeat' first
    | (refine Go.mk ?_; conv => whnf)
    | refine Need.go ?_ ?_
    | refine NilG.go (fun _ => ?_) (fun _ => ?_)
    | refine Br.dec (fun _ => ?_) (fun _ => ?_)
    | refine Br.go (fun _ => ?_) (fun _ => ?_)
    | refine draw_go hT hP mixed ?_
    | refine round_go hT hP ?_
  all_goals (try dsimp only [castL_eq] at *)
  all_goals first
    | exact hc
    | exact hc.2.2
    | exact ⟨Nat.le_trans h1 (by decide), Nat.le_trans h2 (by decide)⟩
    | (exfalso; rename_i h; exact h rfl)
    | (refine .mk [] [] _ rfl rfl rfl rfl rfl rfl (imm_bool ?_)
       simp)
    | skip

end Go.Proofs.Ytblnigjmcjpopaa

/- Boards: which chip has an address. -/
namespace Go.Proofs.Ytblnigjmcjpopaa
open Go.Fw
set_option linter.unusedVariables false
set_option linter.unusedSimpArgs false
set_option linter.constructorNameAsVariable false
set_option maxRecDepth 100000

abbrev ChipT : Ty := .pair .str (.pair (.int .i64) (.pair (.int .i64) (.pair (.int .i64) (.sl (.int .u8)))))
abbrev WireT : Ty := .pair .str .str
abbrev Wr := ByteArray × ByteArray
abbrev BoardT : Ty := .pair .str (.pair CpuT (.pair (.sl ChipT) (.sl WireT)))
abbrev gBd : Sig := ⟨true, BoardT⟩
abbrev Bd := ByteArray × Cpu × List Cv × List Wr

/-- the number of the first one that is so; -1: none -/
def fstG {α : Type} (p : α → Bool) : List α → Nat → Int
  | [], _ => -1
  | x :: r, k => if p x = true then (k : Int) else fstG p r (k + 1)
def fstI {α : Type} (p : α → Bool) (l : List α) : Int := fstG p l 0
theorem dropD {α : Type} {l : List α} {k : Nat} (d : α) (h : k < l.length) : l.drop k = l.getD k d :: l.drop (k + 1) := by
  rw [List.drop_eq_getElem_cons h, List.getD_eq_getElem?_getD, List.getElem?_eq_getElem h]; rfl
theorem fstG_in {α : Type} {p : α → Bool} : ∀ {l : List α} {k : Nat}, fstG p l k = -1 ∨ ((k : Int) ≤ fstG p l k ∧ fstG p l k < k + l.length)
  | [], k => .inl rfl
  | x :: r, k => by
    unfold fstG
    by_cases h : p x = true
    · rw [if_pos h]; right; simp only [List.length_cons]; omega
    · rw [if_neg h]
      rcases fstG_in (p := p) (l := r) (k := k + 1) with h1 | h1
      · exact .inl h1
      · right; simp only [List.length_cons]; omega
theorem fstI_in {α : Type} (p : α → Bool) (l : List α) : fstI p l = -1 ∨ (0 ≤ fstI p l ∧ fstI p l < l.length) := by
  have := fstG_in (p := p) (l := l) (k := 0)
  unfold fstI
  simpa using this
theorem fst_hit {α : Type} {p : α → Bool} {l : List α} {k : Nat} (d : α) (h : k < l.length) (hp : p (l.getD k d) = true) {r : Int} (hi : fstG p (l.drop k) k = r) : (k : Int) = r := by
  rw [dropD d h, fstG, if_pos hp] at hi; exact hi
theorem fst_miss {α : Type} {p : α → Bool} {l : List α} {k : Nat} (d : α) (h : k < l.length) (hp : ¬ p (l.getD k d) = true) {r : Int} (hi : fstG p (l.drop k) k = r) : fstG p (l.drop (k + 1)) (k + 1) = r := by
  rw [dropD d h, fstG, if_neg hp] at hi; exact hi
theorem fst_none {α : Type} {p : α → Bool} {l : List α} {k : Nat} (h : ¬ k < l.length) {r : Int} (hi : fstG p (l.drop k) k = r) : -1 = r := by
  rw [List.drop_of_length_le (by omega)] at hi; exact hi
theorem fst_get {α : Type} {p : α → Bool} (d : α) : ∀ {l : List α} {k : Nat}, 0 ≤ fstG p l k → p (l.getD (fstG p l k - k).toNat d) = true
  | [], k, h => by simp [fstG] at h
  | x :: r, k, h => by
    unfold fstG at h ⊢
    by_cases hx : p x = true
    · rw [if_pos hx]
      have : ((k : Int) - k).toNat = 0 := by omega
      rw [this]; exact hx
    · rw [if_neg hx] at h ⊢
      have h2 := fst_get (p := p) d (l := r) (k := k + 1) h
      have h3 := fstG_in (p := p) (l := r) (k := k + 1)
      have : (fstG p r (k + 1) - k).toNat = (fstG p r (k + 1) - ((k + 1 : Nat) : Int)).toNat + 1 := by omega
      rw [this]; exact h2
theorem fstI_get {α : Type} {p : α → Bool} (d : α) {l : List α} (h : 0 ≤ fstI p l) : p (l.getD (fstI p l).toNat d) = true := by
  have := fst_get (p := p) d (l := l) (k := 0) h
  have e : (fstG p l 0 - ((0 : Nat) : Int)).toNat = (fstI p l).toNat := by unfold fstI; omega
  rw [e] at this
  exact this

def ownB (a : Int) (c : Cv) : Bool := decide (c.2.2.1 ≤ a) && (decide (0 < c.2.2.2.1) && decide (a - c.2.2.1 < c.2.2.2.1))
def findF (b : Bd) (a : Int) : Int := fstI (ownB a) b.2.2.1
def atF (b : Bd) (a : Int) : Int := if 0 ≤ findF b a then a - (b.2.2.1.getD (findF b a).toNat (dflt ChipT)).2.2.1 else 0
def cI (c : Cv) : Prop := i64 c.2.2.1 ∧ i64 c.2.2.2.1
def bP (b : Bd) (a : Int) : Prop := b.2.2.1.length ≤ 4611686018427387904 ∧ i64 a ∧ ∀ c ∈ b.2.2.1, cI c
theorem memD' {α : Type} {l : List α} {k : Nat} (d : α) (h : k < l.length) : l.getD k d ∈ l := by
  rw [List.getD_eq_getElem?_getD, List.getElem?_eq_getElem h]; exact List.getElem_mem h
theorem u64w (x : Int) : IntKind.u64.wrap x = x % 18446744073709551616 := rfl
theorem hit_u {a b s : Int} (ha : i64 a) (hb : i64 b) (hs : i64 s) (h1 : a ≥ b) (h2 : s > 0) : (IntKind.u64.wrap (IntKind.u64.wrap a - IntKind.u64.wrap b) < IntKind.u64.wrap s) ↔ a - b < s := by
  unfold i64 at ha hb hs
  rw [u64w, u64w, u64w, u64w]
  omega
theorem tup3 {x x' y y' : Int} {b b' : Bool} (h1 : x = x') (h2 : y = y') (h3 : b = b') : AV.tup [I1 x, I1 y, .c (bv b)] = AV.tup [I1 x', I1 y', .c (bv b')] := by rw [h1, h2, h3]
def bfindS : PSpec := ⟨[gBd, gi], fun (b, a, _) => (some (bP b a), .tup [I1 (if 0 ≤ findF b a then findF b a else 0), I1 (atF b a), .c (bv (decide (0 ≤ findF b a)))], [])⟩
theorem bFind_ok : GoodF Try.prog 35 bfindS.spec := by
  have hT := tab_ok (fs := []) tree_ok
  have hP : SpecsOk Try.prog (tab tree []) := specs_nil
  refine bfindS.good (fn := Try.f35) hT hP Try.func35 (by kernel_rfl) rfl fun (b : Bd) (a : Int) hq => ?_
  obtain ⟨hl, ha, hc⟩ : bP b a := hq _ rfl
  obtain ⟨bn, bu, bc, bw⟩ := b
  have hl : bc.length ≤ 4611686018427387904 := hl
  have hc : ∀ c ∈ bc, cI c := hc
  clear hq
  repeat' first
    | (refine Go.mk ?_; conv => whnf)
    | refine Need.go ?_ ?_
    | refine NilG.go (fun _ => ?_) (fun _ => ?_)
    | refine Br.dec (fun _ => ?_) (fun _ => ?_)
    | refine Br.go (fun _ => ?_) (fun _ => ?_)
    | refine draw_go hT hP mixed ?_
    | refine round_go hT hP ?_
  refine up_go hT hP (A := Unit) bc.length (fun i _ => St.mk [.dead, I a, .dead, .dead, .dead, .dead, .dead, .dead, .dead, .dead, .cell (.ro ChipT bc), I bc.length, I i, .dead, .dead, .dead, .dead, .dead, .dead, .dead, .dead, .dead, .dead, .dead, .dead, .dead, .dead, .dead, .dead, .dead, .dead, .dead, .dead, .dead, .dead, .dead, .dead, .dead, .dead, .dead, .dead, .dead, .dead, .dead] [])
    (fun k _ => fstG (ownB a) (bc.drop k) k = fstI (ownB a) bc) () (Le.mk [] [] rfl rfl rfl ?_) rfl fun k _ hk hi => ?_
  · repeat' first | exact trivial | exact ⟨rfl, rfl⟩ | refine And.intro ?_ ?_
  repeat' first
    | (refine Go.mk ?_; conv => whnf)
    | refine Need.go ?_ ?_
    | refine NilG.go (fun _ => ?_) (fun _ => ?_)
    | refine Br.dec (fun _ => ?_) (fun _ => ?_)
    | refine Br.go (fun _ => ?_) (fun _ => ?_)
    | refine draw_go hT hP mixed ?_
    | refine round_go hT hP ?_
  all_goals (try dsimp only [castL_eq] at *)
  all_goals clear hT hP
  · rename_i g1
    have g1 : (k : Int) < (bc.length : Int) := g1
    show 0 ≤ (k : Int) ∧ (k : Int) < (bc.length : Int)
    omega
  · rename_i g1 g2 g3 g4
    have g1 : (k : Int) < (bc.length : Int) := g1
    have hlt : k < bc.length := by omega
    have hm := hc _ (memD' (dflt ChipT) hlt)
    have g2 : a ≥ (bc.getD k (dflt ChipT)).2.2.1 := g2
    have g3 : (bc.getD k (dflt ChipT)).2.2.2.1 > 0 := g3
    have g4 := (hit_u ha hm.1 hm.2 g2 g3).1 g4
    have hp : ownB a (bc.getD k (dflt ChipT)) = true := by
      unfold ownB; rw [decide_eq_true g2, decide_eq_true g3, decide_eq_true g4]; rfl
    have e := fst_hit (dflt ChipT) hlt hp hi
    have e1 : findF (bn, bu, bc, bw) a = (k : Int) := e.symm
    refine .mk [] [] _ rfl rfl rfl rfl rfl rfl (tup3 ?_ ?_ ?_)
    · show (k : Int) = if 0 ≤ findF (bn, bu, bc, bw) a then findF (bn, bu, bc, bw) a else 0
      rw [e1, if_pos (by omega)]
    · show IntKind.i64.wrap (a - (bc.getD k (dflt ChipT)).2.2.1) = atF (bn, bu, bc, bw) a
      unfold atF
      rw [e1, if_pos (by omega)]
      show _ = a - (bc.getD k (dflt ChipT)).2.2.1
      have h1 := ha.2
      have h2 := hm.1.1
      have h3 := hm.2.2
      unfold i64 at *
      exact w64 (by omega) (by omega)
    · show true = decide (0 ≤ findF (bn, bu, bc, bw) a)
      rw [e1]; exact (decide_eq_true (by omega)).symm
  · rename_i g1 g2 g3 g4
    have g1 : (k : Int) < (bc.length : Int) := g1
    have hlt : k < bc.length := by omega
    have hm := hc _ (memD' (dflt ChipT) hlt)
    have g2 : a ≥ (bc.getD k (dflt ChipT)).2.2.1 := g2
    have g3 : (bc.getD k (dflt ChipT)).2.2.2.1 > 0 := g3
    have g4 := fun z => g4 ((hit_u ha hm.1 hm.2 g2 g3).2 z)
    have hp : ¬ ownB a (bc.getD k (dflt ChipT)) = true := by
      unfold ownB; rw [decide_eq_false g4]; simp
    apply Exists.intro
    apply Exists.intro ()
    refine And.intro (And.intro ?lt146 (And.intro ?ei146 ?inv146)) (Le.mk [] [] rfl rfl ?hh146 ?ht146)
    case hh146 => exact rfl
    case ht146 => repeat' first | exact trivial | exact ⟨rfl, rfl⟩ | refine And.intro ?_ ?_
    case lt146 => omega
    case ei146 => exact up_i (by omega)
    exact fst_miss (dflt ChipT) hlt hp hi
  · rename_i g1 g2 g3
    have g1 : (k : Int) < (bc.length : Int) := g1
    have hlt : k < bc.length := by omega
    have g3 : ¬ (bc.getD k (dflt ChipT)).2.2.2.1 > 0 := g3
    have hp : ¬ ownB a (bc.getD k (dflt ChipT)) = true := by
      unfold ownB; rw [decide_eq_false g3]; simp
    apply Exists.intro
    apply Exists.intro ()
    refine And.intro (And.intro ?lt160 (And.intro ?ei160 ?inv160)) (Le.mk [] [] rfl rfl ?hh160 ?ht160)
    case hh160 => exact rfl
    case ht160 => repeat' first | exact trivial | exact ⟨rfl, rfl⟩ | refine And.intro ?_ ?_
    case lt160 => omega
    case ei160 => exact up_i (by omega)
    exact fst_miss (dflt ChipT) hlt hp hi
  · rename_i g1 g2
    have g1 : (k : Int) < (bc.length : Int) := g1
    have hlt : k < bc.length := by omega
    have g2 : ¬ a ≥ (bc.getD k (dflt ChipT)).2.2.1 := g2
    have hp : ¬ ownB a (bc.getD k (dflt ChipT)) = true := by
      unfold ownB; rw [decide_eq_false g2]; simp
    apply Exists.intro
    apply Exists.intro ()
    refine And.intro (And.intro ?lt174 (And.intro ?ei174 ?inv174)) (Le.mk [] [] rfl rfl ?hh174 ?ht174)
    case hh174 => exact rfl
    case ht174 => repeat' first | exact trivial | exact ⟨rfl, rfl⟩ | refine And.intro ?_ ?_
    case lt174 => omega
    case ei174 => exact up_i (by omega)
    exact fst_miss (dflt ChipT) hlt hp hi
  · rename_i g1
    have g1 : ¬ (k : Int) < (bc.length : Int) := g1
    have e := fst_none (by omega) hi
    have e1 : findF (bn, bu, bc, bw) a = -1 := e.symm
    refine .mk [] [] _ rfl rfl rfl rfl rfl rfl (tup3 ?_ ?_ ?_)
    · show 0 = if 0 ≤ findF (bn, bu, bc, bw) a then findF (bn, bu, bc, bw) a else 0
      rw [e1]; rfl
    · show 0 = atF (bn, bu, bc, bw) a
      unfold atF
      rw [e1]; rfl
    · show false = decide (0 ≤ findF (bn, bu, bc, bw) a)
      rw [e1]; rfl

theorem hit_last {a b s : Int} (ha : i64 a) (hb : i64 b) (hs : i64 s) (h1 : a ≥ b) (h2 : s > 0) : (a ≤ IntKind.i64.wrap (IntKind.i64.wrap (b + s) - 1) ∨ IntKind.i64.wrap (IntKind.i64.wrap (b + s) - 1) < b) ↔ a - b < s := by
  unfold i64 at ha hb hs
  rw [IntKind.wrap_i64, IntKind.wrap_i64]
  omega
def rownerS : PSpec := ⟨[gBd, gi], fun (b, a, _) => (some (bP b a), I (findF b a), [])⟩
theorem rOwner_ok : GoodF Try.prog 34 rownerS.spec := by
  have hT := tab_ok (fs := []) tree_ok
  have hP : SpecsOk Try.prog (tab tree []) := specs_nil
  refine rownerS.good (fn := Try.f34) hT hP Try.func34 (by kernel_rfl) rfl fun (b : Bd) (a : Int) hq => ?_
  obtain ⟨hl, ha, hc⟩ : bP b a := hq _ rfl
  obtain ⟨bn, bu, bc, bw⟩ := b
  have hl : bc.length ≤ 4611686018427387904 := hl
  have hc : ∀ c ∈ bc, cI c := hc
  clear hq
  repeat' first
    | (refine Go.mk ?_; conv => whnf)
    | refine Need.go ?_ ?_
    | refine NilG.go (fun _ => ?_) (fun _ => ?_)
    | refine Br.dec (fun _ => ?_) (fun _ => ?_)
    | refine Br.go (fun _ => ?_) (fun _ => ?_)
    | refine draw_go hT hP mixed ?_
    | refine round_go hT hP ?_
  refine up_go hT hP (A := Unit) bc.length (fun i _ => St.mk [.dead, I a, .dead, .dead, .dead, .dead, .dead, .dead, .dead, .cell (.ro ChipT bc), I bc.length, I i, .dead, .dead, .dead, .dead, .dead, .dead, .dead, .dead, .dead, .dead, .dead, .dead, .dead, .dead, .dead, .dead, .dead, .dead, .dead, .dead, .dead, .dead, .dead, .dead, .dead, .dead, .dead, .dead, .dead, .dead, .dead, .dead] [])
    (fun k _ => fstG (ownB a) (bc.drop k) k = fstI (ownB a) bc) () (Le.mk [] [] rfl rfl rfl ?_) rfl fun k _ hk hi => ?_
  · repeat' first | exact trivial | exact ⟨rfl, rfl⟩ | refine And.intro ?_ ?_
  repeat' first
    | (refine Go.mk ?_; conv => whnf)
    | refine Need.go ?_ ?_
    | refine NilG.go (fun _ => ?_) (fun _ => ?_)
    | refine Br.dec (fun _ => ?_) (fun _ => ?_)
    | refine Br.go (fun _ => ?_) (fun _ => ?_)
    | refine draw_go hT hP mixed ?_
    | refine round_go hT hP ?_
  all_goals (try dsimp only [castL_eq] at *)
  all_goals clear hT hP
  · rename_i g1
    have g1 : (k : Int) < (bc.length : Int) := g1
    show 0 ≤ (k : Int) ∧ (k : Int) < (bc.length : Int)
    omega
  · rename_i g1 g2 g3 g4
    have g1 : (k : Int) < (bc.length : Int) := g1
    have hlt : k < bc.length := by omega
    have hm := hc _ (memD' (dflt ChipT) hlt)
    have g2 : (bc.getD k (dflt ChipT)).2.2.2.1 > 0 := g2
    have g3 : (bc.getD k (dflt ChipT)).2.2.1 ≤ a := g3
    have g4 := (hit_last ha hm.1 hm.2 g3 g2).1 (.inl g4)
    have hp : ownB a (bc.getD k (dflt ChipT)) = true := by
      unfold ownB; rw [decide_eq_true g3, decide_eq_true g2, decide_eq_true g4]; rfl
    exact .mk [] [] _ rfl rfl rfl rfl rfl rfl (imm_int (fst_hit (dflt ChipT) hlt hp hi))
  · rename_i g1 g2 g3 g4 g5
    have g1 : (k : Int) < (bc.length : Int) := g1
    have hlt : k < bc.length := by omega
    have hm := hc _ (memD' (dflt ChipT) hlt)
    have g2 : (bc.getD k (dflt ChipT)).2.2.2.1 > 0 := g2
    have g3 : (bc.getD k (dflt ChipT)).2.2.1 ≤ a := g3
    have g4 := (hit_last ha hm.1 hm.2 g3 g2).1 (.inr g5)
    have hp : ownB a (bc.getD k (dflt ChipT)) = true := by
      unfold ownB; rw [decide_eq_true g3, decide_eq_true g2, decide_eq_true g4]; rfl
    exact .mk [] [] _ rfl rfl rfl rfl rfl rfl (imm_int (fst_hit (dflt ChipT) hlt hp hi))
  · rename_i g1 g2 g3 g4 g5
    have g1 : (k : Int) < (bc.length : Int) := g1
    have hlt : k < bc.length := by omega
    have hm := hc _ (memD' (dflt ChipT) hlt)
    have g2 : (bc.getD k (dflt ChipT)).2.2.2.1 > 0 := g2
    have g3 : (bc.getD k (dflt ChipT)).2.2.1 ≤ a := g3
    have g6 := fun z => ((hit_last ha hm.1 hm.2 g3 g2).2 z).elim g4 g5
    have hp : ¬ ownB a (bc.getD k (dflt ChipT)) = true := by
      unfold ownB; rw [decide_eq_false g6]; simp
    apply Exists.intro
    apply Exists.intro ()
    refine And.intro (And.intro ?lt263 (And.intro ?ei263 ?inv263)) (Le.mk [] [] rfl rfl ?hh263 ?ht263)
    case hh263 => exact rfl
    case ht263 => repeat' first | exact trivial | exact ⟨rfl, rfl⟩ | refine And.intro ?_ ?_
    case lt263 => omega
    case ei263 => exact up_i (by omega)
    exact fst_miss (dflt ChipT) hlt hp hi
  · rename_i g1 g2 g3
    have g1 : (k : Int) < (bc.length : Int) := g1
    have hlt : k < bc.length := by omega
    have hm := hc _ (memD' (dflt ChipT) hlt)
    have g3 : ¬ (bc.getD k (dflt ChipT)).2.2.1 ≤ a := g3
    have hp : ¬ ownB a (bc.getD k (dflt ChipT)) = true := by
      unfold ownB; rw [decide_eq_false g3]; simp
    apply Exists.intro
    apply Exists.intro ()
    refine And.intro (And.intro ?lt278 (And.intro ?ei278 ?inv278)) (Le.mk [] [] rfl rfl ?hh278 ?ht278)
    case hh278 => exact rfl
    case ht278 => repeat' first | exact trivial | exact ⟨rfl, rfl⟩ | refine And.intro ?_ ?_
    case lt278 => omega
    case ei278 => exact up_i (by omega)
    exact fst_miss (dflt ChipT) hlt hp hi
  · rename_i g1 g2
    have g1 : (k : Int) < (bc.length : Int) := g1
    have hlt : k < bc.length := by omega
    have hm := hc _ (memD' (dflt ChipT) hlt)
    have g2 : ¬ (bc.getD k (dflt ChipT)).2.2.2.1 > 0 := g2
    have hp : ¬ ownB a (bc.getD k (dflt ChipT)) = true := by
      unfold ownB; rw [decide_eq_false g2]; simp
    apply Exists.intro
    apply Exists.intro ()
    refine And.intro (And.intro ?lt293 (And.intro ?ei293 ?inv293)) (Le.mk [] [] rfl rfl ?hh293 ?ht293)
    case hh293 => exact rfl
    case ht293 => repeat' first | exact trivial | exact ⟨rfl, rfl⟩ | refine And.intro ?_ ?_
    case lt293 => omega
    case ei293 => exact up_i (by omega)
    exact fst_miss (dflt ChipT) hlt hp hi
  · rename_i g1
    have g1 : ¬ (k : Int) < (bc.length : Int) := g1
    exact .mk [] [] _ rfl rfl rfl rfl rfl rfl (imm_int (fst_none (by omega) hi))

def askK (k : Int) : Bool := decide (k = 3) || (decide (k = 5) || decide (k = 8))
def asksS : PSpec := ⟨[gi], fun (k, _) => (none, .cell (bv (askK k)), [])⟩
theorem bAsks_ok : GoodF Try.prog 31 asksS.spec := by
  have hT := tab_ok (fs := []) tree_ok
  have hP : SpecsOk Try.prog (tab tree []) := specs_nil
  refine asksS.good (fn := Try.f31) hT hP Try.func31 (by kernel_rfl) rfl fun (k : Int) _ => ?_
  repeat' first
    | (refine Go.mk ?_; conv => whnf)
    | refine Need.go ?_ ?_
    | refine NilG.go (fun _ => ?_) (fun _ => ?_)
    | refine Br.dec (fun _ => ?_) (fun _ => ?_)
    | refine Br.go (fun _ => ?_) (fun _ => ?_)
    | refine draw_go hT hP mixed ?_
    | refine round_go hT hP ?_
  all_goals (refine .mk [] [] _ rfl rfl rfl rfl rfl rfl (imm_bool ?_))
  all_goals (show _ = (decide (k = 3) || (decide (k = 5) || decide (k = 8))))
  all_goals clear hT hP
  all_goals (dsimp only [gi, Den] at *)
  all_goals (simp_all)
  all_goals (by_cases h : k = 8 <;> simp [h])
theorem rInterrupts_ok : GoodF Try.prog 32 asksS.spec := by
  have hT := tab_ok (fs := [(91, containsS.spec)]) tree_ok
  have hP : SpecsOk Try.prog (tab tree [(91, containsS.spec)]) := specs_cons contains_ok specs_nil
  refine asksS.good (fn := Try.f32) hT hP Try.func32 (by kernel_rfl) rfl fun (k : Int) _ => ?_
  repeat' first
    | (refine Go.mk ?_; conv => whnf)
    | refine Need.go ?_ ?_
    | refine NilG.go (fun _ => ?_) (fun _ => ?_)
    | refine Br.dec (fun _ => ?_) (fun _ => ?_)
    | refine Br.go (fun _ => ?_) (fun _ => ?_)
    | refine draw_go hT hP mixed ?_
    | refine round_go hT hP ?_
  all_goals first
    | exact of_decide_eq_true rfl
    | skip
  refine .mk [] [] _ rfl rfl rfl rfl rfl rfl (imm_bool ?_)
  show ([3, 5, 8].any fun a => decide (k = a)) = _
  simp only [List.any_cons, List.any_nil, Bool.or_false]
  rfl

end Go.Proofs.Ytblnigjmcjpopaa

