/- The chip that sends and receives bytes: forming, cycles. -/
import Derived.Test.YthpijepbbpcjeaaPick
namespace Go.Proofs.Ythpijepbbpcjeaa
open Go.Fw
set_option linter.unusedVariables false
set_option linter.unusedSimpArgs false
set_option maxRecDepth 100000

theorem blk_eqs {l l' : List Int} (h : l = l') : [some (Blk.arr (.int .i64) l)] = [some (Blk.arr (.int .i64) l')] := by rw [h]
def iterF (f : List Int → List Int) : Nat → List Int → List Int
  | 0, l => l
  | n + 1, l => iterF f n (f l)
theorem iterF_add (f : List Int → List Int) : ∀ (m n : Nat) (l : List Int), iterF f (m + n) l = iterF f n (iterF f m l)
  | 0, n, l => by rw [Nat.zero_add]; rfl
  | m + 1, n, l => by
    have e : m + 1 + n = (m + n) + 1 := by omega
    rw [e]
    exact iterF_add f m n (f l)
theorem iterF_succ (f : List Int → List Int) (n : Nat) (l : List Int) : iterF f (n + 1) l = f (iterF f n l) := by
  rw [iterF_add f n 1]; rfl
theorem iterF_fix {f : List Int → List Int} {l : List Int} (h : f l = l) : ∀ n, iterF f n l = l
  | 0 => rfl
  | n + 1 => by rw [iterF, h]; exact iterF_fix h n

def serC : Cv := (ByteArray.empty, 5, 0, 0, [])
abbrev s0 (N : List Int) : Int := N.getD 0 0 % 256
abbrev s1 (N : List Int) : Int := N.getD 1 0 % 64
abbrev s2 (N : List Int) : Int := N.getD 2 0 % 256
abbrev s3 (N : List Int) : Int := N.getD 3 0 % 2
abbrev s4 (N : List Int) : Int := N.getD 4 0 % 2
abbrev s5 (N : List Int) : Int := N.getD 5 0 % 4
abbrev s6 (N : List Int) : Int := N.getD 6 0 % 1048576
abbrev s7 (N : List Int) : Int := N.getD 7 0 % 256
def serN (N : List Int) : List Int := [s0 N, s1 N, s2 N, s3 N, s4 N, s5 N, s6 N, s7 N]
theorem serN_eq (N : List Int) : serN N = [s0 N, s1 N, s2 N, s3 N, s4 N, s5 N, s6 N, s7 N] := rfl
theorem sR (N : List Int) : (0 ≤ s0 N ∧ s0 N < 256) ∧ (0 ≤ s1 N ∧ s1 N < 64) ∧ (0 ≤ s2 N ∧ s2 N < 256) ∧ (0 ≤ s3 N ∧ s3 N < 2) ∧ (0 ≤ s4 N ∧ s4 N < 2) ∧ (0 ≤ s5 N ∧ s5 N < 4) ∧ (0 ≤ s6 N ∧ s6 N < 1048576) ∧ (0 ≤ s7 N ∧ s7 N < 256) := by
  unfold s0 s1 s2 s3 s4 s5 s6 s7; omega
def tickS : List Int → List Int
  | [a, l, g, f, o, c, s, z] => if l > 0 then (if l - 1 = 0 then [a, 0, g, f, o, c, (s + 1) % 1048576, a] else [a, l - 1, g, f, o, c, s, z]) else [a, l, g, f, o, c, s, z]
  | l => l
theorem serN_idem {a l g f o c s z : Int} (h0 : 0 ≤ a ∧ a < 256) (h1 : 0 ≤ l ∧ l < 64) (h2 : 0 ≤ g ∧ g < 256) (h3 : 0 ≤ f ∧ f < 2) (h4 : 0 ≤ o ∧ o < 2) (h5 : 0 ≤ c ∧ c < 4) (h6 : 0 ≤ s ∧ s < 1048576) (h7 : 0 ≤ z ∧ z < 256) :
    serN [a, l, g, f, o, c, s, z] = [a, l, g, f, o, c, s, z] := by
  show [a % 256, l % 64, g % 256, f % 2, o % 2, c % 4, s % 1048576, z % 256] = _
  rw [Int.emod_eq_of_lt h0.1 h0.2, Int.emod_eq_of_lt h1.1 h1.2, Int.emod_eq_of_lt h2.1 h2.2, Int.emod_eq_of_lt h3.1 h3.2, Int.emod_eq_of_lt h4.1 h4.2, Int.emod_eq_of_lt h5.1 h5.2, Int.emod_eq_of_lt h6.1 h6.2, Int.emod_eq_of_lt h7.1 h7.2]
theorem serN_form (N : List Int) : serN (serN N) = serN N := by
  obtain ⟨h0, h1, h2, h3, h4, h5, h6, h7⟩ := sR N
  exact serN_idem h0 h1 h2 h3 h4 h5 h6 h7
theorem tickS_form8 {a l g f o c s z : Int} (h0 : 0 ≤ a ∧ a < 256) (h1 : 0 ≤ l ∧ l < 64) (h2 : 0 ≤ g ∧ g < 256) (h3 : 0 ≤ f ∧ f < 2) (h4 : 0 ≤ o ∧ o < 2) (h5 : 0 ≤ c ∧ c < 4) (h6 : 0 ≤ s ∧ s < 1048576) (h7 : 0 ≤ z ∧ z < 256) :
    serN (tickS [a, l, g, f, o, c, s, z]) = tickS [a, l, g, f, o, c, s, z] := by
  by_cases e1 : l > 0
  · by_cases e2 : l - 1 = 0
    · have e : tickS [a, l, g, f, o, c, s, z] = [a, 0, g, f, o, c, (s + 1) % 1048576, a] := by rw [tickS, if_pos e1, if_pos e2]
      rw [e]; exact serN_idem h0 (by omega) h2 h3 h4 h5 (by omega) h0
    · have e : tickS [a, l, g, f, o, c, s, z] = [a, l - 1, g, f, o, c, s, z] := by rw [tickS, if_pos e1, if_neg e2]
      rw [e]; exact serN_idem h0 (by omega) h2 h3 h4 h5 h6 h7
  · have e : tickS [a, l, g, f, o, c, s, z] = [a, l, g, f, o, c, s, z] := by rw [tickS, if_neg e1]
    rw [e]; exact serN_idem h0 h1 h2 h3 h4 h5 h6 h7
theorem tickS_form {l : List Int} (h : serN l = l) : serN (tickS l) = tickS l := by
  obtain ⟨h0, h1, h2, h3, h4, h5, h6, h7⟩ := sR l
  have := tickS_form8 h0 h1 h2 h3 h4 h5 h6 h7
  rw [← serN_eq, h] at this
  exact this
theorem iterS_form (N : List Int) : ∀ n, serN (iterF tickS n (serN N)) = iterF tickS n (serN N)
  | 0 => serN_form N
  | n + 1 => by rw [iterF_succ]; exact tickS_form (iterS_form N n)
theorem len8 {l : List Int} (h : serN l = l) : l.length ≤ 4611686018427387904 := by
  rw [← h]; exact (by decide : 8 ≤ 4611686018427387904)
theorem its_zero {a g f o c s z : Int} (n : Nat) : iterF tickS n [a, 0, g, f, o, c, s, z] = [a, 0, g, f, o, c, s, z] := iterF_fix rfl n
theorem its_run {a g f o c s z : Int} : ∀ (n : Nat) (l : Int), (n : Int) < l → iterF tickS n [a, l, g, f, o, c, s, z] = [a, l - n, g, f, o, c, s, z]
  | 0, l, _ => by rw [iterF]; simp
  | n + 1, l, h => by
    rw [iterF, tickS, if_pos (by omega), if_neg (by omega), its_run n (l - 1) (by omega)]
    have : l - 1 - (n : Int) = l - ((n + 1 : Nat) : Int) := by omega
    rw [this]
theorem its_end {a l g f o c s z : Int} (hl : 0 < l) (n : Nat) (h : l ≤ n) : iterF tickS n [a, l, g, f, o, c, s, z] = [a, 0, g, f, o, c, (s + 1) % 1048576, a] := by
  have e : n = (l - 1).toNat + ((n - l.toNat) + 1) := by omega
  rw [e, iterF_add, its_run _ _ (by omega)]
  have e1 : l - (((l - 1).toNat : Nat) : Int) = 1 := by omega
  rw [e1, iterF, tickS, if_pos (by omega), if_pos (by omega)]
  exact its_zero _

def sformedS : PSpec := ⟨[gC, gD], fun (c, d, _) => (some (c = serC), devR, [.arr (.int .i64) (serN d.1)])⟩
theorem sformed_ok : Good Try.prog 15 sformedS.spec := by
  have hT := tab_ok (fs := [(82, formS.spec)]) tree_ok
  have hP : SpecsOk Try.prog (tab tree [(82, formS.spec)]) := specs_cons form_ok specs_nil
  refine sformedS.good (fn := Try.f15) hT hP Try.func15 (by kernel_rfl) rfl fun (c : Cv) (d : Dv) hp => ?_
  have hp : c = serC := hp _ rfl
  subst hp
  obtain ⟨N, M⟩ := d
  repeat' first
    | (refine Go.mk ?_; conv => whnf)
    | refine Need.go ?_ ?_
    | refine NilG.go (fun _ => ?_) (fun _ => ?_)
    | refine Br.dec (fun _ => ?_) (fun _ => ?_)
    | refine Br.go (fun _ => ?_) (fun _ => ?_)
    | refine draw_go hT hP mixed ?_
    | refine round_go hT hP ?_
  · exact (by decide : ([256, 64, 256, 2, 2, 4, 1048576, 256] : List Int).length ≤ 1000 ∧ ∀ m ∈ ([256, 64, 256, 2, 2, 4, 1048576, 256] : List Int), 0 < m ∧ m ≤ 4611686018427387904)
  · exact .mk [] [5] _ rfl rfl rfl rfl rfl rfl rfl

def sfitS : PSpec := ⟨[gD], fun (d, _) => (none, .cell (.own 0), [.arr (.int .i64) (serN d.1)])⟩
theorem sfit_ok : Good Try.prog 90 sfitS.spec := by
  have hT := tab_ok (fs := [(94, lowM.spec)]) tree_ok
  have hP : SpecsOk Try.prog (tab tree [(94, lowM.spec)]) := specs_cons lowM_ok specs_nil
  refine sfitS.good (fn := Try.f90) hT hP Try.func90 (by kernel_rfl) rfl fun (d : Dv) _ => ?_
  obtain ⟨N, M⟩ := d
  repeat' first
    | (refine Go.mk ?_; conv => whnf)
    | refine Need.go ?_ ?_
    | refine NilG.go (fun _ => ?_) (fun _ => ?_)
    | refine Br.dec (fun _ => ?_) (fun _ => ?_)
    | refine Br.go (fun _ => ?_) (fun _ => ?_)
    | refine draw_go hT hP mixed ?_
    | refine round_go hT hP ?_
  · exact of_decide_eq_true rfl
  refine loop_unroll 9 ?_
  repeat' first
    | (refine Go.mk ?_; conv => whnf)
    | refine Need.go ?_ ?_
    | refine NilG.go (fun _ => ?_) (fun _ => ?_)
    | refine Br.dec (fun _ => ?_) (fun _ => ?_)
    | refine Br.go (fun _ => ?_) (fun _ => ?_)
    | refine draw_go hT hP mixed ?_
    | refine round_go hT hP ?_
  all_goals first
    | exact of_decide_eq_true rfl
    | exact .mk [] [1] _ rfl rfl rfl rfl rfl rfl rfl

def snewS : PSpec := ⟨[], fun _ => (none, devR, [.arr (.int .i64) [0, 0, 0, 0, 0, 0, 0, 0]])⟩
theorem snew_ok : Good Try.prog 22 snewS.spec := by
  have hT := tab_ok (fs := []) tree_ok
  have hP : SpecsOk Try.prog (tab tree []) := specs_nil
  refine snewS.good (fn := Try.f22) hT hP Try.func22 (by kernel_rfl) rfl fun _ => ?_
  repeat' first
    | (refine Go.mk ?_; conv => whnf)
    | refine Need.go ?_ ?_
    | refine NilG.go (fun _ => ?_) (fun _ => ?_)
    | refine Br.dec (fun _ => ?_) (fun _ => ?_)
    | refine Br.go (fun _ => ?_) (fun _ => ?_)
    | refine draw_go hT hP mixed ?_
    | refine round_go hT hP ?_
  all_goals first
    | exact of_decide_eq_true rfl
    | exact .mk [] [1] _ rfl rfl rfl rfl rfl rfl rfl

def stickedS : PSpec := ⟨[gC, gD], fun (c, d, _) => (some (c = serC), devR, [.arr (.int .i64) (tickS (serN d.1))])⟩
theorem sticked_ok : Good Try.prog 16 stickedS.spec := by
  have hT := tab_ok (fs := [(15, sformedS.spec)]) tree_ok
  have hP : SpecsOk Try.prog (tab tree [(15, sformedS.spec)]) := specs_cons sformed_ok specs_nil
  refine stickedS.good (fn := Try.f16) hT hP Try.func16 (by kernel_rfl) rfl fun (c : Cv) (d : Dv) hp => ?_
  have hp : c = serC := hp _ rfl
  subst hp
  obtain ⟨N, M⟩ := d
  obtain ⟨h0, h1, h2, h3, h4, h5, h6, h7⟩ := sR N
  repeat' first
    | (refine Go.mk ?_; conv => whnf)
    | refine Need.go ?_ ?_
    | refine NilG.go (fun _ => ?_) (fun _ => ?_)
    | refine Br.dec (fun _ => ?_) (fun _ => ?_)
    | refine Br.go (fun _ => ?_) (fun _ => ?_)
    | refine draw_go hT hP mixed ?_
    | refine round_go hT hP ?_
  all_goals first
    | exact rfl
    | exact of_decide_eq_true rfl
    | skip
  · rename_i g1 g2
    have g1 : s1 N > 0 := g1
    have g2 : IntKind.i64.wrap (s1 N - 1) = 0 := g2
    rw [w64 (by omega) (by omega)] at g2
    refine .mk [] [3] _ rfl rfl rfl rfl rfl (blk_eqs (l := [s0 N, IntKind.i64.wrap (s1 N - 1), s2 N, s3 N, s4 N, s5 N, Int.tmod (IntKind.i64.wrap (s6 N + 1)) 1048576, s0 N]) ?_) rfl
    show _ = tickS (serN N)
    rw [serN_eq, tickS, if_pos g1, if_pos g2, w64 (x := s1 N - 1) (by omega) (by omega), g2, w64 (x := s6 N + 1) (by omega) (by omega), Int.tmod_eq_emod_of_nonneg (by omega)]
  · rename_i g1 g2
    have g1 : s1 N > 0 := g1
    have g2 : ¬ IntKind.i64.wrap (s1 N - 1) = 0 := g2
    rw [w64 (by omega) (by omega)] at g2
    refine .mk [] [3] _ rfl rfl rfl rfl rfl (blk_eqs (l := [s0 N, IntKind.i64.wrap (s1 N - 1), s2 N, s3 N, s4 N, s5 N, s6 N, s7 N]) ?_) rfl
    show _ = tickS (serN N)
    rw [serN_eq, tickS, if_pos g1, if_neg g2, w64 (x := s1 N - 1) (by omega) (by omega)]
  · rename_i g1
    have g1 : ¬ s1 N > 0 := g1
    refine .mk [] [3] _ rfl rfl rfl rfl rfl (blk_eqs (l := serN N) ?_) rfl
    show _ = tickS (serN N)
    rw [serN_eq, tickS, if_neg g1]

def sskipS : PSpec := ⟨[gD, gi], fun (d, k, _) => (some (k ≤ 4611686018427387904), devR, [.arr (.int .i64) (iterF tickS k.toNat (serN d.1))])⟩
def stickS : PSpec := ⟨[gD], fun (d, _) => (none, devR, [.arr (.int .i64) (tickS (serN d.1))])⟩
def sinN (N : List Int) (k : Int) : List Int := [s0 N, s1 N, if s3 N = 1 then s2 N else k % 256, 1, if s3 N = 1 then 1 else s4 N, s5 N, s6 N, s7 N]
def sinS : PSpec := ⟨[gD, gi], fun (d, k, _) => (none, devR, [.arr (.int .i64) (sinN d.1 k)])⟩
theorem sin_ok : Good Try.prog 28 sinS.spec := by
  have hT := tab_ok (fs := [(90, sfitS.spec), (94, lowM.spec)]) tree_ok
  have hP : SpecsOk Try.prog (tab tree [(90, sfitS.spec), (94, lowM.spec)]) := specs_cons sfit_ok (specs_cons lowM_ok specs_nil)
  refine sinS.good (fn := Try.f28) hT hP Try.func28 (by kernel_rfl) rfl fun (d : Dv) (k : Int) _ => ?_
  obtain ⟨N, M⟩ := d
  repeat' first
    | (refine Go.mk ?_; conv => whnf)
    | refine Need.go ?_ ?_
    | refine NilG.go (fun _ => ?_) (fun _ => ?_)
    | refine Br.dec (fun _ => ?_) (fun _ => ?_)
    | refine Br.go (fun _ => ?_) (fun _ => ?_)
    | refine draw_go hT hP mixed ?_
    | refine round_go hT hP ?_
  all_goals first
    | exact of_decide_eq_true rfl
    | (rename_i h
       have h : s3 N = 1 := h
       refine .mk [] [2] _ rfl rfl rfl rfl rfl (blk_eqs (l := [s0 N, s1 N, s2 N, s3 N, 1, s5 N, s6 N, s7 N]) ?_) rfl
       show _ = sinN N k
       rw [sinN, if_pos h, if_pos h, h])
    | (rename_i h
       have h : ¬ s3 N = 1 := h
       refine .mk [] [2] _ rfl rfl rfl rfl rfl (blk_eqs (l := [s0 N, s1 N, k % 2 ^ (8 : Int).toNat, 1, s4 N, s5 N, s6 N, s7 N]) ?_) rfl
       show _ = sinN N k
       rw [sinN, if_neg h, if_neg h]; rfl)

def bitI (b : Bool) : Int := match b with | true => 1 | false => 0
def truthS : PSpec := ⟨[⟨false, .bool⟩], fun (b, _) => (none, I (bitI b), [])⟩
theorem truth_ok : Good Try.prog 91 truthS.spec := by
  have hT := tab_ok (fs := []) tree_ok
  have hP : SpecsOk Try.prog (tab tree []) := specs_nil
  refine truthS.good (fn := Try.f91) hT hP Try.func91 (by kernel_rfl) rfl fun (b : Bool) _ => ?_
  repeat' first
    | (refine Go.mk ?_; conv => whnf)
    | refine Need.go ?_ ?_
    | refine NilG.go (fun _ => ?_) (fun _ => ?_)
    | refine Br.dec (fun _ => ?_) (fun _ => ?_)
    | refine Br.go (fun _ => ?_) (fun _ => ?_)
    | refine draw_go hT hP mixed ?_
    | refine round_go hT hP ?_
  all_goals
    rename_i h
    subst h
    exact .mk [] [] _ rfl rfl rfl rfl rfl rfl rfl
theorem seen_ok : Good Try.prog 93 truthS.spec := by
  have hT := tab_ok (fs := []) tree_ok
  have hP : SpecsOk Try.prog (tab tree []) := specs_nil
  refine truthS.good (fn := Try.f93) hT hP Try.func93 (by kernel_rfl) rfl fun (b : Bool) _ => ?_
  repeat' first
    | (refine Go.mk ?_; conv => whnf)
    | refine Need.go ?_ ?_
    | refine NilG.go (fun _ => ?_) (fun _ => ?_)
    | refine Br.dec (fun _ => ?_) (fun _ => ?_)
    | refine Br.go (fun _ => ?_) (fun _ => ?_)
    | refine draw_go hT hP mixed ?_
    | refine round_go hT hP ?_
  all_goals
    rename_i h
    subst h
    exact .mk [] [] _ rfl rfl rfl rfl rfl rfl rfl

/-- three bits of a number, put together by or -/
theorem or_bits (f o : Int) (b : Bool) (h3 : 0 ≤ f ∧ f < 2) (h4 : 0 ≤ o ∧ o < 2) : lor .i64 (lor .i64 f (shl .i64 (bitI b) 1)) (shl .i64 o 2) = f + 2 * bitI b + 4 * o := by
  have e1 : f = 0 ∨ f = 1 := by omega
  have e2 : o = 0 ∨ o = 1 := by omega
  rcases e1 with rfl | rfl <;> rcases e2 with rfl | rfl <;> cases b <;> decide +kernel
theorem tup_reads {x y : Int} (h2 : x = y) : AV.tup [.agg [.own 0, .imm (.slice none 0 0)], I1 x] = AV.tup [.agg [.own 0, .imm (.slice none 0 0)], I1 y] := by rw [h2]
def srF (N : List Int) (a : Int) : Int := pickF [s2 N, s3 N + 2 * bitI (decide (s1 N > 0)) + 4 * s4 N, s5 N] a
def srN (N : List Int) (a : Int) : List Int := [s0 N, s1 N, s2 N, if a = 0 then 0 else s3 N, if a = 1 then 0 else s4 N, s5 N, s6 N, s7 N]
def sreadS : PSpec := ⟨[gD, gi], fun (d, a, _) => (none, .tup [.agg [.own 0, .imm (.slice none 0 0)], I1 (srF d.1 a)], [.arr (.int .i64) (srN d.1 a)])⟩
theorem sread_ok : Good Try.prog 24 sreadS.spec := by
  have hT := tab_ok (fs := [(90, sfitS.spec), (91, truthS.spec)]) tree_ok
  have hP : SpecsOk Try.prog (tab tree [(90, sfitS.spec), (91, truthS.spec)]) := specs_cons sfit_ok (specs_cons truth_ok specs_nil)
  refine sreadS.good (fn := Try.f24) hT hP Try.func24 (by kernel_rfl) rfl fun (d : Dv) (a : Int) _ => ?_
  obtain ⟨N, M⟩ := d
  obtain ⟨h0, h1, h2, h3, h4, h5, h6, h7⟩ := sR N
  repeat' first
    | (refine Go.mk ?_; conv => whnf)
    | refine Need.go ?_ ?_
    | refine NilG.go (fun _ => ?_) (fun _ => ?_)
    | refine Br.dec (fun _ => ?_) (fun _ => ?_)
    | refine Br.go (fun _ => ?_) (fun _ => ?_)
    | refine draw_go hT hP mixed ?_
    | refine round_go hT hP ?_
  all_goals (try subst_vars)
  all_goals first
    | exact rfl
    | exact of_decide_eq_true rfl
    | exact .mk [] [2] _ rfl rfl rfl rfl rfl rfl rfl
    | skip
  · refine .mk [] [2] _ rfl rfl rfl rfl rfl rfl (tup_reads ?_)
    exact or_bits (s3 N) (s4 N) (decide (s1 N > 0)) h3 h4
  · rename_i g0 g1 g2
    have e : srF N a = 0 := pick_no fun i hi => by
      have : i < 3 := hi
      omega
    refine .mk [] [2] _ rfl rfl rfl rfl rfl (blk_eqs (l := serN N) ?_) (tup_reads e.symm)
    show _ = srN N a
    rw [serN_eq, srN, if_neg g0, if_neg g1]

def serialsS : PSpec := ⟨[], fun _ => (none, .cell (bv true), [])⟩
theorem serials_ok : Good Try.prog 21 serialsS.spec := by
  have hT := tab_ok (fs := [(22, snewS.spec), (28, sinS.spec), (24, sreadS.spec)]) tree_ok
  have hP : SpecsOk Try.prog (tab tree [(22, snewS.spec), (28, sinS.spec), (24, sreadS.spec)]) := specs_cons snew_ok (specs_cons sin_ok (specs_cons sread_ok specs_nil))
  refine serialsS.good (fn := Try.f21) hT hP Try.func21 (by kernel_rfl) rfl fun _ => ?_
  repeat' first
    | (refine Go.mk ?_; conv => whnf)
    | refine Need.go ?_ ?_
    | refine NilG.go (fun _ => ?_) (fun _ => ?_)
    | refine Br.dec (fun _ => ?_) (fun _ => ?_)
    | refine Br.go (fun _ => ?_) (fun _ => ?_)
    | refine draw_go hT hP mixed ?_
    | refine round_go hT hP ?_
  refine .mk [] [] _ rfl rfl rfl rfl rfl rfl (imm_bool ?_)
  show (srF (sinN [0, 0, 0, 0, 0, 0, 0, 0] 65) 0 == 65) = true
  decide +kernel

end Go.Proofs.Ythpijepbbpcjeaa
