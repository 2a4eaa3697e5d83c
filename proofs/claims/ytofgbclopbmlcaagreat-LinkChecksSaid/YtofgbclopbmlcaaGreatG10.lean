/- Part 10 of the proof: Mach2 CycF ChipIx ChipHas ChipSer WireE TabCyc TabCyc2 TabIx TabChk TabChk2 BoardChk BoardErrL. No statement is handed in here; conditions: none. -/
import Derived.Test.YtofgbclopbmlcaaGreatG9
import Derived.Test.YtofgbclopbmlcaaGreatG7
import Derived.Test.YtofgbclopbmlcaaGreatG8
/- Addresses of a machine read and written. -/
namespace Go.Proofs.YtofgbclopbmlcaaGreat
open Go.Fw
set_option linter.unusedVariables false
set_option linter.unusedSimpArgs false
set_option linter.constructorNameAsVariable false
set_option maxRecDepth 100000

def adI (a : Int) : Int := a % 2 ^ Int.toNat 16
theorem adI_eq (a : Int) : adI a = a % 65536 := rfl
theorem adI_in (a : Int) : 0 ≤ adI a ∧ adI a < 65536 := by rw [adI_eq]; omega
def fI (b : Bd) (a : Int) : Int := if 0 ≤ findF b a then findF b a else 0
def hasF (b : Bd) (a : Int) : Bool := decide (0 ≤ findF b a)
theorem hasF_t {b : Bd} {a : Int} (h : (!hasF b a) = false) : (0 ≤ findF b a ∧ findF b a < b.2.2.1.length) ∧ fI b a = findF b a := by
  have h1 : 0 ≤ findF b a := by
    by_cases h1 : 0 ≤ findF b a
    · exact h1
    · unfold hasF at h; rw [decide_eq_false h1] at h; cases h
  have hF : findF b a = -1 ∨ (0 ≤ findF b a ∧ findF b a < b.2.2.1.length) := fstI_in (ownB a) b.2.2.1
  exact ⟨by omega, if_pos h1⟩
theorem hasF_f {b : Bd} {a : Int} (h : (!hasF b a) = true) : ¬ 0 ≤ findF b a := fun h1 => by
  unfold hasF at h; rw [decide_eq_true h1] at h; cases h
def bfind2S : PSpec := ⟨[gBd, gi], fun (b, a, _) => (some (bP b a), .tup [I1 (fI b a), I1 (atF b a), .c (bv (hasF b a))], [])⟩
theorem bFind2_ok : GoodF Tryz.prog 93 bfind2S.spec := bFind_ok
def chAt (b : Bd) (a : Int) : Cv := b.2.2.1.getD (findF b (adI a)).toNat (dflt ChipT)
def dvAt (b : Bd) (m : Mach) (a : Int) : Dv := m.2.2.1.getD (findF b (adI a)).toNat (dflt DevT)
def memAt (b : Bd) (m : Mach) (a : Int) : Prop := (0 ≤ findF b (adI a) ∧ findF b (adI a) < (m.2.2.1.length : Nat)) ∧ 0 ≤ (chAt b a).2.1 ∧ (chAt b a).2.1 ≤ 2
instance (b : Bd) (m : Mach) (a : Int) : Decidable (memAt b m a) := by unfold memAt; infer_instance
def peekF (b : Bd) (m : Mach) (a : Int) : Int := if memAt b m a then loadI (chAt b a) (dvAt b m a) (adI a - (chAt b a).2.2.1) else 255
def pokeF (b : Bd) (m : Mach) (a k : Int) : Mach := if memAt b m a then (m.1, m.2.1, m.2.2.1.set (findF b (adI a)).toNat (storeF (chAt b a) (dvAt b m a) (adI a - (chAt b a).2.2.1) k), m.2.2.2) else m
def peekP (b : Bd) (m : Mach) : Prop := (b.2.2.1.length * 64 ≤ 140737488351232 ∧ ∀ c ∈ b.2.2.1, cP c) ∧ okDs m.2.2.1 ∧ ∀ d ∈ m.2.2.1, dP d
theorem peek_bP {b : Bd} {m : Mach} (h : peekP b m) (a : Int) : bP b (adI a) := by
  have := adI_in a
  exact ⟨by have := h.1.1; omega, ⟨by omega, by omega⟩, fun c hc => ⟨(h.1.2 c hc).1, (h.1.2 c hc).2.1⟩⟩
theorem atF_eq {b : Bd} {a : Int} (h : 0 ≤ findF b (adI a)) : atF b (adI a) = adI a - (chAt b a).2.2.1 := if_pos h
def mpeekS : PSpec := ⟨[gBd, gM, gi], fun (b, m, a, _) => (some (peekP b m), I (peekF b m a), [])⟩
theorem mpeek_ok : GoodF Tryz.prog 45 mpeekS.spec := by
  have hT := tab_ok (fs := [(94, lowM.spec), (93, bfind2S.spec), (95, cReadS.spec)]) tree_ok
  have hP : SpecsOk Tryz.prog (tab tree [(94, lowM.spec), (93, bfind2S.spec), (95, cReadS.spec)]) := specs_cons lowM_ok (specs_cons bFind2_ok (specs_cons cRead_ok specs_nil))
  refine mpeekS.good (fn := Tryz.f45) hT hP Tryz.func45 (by kernel_rfl) rfl fun (b : Bd) (m : Mach) (a : Int) hq => ?_
  have hpp : peekP b m := hq _ rfl
  have hbP := peek_bP hpp a
  have hatF := @atF_eq b a
  obtain ⟨⟨h1, h2⟩, h3, h4⟩ := hpp
  clear hq
  obtain ⟨bn, ⟨un, ui, ur, uq, um⟩, bc, bw⟩ := b
  obtain ⟨tm, ⟨r, op, at_, nmi⟩, ds, bd, ba, bdt⟩ := m
  have h1 : bc.length * 64 ≤ 140737488351232 := h1
  have h2 : ∀ c ∈ bc, cP c := h2
  have h4 : ∀ d ∈ ds, dP d := h4
  repeat' first
    | (refine Go.mk ?_; conv => whnf)
    | refine Need.go ?_ ?_
    | refine NilG.go (fun _ => ?_) (fun _ => ?_)
    | refine Br.dec (fun _ => ?_) (fun _ => ?_)
    | refine Br.go (fun _ => ?_) (fun _ => ?_)
    | refine draw_go hT hP mixed ?_
    | refine round_go hT hP ?_
  all_goals (try dsimp only [castL_eq] at *)
  all_goals clear hT hP
  · exact of_decide_eq_true rfl
  · exact hbP
  · rename_i g1
    have g1 := hasF_f (a := adI a) g1
    refine .mk [] [] _ rfl rfl rfl rfl rfl rfl (imm_int ?_)
    exact (if_neg fun h => g1 h.1.1 : peekF (bn, (un, ui, ur, uq, um), bc, bw) (tm, (r, op, at_, nmi), ds, bd, ba, bdt) a = 255).symm
  · rename_i g1 g2
    obtain ⟨⟨f1, f2⟩, f3⟩ := hasF_t (a := adI a) g1
    have g2 : fI (bn, (un, ui, ur, uq, um), bc, bw) (adI a) ≥ (ds.length : Int) := g2
    rw [f3] at g2
    refine .mk [] [] _ rfl rfl rfl rfl rfl rfl (imm_int ?_)
    exact (if_neg fun h => by have h := h.1.2; have h : findF (bn, (un, ui, ur, uq, um), bc, bw) (adI a) < (ds.length : Nat) := h; omega : peekF (bn, (un, ui, ur, uq, um), bc, bw) (tm, (r, op, at_, nmi), ds, bd, ba, bdt) a = 255).symm
  · rename_i g1 g2
    obtain ⟨⟨f1, f2⟩, f3⟩ := hasF_t (a := adI a) g1
    show 0 ≤ fI (bn, (un, ui, ur, uq, um), bc, bw) (adI a) ∧ fI (bn, (un, ui, ur, uq, um), bc, bw) (adI a) < (bc.length : Int)
    rw [f3]; exact ⟨f1, f2⟩
  · rename_i g1 g2 g3
    obtain ⟨⟨f1, f2⟩, f3⟩ := hasF_t (a := adI a) g1
    have g3 : (bc.getD (fI (bn, (un, ui, ur, uq, um), bc, bw) (adI a)).toNat (dflt ChipT)).2.1 < 0 := g3
    rw [f3] at g3
    refine .mk [] [] _ rfl rfl rfl rfl rfl rfl (imm_int ?_)
    exact (if_neg fun h => by have h := h.2.1; have g3 : (chAt (bn, (un, ui, ur, uq, um), bc, bw) a).2.1 < 0 := g3; omega : peekF (bn, (un, ui, ur, uq, um), bc, bw) (tm, (r, op, at_, nmi), ds, bd, ba, bdt) a = 255).symm
  · rename_i g1 g2 g3
    obtain ⟨⟨f1, f2⟩, f3⟩ := hasF_t (a := adI a) g1
    show 0 ≤ fI (bn, (un, ui, ur, uq, um), bc, bw) (adI a) ∧ fI (bn, (un, ui, ur, uq, um), bc, bw) (adI a) < (bc.length : Int)
    rw [f3]; exact ⟨f1, f2⟩
  · rename_i g1 g2 g3 g4
    obtain ⟨⟨f1, f2⟩, f3⟩ := hasF_t (a := adI a) g1
    have g4 : (bc.getD (fI (bn, (un, ui, ur, uq, um), bc, bw) (adI a)).toNat (dflt ChipT)).2.1 > 2 := g4
    rw [f3] at g4
    refine .mk [] [] _ rfl rfl rfl rfl rfl rfl (imm_int ?_)
    exact (if_neg fun h => by have h := h.2.2; have g4 : (chAt (bn, (un, ui, ur, uq, um), bc, bw) a).2.1 > 2 := g4; omega : peekF (bn, (un, ui, ur, uq, um), bc, bw) (tm, (r, op, at_, nmi), ds, bd, ba, bdt) a = 255).symm
  · rename_i g1 g2 g3 g4
    obtain ⟨⟨f1, f2⟩, f3⟩ := hasF_t (a := adI a) g1
    show 0 ≤ fI (bn, (un, ui, ur, uq, um), bc, bw) (adI a) ∧ fI (bn, (un, ui, ur, uq, um), bc, bw) (adI a) < (bc.length : Int)
    rw [f3]; exact ⟨f1, f2⟩
  · rename_i g1 g2 g3 g4
    obtain ⟨⟨f1, f2⟩, f3⟩ := hasF_t (a := adI a) g1
    have g2 : ¬ fI (bn, (un, ui, ur, uq, um), bc, bw) (adI a) ≥ (ds.length : Int) := g2
    show 0 ≤ fI (bn, (un, ui, ur, uq, um), bc, bw) (adI a) ∧ fI (bn, (un, ui, ur, uq, um), bc, bw) (adI a) < (ds.length : Int)
    rw [f3] at g2 ⊢; omega
  · rename_i g1 g2 g3 g4
    obtain ⟨⟨f1, f2⟩, f3⟩ := hasF_t (a := adI a) g1
    have g2 : ¬ fI (bn, (un, ui, ur, uq, um), bc, bw) (adI a) ≥ (ds.length : Int) := g2
    have f2 : findF (bn, (un, ui, ur, uq, um), bc, bw) (adI a) < (bc.length : Int) := f2
    show cP (bc.getD (fI (bn, (un, ui, ur, uq, um), bc, bw) (adI a)).toNat (dflt ChipT)) ∧ dP (ds.getD (fI (bn, (un, ui, ur, uq, um), bc, bw) (adI a)).toNat (dflt DevT))
    rw [f3] at g2 ⊢
    exact ⟨h2 _ (memD' _ (by omega)), h4 _ (memD' _ (by omega))⟩
  · rename_i g1 g2 g3 g4
    obtain ⟨⟨f1, f2⟩, f3⟩ := hasF_t (a := adI a) g1
    have g2 : ¬ fI (bn, (un, ui, ur, uq, um), bc, bw) (adI a) ≥ (ds.length : Int) := g2
    have g3 : ¬ (bc.getD (fI (bn, (un, ui, ur, uq, um), bc, bw) (adI a)).toNat (dflt ChipT)).2.1 < 0 := g3
    have g4 : ¬ (bc.getD (fI (bn, (un, ui, ur, uq, um), bc, bw) (adI a)).toNat (dflt ChipT)).2.1 > 2 := g4
    rw [f3] at g2 g3 g4
    refine .mk [] [] _ rfl rfl rfl rfl rfl rfl (imm_int ?_)
    show loadI (bc.getD (fI (bn, (un, ui, ur, uq, um), bc, bw) (adI a)).toNat (dflt ChipT)) (ds.getD (fI (bn, (un, ui, ur, uq, um), bc, bw) (adI a)).toNat (dflt DevT)) (atF (bn, (un, ui, ur, uq, um), bc, bw) (adI a)) = _
    rw [f3, hatF f1]
    exact (if_pos ⟨⟨f1, by show _ < (ds.length : Int); omega⟩, by show 0 ≤ (chAt (bn, (un, ui, ur, uq, um), bc, bw) a).2.1; have g3 : ¬ (chAt (bn, (un, ui, ur, uq, um), bc, bw) a).2.1 < 0 := g3; omega, by have g4 : ¬ (chAt (bn, (un, ui, ur, uq, um), bc, bw) a).2.1 > 2 := g4; omega⟩ : peekF (bn, (un, ui, ur, uq, um), bc, bw) (tm, (r, op, at_, nmi), ds, bd, ba, bdt) a = _).symm

theorem fI_of {b : Bd} {a : Int} (h1 : 0 ≤ findF b a) : findF b a < b.2.2.1.length ∧ fI b a = findF b a := by
  have hF : findF b a = -1 ∨ (0 ≤ findF b a ∧ findF b a < b.2.2.1.length) := fstI_in (ownB a) b.2.2.1
  exact ⟨by omega, if_pos h1⟩
def mpokeS : PSpec := ⟨[gBd, gM, gi, gi], fun (b, m, a, k, _) => (some (peekP b m), machO (pokeF b m a k) 0, [.arr DevT (pokeF b m a k).2.2.1])⟩
theorem mpoke_ok : GoodF Tryz.prog 46 mpokeS.spec := by
  have hT := tab_ok (fs := [(69, mcopyS.spec), (94, lowM.spec), (93, bfind2S.spec), (96, cWriteS.spec)]) tree_ok
  have hP : SpecsOk Tryz.prog (tab tree [(69, mcopyS.spec), (94, lowM.spec), (93, bfind2S.spec), (96, cWriteS.spec)]) := specs_cons mcopy_ok (specs_cons lowM_ok (specs_cons bFind2_ok (specs_cons cWrite_ok specs_nil)))
  refine mpokeS.good (fn := Tryz.f46) hT hP Tryz.func46 (by kernel_rfl) rfl fun (b : Bd) (m : Mach) (a k : Int) hq => ?_
  have hpp : peekP b m := hq _ rfl
  have hbP := peek_bP hpp a
  have hatF := @atF_eq b a
  obtain ⟨⟨h1, h2⟩, h3, h4⟩ := hpp
  clear hq
  obtain ⟨bn, ⟨un, ui, ur, uq, um⟩, bc, bw⟩ := b
  obtain ⟨tm, ⟨r, op, at_, nmi⟩, ds, bd, ba, bdt⟩ := m
  have h1 : bc.length * 64 ≤ 140737488351232 := h1
  have h2 : ∀ c ∈ bc, cP c := h2
  have h4 : ∀ d ∈ ds, dP d := h4
  repeat' first
    | (refine Go.mk ?_; conv => whnf)
    | refine Need.go ?_ ?_
    | refine NilG.go (fun _ => ?_) (fun _ => ?_)
    | refine Br.dec (fun _ => ?_) (fun _ => ?_)
    | refine Br.go (fun _ => ?_) (fun _ => ?_)
    | refine draw_go hT hP mixed ?_
    | refine round_go hT hP ?_
  all_goals (try dsimp only [castL_eq] at *)
  all_goals clear hT hP
  · exact h3
  · exact of_decide_eq_true rfl
  · exact hbP
  · rename_i g1 g2
    obtain ⟨f2, f3⟩ := fI_of (a := adI a) g1
    show 0 ≤ fI (bn, (un, ui, ur, uq, um), bc, bw) (adI a) ∧ fI (bn, (un, ui, ur, uq, um), bc, bw) (adI a) < (bc.length : Int)
    rw [f3]; exact ⟨g1, f2⟩
  · rename_i g1 g2 g3
    obtain ⟨f2, f3⟩ := fI_of (a := adI a) g1
    show 0 ≤ fI (bn, (un, ui, ur, uq, um), bc, bw) (adI a) ∧ fI (bn, (un, ui, ur, uq, um), bc, bw) (adI a) < (bc.length : Int)
    rw [f3]; exact ⟨g1, f2⟩
  · rename_i g1 g2 g3 g4
    obtain ⟨f2, f3⟩ := fI_of (a := adI a) g1
    show 0 ≤ fI (bn, (un, ui, ur, uq, um), bc, bw) (adI a) ∧ fI (bn, (un, ui, ur, uq, um), bc, bw) (adI a) < (bc.length : Int)
    rw [f3]; exact ⟨g1, f2⟩
  · rename_i g1 g2 g3 g4
    obtain ⟨f2, f3⟩ := fI_of (a := adI a) g1
    have g2 : fI (bn, (un, ui, ur, uq, um), bc, bw) (adI a) < (ds.length : Int) := g2
    show 0 ≤ fI (bn, (un, ui, ur, uq, um), bc, bw) (adI a) ∧ fI (bn, (un, ui, ur, uq, um), bc, bw) (adI a) < (ds.length : Int)
    rw [f3] at g2 ⊢; exact ⟨g1, g2⟩
  · rename_i g1 g2 g3 g4
    obtain ⟨f2, f3⟩ := fI_of (a := adI a) g1
    have g2 : fI (bn, (un, ui, ur, uq, um), bc, bw) (adI a) < (ds.length : Int) := g2
    show (fI (bn, (un, ui, ur, uq, um), bc, bw) (adI a)).toNat < ds.length
    rw [f3] at g2 ⊢
    have g1 : 0 ≤ findF (bn, (un, ui, ur, uq, um), bc, bw) (adI a) := g1
    omega
  · rename_i g1 g2 g3 g4
    obtain ⟨f2, f3⟩ := fI_of (a := adI a) g1
    have g1 : 0 ≤ findF (bn, (un, ui, ur, uq, um), bc, bw) (adI a) := g1
    have g2 : fI (bn, (un, ui, ur, uq, um), bc, bw) (adI a) < (ds.length : Int) := g2
    have f2 : findF (bn, (un, ui, ur, uq, um), bc, bw) (adI a) < (bc.length : Int) := f2
    show cP (bc.getD (fI (bn, (un, ui, ur, uq, um), bc, bw) (adI a)).toNat (dflt ChipT)) ∧ dP (ds.getD (fI (bn, (un, ui, ur, uq, um), bc, bw) (adI a)).toNat (dflt DevT))
    rw [f3] at g2 ⊢
    exact ⟨h2 _ (memD' _ (by omega)), h4 _ (memD' _ (by omega))⟩
  · rename_i g1 g2 g3 g4
    obtain ⟨f2, f3⟩ := fI_of (a := adI a) g1
    have g2 : fI (bn, (un, ui, ur, uq, um), bc, bw) (adI a) < (ds.length : Int) := g2
    show 0 ≤ fI (bn, (un, ui, ur, uq, um), bc, bw) (adI a) ∧ fI (bn, (un, ui, ur, uq, um), bc, bw) (adI a) < (ds.length : Int)
    rw [f3] at g2 ⊢; exact ⟨g1, g2⟩
  · rename_i g1 g2 g3 g4
    obtain ⟨f2, f3⟩ := fI_of (a := adI a) g1
    have g2 : fI (bn, (un, ui, ur, uq, um), bc, bw) (adI a) < (ds.length : Int) := g2
    show (fI (bn, (un, ui, ur, uq, um), bc, bw) (adI a)).toNat < ds.length
    rw [f3] at g2 ⊢
    have g1 : 0 ≤ findF (bn, (un, ui, ur, uq, um), bc, bw) (adI a) := g1
    omega
  · rename_i g1 g2 g3 g4
    obtain ⟨f2, f3⟩ := fI_of (a := adI a) g1
    have g2 : fI (bn, (un, ui, ur, uq, um), bc, bw) (adI a) < (ds.length : Int) := g2
    have g3 : (bc.getD (fI (bn, (un, ui, ur, uq, um), bc, bw) (adI a)).toNat (dflt ChipT)).2.1 ≥ 0 := g3
    have g4 : (bc.getD (fI (bn, (un, ui, ur, uq, um), bc, bw) (adI a)).toNat (dflt ChipT)).2.1 ≤ 2 := g4
    rw [f3] at g2 g3 g4
    have e : ((tm, (r, op, at_, nmi), ds.set (fI (bn, (un, ui, ur, uq, um), bc, bw) (adI a)).toNat (storeF (bc.getD (fI (bn, (un, ui, ur, uq, um), bc, bw) (adI a)).toNat (dflt ChipT)) (ds.getD (fI (bn, (un, ui, ur, uq, um), bc, bw) (adI a)).toNat (dflt DevT)) (atF (bn, (un, ui, ur, uq, um), bc, bw) (adI a)) k), bd, ba, bdt) : Mach) = pokeF (bn, (un, ui, ur, uq, um), bc, bw) (tm, (r, op, at_, nmi), ds, bd, ba, bdt) a k := by
      rw [f3, hatF g1]
      exact (if_pos (c := memAt (bn, (un, ui, ur, uq, um), bc, bw) (tm, (r, op, at_, nmi), ds, bd, ba, bdt) a) ⟨⟨g1, g2⟩, g3, g4⟩).symm
    exact .mk [] [3] _ rfl rfl rfl rfl rfl (congrArg (fun z : Mach => [some (Blk.arr DevT z.2.2.1)]) e) (congrArg (fun z : Mach => machO z 0) e)
  · rename_i g1 g2 g3 g4
    obtain ⟨f2, f3⟩ := fI_of (a := adI a) g1
    have g4 : ¬ (bc.getD (fI (bn, (un, ui, ur, uq, um), bc, bw) (adI a)).toNat (dflt ChipT)).2.1 ≤ 2 := g4
    rw [f3] at g4
    have e : ((tm, (r, op, at_, nmi), ds, bd, ba, bdt) : Mach) = pokeF (bn, (un, ui, ur, uq, um), bc, bw) (tm, (r, op, at_, nmi), ds, bd, ba, bdt) a k := (if_neg (c := memAt (bn, (un, ui, ur, uq, um), bc, bw) (tm, (r, op, at_, nmi), ds, bd, ba, bdt) a) fun h => g4 h.2.2).symm
    exact .mk [] [3] _ rfl rfl rfl rfl rfl (congrArg (fun z : Mach => [some (Blk.arr DevT z.2.2.1)]) e) (congrArg (fun z : Mach => machO z 0) e)
  · rename_i g1 g2 g3
    obtain ⟨f2, f3⟩ := fI_of (a := adI a) g1
    have g3 : ¬ (bc.getD (fI (bn, (un, ui, ur, uq, um), bc, bw) (adI a)).toNat (dflt ChipT)).2.1 ≥ 0 := g3
    rw [f3] at g3
    have e : ((tm, (r, op, at_, nmi), ds, bd, ba, bdt) : Mach) = pokeF (bn, (un, ui, ur, uq, um), bc, bw) (tm, (r, op, at_, nmi), ds, bd, ba, bdt) a k := (if_neg (c := memAt (bn, (un, ui, ur, uq, um), bc, bw) (tm, (r, op, at_, nmi), ds, bd, ba, bdt) a) fun h => g3 h.2.1).symm
    exact .mk [] [3] _ rfl rfl rfl rfl rfl (congrArg (fun z : Mach => [some (Blk.arr DevT z.2.2.1)]) e) (congrArg (fun z : Mach => machO z 0) e)
  · rename_i g1 g2
    obtain ⟨f2, f3⟩ := fI_of (a := adI a) g1
    have g2 : ¬ fI (bn, (un, ui, ur, uq, um), bc, bw) (adI a) < (ds.length : Int) := g2
    rw [f3] at g2
    have e : ((tm, (r, op, at_, nmi), ds, bd, ba, bdt) : Mach) = pokeF (bn, (un, ui, ur, uq, um), bc, bw) (tm, (r, op, at_, nmi), ds, bd, ba, bdt) a k := (if_neg (c := memAt (bn, (un, ui, ur, uq, um), bc, bw) (tm, (r, op, at_, nmi), ds, bd, ba, bdt) a) fun h => g2 h.1.2).symm
    exact .mk [] [3] _ rfl rfl rfl rfl rfl (congrArg (fun z : Mach => [some (Blk.arr DevT z.2.2.1)]) e) (congrArg (fun z : Mach => machO z 0) e)
  · rename_i g1
    have g1 : ¬ 0 ≤ findF (bn, (un, ui, ur, uq, um), bc, bw) (adI a) := g1
    have e : ((tm, (r, op, at_, nmi), ds, bd, ba, bdt) : Mach) = pokeF (bn, (un, ui, ur, uq, um), bc, bw) (tm, (r, op, at_, nmi), ds, bd, ba, bdt) a k := (if_neg (c := memAt (bn, (un, ui, ur, uq, um), bc, bw) (tm, (r, op, at_, nmi), ds, bd, ba, bdt) a) fun h => g1 h.1.1).symm
    exact .mk [] [3] _ rfl rfl rfl rfl rfl (congrArg (fun z : Mach => [some (Blk.arr DevT z.2.2.1)]) e) (congrArg (fun z : Mach => machO z 0) e)

end Go.Proofs.YtofgbclopbmlcaaGreat

/- One cycle of a machine, as a plain function; its bounds. -/
namespace Go.Proofs.YtofgbclopbmlcaaGreat
open Go.Fw
set_option linter.unusedVariables false
set_option linter.unusedSimpArgs false
set_option linter.constructorNameAsVariable false
set_option maxRecDepth 100000

abbrev InpT : Ty := .pair (.int .i64) (.pair .str (.int .i64))
abbrev Inp := Int × ByteArray × Int
abbrev gIn : Sig := ⟨false, .sl InpT⟩

-- states turned one after the other

-- inputs

-- the line

-- the bus

-- what is shown

def newO (t : Int) : List Cv → List Dv → List Int → List Inp
  | c :: cs, d :: ds, n :: ns => if shwF c d = n then newO t cs ds ns else (t, c.1, shwF c d) :: newO t cs ds ns
  | _, _, _ => []
def newK (t : Int) (cs : List Cv) (ds : List Dv) (ns : List Int) (k : Nat) : List Inp := newO t (cs.take k) (ds.take k) (ns.take k)
-- a cycle

end Go.Proofs.YtofgbclopbmlcaaGreat

/- Chips by name (printed by genix3.py). -/
namespace Go.Proofs.YtofgbclopbmlcaaGreat
open Go.Fw
set_option linter.unusedVariables false
set_option linter.unusedSimpArgs false
set_option linter.constructorNameAsVariable false
set_option maxRecDepth 100000

def nmB (s : ByteArray) (c : Cv) : Bool := strEq c.1 s

def bicRd : List V1 → List Blk → Option (Cv × ByteArray) := fun a b => match a, b with
  | [.agg [.imm (.string en), .imm (.int .i64 ek), .imm (.int .i64 eb), .imm (.int .i64 es), .ro (.int .u8) ed], .c (.ptr 0 0)], [.var [.imm (.string s)]] => some ((en, ek, eb, es, ed), s)
  | _, _ => none
theorem bicRd_ok {a : List V1} {b : List Blk} {x : Cv × ByteArray} (h : bicRd a b = some x) : a = [.agg [.imm (.string x.1.1), iv .i64 x.1.2.1, iv .i64 x.1.2.2.1, iv .i64 x.1.2.2.2.1, .ro (.int .u8) x.1.2.2.2.2], .c (.ptr 0 0)] ∧ b = [.var [.imm (.string x.2)]] := by
  unfold bicRd at h
  split at h
  · injection h with h; subst h; exact ⟨rfl, rfl⟩
  · cases h
def bicS : WSpec := ⟨Cv × ByteArray, fun x => [.agg [.imm (.string x.1.1), iv .i64 x.1.2.1, iv .i64 x.1.2.2.1, iv .i64 x.1.2.2.2.1, .ro (.int .u8) x.1.2.2.2.2], .c (.ptr 0 0)], fun x => [.var [.imm (.string x.2)]], bicRd,
  fun x => (some ((fun _ => True) x.2), .cell (bv (nmB x.2 x.1)), [some (.var [.imm (.string x.2)])], [])⟩
theorem bic_ok : GoodF Tryz.prog 241 bicS.spec := by
  have hT := tab_ok (fs := []) tree_ok
  have hP : SpecsOk Tryz.prog (tab tree []) := specs_nil
  refine bicS.good (fn := Tryz.f241) hT hP Tryz.func241 (by kernel_rfl) rfl (fun _ _ _ h => bicRd_ok h) fun (x : Cv × ByteArray) hq => ?_
  have hq : (fun _ => True) x.2 := hq _ rfl
  repeat' first
    | (refine Go.mk ?_; conv => whnf)
    | refine Need.go ?_ ?_
    | refine NilG.go (fun _ => ?_) (fun _ => ?_)
    | refine Br.dec (fun _ => ?_) (fun _ => ?_)
    | refine Br.go (fun _ => ?_) (fun _ => ?_)
    | refine draw_go hT hP mixed ?_
    | refine round_go hT hP ?_
  all_goals exact .mk [] [0] _ rfl rfl rfl rfl rfl rfl rfl
structure biX where
  l : List Cv
  d : ByteArray
def biRd : List V1 → List Blk → Option biX := fun a b => match a, b with
  | [.c (.ro (.pair .str (.pair (.int .i64) (.pair (.int .i64) (.pair (.int .i64) (.sl (.int .u8)))))) l), .c (.fn 241 [0])], [.var [.imm (.string s)]] => some ⟨l, s⟩
  | _, _ => none
theorem biRd_ok {a : List V1} {b : List Blk} {x : biX} (h : biRd a b = some x) : a = [.c (.ro ChipT x.l), .c (.fn 241 [0])] ∧ b = [.var [.imm (.string x.d)]] := by
  unfold biRd at h
  split at h
  · injection h with h; subst h; exact ⟨rfl, rfl⟩
  · cases h
def biiS : WSpec := ⟨biX, fun x => [.c (.ro ChipT x.l), .c (.fn 241 [0])], fun x => [.var [.imm (.string x.d)]], biRd,
  fun x => (some (x.l.length ≤ 4611686018427387904 ∧ (fun _ => True) x.d), I (fstI (nmB x.d) x.l), [some (.var [.imm (.string x.d)])], [])⟩
theorem bii_ok : GoodF Tryz.prog 98 biiS.spec := by
  have hT := tab_ok (fs := [(241, bicS.spec)]) tree_ok
  have hP : SpecsOk Tryz.prog (tab tree [(241, bicS.spec)]) := specs_cons bic_ok specs_nil
  refine biiS.good (fn := Tryz.f98) hT hP Tryz.func98 (by kernel_rfl) rfl (fun _ _ _ h => biRd_ok h) fun (x : biX) hq => ?_
  obtain ⟨hl, hq⟩ : x.l.length ≤ 4611686018427387904 ∧ (fun _ => True) x.d := hq _ rfl
  obtain ⟨l, d⟩ := x
  have hl : l.length ≤ 4611686018427387904 := hl
  repeat' first
    | (refine Go.mk ?_; conv => whnf)
    | refine Need.go ?_ ?_
    | refine NilG.go (fun _ => ?_) (fun _ => ?_)
    | refine Br.dec (fun _ => ?_) (fun _ => ?_)
    | refine Br.go (fun _ => ?_) (fun _ => ?_)
    | refine draw_go hT hP mixed ?_
    | refine round_go hT hP ?_
  refine up_go hT hP (A := Unit) l.length (fun i _ => St.mk [.cell (.ro ChipT l), .cell (.fn 241 [0]), .dead, .dead, .dead, .dead, .dead, I l.length, I i, .dead, .dead, .dead, .dead, .dead, .dead, .dead, .dead, .dead, .dead] [some (.var [.imm (.string d)])])
    (fun k _ => fstG (nmB d) (l.drop k) k = fstI (nmB d) l) () (Le.mk [] [0] rfl rfl rfl ?_) rfl fun k _ hk hi => ?_
  · repeat' first | exact trivial | exact ⟨rfl, rfl⟩ | refine And.intro ?_ ?_
  repeat' first
    | (refine Go.mk ?_; conv => whnf)
    | refine Need.go ?_ ?_
    | refine NilG.go (fun _ => ?_) (fun _ => ?_)
    | refine Br.dec (fun _ => ?_) (fun _ => ?_)
    | refine Br.go (fun _ => ?_) (fun _ => ?_)
    | refine draw_go hT hP mixed ?_
    | refine round_go hT hP ?_
  all_goals clear hT hP
  · rename_i g1
    have g1 : (k : Int) < (l.length : Int) := g1
    show 0 ≤ (k : Int) ∧ (k : Int) < (l.length : Int)
    omega
  · first | exact hq | exact trivial
  · rename_i g1 g2
    have g1 : (k : Int) < (l.length : Int) := g1
    exact .mk [] [0] _ rfl rfl rfl rfl rfl rfl (imm_int (fst_hit (dflt ChipT) (by omega) g2 hi))
  · rename_i g1 g2
    have g1 : (k : Int) < (l.length : Int) := g1
    have hp : ¬ nmB d (l.getD k (dflt ChipT)) = true := by
      have g2 : nmB d (l.getD k (dflt ChipT)) = false := g2
      rw [g2]; decide
    apply Exists.intro
    apply Exists.intro ()
    refine And.intro (And.intro ?lt88 (And.intro ?ei88 ?inv88)) (Le.mk [] [0] rfl rfl ?hh88 ?ht88)
    case hh88 => exact rfl
    case ht88 => repeat' first | exact trivial | exact ⟨rfl, rfl⟩ | refine And.intro ?_ ?_
    case lt88 => omega
    case ei88 => exact up_i (by omega)
    exact fst_miss (dflt ChipT) (by omega) hp hi
  · rename_i g1
    have g1 : ¬ (k : Int) < (l.length : Int) := g1
    exact .mk [] [0] _ rfl rfl rfl rfl rfl rfl (imm_int (fst_none (by omega) hi))

def bindexS : PSpec := ⟨[gBd, gStr], fun (b, s, _) => (some (b.2.2.1.length ≤ 4611686018427387904), I (fstI (nmB s) b.2.2.1), [])⟩
theorem bindex_ok : GoodF Tryz.prog 194 bindexS.spec := by
  have hT := tab_ok (fs := [(98, biiS.spec)]) tree_ok
  have hP : SpecsOk Tryz.prog (tab tree [(98, biiS.spec)]) := specs_cons bii_ok specs_nil
  refine bindexS.good (fn := Tryz.f194) hT hP Tryz.func194 (by kernel_rfl) rfl fun (b : Bd) (s : ByteArray) hq => ?_
  have hl : b.2.2.1.length ≤ 4611686018427387904 := hq _ rfl
  obtain ⟨bn, ⟨un, ui, ur, uq, um⟩, bc, bw⟩ := b
  clear hq
  repeat' first
    | (refine Go.mk ?_; conv => whnf)
    | refine Need.go ?_ ?_
    | refine NilG.go (fun _ => ?_) (fun _ => ?_)
    | refine Br.dec (fun _ => ?_) (fun _ => ?_)
    | refine Br.go (fun _ => ?_) (fun _ => ?_)
    | refine draw_go hT hP mixed ?_
    | refine round_go hT hP ?_
  all_goals first
    | exact ⟨hl, trivial⟩
    | exact .mk [] [] _ rfl rfl rfl rfl rfl rfl rfl
    | skip

end Go.Proofs.YtofgbclopbmlcaaGreat

/- Chips by name, for inputs and cables (printed by genix4.py). -/
namespace Go.Proofs.YtofgbclopbmlcaaGreat
open Go.Fw
set_option linter.unusedVariables false
set_option linter.unusedSimpArgs false
set_option linter.constructorNameAsVariable false
set_option maxRecDepth 100000

def inB (x : Inp) (c : Cv) : Bool := strEq c.1 x.2.1

def micRd : List V1 → List Blk → Option (Cv × Inp) := fun a b => match a, b with
  | [.agg [.imm (.string en), .imm (.int .i64 ek), .imm (.int .i64 eb), .imm (.int .i64 es), .ro (.int .u8) ed], .c (.ptr 0 0)], [.var [.imm (.int .i64 ia), .imm (.string ic), .imm (.int .i64 n)]] => some ((en, ek, eb, es, ed), (ia, ic, n))
  | _, _ => none
theorem micRd_ok {a : List V1} {b : List Blk} {x : Cv × Inp} (h : micRd a b = some x) : a = [.agg [.imm (.string x.1.1), iv .i64 x.1.2.1, iv .i64 x.1.2.2.1, iv .i64 x.1.2.2.2.1, .ro (.int .u8) x.1.2.2.2.2], .c (.ptr 0 0)] ∧ b = [.var [iv .i64 x.2.1, .imm (.string x.2.2.1), iv .i64 x.2.2.2]] := by
  unfold micRd at h
  split at h
  · injection h with h; subst h; exact ⟨rfl, rfl⟩
  · cases h
def micS : WSpec := ⟨Cv × Inp, fun x => [.agg [.imm (.string x.1.1), iv .i64 x.1.2.1, iv .i64 x.1.2.2.1, iv .i64 x.1.2.2.2.1, .ro (.int .u8) x.1.2.2.2.2], .c (.ptr 0 0)], fun x => [.var [iv .i64 x.2.1, .imm (.string x.2.2.1), iv .i64 x.2.2.2]], micRd,
  fun x => (some ((fun _ => True) x.2), .cell (bv (inB x.2 x.1)), [some (.var [iv .i64 x.2.1, .imm (.string x.2.2.1), iv .i64 x.2.2.2])], [])⟩
theorem mic_ok : GoodF Tryz.prog 54 micS.spec := by
  have hT := tab_ok (fs := []) tree_ok
  have hP : SpecsOk Tryz.prog (tab tree []) := specs_nil
  refine micS.good (fn := Tryz.f54) hT hP Tryz.func54 (by kernel_rfl) rfl (fun _ _ _ h => micRd_ok h) fun (x : Cv × Inp) hq => ?_
  have hq : (fun _ => True) x.2 := hq _ rfl
  repeat' first
    | (refine Go.mk ?_; conv => whnf)
    | refine Need.go ?_ ?_
    | refine NilG.go (fun _ => ?_) (fun _ => ?_)
    | refine Br.dec (fun _ => ?_) (fun _ => ?_)
    | refine Br.go (fun _ => ?_) (fun _ => ?_)
    | refine draw_go hT hP mixed ?_
    | refine round_go hT hP ?_
  all_goals exact .mk [] [0] _ rfl rfl rfl rfl rfl rfl rfl
structure miX where
  l : List Cv
  d : Inp
def miRd : List V1 → List Blk → Option miX := fun a b => match a, b with
  | [.c (.ro (.pair .str (.pair (.int .i64) (.pair (.int .i64) (.pair (.int .i64) (.sl (.int .u8)))))) l), .c (.fn 54 [0])], [.var [.imm (.int .i64 ia), .imm (.string ic), .imm (.int .i64 n)]] => some ⟨l, (ia, ic, n)⟩
  | _, _ => none
theorem miRd_ok {a : List V1} {b : List Blk} {x : miX} (h : miRd a b = some x) : a = [.c (.ro ChipT x.l), .c (.fn 54 [0])] ∧ b = [.var [iv .i64 x.d.1, .imm (.string x.d.2.1), iv .i64 x.d.2.2]] := by
  unfold miRd at h
  split at h
  · injection h with h; subst h; exact ⟨rfl, rfl⟩
  · cases h
def miiS : WSpec := ⟨miX, fun x => [.c (.ro ChipT x.l), .c (.fn 54 [0])], fun x => [.var [iv .i64 x.d.1, .imm (.string x.d.2.1), iv .i64 x.d.2.2]], miRd,
  fun x => (some (x.l.length ≤ 4611686018427387904 ∧ (fun _ => True) x.d), I (fstI (inB x.d) x.l), [some (.var [iv .i64 x.d.1, .imm (.string x.d.2.1), iv .i64 x.d.2.2])], [])⟩
theorem mii_ok : GoodF Tryz.prog 98 miiS.spec := by
  have hT := tab_ok (fs := [(54, micS.spec)]) tree_ok
  have hP : SpecsOk Tryz.prog (tab tree [(54, micS.spec)]) := specs_cons mic_ok specs_nil
  refine miiS.good (fn := Tryz.f98) hT hP Tryz.func98 (by kernel_rfl) rfl (fun _ _ _ h => miRd_ok h) fun (x : miX) hq => ?_
  obtain ⟨hl, hq⟩ : x.l.length ≤ 4611686018427387904 ∧ (fun _ => True) x.d := hq _ rfl
  obtain ⟨l, d⟩ := x
  have hl : l.length ≤ 4611686018427387904 := hl
  repeat' first
    | (refine Go.mk ?_; conv => whnf)
    | refine Need.go ?_ ?_
    | refine NilG.go (fun _ => ?_) (fun _ => ?_)
    | refine Br.dec (fun _ => ?_) (fun _ => ?_)
    | refine Br.go (fun _ => ?_) (fun _ => ?_)
    | refine draw_go hT hP mixed ?_
    | refine round_go hT hP ?_
  refine up_go hT hP (A := Unit) l.length (fun i _ => St.mk [.cell (.ro ChipT l), .cell (.fn 54 [0]), .dead, .dead, .dead, .dead, .dead, I l.length, I i, .dead, .dead, .dead, .dead, .dead, .dead, .dead, .dead, .dead, .dead] [some (.var [iv .i64 d.1, .imm (.string d.2.1), iv .i64 d.2.2])])
    (fun k _ => fstG (inB d) (l.drop k) k = fstI (inB d) l) () (Le.mk [] [0] rfl rfl rfl ?_) rfl fun k _ hk hi => ?_
  · repeat' first | exact trivial | exact ⟨rfl, rfl⟩ | refine And.intro ?_ ?_
  repeat' first
    | (refine Go.mk ?_; conv => whnf)
    | refine Need.go ?_ ?_
    | refine NilG.go (fun _ => ?_) (fun _ => ?_)
    | refine Br.dec (fun _ => ?_) (fun _ => ?_)
    | refine Br.go (fun _ => ?_) (fun _ => ?_)
    | refine draw_go hT hP mixed ?_
    | refine round_go hT hP ?_
  all_goals clear hT hP
  · rename_i g1
    have g1 : (k : Int) < (l.length : Int) := g1
    show 0 ≤ (k : Int) ∧ (k : Int) < (l.length : Int)
    omega
  · first | exact hq | exact trivial
  · rename_i g1 g2
    have g1 : (k : Int) < (l.length : Int) := g1
    exact .mk [] [0] _ rfl rfl rfl rfl rfl rfl (imm_int (fst_hit (dflt ChipT) (by omega) g2 hi))
  · rename_i g1 g2
    have g1 : (k : Int) < (l.length : Int) := g1
    have hp : ¬ inB d (l.getD k (dflt ChipT)) = true := by
      have g2 : inB d (l.getD k (dflt ChipT)) = false := g2
      rw [g2]; decide
    apply Exists.intro
    apply Exists.intro ()
    refine And.intro (And.intro ?lt89 (And.intro ?ei89 ?inv89)) (Le.mk [] [0] rfl rfl ?hh89 ?ht89)
    case hh89 => exact rfl
    case ht89 => repeat' first | exact trivial | exact ⟨rfl, rfl⟩ | refine And.intro ?_ ?_
    case lt89 => omega
    case ei89 => exact up_i (by omega)
    exact fst_miss (dflt ChipT) (by omega) hp hi
  · rename_i g1
    have g1 : ¬ (k : Int) < (l.length : Int) := g1
    exact .mk [] [0] _ rfl rfl rfl rfl rfl rfl (imm_int (fst_none (by omega) hi))

def mitS : WSpec := ⟨miX, fun x => [.c (.ro ChipT x.l), .c (.fn 54 [0])], fun x => [.var [iv .i64 x.d.1, .imm (.string x.d.2.1), iv .i64 x.d.2.2]], miRd,
  fun x => (some (x.l.length ≤ 4611686018427387904 ∧ (fun _ => True) x.d), .cell (bv (x.l.any (inB x.d))), [some (.var [iv .i64 x.d.1, .imm (.string x.d.2.1), iv .i64 x.d.2.2])], [])⟩
theorem mit_ok : GoodF Tryz.prog 49 mitS.spec := by
  have hT := tab_ok (fs := [(98, miiS.spec)]) tree_ok
  have hP : SpecsOk Tryz.prog (tab tree [(98, miiS.spec)]) := specs_cons mii_ok specs_nil
  refine mitS.good (fn := Tryz.f49) hT hP Tryz.func49 (by kernel_rfl) rfl (fun _ _ _ h => miRd_ok h) fun (x : miX) hq => ?_
  have hq : x.l.length ≤ 4611686018427387904 ∧ (fun _ => True) x.d := hq _ rfl
  obtain ⟨l, d⟩ := x
  repeat' first
    | (refine Go.mk ?_; conv => whnf)
    | refine Need.go ?_ ?_
    | refine NilG.go (fun _ => ?_) (fun _ => ?_)
    | refine Br.dec (fun _ => ?_) (fun _ => ?_)
    | refine Br.go (fun _ => ?_) (fun _ => ?_)
    | refine draw_go hT hP mixed ?_
    | refine round_go hT hP ?_
  all_goals clear hT hP
  · first | exact hq | exact trivial
  · exact .mk [] [0] _ rfl rfl rfl rfl rfl rfl (imm_bool (fst_any (inB d) l))

end Go.Proofs.YtofgbclopbmlcaaGreat

/- Chips by name, for inputs and cables (printed by genix4.py). -/
namespace Go.Proofs.YtofgbclopbmlcaaGreat
open Go.Fw
set_option linter.unusedVariables false
set_option linter.unusedSimpArgs false
set_option linter.constructorNameAsVariable false
set_option maxRecDepth 100000

def serB (s : ByteArray) (c : Cv) : Bool := bif strEq c.1 s then decide (c.2.1 = 5) else false

def lscRd : List V1 → List Blk → Option (Cv × ByteArray) := fun a b => match a, b with
  | [.agg [.imm (.string en), .imm (.int .i64 ek), .imm (.int .i64 eb), .imm (.int .i64 es), .ro (.int .u8) ed], .c (.ptr 0 0)], [.var [.imm (.string s)]] => some ((en, ek, eb, es, ed), s)
  | _, _ => none
theorem lscRd_ok {a : List V1} {b : List Blk} {x : Cv × ByteArray} (h : lscRd a b = some x) : a = [.agg [.imm (.string x.1.1), iv .i64 x.1.2.1, iv .i64 x.1.2.2.1, iv .i64 x.1.2.2.2.1, .ro (.int .u8) x.1.2.2.2.2], .c (.ptr 0 0)] ∧ b = [.var [.imm (.string x.2)]] := by
  unfold lscRd at h
  split at h
  · injection h with h; subst h; exact ⟨rfl, rfl⟩
  · cases h
def lscS : WSpec := ⟨Cv × ByteArray, fun x => [.agg [.imm (.string x.1.1), iv .i64 x.1.2.1, iv .i64 x.1.2.2.1, iv .i64 x.1.2.2.2.1, .ro (.int .u8) x.1.2.2.2.2], .c (.ptr 0 0)], fun x => [.var [.imm (.string x.2)]], lscRd,
  fun x => (some ((fun _ => True) x.2), .cell (bv (serB x.2 x.1)), [some (.var [.imm (.string x.2)])], [])⟩
theorem lsc_ok : GoodF Tryz.prog 97 lscS.spec := by
  have hT := tab_ok (fs := []) tree_ok
  have hP : SpecsOk Tryz.prog (tab tree []) := specs_nil
  refine lscS.good (fn := Tryz.f97) hT hP Tryz.func97 (by kernel_rfl) rfl (fun _ _ _ h => lscRd_ok h) fun (x : Cv × ByteArray) hq => ?_
  have hq : (fun _ => True) x.2 := hq _ rfl
  repeat' first
    | (refine Go.mk ?_; conv => whnf)
    | refine Need.go ?_ ?_
    | refine NilG.go (fun _ => ?_) (fun _ => ?_)
    | refine Br.dec (fun _ => ?_) (fun _ => ?_)
    | refine Br.go (fun _ => ?_) (fun _ => ?_)
    | refine draw_go hT hP mixed ?_
    | refine round_go hT hP ?_
  all_goals clear hT hP
  all_goals first
    | (rename_i g
       have g : strEq x.1.1 x.2 = true := g
       refine .mk [] [0] _ rfl rfl rfl rfl rfl rfl (imm_bool ?_)
       show _ = bif strEq x.1.1 x.2 then decide (x.1.2.1 = 5) else false
       rw [g]; rfl)
    | (rename_i g
       have g : strEq x.1.1 x.2 = false := g
       refine .mk [] [0] _ rfl rfl rfl rfl rfl rfl (imm_bool ?_)
       show _ = bif strEq x.1.1 x.2 then decide (x.1.2.1 = 5) else false
       rw [g]; rfl)
    | skip
structure lsX where
  l : List Cv
  d : ByteArray
def lsRd : List V1 → List Blk → Option lsX := fun a b => match a, b with
  | [.c (.ro (.pair .str (.pair (.int .i64) (.pair (.int .i64) (.pair (.int .i64) (.sl (.int .u8)))))) l), .c (.fn 97 [0])], [.var [.imm (.string s)]] => some ⟨l, s⟩
  | _, _ => none
theorem lsRd_ok {a : List V1} {b : List Blk} {x : lsX} (h : lsRd a b = some x) : a = [.c (.ro ChipT x.l), .c (.fn 97 [0])] ∧ b = [.var [.imm (.string x.d)]] := by
  unfold lsRd at h
  split at h
  · injection h with h; subst h; exact ⟨rfl, rfl⟩
  · cases h
def lsiS : WSpec := ⟨lsX, fun x => [.c (.ro ChipT x.l), .c (.fn 97 [0])], fun x => [.var [.imm (.string x.d)]], lsRd,
  fun x => (some (x.l.length ≤ 4611686018427387904 ∧ (fun _ => True) x.d), I (fstI (serB x.d) x.l), [some (.var [.imm (.string x.d)])], [])⟩
theorem lsi_ok : GoodF Tryz.prog 98 lsiS.spec := by
  have hT := tab_ok (fs := [(97, lscS.spec)]) tree_ok
  have hP : SpecsOk Tryz.prog (tab tree [(97, lscS.spec)]) := specs_cons lsc_ok specs_nil
  refine lsiS.good (fn := Tryz.f98) hT hP Tryz.func98 (by kernel_rfl) rfl (fun _ _ _ h => lsRd_ok h) fun (x : lsX) hq => ?_
  obtain ⟨hl, hq⟩ : x.l.length ≤ 4611686018427387904 ∧ (fun _ => True) x.d := hq _ rfl
  obtain ⟨l, d⟩ := x
  have hl : l.length ≤ 4611686018427387904 := hl
  repeat' first
    | (refine Go.mk ?_; conv => whnf)
    | refine Need.go ?_ ?_
    | refine NilG.go (fun _ => ?_) (fun _ => ?_)
    | refine Br.dec (fun _ => ?_) (fun _ => ?_)
    | refine Br.go (fun _ => ?_) (fun _ => ?_)
    | refine draw_go hT hP mixed ?_
    | refine round_go hT hP ?_
  refine up_go hT hP (A := Unit) l.length (fun i _ => St.mk [.cell (.ro ChipT l), .cell (.fn 97 [0]), .dead, .dead, .dead, .dead, .dead, I l.length, I i, .dead, .dead, .dead, .dead, .dead, .dead, .dead, .dead, .dead, .dead] [some (.var [.imm (.string d)])])
    (fun k _ => fstG (serB d) (l.drop k) k = fstI (serB d) l) () (Le.mk [] [0] rfl rfl rfl ?_) rfl fun k _ hk hi => ?_
  · repeat' first | exact trivial | exact ⟨rfl, rfl⟩ | refine And.intro ?_ ?_
  repeat' first
    | (refine Go.mk ?_; conv => whnf)
    | refine Need.go ?_ ?_
    | refine NilG.go (fun _ => ?_) (fun _ => ?_)
    | refine Br.dec (fun _ => ?_) (fun _ => ?_)
    | refine Br.go (fun _ => ?_) (fun _ => ?_)
    | refine draw_go hT hP mixed ?_
    | refine round_go hT hP ?_
  all_goals clear hT hP
  · rename_i g1
    have g1 : (k : Int) < (l.length : Int) := g1
    show 0 ≤ (k : Int) ∧ (k : Int) < (l.length : Int)
    omega
  · first | exact hq | exact trivial
  · rename_i g1 g2
    have g1 : (k : Int) < (l.length : Int) := g1
    exact .mk [] [0] _ rfl rfl rfl rfl rfl rfl (imm_int (fst_hit (dflt ChipT) (by omega) g2 hi))
  · rename_i g1 g2
    have g1 : (k : Int) < (l.length : Int) := g1
    have hp : ¬ serB d (l.getD k (dflt ChipT)) = true := by
      have g2 : serB d (l.getD k (dflt ChipT)) = false := g2
      rw [g2]; decide
    apply Exists.intro
    apply Exists.intro ()
    refine And.intro (And.intro ?lt101 (And.intro ?ei101 ?inv101)) (Le.mk [] [0] rfl rfl ?hh101 ?ht101)
    case hh101 => exact rfl
    case ht101 => repeat' first | exact trivial | exact ⟨rfl, rfl⟩ | refine And.intro ?_ ?_
    case lt101 => omega
    case ei101 => exact up_i (by omega)
    exact fst_miss (dflt ChipT) (by omega) hp hi
  · rename_i g1
    have g1 : ¬ (k : Int) < (l.length : Int) := g1
    exact .mk [] [0] _ rfl rfl rfl rfl rfl rfl (imm_int (fst_none (by omega) hi))

def lstS : WSpec := ⟨lsX, fun x => [.c (.ro ChipT x.l), .c (.fn 97 [0])], fun x => [.var [.imm (.string x.d)]], lsRd,
  fun x => (some (x.l.length ≤ 4611686018427387904 ∧ (fun _ => True) x.d), .cell (bv (x.l.any (serB x.d))), [some (.var [.imm (.string x.d)])], [])⟩
theorem lst_ok : GoodF Tryz.prog 49 lstS.spec := by
  have hT := tab_ok (fs := [(98, lsiS.spec)]) tree_ok
  have hP : SpecsOk Tryz.prog (tab tree [(98, lsiS.spec)]) := specs_cons lsi_ok specs_nil
  refine lstS.good (fn := Tryz.f49) hT hP Tryz.func49 (by kernel_rfl) rfl (fun _ _ _ h => lsRd_ok h) fun (x : lsX) hq => ?_
  have hq : x.l.length ≤ 4611686018427387904 ∧ (fun _ => True) x.d := hq _ rfl
  obtain ⟨l, d⟩ := x
  repeat' first
    | (refine Go.mk ?_; conv => whnf)
    | refine Need.go ?_ ?_
    | refine NilG.go (fun _ => ?_) (fun _ => ?_)
    | refine Br.dec (fun _ => ?_) (fun _ => ?_)
    | refine Br.go (fun _ => ?_) (fun _ => ?_)
    | refine draw_go hT hP mixed ?_
    | refine round_go hT hP ?_
  all_goals clear hT hP
  · first | exact hq | exact trivial
  · exact .mk [] [0] _ rfl rfl rfl rfl rfl rfl (imm_bool (fst_any (serB d) l))

end Go.Proofs.YtofgbclopbmlcaaGreat

/- board.wire: what is wrong with a wire. -/
namespace Go.Proofs.YtofgbclopbmlcaaGreat
open Go.Fw
set_option linter.unusedVariables false
set_option linter.unusedSimpArgs false
set_option linter.constructorNameAsVariable false
set_option maxRecDepth 100000

def irqP : ByteArray := ⟨#[105, 114, 113]⟩
def wireI (b : Bd) (w : Wr) : Int := fstI (nmB (cutB w.1)) b.2.2.1
def wireE (b : Bd) (w : Wr) : Int := if wireI b w < 0 then 4 else if strEq (cutA w.1) irqP = false ∨ askK (b.2.2.1.getD (wireI b w).toNat (dflt ChipT)).2.1 = false then 8 else if strEq w.2 cpuIrq = false then 20 else 0
def bwireS : PSpec := ⟨[gBd, (⟨true, WireT⟩ : Sig)], fun (b, w, _) => (some (b.2.2.1.length ≤ 4611686018427387904 ∧ w.1.size ≤ 140737488351232), I (wireE b w), [])⟩
theorem bwire_ok : GoodF Tryz.prog 103 bwireS.spec := by
  have hT := tab_ok (fs := [(193, cutS.spec), (194, bindexS.spec), (122, asksS.spec)]) tree_ok
  have hP : SpecsOk Tryz.prog (tab tree [(193, cutS.spec), (194, bindexS.spec), (122, asksS.spec)]) := specs_cons cut_ok (specs_cons bindex_ok (specs_cons bAsks_ok specs_nil))
  refine bwireS.good (fn := Tryz.f103) hT hP Tryz.func103 (by kernel_rfl) rfl fun (b : Bd) (w : Wr) hq => ?_
  obtain ⟨hl, hw⟩ : b.2.2.1.length ≤ 4611686018427387904 ∧ w.1.size ≤ 140737488351232 := hq _ rfl
  clear hq
  have hin := fstI_in (nmB (cutB w.1)) b.2.2.1
  obtain ⟨bn, ⟨un, ui, ur, uq, um⟩, bc, bw⟩ := b
  obtain ⟨wf, wt⟩ := w
  repeat' first
    | (refine Go.mk ?_; conv => whnf)
    | refine Need.go ?_ ?_
    | refine NilG.go (fun _ => ?_) (fun _ => ?_)
    | refine Br.dec (fun _ => ?_) (fun _ => ?_)
    | refine Br.go (fun _ => ?_) (fun _ => ?_)
    | refine draw_go hT hP mixed ?_
    | refine round_go hT hP ?_
  all_goals (try dsimp only [castL_eq] at *)
  all_goals clear hT hP
  · exact ⟨rfl, hw⟩
  · exact hl
  · rename_i g1
    refine .mk [] [] _ rfl rfl rfl rfl rfl rfl (imm_int ?_)
    exact (if_pos g1 : wireE (bn, (un, ui, ur, uq, um), bc, bw) (wf, wt) = 4).symm
  · rename_i g1 g2
    have g2 : (!strEq (cutA wf) irqP) = true := g2
    refine .mk [] [] _ rfl rfl rfl rfl rfl rfl (imm_int ?_)
    show 8 = wireE (bn, (un, ui, ur, uq, um), bc, bw) (wf, wt)
    unfold wireE wireI
    rw [if_neg (show ¬ fstI (nmB (cutB wf)) bc < 0 from g1), if_pos (.inl (by simpa using g2))]
  · rename_i g1 g2
    show 0 ≤ fstI (nmB (cutB wf)) bc ∧ fstI (nmB (cutB wf)) bc < (bc.length : Int)
    have g1 : ¬ fstI (nmB (cutB wf)) bc < 0 := g1
    have hin : fstI (nmB (cutB wf)) bc = -1 ∨ (0 ≤ fstI (nmB (cutB wf)) bc ∧ fstI (nmB (cutB wf)) bc < bc.length) := hin
    omega
  · rename_i g1 g2 g3
    have g3 : (!askK (bc.getD (fstI (nmB (cutB wf)) bc).toNat (dflt ChipT)).2.1) = true := g3
    refine .mk [] [] _ rfl rfl rfl rfl rfl rfl (imm_int ?_)
    show 8 = wireE (bn, (un, ui, ur, uq, um), bc, bw) (wf, wt)
    unfold wireE wireI
    rw [if_neg (show ¬ fstI (nmB (cutB wf)) bc < 0 from g1), if_pos (.inr (by simpa using g3))]
  · rename_i g1 g2 g3 g4
    have g2 : (!strEq (cutA wf) irqP) = false := g2
    have g3 : (!askK (bc.getD (fstI (nmB (cutB wf)) bc).toNat (dflt ChipT)).2.1) = false := g3
    have g4 : (!strEq wt cpuIrq) = true := g4
    refine .mk [] [] _ rfl rfl rfl rfl rfl rfl (imm_int ?_)
    show 20 = wireE (bn, (un, ui, ur, uq, um), bc, bw) (wf, wt)
    unfold wireE wireI
    rw [if_neg (show ¬ fstI (nmB (cutB wf)) bc < 0 from g1), if_neg (show ¬ (strEq (cutA wf) irqP = false ∨ askK (bc.getD (fstI (nmB (cutB wf)) bc).toNat (dflt ChipT)).2.1 = false) from fun h => h.elim (fun h => by rw [h] at g2; cases g2) (fun h => by rw [h] at g3; cases g3)), if_pos (show strEq wt cpuIrq = false by simpa using g4)]
  · rename_i g1 g2 g3 g4
    have g2 : (!strEq (cutA wf) irqP) = false := g2
    have g3 : (!askK (bc.getD (fstI (nmB (cutB wf)) bc).toNat (dflt ChipT)).2.1) = false := g3
    have g4 : (!strEq wt cpuIrq) = false := g4
    refine .mk [] [] _ rfl rfl rfl rfl rfl rfl (imm_int ?_)
    show 0 = wireE (bn, (un, ui, ur, uq, um), bc, bw) (wf, wt)
    unfold wireE wireI
    rw [if_neg (show ¬ fstI (nmB (cutB wf)) bc < 0 from g1), if_neg (show ¬ (strEq (cutA wf) irqP = false ∨ askK (bc.getD (fstI (nmB (cutB wf)) bc).toNat (dflt ChipT)).2.1 = false) from fun h => h.elim (fun h => by rw [h] at g2; cases g2) (fun h => by rw [h] at g3; cases g3)), if_neg (show ¬ strEq wt cpuIrq = false from fun h => by rw [h] at g4; cases g4)]

end Go.Proofs.YtofgbclopbmlcaaGreat

/- Cycles: are they well-formed? -/
namespace Go.Proofs.YtofgbclopbmlcaaGreat
open Go.Fw
set_option linter.unusedVariables false
set_option linter.unusedSimpArgs false
set_option linter.constructorNameAsVariable false
set_option maxRecDepth 100000

/-- the first thing that is wrong, of a list -/
def errL {α : Type} (f : α → Int) : List α → Int
  | [] => 0
  | x :: r => if f x = 0 then errL f r else f x
theorem errL_ok {α : Type} {f : α → Int} {l : List α} {k : Nat} (d : α) (h : k < l.length) (h0 : f (l.getD k d) = 0) : errL f (l.drop k) = errL f (l.drop (k + 1)) := by
  rw [List.drop_eq_getElem_cons h]
  rw [List.getD_eq_getElem?_getD, List.getElem?_eq_getElem h] at h0
  exact if_pos h0
theorem errL_no {α : Type} {f : α → Int} {l : List α} {k : Nat} (d : α) (h : k < l.length) (h0 : f (l.getD k d) ≠ 0) : errL f (l.drop k) = f (l.getD k d) := by
  rw [List.getD_eq_getElem?_getD, List.getElem?_eq_getElem h] at h0 ⊢
  rw [List.drop_eq_getElem_cons h]
  exact if_neg h0
def headE (c : Cyc) : Int := if c.1 < 0 ∨ c.1 > 2 then 8 else if c.1 = 0 ∧ (c.2.1 ≠ 0 ∨ c.2.2.1 ≠ 0) then 3 else if c.2.1 < 0 ∨ c.2.1 > 11 ∨ ¬ (0 ≤ c.2.2.1 ∧ c.2.2.1 ≤ 6) then 1 else if c.2.2.2.length > 6 then 2 else 0
def cycE (c : Cyc) : Int := if headE c = 0 then errL stpE c.2.2.2 else headE c
def cycsE (l : List Cyc) : Int := if l.length > 8 then 2 else errL cycE l
theorem headE_len {c : Cyc} (h : headE c = 0) : c.2.2.2.length ≤ 6 := by
  unfold headE at h
  repeat' split at h
  all_goals first
    | omega
    | cases h
abbrev gCyc1 : Sig := ⟨true, CycT⟩
def tcycleS : PSpec := ⟨[gCyc1], fun (c, _) => (none, I (cycE c), [])⟩
set_option maxHeartbeats 2000000 in
theorem tcycle_ok : GoodF Tryz.prog 239 tcycleS.spec := by
  have hT := tab_ok (fs := [(261, tregS.spec), (250, wideS.spec), (262, tstepS.spec)]) tree_ok
  have hP : SpecsOk Tryz.prog (tab tree [(261, tregS.spec), (250, wideS.spec), (262, tstepS.spec)]) := specs_cons treg_ok (specs_cons tWide_ok (specs_cons tstep_ok specs_nil))
  refine tcycleS.good (fn := Tryz.f239) hT hP Tryz.func239 (by kernel_rfl) rfl fun (c : Cyc) _ => ?_
  obtain ⟨cb, ca, cr, cs⟩ := c
  repeat' first
    | (refine Go.mk ?_; conv => whnf)
    | refine Need.go ?_ ?_
    | refine NilG.go (fun _ => ?_) (fun _ => ?_)
    | refine Br.dec (fun _ => ?_) (fun _ => ?_)
    | refine Br.go (fun _ => ?_) (fun _ => ?_)
    | refine draw_go hT hP mixed ?_
    | refine round_go hT hP ?_
  all_goals (try dsimp only [castL_eq] at *)
  all_goals first
    | (refine .mk [] [] _ rfl rfl rfl rfl rfl rfl (imm_int ?_)
       clear hT hP
       show _ = cycE (cb, ca, cr, cs)
       simp [cycE, headE, regB] at *
       first
         | omega
         | (simp_all; done)
         | (simp_all; omega))
    | skip
  all_goals
    have hE : headE (cb, ca, cr, cs) = 0 := by
      clear hT hP
      simp [headE, regB] at *
      first
        | omega
        | (simp_all; done)
        | (simp_all; omega)
  · have hn : cs.length ≤ 6 := headE_len hE
    have hC : cycE (cb, ca, cr, cs) = errL stpE cs := if_pos hE
    refine up_go hT hP (A := Unit) cs.length (fun i _ => St.mk [.dead, .dead, .dead, .dead, .dead, .dead, .dead, .dead, .dead, .dead, .dead, .dead, .dead, .dead, .dead, .dead, .dead, .dead, .dead, .dead, .dead, .dead, .dead, .dead, .dead, .dead, .dead, .dead, .dead, .dead, .dead, .dead, .dead, .dead, .dead, .dead, .dead, .dead, .dead, .dead, .dead, .dead, .dead, .dead, .dead, .dead, .dead, .dead, .dead, .dead, .dead, .dead, .dead, .dead, .dead, .cell (.ro StepT cs), I cs.length, I i, .dead, .dead, .dead, .dead, .dead, .dead, .dead, .dead, .dead] [])
      (fun k _ => errL stpE (cs.drop k) = errL stpE cs) () (Le.mk [] [] rfl rfl rfl ?_) rfl fun k _ hk hi => ?_
    · repeat' first | exact trivial | exact ⟨rfl, rfl⟩ | refine And.intro ?_ ?_
    repeat' first
      | (refine Go.mk ?_; conv => whnf)
      | refine Need.go ?_ ?_
      | refine NilG.go (fun _ => ?_) (fun _ => ?_)
      | refine Br.dec (fun _ => ?_) (fun _ => ?_)
      | refine Br.go (fun _ => ?_) (fun _ => ?_)
      | refine draw_go hT hP mixed ?_
      | refine round_go hT hP ?_
    all_goals clear hT hP
    · rename_i g
      have g : (k : Int) < (cs.length : Int) := g
      show 0 ≤ (k : Int) ∧ (k : Int) < (cs.length : Int)
      omega
    · rename_i g g2
      have g : (k : Int) < (cs.length : Int) := g
      have g2 : (stpE (cs.getD k (dflt StepT)) != 0) = true := g2
      refine .mk [] [] _ rfl rfl rfl rfl rfl rfl (imm_int ?_)
      show stpE (cs.getD k (dflt StepT)) = cycE (cb, ca, cr, cs)
      rw [hC, ← hi, errL_no (dflt StepT) (by omega) (by simpa using g2)]
    · rename_i g g2
      have g : (k : Int) < (cs.length : Int) := g
      have g2 : (stpE (cs.getD k (dflt StepT)) != 0) = false := g2
      apply Exists.intro
      apply Exists.intro ()
      refine And.intro (And.intro ?lt93 (And.intro ?ei93 ?inv93)) (Le.mk [] [] rfl rfl ?hh93 ?ht93)
      case hh93 => exact rfl
      case ht93 => repeat' first | exact trivial | exact ⟨rfl, rfl⟩ | refine And.intro ?_ ?_
      case lt93 => omega
      case ei93 => exact up_i (by omega)
      exact (errL_ok (dflt StepT) (by omega) (by simpa using g2)).symm.trans hi
    · rename_i g
      have g : ¬ (k : Int) < (cs.length : Int) := g
      refine .mk [] [] _ rfl rfl rfl rfl rfl rfl (imm_int ?_)
      show 0 = cycE (cb, ca, cr, cs)
      rw [hC, ← hi, List.drop_of_length_le (by omega)]; rfl
  · have hn : cs.length ≤ 6 := headE_len hE
    have hC : cycE (cb, ca, cr, cs) = errL stpE cs := if_pos hE
    refine up_go hT hP (A := Unit) cs.length (fun i _ => St.mk [.dead, .dead, .dead, .dead, .dead, .dead, .dead, .dead, .dead, .dead, .dead, .dead, .dead, .dead, .dead, .dead, .dead, .dead, .dead, .dead, .dead, .dead, .dead, .dead, .dead, .dead, .dead, .dead, .dead, .dead, .dead, .dead, .dead, .dead, .dead, .dead, .dead, .dead, .dead, .dead, .dead, .dead, .dead, .dead, .dead, .dead, .dead, .dead, .dead, .dead, .dead, .dead, .dead, .dead, .dead, .cell (.ro StepT cs), I cs.length, I i, .dead, .dead, .dead, .dead, .dead, .dead, .dead, .dead, .dead] [])
      (fun k _ => errL stpE (cs.drop k) = errL stpE cs) () (Le.mk [] [] rfl rfl rfl ?_) rfl fun k _ hk hi => ?_
    · repeat' first | exact trivial | exact ⟨rfl, rfl⟩ | refine And.intro ?_ ?_
    repeat' first
      | (refine Go.mk ?_; conv => whnf)
      | refine Need.go ?_ ?_
      | refine NilG.go (fun _ => ?_) (fun _ => ?_)
      | refine Br.dec (fun _ => ?_) (fun _ => ?_)
      | refine Br.go (fun _ => ?_) (fun _ => ?_)
      | refine draw_go hT hP mixed ?_
      | refine round_go hT hP ?_
    all_goals clear hT hP
    · rename_i g
      have g : (k : Int) < (cs.length : Int) := g
      show 0 ≤ (k : Int) ∧ (k : Int) < (cs.length : Int)
      omega
    · rename_i g g2
      have g : (k : Int) < (cs.length : Int) := g
      have g2 : (stpE (cs.getD k (dflt StepT)) != 0) = true := g2
      refine .mk [] [] _ rfl rfl rfl rfl rfl rfl (imm_int ?_)
      show stpE (cs.getD k (dflt StepT)) = cycE (cb, ca, cr, cs)
      rw [hC, ← hi, errL_no (dflt StepT) (by omega) (by simpa using g2)]
    · rename_i g g2
      have g : (k : Int) < (cs.length : Int) := g
      have g2 : (stpE (cs.getD k (dflt StepT)) != 0) = false := g2
      apply Exists.intro
      apply Exists.intro ()
      refine And.intro (And.intro ?lt133 (And.intro ?ei133 ?inv133)) (Le.mk [] [] rfl rfl ?hh133 ?ht133)
      case hh133 => exact rfl
      case ht133 => repeat' first | exact trivial | exact ⟨rfl, rfl⟩ | refine And.intro ?_ ?_
      case lt133 => omega
      case ei133 => exact up_i (by omega)
      exact (errL_ok (dflt StepT) (by omega) (by simpa using g2)).symm.trans hi
    · rename_i g
      have g : ¬ (k : Int) < (cs.length : Int) := g
      refine .mk [] [] _ rfl rfl rfl rfl rfl rfl (imm_int ?_)
      show 0 = cycE (cb, ca, cr, cs)
      rw [hC, ← hi, List.drop_of_length_le (by omega)]; rfl

def tcyclesS : PSpec := ⟨[⟨false, .sl CycT⟩], fun (l, _) => (none, I (cycsE l), [])⟩
theorem tcycles_ok : GoodF Tryz.prog 189 tcyclesS.spec := by
  have hT := tab_ok (fs := [(239, tcycleS.spec)]) tree_ok
  have hP : SpecsOk Tryz.prog (tab tree [(239, tcycleS.spec)]) := specs_cons tcycle_ok specs_nil
  refine tcyclesS.good (fn := Tryz.f189) hT hP Tryz.func189 (by kernel_rfl) rfl fun (l : List Cyc) _ => ?_
  repeat' first
    | (refine Go.mk ?_; conv => whnf)
    | refine Need.go ?_ ?_
    | refine NilG.go (fun _ => ?_) (fun _ => ?_)
    | refine Br.dec (fun _ => ?_) (fun _ => ?_)
    | refine Br.go (fun _ => ?_) (fun _ => ?_)
    | refine draw_go hT hP mixed ?_
    | refine round_go hT hP ?_
  · rename_i g
    have g : (l.length : Int) > 8 := g
    refine .mk [] [] _ rfl rfl rfl rfl rfl rfl (imm_int ?_)
    exact (if_pos (by omega) : cycsE l = 2).symm
  rename_i g0
  have g0 : ¬ (l.length : Int) > 8 := g0
  have hC : cycsE l = errL cycE l := if_neg (by omega)
  refine up_go hT hP (A := Unit) l.length (fun i _ => St.mk [.dead, .dead, .dead, .dead, .dead, .dead, .dead, .dead, .dead, .cell (.ro CycT l), I l.length, I i, .dead, .dead, .dead, .dead, .dead, .dead, .dead, .dead, .dead] [])
    (fun k _ => errL cycE (l.drop k) = errL cycE l) () (Le.mk [] [] rfl rfl rfl ?_) rfl fun k _ hk hi => ?_
  · repeat' first | exact trivial | exact ⟨rfl, rfl⟩ | refine And.intro ?_ ?_
  repeat' first
    | (refine Go.mk ?_; conv => whnf)
    | refine Need.go ?_ ?_
    | refine NilG.go (fun _ => ?_) (fun _ => ?_)
    | refine Br.dec (fun _ => ?_) (fun _ => ?_)
    | refine Br.go (fun _ => ?_) (fun _ => ?_)
    | refine draw_go hT hP mixed ?_
    | refine round_go hT hP ?_
  all_goals clear hT hP
  · rename_i g
    have g : (k : Int) < (l.length : Int) := g
    show 0 ≤ (k : Int) ∧ (k : Int) < (l.length : Int)
    omega
  · rename_i g g2
    have g : (k : Int) < (l.length : Int) := g
    have g2 : (cycE (l.getD k (dflt CycT)) != 0) = true := g2
    refine .mk [] [] _ rfl rfl rfl rfl rfl rfl (imm_int ?_)
    show cycE (l.getD k (dflt CycT)) = cycsE l
    rw [hC, ← hi, errL_no (dflt CycT) (by omega) (by simpa using g2)]
  · rename_i g g2
    have g : (k : Int) < (l.length : Int) := g
    have g2 : (cycE (l.getD k (dflt CycT)) != 0) = false := g2
    apply Exists.intro
    apply Exists.intro ()
    refine And.intro (And.intro ?lt192 (And.intro ?ei192 ?inv192)) (Le.mk [] [] rfl rfl ?hh192 ?ht192)
    case hh192 => exact rfl
    case ht192 => repeat' first | exact trivial | exact ⟨rfl, rfl⟩ | refine And.intro ?_ ?_
    case lt192 => omega
    case ei192 => exact up_i (by omega)
    exact (errL_ok (dflt CycT) (by omega) (by simpa using g2)).symm.trans hi
  · rename_i g
    have g : ¬ (k : Int) < (l.length : Int) := g
    refine .mk [] [] _ rfl rfl rfl rfl rfl rfl (imm_int ?_)
    show 0 = cycsE l
    rw [hC, ← hi, List.drop_of_length_le (by omega)]; rfl

end Go.Proofs.YtofgbclopbmlcaaGreat

/- Cycles: what the reference says. -/
namespace Go.Proofs.YtofgbclopbmlcaaGreat
open Go.Fw
set_option linter.unusedVariables false
set_option linter.unusedSimpArgs false
set_option linter.constructorNameAsVariable false
set_option maxRecDepth 100000

set_option maxHeartbeats 2000000 in
theorem rCycles_ok : GoodF Tryz.prog 117 tcyclesS.spec := by
  have hT := tab_ok (fs := [(139, narrowS.spec), (199, tstepS.spec)]) tree_ok
  have hP : SpecsOk Tryz.prog (tab tree [(139, narrowS.spec), (199, tstepS.spec)]) := specs_cons rNarrow_ok (specs_cons rStep_ok specs_nil)
  refine tcyclesS.good (fn := Tryz.f117) hT hP Tryz.func117 (by kernel_rfl) rfl fun (l : List Cyc) _ => ?_
  repeat' first
    | (refine Go.mk ?_; conv => whnf)
    | refine Need.go ?_ ?_
    | refine NilG.go (fun _ => ?_) (fun _ => ?_)
    | refine Br.dec (fun _ => ?_) (fun _ => ?_)
    | refine Br.go (fun _ => ?_) (fun _ => ?_)
    | refine draw_go hT hP mixed ?_
    | refine round_go hT hP ?_
  · rename_i g
    have g : (l.length : Int) > 8 := g
    refine .mk [] [] _ rfl rfl rfl rfl rfl rfl (imm_int ?_)
    exact (if_pos (by omega) : cycsE l = 2).symm
  rename_i g0
  have g0 : ¬ (l.length : Int) > 8 := g0
  have hC : cycsE l = errL cycE l := if_neg (by omega)
  refine up_go hT hP (A := Unit) l.length (fun i _ => St.mk [.dead, .dead, .dead, .dead, .dead, .dead, .dead, .dead, .dead, .dead, .dead, .cell (.ro CycT l), I l.length, I i, .dead, .dead, .dead, .dead, .dead, .dead, .dead, .dead, .dead, .dead, .dead, .dead, .dead, .dead, .dead, .dead, .dead, .dead, .dead, .dead, .dead, .dead, .dead, .dead, .dead, .dead, .dead, .dead, .dead, .dead, .dead, .dead, .dead, .dead, .dead, .dead, .dead, .dead, .dead, .dead, .dead, .dead, .dead, .dead, .dead, .dead, .dead, .dead, .dead, .dead, .dead, .dead, .dead, .dead, .dead, .dead, .dead, .dead, .dead, .dead, .dead, .dead, .dead, .dead, .dead] [])
    (fun k _ => errL cycE (l.drop k) = errL cycE l) () (Le.mk [] [] rfl rfl rfl ?_) rfl fun k _ hk hi => ?_
  · repeat' first | exact trivial | exact ⟨rfl, rfl⟩ | refine And.intro ?_ ?_
  have hH : ∀ c : Cyc, l.getD k (dflt CycT) = c → cycE c ≠ 0 → k < l.length → cycE c = cycsE l := fun c e h hk => by
    rw [hC, ← hi, errL_no (dflt CycT) hk (by rw [e]; exact h), e]
  have hN : ∀ c : Cyc, l.getD k (dflt CycT) = c → cycE c = 0 → k < l.length → errL cycE (l.drop (k + 1)) = errL cycE l := fun c e h hk => by
    rw [← hi, errL_ok (dflt CycT) hk (by rw [e]; exact h)]
  repeat' first
    | (refine Go.mk ?_; conv => whnf)
    | refine Need.go ?_ ?_
    | refine NilG.go (fun _ => ?_) (fun _ => ?_)
    | refine Br.dec (fun _ => ?_) (fun _ => ?_)
    | refine Br.go (fun _ => ?_) (fun _ => ?_)
    | refine draw_go hT hP mixed ?_
    | refine round_go hT hP ?_
  all_goals (try dsimp only [castL_eq] at *)
  all_goals (generalize hc : l.getD (k : Int).toNat (dflt CycT) = c at *; obtain ⟨cb, ca, cr, cs⟩ := c)
  · show 0 ≤ (k : Int) ∧ (k : Int) < (l.length : Int)
    omega
  all_goals first
    | (have hD : ∀ n : Int, n ≠ 0 → headE (cb, ca, cr, cs) = n → k < l.length → n = cycsE l := fun n hn e hk => by
         have e2 : cycE (cb, ca, cr, cs) = n := by
           unfold cycE; rw [if_neg (by rw [e]; exact hn)]; exact e
         rw [← e2]; exact hH _ hc (by rw [e2]; exact hn) hk
       refine .mk [] [] _ rfl rfl rfl rfl rfl rfl (imm_int (hD _ (by decide) ?_ (by omega)))
       clear hT hP hH hN hD
       simp [headE, narrowB] at *
       first
         | omega
         | (simp_all; done)
         | (simp_all; omega)
         | skip)
    | (have hE : headE (cb, ca, cr, cs) = 0 := by
         clear hT hP hH hN
         simp [headE, narrowB] at *
         first
           | omega
           | (simp_all; done)
           | (simp_all; omega)
         done)
    | skip
  · have hn : cs.length ≤ 6 := headE_len hE
    have hD : cycE (cb, ca, cr, cs) = errL stpE cs := if_pos hE
    have hk2 : k < l.length := by omega
    refine up_go hT hP (A := Unit) cs.length (fun i _ => St.mk [.dead, .dead, .dead, .dead, .dead, .dead, .dead, .dead, .dead, .dead, .dead, .cell (.ro CycT l), I l.length, I k, .dead, .dead, .dead, .dead, .dead, .dead, .dead, .dead, .dead, .dead, .dead, .dead, .dead, .dead, .dead, .dead, .dead, .dead, .dead, .dead, .dead, .dead, .dead, .dead, .dead, .dead, .dead, .dead, .dead, .dead, .dead, .dead, .dead, .dead, .dead, .dead, .dead, .dead, .dead, .dead, .dead, .dead, .dead, .dead, .dead, .dead, .dead, .dead, .dead, .dead, .dead, .dead, .cell (.ro StepT cs), I cs.length, I i, .dead, .dead, .dead, .dead, .dead, .dead, .dead, .dead, .dead, .dead] [])
      (fun j _ => errL stpE (cs.drop j) = errL stpE cs) () (Le.mk [] [] rfl rfl rfl ?_) rfl fun j _ hj hi2 => ?_
    · repeat' first | exact trivial | exact ⟨rfl, rfl⟩ | refine And.intro ?_ ?_
    repeat' first
      | (refine Go.mk ?_; conv => whnf)
      | refine Need.go ?_ ?_
      | refine NilG.go (fun _ => ?_) (fun _ => ?_)
      | refine Br.dec (fun _ => ?_) (fun _ => ?_)
      | refine Br.go (fun _ => ?_) (fun _ => ?_)
      | refine draw_go hT hP mixed ?_
      | refine round_go hT hP ?_
    all_goals clear hT hP
    · rename_i g
      have g : (j : Int) < (cs.length : Int) := g
      show 0 ≤ (j : Int) ∧ (j : Int) < (cs.length : Int)
      omega
    · rename_i g g2
      have g : (j : Int) < (cs.length : Int) := g
      have g2 : (stpE (cs.getD j (dflt StepT)) != 0) = true := g2
      have g3 : stpE (cs.getD j (dflt StepT)) ≠ 0 := by simpa using g2
      have e : stpE (cs.getD j (dflt StepT)) = cycE (cb, ca, cr, cs) := by
        rw [hD, ← hi2, errL_no (dflt StepT) (by omega) g3]
      refine .mk [] [] _ rfl rfl rfl rfl rfl rfl (imm_int ?_)
      show stpE (cs.getD j (dflt StepT)) = cycsE l
      rw [e]; exact hH _ hc (by rw [← e]; exact g3) hk2
    · rename_i g g2
      have g : (j : Int) < (cs.length : Int) := g
      have g2 : (stpE (cs.getD j (dflt StepT)) != 0) = false := g2
      apply Exists.intro
      apply Exists.intro ()
      refine And.intro (And.intro ?lt101 (And.intro ?ei101 ?inv101)) (Le.mk [] [] rfl rfl ?hh101 ?ht101)
      case hh101 => exact rfl
      case ht101 => repeat' first | exact trivial | exact ⟨rfl, rfl⟩ | refine And.intro ?_ ?_
      case lt101 => omega
      case ei101 => exact up_i (by omega)
      exact (errL_ok (dflt StepT) (by omega) (by simpa using g2)).symm.trans hi2
    · rename_i g
      have g : ¬ (j : Int) < (cs.length : Int) := g
      have e : cycE (cb, ca, cr, cs) = 0 := by
        rw [hD, ← hi2, List.drop_of_length_le (by omega)]; rfl
      apply Exists.intro
      apply Exists.intro ()
      refine And.intro (And.intro ?lt113 (And.intro ?ei113 ?inv113)) (Le.mk [] [] rfl rfl ?hh113 ?ht113)
      case hh113 => exact rfl
      case ht113 => repeat' first | exact trivial | exact ⟨rfl, rfl⟩ | refine And.intro ?_ ?_
      case lt113 => omega
      case ei113 => exact up_i (by omega)
      exact hN _ hc e hk2
  · have hn : cs.length ≤ 6 := headE_len hE
    have hD : cycE (cb, ca, cr, cs) = errL stpE cs := if_pos hE
    have hk2 : k < l.length := by omega
    refine up_go hT hP (A := Unit) cs.length (fun i _ => St.mk [.dead, .dead, .dead, .dead, .dead, .dead, .dead, .dead, .dead, .dead, .dead, .cell (.ro CycT l), I l.length, I k, .dead, .dead, .dead, .dead, .dead, .dead, .dead, .dead, .dead, .dead, .dead, .dead, .dead, .dead, .dead, .dead, .dead, .dead, .dead, .dead, .dead, .dead, .dead, .dead, .dead, .dead, .dead, .dead, .dead, .dead, .dead, .dead, .dead, .dead, .dead, .dead, .dead, .dead, .dead, .dead, .dead, .dead, .dead, .dead, .dead, .dead, .dead, .dead, .dead, .dead, .dead, .dead, .cell (.ro StepT cs), I cs.length, I i, .dead, .dead, .dead, .dead, .dead, .dead, .dead, .dead, .dead, .dead] [])
      (fun j _ => errL stpE (cs.drop j) = errL stpE cs) () (Le.mk [] [] rfl rfl rfl ?_) rfl fun j _ hj hi2 => ?_
    · repeat' first | exact trivial | exact ⟨rfl, rfl⟩ | refine And.intro ?_ ?_
    repeat' first
      | (refine Go.mk ?_; conv => whnf)
      | refine Need.go ?_ ?_
      | refine NilG.go (fun _ => ?_) (fun _ => ?_)
      | refine Br.dec (fun _ => ?_) (fun _ => ?_)
      | refine Br.go (fun _ => ?_) (fun _ => ?_)
      | refine draw_go hT hP mixed ?_
      | refine round_go hT hP ?_
    all_goals clear hT hP
    · rename_i g
      have g : (j : Int) < (cs.length : Int) := g
      show 0 ≤ (j : Int) ∧ (j : Int) < (cs.length : Int)
      omega
    · rename_i g g2
      have g : (j : Int) < (cs.length : Int) := g
      have g2 : (stpE (cs.getD j (dflt StepT)) != 0) = true := g2
      have g3 : stpE (cs.getD j (dflt StepT)) ≠ 0 := by simpa using g2
      have e : stpE (cs.getD j (dflt StepT)) = cycE (cb, ca, cr, cs) := by
        rw [hD, ← hi2, errL_no (dflt StepT) (by omega) g3]
      refine .mk [] [] _ rfl rfl rfl rfl rfl rfl (imm_int ?_)
      show stpE (cs.getD j (dflt StepT)) = cycsE l
      rw [e]; exact hH _ hc (by rw [← e]; exact g3) hk2
    · rename_i g g2
      have g : (j : Int) < (cs.length : Int) := g
      have g2 : (stpE (cs.getD j (dflt StepT)) != 0) = false := g2
      apply Exists.intro
      apply Exists.intro ()
      refine And.intro (And.intro ?lt152 (And.intro ?ei152 ?inv152)) (Le.mk [] [] rfl rfl ?hh152 ?ht152)
      case hh152 => exact rfl
      case ht152 => repeat' first | exact trivial | exact ⟨rfl, rfl⟩ | refine And.intro ?_ ?_
      case lt152 => omega
      case ei152 => exact up_i (by omega)
      exact (errL_ok (dflt StepT) (by omega) (by simpa using g2)).symm.trans hi2
    · rename_i g
      have g : ¬ (j : Int) < (cs.length : Int) := g
      have e : cycE (cb, ca, cr, cs) = 0 := by
        rw [hD, ← hi2, List.drop_of_length_le (by omega)]; rfl
      apply Exists.intro
      apply Exists.intro ()
      refine And.intro (And.intro ?lt164 (And.intro ?ei164 ?inv164)) (Le.mk [] [] rfl rfl ?hh164 ?ht164)
      case hh164 => exact rfl
      case ht164 => repeat' first | exact trivial | exact ⟨rfl, rfl⟩ | refine And.intro ?_ ?_
      case lt164 => omega
      case ei164 => exact up_i (by omega)
      exact hN _ hc e hk2
  · have hn : cs.length ≤ 6 := headE_len hE
    have hD : cycE (cb, ca, cr, cs) = errL stpE cs := if_pos hE
    have hk2 : k < l.length := by omega
    refine up_go hT hP (A := Unit) cs.length (fun i _ => St.mk [.dead, .dead, .dead, .dead, .dead, .dead, .dead, .dead, .dead, .dead, .dead, .cell (.ro CycT l), I l.length, I k, .dead, .dead, .dead, .dead, .dead, .dead, .dead, .dead, .dead, .dead, .dead, .dead, .dead, .dead, .dead, .dead, .dead, .dead, .dead, .dead, .dead, .dead, .dead, .dead, .dead, .dead, .dead, .dead, .dead, .dead, .dead, .dead, .dead, .dead, .dead, .dead, .dead, .dead, .dead, .dead, .dead, .dead, .dead, .dead, .dead, .dead, .dead, .dead, .dead, .dead, .dead, .dead, .cell (.ro StepT cs), I cs.length, I i, .dead, .dead, .dead, .dead, .dead, .dead, .dead, .dead, .dead, .dead] [])
      (fun j _ => errL stpE (cs.drop j) = errL stpE cs) () (Le.mk [] [] rfl rfl rfl ?_) rfl fun j _ hj hi2 => ?_
    · repeat' first | exact trivial | exact ⟨rfl, rfl⟩ | refine And.intro ?_ ?_
    repeat' first
      | (refine Go.mk ?_; conv => whnf)
      | refine Need.go ?_ ?_
      | refine NilG.go (fun _ => ?_) (fun _ => ?_)
      | refine Br.dec (fun _ => ?_) (fun _ => ?_)
      | refine Br.go (fun _ => ?_) (fun _ => ?_)
      | refine draw_go hT hP mixed ?_
      | refine round_go hT hP ?_
    all_goals clear hT hP
    · rename_i g
      have g : (j : Int) < (cs.length : Int) := g
      show 0 ≤ (j : Int) ∧ (j : Int) < (cs.length : Int)
      omega
    · rename_i g g2
      have g : (j : Int) < (cs.length : Int) := g
      have g2 : (stpE (cs.getD j (dflt StepT)) != 0) = true := g2
      have g3 : stpE (cs.getD j (dflt StepT)) ≠ 0 := by simpa using g2
      have e : stpE (cs.getD j (dflt StepT)) = cycE (cb, ca, cr, cs) := by
        rw [hD, ← hi2, errL_no (dflt StepT) (by omega) g3]
      refine .mk [] [] _ rfl rfl rfl rfl rfl rfl (imm_int ?_)
      show stpE (cs.getD j (dflt StepT)) = cycsE l
      rw [e]; exact hH _ hc (by rw [← e]; exact g3) hk2
    · rename_i g g2
      have g : (j : Int) < (cs.length : Int) := g
      have g2 : (stpE (cs.getD j (dflt StepT)) != 0) = false := g2
      apply Exists.intro
      apply Exists.intro ()
      refine And.intro (And.intro ?lt203 (And.intro ?ei203 ?inv203)) (Le.mk [] [] rfl rfl ?hh203 ?ht203)
      case hh203 => exact rfl
      case ht203 => repeat' first | exact trivial | exact ⟨rfl, rfl⟩ | refine And.intro ?_ ?_
      case lt203 => omega
      case ei203 => exact up_i (by omega)
      exact (errL_ok (dflt StepT) (by omega) (by simpa using g2)).symm.trans hi2
    · rename_i g
      have g : ¬ (j : Int) < (cs.length : Int) := g
      have e : cycE (cb, ca, cr, cs) = 0 := by
        rw [hD, ← hi2, List.drop_of_length_le (by omega)]; rfl
      apply Exists.intro
      apply Exists.intro ()
      refine And.intro (And.intro ?lt215 (And.intro ?ei215 ?inv215)) (Le.mk [] [] rfl rfl ?hh215 ?ht215)
      case hh215 => exact rfl
      case ht215 => repeat' first | exact trivial | exact ⟨rfl, rfl⟩ | refine And.intro ?_ ?_
      case lt215 => omega
      case ei215 => exact up_i (by omega)
      exact hN _ hc e hk2
  · have hn : cs.length ≤ 6 := headE_len hE
    have hD : cycE (cb, ca, cr, cs) = errL stpE cs := if_pos hE
    have hk2 : k < l.length := by omega
    refine up_go hT hP (A := Unit) cs.length (fun i _ => St.mk [.dead, .dead, .dead, .dead, .dead, .dead, .dead, .dead, .dead, .dead, .dead, .cell (.ro CycT l), I l.length, I k, .dead, .dead, .dead, .dead, .dead, .dead, .dead, .dead, .dead, .dead, .dead, .dead, .dead, .dead, .dead, .dead, .dead, .dead, .dead, .dead, .dead, .dead, .dead, .dead, .dead, .dead, .dead, .dead, .dead, .dead, .dead, .dead, .dead, .dead, .dead, .dead, .dead, .dead, .dead, .dead, .dead, .dead, .dead, .dead, .dead, .dead, .dead, .dead, .dead, .dead, .dead, .dead, .cell (.ro StepT cs), I cs.length, I i, .dead, .dead, .dead, .dead, .dead, .dead, .dead, .dead, .dead, .dead] [])
      (fun j _ => errL stpE (cs.drop j) = errL stpE cs) () (Le.mk [] [] rfl rfl rfl ?_) rfl fun j _ hj hi2 => ?_
    · repeat' first | exact trivial | exact ⟨rfl, rfl⟩ | refine And.intro ?_ ?_
    repeat' first
      | (refine Go.mk ?_; conv => whnf)
      | refine Need.go ?_ ?_
      | refine NilG.go (fun _ => ?_) (fun _ => ?_)
      | refine Br.dec (fun _ => ?_) (fun _ => ?_)
      | refine Br.go (fun _ => ?_) (fun _ => ?_)
      | refine draw_go hT hP mixed ?_
      | refine round_go hT hP ?_
    all_goals clear hT hP
    · rename_i g
      have g : (j : Int) < (cs.length : Int) := g
      show 0 ≤ (j : Int) ∧ (j : Int) < (cs.length : Int)
      omega
    · rename_i g g2
      have g : (j : Int) < (cs.length : Int) := g
      have g2 : (stpE (cs.getD j (dflt StepT)) != 0) = true := g2
      have g3 : stpE (cs.getD j (dflt StepT)) ≠ 0 := by simpa using g2
      have e : stpE (cs.getD j (dflt StepT)) = cycE (cb, ca, cr, cs) := by
        rw [hD, ← hi2, errL_no (dflt StepT) (by omega) g3]
      refine .mk [] [] _ rfl rfl rfl rfl rfl rfl (imm_int ?_)
      show stpE (cs.getD j (dflt StepT)) = cycsE l
      rw [e]; exact hH _ hc (by rw [← e]; exact g3) hk2
    · rename_i g g2
      have g : (j : Int) < (cs.length : Int) := g
      have g2 : (stpE (cs.getD j (dflt StepT)) != 0) = false := g2
      apply Exists.intro
      apply Exists.intro ()
      refine And.intro (And.intro ?lt254 (And.intro ?ei254 ?inv254)) (Le.mk [] [] rfl rfl ?hh254 ?ht254)
      case hh254 => exact rfl
      case ht254 => repeat' first | exact trivial | exact ⟨rfl, rfl⟩ | refine And.intro ?_ ?_
      case lt254 => omega
      case ei254 => exact up_i (by omega)
      exact (errL_ok (dflt StepT) (by omega) (by simpa using g2)).symm.trans hi2
    · rename_i g
      have g : ¬ (j : Int) < (cs.length : Int) := g
      have e : cycE (cb, ca, cr, cs) = 0 := by
        rw [hD, ← hi2, List.drop_of_length_le (by omega)]; rfl
      apply Exists.intro
      apply Exists.intro ()
      refine And.intro (And.intro ?lt266 (And.intro ?ei266 ?inv266)) (Le.mk [] [] rfl rfl ?hh266 ?ht266)
      case hh266 => exact rfl
      case ht266 => repeat' first | exact trivial | exact ⟨rfl, rfl⟩ | refine And.intro ?_ ?_
      case lt266 => omega
      case ei266 => exact up_i (by omega)
      exact hN _ hc e hk2
  · have hn : cs.length ≤ 6 := headE_len hE
    have hD : cycE (cb, ca, cr, cs) = errL stpE cs := if_pos hE
    have hk2 : k < l.length := by omega
    refine up_go hT hP (A := Unit) cs.length (fun i _ => St.mk [.dead, .dead, .dead, .dead, .dead, .dead, .dead, .dead, .dead, .dead, .dead, .cell (.ro CycT l), I l.length, I k, .dead, .dead, .dead, .dead, .dead, .dead, .dead, .dead, .dead, .dead, .dead, .dead, .dead, .dead, .dead, .dead, .dead, .dead, .dead, .dead, .dead, .dead, .dead, .dead, .dead, .dead, .dead, .dead, .dead, .dead, .dead, .dead, .dead, .dead, .dead, .dead, .dead, .dead, .dead, .dead, .dead, .dead, .dead, .dead, .dead, .dead, .dead, .dead, .dead, .dead, .dead, .dead, .cell (.ro StepT cs), I cs.length, I i, .dead, .dead, .dead, .dead, .dead, .dead, .dead, .dead, .dead, .dead] [])
      (fun j _ => errL stpE (cs.drop j) = errL stpE cs) () (Le.mk [] [] rfl rfl rfl ?_) rfl fun j _ hj hi2 => ?_
    · repeat' first | exact trivial | exact ⟨rfl, rfl⟩ | refine And.intro ?_ ?_
    repeat' first
      | (refine Go.mk ?_; conv => whnf)
      | refine Need.go ?_ ?_
      | refine NilG.go (fun _ => ?_) (fun _ => ?_)
      | refine Br.dec (fun _ => ?_) (fun _ => ?_)
      | refine Br.go (fun _ => ?_) (fun _ => ?_)
      | refine draw_go hT hP mixed ?_
      | refine round_go hT hP ?_
    all_goals clear hT hP
    · rename_i g
      have g : (j : Int) < (cs.length : Int) := g
      show 0 ≤ (j : Int) ∧ (j : Int) < (cs.length : Int)
      omega
    · rename_i g g2
      have g : (j : Int) < (cs.length : Int) := g
      have g2 : (stpE (cs.getD j (dflt StepT)) != 0) = true := g2
      have g3 : stpE (cs.getD j (dflt StepT)) ≠ 0 := by simpa using g2
      have e : stpE (cs.getD j (dflt StepT)) = cycE (cb, ca, cr, cs) := by
        rw [hD, ← hi2, errL_no (dflt StepT) (by omega) g3]
      refine .mk [] [] _ rfl rfl rfl rfl rfl rfl (imm_int ?_)
      show stpE (cs.getD j (dflt StepT)) = cycsE l
      rw [e]; exact hH _ hc (by rw [← e]; exact g3) hk2
    · rename_i g g2
      have g : (j : Int) < (cs.length : Int) := g
      have g2 : (stpE (cs.getD j (dflt StepT)) != 0) = false := g2
      apply Exists.intro
      apply Exists.intro ()
      refine And.intro (And.intro ?lt305 (And.intro ?ei305 ?inv305)) (Le.mk [] [] rfl rfl ?hh305 ?ht305)
      case hh305 => exact rfl
      case ht305 => repeat' first | exact trivial | exact ⟨rfl, rfl⟩ | refine And.intro ?_ ?_
      case lt305 => omega
      case ei305 => exact up_i (by omega)
      exact (errL_ok (dflt StepT) (by omega) (by simpa using g2)).symm.trans hi2
    · rename_i g
      have g : ¬ (j : Int) < (cs.length : Int) := g
      have e : cycE (cb, ca, cr, cs) = 0 := by
        rw [hD, ← hi2, List.drop_of_length_le (by omega)]; rfl
      apply Exists.intro
      apply Exists.intro ()
      refine And.intro (And.intro ?lt317 (And.intro ?ei317 ?inv317)) (Le.mk [] [] rfl rfl ?hh317 ?ht317)
      case hh317 => exact rfl
      case ht317 => repeat' first | exact trivial | exact ⟨rfl, rfl⟩ | refine And.intro ?_ ?_
      case lt317 => omega
      case ei317 => exact up_i (by omega)
      exact hN _ hc e hk2
  · have hn : cs.length ≤ 6 := headE_len hE
    have hD : cycE (cb, ca, cr, cs) = errL stpE cs := if_pos hE
    have hk2 : k < l.length := by omega
    refine up_go hT hP (A := Unit) cs.length (fun i _ => St.mk [.dead, .dead, .dead, .dead, .dead, .dead, .dead, .dead, .dead, .dead, .dead, .cell (.ro CycT l), I l.length, I k, .dead, .dead, .dead, .dead, .dead, .dead, .dead, .dead, .dead, .dead, .dead, .dead, .dead, .dead, .dead, .dead, .dead, .dead, .dead, .dead, .dead, .dead, .dead, .dead, .dead, .dead, .dead, .dead, .dead, .dead, .dead, .dead, .dead, .dead, .dead, .dead, .dead, .dead, .dead, .dead, .dead, .dead, .dead, .dead, .dead, .dead, .dead, .dead, .dead, .dead, .dead, .dead, .cell (.ro StepT cs), I cs.length, I i, .dead, .dead, .dead, .dead, .dead, .dead, .dead, .dead, .dead, .dead] [])
      (fun j _ => errL stpE (cs.drop j) = errL stpE cs) () (Le.mk [] [] rfl rfl rfl ?_) rfl fun j _ hj hi2 => ?_
    · repeat' first | exact trivial | exact ⟨rfl, rfl⟩ | refine And.intro ?_ ?_
    repeat' first
      | (refine Go.mk ?_; conv => whnf)
      | refine Need.go ?_ ?_
      | refine NilG.go (fun _ => ?_) (fun _ => ?_)
      | refine Br.dec (fun _ => ?_) (fun _ => ?_)
      | refine Br.go (fun _ => ?_) (fun _ => ?_)
      | refine draw_go hT hP mixed ?_
      | refine round_go hT hP ?_
    all_goals clear hT hP
    · rename_i g
      have g : (j : Int) < (cs.length : Int) := g
      show 0 ≤ (j : Int) ∧ (j : Int) < (cs.length : Int)
      omega
    · rename_i g g2
      have g : (j : Int) < (cs.length : Int) := g
      have g2 : (stpE (cs.getD j (dflt StepT)) != 0) = true := g2
      have g3 : stpE (cs.getD j (dflt StepT)) ≠ 0 := by simpa using g2
      have e : stpE (cs.getD j (dflt StepT)) = cycE (cb, ca, cr, cs) := by
        rw [hD, ← hi2, errL_no (dflt StepT) (by omega) g3]
      refine .mk [] [] _ rfl rfl rfl rfl rfl rfl (imm_int ?_)
      show stpE (cs.getD j (dflt StepT)) = cycsE l
      rw [e]; exact hH _ hc (by rw [← e]; exact g3) hk2
    · rename_i g g2
      have g : (j : Int) < (cs.length : Int) := g
      have g2 : (stpE (cs.getD j (dflt StepT)) != 0) = false := g2
      apply Exists.intro
      apply Exists.intro ()
      refine And.intro (And.intro ?lt356 (And.intro ?ei356 ?inv356)) (Le.mk [] [] rfl rfl ?hh356 ?ht356)
      case hh356 => exact rfl
      case ht356 => repeat' first | exact trivial | exact ⟨rfl, rfl⟩ | refine And.intro ?_ ?_
      case lt356 => omega
      case ei356 => exact up_i (by omega)
      exact (errL_ok (dflt StepT) (by omega) (by simpa using g2)).symm.trans hi2
    · rename_i g
      have g : ¬ (j : Int) < (cs.length : Int) := g
      have e : cycE (cb, ca, cr, cs) = 0 := by
        rw [hD, ← hi2, List.drop_of_length_le (by omega)]; rfl
      apply Exists.intro
      apply Exists.intro ()
      refine And.intro (And.intro ?lt368 (And.intro ?ei368 ?inv368)) (Le.mk [] [] rfl rfl ?hh368 ?ht368)
      case hh368 => exact rfl
      case ht368 => repeat' first | exact trivial | exact ⟨rfl, rfl⟩ | refine And.intro ?_ ?_
      case lt368 => omega
      case ei368 => exact up_i (by omega)
      exact hN _ hc e hk2
  · rename_i g
    have g : ¬ (k : Int) < (l.length : Int) := by assumption
    refine .mk [] [] _ rfl rfl rfl rfl rfl rfl (imm_int ?_)
    show 0 = cycsE l
    rw [hC, ← hi, List.drop_of_length_le (by omega)]; rfl

end Go.Proofs.YtofgbclopbmlcaaGreat

/- Instructions of the same name and mode (printed by genix2.py). -/
namespace Go.Proofs.YtofgbclopbmlcaaGreat
open Go.Fw
set_option linter.unusedVariables false
set_option linter.unusedSimpArgs false
set_option linter.constructorNameAsVariable false
set_option maxRecDepth 100000

def keyB (x y : Ins) : Bool := bif strEq y.2.1 x.2.1 then decide (y.2.2.1 = x.2.2.1) else false

def tkcRd : List V1 → List Blk → Option (Ins × Ins) := fun a b => match a, b with
  | [.agg [.imm (.int .i64 eo), .imm (.string en), .imm (.int .i64 em), .ro (.pair (.int .i64) (.pair (.int .i64) (.pair (.int .i64) (.sl (.pair (.int .i64) (.pair (.int .i64) (.pair (.int .i64) (.int .i64)))))))) ec], .c (.ptr 0 0)], [.var [.imm (.int .i64 co), .imm (.string cn), .imm (.int .i64 cm), .ro (.pair (.int .i64) (.pair (.int .i64) (.pair (.int .i64) (.sl (.pair (.int .i64) (.pair (.int .i64) (.pair (.int .i64) (.int .i64)))))))) cc]] => some ((eo, en, em, ec), (co, cn, cm, cc))
  | _, _ => none
theorem tkcRd_ok {a : List V1} {b : List Blk} {x : Ins × Ins} (h : tkcRd a b = some x) : a = [.agg [iv .i64 x.1.1, .imm (.string x.1.2.1), iv .i64 x.1.2.2.1, .ro CycT x.1.2.2.2], .c (.ptr 0 0)] ∧ b = [.var [iv .i64 x.2.1, .imm (.string x.2.2.1), iv .i64 x.2.2.2.1, .ro CycT x.2.2.2.2]] := by
  unfold tkcRd at h
  split at h
  · injection h with h; subst h; exact ⟨rfl, rfl⟩
  · cases h
def tkcS : WSpec := ⟨Ins × Ins, fun x => [.agg [iv .i64 x.1.1, .imm (.string x.1.2.1), iv .i64 x.1.2.2.1, .ro CycT x.1.2.2.2], .c (.ptr 0 0)], fun x => [.var [iv .i64 x.2.1, .imm (.string x.2.2.1), iv .i64 x.2.2.2.1, .ro CycT x.2.2.2.2]], tkcRd,
  fun x => (some ((fun _ => True) x.2), .cell (bv (keyB x.2 x.1)), [some (.var [iv .i64 x.2.1, .imm (.string x.2.2.1), iv .i64 x.2.2.2.1, .ro CycT x.2.2.2.2])], [])⟩
theorem tkc_ok : GoodF Tryz.prog 188 tkcS.spec := by
  have hT := tab_ok (fs := []) tree_ok
  have hP : SpecsOk Tryz.prog (tab tree []) := specs_nil
  refine tkcS.good (fn := Tryz.f188) hT hP Tryz.func188 (by kernel_rfl) rfl (fun _ _ _ h => tkcRd_ok h) fun (x : Ins × Ins) hq => ?_
  have hq : (fun _ => True) x.2 := hq _ rfl
  repeat' first
    | (refine Go.mk ?_; conv => whnf)
    | refine Need.go ?_ ?_
    | refine NilG.go (fun _ => ?_) (fun _ => ?_)
    | refine Br.dec (fun _ => ?_) (fun _ => ?_)
    | refine Br.go (fun _ => ?_) (fun _ => ?_)
    | refine draw_go hT hP mixed ?_
    | refine round_go hT hP ?_
  all_goals clear hT hP
  all_goals first
    | (rename_i g
       have g : strEq x.1.2.1 x.2.2.1 = true := g
       refine .mk [] [0] _ rfl rfl rfl rfl rfl rfl (imm_bool ?_)
       show _ = bif strEq x.1.2.1 x.2.2.1 then decide (x.1.2.2.1 = x.2.2.2.1) else false
       rw [g]; rfl)
    | (rename_i g
       have g : strEq x.1.2.1 x.2.2.1 = false := g
       refine .mk [] [0] _ rfl rfl rfl rfl rfl rfl (imm_bool ?_)
       show _ = bif strEq x.1.2.1 x.2.2.1 then decide (x.1.2.2.1 = x.2.2.2.1) else false
       rw [g]; rfl)
    | skip
structure tkX where
  l : List Ins
  d : Ins
def tkRd : List V1 → List Blk → Option tkX := fun a b => match a, b with
  | [.c (.ro (.pair (.int .i64) (.pair .str (.pair (.int .i64) (.sl (.pair (.int .i64) (.pair (.int .i64) (.pair (.int .i64) (.sl (.pair (.int .i64) (.pair (.int .i64) (.pair (.int .i64) (.int .i64))))))))))))  l), .c (.fn 188 [0])], [.var [.imm (.int .i64 co), .imm (.string cn), .imm (.int .i64 cm), .ro (.pair (.int .i64) (.pair (.int .i64) (.pair (.int .i64) (.sl (.pair (.int .i64) (.pair (.int .i64) (.pair (.int .i64) (.int .i64)))))))) cc]] => some ⟨l, (co, cn, cm, cc)⟩
  | _, _ => none
theorem tkRd_ok {a : List V1} {b : List Blk} {x : tkX} (h : tkRd a b = some x) : a = [.c (.ro InsT x.l), .c (.fn 188 [0])] ∧ b = [.var [iv .i64 x.d.1, .imm (.string x.d.2.1), iv .i64 x.d.2.2.1, .ro CycT x.d.2.2.2]] := by
  unfold tkRd at h
  split at h
  · injection h with h; subst h; exact ⟨rfl, rfl⟩
  · cases h
def tkiS : WSpec := ⟨tkX, fun x => [.c (.ro InsT x.l), .c (.fn 188 [0])], fun x => [.var [iv .i64 x.d.1, .imm (.string x.d.2.1), iv .i64 x.d.2.2.1, .ro CycT x.d.2.2.2]], tkRd,
  fun x => (some (x.l.length ≤ 4611686018427387904 ∧ (fun _ => True) x.d), I (fstI (keyB x.d) x.l), [some (.var [iv .i64 x.d.1, .imm (.string x.d.2.1), iv .i64 x.d.2.2.1, .ro CycT x.d.2.2.2])], [])⟩
theorem tki_ok : GoodF Tryz.prog 145 tkiS.spec := by
  have hT := tab_ok (fs := [(188, tkcS.spec)]) tree_ok
  have hP : SpecsOk Tryz.prog (tab tree [(188, tkcS.spec)]) := specs_cons tkc_ok specs_nil
  refine tkiS.good (fn := Tryz.f145) hT hP Tryz.func145 (by kernel_rfl) rfl (fun _ _ _ h => tkRd_ok h) fun (x : tkX) hq => ?_
  obtain ⟨hl, hq⟩ : x.l.length ≤ 4611686018427387904 ∧ (fun _ => True) x.d := hq _ rfl
  obtain ⟨l, d⟩ := x
  have hl : l.length ≤ 4611686018427387904 := hl
  repeat' first
    | (refine Go.mk ?_; conv => whnf)
    | refine Need.go ?_ ?_
    | refine NilG.go (fun _ => ?_) (fun _ => ?_)
    | refine Br.dec (fun _ => ?_) (fun _ => ?_)
    | refine Br.go (fun _ => ?_) (fun _ => ?_)
    | refine draw_go hT hP mixed ?_
    | refine round_go hT hP ?_
  refine up_go hT hP (A := Unit) l.length (fun i _ => St.mk [.cell (.ro InsT l), .cell (.fn 188 [0]), .dead, .dead, .dead, .dead, .dead, I l.length, I i, .dead, .dead, .dead, .dead, .dead, .dead, .dead, .dead, .dead, .dead] [some (.var [iv .i64 d.1, .imm (.string d.2.1), iv .i64 d.2.2.1, .ro CycT d.2.2.2])])
    (fun k _ => fstG (keyB d) (l.drop k) k = fstI (keyB d) l) () (Le.mk [] [0] rfl rfl rfl ?_) rfl fun k _ hk hi => ?_
  · repeat' first | exact trivial | exact ⟨rfl, rfl⟩ | refine And.intro ?_ ?_
  repeat' first
    | (refine Go.mk ?_; conv => whnf)
    | refine Need.go ?_ ?_
    | refine NilG.go (fun _ => ?_) (fun _ => ?_)
    | refine Br.dec (fun _ => ?_) (fun _ => ?_)
    | refine Br.go (fun _ => ?_) (fun _ => ?_)
    | refine draw_go hT hP mixed ?_
    | refine round_go hT hP ?_
  all_goals clear hT hP
  · rename_i g1
    have g1 : (k : Int) < (l.length : Int) := g1
    show 0 ≤ (k : Int) ∧ (k : Int) < (l.length : Int)
    omega
  · first | exact hq | exact trivial
  · rename_i g1 g2
    have g1 : (k : Int) < (l.length : Int) := g1
    exact .mk [] [0] _ rfl rfl rfl rfl rfl rfl (imm_int (fst_hit (dflt InsT) (by omega) g2 hi))
  · rename_i g1 g2
    have g1 : (k : Int) < (l.length : Int) := g1
    have hp : ¬ keyB d (l.getD k (dflt InsT)) = true := by
      have g2 : keyB d (l.getD k (dflt InsT)) = false := g2
      rw [g2]; decide
    apply Exists.intro
    apply Exists.intro ()
    refine And.intro (And.intro ?lt101 (And.intro ?ei101 ?inv101)) (Le.mk [] [0] rfl rfl ?hh101 ?ht101)
    case hh101 => exact rfl
    case ht101 => repeat' first | exact trivial | exact ⟨rfl, rfl⟩ | refine And.intro ?_ ?_
    case lt101 => omega
    case ei101 => exact up_i (by omega)
    exact fst_miss (dflt InsT) (by omega) hp hi
  · rename_i g1
    have g1 : ¬ (k : Int) < (l.length : Int) := g1
    exact .mk [] [0] _ rfl rfl rfl rfl rfl rfl (imm_int (fst_none (by omega) hi))

def tktS : WSpec := ⟨tkX, fun x => [.c (.ro InsT x.l), .c (.fn 188 [0])], fun x => [.var [iv .i64 x.d.1, .imm (.string x.d.2.1), iv .i64 x.d.2.2.1, .ro CycT x.d.2.2.2]], tkRd,
  fun x => (some (x.l.length ≤ 4611686018427387904 ∧ (fun _ => True) x.d), .cell (bv (x.l.any (keyB x.d))), [some (.var [iv .i64 x.d.1, .imm (.string x.d.2.1), iv .i64 x.d.2.2.1, .ro CycT x.d.2.2.2])], [])⟩
theorem tkt_ok : GoodF Tryz.prog 187 tktS.spec := by
  have hT := tab_ok (fs := [(145, tkiS.spec)]) tree_ok
  have hP : SpecsOk Tryz.prog (tab tree [(145, tkiS.spec)]) := specs_cons tki_ok specs_nil
  refine tktS.good (fn := Tryz.f187) hT hP Tryz.func187 (by kernel_rfl) rfl (fun _ _ _ h => tkRd_ok h) fun (x : tkX) hq => ?_
  have hq : x.l.length ≤ 4611686018427387904 ∧ (fun _ => True) x.d := hq _ rfl
  obtain ⟨l, d⟩ := x
  repeat' first
    | (refine Go.mk ?_; conv => whnf)
    | refine Need.go ?_ ?_
    | refine NilG.go (fun _ => ?_) (fun _ => ?_)
    | refine Br.dec (fun _ => ?_) (fun _ => ?_)
    | refine Br.go (fun _ => ?_) (fun _ => ?_)
    | refine draw_go hT hP mixed ?_
    | refine round_go hT hP ?_
  all_goals clear hT hP
  · first | exact hq | exact trivial
  · exact .mk [] [0] _ rfl rfl rfl rfl rfl rfl (imm_bool (fst_any (keyB d) l))

end Go.Proofs.YtofgbclopbmlcaaGreat

/- table.Check: what is wrong with a processor. -/
namespace Go.Proofs.YtofgbclopbmlcaaGreat
open Go.Fw
set_option linter.unusedVariables false
set_option linter.unusedSimpArgs false
set_option linter.constructorNameAsVariable false
set_option maxRecDepth 100000

def isOp (c : Cyc) : Bool := bif decide (c.1 = 1) then decide (c.2.1 = 0) else false
def operI (l : List Cyc) : Int := ((l.filter isOp).length : Nat)
theorem take_snoc2 {α : Type} {l : List α} {k : Nat} (d : α) (h : k < l.length) : l.take (k + 1) = l.take k ++ [l.getD k d] := by
  rw [List.take_add_one, List.getD_eq_getElem?_getD, List.getElem?_eq_getElem h]; rfl
theorem oper_yes {l : List Cyc} {k : Nat} (h : k < l.length) (h2 : isOp (l.getD k (dflt CycT)) = true) : ((l.take k).filter isOp).length + 1 = ((l.take (k + 1)).filter isOp).length := by
  rw [take_snoc2 (dflt CycT) h, List.filter_append, List.filter_cons, if_pos h2, List.length_append]; rfl
theorem oper_no {l : List Cyc} {k : Nat} (h : k < l.length) (h2 : isOp (l.getD k (dflt CycT)) = false) : ((l.take k).filter isOp).length = ((l.take (k + 1)).filter isOp).length := by
  rw [take_snoc2 (dflt CycT) h, List.filter_append, List.filter_cons, if_neg (by rw [h2]; decide), List.length_append]; rfl
def toperS : PSpec := ⟨[⟨false, .sl CycT⟩], fun (l, _) => (some (List.length l ≤ 1000), I (operI l), [])⟩
theorem toper_ok : GoodF Tryz.prog 190 toperS.spec := by
  have hT := tab_ok (fs := []) tree_ok
  have hP : SpecsOk Tryz.prog (tab tree []) := specs_nil
  refine toperS.good (fn := Tryz.f190) hT hP Tryz.func190 (by kernel_rfl) rfl fun (l : List Cyc) hq => ?_
  have hl : l.length ≤ 1000 := hq _ rfl
  clear hq
  repeat' first
    | (refine Go.mk ?_; conv => whnf)
    | refine Need.go ?_ ?_
    | refine NilG.go (fun _ => ?_) (fun _ => ?_)
    | refine Br.dec (fun _ => ?_) (fun _ => ?_)
    | refine Br.go (fun _ => ?_) (fun _ => ?_)
    | refine draw_go hT hP mixed ?_
    | refine round_go hT hP ?_
  refine up_go hT hP (A := Int) l.length (fun i n => St.mk [.dead, .dead, .dead, I n, .dead, .dead, .cell (.ro CycT l), I l.length, I i, .dead, .dead, .dead, .dead, .dead, .dead, .dead, .dead, .dead, .dead, .dead, .dead, .dead, .dead, .dead] [])
    (fun k n => n = (((l.take k).filter isOp).length : Nat)) 0 (Le.mk [] [] rfl rfl rfl ?_) rfl fun k n hk hi => ?_
  · repeat' first | exact trivial | exact ⟨rfl, rfl⟩ | refine And.intro ?_ ?_
  repeat' first
    | (refine Go.mk ?_; conv => whnf)
    | refine Need.go ?_ ?_
    | refine NilG.go (fun _ => ?_) (fun _ => ?_)
    | refine Br.dec (fun _ => ?_) (fun _ => ?_)
    | refine Br.go (fun _ => ?_) (fun _ => ?_)
    | refine draw_go hT hP mixed ?_
    | refine round_go hT hP ?_
  all_goals clear hT hP
  all_goals have hf := List.length_filter_le isOp (l.take k)
  all_goals rw [List.length_take] at hf
  · rename_i g
    have g : (k : Int) < (l.length : Int) := g
    show 0 ≤ (k : Int) ∧ (k : Int) < (l.length : Int)
    omega
  · rename_i g g1 g2
    have g : (k : Int) < (l.length : Int) := g
    have h2 : isOp (l.getD k (dflt CycT)) = true := by
      have g1 : (l.getD k (dflt CycT)).1 = 1 := g1
      have g2 : (l.getD k (dflt CycT)).2.1 = 0 := g2
      unfold isOp; rw [decide_eq_true g1, decide_eq_true g2]; rfl
    apply Exists.intro
    apply Exists.intro _
    refine And.intro (And.intro ?lt58 (And.intro ?ei58 ?inv58)) (Le.mk [] [] rfl rfl ?hh58 ?ht58)
    case hh58 => exact rfl
    case ht58 => repeat' first | exact trivial | exact ⟨rfl, rfl⟩ | refine And.intro ?_ ?_
    case lt58 => omega
    case ei58 => exact up_i (by omega)
    have e : IntKind.i64.wrap (n + 1) = n + 1 := w64 (by omega) (by omega)
    have e2 := oper_yes (show k < l.length by omega) h2
    rw [e]; omega
  · rename_i g g1 g2
    have g : (k : Int) < (l.length : Int) := g
    have h2 : isOp (l.getD k (dflt CycT)) = false := by
      have g1 : (l.getD k (dflt CycT)).1 = 1 := g1
      have g2 : ¬ (l.getD k (dflt CycT)).2.1 = 0 := g2
      unfold isOp; rw [decide_eq_true g1, decide_eq_false g2]; rfl
    apply Exists.intro
    apply Exists.intro _
    refine And.intro (And.intro ?lt74 (And.intro ?ei74 ?inv74)) (Le.mk [] [] rfl rfl ?hh74 ?ht74)
    case hh74 => exact rfl
    case ht74 => repeat' first | exact trivial | exact ⟨rfl, rfl⟩ | refine And.intro ?_ ?_
    case lt74 => omega
    case ei74 => exact up_i (by omega)
    have e2 := oper_no (show k < l.length by omega) h2
    omega
  · rename_i g g1
    have g : (k : Int) < (l.length : Int) := g
    have h2 : isOp (l.getD k (dflt CycT)) = false := by
      have g1 : ¬ (l.getD k (dflt CycT)).1 = 1 := g1
      unfold isOp; rw [decide_eq_false g1]; rfl
    apply Exists.intro
    apply Exists.intro _
    refine And.intro (And.intro ?lt88 (And.intro ?ei88 ?inv88)) (Le.mk [] [] rfl rfl ?hh88 ?ht88)
    case hh88 => exact rfl
    case ht88 => repeat' first | exact trivial | exact ⟨rfl, rfl⟩ | refine And.intro ?_ ?_
    case lt88 => omega
    case ei88 => exact up_i (by omega)
    have e2 := oper_no (show k < l.length by omega) h2
    omega
  · rename_i g
    have g : ¬ (k : Int) < (l.length : Int) := g
    refine .mk [] [] _ rfl rfl rfl rfl rfl rfl (imm_int ?_)
    rw [hi, List.take_of_length_le (by omega)]; rfl

end Go.Proofs.YtofgbclopbmlcaaGreat

/- table.Check. -/
namespace Go.Proofs.YtofgbclopbmlcaaGreat
open Go.Fw
set_option linter.unusedVariables false
set_option linter.unusedSimpArgs false
set_option linter.constructorNameAsVariable false
set_option maxRecDepth 100000

/-- what is wrong with an instruction behind others -/
def insC (pre : List Ins) (k : Nat) (prev : Int) (x : Ins) : Int :=
  if x.1 < 0 ∨ x.1 > 255 then 1 else if 0 < k ∧ x.1 ≤ prev then 9 else if nameB (bytesOf x.2.1) = false then 15 else if sizeI x.2.2.1 < 0 then 8
  else if pre.any (keyB x) = true then 5 else if cycsE x.2.2.2 ≠ 0 then cycsE x.2.2.2 else if operI x.2.2.2 ≠ sizeI x.2.2.1 then 3 else 0
def insE (l : List Ins) (k : Nat) : Int := insC (l.take k) k (l.getD (k - 1) (dflt InsT)).1 (l.getD k (dflt InsT))
theorem nz_of {x : Int} (h : (x != 0) = true) : x ≠ 0 := by simpa using h
theorem ze_of {x : Int} (h : (x != 0) = false) : x = 0 := by simpa using h
theorem insC_cyc {pre : List Ins} {k : Nat} {pv xo xm : Int} {xs : ByteArray} {xc : List Cyc} (h1 : ¬ xo < 0) (h2 : ¬ xo > 255) (h3 : ¬ (0 < k ∧ xo ≤ pv)) (h4 : (!nameB (bytesOf xs)) = false) (h5 : ¬ sizeI xm < 0) (h6 : pre.any (keyB (xo, xs, xm, xc)) = false) (h7 : (cycsE xc != 0) = true) : insC pre k pv (xo, xs, xm, xc) = cycsE xc := by
  unfold insC
  rw [if_neg (show ¬ (xo < 0 ∨ xo > 255) from fun h => h.elim h1 h2), if_neg (show ¬ (0 < k ∧ xo ≤ pv) from h3), if_neg (show ¬ nameB (bytesOf xs) = false from fun h => by rw [h] at h4; cases h4), if_neg (show ¬ sizeI xm < 0 from h5), if_neg (show ¬ pre.any (keyB (xo, xs, xm, xc)) = true from fun h => by rw [h] at h6; cases h6), if_pos (show cycsE xc ≠ 0 by simpa using h7)]
theorem insC_op {pre : List Ins} {k : Nat} {pv xo xm : Int} {xs : ByteArray} {xc : List Cyc} (h1 : ¬ xo < 0) (h2 : ¬ xo > 255) (h3 : ¬ (0 < k ∧ xo ≤ pv)) (h4 : (!nameB (bytesOf xs)) = false) (h5 : ¬ sizeI xm < 0) (h6 : pre.any (keyB (xo, xs, xm, xc)) = false) (h7 : (cycsE xc != 0) = false) (h8 : (operI xc != sizeI xm) = true) : insC pre k pv (xo, xs, xm, xc) = 3 := by
  unfold insC
  rw [if_neg (show ¬ (xo < 0 ∨ xo > 255) from fun h => h.elim h1 h2), if_neg (show ¬ (0 < k ∧ xo ≤ pv) from h3), if_neg (show ¬ nameB (bytesOf xs) = false from fun h => by rw [h] at h4; cases h4), if_neg (show ¬ sizeI xm < 0 from h5), if_neg (show ¬ pre.any (keyB (xo, xs, xm, xc)) = true from fun h => by rw [h] at h6; cases h6), if_neg (show ¬ cycsE xc ≠ 0 by simpa using h7), if_pos (show operI xc ≠ sizeI xm by simpa using h8)]
theorem insC_ok {pre : List Ins} {k : Nat} {pv xo xm : Int} {xs : ByteArray} {xc : List Cyc} (h1 : ¬ xo < 0) (h2 : ¬ xo > 255) (h3 : ¬ (0 < k ∧ xo ≤ pv)) (h4 : (!nameB (bytesOf xs)) = false) (h5 : ¬ sizeI xm < 0) (h6 : pre.any (keyB (xo, xs, xm, xc)) = false) (h7 : (cycsE xc != 0) = false) (h8 : (operI xc != sizeI xm) = false) : insC pre k pv (xo, xs, xm, xc) = 0 := by
  unfold insC
  rw [if_neg (show ¬ (xo < 0 ∨ xo > 255) from fun h => h.elim h1 h2), if_neg (show ¬ (0 < k ∧ xo ≤ pv) from h3), if_neg (show ¬ nameB (bytesOf xs) = false from fun h => by rw [h] at h4; cases h4), if_neg (show ¬ sizeI xm < 0 from h5), if_neg (show ¬ pre.any (keyB (xo, xs, xm, xc)) = true from fun h => by rw [h] at h6; cases h6), if_neg (show ¬ cycsE xc ≠ 0 by simpa using h7), if_neg (show ¬ operI xc ≠ sizeI xm by simpa using h8)]
def inssE (l : List Ins) : Int := errL (insE l) (List.range l.length)
def tailE (c : Cpu) : Int := errL cycsE [c.2.2.1, c.2.2.2.1, c.2.2.2.2]
def cpuE (c : Cpu) : Int := if nameB (bytesOf c.1) = false then 15 else if c.2.1.length > 256 then 2 else if inssE c.2.1 ≠ 0 then inssE c.2.1 else tailE c
theorem range_get {n k : Nat} (h : k < n) : (List.range n).getD k 0 = k := by
  rw [List.getD_eq_getElem?_getD, List.getElem?_range h]; rfl
def tcheckS : PSpec := ⟨[gCpu], fun (c, _) => (none, I (cpuE c), [])⟩
set_option maxHeartbeats 4000000 in
theorem tcheck_ok : GoodF Tryz.prog 101 tcheckS.spec := by
  have hT := tab_ok (fs := [(100, nameS.spec), (186, tsizeS.spec), (187, tktS.spec), (189, tcyclesS.spec), (190, toperS.spec)]) tree_ok
  have hP : SpecsOk Tryz.prog (tab tree [(100, nameS.spec), (186, tsizeS.spec), (187, tktS.spec), (189, tcyclesS.spec), (190, toperS.spec)]) := specs_cons tName_ok (specs_cons tSize_ok (specs_cons tkt_ok (specs_cons tcycles_ok (specs_cons toper_ok specs_nil))))
  refine tcheckS.good (fn := Tryz.f101) hT hP Tryz.func101 (by kernel_rfl) rfl fun (c : Cpu) _ => ?_
  obtain ⟨cn, ci, cr, cq, cm⟩ := c
  repeat' first
    | (refine Go.mk ?_; conv => whnf)
    | refine Need.go ?_ ?_
    | refine NilG.go (fun _ => ?_) (fun _ => ?_)
    | refine Br.dec (fun _ => ?_) (fun _ => ?_)
    | refine Br.go (fun _ => ?_) (fun _ => ?_)
    | refine draw_go hT hP mixed ?_
    | refine round_go hT hP ?_
  all_goals (try dsimp only [castL_eq] at *)
  · rename_i g
    have g : nameB (bytesOf cn) = false := by simpa using g
    refine .mk [] [] _ rfl rfl rfl rfl rfl rfl (imm_int ?_)
    exact (if_pos g : cpuE (cn, ci, cr, cq, cm) = 15).symm
  · rename_i g g2
    have g : nameB (bytesOf cn) = true := by simpa using g
    have g2 : (ci.length : Int) > 256 := g2
    refine .mk [] [] _ rfl rfl rfl rfl rfl rfl (imm_int ?_)
    show 2 = cpuE (cn, ci, cr, cq, cm)
    unfold cpuE
    rw [if_neg (by rw [g]; decide), if_pos (by show ci.length > 256; omega)]
  rename_i g1 g2
  have g1 : nameB (bytesOf cn) = true := by simpa using g1
  have hn : ci.length ≤ 256 := by have g2 : ¬ (ci.length : Int) > 256 := g2; omega
  clear g2
  have hC : ∀ e : Int, e ≠ 0 → inssE ci = e → e = cpuE (cn, ci, cr, cq, cm) := fun e h0 h1 => by
    unfold cpuE
    rw [if_neg (by rw [g1]; decide), if_neg (by show ¬ ci.length > 256; omega), if_pos (by rw [h1]; exact h0)]; exact h1.symm
  have hT2 : inssE ci = 0 → tailE (cn, ci, cr, cq, cm) = cpuE (cn, ci, cr, cq, cm) := fun h1 => by
    unfold cpuE
    rw [if_neg (by rw [g1]; decide), if_neg (by show ¬ ci.length > 256; omega), if_neg (by rw [h1]; decide)]
  refine up_go hT hP (A := Unit) ci.length (fun i _ => St.mk [.dead, .cell (.ptr 0 0), .dead, .dead, .dead, .dead, .dead, .dead, .dead, .dead, .dead, .dead, .dead, .dead, .dead, .dead, .dead, .dead, .dead, .dead, .cell (.ro InsT ci), I ci.length, I i, .dead, .dead, .dead, .dead, .dead, .dead, .dead, .dead, .dead, .dead, .dead, .dead, .dead, .dead, .dead, .dead, .dead, .dead, .dead, .dead, .dead, .dead, .dead, .dead, .dead, .dead, .dead, .dead, .dead, .dead, .dead, .dead, .dead, .dead, .dead, .dead, .dead, .dead, .dead, .dead, .dead, .dead, .dead, .dead, .dead, .dead, .dead, .dead, .dead, .dead, .dead, .dead, .dead, .dead, .dead, .dead, .dead, .dead, .dead, .dead, .dead, .dead, .dead, .dead, .dead, .dead, .dead, .dead, .dead, .dead, .dead, .dead, .dead, .dead, .dead, .dead, .dead]
      [some (.var [.imm (.string cn), .ro InsT ci, .ro CycT cr, .ro CycT cq, .ro CycT cm])])
    (fun k _ => errL (insE ci) ((List.range ci.length).drop k) = inssE ci) () (Le.mk [] [0] rfl rfl ?_ ?_) rfl fun k _ hk hi => ?_
  · exact rfl
  · repeat' first | exact trivial | exact ⟨rfl, rfl⟩ | refine And.intro ?_ ?_
  have hE : ∀ e : Int, e ≠ 0 → insE ci k = e → k < ci.length → e = cpuE (cn, ci, cr, cq, cm) := fun e h0 h1 hk => by
    refine hC e h0 ?_
    have hr : k < (List.range ci.length).length := by rw [List.length_range]; exact hk
    have e1 := range_get hk
    rw [← hi, errL_no 0 hr (by rw [e1, h1]; exact h0), e1, h1]
  have hN : insE ci k = 0 → k < ci.length → errL (insE ci) ((List.range ci.length).drop (k + 1)) = inssE ci := fun h1 hk => by
    have hr : k < (List.range ci.length).length := by rw [List.length_range]; exact hk
    rw [← hi, errL_ok 0 hr (by rw [range_get hk, h1])]
  repeat' first
    | (refine Go.mk ?_; conv => whnf)
    | refine Need.go ?_ ?_
    | refine NilG.go (fun _ => ?_) (fun _ => ?_)
    | refine Br.dec (fun _ => ?_) (fun _ => ?_)
    | refine Br.go (fun _ => ?_) (fun _ => ?_)
    | refine draw_go hT hP mixed ?_
    | refine round_go hT hP ?_
  all_goals (try dsimp only [castL_eq] at *)
  all_goals (have hp : (IntKind.i64.wrap ((k : Int) - 1)).toNat = k - 1 := by rw [w64 (by omega) (by omega)]; omega)
  all_goals (generalize hx : ci.getD (k : Int).toNat (dflt InsT) = x at *; obtain ⟨xo, xs, xm, xc⟩ := x)
  all_goals (have hx' : ci.getD k (dflt InsT) = (xo, xs, xm, xc) := hx)
  all_goals (have hI : insE ci k = insC (ci.take k) k (ci.getD (k - 1) (dflt InsT)).1 (xo, xs, xm, xc) := by unfold insE; rw [hx'])
  all_goals (have hdt : (ci.take (k : Int).toNat).drop 0 = ci.take k := rfl)
  all_goals (rw [hI] at hE hN)
  all_goals (try simp only [hp] at *)
  all_goals (generalize (ci.getD (k - 1) (dflt InsT)).1 = pv at *)
  all_goals (try rw [hdt] at *)
  all_goals first
    | exact .mk [] [] _ rfl rfl rfl rfl rfl rfl (imm_int (hE _ (nz_of (x := cycsE xc) (by assumption)) (insC_cyc (by assumption) (by assumption) (fun h => by omega) (by assumption) (by assumption) (by assumption) (by assumption)) (by omega)))
    | exact .mk [] [] _ rfl rfl rfl rfl rfl rfl (imm_int (hE _ (by decide) (insC_op (by assumption) (by assumption) (fun h => by omega) (by assumption) (by assumption) (by assumption) (by assumption) (by assumption)) (by omega)))
    | (refine .mk [] [] _ rfl rfl rfl rfl rfl rfl (imm_int (hE _ ?_ ?_ (by omega)))
       · first
           | decide
           | (have h0 : (cycsE xc != 0) = true := by assumption
              simpa using h0)
       · clear hT hP hE hN hC hT2 hi hx hx' hI
         simp [insC] at *
         try first
           | omega
           | (simp_all; done)
           | (simp_all; omega))
    | (show 0 ≤ (k : Int) ∧ (k : Int) < (ci.length : Int)
       omega)
    | (show 0 ≤ (k : Int) ∧ (k : Int) ≤ (ci.length : Int)
       omega)
    | (show 0 ≤ IntKind.i64.wrap ((k : Int) - 1) ∧ IntKind.i64.wrap ((k : Int) - 1) < (ci.length : Int)
       rw [w64 (by omega) (by omega)]; omega)
    | (refine ⟨?_, trivial⟩
       show ((ci.take k).drop 0).length ≤ 4611686018427387904
       rw [List.drop_zero, List.length_take]; omega)
    | (have h0 : (cycsE xc != 0) = false := by assumption
       show xc.length ≤ 1000
       have h1 : cycsE xc = 0 := by simpa using h0
       unfold cycsE at h1
       split at h1
       · cases h1
       · omega)
    | skip
  · apply Exists.intro
    apply Exists.intro ()
    refine And.intro (And.intro ?lt129 (And.intro ?ei129 ?inv129)) (Le.mk [] [0] rfl rfl ?hh129 ?ht129)
    case hh129 => exact rfl
    case ht129 => repeat' first | exact trivial | exact ⟨rfl, rfl⟩ | refine And.intro ?_ ?_
    case lt129 => omega
    case ei129 => exact up_i (by omega)
    exact hN (insC_ok (by assumption) (by assumption) (fun h => by omega) (by assumption) (by assumption) (by assumption) (by assumption) (by assumption)) (by omega)
  · apply Exists.intro
    apply Exists.intro ()
    refine And.intro (And.intro ?lt137 (And.intro ?ei137 ?inv137)) (Le.mk [] [0] rfl rfl ?hh137 ?ht137)
    case hh137 => exact rfl
    case ht137 => repeat' first | exact trivial | exact ⟨rfl, rfl⟩ | refine And.intro ?_ ?_
    case lt137 => omega
    case ei137 => exact up_i (by omega)
    exact hN (insC_ok (by assumption) (by assumption) (fun h => by omega) (by assumption) (by assumption) (by assumption) (by assumption) (by assumption)) (by omega)
  have h0 : inssE ci = 0 := by
    rw [← hi, List.drop_of_length_le (by rw [List.length_range]; omega)]; rfl
  have hQ := hT2 h0
  clear hE hN
  refine loop_unroll 4 ?_
  repeat' first
    | (refine Go.mk ?_; conv => whnf)
    | refine Need.go ?_ ?_
    | refine NilG.go (fun _ => ?_) (fun _ => ?_)
    | refine Br.dec (fun _ => ?_) (fun _ => ?_)
    | refine Br.go (fun _ => ?_) (fun _ => ?_)
    | refine draw_go hT hP mixed ?_
    | refine round_go hT hP ?_
  · exact of_decide_eq_true rfl
  · exact of_decide_eq_true rfl
  · rename_i g1
    have g1 : (cycsE cr != 0) = true := g1
    refine .mk [] [] _ rfl rfl rfl rfl rfl rfl (imm_int ?_)
    show cycsE cr = cpuE (cn, ci, cr, cq, cm)
    rw [← hQ]
    exact (if_neg (nz_of g1) : tailE (cn, ci, cr, cq, cm) = cycsE cr).symm
  · exact of_decide_eq_true rfl
  · exact of_decide_eq_true rfl
  · rename_i g1 g2
    have g1 : (cycsE cr != 0) = false := g1
    have g2 : (cycsE cq != 0) = true := g2
    refine .mk [] [] _ rfl rfl rfl rfl rfl rfl (imm_int ?_)
    show cycsE cq = cpuE (cn, ci, cr, cq, cm)
    rw [← hQ]
    exact (((if_pos (ze_of g1) : tailE (cn, ci, cr, cq, cm) = errL cycsE [cq, cm])).trans (if_neg (nz_of g2))).symm
  · exact of_decide_eq_true rfl
  · exact of_decide_eq_true rfl
  · rename_i g1 g2 g3
    have g1 : (cycsE cr != 0) = false := g1
    have g2 : (cycsE cq != 0) = false := g2
    have g3 : (cycsE cm != 0) = true := g3
    refine .mk [] [] _ rfl rfl rfl rfl rfl rfl (imm_int ?_)
    show cycsE cm = cpuE (cn, ci, cr, cq, cm)
    rw [← hQ]
    exact ((((if_pos (ze_of g1) : tailE (cn, ci, cr, cq, cm) = errL cycsE [cq, cm])).trans (if_pos (ze_of g2) : errL cycsE [cq, cm] = errL cycsE [cm])).trans (if_neg (nz_of g3))).symm
  · rename_i g1 g2 g3
    have g1 : (cycsE cr != 0) = false := g1
    have g2 : (cycsE cq != 0) = false := g2
    have g3 : (cycsE cm != 0) = false := g3
    refine .mk [] [] _ rfl rfl rfl rfl rfl rfl (imm_int ?_)
    show 0 = cpuE (cn, ci, cr, cq, cm)
    rw [← hQ]
    exact ((((if_pos (ze_of g1) : tailE (cn, ci, cr, cq, cm) = errL cycsE [cq, cm])).trans (if_pos (ze_of g2) : errL cycsE [cq, cm] = errL cycsE [cm])).trans (if_pos (ze_of g3) : errL cycsE [cm] = errL cycsE [])).symm

end Go.Proofs.YtofgbclopbmlcaaGreat

/- board.Check: what is wrong with a board (words). -/
namespace Go.Proofs.YtofgbclopbmlcaaGreat
open Go.Fw
set_option linter.unusedVariables false
set_option linter.unusedSimpArgs false
set_option linter.constructorNameAsVariable false
set_option maxRecDepth 100000

/-- what is wrong between a chip and one before it -/
def pairE (c d : Cv) : Int := if strEq d.1 c.1 = true then 5 else if c.2.2.1 < IntKind.i64.wrap (d.2.2.1 + d.2.2.2.1) ∧ d.2.2.1 < IntKind.i64.wrap (c.2.2.1 + c.2.2.2.1) then 16 else 0
def chipAtE (pre : List Cv) (c : Cv) : Int := if chipE c ≠ 0 then chipE c else errL (pairE c) pre
def chipsE (l : List Cv) : Int := errL (fun k => chipAtE (l.take k) (l.getD k (dflt ChipT))) (List.range l.length)
def wireAtE (b : Bd) (k : Nat) : Int := if wireE b (b.2.2.2.getD k (dflt WireT)) ≠ 0 then wireE b (b.2.2.2.getD k (dflt WireT)) else if (b.2.2.2.take k).any (sameW (b.2.2.2.getD k (dflt WireT))) = true then 5 else 0
def boardE (b : Bd) : Int :=
  if nameB (bytesOf b.1) = false then 15 else if cpuE b.2.1 ≠ 0 then cpuE b.2.1 else if b.2.2.1.length > 12 then 2 else if chipsE b.2.2.1 ≠ 0 then chipsE b.2.2.1
  else if b.2.2.2.length > 40 then 2 else errL (wireAtE b) (List.range b.2.2.2.length)

end Go.Proofs.YtofgbclopbmlcaaGreat

/- Facts of boards: clashes, names that differ, wires; no program here. -/
namespace Go.Proofs.YtofgbclopbmlcaaGreat
open Go.Fw
set_option linter.unusedVariables false
set_option linter.unusedSimpArgs false
set_option linter.constructorNameAsVariable false
set_option maxRecDepth 100000

theorem chipE_0 {c : Cv} (h : chipE c = 0) : (0 ≤ c.2.1 ∧ c.2.1 ≤ 8) ∧ (1 ≤ c.2.2.2.1 ∧ c.2.2.2.1 ≤ 4096) ∧ 0 ≤ c.2.2.1 ∧ c.2.2.1 ≤ 65536 - c.2.2.2.1 := by
  obtain ⟨cn, ck, cb, cs, cd⟩ := c
  unfold chipE at h
  dsimp only at h ⊢
  repeat' split at h
  all_goals first
    | (exfalso; revert h; decide)
    | skip
  all_goals
    rcases kinds ck with rfl | rfl | rfl | rfl | rfl | rfl | rfl | rfl | rfl | hx
  all_goals (try simp only [w64e] at *)
  all_goals first
    | omega
    | (simp only [sizeK, sel] at *; omega)
    | (simp [sizeK, sel] at *; omega)
/-- a clash, in the reference's words -/
theorem clash_iff {c d : Cv} (hc : chipE c = 0) (hd : chipE d = 0) :
    (imax c.2.2.1 d.2.2.1 < imin (IntKind.i64.wrap (c.2.2.1 + c.2.2.2.1)) (IntKind.i64.wrap (d.2.2.1 + d.2.2.2.1))) ↔ (c.2.2.1 < IntKind.i64.wrap (d.2.2.1 + d.2.2.2.1) ∧ d.2.2.1 < IntKind.i64.wrap (c.2.2.1 + c.2.2.2.1)) := by
  have h1 := chipE_0 hc
  have h2 := chipE_0 hd
  rw [imax_eq, imin_eq, w64 (by omega) (by omega), w64 (by omega) (by omega)]
  omega
theorem errL_all {α : Type} {f : α → Int} : ∀ {l : List α}, errL f l = 0 → ∀ x ∈ l, f x = 0
  | y :: r, h, x, hx => by
    unfold errL at h
    split at h
    · rename_i h0
      rcases List.mem_cons.1 hx with rfl | hx
      · exact h0
      · exact errL_all h x hx
    · rename_i h0; exact absurd h h0
theorem chipsE_at {l : List Cv} (h : chipsE l = 0) {k : Nat} (hk : k < l.length) : chipAtE (l.take k) (l.getD k (dflt ChipT)) = 0 :=
  errL_all h k (List.mem_range.2 hk)
theorem chipsE_c {l : List Cv} (h : chipsE l = 0) {c : Cv} (hc : c ∈ l) : chipE c = 0 := by
  obtain ⟨k, hk, e⟩ := List.getElem_of_mem hc
  have h1 := chipsE_at h hk
  rw [List.getD_eq_getElem?_getD, List.getElem?_eq_getElem hk, Option.getD_some, e] at h1
  unfold chipAtE at h1
  split at h1
  · rename_i h2; exact absurd h1 h2
  · rename_i h2; omega
theorem pairE_name {c d : Cv} (h : pairE c d = 0) : d.1 ≠ c.1 := fun e => by
  unfold pairE at h
  rw [if_pos (strEq_iff.2 e)] at h; cases h
theorem names_differ {l : List Cv} (h : chipsE l = 0) : l.Pairwise fun c d => c.1 ≠ d.1 := by
  rw [List.pairwise_iff_getElem]
  intro i j hi hj hij
  have h1 := chipsE_at h hj
  rw [List.getD_eq_getElem?_getD, List.getElem?_eq_getElem hj, Option.getD_some] at h1
  unfold chipAtE at h1
  split at h1
  · rename_i h2; exact absurd h1 h2
  · have h3 := errL_all h1 l[i] (by
      rw [List.mem_take_iff_getElem]
      exact ⟨i, by omega, rfl⟩)
    exact pairE_name h3
def kindF (s : ByteArray) (k : Int) (c : Cv) : Int := if strEq c.1 s = true then c.2.1 else k
def kindL (s : ByteArray) (l : List Cv) : Int := l.foldl (kindF s) (-1)
theorem kindL_step {s : ByteArray} {l : List Cv} {k : Nat} (h : k < l.length) : kindL s (l.take (k + 1)) = kindF s (kindL s (l.take k)) (l.getD k (dflt ChipT)) := by
  unfold kindL
  rw [take_snoc2 (dflt ChipT) h, List.foldl_append]; rfl
theorem kindF_none {s : ByteArray} : ∀ {l : List Cv} {a : Int}, (∀ c ∈ l, c.1 ≠ s) → l.foldl (kindF s) a = a
  | [], _, _ => rfl
  | x :: r, a, h => by
    rw [List.foldl_cons, show kindF s a x = a from if_neg (fun e => h x (List.mem_cons_self ..) (strEq_iff.1 e))]
    exact kindF_none fun c hc => h c (List.mem_cons_of_mem _ hc)
theorem kindF_fst {s : ByteArray} : ∀ {l : List Cv} {a : Int} {k : Nat}, l.Pairwise (fun c d => c.1 ≠ d.1) →
    (fstG (nmB s) l k < 0 → l.foldl (kindF s) a = a) ∧ (0 ≤ fstG (nmB s) l k → l.foldl (kindF s) a = (l.getD (fstG (nmB s) l k - k).toNat (dflt ChipT)).2.1)
  | [], a, k, _ => ⟨fun _ => rfl, fun h => by simp [fstG] at h⟩
  | x :: r, a, k, hp => by
    rw [List.pairwise_cons] at hp
    by_cases hx : strEq x.1 s = true
    · have e : fstG (nmB s) (x :: r) k = k := if_pos hx
      rw [e]
      refine ⟨fun h => by omega, fun _ => ?_⟩
      rw [List.foldl_cons, show kindF s a x = x.2.1 from if_pos hx, kindF_none (fun c hc ec => hp.1 c hc ((strEq_iff.1 hx).trans ec.symm)), show ((k : Int) - k).toNat = 0 by omega]
      rfl
    · have e : fstG (nmB s) (x :: r) k = fstG (nmB s) r (k + 1) := if_neg hx
      obtain ⟨h1, h2⟩ := kindF_fst (s := s) (l := r) (a := a) (k := k + 1) hp.2
      rw [e, List.foldl_cons, show kindF s a x = a from if_neg hx]
      refine ⟨h1, fun h => ?_⟩
      rw [h2 h]
      have hin := fstG_in (p := nmB s) (l := r) (k := k + 1)
      rw [show (fstG (nmB s) r (k + 1) - (k : Int)).toNat = (fstG (nmB s) r (k + 1) - ((k + 1 : Nat) : Int)).toNat + 1 by omega]
      rfl
theorem kindL_eq {s : ByteArray} {l : List Cv} (hp : l.Pairwise fun c d => c.1 ≠ d.1) : kindL s l = if fstI (nmB s) l < 0 then -1 else (l.getD (fstI (nmB s) l).toNat (dflt ChipT)).2.1 := by
  obtain ⟨h1, h2⟩ := kindF_fst (s := s) (a := -1) (k := 0) hp
  unfold kindL fstI
  split
  · rename_i h; exact h1 h
  · rename_i h
    rw [h2 (by omega)]; simp
theorem kindL_neg {s : ByteArray} {l : List Cv} (h : chipsE l = 0) : kindL s l < 0 ↔ fstI (nmB s) l < 0 := by
  rw [kindL_eq (names_differ h)]
  have hin := fstI_in (nmB s) l
  split
  · rename_i h1; exact ⟨fun _ => h1, fun _ => by decide⟩
  · rename_i h1
    have := (chipE_0 (chipsE_c h (memD' (dflt ChipT) (show (fstI (nmB s) l).toNat < l.length by omega)))).1
    omega
theorem bytes_ext {a b : ByteArray} (h : a.data.toList = b.data.toList) : a = b := by
  cases a; cases b; simp only [ByteArray.mk.injEq]; exact Array.ext' h
theorem dot_split : ∀ {l : List UInt8}, 0 ≤ Lib.indexByte l 46 → l = l.take (Lib.indexByte l 46).toNat ++ 46 :: l.drop ((Lib.indexByte l 46).toNat + 1)
  | [], h => by simp [Lib.indexByte] at h
  | x :: r, h => by
    unfold Lib.indexByte at h ⊢
    by_cases hx : (x == 46) = true
    · rw [if_pos hx]
      have : x = 46 := by simpa using hx
      subst this; rfl
    · rw [if_neg hx] at h ⊢
      by_cases h2 : (Lib.indexByte r 46 == -1) = true
      · rw [if_pos h2] at h; simp at h
      · rw [if_neg h2] at h ⊢
        have hin := indexB_in 46 r
        have h3 : Lib.indexByte r 46 ≠ -1 := fun e => h2 (beq_iff_eq.2 e)
        have ih := dot_split (l := r) (by omega)
        rw [show (Lib.indexByte r 46 + 1).toNat = (Lib.indexByte r 46).toNat + 1 by omega]
        simpa using ih
/-- the pin's name behind the dot is irq: the whole is the chip's name and '.irq' -/
theorem pin_eq (s : ByteArray) : strEq s (cutB s ++ irqS) = strEq (cutA s) irqP := by
  rw [Bool.eq_iff_iff, strEq_iff, strEq_iff]
  by_cases hd : 0 ≤ dotI s
  · have e := dot_split (l := s.data.toList) hd
    have h1 : (cutB s).data.toList = s.data.toList.take (dotI s).toNat := by
      unfold cutB; rw [if_pos hd, ByteArray.data_extract]; simp
    have hin := dotI_in hd
    have hsz : s.data.toList.length = s.size := Array.length_toList
    have h2 : (cutA s).data.toList = s.data.toList.drop ((dotI s).toNat + 1) := by
      unfold cutA; rw [if_pos hd, ByteArray.data_extract, show (dotI s + 1).toNat = (dotI s).toNat + 1 by omega]
      rw [Array.toList_extract, List.extract_eq_take_drop]
      rw [List.take_of_length_le (by rw [List.length_drop]; omega)]
    have h3 : (cutB s ++ irqS).data.toList = s.data.toList.take (dotI s).toNat ++ [46, 105, 114, 113] := by
      rw [ByteArray.data_append, Array.toList_append, h1]; rfl
    constructor
    · intro h
      apply bytes_ext
      rw [h2]
      have h4 : s.data.toList = (cutB s ++ irqS).data.toList := congrArg (fun x : ByteArray => x.data.toList) h
      rw [h3] at h4
      have h5 := e.symm.trans h4
      have h6 := List.append_cancel_left h5
      injection h6
    · intro h
      apply bytes_ext
      rw [h3]
      have h4 : (cutA s).data.toList = irqP.data.toList := congrArg (fun x : ByteArray => x.data.toList) h
      rw [h2] at h4
      have h5 : s.data.toList.drop ((dotI s).toNat + 1) = [105, 114, 113] := h4
      refine e.trans ?_
      show s.data.toList.take (dotI s).toNat ++ 46 :: s.data.toList.drop ((dotI s).toNat + 1) = _
      rw [h5]
  · have e1 : cutB s = s := if_neg hd
    have e2 : cutA s = ⟨#[]⟩ := if_neg hd
    rw [e1, e2]
    constructor
    · intro h
      have h4 := congrArg ByteArray.size h
      rw [ByteArray.size_append] at h4
      have : irqS.size = 4 := rfl
      omega
    · intro h
      exact absurd (congrArg ByteArray.size h) (by decide)

-- the map of the wires before

theorem wGet_put {l : List (Den WireT × Den .bool)} {k k' : Den WireT} {v : Den .bool} : mapGet (mapPut l k v) k' = if denEq WireT k' k = true then some v else mapGet l k' := by
  have hs : ∀ {a b : Den WireT}, denEq WireT a b = true ↔ a = b := denEq_iff
  induction l with
  | nil =>
    show (match denEq WireT k' k with | true => some v | false => none) = _
    cases denEq WireT k' k <;> rfl
  | cons p r ih =>
    obtain ⟨pk, pv⟩ := p
    by_cases h : denEq WireT k pk = true
    · have e : mapPut ((pk, pv) :: r) k v = (k, v) :: r := by
        show (match denEq WireT k pk with | true => (k, v) :: r | false => (pk, pv) :: mapPut r k v) = _
        rw [h]
      rw [e]
      have hk := hs.1 h
      subst hk
      show (match denEq WireT k' k with | true => some v | false => mapGet r k') = if denEq WireT k' k = true then some v else (match denEq WireT k' k with | true => some pv | false => mapGet r k')
      cases denEq WireT k' k <;> rfl
    · have h0 : denEq WireT k pk = false := by simpa using h
      have e : mapPut ((pk, pv) :: r) k v = (pk, pv) :: mapPut r k v := by
        show (match denEq WireT k pk with | true => (k, v) :: r | false => (pk, pv) :: mapPut r k v) = _
        rw [h0]
      rw [e]
      show (match denEq WireT k' pk with | true => some pv | false => mapGet (mapPut r k v) k') = if denEq WireT k' k = true then some v else (match denEq WireT k' pk with | true => some pv | false => mapGet r k')
      rw [ih]
      by_cases h1 : denEq WireT k' pk = true
      · have h2 : ¬ denEq WireT k' k = true := fun h3 => h (by rw [← hs.1 h3]; exact h1)
        rw [h1]
        show some pv = if denEq WireT k' k = true then some v else some pv
        rw [if_neg h2]
      · have h1' : denEq WireT k' pk = false := by simpa using h1
        rw [h1']
def wKeys (M : List (Den WireT × Den .bool)) (l : List Wr) : Prop := ∀ x : Wr, getOr (mapGet M x) false = l.any (sameW x)
theorem wKeys_put {M : List (Den WireT × Den .bool)} {l : List Wr} {k : Nat} {y : Wr} (h : wKeys M (l.take k)) (hk : k < l.length) (e : l.getD k (dflt WireT) = y) : wKeys (mapPut M y true) (l.take (k + 1)) := by
  intro x
  rw [wGet_put, take_snoc2 (dflt WireT) hk, e, List.any_append]
  by_cases hc : sameW x y = true
  · rw [if_pos (show denEq WireT x y = true from hc)]
    show true = _
    simp [hc]
  · rw [if_neg (show ¬ denEq WireT x y = true from hc), h x]
    have hc' : sameW x y = false := by simpa using hc
    simp [hc']

end Go.Proofs.YtofgbclopbmlcaaGreat

