/- Lines with four values, as plain functions: how joining many compares with the drivers of each way. -/
import Derived.Test.YtjggjnjmnmdgaaaRefLaw
namespace Go.Proofs.Ytjggjnjmnmdgaaa
open Go.Fw
set_option linter.unusedVariables false
set_option linter.unusedSimpArgs false

def fitF (a : Int) : Int := if a < 0 then 3 else if a > 3 then 3 else a
def joinF (a b : Int) : Int := if fitF a = 2 then fitF b else if fitF b = 2 then fitF a else if fitF a = fitF b then fitF a else 3
def pullF (a b : Int) : Int := if fitF a = 2 then fitF b else fitF a
def allF (l : List Int) : Int := l.foldl joinF 2
def lowB (a : Int) : Bool := decide (a = 0) || (decide (a < 0) || decide (a > 2))
def highB (a : Int) : Bool := decide (a = 1) || (decide (a < 0) || decide (a > 2))
def codeF (lo hi : Bool) : Int := match lo, hi with | true, true => 3 | true, false => 0 | false, true => 1 | false, false => 2
def lineF (l : List Int) : Int := codeF (l.any lowB) (l.any highB)
def wiredF (l : List Int) (b : Int) : Int := if l.any (fun x => decide (fitF x = 0)) = true then 0 else if l.any (fun x => decide (fitF x = 3)) = true then 3 else fitF b

theorem fitF_code (a : Int) : fitF a = codeF (lowB a) (highB a) := by
  by_cases h0 : a = 0
  · subst h0; decide
  by_cases h1 : a = 1
  · subst h1; decide
  by_cases h2 : a = 2
  · subst h2; decide
  have e1 : lowB a = true := by unfold lowB; simp; omega
  have e2 : highB a = true := by unfold highB; simp; omega
  rw [e1, e2]
  show fitF a = 3
  unfold fitF
  split <;> (try split) <;> omega
theorem join_code (lo hi : Bool) (a : Int) : joinF (codeF lo hi) a = codeF (lo || lowB a) (hi || highB a) := by
  unfold joinF
  rw [fitF_code a]
  cases lo <;> cases hi <;> cases lowB a <;> cases highB a <;> decide
theorem foldl_code : ∀ (l : List Int) (lo hi : Bool), l.foldl joinF (codeF lo hi) = codeF (lo || l.any lowB) (hi || l.any highB)
  | [], lo, hi => by simp
  | a :: l, lo, hi => by
    rw [List.foldl_cons, join_code, foldl_code l, List.any_cons, List.any_cons, Bool.or_assoc, Bool.or_assoc]
theorem allF_line (l : List Int) : allF l = lineF l := by
  show l.foldl joinF (codeF false false) = _
  rw [foldl_code]
  simp [lineF]
theorem line_one (a : Int) : lineF [a] = fitF a := by
  rw [fitF_code]; simp [lineF]
theorem line_two (a b : Int) : lineF [a, b] = joinF a b := by
  have h := join_code (lowB a) (highB a) b
  rw [← fitF_code] at h
  have e : joinF (fitF a) b = joinF a b := by
    have : fitF (fitF a) = fitF a := by
      rw [fitF_code a]; cases lowB a <;> cases highB a <;> decide
    unfold joinF
    rw [this]
  rw [← e, h]
  simp [lineF]

end Go.Proofs.Ytjggjnjmnmdgaaa
