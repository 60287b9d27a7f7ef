/- No function of the program starts a goroutine. -/
import Derived.Test.YtgljaemmheolfaaGreatDoorRows
import Derived.KernelRfl
import GoSem.ClaimGoes
set_option linter.all false
namespace Go.Proofs.YtgljaemmheolfaaGreatDoor
open Go
theorem noGoes : Tryz.prog.funcs.toList.any Func.goes = false := by kernel_rfl
theorem goes_none {P : Program} (h : P.funcs.toList.any Func.goes = false) (f : FuncId) : P.goes f = false := by
 have h' : ∀ fn ∈ P.funcs.toList, Func.goes fn = false := by
  intro fn hm
  cases hg : Func.goes fn with
  | false => rfl
  | true => exact absurd (List.any_eq_true.2 ⟨fn, hm, hg⟩) (by rw [h]; simp)
 unfold Program.goes
 have h1 : ((P.closure f).any fun g => (P.funcs[g]?).any Func.goes) = false := by
  cases hc : ((P.closure f).any fun g => (P.funcs[g]?).any Func.goes) with
  | false => rfl
  | true =>
   have : ∃ g : Nat, (P.funcs[g]?).any Func.goes = true := by
    simp only [List.any_eq_true, Array.any_eq_true] at hc
    obtain ⟨g, hg⟩ := hc
    first | exact ⟨g, hg.2⟩ | (obtain ⟨hl, hg⟩ := hg; exact ⟨_, hg⟩)
   obtain ⟨g, hg⟩ := this
   cases hf : P.funcs[g]? with
   | none => rw [hf] at hg; simp at hg
   | some fn =>
    rw [hf] at hg
    have hm : fn ∈ P.funcs.toList := by
     have := Array.mem_of_getElem? hf
     simpa using this
    have := h' fn hm
    simp only [Option.any_some] at hg
    rw [this] at hg; cases hg
 have h2 : P.funcs.any Func.goes = false := by
  cases hc : P.funcs.any Func.goes with
  | false => rfl
  | true =>
   rw [← Array.any_toList] at hc
   rw [h] at hc; cases hc
 rw [h1, h2]; simp
theorem goesBy_none {c : OpenClaim} (h : c.start = .entering) : c.goesBy Tryz.prog = false := by
 unfold OpenClaim.goesBy Program.goesAt Program.goesFrom
 rw [h]
 cases hf : Tryz.prog.funcNamed c.func with
 | none => rfl
 | some f => simp only [Option.any_some]; rw [goes_none noGoes f]; rfl
end Go.Proofs.YtgljaemmheolfaaGreatDoor
