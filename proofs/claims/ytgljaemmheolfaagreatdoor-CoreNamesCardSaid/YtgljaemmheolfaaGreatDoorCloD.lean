/- The functions that CoreNames reaches. -/
import Derived.Test.YtgljaemmheolfaaGreatDoorCloB
import Derived.Test.YtgljaemmheolfaaGreatDoorCloC
import Derived.Test.YtgljaemmheolfaaGreatDoorFactG
set_option linter.all false
namespace Go.Proofs.YtgljaemmheolfaaGreatDoor
open Go
set_option maxRecDepth 100000
theorem fuel_gen {α : Type} (F : Array α) (g : α → List Nat) (T : List (List Nat)) (n : Nat) (hs : F.size = n) (hl : T.length = n) (h : ∀ i, (F[i]?).elim [] g = T.getD i []) : (F.toList.map fun x => (g x).length + 1).sum = (T.map fun l => l.length + 1).sum := by
 congr 1
 apply List.ext_getElem?
 intro i
 have h := h i
 rw [List.getElem?_map, List.getElem?_map, Array.getElem?_toList]
 by_cases hi : i < n
 ·rw [List.getD_eq_getElem?_getD] at h
  rw [Array.getElem?_eq_getElem (by omega)] at h ⊢
  rw [List.getElem?_eq_getElem (by omega)] at h ⊢
  simp only [Option.elim_some, Option.getD_some] at h
  simp only [Option.map_some, h]
 ·rw [Array.getElem?_eq_none (by omega), List.getElem?_eq_none (by omega)]
  rfl
theorem leads_gen {α : Type} (F : Array α) (g : α → List Nat) (T : List (List Nat)) (n : Nat) (hs : F.size = n) (hl : T.length = n) (h : ∀ i, i < n → (F[i]?).elim [] g = T.getD i []) (i : Nat) : (F[i]?).elim [] g = T.getD i [] := by
 by_cases hi : i < n
 ·exact h i hi
 ·rw [Array.getElem?_eq_none (by omega), List.getD_eq_getElem?_getD, List.getElem?_eq_none (by omega)]
  rfl
theorem sizeE : Tryz.prog.funcs.size = 682 := Nat.eq_of_beq_eq_true sizeOk
theorem leadsTLen : leadsT.length = 682 := by kernel_rfl
theorem leads_all (f : Nat) : (Tryz.prog.funcs[f]?).elim [] Tryz.prog.leadsTo = leadsT.getD f [] := by
 have key : ∀ f, f < 700 → leadOk f = true := by
  intro f hlt
  by_cases h0 : f < 100
  ·exact leadsOk_all 100 0 lead0 f (by omega) (by omega)
  by_cases h1 : f < 200
  ·exact leadsOk_all 100 100 lead1 f (by omega) (by omega)
  by_cases h2 : f < 300
  ·exact leadsOk_all 100 200 lead2 f (by omega) (by omega)
  by_cases h3 : f < 400
  ·exact leadsOk_all 100 300 lead3 f (by omega) (by omega)
  by_cases h4 : f < 500
  ·exact leadsOk_all 100 400 lead4 f (by omega) (by omega)
  by_cases h5 : f < 600
  ·exact leadsOk_all 100 500 lead5 f (by omega) (by omega)
  exact leadsOk_all 100 600 lead6 f (by omega) (by omega)
 exact leads_gen Tryz.prog.funcs Tryz.prog.leadsTo leadsT 682 sizeE leadsTLen (fun i hi => eqL_eq (key i (by omega))) f
theorem fuel_eq : (Tryz.prog.funcs.toList.map fun g => (Tryz.prog.leadsTo g).length + 1).sum = (leadsT.map fun l => l.length + 1).sum :=
 fuel_gen Tryz.prog.funcs Tryz.prog.leadsTo leadsT 682 sizeE leadsTLen leads_all
theorem closT : cloT leadsT (1 + (leadsT.map fun l => l.length + 1).sum) [3] 0 [] = closL := by kernel_rfl
theorem closure3 : Tryz.prog.closure 3 = closL := by
 unfold Program.closure
 rw [fuel_eq, cloT_eq leads_all _ _ 0 _ (fun x => by simp)]
 exact closT
end Go.Proofs.YtgljaemmheolfaaGreatDoor
