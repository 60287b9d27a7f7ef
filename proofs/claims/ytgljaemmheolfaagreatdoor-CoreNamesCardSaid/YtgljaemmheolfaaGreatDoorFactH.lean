/- The facts on the program that the evaluator leans on. -/
import Derived.Test.YtgljaemmheolfaaGreatDoorFactA
import Derived.Test.YtgljaemmheolfaaGreatDoorFactB
import Derived.Test.YtgljaemmheolfaaGreatDoorFactC
import Derived.Test.YtgljaemmheolfaaGreatDoorFactD
import Derived.Test.YtgljaemmheolfaaGreatDoorFactE
import Derived.Test.YtgljaemmheolfaaGreatDoorFactF
import Derived.Test.YtgljaemmheolfaaGreatDoorFactG
import Derived.Test.YtgljaemmheolfaaGreatDoorOw
set_option linter.all false
namespace Go.Proofs.YtgljaemmheolfaaGreatDoor
open Go Go.Ev
theorem range_succ (n lo : Nat) : rangeOk (n + 1) lo = @Bool.rec (fun _ => Bool) (rangeOk n (Nat.succ lo)) (@Bool.rec (fun _ => Bool) false (rangeOk n (Nat.succ lo)) (fnOk lo)) (okOf lo) := by kernel_rfl
theorem range_all : ∀ (n lo : Nat), rangeOk n lo = true → ∀ f, lo ≤ f → f < lo + n → okOf f = true → fnOk f = true
 | 0, lo, _, f, h1, h2, _ => absurd h2 (by omega)
 | n + 1, lo, h, f, h1, h2, hf => by
  rw [range_succ] at h
  by_cases e : f = lo
  ·subst e
   rw [hf] at h
   cases hk : fnOk f with
   | true => rfl
   | false => rw [hk] at h; exact nomatch h
  ·refine range_all n (lo + 1) ?_ f (by omega) (by omega) hf
   cases hl : okOf lo with
   | false => rw [hl] at h; exact h
   | true =>
    rw [hl] at h
    cases hk : fnOk lo with
    | true => rw [hk] at h; exact h
    | false => rw [hk] at h; exact nomatch h
theorem all_fnOk (f : Nat) (hlt : f < 682) (hf : okOf f = true) : fnOk f = true := by
 by_cases h0 : f < 60
 ·exact range_all 60 0 ok0 f (by omega) (by omega) hf
 by_cases h1 : f < 120
 ·exact range_all 60 60 ok1 f (by omega) (by omega) hf
 by_cases h2 : f < 180
 ·exact range_all 60 120 ok2 f (by omega) (by omega) hf
 by_cases h3 : f < 240
 ·exact range_all 60 180 ok3 f (by omega) (by omega) hf
 by_cases h4 : f < 300
 ·exact range_all 60 240 ok4 f (by omega) (by omega) hf
 by_cases h5 : f < 360
 ·exact range_all 60 300 ok5 f (by omega) (by omega) hf
 by_cases h6 : f < 420
 ·exact range_all 60 360 ok6 f (by omega) (by omega) hf
 by_cases h7 : f < 480
 ·exact range_all 60 420 ok7 f (by omega) (by omega) hf
 by_cases h8 : f < 540
 ·exact range_all 60 480 ok8 f (by omega) (by omega) hf
 by_cases h9 : f < 600
 ·exact range_all 60 540 ok9 f (by omega) (by omega) hf
 by_cases h10 : f < 660
 ·exact range_all 60 600 ok10 f (by omega) (by omega) hf
 exact range_all 60 660 ok11 f (by omega) (by omega) hf
theorem fn_facts {f : Nat} {fn : Func} (h : Tryz.prog.funcs[f]? = some fn) (hf : okOf f = true) : fn.ntmps ≤ 992 ∧ ¬ fn.name = "runtime.NumGoroutine" ∧ ∀ c, fn.body = some c → okCode Tryz.prog (tabOf f) c = true := by
 have hlt : f < 682 := by
  have h1 := (Array.getElem?_eq_some_iff.1 h).1
  have h2 := Nat.eq_of_beq_eq_true sizeOk
  omega
 have hk := all_fnOk f hlt hf
 unfold fnOk at hk
 rw [h] at hk
 simp only [Bool.and_eq_true, Bool.not_eq_eq_eq_not, Bool.not_true, decide_eq_false_iff_not] at hk
 obtain ⟨⟨k1, k2⟩, k3⟩ := hk
 refine ⟨Nat.le_of_ble_eq_true k1, k2, fun c hc => ?_⟩
 rw [hc] at k3
 exact k3
theorem eqs_fact : EqsOk Tryz.prog eqsL := by
 intro t ht
 have h := List.all_eq_true.1 eqsOk_all t ht
 simp only [Bool.and_eq_true, Bool.not_eq_eq_eq_not, Bool.not_true] at h
 exact h
theorem cf_ok : FOk cf := ⟨mixedOk, eqs_fact, fun f hf => by
 have : f = 371 := by simpa [cf] using hf
 subst this; exact backOk, fun f fn c h hb hk => (fn_facts h hk).2.2 c hb⟩
theorem cf_names : Sp.NamesOk cf := fun f fn h hk => ⟨(fn_facts h hk).1, (fn_facts h hk).2.1⟩
theorem hooks_ok : ∀ f k, hkC f = some k → HookOk cf.P cf.gl f k := by
 intro f k h
 unfold hkC at h
 by_cases h1 : f = 310
 ·subst h1
  have h : some Hook.idx = some k := h
  cases h
  exact Ow.idx_hook _
 ·rw [show Nat.beq f 310 = false from by rw [← Bool.not_eq_true, Nat.beq_eq]; exact h1] at h
  by_cases h2 : f = 362
  ·subst h2
   have h : some Hook.oth = some k := h
   cases h
   exact Ow.oth_hook _
  ·rw [show Nat.beq f 362 = false from by rw [← Bool.not_eq_true, Nat.beq_eq]; exact h2] at h
   by_cases h3 : f = 515
   ·subst h3
    have h : some (Hook.tab parseT) = some k := h
    cases h
    exact Ow.tab_hook _
   ·rw [show Nat.beq f 515 = false from by rw [← Bool.not_eq_true, Nat.beq_eq]; exact h3] at h
    by_cases h4 : f = 488
    ·subst h4
     have h : some (Hook.ind 4) = some k := h
     cases h
     exact Ow.ind_hook _ (by simp [cf])
    ·rw [show Nat.beq f 488 = false from by rw [← Bool.not_eq_true, Nat.beq_eq]; exact h4] at h
     exact nomatch h
end Go.Proofs.YtgljaemmheolfaaGreatDoor
