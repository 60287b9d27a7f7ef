/- The facts on the program that the evaluator leans on. -/
import Derived.Test.YtniifikiohcloaaGreatDoorFactA
import Derived.Test.YtniifikiohcloaaGreatDoorFactB
import Derived.Test.YtniifikiohcloaaGreatDoorFactC
import Derived.Test.YtniifikiohcloaaGreatDoorTop
import Derived.Test.YtniifikiohcloaaGreatDoorBack
set_option linter.all false
namespace Go.Proofs.YtniifikiohcloaaGreatDoor
open Go Go.Ev
theorem range_succ (n lo : Nat) : rangeOk (n + 1) lo = @Bool.rec (fun _ => Bool) (rangeOk n (Nat.succ lo)) (@Bool.rec (fun _ => Bool) false (rangeOk n (Nat.succ lo)) (fnOk lo)) (okOf lo) := by kernel_rfl
theorem range_all : ∀ (n lo : Nat), rangeOk n lo = true → ∀ f, lo ≤ f → f < lo + n → okOf f = true → fnOk f = true
  | 0, lo, _, f, h1, h2, _ => absurd h2 (by omega)
  | n + 1, lo, h, f, h1, h2, hf => by
    rw [range_succ] at h
    by_cases e : f = lo
    · subst e
      rw [hf] at h
      cases hk : fnOk f with
      | true => rfl
      | false => rw [hk] at h; exact nomatch h
    · refine range_all n (lo + 1) ?_ f (by omega) (by omega) hf
      cases hl : okOf lo with
      | false => rw [hl] at h; exact h
      | true =>
        rw [hl] at h
        cases hk : fnOk lo with
        | true => rw [hk] at h; exact h
        | false => rw [hk] at h; exact nomatch h
theorem all_fnOk (f : Nat) (hlt : f < 540) (hf : okOf f = true) : fnOk f = true := by
  by_cases h0 : f < 60
  · exact range_all 60 0 ok0 f (by omega) (by omega) hf
  by_cases h1 : f < 120
  · exact range_all 60 60 ok1 f (by omega) (by omega) hf
  by_cases h2 : f < 180
  · exact range_all 60 120 ok2 f (by omega) (by omega) hf
  by_cases h3 : f < 240
  · exact range_all 60 180 ok3 f (by omega) (by omega) hf
  by_cases h4 : f < 300
  · exact range_all 60 240 ok4 f (by omega) (by omega) hf
  by_cases h5 : f < 360
  · exact range_all 60 300 ok5 f (by omega) (by omega) hf
  by_cases h6 : f < 420
  · exact range_all 60 360 ok6 f (by omega) (by omega) hf
  by_cases h7 : f < 480
  · exact range_all 60 420 ok7 f (by omega) (by omega) hf
  exact range_all 60 480 ok8 f (by omega) (by omega) hf
theorem fn_facts {f : Nat} {fn : Func} (h : Tryz.prog.funcs[f]? = some fn) (hf : okOf f = true) : fn.ntmps ≤ 992 ∧ ¬ fn.name = "runtime.NumGoroutine" ∧ ∀ c, fn.body = some c → okCode Tryz.prog (tabOf f) c = true := by
  have hlt : f < 540 := by
    have h1 := (Array.getElem?_eq_some_iff.1 h).1
    have h2 := Nat.eq_of_beq_eq_true sizeOk
    omega
  have hk := all_fnOk f hlt hf
  unfold fnOk at hk
  rw [h] at hk
  simp only [Bool.and_eq_true, Bool.not_eq_eq_eq_not, Bool.not_true, decide_eq_false_iff_not] at hk
  obtain ⟨⟨k1, k2⟩, k3⟩ := hk
  refine ⟨Nat.le_of_ble_eq_true k1, k2, fun c hc => ?_⟩
  rw [hc] at k3
  exact k3
theorem eqs_fact : EqsOk Tryz.prog eqsL := by
  intro t ht
  have h := List.all_eq_true.1 eqsOk_all t ht
  simp only [Bool.and_eq_true, Bool.not_eq_eq_eq_not, Bool.not_true] at h
  exact h
theorem cf_ok : FOk cf := ⟨mixedOk, eqs_fact, fun f hf => absurd hf List.not_mem_nil, fun f fn c h hb hk => (fn_facts h hk).2.2 c hb⟩
theorem cfB_ok : FOk cfB := ⟨mixedOk, eqs_fact, fun f hf => by
  have : f = 282 := by simpa [cfB] using hf
  subst this; exact backOk, fun f fn c h hb hk => (fn_facts h hk).2.2 c hb⟩
theorem cf_names : Sp.NamesOk cf := fun f fn h hk => ⟨(fn_facts h hk).1, (fn_facts h hk).2.1⟩
theorem cfB_names : Sp.NamesOk cfB := fun f fn h hk => ⟨(fn_facts h hk).1, (fn_facts h hk).2.1⟩
theorem inf_does {len bits l c n : Nat} (h : infRun len bits l c n = Sp.R.good) : Sp.Does Tryz.prog sls 5 (.cons (.str len bits) .nil) fun x => Rel (fun _ => none) (Sp.code3 l c n) x := by
  intro rb off w xs hl ha
  unfold infRun runB at h
  obtain ⟨k1, k2⟩ := Sp.run_sound (F := cfB) (nx := 9) (ss := sls) (n := 300) (f := 5) (args := .cons (.str len bits) .nil) (ck := Sp.isCode3 l c n) cfB_ok cfB_names sls_ok sls_gl h rb off w xs hl ha
  refine ⟨k1, k2.mono fun en w' hp => ?_⟩
  obtain ⟨x, e, ⟨E, v, hr, hc⟩, hk⟩ := hp
  exact ⟨x, e, Sp.isCode3_le hc hr, hk⟩
theorem true_does {f : FuncId} {args : V} (h : runB f args Sp.isTrueS = Sp.R.good) : Sp.Does Tryz.prog sls f args fun x => Rel (fun _ => none) (.bool true) x := by
  intro rb off w xs hl ha
  unfold runB at h
  obtain ⟨k1, k2⟩ := Sp.run_sound (F := cfB) (nx := 9) (ss := sls) (n := 300) (f := f) (args := args) (ck := Sp.isTrueS) cfB_ok cfB_names sls_ok sls_gl h rb off w xs hl ha
  refine ⟨k1, k2.mono fun en w' hp => ?_⟩
  obtain ⟨x, e, ⟨E, v, hr, hc⟩, hk⟩ := hp
  refine ⟨x, e, ?_, hk⟩
  have := Sp.isTrueS_le hc hr
  simpa only [Rel] using this
end Go.Proofs.YtniifikiohcloaaGreatDoor
