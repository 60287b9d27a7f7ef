/- InferClasses returns true at each of the 65536 pairs of numbers. -/
import Derived.Test.YtniifikiohcloaaGreatDoorRunC0
import Derived.Test.YtniifikiohcloaaGreatDoorRunC1
import Derived.Test.YtniifikiohcloaaGreatDoorRunC2
import Derived.Test.YtniifikiohcloaaGreatDoorRunC3
import Derived.Test.YtniifikiohcloaaGreatDoorRunC4
import Derived.Test.YtniifikiohcloaaGreatDoorRunC5
import Derived.Test.YtniifikiohcloaaGreatDoorRunC6
import Derived.Test.YtniifikiohcloaaGreatDoorRunC7
import Derived.Test.YtniifikiohcloaaGreatDoorRunC8
import Derived.Test.YtniifikiohcloaaGreatDoorRunC9
import Derived.Test.YtniifikiohcloaaGreatDoorLawCR0
import Derived.Test.YtniifikiohcloaaGreatDoorLawCR1
import Derived.Test.YtniifikiohcloaaGreatDoorLawCR2
import Derived.Test.YtniifikiohcloaaGreatDoorLawCR3
import Derived.Test.YtniifikiohcloaaGreatDoorRunW
import Derived.Test.YtniifikiohcloaaGreatDoorFactD
set_option linter.all false
namespace Go.Proofs.YtniifikiohcloaaGreatDoor
open Go Go.Ev
theorem tbl3_ok : ∀ p ∈ tbl3, Sp.plainL p.2.1 = true ∧ Sp.Does cfB.P sls p.1 p.2.1 fun x => Rel (fun _ => none) p.2.2 x := by
  intro p hp
  unfold tbl3 at hp
  simp only [List.mem_cons, List.not_mem_nil, or_false] at hp
  rcases hp with rfl | rfl | rfl | rfl | rfl | rfl | rfl | rfl | rfl | rfl | rfl | rfl | rfl | rfl | rfl | rfl | rfl | rfl | rfl | rfl | rfl | rfl | rfl | rfl | rfl | rfl | rfl | rfl | rfl | rfl | rfl | rfl | rfl | rfl | rfl | rfl | rfl | rfl | rfl | rfl | rfl
  · exact ⟨rfl, inf_does run_e_00⟩
  · exact ⟨rfl, inf_does run_f_00⟩
  · exact ⟨rfl, inf_does run_e_01⟩
  · exact ⟨rfl, inf_does run_f_01⟩
  · exact ⟨rfl, inf_does run_e_02⟩
  · exact ⟨rfl, inf_does run_f_02⟩
  · exact ⟨rfl, inf_does run_e_03⟩
  · exact ⟨rfl, inf_does run_f_03⟩
  · exact ⟨rfl, inf_does run_e_10⟩
  · exact ⟨rfl, inf_does run_f_10⟩
  · exact ⟨rfl, inf_does run_e_11⟩
  · exact ⟨rfl, inf_does run_f_11⟩
  · exact ⟨rfl, inf_does run_e_12⟩
  · exact ⟨rfl, inf_does run_f_12⟩
  · exact ⟨rfl, inf_does run_e_13⟩
  · exact ⟨rfl, inf_does run_f_13⟩
  · exact ⟨rfl, inf_does run_e_20⟩
  · exact ⟨rfl, inf_does run_f_20⟩
  · exact ⟨rfl, inf_does run_e_21⟩
  · exact ⟨rfl, inf_does run_f_21⟩
  · exact ⟨rfl, inf_does run_e_22⟩
  · exact ⟨rfl, inf_does run_f_22⟩
  · exact ⟨rfl, inf_does run_e_23⟩
  · exact ⟨rfl, inf_does run_f_23⟩
  · exact ⟨rfl, inf_does run_e_30⟩
  · exact ⟨rfl, inf_does run_f_30⟩
  · exact ⟨rfl, inf_does run_e_31⟩
  · exact ⟨rfl, inf_does run_f_31⟩
  · exact ⟨rfl, inf_does run_e_32⟩
  · exact ⟨rfl, inf_does run_f_32⟩
  · exact ⟨rfl, inf_does run_e_33⟩
  · exact ⟨rfl, inf_does run_f_33⟩
  · exact ⟨rfl, inf_does run_e_40⟩
  · exact ⟨rfl, inf_does run_f_40⟩
  · exact ⟨rfl, inf_does run_e_41⟩
  · exact ⟨rfl, inf_does run_f_41⟩
  · exact ⟨rfl, inf_does run_e_42⟩
  · exact ⟨rfl, inf_does run_f_42⟩
  · exact ⟨rfl, inf_does run_e_43⟩
  · exact ⟨rfl, inf_does run_f_43⟩
  · exact ⟨rfl, true_does run_awake⟩
theorem knownS2_le (ss : List Sl) (t : Sp.Tbl) : Sp.CallLe (knownS2 ss t) (Sp.knownC ss t) := by
  intro f args h kv kp hg
  unfold knownS2 at hg
  unfold Sp.knownC
  cases h1 : Sp.lookT t f args with
  | none => rw [h1] at hg; exact (Sp.bad_ne hg).elim
  | some v =>
    rw [h1] at hg
    dsimp only at hg
    cases h2 : Sp.goodS ss (Sp.encH h) .good with
    | bad => rw [h2] at hg; exact (Sp.bad_ne hg).elim
    | good =>
      rw [h2] at hg
      obtain ⟨k1, _⟩ := Sp.goodS_le h2
      rw [if_pos k1]
      exact .inl ⟨v, h, rfl, hg⟩
set_option maxRecDepth 100000 in
theorem known_does {f : FuncId} {args : V} {ck : V → Sp.R} (hg : (Sp.fnS cfB f).f (knownS2 sls tbl3) args (Sp.encH (heapOf 9 sls)) (fun v _ => ck v) (fun _ _ => .bad) = .good) :
    (∃ v, ck v = .good) ∧ Sp.Does Tryz.prog sls f args fun x => ∃ E v, Rel E v x ∧ ck v = .good := by
  rcases Sp.fnS_le cfB_names (knownS2_le sls tbl3) hg with ⟨v, h', e1, hv⟩ | ⟨v, h', e1, hv⟩
  · refine ⟨⟨v, hv⟩, fun rb off w xs hl ha => ?_⟩
    have key := fnC_ok cfB_ok (Sp.knownC_ok (P := cfB.P) (gl := cfB.gl) (ss := sls) (t := tbl3) sls_ok sls_gl' tbl3_ok) f args (laid_HRel sls_ok 9 hl) (laid_glob sls_ok sls_gl) (ha.mono (Sp.none_le _))
    rw [e1] at key
    refine ⟨key.1, key.2.mono fun en w' hp => ?_⟩
    obtain ⟨E', x, e2, hR, hr⟩ := hp
    exact ⟨x, e2, ⟨E', v, hr, hv⟩, noWr_keeps (heapOf_noWr sls_ok 9) hR⟩
  · exact (Sp.bad_ne hv).elim
theorem step3_le {a b : Nat} {k : Sp.R} (h : step3 (Sp.encH (heapOf 9 sls)) a b k = .good) : k = .good ∧ Sp.Does Tryz.prog sls 3 (.cons (.int .u8 a) (.cons (.int .u8 b) .nil)) fun x => x = .bool true := by
  have hg : (Sp.fnS cfB 3).f (knownS2 sls tbl3) (.cons (.int .u8 a) (.cons (.int .u8 b) .nil)) (Sp.encH (heapOf 9 sls)) (fun v _ => (@Bool.rec (fun _ => Sp.R → Sp.R) (fun _ => .bad) (fun k => k) (V.eqb v (.bool true)) k)) (fun _ _ => .bad) = .good := by
    unfold step3 at h
    cases hq : Sp.fnS cfB 3 with
    | mk m => rw [hq] at h; exact h
  obtain ⟨⟨v, hv⟩, hd⟩ := known_does (ck := fun v => @Bool.rec (fun _ => Sp.R → Sp.R) (fun _ => .bad) (fun k => k) (V.eqb v (.bool true)) k) hg
  refine ⟨?_, ?_⟩
  · cases hq : V.eqb v (.bool true) with
    | false => rw [hq] at hv; exact (Sp.bad_ne hv).elim
    | true => rw [hq] at hv; exact hv
  · intro rb off w xs hl ha
    obtain ⟨k1, k2⟩ := hd rb off w xs hl ha
    refine ⟨k1, k2.mono fun en w' hp => ?_⟩
    obtain ⟨x, e, ⟨E, v, hr, hc⟩, hk⟩ := hp
    refine ⟨x, e, ?_, hk⟩
    cases hv : V.eqb v (.bool true) with
    | false => rw [hv] at hc; exact (Sp.bad_ne hc).elim
    | true =>
      rw [V.eqb_eq hv] at hr
      simpa only [Rel] using hr
theorem law3_succ (lo n : Nat) (h : Sp.HS) : law3C lo (n + 1) h = step3 h ((lo + n) / 256) ((lo + n) % 256) (law3C lo n h) := by kernel_rfl
theorem law3_one {lo n : Nat} (h : law3C lo (n + 1) (Sp.encH (heapOf 9 sls)) = .good) : law3C lo n (Sp.encH (heapOf 9 sls)) = .good ∧
    Sp.Does Tryz.prog sls 3 (.cons (.int .u8 ((lo + n) / 256)) (.cons (.int .u8 ((lo + n) % 256)) .nil)) fun x => x = .bool true := by
  rw [law3_succ] at h
  exact step3_le h
theorem law3_all (lo n : Nat) : law3C lo n (Sp.encH (heapOf 9 sls)) = .good → ∀ k, k < n → Sp.Does Tryz.prog sls 3 (.cons (.int .u8 ((lo + k) / 256)) (.cons (.int .u8 ((lo + k) % 256)) .nil)) fun x => x = .bool true := by
  induction n with
  | zero => intro _ k hk; exact absurd hk (Nat.not_lt_zero _)
  | succ n ih =>
    intro h k hk
    obtain ⟨h1, h2⟩ := law3_one h
    by_cases e : k = n
    · subst e; exact h2
    · exact ih h1 k (Nat.lt_of_le_of_ne (Nat.le_of_lt_succ hk) e)
theorem law3_part {lo n : Nat} (h : law3R lo n = .good) (m : Nat) (h1 : lo ≤ m) (h2 : m < lo + n) : Sp.Does Tryz.prog sls 3 (.cons (.int .u8 (m / 256)) (.cons (.int .u8 (m % 256)) .nil)) fun x => x = .bool true := by
  have hg : law3C lo n (Sp.encH (heapOf 9 sls)) = .good := Sp.initS_le h
  have := law3_all lo n hg (m - lo) (by omega)
  rw [show lo + (m - lo) = m by omega] at this
  exact this
theorem law3_m (m : Nat) (h : m < 65536) : Sp.Does Tryz.prog sls 3 (.cons (.int .u8 (m / 256)) (.cons (.int .u8 (m % 256)) .nil)) fun x => x = .bool true := by
  by_cases h0 : m < 16384
  · exact law3_part law3_r0 m (by omega) (by omega)
  by_cases h1 : m < 32768
  · exact law3_part law3_r1 m (by omega) (by omega)
  by_cases h2 : m < 49152
  · exact law3_part law3_r2 m (by omega) (by omega)
  exact law3_part law3_r3 m (by omega) (by omega)
theorem law3 (a b : Nat) (ha : a < 256) (hb : b < 256) : Sp.Does Tryz.prog sls 3 (.cons (.int .u8 a) (.cons (.int .u8 b) .nil)) fun x => x = .bool true := by
  have h := law3_m (a * 256 + b) (by omega)
  rw [show (a * 256 + b) / 256 = a by omega, show (a * 256 + b) % 256 = b by omega] at h
  exact h
end Go.Proofs.YtniifikiohcloaaGreatDoor
