/- CoreNames returns true at each of the 65536 pairs of numbers. -/
import Derived.Test.YtgljaemmheolfaaGreatDoorRun00
import Derived.Test.YtgljaemmheolfaaGreatDoorRun01
import Derived.Test.YtgljaemmheolfaaGreatDoorRun10
import Derived.Test.YtgljaemmheolfaaGreatDoorRun11
import Derived.Test.YtgljaemmheolfaaGreatDoorRun20
import Derived.Test.YtgljaemmheolfaaGreatDoorRun21
import Derived.Test.YtgljaemmheolfaaGreatDoorRun30
import Derived.Test.YtgljaemmheolfaaGreatDoorRun31
import Derived.Test.YtgljaemmheolfaaGreatDoorRun40
import Derived.Test.YtgljaemmheolfaaGreatDoorRun41
import Derived.Test.YtgljaemmheolfaaGreatDoorRun50
import Derived.Test.YtgljaemmheolfaaGreatDoorRun51
import Derived.Test.YtgljaemmheolfaaGreatDoorFactH
set_option linter.all false
namespace Go.Proofs.YtgljaemmheolfaaGreatDoor
open Go Go.Ev
theorem runs0 (m : Nat) : ∀ b : Nat, b < 6 → runC m 3 (.cons (.cons (.int .u8 6) (.int .u8 0)) (.cons (.cons (.int .u8 6) (.int .u8 b)) .nil)) Sp.isTrueS = Sp.R.good
 | 0, _ => run_00 m
 | 1, _ => run_01 m
 | 2, _ => run_02 m
 | 3, _ => run_03 m
 | 4, _ => run_04 m
 | 5, _ => run_05 m
 | b + 6, h => absurd h (by omega)
theorem runs1 (m : Nat) : ∀ b : Nat, b < 6 → runC m 3 (.cons (.cons (.int .u8 6) (.int .u8 1)) (.cons (.cons (.int .u8 6) (.int .u8 b)) .nil)) Sp.isTrueS = Sp.R.good
 | 0, _ => run_10 m
 | 1, _ => run_11 m
 | 2, _ => run_12 m
 | 3, _ => run_13 m
 | 4, _ => run_14 m
 | 5, _ => run_15 m
 | b + 6, h => absurd h (by omega)
theorem runs2 (m : Nat) : ∀ b : Nat, b < 6 → runC m 3 (.cons (.cons (.int .u8 6) (.int .u8 2)) (.cons (.cons (.int .u8 6) (.int .u8 b)) .nil)) Sp.isTrueS = Sp.R.good
 | 0, _ => run_20 m
 | 1, _ => run_21 m
 | 2, _ => run_22 m
 | 3, _ => run_23 m
 | 4, _ => run_24 m
 | 5, _ => run_25 m
 | b + 6, h => absurd h (by omega)
theorem runs3 (m : Nat) : ∀ b : Nat, b < 6 → runC m 3 (.cons (.cons (.int .u8 6) (.int .u8 3)) (.cons (.cons (.int .u8 6) (.int .u8 b)) .nil)) Sp.isTrueS = Sp.R.good
 | 0, _ => run_30 m
 | 1, _ => run_31 m
 | 2, _ => run_32 m
 | 3, _ => run_33 m
 | 4, _ => run_34 m
 | 5, _ => run_35 m
 | b + 6, h => absurd h (by omega)
theorem runs4 (m : Nat) : ∀ b : Nat, b < 6 → runC m 3 (.cons (.cons (.int .u8 6) (.int .u8 4)) (.cons (.cons (.int .u8 6) (.int .u8 b)) .nil)) Sp.isTrueS = Sp.R.good
 | 0, _ => run_40 m
 | 1, _ => run_41 m
 | 2, _ => run_42 m
 | 3, _ => run_43 m
 | 4, _ => run_44 m
 | 5, _ => run_45 m
 | b + 6, h => absurd h (by omega)
theorem runs5 (m : Nat) : ∀ b : Nat, b < 6 → runC m 3 (.cons (.cons (.int .u8 6) (.int .u8 5)) (.cons (.cons (.int .u8 6) (.int .u8 b)) .nil)) Sp.isTrueS = Sp.R.good
 | 0, _ => run_50 m
 | 1, _ => run_51 m
 | 2, _ => run_52 m
 | 3, _ => run_53 m
 | 4, _ => run_54 m
 | 5, _ => run_55 m
 | b + 6, h => absurd h (by omega)
theorem runs_all (m : Nat) : ∀ a b : Nat, a < 6 → b < 6 → runC m 3 (.cons (.cons (.int .u8 6) (.int .u8 a)) (.cons (.cons (.int .u8 6) (.int .u8 b)) .nil)) Sp.isTrueS = Sp.R.good
 | 0, b, _, h => runs0 m b h
 | 1, b, _, h => runs1 m b h
 | 2, b, _, h => runs2 m b h
 | 3, b, _, h => runs3 m b h
 | 4, b, _, h => runs4 m b h
 | 5, b, _, h => runs5 m b h
 | a + 6, _, h, _ => absurd h (by omega)
theorem law3 (n k : Nat) (hn : n < 256) (hk : k < 256) {rb off : Sl → Nat} {w : World} (hl : Laid sls rb off w) {m : Nat} {C : Array Value} {el : TypeId} (hw : w.heap[4]? = some (.cells C el (0, 0))) (hm : m < kmod .i64) (hc : C[0]? = some (.int .i64 (toInt .i64 m))) :
  Calls Tryz.prog 3 #[.int .u8 n, .int .u8 k] w fun en w' => en = .returned (.bool true) ∧ KeepsW w w' := by
 have hrel : RelL (fun _ => none) (.cons (.cons (.int .u8 6) (.int .u8 (n % 6))) (.cons (.cons (.int .u8 6) (.int .u8 (k % 6))) .nil)) [Value.int .u8 n, Value.int .u8 k] := by
  have h1 : khalf .u8 = 0 := rfl
  have h2 : kmod .u8 = 256 := rfl
  have key : ∀ x : Nat, x < 256 → Rel (fun _ => none) (.cons (.int .u8 6) (.int .u8 (x % 6))) (.int .u8 x) := by
   intro x hx
   simp only [Rel]
   refine ⟨x, by rw [h2]; exact hx, rfl, ?_⟩
   unfold toInt
   rw [h1]
   simp
  simp only [RelL]
  exact ⟨_, _, key n hn, ⟨_, _, key k hk, rfl, rfl⟩, rfl⟩
 obtain ⟨_, k2⟩ := Sp.runMS_sound cf_ok cf_names hooks_ok sls_ok (by decide) sls_four gl_all (runs_all m (n % 6) (k % 6) (Nat.mod_lt _ (by decide)) (Nat.mod_lt _ (by decide))) hl hw hm hc hrel
 refine k2.mono fun en w' hp => ?_
 obtain ⟨x, rfl, ⟨E, v, hr, hv⟩, hkp⟩ := hp
 refine ⟨?_, hkp⟩
 rw [Sp.isTrueS_le hv hr]
end Go.Proofs.YtgljaemmheolfaaGreatDoor
