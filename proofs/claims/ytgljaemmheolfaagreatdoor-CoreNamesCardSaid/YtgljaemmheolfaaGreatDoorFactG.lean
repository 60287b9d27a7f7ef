/- Facts on types; the contract of the iterator that slices.Backward gives. -/
import Derived.Test.YtgljaemmheolfaaGreatDoorTop
import Derived.Test.YtgljaemmheolfaaGreatDoorEvD
import Derived.RangeFuncBox
import Derived.RangeFuncLeaves
import Derived.Shelf.Abstract
import Derived.WalkKit
import Derived.OwnWalkIn
import Derived.TacticsInMore
import Derived.LoopNIn
import Derived.LoopIn
import Derived.Test.YtgljaemmheolfaaGreatDoorProg
set_option linter.all false
namespace Go.Proofs.YtgljaemmheolfaaGreatDoor
open Go Go.Ev
set_option maxRecDepth 1000000
noncomputable def eqsOkB : Bool := eqsL.all fun t => !(Tryz.prog.stoodInHeld t) && !(Tryz.prog.eqGuardType Tryz.prog.depth t)
theorem eqsOk_all : eqsOkB = true := by kernel_rfl
theorem mixedOk : Tryz.prog.follows .mixedOrders = true := by kernel_rfl
theorem sizeOk : Nat.beq Tryz.prog.funcs.size 682 = true := by kernel_rfl
end Go.Proofs.YtgljaemmheolfaaGreatDoor
namespace Go.Proofs.YtgljaemmheolfaaGreatDoor
open Go.RowKit Go.Shelf Go.Ev
attribute [local go_sem] Oper.semAt_some
set_option maxRecDepth 100000 in
set_option maxHeartbeats 2000000 in
theorem back371 (l bA oA N : Nat) (I : Nat → World → Prop) (R : Ending → World → Prop) (W : World) (hs : ∃ b c, W.cell? ⟨bA, oA, none⟩ = some (.slice b N c) ∧ N ≤ 32768) (hI : I N W)
  (hstep : ∀ (k : Nat) (W : World), k < N → I (k + 1) W → ∃ ba oa len c x, W.cell? ⟨bA, oA, none⟩ = some (.slice (some ⟨ba, oa, none⟩) len c) ∧ k < len ∧ W.cell? ⟨ba, oa + k, none⟩ = some x ∧ oneCell x ∧
   YieldAt Fence.wide 0 Tryz.prog l #[.int .i64 k, x] W fun en W' => en = .returned (.bool true) ∧ I k W')
  (hend : ∀ v W, I 0 W → R (.returned v) W) :
  CallsIn Fence.wide 0 Tryz.prog 371 #[.func (.yield l) #[] #[], .pointer (some ⟨bA, oA, none⟩)] W R := by
 obtain ⟨b, c, hc, hN⟩ := hs
 refine callsIn_of_wp Tryz.func371 rfl trivial ?_ rfl
 simp only [Tryz.ntmps371, List.size_toArray, List.length_cons, List.length_nil, Nat.reduceAdd, Nat.reduceSub, Array.replicate_succ, Array.replicate_zero, List.push_toArray, List.append_toArray, List.nil_append, List.cons_append]
 gi_wp2
 gi_loopw [3] (fun i wr => ∃ k : Nat, k ≤ N ∧ i = .int .i64 ((k : Int) - 1) ∧ I k wr)
  (fun i _ => (match i with | .int _ n => (n + 1).toNat | _ => 0))
 case atStart => exact ⟨N, Nat.le_refl _, rfl, hI⟩
 case round =>
  obtain ⟨k, hk, rfl, hIk⟩ := hrel
  rcases k with _ | k
  ·gi_wp2
   go_end0
   exact hend _ _ hIk
  ·obtain ⟨ba, oa, len, c2, x, h1, h2, h3, h4, hy⟩ := hstep k wr (by omega) hIk
   obtain ⟨fn, tmps, assign, body, hy, hR⟩ := hy
   gi_wp2
   refine ⟨rfl, hR.mono ?_⟩
   rintro e W3 ⟨rfl, hI3⟩
   gi_wp2
   go_roundw
   case rel => exact ⟨k, by omega, by simp, hI3⟩
   case measure => simp
theorem backOk : BackOk Tryz.prog 371 :=
 ⟨⟨_, Tryz.func371, rfl, by decide +kernel⟩, fun l bA oA N I R W hs hI hstep hend => back371 l bA oA N I R W hs hI hstep hend⟩
end Go.Proofs.YtgljaemmheolfaaGreatDoor
