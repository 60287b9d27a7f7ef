/- CoreNames returns true for every pair of uint8, under the given tied card; its package-level tables start as the text of the program lays them; internal/bytealg.MaxLen may hold any number. -/
import Derived.Test.YtgljaemmheolfaaGreatDoorRow
import Derived.Test.YtgljaemmheolfaaGreatDoorGoes
import Derived.Test.YtgljaemmheolfaaGreatDoorCardF
import Derived.Test.YtgljaemmheolfaaGreatDoorTiG
import Derived.Test.YtgljaemmheolfaaGreatDoorCards
set_option linter.all false
namespace Go.Proofs.YtgljaemmheolfaaGreatDoor
open Go
theorem coreNames_card : Rows.CoreNamesCardSaid :=
 Claim7.holds_tied_plain_at .later [] [.data, .data, .data, .data, .sentinel, .sentinel, .widerDeep, .widerDeep, .widerDeep, .widerDeep, .pinned] true (true, "d24a417bdd72b5c9c7925037d47e6f5a6698c2247b5ea03e9b3f1986fc2d6a97") true coreNames_holds (fun _ h => by cases h) (by kernel_rfl) (fun _ h => by cases h) coreNames_row_tie rfl ⟨rfl, rfl⟩ mainIs_fact rfl
  (fun f fn hf hfn => by
   obtain rfl : f = 3 := Option.some.inj (funcNamed3.symm.trans hf) |>.symm
   obtain rfl : fn = Tryz.f3 := (Option.some.inj (Tryz.func3.symm.trans hfn)).symm
   exact ⟨looks_fact, fun j t ht => by
    rw [Tryz.params3] at ht
    have hm : t ∈ [5, 5] := by simpa using Array.mem_of_getElem? ht
    have hall : ([5, 5].all fun u => !Tryz.prog.wantsStandIn u) = true := by kernel_rfl
    exact (show Tryz.prog.wantsStandIn t = false by simpa using List.all_eq_true.1 hall t hm)⟩)
  (goesBy_none (c := Rows.coreNamesRow) rfl).symm
end Go.Proofs.YtgljaemmheolfaaGreatDoor
