/- InferClasses returns true for every pair of uint8, under the given tied card; its package-level tables start as the program's text lays them. -/
import Derived.Test.YtniifikiohcloaaGreatDoorRowC
import Derived.Test.YtniifikiohcloaaGreatDoorGoes
set_option linter.all false
namespace Go.Proofs.YtniifikiohcloaaGreatDoor
open Go
theorem funcNamed3 : Tryz.prog.funcNamed "cspcheck/cspchecklaw8.InferClasses" = some 3 := by kernel_rfl
theorem mainIs_fact : Tryz.prog.mainIs = some (true, "e0fc16cb462d5a219e0e7a38eb390dcabdbb1e73e9659fd1d752d5b8a60ada28".toList) := by kernel_rfl
theorem looks_fact : true = Tryz.prog.looks [] := by kernel_rfl
theorem inferClasses_card : Rows.InferClassesCardSaid :=
  Claim7.holds_tied_plain_at .later [] [.data, .widerDeep, .widerDeep, .widerDeep, .pinned] true (true, "e0fc16cb462d5a219e0e7a38eb390dcabdbb1e73e9659fd1d752d5b8a60ada28") true inferClasses_holds (fun _ h => by cases h) (by kernel_rfl) (fun _ h => by cases h) inferClasses_row_tie rfl ⟨rfl, rfl⟩ mainIs_fact rfl
    (fun f fn hf hfn => by
      obtain rfl : f = 3 := Option.some.inj (funcNamed3.symm.trans hf) |>.symm
      obtain rfl : fn = Tryz.f3 := (Option.some.inj (Tryz.func3.symm.trans hfn)).symm
      exact ⟨looks_fact, fun j t ht => by
        rw [Tryz.params3] at ht
        have hm : t ∈ [5, 5] := by simpa using Array.mem_of_getElem? ht
        have hall : ([5, 5].all fun u => !Tryz.prog.wantsStandIn u) = true := by kernel_rfl
        exact (show Tryz.prog.wantsStandIn t = false by simpa using List.all_eq_true.1 hall t hm)⟩)
    (goesBy_none (c := Rows.inferClassesRow) rfl).symm
end Go.Proofs.YtniifikiohcloaaGreatDoor
