/- The program, its package-level slices, the runs that are asked. -/
import Derived.Test.YtniifikiohcloaaGreatDoorSpB
import Derived.Test.YtniifikiohcloaaGreatDoorEvD
import Derived.KernelRfl
import Derived.Test.YtniifikiohcloaaGreatDoorRows
set_option linter.all false
namespace Go.Proofs.YtniifikiohcloaaGreatDoor
open Go Go.Ev
set_option linter.all false
def tabs : List (Nat × List (Nat × List (Bool × Nat × Nat))) := [(8, [(14, [(true, (0, 4))])]), (11, [(31, [(true, (14, 12)), (true, (14, 22)), (true, (19, 12)), (true, (23, 12)), (true, (23, 21))]), (33, [(true, (5, 12))])]), (12, [(30, [(true, (5, 12))]), (40, [(true, (3, 7))])]), (13, [(3, [(false, (4, 1))]), (26, [(true, (13, 11)), (false, (15, 11))]), (29, [(true, (4, 9))]), (35, [(true, (11, 15))])]), (15, [(5, [(true, (1, 5)), (true, (3, 5)), (true, (3, 6))])]), (18, [(2, [(true, (0, 8))])]), (19, [(11, [(true, (3, 7))]), (15, [(true, (3, 11)), (true, (8, 11))]), (20, [(true, (3, 7))]), (38, [(true, (5, 15)), (true, (10, 15)), (true, (12, 15))])]), (33, [(8, [(true, (4, 18)), (true, (8, 18))]), (9, [(true, (3, 7))]), (10, [(true, (9, 5))])]), (39, [(31, [(true, (5, 12))])]), (41, [(2, [(true, (0, 4))]), (3, [(true, (1, 6))])]), (42, [(14, [(true, (0, 9)), (true, (3, 9)), (true, (6, 9))]), (16, [(true, (0, 6)), (true, (3, 6)), (true, (8, 5))]), (18, [(true, (0, 6)), (true, (3, 6)), (true, (8, 5))]), (21, [(true, (1, 11)), (true, (2, 11)), (true, (5, 11)), (true, (13, 10))]), (23, [(true, (1, 11)), (true, (1, 16)), (true, (2, 11)), (true, (2, 16)), (true, (5, 11)), (true, (5, 16)), (true, (13, 10)), (true, (14, 10)), (true, (18, 10)), (true, (18, 15))]), (25, [(true, (1, 12)), (true, (1, 14)), (true, (2, 12)), (true, (2, 14)), (true, (5, 12)), (true, (5, 14)), (true, (6, 12)), (true, (9, 12))]), (29, [(true, (1, 5)), (true, (2, 5)), (true, (7, 4)), (true, (10, 4))]), (31, [(true, (1, 5)), (true, (2, 5)), (true, (7, 4)), (true, (10, 4))]), (34, [(true, (1, 10)), (true, (3, 10)), (true, (4, 10)), (true, (12, 9)), (true, (15, 9))]), (36, [(true, (1, 13)), (true, (3, 13)), (true, (4, 13)), (true, (7, 13)), (true, (15, 12))])]), (46, [(3, [(true, (14, 24)), (true, (18, 24)), (true, (20, 24))])]), (48, [(17, [(true, (2, 7))])]), (49, [(14, [(true, (6, 4)), (true, (10, 4)), (true, (14, 4)), (true, (16, 4)), (false, (17, 4))])]), (50, [(14, [(true, (9, 6))]), (20, [(true, (4, 9))])]), (51, [(12, [(true, (4, 11)), (true, (7, 11))]), (15, [(true, (2, 1)), (true, (5, 1))])]), (65, [(6, [(true, (3, 7))])]), (78, [(11, [(true, (4, 8))])]), (80, [(34, [(true, (13, 5))])]), (82, [(7, [(true, (3, 17)), (true, (7, 17))])]), (85, [(7, [(true, (6, 4))]), (9, [(true, (6, 4))])]), (87, [(5, [(true, (2, 5))])]), (88, [(2, [(true, (4, 7))]), (7, [(true, (9, 12))])]), (102, [(12, [(true, (4, 14))]), (17, [(true, (4, 14)), (true, (15, 13))])]), (105, [(35, [(true, (3, 10)), (true, (3, 11))])]), (109, [(10, [(true, (3, 9))]), (18, [(true, (0, 9)), (true, (0, 17)), (true, (15, 8))]), (19, [(true, (0, 3)), (true, (0, 5)), (true, (3, 2))]), (20, [(true, (0, 6)), (true, (0, 7)), (true, (1, 6))]), (21, [(true, (0, 3))]), (22, [(true, (0, 5)), (true, (0, 7)), (true, (5, 4))])]), (111, [(1, [(true, (0, 3))])]), (112, [(1, [(true, (0, 4))])]), (113, [(1, [(true, (0, 4)), (true, (0, 7))])]), (119, [(16, [(true, (10, 6)), (true, (14, 6))])]), (121, [(1, [(true, (3, 15))])]), (125, [(11, [(true, (13, 11)), (true, (17, 11)), (true, (20, 11)), (false, (21, 11))])]), (126, [(11, [(true, (4, 11))])]), (127, [(7, [(true, (4, 11))])]), (134, [(1, [(true, (0, 2))])]), (136, [(6, [(true, (0, 4))]), (9, [(true, (0, 18)), (true, (0, 19)), (true, (4, 18)), (true, (4, 19))]), (15, [(true, (0, 11)), (true, (0, 12)), (true, (4, 11)), (true, (4, 12)), (true, (6, 11)), (true, (6, 12)), (true, (7, 11))])]), (143, [(5, [(true, (3, 7))])]), (151, [(1, [(false, (8, 7))])]), (152, [(6, [(true, (0, 4)), (true, (1, 4))]), (11, [(true, (0, 4)), (true, (1, 4))]), (12, [(true, (0, 4)), (true, (1, 4))])]), (153, [(29, [(true, (4, 9))]), (33, [(true, (4, 7))]), (34, [(true, (4, 7))]), (37, [(true, (4, 7)), (true, (4, 8))]), (65, [(true, (4, 6))])]), (196, [(11, [(true, (4, 2))]), (20, [(true, (0, 3))]), (41, [(true, (0, 4))])]), (208, [(2, [(true, (3, 10)), (true, (13, 9))])]), (209, [(5, [(true, (3, 17)), (true, (3, 18))])]), (228, [(6, [(true, (3, 7))]), (15, [(true, (0, 4))]), (23, [(true, (0, 8))])]), (235, [(15, [(true, (3, 6))])]), (241, [(6, [(true, (0, 11)), (true, (0, 12)), (true, (4, 11)), (true, (4, 12)), (true, (7, 11))])]), (255, [(10, [(true, (0, 7)), (true, (2, 7))]), (11, [(true, (0, 5))]), (14, [(true, (0, 4)), (true, (1, 4)), (true, (2, 4))]), (15, [(true, (0, 11)), (true, (0, 12)), (true, (1, 11)), (true, (1, 12))])]), (259, [(3, [(true, (0, 7)), (true, (0, 8)), (true, (0, 9)), (true, (1, 7)), (true, (1, 8)), (true, (1, 9))])]), (270, [(2, [(true, (14, 27)), (true, (18, 27))])]), (272, [(8, [(true, (0, 12)), (true, (4, 12)), (true, (5, 12))])]), (274, [(2, [(true, (0, 12))])]), (287, [(9, [(true, (0, 4)), (true, (0, 6))])]), (289, [(11, [(true, (1, 4)), (true, (1, 6))]), (16, [(true, (0, 4)), (true, (0, 6))])]), (294, [(5, [(true, (0, 4)), (true, (0, 6))])]), (296, [(10, [(true, (0, 5))])]), (299, [(12, [(true, (0, 4))]), (28, [(true, (0, 4))])]), (301, [(5, [(true, (0, 4))])]), (304, [(19, [(true, (2, 1))]), (21, [(true, (2, 1))])]), (305, [(4, [(true, (8, 4))])]), (322, [(2, [(true, (0, 7)), (true, (0, 8)), (true, (0, 9)), (true, (1, 7)), (true, (1, 8)), (true, (1, 9))]), (4, [(true, (0, 7)), (true, (0, 8)), (true, (1, 7)), (true, (1, 8))])]), (332, [(4, [(true, (5, 8))])]), (342, [(14, [(true, (5, 12))]), (15, [(true, (0, 5))])]), (344, [(5, [(true, (0, 4))])]), (346, [(9, [(true, (0, 4)), (true, (0, 6))]), (15, [(true, (0, 5))]), (19, [(true, (0, 4))]), (30, [(true, (0, 5))]), (37, [(true, (0, 5))]), (48, [(true, (0, 4))])]), (352, [(11, [(true, (7, 2))]), (12, [(true, (0, 4))])]), (373, [(7, [(true, (2, 7))])]), (380, [(6, [(true, (0, 4))])]), (381, [(8, [(true, (1, 5))])]), (383, [(2, [(true, (0, 3))])]), (384, [(5, [(true, (0, 4))])]), (385, [(8, [(true, (4, 11)), (true, (5, 11))]), (11, [(true, (0, 4))]), (16, [(true, (0, 5))]), (22, [(true, (0, 5))]), (24, [(true, (0, 5))])]), (407, [(5, [(true, (7, 2))]), (6, [(true, (0, 4))])]), (408, [(10, [(true, (1, 5))])]), (409, [(9, [(true, (0, 4))])]), (410, [(5, [(true, (0, 4))])]), (412, [(5, [(true, (0, 3))]), (13, [(true, (1, 5))])]), (415, [(10, [(true, (13, 9)), (true, (17, 9)), (false, (18, 9)), (true, (23, 9)), (true, (23, 19)), (false, (25, 9)), (false, (25, 19))]), (17, [(true, (0, 6))]), (22, [(true, (1, 5))]), (28, [(true, (0, 5)), (true, (0, 7))])]), (436, [(8, [(true, (3, 1))]), (9, [(true, (3, 1))])]), (437, [(4, [(true, (0, 3))]), (7, [(true, (0, 3))])]), (438, [(5, [(true, (0, 4))])]), (439, [(8, [(true, (3, 1))])]), (452, [(20, [(true, (1, 5))]), (28, [(true, (0, 5))])]), (453, [(4, [(true, (0, 3))])]), (455, [(32, [(true, (1, 5))])]), (473, [(5, [(true, (21, 16)), (true, (22, 16))])]), (476, [(9, [(true, (4, 9)), (true, (5, 9))])])]
noncomputable def tabOf (f : Nat) : List (Nat × List (Bool × Nat × Nat)) :=
  @List.rec (Nat × List (Nat × List (Bool × Nat × Nat))) (fun _ => List (Nat × List (Bool × Nat × Nat))) [] (fun x _ ih => @Bool.rec (fun _ => List (Nat × List (Bool × Nat × Nat))) ih x.2 (Nat.beq x.1 f)) tabs
def okMask : Nat := 1799565531015487187583214118218143457597135536791594307073402471801723324717796651424754694831295632807322638317380532082899595357736037333898276265545486959640572
def okOf (f : Nat) : Bool := Nat.beq (Nat.mod (Nat.div okMask (Nat.pow 2 f)) 2) 1
def eqsL : List Nat := [7, 8, 24, 25, 44, 45, 60, 61, 67, 68, 71, 72, 82, 83, 86, 87, 98, 99, 106, 107, 110, 111, 119, 120, 140, 141, 143, 144, 145, 146, 151, 152, 156, 157, 158, 159, 163, 164, 172, 173, 182, 183, 189, 190, 214, 215, 220, 221, 227, 228, 296, 298, 299, 311, 312, 341, 342, 361, 362, 414, 415, 437, 438, 459, 460, 461, 462, 469]
noncomputable def cf : Cf := ⟨Tryz.prog, [0, 1, 2], [], eqsL, okOf, tabOf⟩
/-- whether a function's code passes -/
noncomputable def fnOk (f : Nat) : Bool := match Tryz.prog.funcs[f]? with
  | some fn => Nat.ble fn.ntmps 992 && !(decide (fn.name = "runtime.NumGoroutine")) && (match fn.body with | some c => okCode Tryz.prog (tabOf f) c | none => true)
  | none => true
noncomputable def rangeOk (n : Nat) (lo : Nat) : Bool := @Nat.rec (fun _ => Nat → Bool) (fun _ => true) (fun _ ih lo => @Bool.rec (fun _ => Bool) (ih (Nat.succ lo)) (@Bool.rec (fun _ => Bool) false (ih (Nat.succ lo)) (fnOk lo)) (okOf lo)) n lo
end Go.Proofs.YtniifikiohcloaaGreatDoor
namespace Go.Proofs.YtniifikiohcloaaGreatDoor
open Go Go.Ev
set_option linter.all false
noncomputable section
def absL : DataW Unit → List V
  | .lit (.string bs) => [.str bs.length (strBits bs)]
  | .lit (.int k n) => [.int k (n % (kmod k : Int)).toNat]
  | .lit (.bool b) => [.bool b]
  | .agg l => absAll l
  | _ => []
where absAll : List (DataW Unit) → List V
  | [] => []
  | d :: l => absL d ++ absAll l
def elemsOf : DataW Unit → List (DataW Unit)
  | .slice l _ => l
  | _ => []
def sl0 : Sl := ⟨0, 6, absL.absAll (elemsOf Rows.laid_cspcheck_scope_builtins), 4, (elemsOf Rows.laid_cspcheck_scope_builtins).length⟩
def sl1 : Sl := ⟨1, 7, absL.absAll (elemsOf Rows.laid_cspcheck_lexer_keywords), 1, (elemsOf Rows.laid_cspcheck_lexer_keywords).length⟩
def sl2 : Sl := ⟨2, 8, absL.absAll (elemsOf Rows.laid_cspcheck_lexer_symbols), 1, (elemsOf Rows.laid_cspcheck_lexer_symbols).length⟩
def sls : List Sl := [sl0, sl1, sl2]
def run (f : Nat) (args : V) (ck : V → Sp.R) : Sp.R := Sp.runS cf 9 sls 300 f args ck
/-- with ranges over slices.Backward -/
def cfB : Cf := { cf with bw := [282] }
def runB (f : Nat) (args : V) (ck : V → Sp.R) : Sp.R := Sp.runS cfB 9 sls 300 f args ck
def infRun (len bits l c n : Nat) : Sp.R := runB 5 (.cons (.str len bits) .nil) (Sp.isCode3 l c n)
end
theorem sls_ok : slsOk sls = true := by kernel_rfl
theorem sls_gl : ∀ g ∈ cf.gl, ∃ s ∈ sls, s.g = g := by
  intro g hg
  have hg : g ∈ [0, 1, 2] := hg
  simp only [List.mem_cons, List.not_mem_nil, or_false] at hg
  rcases hg with rfl | rfl | rfl
  · exact ⟨sl0, by simp [sls], rfl⟩
  · exact ⟨sl1, by simp [sls], rfl⟩
  · exact ⟨sl2, by simp [sls], rfl⟩
theorem sls_gl' : ∀ s ∈ sls, s.g ∈ cf.gl := by
  intro s hs
  simp only [sls, List.mem_cons, List.not_mem_nil, or_false] at hs
  show s.g ∈ [0, 1, 2]
  rcases hs with rfl | rfl | rfl <;> simp [sl0, sl1, sl2]
end Go.Proofs.YtniifikiohcloaaGreatDoor
