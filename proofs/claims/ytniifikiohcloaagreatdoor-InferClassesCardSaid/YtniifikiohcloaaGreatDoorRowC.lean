/- InferClasses: the row holds. -/
import Derived.Test.YtniifikiohcloaaGreatDoorLawC
import Derived.Test.YtniifikiohcloaaGreatDoorKA
import Derived.Test.YtniifikiohcloaaGreatDoorKB
import Derived.Test.YtniifikiohcloaaGreatDoorKC
import Derived.Test.YtniifikiohcloaaGreatDoorKD
import Derived.Test.YtniifikiohcloaaGreatDoorKE
import Derived.Test.YtniifikiohcloaaGreatDoorKF
import Derived.Test.YtniifikiohcloaaGreatDoorLaid
import Derived.ProofKit
import Derived.OpenShut
import Derived.LaidMore
import Derived.Lay
import Derived.SevenTiedAt
import Derived.Stop.Joined
import Derived.Test.YtniifikiohcloaaGreatDoorTie
import Derived.Test.YtniifikiohcloaaGreatDoorCards
set_option linter.all false
namespace Go.Proofs.YtniifikiohcloaaGreatDoor
open Go Go.Ev Go.ChangeShapes Go.WideShapes Go.ChangeAt Go.RowKit
theorem ownK : ownKnob Tryz.prog.godebug = none := by kernel_rfl
theorem post_plain {H : Type} {enc : TypeId × Value → H} {P : Program} {f : Func} {s : ChangeSpec} {apart fresh handsOn again : Bool} {W W' : World} {args : Array Value} {v : Value} {ds gs : List (DataW H)}
    (hW : DataW.Whole enc P f.params.toList s.vars apart W args.toList ds gs [])
    (hres : ∀ (b : Nat) (sp : Nat → Bool) (hd : Bool), DataW.TrodAll enc P W' b sp hd f.resultTypes.toList (v.resultList f.resultTypes.size) (s.fn H (ds ++ gs)).results [])
    (hargs : ∀ sp : Nat → Bool, DataW.TrodAll enc P W' 0 sp true f.params.toList args.toList (s.fn H (ds ++ gs)).args [])
    (hvars : ∀ sp : Nat → Bool, DataW.TrodVars enc P W' sp s.vars (s.fn H (ds ++ gs)).vars [])
    (hk : W.keptBut W' fun _ => False)
    (hok : ∀ (j : Nat) (t : TypeId) (r : Value), f.resultTypes[j]? = some t → (v.resultList f.resultTypes.size)[j]? = some r → Value.okWide P W' .any 0 t r) :
    s.post enc P f apart fresh handsOn again W args v W' := by
  refine ⟨ds, gs, [], [], [], [], hW, hres _ _ _, hargs _, hvars _, World.keptBut_mono (fun p hp => hp.elim) hk, fun _ => ?_⟩
  obtain ⟨_, _, _, _, _, hz, hn⟩ := hW
  refine ⟨hok, _, _, ([] ++ []) ++ [], ⟨[] ++ [], [], trodAll_append (hargs _) (hres _ _ _), hvars _, rfl, ?_, ?_⟩, ?_⟩
  · intro b off hp
    simp at hp
  · intro ha
    simp
  · intro p hp _
    simpa using hp
theorem keeps_kept {W W' : World} (h : KeepsW W W') : W.keptBut W' fun _ => False := (World.keptBut_refl W _).congr h.os h.out h.old
theorem rel_u8 {r : Nat} (h : r < 256) : Rel (fun _ => none) (.int .u8 r) (Value.int .u8 r) := by
  simp only [Rel]
  have hk : kmod .u8 = 256 := rfl
  have hh : khalf .u8 = 0 := rfl
  refine ⟨by rw [hk]; omega, ?_⟩
  unfold toInt
  rw [hh]
  simp
theorem u8_nat {x : Int} (wx : (Lit.int .u8 x).wf = true) : ∃ r : Nat, x = r ∧ r < 256 := by
  have hx : 0 ≤ x ∧ x ≤ 255 := by
    simp only [Lit.wf, Bool.and_eq_true, decide_eq_true_eq] at wx
    exact wx
  exact ⟨x.toNat, by omega, by omega⟩
set_option maxRecDepth 100000 in
theorem lifted3 (os : Os) (started : os.Started) (H : Type) (enc : TypeId × Value → H) :
    ReturnsInHanded {} Tryz.checked os 3 .any (fun w args => (Rows.inferClassesSpec.pre enc Tryz.prog Tryz.f3 [] false w args ∧ laidMetH Tryz.prog laid5 w) ∧ sizedMet enc Tryz.prog Tryz.f3 (OpenSpec.ofChange Rows.inferClassesSpec) false w args)
      (Rows.inferClassesSpec.post enc Tryz.prog Tryz.f3 false true false false) := by
  refine returnsInHanded_of_change_and (C := Tryz.checked) (X := fun w _ => laidMetH Tryz.prog laid5 w) (fun _ _ _ hh h => h.of_heap hh) ownK started (by kernel_rfl) Tryz.func3
    (ChangeSpec.witness_shaped (enc := enc) (C := Tryz.checked) (os := os) (X := fun w _ => laidMetH Tryz.prog laid5 w) false (World.laidAll Tryz.prog os laid5) #[.int .u8 0, .int .u8 0] 8 (World.laidAll_os _ _ _)
      (World.shaped_of_ZipB (by kernel_rfl) (by kernel_rfl)) (by kernel_rfl) (by kernel_rfl) (by kernel_rfl)
      (by rw [MakeChecks.laidMetH_plain _ _ _ (by kernel_rfl)]; exact laidMet_laidAll _ (by kernel_rfl) (by kernel_rfl))) ?_
  intro W base args ds gs before hval0 hW hc _ hL _
  have hval : ∀ (j : Nat) t v, Tryz.f3.params[j]? = some t → args[j]? = some v → Value.okWide Tryz.prog W .any base t v := hval0
  have hW' := hW
  obtain ⟨p, q, hA0, hV, rfl, _, _⟩ := hW
  have hA : DataW.TrodAll enc Tryz.prog W 0 (fun _ => true) true Tryz.f3.params.toList args.toList ds p := hA0
  rw [Tryz.params3] at hA hval
  obtain ⟨v0, vs0, d0, ds0, p0, pr, ev, ed, ep, h0, h1⟩ := trodAll_cons hA
  obtain ⟨v1, vs1, d1, ds1, p1, pr1, ev1, ed1, ep1, h1b, h2⟩ := trodAll_cons h1
  obtain ⟨e1, e2, e3⟩ := trodAll_nil h2
  subst e1; subst e2; subst e3
  subst ev1; subst ed1; subst ep1
  obtain ⟨l⟩ := args
  simp only [] at ev
  subst ev; subst ed; subst ep
  obtain ⟨rfl, rfl⟩ := trodVars_none hV
  obtain ⟨x, rfl, rfl, rfl, wx⟩ := open_int Tryz.underlying5 (hval 0 5 v0 rfl rfl) h0
  obtain ⟨y, rfl, rfl, rfl, wy⟩ := open_int Tryz.underlying5 (hval 1 5 v1 rfl rfl) h1b
  obtain ⟨a, rfl, ha⟩ := u8_nat wx
  obtain ⟨b, rfl, hb⟩ := u8_nat wy
  simp only [List.append_nil] at hW'
  obtain ⟨rb, off, hl⟩ := laid_sls hL
  have hrel : RelL (fun _ => none) (.cons (.int .u8 a) (.cons (.int .u8 b) .nil)) [Value.int .u8 a, Value.int .u8 b] := by
    simp only [RelL]
    exact ⟨_, _, rel_u8 ha, ⟨_, _, rel_u8 hb, rfl, rfl⟩, rfl⟩
  have hcall := (law3 a b ha hb rb off W _ hl hrel).2
  refine hcall.mono fun e W' hp => ?_
  obtain ⟨z, he, hy, hk⟩ := hp
  subst he; subst hy
  refine ⟨_, rfl, ?_⟩
  exact post_plain hW' (fun _ _ _ => trodAll_mk1 (shut_bool Tryz.underlying4 _)) (fun sp => trodAll_cons_mk (shut_int Tryz.underlying5 wx) (trodAll_mk1 (shut_int Tryz.underlying5 wy))) (fun _ => rfl) (keeps_kept hk) (ok_one (by kernel_rfl) rfl (okWide_bool_mk Tryz.underlying4 _))
set_option maxRecDepth 100000 in
theorem closed3 : joinedFacts Tryz.prog 3 Tryz.f3 Rows.inferClassesSpec Rows.inferClassesRow = true := by
  unfold joinedFacts
  simp only [Bool.and_eq_true]
  exact ⟨⟨⟨⟨⟨⟨⟨⟨⟨⟨⟨⟨⟨⟨⟨⟨⟨⟨⟨⟨⟨⟨⟨⟨⟨⟨⟨⟨⟨⟨⟨jg00, jg01⟩, jg02⟩, jg03⟩, jg04⟩, jg05⟩, jg06⟩, jg07⟩, jg08⟩, jg09⟩, jg10⟩, jg11⟩, jg12⟩, jg13⟩, jg14⟩, jg15⟩, jg16⟩, jg17⟩, jg18⟩, jg19⟩, jg20⟩, jg21⟩, jg22⟩, jg23⟩, jg24⟩, jg25⟩, jg26⟩, jg27⟩, jg28⟩, jg29⟩, jg30⟩, jg31⟩
theorem inferClasses_holds : Rows.InferClassesSaid :=
  OpenClaim.holds_of_wide 3 Tryz.f3 rfl rfl rfl rfl rfl rfl rfl ⟨rfl, rfl, rfl, rfl, rfl⟩ rfl rfl rfl rfl rfl (by kernel_rfl) Tryz.func3 closed3
    (of_decide_eq_true (by kernel_rfl)) (by unfold Func.isWrapper; first | (rw [if_pos (by decide +kernel)]; kernel_rfl) | (rw [if_neg (by decide +kernel)]; exact ⟨rfl, rfl⟩))
    (fun os started H enc _ => lifted3 os started H enc)
end Go.Proofs.YtniifikiohcloaaGreatDoor
