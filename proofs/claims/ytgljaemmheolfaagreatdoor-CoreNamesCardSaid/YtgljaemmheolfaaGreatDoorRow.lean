/- CoreNames: the row holds. -/
import Derived.Test.YtgljaemmheolfaaGreatDoorLaw
import Derived.Test.YtgljaemmheolfaaGreatDoorLaid
import Derived.Test.YtgljaemmheolfaaGreatDoorJA
import Derived.Test.YtgljaemmheolfaaGreatDoorJB
import Derived.Test.YtgljaemmheolfaaGreatDoorJC
import Derived.Test.YtgljaemmheolfaaGreatDoorJD
import Derived.Test.YtgljaemmheolfaaGreatDoorJE
import Derived.Test.YtgljaemmheolfaaGreatDoorJF
import Derived.ProofKit
import Derived.OpenShut
import Derived.LaidMore
import Derived.Lay
import Derived.SevenTiedAt
import Derived.Stop.Joined
import Derived.HandedShaped
set_option linter.all false
namespace Go.Proofs.YtgljaemmheolfaaGreatDoor
open Go Go.Ev Go.ChangeShapes Go.WideShapes Go.ChangeAt Go.RowKit
theorem returnsInHanded_of_change_and_shaped {H : Type} {enc : TypeId × Value → H} {a : Assume} {C : Checked} {os : Os} {f : FuncId} {fn : Func} {s : ChangeSpec} {conds : List PathCond} {apart fresh handsOn again : Bool} {X : World → Array Value → Prop}
  (hX : ∀ (w w' : World) (args : Array Value), w.heap = w'.heap → X w args → X w' args)
  (own : ownKnob C.prog.godebug = none) (started : os.Started) (noInit : C.prog.inits.idxOf? f = none) (hfn : C.prog.funcs[f]? = some fn)
  (witness : ∃ (w : World) (tape : Tape) (i : Input), w.os = os ∧ (w.forCall tape i).Shaped C.prog ∧ i.vars = [] ∧ Input.okWide C.prog (w.forCall tape i) .any w.heap.size f i ∧
   ((s.pre enc C.prog fn conds apart (w.forCall tape i).memory i.args ∧ X (w.forCall tape i).memory i.args) ∧ sizedMet enc C.prog fn (OpenSpec.ofChange s) apart (w.forCall tape i).memory i.args) ∧ a.holds C.prog (lone (Frame.enter C.prog f i.args .normal) [] (w.forCall tape i)))
  (contract : ∀ (W : World) (base : Nat) (args : Array Value) (ds gs : List (DataW H)) (before : List MemPlace),
   (∀ (j : Nat) t v, fn.params[j]? = some t → args[j]? = some v → Value.okWide C.prog W .any base t v) →
   DataW.Whole enc C.prog fn.params.toList s.vars apart W args.toList ds gs before →
   X W args → W.ShapedOpen C.prog →
   Calls C.prog f args W fun e W' => ∃ v, e = .returned v ∧ s.post enc C.prog fn apart fresh handsOn again W args v W') :
  ReturnsInHanded a C os f .any (fun w args => (s.pre enc C.prog fn conds apart w args ∧ X w args) ∧ sizedMet enc C.prog fn (OpenSpec.ofChange s) apart w args) (s.post enc C.prog fn apart fresh handsOn again) := by
 refine returnsInHanded_of_calls own started noInit witness ?_
 intro w tape i _ hsh _ hok hpre _
 obtain ⟨_, _, _, fn', hfn', _, _, _, _, hval⟩ := hok
 have e : fn' = fn := Option.some.inj (hfn'.symm.trans hfn)
 subst e
 obtain ⟨⟨⟨ds, gs, before, hw, hc⟩, hx⟩, _⟩ := hpre
 have hw' := DataW.Whole.of_heap (w' := w.forCall tape i) (by rfl) hw
 refine (contract (w.forCall tape i) w.heap.size i.args ds gs before hval hw' (hX _ _ _ (by rfl) hx) hsh).mono fun e W' ⟨v, he, hp⟩ => ?_
 subst he
 exact ChangeSpec.post_blind hp
theorem toInt_has {x : Int} (h : IntKind.i64.has x) : ∃ m : Nat, m < kmod .i64 ∧ x = toInt .i64 m := by
 have h1 : (-9223372036854775808 : Int) ≤ x := h.1
 have h2 : x ≤ 9223372036854775807 := h.2
 have e1 : kmod .i64 = 18446744073709551616 := rfl
 have e2 : khalf .i64 = 9223372036854775808 := rfl
 rw [e1]
 unfold toInt
 rw [e1, e2]
 by_cases hx : 0 ≤ x
 ·refine ⟨x.toNat, by omega, ?_⟩
  rw [if_neg (by omega)]
  omega
 ·refine ⟨(x + 18446744073709551616).toNat, by omega, ?_⟩
  rw [if_pos (by omega)]
  omega
theorem maxLen_cell {P : Program} {w : World} {g : Nat} {t : TypeId} {zero : Array Value}
  (h : w.ShapedOpen P) (hg : g < P.globals.size)
  (h0 : ((begin P (fun _ _ => 0) default).world.heap[g]?).bind Obj.row? = some (zero, t)) (hz : zero.size = 1)
  (hb : P.buildable t = true) (hc : P.cellTypes P.depth t = some [t]) (hu : P.underlying t = some (.int .i64)) :
  ∃ (m : Nat) (C : Array Value), m < kmod .i64 ∧ w.heap[g]? = some (.cells C t (0, 0)) ∧ C[0]? = some (.int .i64 (toInt .i64 m)) := by
 obtain ⟨cs, hh, hs, hr⟩ := h.1 g zero t hg h0
 obtain ⟨ts, hts, _, hall⟩ := hr hb
 rw [hc] at hts
 cases hts
 have h1 : 0 < cs.size := by omega
 obtain ⟨u, hu', hok⟩ := hall 0 cs[0] (by simp [h1])
 have : u = t := by simpa using hu'.symm
 subst this
 unfold Cell.ok at hok
 rw [hu] at hok
 have e0 : cs[0]? = some cs[0] := by simp [h1]
 cases hv : cs[0] <;> rw [hv] at hok <;> simp at hok
 case int k' n =>
  obtain ⟨m, hm, rfl⟩ := toInt_has hok.2
  refine ⟨m, cs, hm, hh, ?_⟩
  rw [e0, hv, hok.1]
theorem jg09 : ((Rows.coreNamesRow.inPlace == Tryz.prog.inPlace 3)) = true := by rw [inPlace3]; kernel_rfl
theorem jg10 : ((Rows.coreNamesRow.unfollowed == Tryz.prog.unfollowed 3)) = true := by rw [unfollowed3]; rfl
theorem jg11 : ((Rows.coreNamesRow.recurses == Tryz.prog.recurses 3)) = true := by rw [recurses3]; rfl
theorem jg12 : ((Rows.coreNamesRow.named == Tryz.prog.varsNamed 3)) = true := by rw [varsNamed3]; kernel_rfl
theorem ownK : ownKnob Tryz.prog.godebug = none := by kernel_rfl
theorem post_plain {H : Type} {enc : TypeId × Value → H} {P : Program} {f : Func} {s : ChangeSpec} {apart fresh handsOn again : Bool} {W W' : World} {args : Array Value} {v : Value} {ds gs : List (DataW H)}
  (hW : DataW.Whole enc P f.params.toList s.vars apart W args.toList ds gs [])
  (hres : ∀ (b : Nat) (sp : Nat → Bool) (hd : Bool), DataW.TrodAll enc P W' b sp hd f.resultTypes.toList (v.resultList f.resultTypes.size) (s.fn H (ds ++ gs)).results [])
  (hargs : ∀ sp : Nat → Bool, DataW.TrodAll enc P W' 0 sp true f.params.toList args.toList (s.fn H (ds ++ gs)).args [])
  (hvars : ∀ sp : Nat → Bool, DataW.TrodVars enc P W' sp s.vars (s.fn H (ds ++ gs)).vars [])
  (hk : W.keptBut W' fun _ => False)
  (hok : ∀ (j : Nat) (t : TypeId) (r : Value), f.resultTypes[j]? = some t → (v.resultList f.resultTypes.size)[j]? = some r → Value.okWide P W' .any 0 t r) :
  s.post enc P f apart fresh handsOn again W args v W' := by
 refine ⟨ds, gs, [], [], [], [], hW, hres _ _ _, hargs _, hvars _, World.keptBut_mono (fun p hp => hp.elim) hk, fun _ => ?_⟩
 obtain ⟨_, _, _, _, _, hz, hn⟩ := hW
 refine ⟨hok, _, _, ([] ++ []) ++ [], ⟨[] ++ [], [], trodAll_append (hargs _) (hres _ _ _), hvars _, rfl, ?_, ?_⟩, ?_⟩
 ·intro b off hp
  simp at hp
 ·intro ha
  simp
 ·intro p hp _
  simpa using hp
theorem keeps_kept {W W' : World} (h : KeepsW W W') : W.keptBut W' fun _ => False := (World.keptBut_refl W _).congr h.os h.out h.old
theorem u8_nat {x : Int} (wx : (Lit.int .u8 x).wf = true) : ∃ r : Nat, x = r ∧ r < 256 := by
 have hx : 0 ≤ x ∧ x ≤ 255 := by
  simp only [Lit.wf, Bool.and_eq_true, decide_eq_true_eq] at wx
  exact wx
 exact ⟨x.toNat, by omega, by omega⟩
set_option maxRecDepth 100000 in
theorem lifted3 (os : Os) (started : os.Started) (H : Type) (enc : TypeId × Value → H) :
  ReturnsInHanded {} Tryz.checked os 3 .any (fun w args => (Rows.coreNamesSpec.pre enc Tryz.prog Tryz.f3 [] false w args ∧ laidMetH Tryz.prog laid11 w) ∧ sizedMet enc Tryz.prog Tryz.f3 (OpenSpec.ofChange Rows.coreNamesSpec) false w args)
   (Rows.coreNamesSpec.post enc Tryz.prog Tryz.f3 false true false false) := by
 refine returnsInHanded_of_change_and_shaped (C := Tryz.checked) (X := fun w _ => laidMetH Tryz.prog laid11 w) (fun _ _ _ hh h => h.of_heap hh) ownK started (by kernel_rfl) Tryz.func3
  (ChangeSpec.witness_shaped (enc := enc) (C := Tryz.checked) (os := os) (X := fun w _ => laidMetH Tryz.prog laid11 w) false (World.laidAll Tryz.prog os laid11) #[.int .u8 0, .int .u8 0] 8 (World.laidAll_os _ _ _)
   (World.shaped_of_ZipB (by kernel_rfl) (by kernel_rfl)) (by kernel_rfl) (by kernel_rfl) (by kernel_rfl)
   (by rw [MakeChecks.laidMetH_plain _ _ _ (by kernel_rfl)]; exact laidMet_laidAll _ (by kernel_rfl) (by kernel_rfl))) ?_
 intro W base args ds gs before hval0 hW hL hsh
 have hval : ∀ (j : Nat) t v, Tryz.f3.params[j]? = some t → args[j]? = some v → Value.okWide Tryz.prog W .any base t v := hval0
 have hW' := hW
 obtain ⟨p, q, hA0, hV, rfl, _, _⟩ := hW
 have hA : DataW.TrodAll enc Tryz.prog W 0 (fun _ => true) true Tryz.f3.params.toList args.toList ds p := hA0
 rw [Tryz.params3] at hA hval
 obtain ⟨v0, vs0, d0, ds0, p0, pr, ev, ed, ep, h0, h1⟩ := trodAll_cons hA
 obtain ⟨v1, vs1, d1, ds1, p1, pr1, ev1, ed1, ep1, h1b, h2⟩ := trodAll_cons h1
 obtain ⟨e1, e2, e3⟩ := trodAll_nil h2
 subst e1; subst e2; subst e3
 subst ev1; subst ed1; subst ep1
 obtain ⟨l⟩ := args
 simp only [] at ev
 subst ev; subst ed; subst ep
 obtain ⟨rfl, rfl⟩ := trodVars_none hV
 obtain ⟨x, rfl, rfl, rfl, wx⟩ := open_int Tryz.underlying5 (hval 0 5 v0 rfl rfl) h0
 obtain ⟨y, rfl, rfl, rfl, wy⟩ := open_int Tryz.underlying5 (hval 1 5 v1 rfl rfl) h1b
 obtain ⟨a, rfl, ha⟩ := u8_nat wx
 obtain ⟨b, rfl, hb⟩ := u8_nat wy
 simp only [List.append_nil] at hW'
 obtain ⟨rb, off, hl⟩ := laid_sls hL
 obtain ⟨m, C, hm, hcell, hc0⟩ := maxLen_cell (P := Tryz.prog) (g := 4) (t := 3) (zero := #[.int .i64 0]) hsh (of_decide_eq_true (by kernel_rfl)) (by kernel_rfl) rfl (by kernel_rfl) (by kernel_rfl) Tryz.underlying3
 have hcall := law3 a b ha hb hl hcell hm hc0
 refine hcall.mono fun e W' hp => ?_
 obtain ⟨he, hk⟩ := hp
 refine ⟨_, he, ?_⟩
 exact post_plain hW' (fun _ _ _ => trodAll_mk1 (shut_bool Tryz.underlying4 _)) (fun sp => trodAll_cons_mk (shut_int Tryz.underlying5 wx) (trodAll_mk1 (shut_int Tryz.underlying5 wy))) (fun _ => rfl) (keeps_kept hk) (ok_one (by kernel_rfl) rfl (okWide_bool_mk Tryz.underlying4 _))
set_option maxRecDepth 100000 in
theorem closed3 : joinedFacts Tryz.prog 3 Tryz.f3 Rows.coreNamesSpec Rows.coreNamesRow = true := by
 unfold joinedFacts
 simp only [Bool.and_eq_true]
 exact ⟨⟨⟨⟨⟨⟨⟨⟨⟨⟨⟨⟨⟨⟨⟨⟨⟨⟨⟨⟨⟨⟨⟨⟨⟨⟨⟨⟨⟨⟨⟨jg00, jg01⟩, jg02⟩, jg03⟩, jg04⟩, jg05⟩, jg06⟩, jg07⟩, jg08⟩, jg09⟩, jg10⟩, jg11⟩, jg12⟩, jg13⟩, jg14⟩, jg15⟩, jg16⟩, jg17⟩, jg18⟩, jg19⟩, jg20⟩, jg21⟩, jg22⟩, jg23⟩, jg24⟩, jg25⟩, jg26⟩, jg27⟩, jg28⟩, jg29⟩, jg30⟩, jg31⟩
theorem coreNames_holds : Rows.CoreNamesSaid :=
 OpenClaim.holds_of_wide 3 Tryz.f3 rfl rfl rfl rfl rfl rfl rfl ⟨rfl, rfl, rfl, rfl, rfl⟩ rfl rfl rfl rfl rfl (by kernel_rfl) Tryz.func3 closed3
  (of_decide_eq_true (by kernel_rfl)) (by unfold Func.isWrapper; first | (rw [if_pos (by decide +kernel)]; kernel_rfl) | (rw [if_neg (by decide +kernel)]; exact ⟨rfl, rfl⟩))
  (fun os started H enc _ => lifted3 os started H enc)
end Go.Proofs.YtgljaemmheolfaaGreatDoor
