/- The evaluator is sound against the model, second part: operations, regions, code, functions. -/
import Derived.Test.YtgljaemmheolfaaGreatDoorEvC
import Derived.WideKeyRuns
import Derived.RangeFuncLeaves
import Derived.RangeFuncRecord
import Derived.RangeFuncSeq
import Derived.Defers
import Derived.Recover
set_option linter.all false
set_option linter.unusedSimpArgs false
namespace Go.Ev
noncomputable section
variable {X : Cx} {o : Oper} {s : S}
theorem append_ok (hs : SOk X o.dst s) {c : Go.Call} (ho : o.op = .call c) (hc : c.callee = .builtin .append) {x y : Operand} {st xt : TypeId} (ha : c.args.toList = [x, y]) (hts : c.argTypes.toList = [st, xt]) :
  OpOk X o (builtinOp X .append [x, y] [st, xt] s).f := by
 unfold builtinOp; dsimp only
 split
 ·rename_i el e' hel hel'
  have hu := elemOfSlice_some hel
  have hu' := elemOfSlice_some hel'
  cases hz : zeroCellsV X.P el with
  | none => exact OpOk.badOp _
  | some z =>
   dsimp only
   by_cases hcc : z.length = 0 ∨ z.length ≠ X.P.cellsOf el ∨ 1000000000 < bytesOf X.P el
   ·rw [if_pos hcc]; exact OpOk.badOp _
   rw [if_neg hcc]
   have hz0 : z.length ≠ 0 := fun e => hcc (.inl e)
   have hzs : z.length = X.P.cellsOf el := by
    rcases Nat.decEq z.length (X.P.cellsOf el) with h | h
    ·exact absurd (.inr (.inl h)) hcc
    ·exact h
   have hby : bytesOf X.P el ≤ 1000000000 := by
    rcases Nat.lt_or_ge 1000000000 (bytesOf X.P el) with h | h
    ·exact absurd (.inr (.inr h)) hcc
    ·exact h
   obtain ⟨i, zv, hi, hzv, hsc⟩ := zeroCells_ok hz
   have hcs : X.P.cellsOf el = i.size := by simp [Program.cellsOf, hi]
   have hlz := scalarsOf_len hsc
   have hzc : zv.cells.size = i.size := by rw [← hcs, ← hzs, hlz]; simp
   have hib : i.bytes ≤ 1000000000 := by simpa [bytesOf, hi] using hby
   rcases opd_cases X x _ (badOp "append") with ⟨gx, hgx, e1⟩ | e1 <;> rw [e1]
   ·rcases opd_cases X y _ (badOp "append") with ⟨gy, hgy, e1⟩ | e1 <;> rw [e1]
    ·intro cl hcl E e h a w he hr k r hk hb
     dsimp only at hk
     rw [hcs] at hk
     obtain ⟨v, yv, h', w', E', hk', hrun, hR, hrel⟩ := appendV_ok (ty := o.type) hr hu hi hzv hzc (by omega) hib hu' (hgx E e a he) (hgy E e a he) hk hb
     refine OpOk.value hs he (x := yv) ?_ hR hrel hk'
     refine run_bi ho hc fun consts => ?_
     rw [args_two ha, types_two hts]
     simp only [builtin, Sem.run_bind, hrun, Result.andThen_ok, Sem.run_pure]
    ·exact OpOk.badOp _
   ·exact OpOk.badOp _
 ·exact OpOk.badOp _
theorem keyKind_cases {t : TypeId} {ek : EK} (h : keyKind X t = ek) :
  ek = .bad ∨ (∃ sk, ek = .sk sk ∧ skT X.P t = some sk) ∨ (∃ l, ek = .agg l ∧ t ∈ X.eqs ∧ flatT X.P X.eqs 3 t 0 = some l ∧ ((∃ fs, X.P.underlying t = some (.struct fs)) ∨ ∃ n el, X.P.underlying t = some (.array n el))) := by
 unfold keyKind at h
 split at h
 ·rename_i sk hk
  rcases ekOf_cases hk with e | ⟨sk', e, hs⟩ | ⟨l, e, _⟩ | ⟨e, _⟩ | ⟨e, _⟩ <;> first | (cases e; done) | skip
  cases e; exact .inr (.inl ⟨sk, h.symm, hs⟩)
 ·rename_i l hk
  rcases ekOf_cases hk with e | ⟨sk', e, hs⟩ | ⟨l', e, r⟩ | ⟨e, _⟩ | ⟨e, _⟩ <;> first | (cases e; done) | skip
  cases e; exact .inr (.inr ⟨l, h.symm, r⟩)
 ·exact .inl h.symm
section
variable {P : Program} {w : World}
theorem skT_under {t : TypeId} {sk : SK} (h : skT P t = some sk) : ∃ d, P.underlying t = some d ∧ (∀ ms, d ≠ .interface ms) ∧ (∀ n e, d ≠ .array n e) ∧ (∀ fs, d ≠ .struct fs) := by
 unfold skT at h
 split at h
 ·rename_i k hk; exact ⟨_, hk, by simp, by simp, by simp⟩
 ·rename_i hk; exact ⟨_, hk, by simp, by simp, by simp⟩
 ·rename_i hk; exact ⟨_, hk, by simp, by simp, by simp⟩
 ·rename_i e hk; exact ⟨_, hk, by simp, by simp, by simp⟩
 ·cases h
theorem checkKey_sk {t : TypeId} {sk : SK} (h : skT P t = some sk) (em : Bool) (n : Nat) (v : Value) : (Instr.checkKey em (n + 1) t v).run P w = .ok () w := by
 obtain ⟨d, hu, h1, h2, h3⟩ := skT_under h
 unfold Instr.checkKey
 simp only [Sem.run_bind, run_underlying hu, Result.andThen_ok]
 cases d <;> first | exact absurd rfl (h1 _) | exact absurd rfl (h2 _ _) | exact absurd rfl (h3 _) | (cases v <;> rfl)
def Has (n : Nat) (A : Array Value) (p : Nat) : Prop := p + n ≤ A.size
theorem checkKey_flat {eqs : List TypeId} (em : Bool) : ∀ (n : Nat) (t : TypeId) (off : Nat) (l : List (Nat × SK)), flatT P eqs n t off = some l → ∀ A p, Has (P.cellsOf t) A p →
  ∃ a, (part t A p).run P w = .ok a w ∧ ((∃ s, skT P t = some s) ∨ a = .agg (A.extract p (p + P.cellsOf t))) ∧ ∀ d, (Instr.checkKey em (d + n) t a).run P w = .ok () w
 | 0, t, off, l, hl => by simp [flatT] at hl
 | n + 1, t, off, l, hl => by
  intro A p hA
  simp only [flatT] at hl
  split at hl
  ·rename_i fs hut
   split at hl
   ·have hag : (isAgg t).run P w = .ok true w := by simp [isAgg, run_underlying hut]
    refine ⟨.agg (A.extract p (p + P.cellsOf t)), by simp [part, Sem.run_bind, hag, run_sizeOf_u hut], .inr rfl, fun d => ?_⟩
    rw [← Nat.add_assoc, Instr.checkKey]
    simp only [Sem.run_bind, run_underlying hut, Result.andThen_ok]
    rw [← Array.forIn_toList]
    have hsz : (A.extract p (p + P.cellsOf t)).size = P.cellsOf t := by
     unfold Has at hA
     simp; omega
    generalize A.extract p (p + P.cellsOf t) = B at hsz
    generalize fs.toList = L at hl
    clear hut hag
    induction L generalizing l with
    | nil => simp
    | cons f L ih =>
     simp only [flatF] at hl
     split at hl
     ·cases hl
     ·rename_i hc
      cases h1 : flatT P eqs n f.type (off + f.offset) with
      | none => simp [h1] at hl
      | some l1 =>
       cases h2 : flatF P (flatT P eqs n) (P.cellsOf t) off L with
       | none => simp [h1, h2] at hl
       | some l2 =>
        have hn : f.name ≠ "_" := fun e => hc (.inl e)
        have hfit : f.offset + P.cellsOf f.type ≤ P.cellsOf t := by
         rcases Nat.lt_or_ge (P.cellsOf t) (f.offset + P.cellsOf f.type) with h | h
         ·exact absurd (.inr h) hc
         ·exact h
        obtain ⟨a, p1, _, p2⟩ := checkKey_flat em n f.type _ _ h1 B f.offset (by unfold Has; omega)
        simp only [List.forIn_cons, Sem.run_bind, hn, ne_eq, not_false_eq_true, if_true, Result.andThen_ok, p1, p2, Sem.run_pure]
        exact ih l2 h2
   ·cases hl
  ·rename_i len el hut
   split at hl
   ·rename_i hc
    obtain ⟨hc1, hc2, hc3⟩ := hc
    obtain ⟨i, hi, _⟩ := info_of_cells (Nat.ne_of_gt hc3)
    have hag : (isAgg t).run P w = .ok true w := by simp [isAgg, run_underlying hut]
    refine ⟨.agg (A.extract p (p + P.cellsOf t)), by simp [part, Sem.run_bind, hag, run_sizeOf_u hut], .inr rfl, fun d => ?_⟩
    rw [← Nat.add_assoc, Instr.checkKey]
    simp only [Sem.run_bind, run_underlying hut, Result.andThen_ok]
    simp only [Std.Legacy.Range.forIn_eq_forIn_range', Std.Legacy.Range.size, Nat.sub_zero, Nat.add_one_sub_one, Nat.div_one]
    have hsz : (A.extract p (p + P.cellsOf t)).size = P.cellsOf t := by
     unfold Has at hA
     simp; omega
    generalize A.extract p (p + P.cellsOf t) = B at hsz
    rw [List.range_eq_range'] at hl
    have hall : ∀ i ∈ List.range' 0 len, i < len := fun i hi => by simpa using (List.mem_range'_1.1 hi).2
    generalize List.range' 0 len = L at hl hall
    clear hut hag
    induction L generalizing l with
    | nil => simp
    | cons j L ih =>
     simp only [flatA] at hl
     cases h1 : flatT P eqs n el (off + j * P.cellsOf el) with
     | none => simp [h1] at hl
     | some l1 =>
      cases h2 : flatA (flatT P eqs n) el (P.cellsOf el) off L with
      | none => simp [h1, h2] at hl
      | some l2 =>
       have hj := hall j (by simp)
       have : (j + 1) * P.cellsOf el ≤ len * P.cellsOf el := Nat.mul_le_mul_right _ hj
       rw [Nat.add_mul, Nat.one_mul] at this
       obtain ⟨a, p1, _, p2⟩ := checkKey_flat em n el _ _ h1 B (j * P.cellsOf el) (by unfold Has; omega)
       simp only [List.forIn_cons, Sem.run_bind, run_sizeOf w hi, Result.andThen_ok, p1, p2, Sem.run_pure]
       exact ih l2 h2 (fun i hi => hall i (by simp [hi]))
   ·cases hl
  ·split at hl
   ·rename_i hsz
    cases hs : skT P t with
    | none => simp [hs] at hl
    | some s =>
     unfold Has at hA
     rw [hsz] at hA
     refine ⟨A[p]'(by omega), by simp [part, Sem.run_bind, skT_plain hs, Array.getElem?_eq_getElem (show p < A.size by omega)], .inl ⟨s, rfl⟩, fun d => checkKey_sk hs em (d + n) _⟩
   ·cases hl
end
theorem checkKey_ok {E : Emb} {kt : TypeId} {key : V} {kx : Value} (hk : Rel E key kx) (hf : keyFit (keyKind X kt) (X.P.cellsOf kt) key = true) (em : Bool) (w : World) : (Instr.checkKey em 10000 kt kx).run X.P w = .ok () w := by
 rcases keyKind_cases (X := X) (t := kt) rfl with e | ⟨sk, e, hs⟩ | ⟨l, e, _, hl, hsa⟩
 ·rw [e] at hf; cases hf
 ·exact checkKey_sk hs em 9999 kx
 ·rw [e] at hf
  simp only [keyFit] at hf
  cases key <;> simp only at hf <;> first | (cases hf; done) | skip
  rename_i lv
  simp only [Rel] at hk
  obtain ⟨_, xs, hx, rfl⟩ := hk
  have hlen := of_beq_true hf
  rw [hx.len] at hlen
  have hHas : Has (X.P.cellsOf kt) xs.toArray 0 := by unfold Has; simp [hlen]
  obtain ⟨a, _, ha, hc⟩ := checkKey_flat (P := X.P) (w := w) em 3 kt 0 l hl xs.toArray 0 hHas
  have hns : ¬ ∃ s, skT X.P kt = some s := by
   rintro ⟨s, hs⟩
   obtain ⟨d, hu, _, h2, h3⟩ := skT_under hs
   rcases hsa with ⟨fs, hf⟩ | ⟨n, el, hf⟩ <;> rw [hu] at hf <;> cases hf
   ·exact h3 _ rfl
   ·exact h2 _ _ rfl
  rcases ha with ha | ha
  ·exact absurd ha hns
  ·have hex : xs.toArray.extract 0 (0 + X.P.cellsOf kt) = xs.toArray := by
    rw [Nat.zero_add, ← hlen]; simp
   rw [hex] at ha
   rw [← ha]
   exact hc 9997
theorem eqK_ok (hq : EqsOk X.P X.eqs) {E : Emb} {h : H} {w : World} (hr : HSub E h w) {t : TypeId} {v u : V} {x y : Value} {b : Bool} (hv : Rel E v x) (hu : Rel E u y)
  (he : eqV (keyKind X t) v u h = some b) : (Op.equal t x y).run X.P w = .ok b w := by
 rcases keyKind_cases (X := X) (t := t) rfl with e | ⟨sk, e, hs⟩ | ⟨l, e, _, hl, hsa⟩
 ·rw [e] at he; simp [eqV] at he
 ·rw [e] at he
  simp only [eqV] at he
  exact eqSK_ok hr hs hv hu he 9999
 ·rw [e] at he
  simp only [eqV] at he
  split at he
  ·simp only [Rel] at hv hu
   obtain ⟨_, xs, hxs, rfl⟩ := hv
   obtain ⟨_, ys, hys, rfl⟩ := hu
   exact flatT_top hq hr hxs hys hl hsa he
  ·cases he
theorem findAsking_ok (hq : EqsOk X.P X.eqs) {E : Emb} {h : H} {w : World} (hr : HSub E h w) {kt : TypeId} {key : V} {kx : Value} (hkey : Rel E key kx) :
  ∀ (es : List (V × V × Nat)) (es' : List MapEntry) (i : Nat), EntRel E es es' →
   (findK (keyKind X kt) h key es i = .none → (Instr.findAsking kt kx es' i).run X.P w = .ok none w) ∧
   (∀ j v, findK (keyKind X kt) h key es i = .some j v → ∃ val k' b q, (Instr.findAsking kt kx es' i).run X.P w = .ok (some (j, val)) w ∧ Rel E v val ∧ j = i + q ∧ es[q]? = some (k', v, b) ∧ eqV (keyKind X kt) key k' h = some true)
 | [], es', i, he => by
  simp only [EntRel] at he
  subst he
  exact ⟨fun _ => by simp [Instr.findAsking], fun j v h => by simp [findK] at h⟩
 | (k', v', b') :: es, es', i, he => by
  obtain ⟨x, y, r, h1, h2, h3, rfl⟩ := he
  obtain ⟨ih1, ih2⟩ := findAsking_ok hq hr hkey es r (i + 1) h3
  simp only [findK]
  cases hev : eqV (keyKind X kt) key k' h with
  | none => exact ⟨fun e => (by cases e), fun j v e => (by cases e)⟩
  | some b =>
   have hop := eqK_ok hq hr hkey h1 hev
   cases b with
   | true =>
    refine ⟨fun e => (by cases e), fun j v e => ?_⟩
    cases e
    exact ⟨y, k', b', 0, by simp [Instr.findAsking, Sem.run_bind, hop], h2, rfl, rfl, hev⟩
   | false =>
    refine ⟨fun e => ?_, fun j v e => ?_⟩
    ·simp only [Instr.findAsking, Sem.run_bind, hop, Result.andThen_ok]
     simpa using ih1 e
    ·obtain ⟨val, k0, b0, q, q1, q2, q3, q4, q5⟩ := ih2 j v e
     refine ⟨val, k0, b0, q + 1, ?_, q2, by omega, by simpa using q4, q5⟩
     simp only [Instr.findAsking, Sem.run_bind, hop, Result.andThen_ok]
     simpa using q1
theorem sameNow_equal {P : Program} {w : World} {kt : TypeId} {d : TypeDesc} (hu : P.underlying kt = some d) {x y : Value} {b : Bool} (h : Instr.sameNow d x y = some b) : (Op.equal kt x y).run P w = .ok b w := by
 have key : ∀ n, (Op.equalIn (n + 1) kt x y).run P w = .ok b w := by
  intro n
  unfold Instr.sameNow at h
  split at h
  ·split at h
   ·rename_i hk; subst hk; cases h; simp [Op.equalIn, run_underlying hu]
   ·cases h
  ·cases h; simp [Op.equalIn, run_underlying hu, beq_toListBytes]
  ·cases h; simp [Op.equalIn, run_underlying hu]
  ·cases h
 exact key 9999
theorem findNow_asking {P : Program} {w : World} {kt : TypeId} {d : TypeDesc} (hu : P.underlying kt = some d) {x : Value} : ∀ (es : List MapEntry) (i : Nat) (r : Option (Nat × Value)), Instr.findNow d x es i = some r → (Instr.findAsking kt x es i).run P w = .ok r w
 | [], i, r, h => by simp only [Instr.findNow, Option.some.injEq] at h; subst h; simp [Instr.findAsking]
 | e :: es, i, r, h => by
  simp only [Instr.findNow] at h
  split at h
  ·rename_i hs
   cases h
   simp [Instr.findAsking, Sem.run_bind, sameNow_equal hu hs]
  ·rename_i hs
   simp only [Instr.findAsking, Sem.run_bind, sameNow_equal hu hs, Result.andThen_ok]
   simpa using findNow_asking hu es (i + 1) r h
  ·cases h
theorem run_findKey_asking {P : Program} {w : World} {kt : TypeId} {d : TypeDesc} (hu : P.underlying kt = some d) {x : Value} {es : List MapEntry} {r : Option (Nat × Value)} (h : (Instr.findAsking kt x es 0).run P w = .ok r w) :
  (Instr.findKey kt x es).run P w = .ok r w := by
 simp only [Instr.findKey, Sem.run_bind, run_underlying hu, Result.andThen_ok]
 cases hf : Instr.findNow d x es 0 with
 | none => exact h
 | some r' =>
  have := findNow_asking (w := w) hu es 0 r' hf
  rw [h] at this
  cases this
  rfl
end
end Go.Ev
set_option linter.unusedSimpArgs false
namespace Go.Ev
noncomputable section
variable {X : Cx} {o : Oper} {s : S}
theorem keyFit_under {kt : TypeId} {n : Nat} {key : V} (h : keyFit (keyKind X kt) n key = true) : ∃ d, X.P.underlying kt = some d := by
 rcases keyKind_cases (X := X) (t := kt) rfl with e | ⟨sk, e, hs⟩ | ⟨l, e, _, hl, hsa⟩
 ·rw [e] at h; cases h
 ·obtain ⟨d, hu, _⟩ := skT_under hs; exact ⟨d, hu⟩
 ·rcases hsa with ⟨_, hu⟩ | ⟨_, _, hu⟩ <;> exact ⟨_, hu⟩
theorem zeroV_ok {P : Program} {t : TypeId} {z : V} (h : zeroV P t = some z) : ∃ i zv, P.info? t = some i ∧ i.zero = some zv ∧ ∀ E, Rel E z zv := by
 unfold zeroV at h
 cases hi : P.info? t with
 | none => simp [hi] at h
 | some i =>
  cases hz : i.zero with
  | none => simp [hi, hz] at h
  | some zv => exact ⟨i, zv, rfl, hz, fun E => constOf_ok (by simpa [hi, hz] using h) E⟩
theorem lookup_rd (hq : EqsOk X.P X.eqs) {t : TypeId} {x ix : Operand} {ok : Bool} (ho : o.op = .lookup t x ix ok) : ReadOk X o s (compOp X o s).f := by
 rw [compOp_eq]; unfold compOpS; rw [ho]; dsimp only
 split
 ·rename_i kt et hu
  cases hz : zeroV X.P et with
  | none => exact ReadOk.badOp _
  | some z =>
   dsimp only
   obtain ⟨i, zv, hi, hzv, hzr⟩ := zeroV_ok hz
   rcases opd_cases X x _ (badOp "lookup") with ⟨g, hg, e1⟩ | e1 <;> rw [e1]
   ·rcases opd_cases X ix _ (badOp "lookup") with ⟨gi, hgi, e1⟩ | e1 <;> rw [e1]
    ·intro cl hcl E e h a w he hr k r hk hb
     have h1 := hg E e a he
     have h2 := hgi E e a he
     unfold lookupV at hk
     dsimp only at hk
     split at hk
     ·rename_i m hm
      rw [hm] at h1
      simp only [Rel] at h1
      obtain ⟨L, hL, hx⟩ := h1
      split at hk
      ·rename_i es clock hbl
       have hbr := hr.rel m L hL (by rw [hbl]; simp)
       rw [hbl] at hbr
       obtain ⟨es', q1, q2⟩ := hbr
       split at hk
       ·exact bad_of hk hb
       ·rename_i hfit
        obtain ⟨d, hkd⟩ := keyFit_under hfit
        have hck := fun em => checkKey_ok (X := X) h2 hfit em w
        obtain ⟨f1, f2⟩ := findAsking_ok hq hr (kt := kt) h2 es es'.toList 0 q2
        split at hk
        ·rename_i hf
         have hfk := run_findKey_asking hkd (f1 hf)
         refine ReadOk.value (x := if ok then .tuple #[zv, .bool false] else zv) ?_ (okTup_ok (hzr E)) hk
         simp [execOp, ho, hx, Instr.lookup, run_underlying hu, Sem.run_bind, getObj, Sem.run, q1, hck, hfk, run_zeroValue hi hzv]
        ·rename_i j v hf
         obtain ⟨val, k', b, q, p1, p2, _⟩ := f2 j v hf
         have hfk := run_findKey_asking hkd p1
         refine ReadOk.value (x := if ok then .tuple #[val, .bool true] else val) ?_ (okTup_ok p2) hk
         simp [execOp, ho, hx, Instr.lookup, run_underlying hu, Sem.run_bind, getObj, Sem.run, q1, hck, hfk]
        ·exact bad_of hk hb
      ·exact bad_of hk hb
     ·exact bad_of hk hb
    ·exact ReadOk.badOp _
   ·exact ReadOk.badOp _
 ·exact ReadOk.badOp _
theorem entRel_push {E : Emb} {k v : V} {b : Nat} {x y : Value} (hk : Rel E k x) (hv : Rel E v y) : ∀ {es : List (V × V × Nat)} {es' : List MapEntry}, EntRel E es es' → EntRel E (es ++ [(k, v, b)]) (es' ++ [{ key := x, val := y, born := b }])
 | [], es', h => by
  simp only [EntRel] at h; subst h
  exact ⟨x, y, [], hk, hv, rfl, rfl⟩
 | (_, _, _) :: es, es', h => by
  obtain ⟨x', y', r, h1, h2, h3, rfl⟩ := h
  exact ⟨x', y', _, h1, h2, entRel_push hk hv h3, rfl⟩
theorem entRel_set {E : Emb} {v : V} {y : Value} (hv : Rel E v y) : ∀ {es : List (V × V × Nat)} {es' : List MapEntry} (n : Nat), EntRel E es es' → EntRel E (setVal es n v) (es'.modify n fun e => { e with val := y })
 | [], es', n, h => by
  simp only [EntRel] at h; subst h
  simp [setVal, EntRel]
 | (k, v0, b) :: es, es', n, h => by
  obtain ⟨x', y', r, h1, h2, h3, rfl⟩ := h
  cases n with
  | zero => exact ⟨x', y, r, h1, hv, h3, by simp⟩
  | succ n => exact ⟨x', y', _, h1, h2, entRel_set hv n h3, by simp⟩
theorem entRel_get {E : Emb} : ∀ {es : List (V × V × Nat)} {es' : List MapEntry} {q : Nat} {k v : V} {b : Nat}, EntRel E es es' → es[q]? = some (k, v, b) → ∃ e, es'[q]? = some e ∧ Rel E k e.key ∧ Rel E v e.val ∧ e.born = b
 | [], _, q, _, _, _, _, h => by simp at h
 | (_, _, _) :: es, es', q, k, v, b, h, hq => by
  obtain ⟨x', y', r, h1, h2, h3, rfl⟩ := h
  cases q with
  | zero => simp at hq; obtain ⟨rfl, rfl, rfl⟩ := hq; exact ⟨_, rfl, h1, h2, rfl⟩
  | succ q => simpa using entRel_get h3 (by simpa using hq)
theorem eqSK_same {E : Emb} {sk : SK} {v u : V} {h : H} {x y : Value} (hv : Rel E v x) (hu : Rel E u y) (he : eqSK sk v u h = some true) : x = y ∧ ∀ n, Instr.sameBits n x y = true := by
 cases sk <;> cases v <;> cases u <;> simp only [eqSK] at he <;> first | (cases he; done) | skip
 ·rename_i k a j b
  split at he
  ·rename_i hk
   have := knum_inj hk; subst this
   simp only [Option.some.injEq] at he
   have := of_beq_true he; subst this
   simp only [Rel] at hv hu
   rw [hv.2, hu.2]
   exact ⟨rfl, fun n => by simp [Instr.sameBits]⟩
  ·cases he
 ·simp only [Rel] at hv hu
  obtain ⟨_, s1, rfl, rfl, rfl⟩ := hv
  obtain ⟨_, s2, rfl, rfl, rfl⟩ := hu
  rw [strEq_eq] at he
  simp only [Option.some.injEq, beq_iff_eq] at he
  have : s1 = s2 := by
   obtain ⟨⟨a⟩⟩ := s1
   obtain ⟨⟨b⟩⟩ := s2
   simp at he; rw [he]
  subst this
  exact ⟨rfl, fun n => by simp [Instr.sameBits, beq_toListBytes]⟩
 ·rename_i a b
  simp only [Rel] at hv hu
  subst hv; subst hu
  cases a <;> cases b <;> simp at he
  ·exact ⟨rfl, fun n => by simp [Instr.sameBits]⟩
  ·exact ⟨rfl, fun n => by simp [Instr.sameBits]⟩
 ·rename_i i o j p
  unfold ptrEq at he
  cases hij : Id.eqb i j <;> simp only [hij] at he
  ·cases hbi : h.blk i <;> simp only [hbi] at he <;> try (cases he; done)
   rename_i xi _
   cases xi <;> simp only at he <;> try (cases he; done)
   cases hbj : h.blk j <;> simp only [hbj] at he <;> try (cases he; done)
   rename_i xj _
   cases xj <;> simp only at he <;> cases he
  ·have := (Id.eqb_iff i j).1 hij
   subst this
   simp only [Option.some.injEq] at he
   have := of_beq_true he; subst this
   simp only [Rel] at hv hu
   obtain ⟨L, e1, rfl⟩ := hv
   obtain ⟨M, e2, rfl⟩ := hu
   rw [e1] at e2; cases e2
   exact ⟨rfl, fun n => by simp [Instr.sameBits]⟩
 ·simp only [Rel] at hv hu
  subst hv; subst hu
  exact ⟨rfl, fun n => by simp [Instr.sameBits]⟩
theorem mapUpdate_ok (hq : EqsOk X.P X.eqs) (hs : SOk X o.dst s) {t : TypeId} {m kx x : Operand} (ho : o.op = .mapUpdate t m kx x ∨ o.op = .insert t m kx x) : OpOk X o (compOp X o s).f := by
 have e0 : compOp X o s = match X.P.underlying t with
  | some (.map kt _) => opd X m (fun gm => opd X kx (fun gk => opd X x (fun gx => let ek := keyKind X kt
   ⟨fun _ e h k => mapUpdV ek (X.P.cellsOf kt) (gm e) (gk e) (gx e) h fun h => k (s e .undef) h⟩) (badOp "mapUpdate")) (badOp "mapUpdate")) (badOp "mapUpdate")
  | _ => badOp "mapUpdate" := by
  rcases ho with ho | ho <;> (rw [compOp_eq]; unfold compOpS; rw [ho]; rfl)
 rw [e0]
 split
 ·rename_i kt et hu
  rcases opd_cases X m _ (badOp "mapUpdate") with ⟨gm, hgm, e1⟩ | e1 <;> rw [e1]
  ·rcases opd_cases X kx _ (badOp "mapUpdate") with ⟨gk, hgk, e1⟩ | e1 <;> rw [e1]
   ·rcases opd_cases X x _ (badOp "mapUpdate") with ⟨gx, hgx, e1⟩ | e1 <;> rw [e1]
    ·intro cl hcl E e h a w he hr k r hk hb
     have h1 := hgm E e a he
     have h2 := hgk E e a he
     have h3 := hgx E e a he
     unfold mapUpdV at hk
     dsimp only at hk
     split at hk
     ·rename_i i hm
      rw [hm] at h1
      simp only [Rel] at h1
      obtain ⟨L, hL, hx⟩ := h1
      split at hk
      ·rename_i es clock hbl
       have hbr := hr.rel i L hL
       rw [hbl] at hbr
       obtain ⟨es', q1, q2⟩ := hbr
       have hlt := hr.lt i L hL
       split at hk
       ·exact bad_of hk hb
       ·rename_i hfit
        obtain ⟨d, hkd⟩ := keyFit_under hfit
        have hck := fun em => checkKey_ok (X := X) h2 hfit em w
        obtain ⟨f1, f2⟩ := findAsking_ok hq hr.sub (kt := kt) h2 es es'.toList 0 q2
        have wr : ∀ (b' : List (V × V × Nat)) (c' : Nat) (e' : Array MapEntry), EntRel E b' e'.toList → Run E h w E (h.put i (.map b' c')) { w with heap := w.heap.setIfInBounds L.blk (.map e' c') } := fun b' c' e' hbe =>
         hr.writeObj (b' := .map b' c') (o' := .map e' c') hL (by unfold Wr; rw [hbl]; trivial) (by rw [hbl]; simp) (by simp) (fun h' e => by unfold Wr; rw [e]; trivial) trivial rfl ⟨e', by simp [hlt], hbe⟩ rfl rfl rfl
        split at hk
        ·rename_i hf
         have hfk := run_findKey_asking hkd (f1 hf)
         refine OpOk.skip hs he ?_ (wr _ _ (es'.push { key := a.eval kx, val := a.eval x, born := clock }) (by rw [Array.toList_push]; exact entRel_push h2 h3 q2)) hk
         rcases ho with ho | ho <;> simp [execOp, ho, hx, Instr.mapUpdate, run_underlying hu, Sem.run_bind, getObj, setObj, Sem.run, q1, hck, hfk]
        ·rename_i j v hf
         split at hk
         ·rename_i hsk
          obtain ⟨val, k', b, q, p1, p2, p3, p4, p5⟩ := f2 j v hf
          have hjq : j = q := by omega
          subst hjq
          have hfk := run_findKey_asking hkd p1
          obtain ⟨en, g1, g2, g3, g4⟩ := entRel_get q2 p4
          have hsame : a.eval kx = en.key ∧ ∀ n, Instr.sameBits n en.key (a.eval kx) = true := by
           rcases keyKind_cases (X := X) (t := kt) rfl with e | ⟨sk, e, hs⟩ | ⟨l, e, _, hl, hsa⟩
           ·rw [e] at hsk; cases hsk
           ·rw [e] at p5
            simp only [eqV] at p5
            obtain ⟨r1, r2⟩ := eqSK_same h2 g2 p5
            exact ⟨r1, fun n => by rw [r1] at r2 ⊢; exact r2 n⟩
           ·rw [e] at hsk; cases hsk
          have g1' : es'[j]? = some en := by simpa using g1
          have hmod : (es'.modify j fun e => { e with key := a.eval kx, val := a.eval x }) = (es'.modify j fun e => { e with val := a.eval x }) := by
           apply Array.ext
           ·simp
           ·intro p hp1 hp2
            simp only [Array.getElem_modify]
            split
            ·rename_i hjp
             subst hjp
             have : es'[j]'(by simpa using hp1) = en := by
              have := g1'
              rw [Array.getElem?_eq_getElem (by simpa using hp1)] at this
              simpa using this
             rw [this, hsame.1]
            ·rfl
          refine OpOk.skip hs he ?_ (wr _ _ (es'.modify j fun e => { e with val := a.eval x }) (by rw [Array.toList_modify]; exact entRel_set h3 j q2)) hk
          rw [← hmod]
          rcases ho with ho | ho <;> simp [execOp, ho, hx, Instr.mapUpdate, run_underlying hu, Sem.run_bind, getObj, setObj, Sem.run, q1, hck, hfk, g1', Instr.keyThatStays, hsame.2]
         ·exact bad_of hk hb
        ·exact bad_of hk hb
      ·exact bad_of hk hb
     ·exact bad_of hk hb
    ·exact OpOk.badOp _
   ·exact OpOk.badOp _
  ·exact OpOk.badOp _
 ·exact OpOk.badOp _
end
end Go.Ev
set_option linter.unusedSimpArgs false
namespace Go.Ev
noncomputable section
variable {X : Cx} {o : Oper} {s : S}
theorem range_ok (hs : SOk X o.dst s) {t : TypeId} {x : Operand} (ho : o.op = .range t x) : OpOk X o (compOp X o s).f := by
 rw [compOp_eq]; unfold compOpS; rw [ho]; dsimp only
 split
 ·rename_i kt et hu
  rcases opd_cases X x _ (badOp "range") with ⟨g, hg, e1⟩ | e1 <;> rw [e1]
  ·intro cl hcl E e h a w he hr k r hk hb
   have h1 := hg E e a he
   unfold rangeV at hk
   dsimp only at hk
   split at hk
   ·rename_i m hm
    rw [hm] at h1
    simp only [Rel] at h1
    obtain ⟨L, hL, hx⟩ := h1
    split at hk
    ·rename_i es clock hbl
     have hbr := hr.rel m L hL
     rw [hbl] at hbr
     obtain ⟨es', q1, q2⟩ := hbr
     obtain ⟨h', hf, hk', hi, hj⟩ := new_spec hk hb
     have hEn : E h.next = none := (hr.dom _).2 hf
     have hR := hr.alloc (w' := { w with heap := w.heap.push (.mapIter (some L.blk) clock #[] clock) }) (o := .mapIter (some L.blk) clock #[] clock) hf hi hj rfl rfl rfl rfl 0 0 trivial (fun _ _ _ _ e => by cases e)
      ⟨rfl, some L.blk, ⟨L, Emb.le_set hEn _ _ hL, rfl⟩, by simp⟩
     refine OpOk.value hs he (x := .pointer (some ⟨w.heap.size, 0, none⟩)) ?_ hR ?_ hk'
     ·simp [execOp, ho, hx, Instr.range, run_underlying hu, Sem.run_bind, getObj, newObj, Sem.run, q1]
     ·simp only [Rel]; exact ⟨_, Emb.set_same _ _ _, rfl⟩
    ·exact bad_of hk hb
   ·exact bad_of hk hb
  ·exact OpOk.badOp _
 ·exact OpOk.badOp _
theorem allBorn_iff {E : Emb} {n : Nat} : ∀ {es : List (V × V × Nat)} {es' : List MapEntry}, EntRel E es es' → allBorn n es = es'.all fun e => decide (n ≤ e.born)
 | [], es', h => by simp only [EntRel] at h; subst h; rfl
 | (k, v, b) :: es, es', h => by
  obtain ⟨x', y', r, h1, h2, h3, rfl⟩ := h
  simp only [allBorn, List.all_cons]
  cases hb : Nat.ble n b with
  | false =>
   have : ¬ n ≤ b := fun e => by rw [Nat.ble_eq_true_of_le e] at hb; cases hb
   simp [this]
  | true => simp [ble_le hb, allBorn_iff h3]
theorem memN_iff : ∀ {l : List Nat} {n : Nat}, memN l n = true ↔ n ∈ l
 | [], n => by simp [memN]
 | a :: l, n => by
  simp only [memN, List.mem_cons]
  cases h : Nat.beq a n with
  | true => simp [of_beq_true h]
  | false => simp only [memN_iff]; exact ⟨.inr, fun e => e.resolve_left (fun e => of_beq_false h e.symm)⟩
theorem left_rel {E : Emb} {seen : List Nat} : ∀ {es : List (V × V × Nat)} {es' : List MapEntry}, EntRel E es es' → EntRel E (leftOf seen es) (es'.filter fun e => !seen.reverse.toArray.contains e.born)
 | [], es', h => by simp only [EntRel] at h; subst h; simp [leftOf, EntRel]
 | (k, v, b) :: es, es', h => by
  obtain ⟨x', y', r, h1, h2, h3, rfl⟩ := h
  have ih := left_rel (seen := seen) h3
  simp only [leftOf]
  cases hm : memN seen b with
  | true =>
   have : b ∈ seen := memN_iff.1 hm
   simpa [this] using ih
  | false =>
   have : b ∉ seen := fun e => by rw [memN_iff.2 e] at hm; cases hm
   rw [List.filter_cons_of_pos (by simpa using this)]
   exact ⟨x', y', _, h1, h2, ih, rfl⟩
theorem gone_ok {E : Emb} {seen : List Nat} {es : List (V × V × Nat)} {es' : Array MapEntry} {last : Nat} (he : EntRel E es es'.toList) (h : allGone seen es last = false) :
  (!seen.reverse.toArray.isEmpty && !es'.isEmpty && es'.all (fun e => decide (e.born ≥ last))) = false := by
 unfold allGone at h
 split at h
 ·simp
 ·split at h
  ·have : es' = #[] := by
    simp only [EntRel] at he
    exact Array.toList_eq_nil_iff.1 he
   subst this; simp
  ·rw [allBorn_iff he] at h
   have : es'.all (fun e => decide (e.born ≥ last)) = false := by
    rw [← Array.all_toList]; exact h
   rw [this, Bool.and_false]
theorem run_next_over {P : Program} {w : World} {r m since last clock : Nat} {seenA : Array Nat} {es' : Array MapEntry} {ty : TypeId} (hobj : w.heap[r]? = some (.mapIter (some m) since seenA last)) (hm : w.heap[m]? = some (.map es' clock))
  (hg : (!seenA.isEmpty && !es'.isEmpty && es'.all (fun e => decide (e.born ≥ last))) = false) (hleft : (es'.filter fun e => !seenA.contains e.born) = #[]) :
  (Instr.next (.pointer (some ⟨r, 0, none⟩)) false ty).run P w = .ok (.tuple #[.bool false]) w := by
 unfold Instr.next
 simp only [Sem.run_bind, getObj, Sem.run, hobj, Result.andThen_ok, hm, hg, Bool.false_eq_true, if_false, hleft]
 simp [choose, Question.forced, Sem.run]
theorem run_next_one {P : Program} {w : World} {r m since last clock : Nat} {seenA : Array Nat} {es' : Array MapEntry} {ty : TypeId} {e : MapEntry} (hobj : w.heap[r]? = some (.mapIter (some m) since seenA last)) (hm : w.heap[m]? = some (.map es' clock))
  (hg : (!seenA.isEmpty && !es'.isEmpty && es'.all (fun e => decide (e.born ≥ last))) = false) (hleft : (es'.filter fun e => !seenA.contains e.born) = #[e]) (ho : e.born < since) :
  (Instr.next (.pointer (some ⟨r, 0, none⟩)) false ty).run P w = .ok (.tuple #[.bool true, e.key, e.val]) { w with heap := w.heap.setIfInBounds r (.mapIter (some m) since (seenA.push e.born) clock) } := by
 unfold Instr.next
 have h2 : ¬ since ≤ e.born := by omega
 simp only [Sem.run_bind, getObj, Sem.run, hobj, Result.andThen_ok, hm, hg, Bool.false_eq_true, if_false, hleft]
 simp [choose, Question.forced, Sem.run, ho, h2, setObj, hobj]
theorem next_ok (hs : SOk X o.dst s) {x : Operand} {st : Bool} (ho : o.op = .next x st) : OpOk X o (compOp X o s).f := by
 rw [compOp_eq]; unfold compOpS; rw [ho]; dsimp only
 rcases opd_cases X x _ (badOp "next") with ⟨g, hg, e1⟩ | e1 <;> rw [e1]
 ·intro cl hcl E e h a w he hr k r hk hb
  have h1 := hg E e a he
  unfold nextV at hk
  dsimp only at hk
  split at hk
  ·rename_i i hi
   rw [hi] at h1
   simp only [Rel] at h1
   obtain ⟨L, hL, hx⟩ := h1
   split at hk
   ·rename_i m since seen last hbl
    have hbr := hr.rel i L hL
    rw [hbl] at hbr
    obtain ⟨hb0, m', ⟨Lm, hLm, rfl⟩, hobj⟩ := hbr
    have hlt := hr.lt i L hL
    rw [hb0] at hx
    split at hk
    ·rename_i es clock hbm
     have hbr2 := hr.rel m Lm hLm
     rw [hbm] at hbr2
     obtain ⟨es', q1, q2⟩ := hbr2
     split at hk
     ·exact bad_of hk hb
     ·rename_i hgone
      have hg' := gone_ok q2 hgone
      have hleft := left_rel (seen := seen) q2
      rw [← Array.toList_filter] at hleft
      generalize hfil : (es'.filter fun e => !seen.reverse.toArray.contains e.born) = left at hleft
      split at hk
      ·rename_i hl
       rw [hl] at hleft
       simp only [EntRel] at hleft
       have hle : left = #[] := Array.toList_eq_nil_iff.1 hleft
       rw [hle] at hfil
       refine OpOk.value hs he (x := .tuple #[.bool false]) ?_ (Run.refl hr) ?_ hk
       ·simp only [execOp, ho, hx, Nat.zero_add, Sem.run_bind, run_next_over hobj q1 hg' hfil, Result.andThen_ok, Sem.run_pure]
       ·simp only [Rel, RelL]; exact ⟨_, ⟨_, _, rfl, rfl, rfl⟩, rfl⟩
      ·rename_i en hl
       obtain ⟨ek, ev, eb⟩ := en
       rw [hl] at hleft
       obtain ⟨x1, y1, r1, hk1, hv1, hr1, hle⟩ := hleft
       simp only [EntRel] at hr1
       subst hr1
       have hle' : left = #[{ key := x1, val := y1, born := eb }] := by rw [← Array.toArray_toList (xs := left), hle]
       rw [hle'] at hfil
       split at hk
       ·exact bad_of hk hb
       ·rename_i hsb
        have hsb' : eb < since := by
         rcases Nat.lt_or_ge eb since with h | h
         ·exact h
         ·rw [Nat.ble_eq_true_of_le h] at hsb; cases hsb
        have hw := hr.writeObj (b' := .mapIter (some m) since (eb :: seen) clock) (o' := .mapIter (some Lm.blk) since (seen.reverse.toArray.push eb) clock) hL (by unfold Wr; rw [hbl]; trivial) (by rw [hbl]; simp) (by simp) (fun h' e => by unfold Wr; rw [e]; trivial) trivial
         (w' := { w with heap := w.heap.setIfInBounds L.blk (.mapIter (some Lm.blk) since (seen.reverse.toArray.push eb) clock) }) rfl ⟨hb0, some Lm.blk, ⟨Lm, hLm, rfl⟩, by simp [hlt]⟩ rfl rfl rfl
        refine OpOk.value hs he (x := .tuple #[.bool true, x1, y1]) ?_ hw ?_ hk
        ·simp only [execOp, ho, hx, Nat.zero_add, Sem.run_bind, run_next_one hobj q1 hg' hfil hsb', Result.andThen_ok, Sem.run_pure]
        ·simp only [Rel, RelL]
         exact ⟨_, ⟨_, _, rfl, ⟨_, _, hk1, ⟨_, _, hv1, rfl, rfl⟩, rfl⟩, rfl⟩, rfl⟩
      ·exact bad_of hk hb
    ·exact bad_of hk hb
   ·exact bad_of hk hb
  ·exact bad_of hk hb
 ·exact OpOk.badOp _
theorem findEntry_ok {E : Emb} {n : Nat} : ∀ {es : List (V × V × Nat)} {es' : List MapEntry} {k v : V}, EntRel E es es' → findEntry es n = some (k, v) → ∃ e, es'.find? (fun e => e.born == n) = some e ∧ Rel E k e.key ∧ Rel E v e.val
 | [], _, k, v, _, h => by cases h
 | (k0, v0, b) :: es, es', k, v, he, h => by
  obtain ⟨x', y', r, h1, h2, h3, rfl⟩ := he
  simp only [findEntry] at h
  cases hb : Nat.beq b n with
  | true =>
   simp only [hb] at h
   cases h
   exact ⟨{ key := x', val := y', born := b }, by simp [of_beq_true hb], h1, h2⟩
  | false =>
   simp only [hb] at h
   obtain ⟨e, g1, g2, g3⟩ := findEntry_ok h3 h
   exact ⟨e, by simp [of_beq_false hb, g1], g2, g3⟩
theorem entry_ok (hs : SOk X o.dst s) {x : Operand} (ho : o.op = .entry x) : OpOk X o (compOp X o s).f := by
 rw [compOp_eq]; unfold compOpS; rw [ho]; dsimp only
 rcases opd_cases X x _ (badOp "entry") with ⟨g, hg, e1⟩ | e1 <;> rw [e1]
 ·intro cl hcl E e h a w he hr k r hk hb
  have h1 := hg E e a he
  unfold entryV at hk
  dsimp only at hk
  split at hk
  ·rename_i i hi
   rw [hi] at h1
   simp only [Rel] at h1
   obtain ⟨L, hL, hx⟩ := h1
   split at hk
   ·rename_i m since sd seen last hbl
    have hbr := hr.rel i L hL
    rw [hbl] at hbr
    obtain ⟨hb0, m', ⟨Lm, hLm, rfl⟩, hobj⟩ := hbr
    rw [hb0] at hx
    split at hk
    ·rename_i es clock hbm
     have hbr2 := hr.rel m Lm hLm
     rw [hbm] at hbr2
     obtain ⟨es', q1, q2⟩ := hbr2
     split at hk
     ·exact bad_of hk hb
     ·rename_i hcl
      have hcl' := of_beq_true hcl
      subst hcl'
      split at hk
      ·rename_i key v hf
       obtain ⟨en, g1, g2, g3⟩ := findEntry_ok q2 hf
       refine OpOk.value hs he (x := .tuple #[en.key, en.val]) ?_ (Run.refl hr) ?_ hk
       ·have g1' : es'.find? (fun e => e.born == sd) = some en := by rw [← Array.find?_toList]; exact g1
        simp [execOp, ho, hx, Instr.entry, Sem.run_bind, getObj, Sem.run, hobj, q1, g1']
       ·simp only [Rel, RelL]
        exact ⟨_, ⟨_, _, g2, ⟨_, _, g3, rfl, rfl⟩, rfl⟩, rfl⟩
      ·exact bad_of hk hb
    ·exact bad_of hk hb
   ·exact bad_of hk hb
  ·exact bad_of hk hb
 ·exact OpOk.badOp _
theorem run_callFunc {P : Program} {f : FuncId} {xs : Array Value} {w : World} (h : ∃ fn, P.funcs[f]? = some fn ∧ fn.body.isSome = true ∧ fn.name ≠ "runtime.NumGoroutine") : (callFunc f xs).run P w = .ok (.enter f xs) w := by
 obtain ⟨fn, h1, h2, h3⟩ := h
 obtain ⟨c, h4⟩ := Option.isSome_iff_exists.1 h2
 simp [callFunc, Sem.run_bind, h1, h3, h4]
def resK (s : S) (e : Env) (k : K) : OpR → Out
 | .val v h => k (s e v) h
 | .pan v h => .pan v e h
 | .bad w => .bad w
theorem callRes_fin {E : Emb} {e : Env} {h : H} {a : Act} {w : World} {k : K} {r : Out} (hs : SOk X o.dst s) (he : ERel X E e a) {f : FuncId} {xs : Array Value} {res : OpR} (hres : CallRes X.P E h w f xs res)
  (hx : (∃ fn, X.P.funcs[f]? = some fn ∧ fn.body.isSome = true ∧ fn.name ≠ "runtime.NumGoroutine") → (execOp a.eval o).run X.P w = .ok (.enter f xs) w)
  (hk : resK s e k res = r) (hb : NotBad r) : OpFin X E e h a w o k r := by
 cases res with
 | bad _ => exact bad_of hk hb
 | val v h' =>
  obtain ⟨hf, hc⟩ := hres
  refine .inl ⟨s e v, h', hk, fun next Q hn => ?_⟩
  unfold Oper.wp
  rw [hx hf, Oper.upon_enter]
  refine hc.mono fun en w' hen => ?_
  obtain ⟨E', x, rfl, hR, hv⟩ := hen
  exact hn E' _ w' hR ((he.mono hR.le).set hs hv) (Keeps.put _ _ _)
 | pan v h' =>
  obtain ⟨hf, hc⟩ := hres
  refine .inr ⟨v, h', hk.symm, fun next Q hn => ?_⟩
  unfold Oper.wp
  rw [hx hf, Oper.upon_enter]
  refine hc.mono fun en w' hen => ?_
  obtain ⟨E', x, rfl, hR, hv⟩ := hen
  exact hn E' x w' hR hv
theorem call_ok (hs : SOk X o.dst s) {c : Go.Call} (ho : o.op = .call c) {x : Operand} (hc : c.callee = .value x) : OpOk X o (compOp X o s).f := by
 rw [compOp_eq]; unfold compOpS; rw [ho]; dsimp only; rw [hc]
 have gen : ∀ g : G, GOk X x g → ∀ gl : G, GsOk X c.args.toList gl → ∀ (cl : Call), CallOk X.P X.gl cl → ∀ E e h a w, ERel X E e a → HRel E h w → ∀ (k : K) (r : Out), NotBad r → ∀ f va cap, g e = .fn f va cap →
   resK s e k (cl f (V.app va (V.app (gl e) cap)) h) = r → OpFin X E e h a w o k r := by
  intro g hg gl hgl cl hcl E e h a w he hr k r hb f va cap hv hk
  have h1 := hg E e a he
  rw [hv] at h1
  simp only [Rel] at h1
  obtain ⟨xs, ys, r1, r2, hx⟩ := h1
  have h2 := hgl E e a he
  have hargs := r1.app (h2.app r2)
  refine callRes_fin hs he (hcl f _ h E w _ hr he.glob hargs) (fun hf => ?_) hk hb
  have e1 : xs.toArray ++ c.args.map a.eval ++ ys.toArray = (xs ++ (c.args.toList.map a.eval ++ ys)).toArray := by
   apply Array.ext'; simp
  simp only [execOp, ho, resolve, hc, hx, Deferred.ofValue, Sem.run_bind, Sem.run_pure, Result.andThen_ok, invoke, e1, run_callFunc hf]
 by_cases hxf : ∃ f, x = .func f
 ·obtain ⟨f, rfl⟩ := hxf
  dsimp only
  rcases opds_cases X c.args.toList _ (badOp "call") with ⟨gl, hgl, e1⟩ | e1 <;> rw [e1]
  ·intro cl hcl E e h a w he hr k r hk hb
   refine gen (fun _ => .fn f .nil .nil) (fun E e a _ => by simp [Rel, RelL, Act.eval]) (fun e => gl e) hgl cl hcl E e h a w he hr k r hb f .nil .nil rfl ?_
   have happ : V.app .nil (V.app (gl e) .nil) = gl e := by
    have h2 := hgl E e a he
    have : ∀ {l : V} {xs : List Value}, RelL E l xs → V.app l .nil = l := by
     intro l
     induction l with
     | cons v l _ ih => intro xs h; simp only [RelL] at h; obtain ⟨_, _, _, h2, _⟩ := h; simp only [V.app]; rw [ih h2]
     | nil => intro xs h; rfl
     | _ => intro xs h; simp [RelL] at h
    rw [this h2]; rfl
   rw [happ]
   dsimp only at hk
   rw [← hk]
   cases cl f (gl e) h <;> rfl
  ·exact OpOk.badOp _
 ·cases x <;> first | exact absurd ⟨_, rfl⟩ hxf | skip
  all_goals
   dsimp only
   rcases opd_cases X _ _ (badOp "call") with ⟨g, hg, e1⟩ | e1 <;> rw [e1]
   ·rcases opds_cases X c.args.toList _ (badOp "call") with ⟨gl, hgl, e1⟩ | e1 <;> rw [e1]
    ·intro cl hcl E e h a w he hr k r hk hb
     cases hv : g e <;> simp only [hv] at hk <;> try exact bad_of hk hb
     rename_i f va cap
     refine gen g hg gl hgl cl hcl E e h a w he hr k r hb f va cap hv ?_
     rw [← hk]
     cases cl f (V.app va (V.app (gl e) cap)) h <;> rfl
    ·exact OpOk.badOp _
   ·exact OpOk.badOp _
theorem panic_ok {x : Operand} (ho : o.op = .panic x) : OpOk X o (compOp X o s).f := by
 rw [compOp_eq]; unfold compOpS; rw [ho]; dsimp only
 rcases opd_cases X x _ (badOp "panic") with ⟨g, hg, e1⟩ | e1 <;> rw [e1]
 ·intro cl hcl E e h a w he hr k r hk hb
  have h1 := hg E e a he
  dsimp only at hk
  split at hk
  ·rename_i t v hv
   have h2 := h1
   rw [hv] at h1 h2
   simp only [Rel] at h1
   obtain ⟨y, hy, hx⟩ := h1
   refine .inr ⟨.ifc t v, h, hk.symm, fun next Q hn => ?_⟩
   unfold Oper.wp
   have : (execOp a.eval o).run X.P w = .halt (.panic (.iface t y)) w := by simp [execOp, ho, hx, Instr.panic, goPanic, Sem.run_bind, Sem.run]
   rw [this, Oper.upon_panic]
   exact hn E _ w (Run.refl hr) (by rw [← hx]; exact h2)
  ·exact bad_of hk hb
 ·exact OpOk.badOp _
end
end Go.Ev
set_option linter.unusedSimpArgs false
namespace Go.Ev
noncomputable section
variable {X : Cx} {o : Oper} {s : S}
theorem defer_ok (hs : SOk X o.dst s) {c : Go.Call} (ho : o.op = .defer c) : OpOk X o (compOp X o s).f := by
 rw [compOp_eq]; unfold compOpS; rw [ho]; dsimp only
 split
 ·rename_i x hc
  rcases opd_cases X x _ (badOp "defer") with ⟨g, hg, e1⟩ | e1 <;> rw [e1]
  ·rcases opds_cases X c.args.toList _ (badOp "defer") with ⟨gl, hgl, e1⟩ | e1 <;> rw [e1]
   ·intro cl hcl E e h a w he hr k r hk hb
    have h1 := hg E e a he
    have h2 := hgl E e a he
    dsimp only at hk
    split at hk
    ·rename_i f va cap hv
     rw [hv] at h1
     simp only [Rel] at h1
     obtain ⟨xs, ys, r1, r2, hx⟩ := h1
     rw [slot_top, put_top] at hk
     refine .inl ⟨_, h, hk, fun next Q hn => ?_⟩
     unfold Oper.wp
     have hrun : (execOp a.eval o).run X.P w = .ok (.defer { target := .fn (.func f) ys.toArray, args := xs.toArray ++ c.args.map a.eval }) w := by
      simp [execOp, ho, resolve, hc, hx, Deferred.ofValue, Sem.run_bind]
     rw [hrun, Oper.upon_defer]
     refine hn E _ w (Run.refl hr) (ERel.set ?_ hs (by simp [Rel, undef])) ⟨Keeps.put_tmps { a with defers := _ :: a.defers } _ _, fun h => absurd ho (h c)⟩
     refine ⟨he.size, fun t ht hkn => ?_, ?_, he.glob⟩
     ·rw [slot_put_ne e (by omega) (by omega) (by omega)]
      exact he.tmps t ht hkn
     ·rw [slot_put_same]
      exact .inl ⟨f, va, cap, gl e, slot e 1023, xs, ys, c.args.toList.map a.eval, rfl, r1, r2, h2, by congr 1; apply Array.ext'; simp, he.dfr⟩
    ·exact bad_of hk hb
   ·exact OpOk.badOp _
  ·exact OpOk.badOp _
 ·exact OpOk.badOp _
theorem compOp_ok (hq : EqsOk X.P X.eqs) (hs : SOk X o.dst s) : OpOk X o (compOp X o s).f := by
 cases ho : o.op
 case move x => exact OpOk.of_read hs (move_rd (.inl ho))
 case assign x => exact OpOk.of_read hs (move_rd (.inr ho))
 case pick c a b => exact OpOk.of_read hs (pick_rd ho)
 case alloc t => exact alloc_ok hs ho
 case box t x => exact box_ok hs ho
 case build t p => exact OpOk.of_read hs (build_rd ho)
 case buildSlice t l p => exact buildSlice_ok hs ho
 case load t a => exact OpOk.of_read hs (load_rd ho)
 case store t a x => exact store_ok hs ho
 case nilCheck x => exact OpOk.of_read hs (nilCheck_rd ho)
 case binOp op t x y yt => exact OpOk.of_read hs (binOp_rd hq ho)
 case unOp op t x => exact OpOk.of_read hs (unOp_rd ho)
 case convert st dt x => exact OpOk.of_read hs (convert_rd ho)
 case makeInterface t x => exact OpOk.of_read hs (makeInterface_rd ho)
 case makeFunc fn fi ca =>
  cases fn with
  | func f => exact OpOk.of_read hs (makeFunc_rd ho)
  | _ => rw [compOp_eq]; unfold compOpS; rw [ho]; exact OpOk.badOp _
 case makeMap t r => exact makeMap_ok hs ho
 case makeSlice t l c => exact makeSlice_ok hs ho
 case slice t x lo hi mx => exact OpOk.of_read hs (slice_rd ho)
 case fieldAddr st x j => exact OpOk.of_read hs (fieldAddr_rd ho)
 case field t x j => exact OpOk.of_read hs (field_rd ho)
 case indexAddr t x i => exact OpOk.of_read hs (indexAddr_rd ho)
 case index t x i => exact OpOk.of_read hs (index_rd ho)
 case lookup t x i ok => exact OpOk.of_read hs (lookup_rd hq ho)
 case mapUpdate t m k x => exact mapUpdate_ok hq hs (.inl ho)
 case insert t m k x => exact mapUpdate_ok hq hs (.inr ho)
 case range t x => exact range_ok hs ho
 case next i st => exact next_ok hs ho
 case entry i => exact entry_ok hs ho
 case typeAssert x t u ok => exact OpOk.of_read hs (typeAssert_rd ho)
 case extract t i => exact OpOk.of_read hs (extract_rd ho)
 case call c =>
  cases hc : c.callee with
  | value x => exact call_ok hs ho hc
  | invoke r n => rw [compOp_eq]; unfold compOpS; rw [ho]; dsimp only; rw [hc]; exact OpOk.badOp _
  | builtin b =>
   rw [compOp_eq]; unfold compOpS; rw [ho]; dsimp only; rw [hc]; dsimp only
   unfold builtinOp
   split
   ·rename_i x t ha ht
    exact OpOk.of_read hs (len_rd ho hc ha ht)
   ·rename_i x y st xt ha ht
    exact append_ok hs ho hc ha ht
   ·rename_i x y ts ha
    exact OpOk.of_read hs (max_rd (ts := c.argTypes.toList) ho hc ha)
   ·rename_i x y ts ha
    exact OpOk.of_read hs (min_rd (ts := c.argTypes.toList) ho hc ha)
   ·exact OpOk.badOp _
 case defer c => exact defer_ok hs ho
 case panic x => exact panic_ok ho
 all_goals (rw [compOp_eq]; unfold compOpS; rw [ho]; exact OpOk.badOp _)
end
end Go.Ev
set_option linter.unusedSimpArgs false
set_option linter.unusedVariables false
namespace Go.Ev
noncomputable section
variable {X : Cx} {o : Oper} {s : S}
def stepOp (P : Program) (ops : Array Oper) (o : Oper) (a : Act) (w : World) (K : Act → World → Prop) (Q : Exit → Act → World → Prop) : Prop :=
 if Region.wanted o (yielded ops a.tmps) then o.wp P a w K Q else K (a.put o.dst undef) w
abbrev StepFin (X : Cx) (ops : Array Oper) (E : Emb) (e : Env) (h : H) (a : Act) (w : World) (o : Oper) (k : K) (r : Out) : Prop :=
  (∃ e' h', k e' h' = r ∧ ∀ next Q, (∀ E' a' w', Run E h w E' h' w' → ERel X E' e' a' → Keeps o a a' → next a' w') → stepOp X.P ops o a w next Q) ∨
  (∃ v h', r = .pan v e h' ∧ ∀ next Q, (∀ E' x w', Run E h w E' h' w' → Rel E' v x → Q (.panic [{ v := x, recovered := false }]) a w') → stepOp X.P ops o a w next Q)
theorem OpFin.wanted {ops : Array Oper} {E : Emb} {e : Env} {h : H} {a : Act} {w : World} {k : K} {r : Out} (hw : Region.wanted o (yielded ops a.tmps) = true) (hf : OpFin X E e h a w o k r) : StepFin X ops E e h a w o k r := by
 rcases hf with ⟨e', h', hk, hn⟩ | ⟨v, h', hk, hn⟩
 ·exact .inl ⟨e', h', hk, fun next Q hh => by unfold stepOp; rw [if_pos hw]; exact hn next Q hh⟩
 ·exact .inr ⟨v, h', hk, fun next Q hh => by unfold stepOp; rw [if_pos hw]; exact hn next Q hh⟩
theorem StepFin.unwanted {ops : Array Oper} (hs : SOk X o.dst s) {E : Emb} {e : Env} {h : H} {a : Act} {w : World} {k : K} {r : Out} (he : ERel X E e a) (hr : HRel E h w) (hw : Region.wanted o (yielded ops a.tmps) = false) (hk : k (s e .undef) h = r) : StepFin X ops E e h a w o k r :=
 .inl ⟨_, h, hk, fun next Q hn => by
  unfold stepOp
  rw [if_neg (by rw [hw]; simp)]
  exact hn E _ w (Run.refl hr) (he.set hs (by simp [Rel, undef])) (Keeps.put _ _ _)⟩
theorem compOper_ok (hq : EqsOk X.P X.eqs) (ops : Array Oper) (o : Oper) (cl : Call) (hcl : CallOk X.P X.gl cl) {E : Emb} {e : Env} {h : H} {a : Act} {w : World} (he : ERel X E e a) (hr : HRel E h w) {k : K} {r : Out}
  (hk : (compOper X ops o).f cl e h k = r) (hb : NotBad r) : StepFin X ops E e h a w o k r := by
 unfold compOper at hk
 rcases dst_cases X o.dst _ (badOp "slot") with ⟨s, hs, e1⟩ | e1 <;> rw [e1] at hk
 ·have hop := compOp_ok (o := o) hq hs
  have run : ∀ k r, (compOp X o s).f cl e h k = r → NotBad r → OpFin X E e h a w o k r := fun k r hk hb => hop cl hcl E e h a w he hr k r hk hb
  cases hm : compOp X o s with | mk m => 
  rw [hm] at hk run
  dsimp only at hk run
  cases hg : o.guard with
  | none =>
   rw [hg] at hk
   exact (run k r hk hb).wanted (by simp [Region.wanted, hg])
  | some jw =>
   obtain ⟨j, want⟩ := jw
   rw [hg] at hk
   dsimp only at hk
   cases hd : (ops[j]?).bind (·.dst) with
   | none => rw [hd] at hk; exact bad_of hk hb
   | some t =>
    rw [hd] at hk
    dsimp only at hk
    rcases opd_cases X (.tmp t) _ (badOp "guard") with ⟨g, hgk, e2⟩ | e2 <;> rw [e2] at hk
    ·have h1 := hgk E e a he
     have hy : yielded ops a.tmps j = (match a.eval (.tmp t) with | .bool b => some b | _ => none) := by
      unfold yielded
      rw [hd]
      simp only [Option.bind_some, Act.eval, Array.getD_eq_getD_getElem?]
      cases hq : a.tmps[t]? with
      | none => simp [undef]
      | some v => simp only [Option.getD_some]; cases v <;> rfl
     cases want
     ·dsimp only at hk
      cases hv : g e <;> simp only [hv] at hk h1 <;> try exact bad_of hk hb
      ·simp only [Rel] at h1
       exact StepFin.unwanted hs he hr (by simp [Region.wanted, hg, hy, h1]) hk
      ·rename_i b
       simp only [Rel] at h1
       cases b
       ·exact (run k r hk hb).wanted (by simp [Region.wanted, hg, hy, h1])
       ·exact StepFin.unwanted hs he hr (by simp [Region.wanted, hg, hy, h1]) hk
     ·dsimp only at hk
      cases hv : g e <;> simp only [hv] at hk h1 <;> try exact bad_of hk hb
      ·simp only [Rel] at h1
       exact StepFin.unwanted hs he hr (by simp [Region.wanted, hg, hy, h1]) hk
      ·rename_i b
       simp only [Rel] at h1
       cases b
       ·exact StepFin.unwanted hs he hr (by simp [Region.wanted, hg, hy, h1]) hk
       ·exact (run k r hk hb).wanted (by simp [Region.wanted, hg, hy, h1])
    ·exact bad_of hk hb
 ·exact bad_of hk hb
def OutPost (X : Cx) (E0 : Emb) (h0 : H) (w0 : World) (r : Out) : Exit → Act → World → Prop
 | .normal, a, w => ∃ e h E, r = .nrm e h ∧ Run E0 h0 w0 E h w ∧ ERel X E e a
 | .exit id, a, w => ∃ e h E, r = .ext id e h ∧ Run E0 h0 w0 E h w ∧ ERel X E e a
 | .ret, a, w => ∃ e h E, r = .ret e h ∧ Run E0 h0 w0 E h w ∧ ERel X E e a
 | .panic chain, a, w => ∃ v x e h E, r = .pan v e h ∧ chain = [{ v := x, recovered := false }] ∧ Run E0 h0 w0 E h w ∧ ERel X E e a ∧ Rel E v x
 | _, _, _ => False
def NextPost (X : Cx) (cl : Call) (E0 : Emb) (h0 : H) (w0 : World) (nx : M) (r : Out) : Exit → Act → World → Prop
 | .normal, a, w => ∃ e h E, nx cl e h = r ∧ Run E0 h0 w0 E h w ∧ ERel X E e a
 | ex, a, w => OutPost X E0 h0 w0 r ex a w
theorem compOpers_ok (hq : EqsOk X.P X.eqs) (ops : Array Oper) (nx : M) (cl : Call) (hcl : CallOk X.P X.gl cl) {E0 : Emb} {h0 : H} {w0 : World} : ∀ (l : List Oper) {E : Emb} {e : Env} {h : H} {a : Act} {w : World}, Run E0 h0 w0 E h w → ERel X E e a → ∀ {r : Out},
  (compOpers X ops l nx).f cl e h = r → NotBad r → wpList X.P ops (NextPost X cl E0 h0 w0 nx r) l a w
 | [], E, e, h, a, w, hR, he, r, hk, hb => wpList_nil ⟨e, h, E, hk, hR, he⟩
 | o :: l, E, e, h, a, w, hR, he, r, hk, hb => by
  refine wpList_step fun K hK => ?_
  have hk' : (compOper X ops o).f cl e h (fun e h => (compOpers X ops l nx).f cl e h) = r := by
   rw [← hk, compOpers_cons]
  rcases compOper_ok hq ops o cl hcl he hR.rel hk' hb with ⟨e', h', hn, hfin⟩ | ⟨v, h', hpan, hfin⟩
  ·exact hfin K _ fun E' a' w' hR' he' _ => hK a' w' (compOpers_ok hq ops nx cl hcl l (hR.trans hR') he' hn hb)
  ·exact hfin K _ fun E' x w' hR' hv => ⟨v, x, e, h', E', hpan, rfl, hR.trans hR', he.mono hR'.le, hv⟩
def FOkR (F : Fence) (c : Code) : Prop := F = Fence.wide ∨ ∃ l, F = Fence.wide.inRound l ∧ calm c = true
theorem FOkR.of {F : Fence} {c d : Code} (h : FOkR F c) (hc : calm c = true → calm d = true) : FOkR F d := h.imp id fun ⟨l, h1, h2⟩ => ⟨l, h1, hc h2⟩
theorem FOkR.fn {F : Fence} {c : Code} (h : FOkR F c) (f : Nat) : F.fn f := by rcases h with rfl | ⟨l, rfl, _⟩ <;> trivial
theorem Calls.wideIn {F : Fence} {c : Code} (hF : FOkR F c) {n : Nat} {P : Program} {f : FuncId} {args : Array Value} {w : World} {R : Ending → World → Prop} (h : Calls P f args w R) : CallsIn F n P f args w R := by
 have := (callsIn_wide (n := n)).2 h
 rcases hF with rfl | ⟨l, rfl, _⟩
 ·exact this
 ·exact this
theorem Rows.wideIn {F : Fence} {c : Code} (hF : FOkR F c) {n : Nat} {P : Program} {row : String} {args : Array Value} {w : World} {R : Value → World → Prop} (h : Rows P row args w R) : RowsIn F n P row args w R := by
 have : RowsIn Fence.wide n P row args w R := by
  intro fr cs
  obtain ⟨v, w'', hR, hs⟩ := h fr cs
  intros
  exact ⟨v, w'', hR, stepsIn_wide.2 hs⟩
 rcases hF with rfl | ⟨l, rfl, _⟩
 ·exact this
 ·exact this
theorem FOkR.depth {F : Fence} {c : Code} (hF : FOkR F c) {p : Prop} : F.depth.isSome = true → p := by
 rcases hF with rfl | ⟨l, rfl, _⟩ <;> (intro h; cases h)
theorem FOkR.sem {F : Fence} {id : Nat} {ops : Array Oper} {b : Bool} (hF : FOkR F (.region id ops b)) {o : Oper} (ho : o ∈ ops) (ρ : Operand → Value) : o.semAt F.round ρ = execOp ρ o := by
 rcases hF with rfl | ⟨l, rfl, hc⟩
 ·rfl
 ·refine Oper.semAt_eq _ _ _ fun c h => ?_
  have := List.all_eq_true.1 hc o (by simpa using ho)
  rw [h] at this
  cases this
theorem wp_in {F : Fence} {id : Nat} {ops : Array Oper} {b : Bool} (hF : FOkR F (.region id ops b)) {n : Nat} {P : Program} {o : Oper} (ho : o ∈ ops) {a : Act} {w : World} {next : Act → World → Prop} {Q : Exit → Act → World → Prop}
  (h : o.wp P a w next Q) : o.wpIn F n P a w next Q := by
 refine ⟨fun f _ => hF.fn f, ?_⟩
 rw [hF.sem ho]
 unfold Oper.wp at h
 generalize (execOp a.eval o).run P w = r at h
 cases r with
 | ok nx w' =>
  cases nx <;> simp only [Oper.upon, Oper.uponIn] at h ⊢ <;> first
   | exact h
   | exact ⟨hF.depth, Calls.wideIn hF h⟩
   | exact ⟨hF.depth, Rows.wideIn hF h⟩
 | halt x w' => cases x <;> simp only [Oper.upon, Oper.uponIn] at h ⊢ <;> exact h
theorem wpOps_in {F : Fence} {id : Nat} {ops : Array Oper} {b : Bool} (hF : FOkR F (.region id ops b)) {n : Nat} {P : Program} {Q : Exit → Act → World → Prop} (hQ : ¬ LetsOut Q) : ∀ (l : List Nat) (a : Act) (w : World), wpOps P ops Q l a w → wpOpsIn F n P ops Q l a w
 | [], a, w, h => h
 | i :: rest, a, w, h => by
  simp only [wpOps] at h
  simp only [wpOpsIn]
  cases ho : ops[i]? with
  | none => rw [ho] at h; exact wpOps_in hF hQ rest a w h
  | some o =>
   rw [ho] at h
   dsimp only at h ⊢
   split
   ·rename_i hw
    rw [if_pos hw] at h
    rcases h with h | ⟨_, h⟩
    ·refine wp_in hF (Array.mem_of_getElem? ho) (Oper.wp_mono (fun a' w' h' => wpOps_in hF hQ rest a' w' h') h)
    ·exact absurd h hQ
   ·rename_i hw
    rw [if_neg hw] at h
    exact ⟨fun f _ => hF.fn f, wpOps_in hF hQ rest _ _ h⟩
theorem NextPost.letsOut {X : Cx} {cl : Call} {E0 : Emb} {h0 : H} {w0 : World} {nx : M} {r : Out} : ¬ LetsOut (NextPost X cl E0 h0 w0 nx r) := fun ⟨_, _, h⟩ => h
def CodeOk (X : Cx) (c : Code) : Prop := okCode X.P X.tab c = true → ∀ (F : Fence), FOkR F c → ∀ (nx : M) (cl : Call), CallOk X.P X.gl cl → ∀ (E0 : Emb) (h0 : H) (w0 : World) (E : Emb) (e : Env) (h : H) (a : Act) (w : World), Run E0 h0 w0 E h w → ERel X E e a → ∀ r,
  (comp X c nx).f cl e h = r → NotBad r → c.wpIn F 0 X.P (NextPost X cl E0 h0 w0 nx r) a w
theorem region_plain (hq : EqsOk X.P X.eqs) (id : Nat) (ops : Array Oper) : CodeOk X (.region id ops false) := by
 intro hok F hF nx cl hcl E0 h0 w0 E e h a w hR he r hk hb
 refine wpIn_region (wpOps_in hF NextPost.letsOut _ _ _ ?_)
 have := compOpers_ok hq ops nx cl hcl ops.toList hR he hk hb
 rw [List.range_eq_range', ← Array.length_toList, wpOps_eq_wpList ops.toList 0 (by simp)]
 exact this
theorem skip_ok : CodeOk X .skip := fun hok F hF nx cl hcl E0 h0 w0 E e h a w hR he r hk hb => wpIn_skip ⟨e, h, E, hk, hR, he⟩
theorem exit_ok (id : Nat) : CodeOk X (.exit id) := fun hok F hF nx cl hcl E0 h0 w0 E e h a w hR he r hk hb => wpIn_exit ⟨e, h, E, hk.symm, hR, he⟩
theorem ret_ok : CodeOk X .ret := fun hok F hF nx cl hcl E0 h0 w0 E e h a w hR he r hk hb => wpIn_ret ⟨e, h, E, hk.symm, hR, he⟩
theorem seq_ok {x y : Code} (hx : CodeOk X x) (hy : CodeOk X y) : CodeOk X (.seq x y) := by
 intro hok F hF nx cl hcl E0 h0 w0 E e h a w hR he r hk hb
 have hk' : (comp X x (comp X y nx).f).f cl e h = r := by
  rw [← hk, comp_seq]
 refine wpIn_seq (wpIn_mono (hx (Bool.and_eq_true_iff.1 hok).1 F (hF.of fun h => (Bool.and_eq_true_iff.1 h).1) _ cl hcl E0 h0 w0 E e h a w hR he r hk' hb) fun ex a' w' hp => ?_)
 cases ex with
 | normal =>
  obtain ⟨e', h', E', hn, hR', he'⟩ := hp
  exact hy (Bool.and_eq_true_iff.1 hok).2 F (hF.of fun h => (Bool.and_eq_true_iff.1 h).2) nx cl hcl E0 h0 w0 E' e' h' a' w' hR' he' r hn hb
 | _ => exact hp
theorem cond_ok {c : Operand} {x y : Code} (hx : CodeOk X x) (hy : CodeOk X y) : CodeOk X (.cond c x y) := by
 intro hok F hF nx cl hcl E0 h0 w0 E e h a w hR he r hk hb
 rw [comp_cond] at hk
 unfold compCond at hk
 rcases opd_cases X c _ (badM "cond") with ⟨g, hg, e1⟩ | e1 <;> rw [e1] at hk
 ·have h1 := hg E e a he
  dsimp only at hk
  cases hv : g e <;> simp only [hv] at hk h1 <;> try exact bad_of hk hb
  rename_i t
  simp only [Rel] at h1
  cases t
  ·exact wpIn_cond_false h1 (hy (Bool.and_eq_true_iff.1 hok).2 F (hF.of fun h => (Bool.and_eq_true_iff.1 h).2) nx cl hcl E0 h0 w0 E e h a w hR he r hk hb)
  ·exact wpIn_cond_true h1 (hx (Bool.and_eq_true_iff.1 hok).1 F (hF.of fun h => (Bool.and_eq_true_iff.1 h).1) nx cl hcl E0 h0 w0 E e h a w hR he r hk hb)
 ·exact bad_of hk hb
theorem block_ok {id : Nat} {x : Code} (hx : CodeOk X x) : CodeOk X (.block id x) := by
 intro hok F hF nx cl hcl E0 h0 w0 E e h a w hR he r hk hb
 rw [comp_block] at hk
 unfold compBlock at hk
 cases hcx : comp X x nrmM with | mk mx => 
 rw [hcx] at hk
 dsimp only at hk
 have hnb : NotBad (mx cl e h) := fun s hs => by rw [hs] at hk; exact hb _ hk.symm
 have := hx hok F (hF.of fun h => h) nrmM cl hcl E0 h0 w0 E e h a w hR he (mx cl e h) (by rw [hcx]) hnb
 refine wpIn_block (wpIn_mono this fun ex a' w' hp => ?_)
 cases ex with
 | normal =>
  obtain ⟨e', h', E', hn, hR', he'⟩ := hp
  rw [← hn] at hk
  exact ⟨e', h', E', hk, hR', he'⟩
 | exit j =>
  obtain ⟨e', h', E', hn, hR', he'⟩ := hp
  rw [hn] at hk
  dsimp only at hk
  show if j = id then _ else _
  by_cases hj : j = id
  ·rw [if_pos hj]
   rw [beq_true hj] at hk
   exact ⟨e', h', E', hk, hR', he'⟩
  ·rw [if_neg hj]
   rw [beq_false hj] at hk
   exact ⟨e', h', E', hk.symm, hR', he'⟩
 | goto l => exact hp
 | ret =>
  obtain ⟨e', h', E', hn, hR', he'⟩ := hp
  rw [hn] at hk
  exact ⟨e', h', E', hk.symm, hR', he'⟩
 | panic ch =>
  obtain ⟨v, x', e', h', E', hn, hch, hR', he', hv⟩ := hp
  rw [hn] at hk
  exact ⟨v, x', e', h', E', hk.symm, hch, hR', he', hv⟩
 | outgrown => exact hp
theorem exists_least {p : Nat → Prop} (h : ∃ n, p n) : ∃ n, p n ∧ ∀ m, p m → n ≤ m := by
 obtain ⟨n, hn⟩ := h
 induction n using Nat.strongRecOn with
 | _ n ih =>
  by_cases hm : ∃ m, m < n ∧ p m
  ·obtain ⟨m, hmn, hpm⟩ := hm
   exact ih m hmn hpm
  ·refine ⟨n, hn, fun m hpm => ?_⟩
   rcases Nat.lt_or_ge m n with h | h
   ·exact absurd ⟨m, h, hpm⟩ hm
   ·exact h
open Classical in
def least (p : Nat → Prop) : Nat := if h : ∃ n, p n then Classical.choose (exists_least h) else 0
theorem least_spec {p : Nat → Prop} (h : ∃ n, p n) : p (least p) ∧ ∀ m, p m → least p ≤ m := by
 unfold least
 rw [dif_pos h]
 exact Classical.choose_spec (exists_least h)
theorem loop_ok {x : Code} (hx : CodeOk X x) : CodeOk X (.loop x) := by
 intro hok F hF nx cl hcl E0 h0 w0 E e h a w hR he r hk hb
 rw [comp_loop] at hk
 unfold compLoop at hk
 cases hcx : comp X x nrmM with | mk mx => 
 rw [hcx] at hk
 dsimp only at hk
 let p : Act → World → Nat → Prop := fun a w n => ∃ e h E, loopN mx cl n e h = r ∧ Run E0 h0 w0 E h w ∧ ERel X E e a
 refine wpIn_loop (fun a w => ∃ n, p a w n) (fun a w => least (p a w)) ⟨100000, e, h, E, hk, hR, he⟩ fun a w hI => ?_
 obtain ⟨⟨e1, h1, E1, hl, hR1, he1⟩, hmin⟩ := least_spec hI
 cases hn : least (p a w) with
 | zero => rw [hn] at hl; exact bad_of hl hb
 | succ n =>
  rw [hn] at hl
  have hl' : (match mx cl e1 h1 with | .nrm e h => loopN mx cl n e h | .ext i e h => .ext i e h | .ret e h => .ret e h | .pan v e h => .pan v e h | .bad w => .bad w : Out) = r := by
   rw [← hl]
   show _ = @Out.rec (fun _ => Out) (fun e h => loopN mx cl n e h) (fun i e h => .ext i e h) (fun e h => .ret e h) (fun v e h => .pan v e h) (fun w => .bad w) (mx cl e1 h1)
   cases mx cl e1 h1 <;> rfl
  have hnb : NotBad (mx cl e1 h1) := fun s hs => by rw [hs] at hl'; exact hb _ hl'.symm
  refine wpIn_mono (hx hok F (hF.of fun h => h) nrmM cl hcl E0 h0 w0 E1 e1 h1 a w hR1 he1 _ (by rw [hcx]) hnb) fun ex a' w' hp => ?_
  cases ex with
  | normal =>
   obtain ⟨e', h', E', hn', hR', he'⟩ := hp
   rw [← hn'] at hl'
   have hp' : p a' w' n := ⟨e', h', E', hl', hR', he'⟩
   exact ⟨⟨n, hp'⟩, Nat.lt_succ_of_le ((least_spec ⟨n, hp'⟩).2 n hp')⟩
  | exit j =>
   obtain ⟨e', h', E', hn', hR', he'⟩ := hp
   rw [hn'] at hl'
   exact ⟨e', h', E', hl'.symm, hR', he'⟩
  | goto l => exact hp
  | ret =>
   obtain ⟨e', h', E', hn', hR', he'⟩ := hp
   rw [hn'] at hl'
   exact ⟨e', h', E', hl'.symm, hR', he'⟩
  | panic ch =>
   obtain ⟨v, x', e', h', E', hn', hch, hR', he', hv⟩ := hp
   rw [hn'] at hl'
   exact ⟨v, x', e', h', E', hl'.symm, hch, hR', he', hv⟩
  | outgrown => exact hp
end
end Go.Ev
set_option linter.unusedSimpArgs false
set_option linter.unusedVariables false
namespace Go.Ev
noncomputable section
variable {E : Emb} {h : H} {w : World}
theorem Run.adopt {E0 : Emb} {h0 : H} {w0 : World} (hR : Run E0 h0 w0 E h w) {i : Id} (hf : h.blk i = .free) {b : Blk} {h' : H} (hi : h'.blk i = b) (hj : ∀ j, j ≠ i → h'.blk j = h.blk j)
  {bk : Nat} (hlo : w0.heap.size ≤ bk) (hlt : bk < w.heap.size) (hun : ∀ j L, E j = some L → L.blk ≠ bk)
  (sz rows : Nat) (hsol : Solid b) (hanc : ∀ c n x a, b = .live c n x a → a = [])
  (hrel' : BlkRel (E.set i ⟨bk, 0, sz, rows⟩) w ⟨bk, 0, sz, rows⟩ b) :
  Run E0 h0 w0 (E.set i ⟨bk, 0, sz, rows⟩) h' w := by
 have hr := hR.rel
 have hEi : E i = none := (hr.dom i).2 hf
 have hle : E.le (E.set i ⟨bk, 0, sz, rows⟩) := Emb.le_set hEi
 have hold : ∀ j L, (E.set i ⟨bk, 0, sz, rows⟩) j = some L → (j = i ∧ L = ⟨bk, 0, sz, rows⟩) ∨ (j ≠ i ∧ E j = some L) := by
  intro j L e
  by_cases h1 : j = i
  ·subst h1; rw [Emb.set_same] at e; cases e; exact .inl ⟨rfl, rfl⟩
  ·rw [Emb.set_ne E h1] at e; exact .inr ⟨h1, e⟩
 have hwr : ∀ j, j ≠ i → (Wr h' j ↔ Wr h j) := fun j hne => by unfold Wr; rw [hj j hne]
 have hlinked : ∀ p q, Linked h' p q → q ≠ i ∧ Linked h p q := by
  rintro p q ⟨cq, nq, xq, aq, hq, hm⟩
  by_cases h1 : q = i
  ·subst h1; rw [hi] at hq; rw [hanc _ _ _ _ hq] at hm; cases hm
  ·rw [hj q h1] at hq; exact ⟨h1, cq, nq, xq, aq, hq, hm⟩
 exact {
  le := fun j L e => hle j L (hR.le j L e)
  rel := {
   dom := fun j => by
    by_cases h1 : j = i
    ·subst h1; rw [Emb.set_same, hi]; exact ⟨fun e => (by cases e), fun e => absurd e hsol.not_free⟩
    ·rw [Emb.set_ne E h1, hj j h1]; exact hr.dom j
   lt := fun j L e => by
    rcases hold j L e with ⟨_, rfl⟩ | ⟨_, e'⟩
    ·exact hlt
    ·exact hr.lt j L e'
   rel := fun j L e => by
    rcases hold j L e with ⟨rfl, rfl⟩ | ⟨h1, e'⟩
    ·rw [hi]; exact hrel'
    ·rw [hj j h1]; exact (hr.rel j L e').mono hle
   inj := fun p q Lp Lq ep eq hne hbl hsp hsq hwp => by
    rcases hold p Lp ep with ⟨rfl, rfl⟩ | ⟨h1, e1⟩
    ·rcases hold q Lq eq with ⟨rfl, _⟩ | ⟨_, e2⟩
     ·exact absurd rfl hne
     ·exact absurd hbl.symm (hun q Lq e2)
    ·rcases hold q Lq eq with ⟨rfl, rfl⟩ | ⟨h2, e2⟩
     ·exact absurd hbl (hun p Lp e1)
     ·rw [hj p h1] at hsp; rw [hj q h2] at hsq
      have conv : ∀ r s, s ≠ i → Linked h r s → Linked h' r s := by
       rintro r s hs ⟨cq, nq, xq, aq, hq, hm⟩
       exact ⟨cq, nq, xq, aq, by rw [hj s hs]; exact hq, hm⟩
      rcases hr.inj p q Lp Lq e1 e2 hne hbl hsp hsq ((hwr p h1).1 hwp) with hl | hl
      ·exact .inl (conv p q h2 hl)
      ·exact .inr (conv q p h1 hl)
   ancs := fun p q hl => by
    obtain ⟨hq, hl'⟩ := hlinked p q hl
    obtain ⟨h1, h2⟩ := hr.ancs p q hl'
    have hpi : p ≠ i := fun e => by subst e; exact h1 hEi
    exact ⟨by rw [Emb.set_ne E hpi]; exact h1, h2⟩
   ext := fun p q hl hwp => by
    obtain ⟨hq, hl'⟩ := hlinked p q hl
    have hpi : p ≠ i := fun e => by subst e; exact (hr.ancs p q hl').1 hEi
    exact hr.ext p q hl' ((hwr p hpi).1 hwp)
   ends := fun p q Lp Lq cp np xp ap cq nq xq aq ep eq hp hq hm hbl => by
    rcases hold p Lp ep with ⟨rfl, rfl⟩ | ⟨h1, e1⟩
    ·rcases hold q Lq eq with ⟨rfl, rfl⟩ | ⟨_, e2⟩
     ·rw [hi] at hq; rw [hanc _ _ _ _ hq] at hm; cases hm
     ·exact absurd hbl.symm (hun q Lq e2)
    ·rcases hold q Lq eq with ⟨rfl, rfl⟩ | ⟨h2, e2⟩
     ·exact absurd hbl (hun p Lp e1)
     ·rw [hj p h1] at hp; rw [hj q h2] at hq
      exact hr.ends p q Lp Lq cp np xp ap cq nq xq aq e1 e2 hp hq hm hbl }
  size := hR.size
  frame := hR.frame
  wrs := fun j L e hwj hl => by
   rcases hold j L e with ⟨rfl, rfl⟩ | ⟨h1, e'⟩
   ·exact absurd hlo (Nat.not_le.2 hl)
   ·exact hR.wrs j L e' ((hwr j h1).1 hwj) hl
  old := fun j L e hl => by
   rcases hold j L e with ⟨rfl, rfl⟩ | ⟨h1, e'⟩
   ·exact absurd hlo (Nat.not_le.2 hl)
   ·exact hR.old j L e' hl
  os := hR.os
  out := hR.out
  tape := hR.tape }
end
end Go.Ev
set_option linter.unusedSimpArgs false
set_option linter.unusedVariables false
namespace Go.Ev
noncomputable section
variable {X : Cx} {o : Oper} {s : S}
structure AllocSpec (X : Cx) (o : Oper) (e : Env) (b : Blk) (v : Id → V) : Prop where
 sol : Solid b
 anc : ∀ c n x a, b = .live c n x a → a = []
 run : ∀ E a w, ERel X E e a → ∃ x obj, (execOp a.eval o).run X.P w = .ok (.value x) { w with heap := w.heap.push obj } ∧
  ∀ E' i, E.le E' → E' i = some ⟨w.heap.size, 0, 0, 0⟩ → Rel E' (v i) x ∧ ∀ (w' : World), w'.heap[w.heap.size]? = some obj → BlkRel E' w' ⟨w.heap.size, 0, 0, 0⟩ b
def AllocOk (X : Cx) (o : Oper) (s : S) (m : OpM) : Prop :=
 ∀ (c : Call) e h (k : K) r, m c e h k = r → NotBad r → ∃ b v, AllocSpec X o e b v ∧ (H.new h b fun i h => k (s e (v i)) h) = r
theorem AllocOk.badOp {X : Cx} {o : Oper} {s : S} (t : String) : AllocOk X o s (Go.Ev.badOp t).f := fun _ _ _ _ _ hr hb => (hr ▸ hb).bad
theorem blkRel_made {E : Emb} {w w' : World} {l : V} {xs : List Value} {c : Cells} {n : Nat} (hsc : V.scalars l) (hl : RelL E l xs) (hp : emptyCells.push l 0 = some (c, n))
  {el : TypeId} {C : Array Value} (hC : C.toList = xs) (hw : w'.heap[w.heap.size]? = some (.cells C el (0, 0))) :
  BlkRel E w' ⟨w.heap.size, 0, 0, 0⟩ (.live c n false []) := by
 have := blkRel_new (w := w) (w' := { w with heap := w.heap.push (.cells xs.toArray el (0, 0)) }) hsc hl hp (el := el) (rest := #[]) 0 0 (by simp) (by simp) (x := false) (a := [])
 refine this.world ?_
 rw [hw]
 subst hC
 simp
theorem live_anc {c c' : Cells} {n n' : Nat} {x : Bool} {a : List Id} (h : Blk.live c n false [] = .live c' n' x a) : a = [] := by cases h; rfl
theorem alloc_al {t : TypeId} (ho : o.op = .alloc t) : AllocOk X o s (compOp X o s).f := by
 rw [compOp_eq]; unfold compOpS; rw [ho]; dsimp only
 cases hz : zeroCellsV X.P t with
 | none => exact AllocOk.badOp _
 | some z =>
  simp only [Option.bind_some]
  cases hc : blkOfList z with
  | none => exact AllocOk.badOp _
  | some cn =>
   obtain ⟨c, n⟩ := cn
   intro cl e h k r hk hb
   refine ⟨_, fun i => .ptr i 0, ⟨(by exact trivial), fun _ _ _ _ e => live_anc e, fun E a w he => ?_⟩, hk⟩
   obtain ⟨i, zv, hi, hzv, hsc⟩ := zeroCells_ok hz
   refine ⟨.pointer (some ⟨w.heap.size, 0, none⟩), .cells zv.cells t (0, 0), ?_, fun E' j hE hj => ⟨?_, fun w' hw' => ?_⟩⟩
   ·simp [execOp, ho, Instr.alloc, run_zeroValue hi hzv, newVar, newRow, newObj, Sem.run_bind, Sem.run]
   ·simp only [Rel]; exact ⟨_, hj, rfl⟩
   ·obtain ⟨h1, h2⟩ := scalarsOf_ok hsc E'
    exact blkRel_made h1 h2 hc rfl hw'
theorem box_al {t : TypeId} {x : Operand} (ho : o.op = .box t x) : AllocOk X o s (compOp X o s).f := by
 rw [compOp_eq]; unfold compOpS; rw [ho]; dsimp only
 rcases opd_cases X x _ (badOp "box") with ⟨g, hg, e1⟩ | e1 <;> rw [e1]
 ·intro cl e h k r hk hb
  dsimp only at hk
  split at hk
  ·rename_i l hl
   obtain ⟨c, n, hp, hk⟩ := newCells_ok hk hb
   refine ⟨_, fun i => .ptr i 0, ⟨(by exact trivial), fun _ _ _ _ e => live_anc e, fun E a w he => ?_⟩, hk⟩
   have h1 := hg E e a he
   rw [hl] at h1
   obtain ⟨hsc, xs, hrel, hx⟩ := Rel.cells_agg h1
   refine ⟨.pointer (some ⟨w.heap.size, 0, none⟩), .cells xs.toArray t (0, 0), ?_, fun E' j hE hj => ⟨?_, fun w' hw' => ?_⟩⟩
   ·simp [execOp, ho, hx, Instr.box, newVar, newRow, newObj, Sem.run_bind, Sem.run, Value.cells]
   ·simp only [Rel]; exact ⟨_, hj, rfl⟩
   ·exact blkRel_made hsc (hrel.mono hE) hp (by simp) hw'
  ·rename_i v hv
   cases hsc : (g e).isScalar <;> simp only [hsc] at hk
   ·exact bad_of hk hb
   ·obtain ⟨c, n, hp, hk⟩ := newCells_ok hk hb
    refine ⟨_, fun i => .ptr i 0, ⟨(by exact trivial), fun _ _ _ _ e => live_anc e, fun E a w he => ?_⟩, hk⟩
    have h1 := hg E e a he
    refine ⟨.pointer (some ⟨w.heap.size, 0, none⟩), .cells #[a.eval x] t (0, 0), ?_, fun E' j hE hj => ⟨?_, fun w' hw' => ?_⟩⟩
    ·simp [execOp, ho, Instr.box, newVar, newRow, newObj, Sem.run_bind, Sem.run, Rel.cells_one hsc h1]
    ·simp only [Rel]; exact ⟨_, hj, rfl⟩
    ·exact blkRel_made (l := .cons (g e) .nil) (xs := [a.eval x]) ⟨hsc, trivial⟩ (by simp only [RelL]; exact ⟨_, _, h1.mono hE, rfl, rfl⟩) hp rfl hw'
 ·exact AllocOk.badOp _
theorem makeMap_al {t : TypeId} {x : Option Operand} (ho : o.op = .makeMap t x) : AllocOk X o s (compOp X o s).f := by
 rw [compOp_eq]; unfold compOpS; rw [ho]; dsimp only
 cases x with
 | some y => exact AllocOk.badOp _
 | none =>
  intro cl e h k r hk hb
  refine ⟨_, fun i => .map i, ⟨(by exact trivial), (fun _ _ _ _ e => by cases e), fun E a w he => ?_⟩, hk⟩
  refine ⟨.map (some w.heap.size), .map #[] 0, ?_, fun E' j hE hj => ⟨?_, fun w' hw' => ?_⟩⟩
  ·simp [execOp, ho, Instr.makeMap, newObj, Sem.run]
  ·simp only [Rel]; exact ⟨_, hj, rfl⟩
  ·exact ⟨#[], hw', rfl⟩
theorem makeSlice_al {t : TypeId} {l c : Operand} (ho : o.op = .makeSlice t l c) : AllocOk X o s (compOp X o s).f := by
 rw [compOp_eq]; unfold compOpS; rw [ho]; dsimp only
 cases hel : elemOfSlice X.P t with
 | none => exact AllocOk.badOp _
 | some el =>
  dsimp only
  have hu := elemOfSlice_some hel
  cases hz : zeroCellsV X.P el with
  | none => exact AllocOk.badOp _
  | some z =>
   dsimp only
   by_cases hc : z.length = 0 ∨ z.length ≠ X.P.cellsOf el ∨ 100000000 < bytesOf X.P el
   ·rw [if_pos hc]; exact AllocOk.badOp _
   rw [if_neg hc]
   have hz0 : z.length ≠ 0 := fun e => hc (.inl e)
   have hzs : z.length = X.P.cellsOf el := by
    rcases Nat.decEq z.length (X.P.cellsOf el) with h | h
    ·exact absurd (.inr (.inl h)) hc
    ·exact h
   have hby : bytesOf X.P el ≤ 100000000 := by
    rcases Nat.lt_or_ge 100000000 (bytesOf X.P el) with h | h
    ·exact absurd (.inr (.inr h)) hc
    ·exact h
   obtain ⟨i, zv, hi, hzv, hsc⟩ := zeroCells_ok hz
   have hib : i.bytes ≤ 100000000 := by simpa [bytesOf, hi] using hby
   have hsz : i.size = zv.cells.size := by
    have := scalarsOf_len hsc
    have h2 : X.P.cellsOf el = i.size := by simp [Program.cellsOf, hi]
    rw [← h2, ← hzs, this]; simp
   have hzc : zv.cells.size ≠ 0 := by
    have := scalarsOf_len hsc
    intro e; apply hz0; rw [this]; simpa using e
   rcases opd_cases X l _ (badOp "makeSlice") with ⟨gl, hgl, e1⟩ | e1 <;> rw [e1]
   ·rcases opd_cases X c _ (badOp "makeSlice") with ⟨gc, hgc, e1⟩ | e1 <;> rw [e1]
    ·intro cl e h k r hk hb
     dsimp only at hk
     split at hk
     ·rename_i n m hn hm
      split at hk
      ·rename_i hnm
       split at hk
       ·rename_i hm4
        obtain ⟨cc, nn, hp, hk⟩ := newCells_ok hk hb
        refine ⟨_, fun i => .sl i 0 (X.P.cellsOf el) n (.exact m), ⟨(by exact trivial), fun _ _ _ _ e => live_anc e, fun E a w he => ?_⟩, hk⟩
        have h1 := hgl E e a he
        have h2 := hgc E e a he
        rw [hn] at h1
        rw [hm] at h2
        simp only [Rel] at h1 h2
        have hnm' := ble_le hnm
        have hm4' := ble_le hm4
        have en : toInt .i64 n = n := toInt_i64 (by omega)
        have em : toInt .i64 m = m := toInt_i64 (by omega)
        refine ⟨.slice (some ⟨w.heap.size, 0, none⟩) n m, .cells (repeatX m zv.cells.toList).toArray el (0, 0), ?_, fun E' j hE hj => ⟨?_, fun w' hw' => ?_⟩⟩
        ·have wl : IntKind.i64.wrap (n : Int) = n := by
          have := wrap_eq .i64 (n : Int)
          rw [this, ← Int.natCast_emod, Int.toNat_natCast, Nat.mod_eq_of_lt (by show n < 18446744073709551616; omega), en]
         have wc : IntKind.i64.wrap (m : Int) = m := by
          have := wrap_eq .i64 (m : Int)
          rw [this, ← Int.natCast_emod, Int.toNat_natCast, Nat.mod_eq_of_lt (by show m < 18446744073709551616; omega), em]
         have hprod : m * i.bytes ≤ 4000 * 100000000 := Nat.mul_le_mul hm4' hib
         have n1 : ¬ ((m : Int) < 0) := by omega
         have n2 : ¬ (281474976710656 < (i.bytes : Int) * (m : Int)) := by
          rw [← Int.natCast_mul, Nat.mul_comm]; omega
         have n3 : ¬ ((n : Int) < 0) := by omega
         have n4 : ¬ ((m : Int) < (n : Int)) := by omega
         have n5 : ¬ (140737488355328 < m * i.bytes) := by omega
         have n4' : ¬ m < n := by omega
         have key : (Instr.makeSlice t (.int .i64 (n : Int)) (.int .i64 (m : Int))).run X.P w = .ok (.slice (some ⟨w.heap.size, 0, none⟩) n m) { w with heap := w.heap.push (.cells (repeatX m zv.cells.toList).toArray el (0, 0)) } := by
          by_cases hm0 : m * i.size = 0
          ·have hm1 : m = 0 := by
            rcases Nat.mul_eq_zero.1 hm0 with h | h
            ·exact h
            ·rw [hsz] at h; exact absurd h hzc
           subst hm1
           have : n = 0 := by omega
           subst this
           simp [Instr.makeSlice, run_underlying hu, asInt, asIntOf, typeInfo, hi, sizeOf, newRow, newObj, askRoom, roomBytes, Sem.run_bind, Sem.run, repeatX, IntKind.wrap_i64]
           congr 2
           apply Array.ext'
           simp [Array.toList_range]
          ·have hcells := array_map_range zv.cells hzc m
           rw [← hcells]
           have hm0' : ¬ (m * zv.cells.size = 0) := by rw [← hsz]; exact hm0
           simp [Instr.makeSlice, run_underlying hu, asInt, asIntOf, typeInfo, hi, sizeOf, zeroValue, hzv, wl, wc, n1, n2, n3, n4, n4', n5, hm0', hsz, newRow, newObj, askRoom, roomBytes, Sem.run_bind, Sem.run]
         simp only [execOp, ho, h1.2, h2.2, en, em, Sem.run_bind, key, Result.andThen_ok, Sem.run_pure]
        ·simp only [Rel]
         exact ⟨⟨w.heap.size, 0, 0, 0⟩, _, m, hj, rfl, .inr (by simp), hnm', by omega, rfl⟩
        ·have hsz' := scalarsOf_ok hsc E'
         obtain ⟨r1, r2⟩ := repeat_rel hsz'.1 hsz'.2 m
         exact blkRel_made r1 r2 hp (by simp) hw'
       ·exact bad_of hk hb
      ·exact bad_of hk hb
     ·exact bad_of hk hb
    ·exact AllocOk.badOp _
   ·exact AllocOk.badOp _
theorem buildSlice_al {t : TypeId} {len : Nat} {parts : Array (Nat × Operand)} (ho : o.op = .buildSlice t len parts) : AllocOk X o s (compOp X o s).f := by
 rw [compOp_eq]; unfold compOpS; rw [ho]; dsimp only
 cases hel : elemOfSlice X.P t with
 | none => exact AllocOk.badOp _
 | some el =>
  dsimp only
  have hu := elemOfSlice_some hel
  cases hz : zeroCellsV X.P el with
  | none => exact AllocOk.badOp _
  | some z =>
   dsimp only
   by_cases hc : z.length = 0 ∨ z.length ≠ X.P.cellsOf el ∨ 16000 < len * X.P.cellsOf el
   ·rw [if_pos hc]; exact AllocOk.badOp _
   rw [if_neg hc]
   have hz0 : z.length ≠ 0 := fun e => hc (.inl e)
   have hzs : z.length = X.P.cellsOf el := by
    rcases Nat.decEq z.length (X.P.cellsOf el) with h | h
    ·exact absurd (.inr (.inl h)) hc
    ·exact h
   have hsmall : len * X.P.cellsOf el ≤ 16000 := by
    rcases Nat.lt_or_ge 16000 (len * X.P.cellsOf el) with h | h
    ·exact absurd (.inr (.inr h)) hc
    ·exact h
   have hlen : len ≤ 16000 := Nat.le_trans (Nat.le_mul_of_pos_right _ (by omega)) hsmall
   obtain ⟨i, zv, hi, hzv, hsc⟩ := zeroCells_ok hz
   have hcs : X.P.cellsOf el = i.size := by simp [Program.cellsOf, hi]
   have hsz : i.size = zv.cells.size := by
    have := scalarsOf_len hsc
    rw [← hcs, ← hzs, this]; simp
   have hzc : zv.cells.size ≠ 0 := by
    have := scalarsOf_len hsc
    intro e; apply hz0; rw [this]; simpa using e
   cases hpl : (planFill X (fun i => some (i * X.P.cellsOf el, el)) parts.toList ⟨(repeatL len z).map .z, []⟩).f with
   | none => exact AllocOk.badOp _
   | some pl =>
    dsimp only
    obtain ⟨_, f2, f3⟩ := fill_ok _ _ _ hpl
    have main : ∀ E e a w, ERel X E e a → checkParts e pl.parts = true → ∃ C, (execOp a.eval o).run X.P w = .ok (.value (.slice (some ⟨w.heap.size, 0, none⟩) len len)) { w with heap := w.heap.push (.cells C el (0, 0)) } ∧
      V.scalars (runPlan e pl.cells) ∧ RelL E (runPlan e pl.cells) C.toList := by
     intro E e a w he hck
     obtain ⟨z1, z2⟩ := scalarsOf_ok hsc E
     obtain ⟨r1, r2⟩ := repeat_rel z1 z2 len
     have hp0 : PlanRel E e ((repeatL len z).map .z) (repeatX len zv.cells.toList).toArray := planRel_zero (e := e) r1 r2
     obtain ⟨C, c1, c2⟩ := f3 E e a he hck _ hp0
     refine ⟨C, ?_, c2.list⟩
     have key : (Instr.buildSlice t len (parts.map fun (i, x) => (i, a.eval x))).run X.P w = .ok (.slice (some ⟨w.heap.size, 0, none⟩) len len) { w with heap := w.heap.push (.cells C el (0, 0)) } := by
      have hs24 : ¬ len * i.size > 2 ^ 24 := by rw [← hcs]; omega
      have c1' : Instr.fill (fun j => some (j * i.size, i.size)) (repeatX len zv.cells.toList).toArray (parts.map fun (i, x) => (i, a.eval x)).toList = some C := by
       rw [Array.toList_map, ← hcs]; exact c1
      by_cases h0 : len * i.size = 0
      ·have hl0 : len = 0 := by
        rcases Nat.mul_eq_zero.1 h0 with h | h
        ·exact h
        ·rw [hsz] at h; exact absurd h hzc
       subst hl0
       have e0 : (Array.range 0).map (fun (j : Nat) => ((#[] : Array Value)[j % (#[] : Array Value).size]!)) = (repeatX 0 zv.cells.toList).toArray := by
        apply Array.ext'; simp [Array.toList_range, repeatX]
       simp only [Instr.buildSlice, Sem.run_bind, run_underlying hu, Result.andThen_ok, sizeOf, typeInfo, program, Sem.run, hi, Nat.zero_mul]
       simp only [if_true, gt_iff_lt, Nat.not_lt_zero, if_false, Sem.run_pure, Sem.run_bind, Result.andThen_ok]
       rw [e0, c1']
       rfl
      ·rw [← array_map_range zv.cells hzc len, ← hsz] at c1'
       exact run_buildSlice w t el len _ C i zv hu hi hzv hs24 h0 (by rw [hsz] at c1' ⊢; exact c1')
     simp only [execOp, ho, Sem.run_bind, key, Result.andThen_ok, Sem.run_pure]
    have fin : ∀ {e : Env}, (checkParts e pl.parts = true) → ∀ {c n}, emptyCells.push (runPlan e pl.cells) 0 = some (c, n) → AllocSpec X o e (.live c n false []) (fun i => .sl i 0 (X.P.cellsOf el) len (.exact len)) := by
     intro e hck c n hp
     refine ⟨(by exact trivial), fun _ _ _ _ e => live_anc e, fun E a w he => ?_⟩
     obtain ⟨C, c1, c2, c3⟩ := main E e a w he hck
     refine ⟨_, _, c1, fun E' j hE hj => ⟨?_, fun w' hw' => ?_⟩⟩
     ·simp only [Rel]
      exact ⟨⟨w.heap.size, 0, 0, 0⟩, _, len, hj, rfl, .inr (by simp), Nat.le_refl _, by omega, rfl⟩
     ·exact blkRel_made c2 (c3.mono hE) hp rfl hw'
    split
    ·rename_i hnil
     cases hbl : blkOfList (repeatL len z) with
     | none => exact AllocOk.badOp _
     | some cn =>
      obtain ⟨c, n⟩ := cn
      intro cl e h k r hk hb
      have := f2 hnil
      refine ⟨_, _, fin (e := e) (by rw [hnil]; rfl) (c := c) (n := n) ?_, hk⟩
      rw [this, runPlan_z]
      exact hbl
    ·intro cl e h k r hk hb
     dsimp only at hk
     split at hk
     ·rename_i hck
      obtain ⟨cc, nn, hp, hk⟩ := newCells_ok hk hb
      exact ⟨_, _, fin hck hp, hk⟩
     ·exact bad_of hk hb
theorem class1_ok (hc : opClass X.P o.op = 1) : AllocOk X o s (compOp X o s).f := by
 cases ho : o.op <;> simp only [ho, opClass] at hc <;> try (exact absurd hc (by decide))
 ·exact alloc_al ho
 ·exact box_al ho
 ·exact buildSlice_al ho
 ·split at hc <;> exact absurd hc (by decide)
 ·exact makeMap_al ho
 ·exact makeSlice_al ho
 ·split at hc <;> first | exact absurd hc (by decide) | (split at hc <;> exact absurd hc (by decide))
theorem class02_ok (hq : EqsOk X.P X.eqs) (hc : opClass X.P o.op ≠ 1) (hc3 : opClass X.P o.op ≠ 3) : ReadOk X o s (compOp X o s).f := by
 cases ho : o.op
 case move x => exact move_rd (.inl ho)
 case assign x => exact move_rd (.inr ho)
 case pick c a b => exact pick_rd ho
 case build t p => exact build_rd ho
 case load t a => exact load_rd ho
 case nilCheck x => exact nilCheck_rd ho
 case binOp op t x y yt => exact binOp_rd hq ho
 case unOp op t x => exact unOp_rd ho
 case convert st dt x => exact convert_rd ho
 case makeInterface t x => exact makeInterface_rd ho
 case makeFunc fn fi ca =>
  cases fn with
  | func f => exact makeFunc_rd ho
  | _ => rw [compOp_eq]; unfold compOpS; rw [ho]; exact ReadOk.badOp _
 case slice t x lo hi mx => exact slice_rd ho
 case fieldAddr st x j => exact fieldAddr_rd ho
 case field t x j => exact field_rd ho
 case indexAddr t x i => exact indexAddr_rd ho
 case index t x i => exact index_rd ho
 case lookup t x i ok => exact lookup_rd hq ho
 case typeAssert x t u ok => exact typeAssert_rd ho
 case extract t i => exact extract_rd ho
 case call c =>
  rw [ho] at hc3
  simp only [opClass] at hc3
  rw [compOp_eq]; unfold compOpS; rw [ho]; dsimp only
  split at hc3
  ·rename_i x t hcc ha ht
   rw [hcc]; dsimp only
   rw [ha, ht]
   exact len_rd ho hcc ha ht
  ·rename_i x y hcc ha
   rw [hcc]; dsimp only
   rw [ha]
   exact max_rd (ts := c.argTypes.toList) ho hcc ha
  ·rename_i x y hcc ha
   rw [hcc]; dsimp only
   rw [ha]
   exact min_rd (ts := c.argTypes.toList) ho hcc ha
  ·exact absurd rfl hc3
 all_goals first
  | (exact absurd (by rw [ho]; rfl) hc)
  | (exact absurd (by rw [ho]; rfl) hc3)
end
end Go.Ev
set_option linter.unusedSimpArgs false
set_option linter.unusedVariables false
namespace Go.Ev
noncomputable section
variable {X : Cx} {o : Oper} {s : S} {kn : Nat → Bool}
def Cx.at (X : Cx) (kn : Nat → Bool) : Cx := { X with kn := kn }
@[simp] theorem at_P : (X.at kn).P = X.P := rfl
@[simp] theorem at_nt : (X.at kn).nt = X.nt := rfl
@[simp] theorem at_gl : (X.at kn).gl = X.gl := rfl
@[simp] theorem at_bw : (X.at kn).bw = X.bw := rfl
@[simp] theorem at_eqs : (X.at kn).eqs = X.eqs := rfl
@[simp] theorem at_kn : (X.at kn).kn = kn := rfl
def KnOk (X : Cx) (kn : Nat → Bool) (x : Operand) : Prop := ∀ t, x = .tmp t → X.kn t = true ∧ kn t = true
theorem opd_kn {α : Type} {x : Operand} (h : KnOk X kn x) (k : G → Fn1 α) (d : Fn1 α) : opd (X.at kn) x k d = opd X x k d := by
 cases x with
 | tmp t => unfold opd; simp [h t rfl]
 | _ => rfl
theorem dst_kn {α : Type} (x : Option Tmp) (k : S → Fn1 α) (d : Fn1 α) : dst (X.at kn) x k d = dst X x k d := by cases x <;> rfl
theorem opds_kn {α : Type} : ∀ {l : List Operand} (h : ∀ x ∈ l, KnOk X kn x) (k : G → Fn1 α) (d : Fn1 α), opds (X.at kn) l k d = opds X l k d
 | [], _, _, _ => rfl
 | x :: l, h, k, d => by
  simp only [opds]
  rw [opd_kn (h x (by simp))]
  congr 1
  funext g
  exact opds_kn (fun y hy => h y (by simp [hy])) _ _
theorem opdO_kn {α : Type} {x : Option Operand} (h : ∀ y, x = some y → KnOk X kn y) (k : (Env → Option V) → Fn1 α) (d : Fn1 α) : opdO (X.at kn) x k d = opdO X x k d := by
 cases x with
 | none => rfl
 | some y => exact opd_kn (h y rfl) (fun g => k fun e => some (g e)) d
theorem planFill_kn {place : Nat → Option (Nat × TypeId)} : ∀ {l : List (Nat × Operand)} (h : ∀ x ∈ l, KnOk X kn x.2) (p : Plan), planFill (X.at kn) place l p = planFill X place l p
 | [], _, _ => rfl
 | (i, x) :: l, h, p => by
  simp only [planFill]
  cases place i with
  | none => rfl
  | some ot =>
   dsimp only
   show (match scalarT X.P ot.2 with | some sc => _ | none => _) = (match scalarT X.P ot.2 with | some sc => _ | none => _)
   cases scalarT X.P ot.2 with
   | none => rfl
   | some sc =>
    dsimp only
    have hx : KnOk X kn x := h (i, x) (by simp)
    by_cases hc : p.cells.length < ot.1 + X.P.cellsOf ot.2 ∨ sc = true ∧ X.P.cellsOf ot.2 ≠ 1
    ·exact (if_pos hc).trans (if_pos hc).symm
    ·refine (if_neg hc).trans (Eq.trans ?_ (if_neg hc).symm)
     rw [opd_kn hx]
     congr 1
     funext g
     exact planFill_kn (fun y hy => h y (by simp [hy])) _
theorem keyKind_kn (t : TypeId) : keyKind (X.at kn) t = keyKind X t := rfl
theorem ekAt_kn (t : TypeId) (b : Bool) : ekAt (X.at kn) t b = ekAt X t b := rfl
theorem compOp_kn (h : ∀ x ∈ o.op.operands, KnOk X kn x) : compOp (X.at kn) o s = compOp X o s := by
 rw [compOp_eq, compOp_eq]
 unfold compOpS
 cases ho : o.op <;> dsimp only <;> simp only [ho, Op.operands] at h
 case call c =>
  simp only [Go.Call.operands] at h
  have ha : ∀ x ∈ c.args.toList, KnOk X kn x := fun x hx => h x (by simp at hx; simp [hx])
  cases hc : c.callee with
  | builtin b =>
   dsimp only
   unfold builtinOp
   split
   ·rename_i x t ha' ht
    rw [ha'] at ha; simp at ha
    simp only [opd_kn ha, at_P]
   ·rename_i x y st xt ha' ht
    rw [ha'] at ha; simp at ha
    simp only [opd_kn ha.1, opd_kn ha.2, at_P]
   ·rename_i x y ts ha'
    rw [ha'] at ha; simp at ha
    simp only [opd_kn ha.1, opd_kn ha.2, at_P]
   ·rename_i x y ts ha'
    rw [ha'] at ha; simp at ha
    simp only [opd_kn ha.1, opd_kn ha.2, at_P]
   ·rfl
  | invoke r n => rfl
  | value x =>
   have hx : KnOk X kn x := h x (by simp [hc])
   cases x <;> dsimp only <;> simp only [opds_kn ha, opd_kn hx]
 case defer c =>
  simp only [Go.Call.operands] at h
  have ha : ∀ x ∈ c.args.toList, KnOk X kn x := fun x hx => h x (by simp at hx; simp [hx])
  cases hc : c.callee with
  | builtin b => rfl
  | invoke r n => rfl
  | value x =>
   have hx : KnOk X kn x := h x (by simp [hc])
   dsimp only
   simp only [opds_kn ha, opd_kn hx]
 case build t p =>
  have hp : ∀ x ∈ p.toList, KnOk X kn x.2 := fun x hx => h x.2 (by simp; exact ⟨x.1, by simpa using hx⟩)
  simp only [planFill_kn hp]
  rfl
 case buildSlice t l p =>
  have hp : ∀ x ∈ p.toList, KnOk X kn x.2 := fun x hx => h x.2 (by simp; exact ⟨x.1, by simpa using hx⟩)
  simp only [planFill_kn hp]
  rfl
 case makeFunc f a b =>
  have ha : ∀ x ∈ a.toList, KnOk X kn x := fun x hx => h x (by simp at hx; simp [hx])
  have hb : ∀ x ∈ b.toList, KnOk X kn x := fun x hx => h x (by simp at hx; simp [hx])
  cases f <;> first | rfl | (dsimp only; simp only [opds_kn ha, opds_kn hb])
 case slice t x lo hi mx =>
  have hx : KnOk X kn x := h x (by simp)
  have hl : ∀ y, lo = some y → KnOk X kn y := fun y hy => h y (by simp [hy])
  have hh : ∀ y, hi = some y → KnOk X kn y := fun y hy => h y (by simp [hy])
  have hm : ∀ y, mx = some y → KnOk X kn y := fun y hy => h y (by simp [hy])
  simp only [at_P, opd_kn hx, opdO_kn hl, opdO_kn hh, opdO_kn hm]
 all_goals first
  | rfl
  | (simp at h; simp only [opd_kn, h, at_P, at_eqs, keyKind_kn, ekAt_kn]; done)
  | (simp at h; simp only [opd_kn, h, at_P, at_eqs, keyKind_kn, ekAt_kn]; rfl)
theorem compOper_kn {ops : Array Oper} (hX : ∀ t, X.kn t = true) (h : ∀ t ∈ looks ops o, kn t = true) : compOper (X.at kn) ops o = compOper X ops o := by
 unfold compOper
 rw [dst_kn]
 have h1 : ∀ x ∈ o.op.operands, KnOk X kn x := fun x hx t ht => ⟨hX t, h t (by
  unfold looks
  rw [List.mem_append]
  left
  rw [List.mem_filterMap]
  exact ⟨x, by simpa using hx, by rw [ht]⟩)⟩
 simp only [compOp_kn h1]
 congr 1
 funext s
 cases compOp X o s with | mk m =>
 dsimp only
 cases hg : o.guard with
 | none => rfl
 | some jw =>
  obtain ⟨j, want⟩ := jw
  dsimp only
  cases hd : (ops[j]?).bind (·.dst) with
  | none => rfl
  | some t =>
   dsimp only
   have : KnOk X kn (.tmp t) := fun u hu => by
    cases hu
    exact ⟨hX _, h t (by unfold looks; rw [List.mem_append]; right; rw [hg]; dsimp only; rw [hd]; simp)⟩
   rw [opd_kn this]
end
end Go.Ev
set_option linter.unusedSimpArgs false
set_option linter.unusedVariables false
namespace Go.Ev
noncomputable section
def pre (ops : Array Oper) (i j : Nat) : Prop := ((Region.before ops).getD j 0).testBit i = true
theorem inner_bits (acc : Array Nat) : ∀ (l : List Edge) (s i : Nat), (l.foldl (fun s e => if Region.binds .any e then s ||| 2 ^ e.on ||| acc.getD e.on 0 else s) s).testBit i = true →
  s.testBit i = true ∨ ∃ e ∈ l, Region.binds .any e = true ∧ (e.on = i ∨ (acc.getD e.on 0).testBit i = true)
 | [], s, i, h => .inl h
 | e :: l, s, i, h => by
  rw [List.foldl_cons] at h
  rcases inner_bits acc l _ i h with h1 | ⟨e', he', hb, hr⟩
  ·cases hbi : Region.binds .any e
   ·rw [hbi] at h1; exact .inl (by simpa using h1)
   ·rw [hbi] at h1
    simp only [if_true, Nat.testBit_or, Bool.or_eq_true, Nat.testBit_two_pow, decide_eq_true_eq] at h1
    rcases h1 with (h1 | h1) | h1
    ·exact .inl h1
    ·exact .inr ⟨e, by simp, hbi, .inl h1⟩
    ·exact .inr ⟨e, by simp, hbi, .inr h1⟩
  ·exact .inr ⟨e', by simp [he'], hb, hr⟩
theorem before_fold : ∀ (l : List Oper) (acc : Array Nat), let r := l.foldl (fun acc o => acc.push (o.after.foldl (fun s e => if Region.binds .any e then s ||| 2 ^ e.on ||| acc.getD e.on 0 else s) 0)) acc
  (∀ j < acc.size, r.getD j 0 = acc.getD j 0) ∧ r.size = acc.size + l.length ∧
  ∀ k o, l[k]? = some o → ∀ i, (r.getD (acc.size + k) 0).testBit i = true → ∃ e ∈ o.after.toList, Region.binds .any e = true ∧ (e.on = i ∨ (e.on < acc.size + k ∧ (r.getD e.on 0).testBit i = true))
 | [], acc => ⟨fun _ _ => rfl, rfl, fun k o h => by simp at h⟩
 | o :: l, acc => by
  intro r
  have ih := before_fold l (acc.push (o.after.foldl (fun s e => if Region.binds .any e then s ||| 2 ^ e.on ||| acc.getD e.on 0 else s) 0))
  have hr : r = l.foldl (fun acc o => acc.push (o.after.foldl (fun s e => if Region.binds .any e then s ||| 2 ^ e.on ||| acc.getD e.on 0 else s) 0)) (acc.push (o.after.foldl (fun s e => if Region.binds .any e then s ||| 2 ^ e.on ||| acc.getD e.on 0 else s) 0)) := rfl
  simp only [← hr] at ih
  obtain ⟨h1, h2, h3⟩ := ih
  rw [Array.size_push] at h1 h2 h3
  have hlow : ∀ j < acc.size, r.getD j 0 = acc.getD j 0 := fun j hj => by
   rw [h1 j (by omega)]
   simp [Array.getD_eq_getD_getElem?, Array.getElem?_push, Nat.ne_of_lt hj]
  refine ⟨hlow, by rw [h2, List.length_cons]; omega, fun k o' hk i hi => ?_⟩
  cases k with
  | zero =>
   simp only [List.getElem?_cons_zero, Option.some.injEq] at hk
   subst hk
   rw [Nat.add_zero, h1 _ (by omega)] at hi
   have : (acc.push (o.after.foldl (fun s e => if Region.binds .any e then s ||| 2 ^ e.on ||| acc.getD e.on 0 else s) 0)).getD acc.size 0 = o.after.foldl (fun s e => if Region.binds .any e then s ||| 2 ^ e.on ||| acc.getD e.on 0 else s) 0 := by
    simp [Array.getD_eq_getD_getElem?]
   rw [this, ← Array.foldl_toList] at hi
   rcases inner_bits acc _ _ i hi with h | ⟨e, he, hb, hor⟩
   ·simp at h
   ·refine ⟨e, he, hb, ?_⟩
    rcases hor with h | h
    ·exact .inl h
    ·right
     have hlt : e.on < acc.size := by
      rcases Nat.lt_or_ge e.on acc.size with h' | h'
      ·exact h'
      ·rw [Array.getD_eq_getD_getElem?, Array.getElem?_eq_none h'] at h; simp at h
     exact ⟨hlt, by rw [hlow _ hlt]; exact h⟩
  | succ k =>
   rw [List.getElem?_cons_succ] at hk
   have e1 : acc.size + 1 + k = acc.size + (k + 1) := by omega
   have := h3 k o' hk i (by rw [e1]; exact hi)
   rw [e1] at this
   exact this
theorem before_spec {ops : Array Oper} {j : Nat} {o : Oper} (ho : ops[j]? = some o) {i : Nat} (h : pre ops i j) :
  ∃ e ∈ o.after.toList, Region.binds .any e = true ∧ (e.on = i ∨ (e.on < j ∧ pre ops i e.on)) := by
 have := (before_fold ops.toList #[]).2.2 j o (by simpa using ho) i (by
  rw [Array.foldl_toList]; simpa [pre, Region.before] using h)
 rw [Array.foldl_toList] at this
 simpa [pre, Region.before] using this
theorem before_none {ops : Array Oper} {j i : Nat} (h : pre ops i j) : j < ops.size := by
 have := (before_fold ops.toList #[]).2.1
 rw [Array.foldl_toList] at this
 rcases Nat.lt_or_ge j ops.size with h' | h'
 ·exact h'
 ·unfold pre Region.before at h
  rw [Array.getD_eq_getD_getElem?, Array.getElem?_eq_none (by rw [this]; simpa using h')] at h
  simp at h
def Lst (listed : Array Bool) (j : Nat) : Prop := listed.getD j false = true
def Closed (ops : Array Oper) (listed : Array Bool) : Prop := ∀ i j, Lst listed j → pre ops i j → Lst listed i
theorem ready_pre {ops : Array Oper} {listed : Array Bool} (hc : Closed ops listed) {j : Nat} (hj : j ∈ Region.ready .any ops listed) {i : Nat} (h : pre ops i j) : Lst listed i := by
 obtain ⟨_, o, ho, hall⟩ := mem_ready.1 hj
 obtain ⟨e, he, hb, hor⟩ := before_spec ho h
 have := hall e (by simpa using he) hb
 rcases hor with rfl | ⟨_, h'⟩
 ·exact this
 ·exact hc _ _ this h'
theorem lst_set {listed : Array Bool} {i j : Nat} (hi : i < listed.size) : Lst (listed.setIfInBounds i true) j ↔ j = i ∨ Lst listed j := by
 unfold Lst
 by_cases h : i = j
 ·subst h; simp [hi]
 ·rw [getD_set_ne false h]
  exact ⟨.inr, fun h' => h'.resolve_left (Ne.symm h)⟩
theorem Closed.set {ops : Array Oper} {listed : Array Bool} (hc : Closed ops listed) (hsz : listed.size = ops.size) {j : Nat} (hj : j ∈ Region.ready .any ops listed) : Closed ops (listed.setIfInBounds j true) := by
 have hjn : j < listed.size := by
  obtain ⟨_, o, ho, _⟩ := mem_ready.1 hj
  rw [hsz]; exact (Array.getElem?_eq_some_iff.1 ho).1
 intro i k hk hp
 rw [lst_set hjn] at hk ⊢
 rcases hk with rfl | hk
 ·exact .inr (ready_pre hc hj hp)
 ·exact .inr (hc _ _ hk hp)
theorem backOK_spec {ops : Array Oper} (h : backOK ops = true) {j : Nat} {o : Oper} (ho : ops[j]? = some o) {e : Edge} (he : e ∈ o.after) (hb : Region.binds .any e = true) : e.on < j := by
 have hj : j < ops.size := (Array.getElem?_eq_some_iff.1 ho).1
 unfold backOK at h
 have := List.all_eq_true.1 h j (List.mem_range.2 hj)
 rw [ho] at this
 have := List.all_eq_true.1 this e (by simpa using he)
 rw [hb] at this
 simpa [Nat.blt_eq] using this
theorem all_listed {ops : Array Oper} (h : backOK ops = true) {listed : Array Bool} (hsz : listed.size = ops.size) (hr : Region.ready .any ops listed = []) : ∀ j, j < ops.size → Lst listed j := by
 intro j
 induction j using Nat.strongRecOn with
 | _ j ih =>
  intro hj
  cases hl : listed.getD j false with
  | true => exact hl
  | false =>
   exfalso
   have : j ∈ Region.ready .any ops listed := by
    rw [mem_ready]
    have hjl : j < listed.size := by rw [hsz]; exact hj
    refine ⟨by unfold Array.getD at hl ⊢; rw [dif_pos hjl] at hl ⊢; exact hl, ops[j], Array.getElem?_eq_getElem hj, fun e he hb => ?_⟩
    have hlt := backOK_spec h (o := ops[j]) (Array.getElem?_eq_getElem hj) he hb
    exact ih e.on hlt (by omega)
   rw [hr] at this
   cases this
theorem pre_lt {ops : Array Oper} (h : backOK ops = true) : ∀ {j i : Nat}, pre ops i j → i < j := by
 intro j
 induction j using Nat.strongRecOn with
 | _ j ih =>
  intro i hp
  have hj := before_none hp
  obtain ⟨e, he, hb, hor⟩ := before_spec (o := ops[j]) (Array.getElem?_eq_getElem hj) hp
  have := backOK_spec h (o := ops[j]) (Array.getElem?_eq_getElem hj) (by simpa using he) hb
  rcases hor with rfl | ⟨_, h'⟩
  ·exact this
  ·exact Nat.lt_trans (ih _ this h') this
def clsAt (P : Program) (ops : Array Oper) (j : Nat) : Nat := match ops[j]? with | some o => opClass P o.op | none => 0
theorem actOK_spec {P : Program} {ops : Array Oper} (h : actOK P ops (Region.before ops) = true) {i j : Nat} (hij : i < j) (hj : clsAt P ops j = 3) (hi : clsAt P ops i = 3 ∨ clsAt P ops i = 1) : pre ops i j := by
 unfold clsAt at hi hj
 cases ho : ops[j]? with
 | none => rw [ho] at hj; cases hj
 | some o =>
  rw [ho] at hj
  have hj : opClass P o.op = 3 := hj
  have hjn : j < ops.size := (Array.getElem?_eq_some_iff.1 ho).1
  unfold actOK at h
  have := List.all_eq_true.1 h j (List.mem_range.2 hjn)
  simp only [ho, hj] at this
  have := List.all_eq_true.1 this i (List.mem_range.2 hij)
  cases hoi : ops[i]? with
  | none => rw [hoi] at hi; rcases hi with h | h <;> cases h
  | some p =>
   rw [hoi] at this hi
   have hi : opClass P p.op = 3 ∨ opClass P p.op = 1 := hi
   dsimp only at this
   rcases hi with h | h <;> rw [h] at this <;> exact this
theorem depOK_spec {ops : Array Oper} (h : depOK ops (Region.before ops) = true) {i j : Nat} {o p : Oper} (ho : ops[j]? = some o) (hp : ops[i]? = some p) {t : Tmp} (ht : p.dst = some t) (hij : i ≠ j) :
  o.dst ≠ some t ∧ (t ∈ looks ops o → pre ops i j ∨ pre ops j i) := by
 have hjn : j < ops.size := (Array.getElem?_eq_some_iff.1 ho).1
 have hin : i < ops.size := (Array.getElem?_eq_some_iff.1 hp).1
 unfold depOK at h
 have := List.all_eq_true.1 h j (List.mem_range.2 hjn)
 rw [ho] at this
 dsimp only at this
 have := List.all_eq_true.1 (Bool.and_eq_true_iff.1 this).2 i (List.mem_range.2 hin)
 rw [hp] at this
 dsimp only at this
 rw [ht] at this
 dsimp only at this
 rw [beq_false hij, Bool.false_or, Bool.and_eq_true] at this
 obtain ⟨h1, h2⟩ := this
 refine ⟨by simpa using h1, fun hm => ?_⟩
 have hc : (looks ops o).contains t = true := by simpa using hm
 rw [hc, Bool.not_true, Bool.false_or] at h2
 unfold ordB at h2
 rw [Bool.or_eq_true] at h2
 exact h2
theorem depOK_defer {ops : Array Oper} (h : depOK ops (Region.before ops) = true) {j : Nat} {o : Oper} (ho : ops[j]? = some o) (c : Go.Call) : o.op ≠ .defer c := by
 intro e
 have hjn : j < ops.size := (Array.getElem?_eq_some_iff.1 ho).1
 unfold depOK at h
 have := List.all_eq_true.1 h j (List.mem_range.2 hjn)
 rw [ho] at this
 dsimp only at this
 have := (Bool.and_eq_true_iff.1 this).1
 rw [e] at this
 cases this
end
end Go.Ev
set_option linter.unusedSimpArgs false
set_option linter.unusedVariables false
namespace Go.Ev
noncomputable section
variable {X : Cx} {ops : Array Oper} {c : Call}
theorem strEq_true {a b c d : Nat} (h : strEq a b c d = true) : a = c ∧ b = d := by
 unfold strEq at h
 cases h1 : Nat.beq a c <;> rw [h1] at h
 ·cases h
 ·exact ⟨of_beq_true h1, of_beq_true h⟩
theorem capEqb {d d' : Cap} (h : (match d, d' with | .exact n, .exact m => Nat.beq n m | .grown, .grown => true | .open, .open => true | _, _ => false) = true) : d = d' := by
 cases d <;> cases d' <;> simp at h ⊢
 exact h
theorem V.eqb_eq : ∀ {a b : V}, V.eqb a b = true → a = b := by
 intro a
 induction a with
 | undef => intro b h; cases b <;> simp [V.eqb] at h ⊢
 | bool x => intro b h; cases b <;> simp [V.eqb] at h ⊢; cases x <;> simp_all
 | int k n => 
  intro b h
  cases b <;> simp only [V.eqb] at h <;> try (cases h; done)
  split at h
  ·rename_i hk
   rw [knum_inj hk, of_beq_true h]
  ·cases h
 | str n x =>
  intro b h
  cases b <;> simp only [V.eqb] at h <;> try (cases h; done)
  obtain ⟨h1, h2⟩ := strEq_true h
  rw [h1, h2]
 | ptr i o =>
  intro b h
  cases b <;> simp only [V.eqb] at h <;> try (cases h; done)
  split at h
  ·rename_i hk
   rw [(Id.eqb_iff _ _).1 hk, of_beq_true h]
  ·cases h
 | nilp => intro b h; cases b <;> simp [V.eqb] at h ⊢
 | sl i x y z d =>
  intro b h
  cases b <;> simp only [V.eqb] at h <;> try (cases h; done)
  split at h
  ·rename_i hk
   simp only [Bool.and_eq_true] at h
   obtain ⟨⟨⟨h1, h2⟩, h3⟩, h4⟩ := h
   rw [(Id.eqb_iff _ _).1 hk, of_beq_true h1, of_beq_true h2, of_beq_true h3, capEqb h4]
  ·cases h
 | nils => intro b h; cases b <;> simp [V.eqb] at h ⊢
 | map i =>
  intro b h
  cases b <;> simp only [V.eqb] at h <;> try (cases h; done)
  rw [(Id.eqb_iff _ _).1 h]
 | nilm => intro b h; cases b <;> simp [V.eqb] at h ⊢
 | fn f x y ihx ihy =>
  intro b h
  cases b <;> simp only [V.eqb] at h <;> try (cases h; done)
  simp only [Bool.and_eq_true] at h
  rw [of_beq_true h.1.1, ihx h.1.2, ihy h.2]
 | nilf => intro b h; cases b <;> simp [V.eqb] at h ⊢
 | ifc t v ih =>
  intro b h
  cases b <;> simp only [V.eqb] at h <;> try (cases h; done)
  simp only [Bool.and_eq_true] at h
  rw [of_beq_true h.1, ih h.2]
 | nili => intro b h; cases b <;> simp [V.eqb] at h ⊢
 | agg l ih =>
  intro b h
  cases b <;> simp only [V.eqb] at h <;> try (cases h; done)
  rw [ih h]
 | tup l ih =>
  intro b h
  cases b <;> simp only [V.eqb] at h <;> try (cases h; done)
  rw [ih h]
 | nil => intro b h; cases b <;> simp [V.eqb] at h ⊢
 | cons x y ihx ihy =>
  intro b h
  cases b <;> simp only [V.eqb] at h <;> try (cases h; done)
  simp only [Bool.and_eq_true] at h
  rw [ihx h.1, ihy h.2]
def gOf (o : Oper) (e : Env) : V := match o.dst with | some t => slot e t | none => .undef
def dput (o : Oper) (e : Env) (v : V) : Env := match o.dst with | some t => put e t v | none => e
theorem dstG_eq (o : Oper) : dstG o = ⟨gOf o⟩ := by
 unfold dstG gOf
 cases o.dst with
 | none => rfl
 | some t => exact getT_eq t
theorem dput_eq {o : Oper} {s : S} (hs : SOk X o.dst s) (e : Env) (v : V) : s e v = dput o e v := by
 unfold dput
 cases hd : o.dst with
 | none => rw [hd] at hs; simp only [SOk] at hs; subst hs; rfl
 | some t => rw [hd] at hs; simp only [SOk] at hs; obtain ⟨_, _, rfl⟩ := hs; rfl
def opRun (X : Cx) (ops : Array Oper) (c : Call) (o : Oper) (e : Env) (h : H) : Out := (compOper X ops o).f c e h (fun e h => .nrm e h)
def heapFor (cls : Nat) (h : H) : H := match cls with | 3 | 1 | 2 => h | _ => H.empty
def heapAfter (cls : Nat) (h h' : H) : H := match cls with | 3 | 1 => h' | _ => h
def TS (X : Cx) (ops : Array Oper) (c : Call) (alive : Nat → Bool) (j : Nat) (e : Env) (h : H) (e1 : Env) (h1 : H) : Prop :=
 (alive j = false ∧ e1 = e ∧ h1 = h) ∨
 (alive j = true ∧ ∃ o, ops[j]? = some o ∧ (∃ s, SOk X o.dst s) ∧ ∃ e' h', opRun X ops c o e (heapFor (opClass X.P o.op) h) = .nrm e' h' ∧ e1 = dput o e (gOf o e') ∧ h1 = heapAfter (opClass X.P o.op) h h')
def trOf (es : Nat → Env) (hs : Nat → H) : Nat → Tr
 | 0 => []
 | i + 1 => (es i, hs i) :: trOf es hs i
theorem trOf_get (es : Nat → Env) (hs : Nat → H) : ∀ {n j : Nat}, j ≤ n → (trOf es hs (n + 1))[n - j]? = some (es j, hs j)
 | 0, j, h => by
   obtain rfl : j = 0 := by omega
   rfl
 | n + 1, j, h => by
  rcases Nat.lt_or_ge n j with h' | h'
  ·obtain rfl : j = n + 1 := by omega
   simp [trOf]
  ·rw [show n + 1 - j = (n - j) + 1 by omega]
   simp only [trOf, List.getElem?_cons_succ]
   exact trOf_get es hs h'
theorem trOf_congr {es es' : Nat → Env} {hs hs' : Nat → H} : ∀ {n : Nat}, (∀ j < n, es' j = es j ∧ hs' j = hs j) → trOf es' hs' n = trOf es hs n
 | 0, _ => rfl
 | n + 1, h => by simp only [trOf]; rw [(h n (by omega)).1, (h n (by omega)).2, trOf_congr fun j hj => h j (by omega)]
theorem nthTr_ok : ∀ {tr : Tr} {k : Nat} {f : Env → H → Out} {r : Out}, nthTr tr k f = r → NotBad r → ∃ x, tr[k]? = some x ∧ f x.1 x.2 = r
 | [], k, f, r, h, hb => by unfold nthTr at h; exact bad_of h hb
 | x :: _, 0, f, r, h, hb => ⟨x, rfl, h⟩
 | _ :: l, k + 1, f, r, h, hb => by
  simp only [nthTr] at h
  obtain ⟨x, h1, h2⟩ := nthTr_ok h hb
  exact ⟨x, by simpa using h1, h2⟩
def ChkOk (X : Cx) (ops : Array Oper) (c : Call) (es : Nat → Env) (hs : Nat → H) (p : Pr) : Prop :=
 (p.rd = true → ∃ e' h', opRun X ops c p.o (es p.i) (hs p.hb) = .nrm e' h' ∧ gOf p.o e' = gOf p.o (es (p.i + 1))) ∧
 (p.rd = false → (hs p.hb).blk (hs p.i).next = .free)
theorem compChk_ok {n : Nat} {es : Nat → Env} {hs : Nat → H} {p : Pr} (hi : p.i < n) (hhb : p.hb ≤ n) {k r : Out} (h : (compChk X ops n p).f c (trOf es hs (n + 1)) k = r) (hb : NotBad r) : k = r ∧ ChkOk X ops c es hs p := by
 unfold compChk at h
 cases hp : p.rd with
 | true =>
  rw [hp] at h
  dsimp only at h
  rw [dstG_eq] at h
  have hm : ∀ e h, opRun X ops c p.o e h = (compOper X ops p.o).f c e h (fun e h => .nrm e h) := fun _ _ => rfl
  cases hcm : compOper X ops p.o with | mk m =>
  rw [hcm] at h hm
  dsimp only at h
  obtain ⟨x, hx, h⟩ := nthTr_ok h hb
  rw [trOf_get es hs (by omega)] at hx
  cases hx
  obtain ⟨y, hy, h⟩ := nthTr_ok h hb
  rw [trOf_get es hs (by omega)] at hy
  cases hy
  obtain ⟨z, hz, h⟩ := nthTr_ok h hb
  rw [trOf_get es hs (by omega)] at hz
  cases hz
  dsimp only at h
  cases hq : m c (es p.i) (hs p.hb) (fun e h => .nrm e h) <;> rw [hq] at h <;> try exact bad_of h hb
  rename_i e' h'
  dsimp only at h
  cases he : V.eqb (gOf p.o e') (gOf p.o (es (p.i + 1))) <;> rw [he] at h
  ·exact bad_of h hb
  ·refine ⟨h, ⟨fun _ => ⟨e', h', ?_, V.eqb_eq he⟩, fun hf => absurd hf (by rw [hp]; simp)⟩⟩
   rw [hm]; exact hq
 | false =>
  rw [hp] at h
  dsimp only at h
  obtain ⟨x, hx, h⟩ := nthTr_ok h hb
  rw [trOf_get es hs (by omega)] at hx
  cases hx
  obtain ⟨z, hz, h⟩ := nthTr_ok h hb
  rw [trOf_get es hs (by omega)] at hz
  cases hz
  dsimp only at h
  cases hq : (hs p.hb).blk (hs p.i).next <;> rw [hq] at h <;> try exact bad_of h hb
  exact ⟨h, ⟨fun hf => absurd hf (by rw [hp]; simp), fun _ => hq⟩⟩
theorem compChks_ok {n : Nat} {es : Nat → Env} {hs : Nat → H} : ∀ {l : List Pr}, (∀ p ∈ l, p.i < n ∧ p.hb ≤ n) → ∀ {k r : Out}, (compChks X ops n l).f c (trOf es hs (n + 1)) k = r → NotBad r → k = r ∧ ∀ p ∈ l, ChkOk X ops c es hs p
 | [], _, k, r, h, hb => ⟨h, fun p hp => by cases hp⟩
 | p :: l, hl, k, r, h, hb => by
  have hf : ∀ tr k, (compChk X ops n p).f c tr k = (compChk X ops n p).f c tr k := fun _ _ => rfl
  have h' : (compChk X ops n p).f c (trOf es hs (n + 1)) ((compChks X ops n l).f c (trOf es hs (n + 1)) k) = r := h
  obtain ⟨h1, h2⟩ := compChk_ok (hl p (by simp)).1 (hl p (by simp)).2 h' hb
  obtain ⟨h3, h4⟩ := compChks_ok (fun q hq => hl q (by simp [hq])) h1 hb
  exact ⟨h3, fun q hq => by
   rcases List.mem_cons.1 hq with rfl | hq
   ·exact h2
   ·exact h4 q hq⟩
theorem mem_pairs {P : Program} {bs : Array Nat} {alive act : Nat → Bool} {p : Pr} : p ∈ pairsOf P ops bs alive act ↔
  ∃ i b o q, ops[i]? = some o ∧ ops[b]? = some q ∧ opClass P q.op = 3 ∧ alive i = true ∧ act b = true ∧ ordB bs i b = false ∧
   ((opClass P o.op = 2 ∧ p = ⟨true, i, if Nat.blt b i then b else b + 1, o⟩) ∨ (opClass P o.op = 1 ∧ b < i ∧ p = ⟨false, i, b, o⟩)) := by
 unfold pairsOf
 rw [List.mem_flatMap]
 constructor
 ·rintro ⟨i, _, hi⟩
  cases ho : ops[i]? with
  | none => rw [ho] at hi; cases hi
  | some o =>
   simp only [ho] at hi
   split at hi
   ·rename_i hc
    obtain ⟨b, _, hb⟩ := List.mem_flatMap.1 hi
    cases hq : ops[b]? with
    | none => rw [hq] at hb; cases hb
    | some q =>
     simp only [hq] at hb
     split at hb
     ·rename_i hcq
      split at hb
      ·rename_i hcond
       simp only [Bool.and_eq_true, Bool.not_eq_true'] at hcond
       exact ⟨i, b, o, q, ho, hq, hcq, hcond.1.1, hcond.1.2, hcond.2, .inl ⟨hc, by simpa using hb⟩⟩
      ·cases hb
     ·cases hb
   ·rename_i hc
    obtain ⟨b, _, hb⟩ := List.mem_flatMap.1 hi
    cases hq : ops[b]? with
    | none => rw [hq] at hb; cases hb
    | some q =>
     simp only [hq] at hb
     split at hb
     ·rename_i hcq
      split at hb
      ·rename_i hcond
       simp only [Bool.and_eq_true, Bool.not_eq_true', Nat.blt_eq] at hcond
       exact ⟨i, b, o, q, ho, hq, hcq, hcond.1.1.1, hcond.1.1.2, hcond.2, .inr ⟨hc, hcond.1.2, by simpa using hb⟩⟩
      ·cases hb
     ·cases hb
   ·cases hi
 ·rintro ⟨i, b, o, q, ho, hq, hcq, ha, hb, hord, hor⟩
  have hin : i < ops.size := (Array.getElem?_eq_some_iff.1 ho).1
  have hbn : b < ops.size := (Array.getElem?_eq_some_iff.1 hq).1
  refine ⟨i, List.mem_range.2 hin, ?_⟩
  simp only [ho]
  rcases hor with ⟨hc, rfl⟩ | ⟨hc, hlt, rfl⟩
  ·simp only [hc]
   refine List.mem_flatMap.2 ⟨b, List.mem_range.2 hbn, ?_⟩
   simp [hq, hcq, ha, hb, hord]
  ·simp only [hc]
   refine List.mem_flatMap.2 ⟨b, List.mem_range.2 hbn, ?_⟩
   simp [hq, hcq, ha, hb, hord, hlt]
theorem pairs_lt {P : Program} {bs : Array Nat} {alive act : Nat → Bool} {p : Pr} (h : p ∈ pairsOf P ops bs alive act) : p.i < ops.size ∧ p.hb ≤ ops.size := by
 obtain ⟨i, b, o, q, ho, hq, _, _, _, _, hor⟩ := mem_pairs.1 h
 have hin : i < ops.size := (Array.getElem?_eq_some_iff.1 ho).1
 have hbn : b < ops.size := (Array.getElem?_eq_some_iff.1 hq).1
 rcases hor with ⟨_, rfl⟩ | ⟨_, hlt, rfl⟩
 ·refine ⟨hin, ?_⟩
  dsimp only
  split <;> omega
 ·exact ⟨hin, by dsimp only; omega⟩
theorem compDr_ok {alive : Nat → Bool} {pan : Nat → V → H → DM} {fin : DM} : ∀ {l : List (Oper × Nat)} {i0 : Nat}, i0 + l.length = ops.size → (∀ k x, l[k]? = some x → ops[i0 + k]? = some x.1 ∧ x.2 = i0 + k) →
  ∀ {es : Nat → Env} {hs : Nat → H} {r : Out}, (compDr X ops alive pan fin l).f c (es i0) (hs i0) (trOf es hs i0) = r → NotBad r →
  ∃ es' hs', (∀ j ≤ i0, es' j = es j ∧ hs' j = hs j) ∧
   (((∀ j, i0 ≤ j → j < ops.size → TS X ops c alive j (es' j) (hs' j) (es' (j + 1)) (hs' (j + 1))) ∧ fin c (es' ops.size) (hs' ops.size) (trOf es' hs' ops.size) = r) ∨
    (∃ M o v e' h', i0 ≤ M ∧ ops[M]? = some o ∧ opClass X.P o.op = 3 ∧ alive M = true ∧ opRun X ops c o (es' M) (hs' M) = .pan v e' h' ∧
     (∀ j, i0 ≤ j → j < M → TS X ops c alive j (es' j) (hs' j) (es' (j + 1)) (hs' (j + 1))) ∧ pan M v h' c (es' M) (hs' M) (trOf es' hs' M) = r))
 | [], i0, hlen, hl, es, hs, r, h, hb => ⟨es, hs, fun _ _ => ⟨rfl, rfl⟩, .inl ⟨fun j h1 h2 => by simp at hlen; omega, by
   simp only [List.length_nil, Nat.add_zero] at hlen
   rw [← hlen]
   exact h⟩⟩
 | (o, i) :: l, i0, hlen, hl, es, hs, r, h, hb => by
  obtain ⟨ho, hi⟩ := hl 0 (o, i) rfl
  simp only [Nat.add_zero] at ho hi
  subst hi
  have hlen' : i + 1 + l.length = ops.size := by simp only [List.length_cons] at hlen; omega
  have hl' : ∀ k x, l[k]? = some x → ops[i + 1 + k]? = some x.1 ∧ x.2 = i + 1 + k := fun k x hk => by
   have := hl (k + 1) x (by simpa using hk)
   rw [show i + (k + 1) = i + 1 + k by omega] at this
   exact this
  have next : ∀ (e1 : Env) (h1 : H), TS X ops c alive i (es i) (hs i) e1 h1 → (compDr X ops alive pan fin l).f c e1 h1 ((es i, hs i) :: trOf es hs i) = r →
    ∃ es' hs', (∀ j ≤ i, es' j = es j ∧ hs' j = hs j) ∧
   (((∀ j, i ≤ j → j < ops.size → TS X ops c alive j (es' j) (hs' j) (es' (j + 1)) (hs' (j + 1))) ∧ fin c (es' ops.size) (hs' ops.size) (trOf es' hs' ops.size) = r) ∨
    (∃ M o v e' h', i ≤ M ∧ ops[M]? = some o ∧ opClass X.P o.op = 3 ∧ alive M = true ∧ opRun X ops c o (es' M) (hs' M) = .pan v e' h' ∧
     (∀ j, i ≤ j → j < M → TS X ops c alive j (es' j) (hs' j) (es' (j + 1)) (hs' (j + 1))) ∧ pan M v h' c (es' M) (hs' M) (trOf es' hs' M) = r)) := by
   intro e1 h1 hts hr
   have hcg : trOf (fun j => if j = i + 1 then e1 else es j) (fun j => if j = i + 1 then h1 else hs j) (i + 1) = (es i, hs i) :: trOf es hs i := by
    rw [trOf_congr (es := es) (hs := hs) fun j hj => by
     have hne : j ≠ i + 1 := by omega
     simp [hne]]
    rfl
   obtain ⟨es', hs', hag, hor⟩ := compDr_ok (l := l) hlen' hl' (es := fun j => if j = i + 1 then e1 else es j) (hs := fun j => if j = i + 1 then h1 else hs j) (r := r) (by
    rw [hcg]; simpa using hr) hb
   have a1 := hag (i + 1) (Nat.le_refl _)
   simp only [if_true] at a1
   have hle : ∀ j ≤ i, es' j = es j ∧ hs' j = hs j := fun j hj => by
    have := hag j (by omega)
    have hne : j ≠ i + 1 := by omega
    simpa [hne] using this
   have hts' : TS X ops c alive i (es' i) (hs' i) (es' (i + 1)) (hs' (i + 1)) := by
    rw [a1.1, a1.2, (hle i (Nat.le_refl _)).1, (hle i (Nat.le_refl _)).2]; exact hts
   have all : ∀ m, (∀ j, i + 1 ≤ j → j < m → TS X ops c alive j (es' j) (hs' j) (es' (j + 1)) (hs' (j + 1))) → ∀ j, i ≤ j → j < m → TS X ops c alive j (es' j) (hs' j) (es' (j + 1)) (hs' (j + 1)) := fun m hm j h1 h2 => by
    rcases Nat.lt_or_ge i j with h | h
    ·exact hm j h h2
    ·obtain rfl : j = i := by omega
     exact hts'
   refine ⟨es', hs', hle, ?_⟩
   rcases hor with ⟨h1, h2⟩ | ⟨M, o', v, e', h', hM, m1, m2, m3, m4, m5, m6⟩
   ·exact .inl ⟨all _ h1, h2⟩
   ·exact .inr ⟨M, o', v, e', h', by omega, m1, m2, m3, m4, all _ m5, m6⟩
  rw [compDr_cons] at h
  unfold drOne at h
  cases hl0 : compDr X ops alive pan fin l with | mk r0 =>
  rw [hl0] at h
  dsimp only at h
  cases hal : alive i with
  | false =>
   rw [hal] at h
   exact next _ _ (.inl ⟨hal, rfl, rfl⟩) (by rw [hl0]; exact h)
  | true =>
   rw [hal] at h
   dsimp only at h
   rcases dst_cases X o.dst _ (badDM "slot") with ⟨s, hs', e1⟩ | e1 <;> rw [e1] at h
   ·rw [dstG_eq] at h
    have hm : ∀ e h, opRun X ops c o e h = (compOper X ops o).f c e h (fun e h => .nrm e h) := fun _ _ => rfl
    cases hcm : compOper X ops o with | mk m =>
    rw [hcm] at h hm
    dsimp only at h
    unfold drStep at h
    split at h
    ·rename_i hcls
     unfold drAct at h
     dsimp only at h
     cases hq : m c (es i) (hs i) (fun e h => .nrm e h) <;> rw [hq] at h <;> try exact bad_of h hb
     ·rename_i e' h'
      dsimp only at h
      refine next _ _ (.inr ⟨hal, o, ho, ⟨s, hs'⟩, e', h', ?_, (dput_eq hs' _ _), ?_⟩) (by rw [hl0]; exact h)
      ·rw [hcls, hm]; exact hq
      ·rw [hcls]; rfl
     ·rename_i v e' h'
      exact ⟨es, hs, fun _ _ => ⟨rfl, rfl⟩, .inr ⟨i, o, v, e', h', Nat.le_refl _, ho, hcls, hal, by rw [hm]; exact hq, fun j h1 h2 => by omega, h⟩⟩
    ·rename_i hcls
     unfold drNew at h
     dsimp only at h
     cases hq : m c (es i) (hs i) (fun e h => .nrm e h) <;> rw [hq] at h <;> try exact bad_of h hb
     rename_i e' h'
     dsimp only at h
     refine next _ _ (.inr ⟨hal, o, ho, ⟨s, hs'⟩, e', h', ?_, (dput_eq hs' _ _), ?_⟩) (by rw [hl0]; exact h)
     ·rw [hcls, hm]; exact hq
     ·rw [hcls]; rfl
    ·rename_i hcls
     unfold drRead at h
     dsimp only at h
     cases hq : m c (es i) (hs i) (fun e h => .nrm e h) <;> rw [hq] at h <;> try exact bad_of h hb
     rename_i e' h'
     dsimp only at h
     refine next _ _ (.inr ⟨hal, o, ho, ⟨s, hs'⟩, e', h', ?_, (dput_eq hs' _ _), ?_⟩) (by rw [hl0]; exact h)
     ·rw [hcls, hm]; exact hq
     ·rw [hcls]; rfl
    ·rename_i c3 c1 c2
     unfold drPure at h
     dsimp only at h
     cases hq : m c (es i) H.empty (fun e h => .nrm e h) <;> rw [hq] at h <;> try exact bad_of h hb
     rename_i e' h'
     dsimp only at h
     refine next _ _ (.inr ⟨hal, o, ho, ⟨s, hs'⟩, e', h', ?_, (dput_eq hs' _ _), ?_⟩) (by rw [hl0]; exact h)
     ·rw [hm]
      have : heapFor (opClass X.P o.op) (hs i) = H.empty := by
       unfold heapFor
       split <;> first | rfl | (exfalso; first | exact c3 (by assumption) | exact c1 (by assumption) | exact c2 (by assumption))
      rw [this]; exact hq
     ·unfold heapAfter
      split <;> first | rfl | (exfalso; first | exact c3 (by assumption) | exact c1 (by assumption))
   ·exact bad_of h hb
end
end Go.Ev
set_option linter.unusedSimpArgs false
set_option linter.unusedVariables false
namespace Go.Ev
noncomputable section
variable {X : Cx} {ops : Array Oper} {c : Call}
theorem blt_irrefl' (j : Nat) : Nat.blt j j = false := by
 cases h : Nat.blt j j
 ·rfl
 ·rw [Nat.blt_eq] at h; omega
theorem compDrawn_ok {ks : List (Bool × Nat × Nat)} (hks : prsOf ops ks = pairsOf X.P ops (Region.before ops) (fun _ => true) (fun _ => true)) {nx : M} {e : Env} {h : H} {r : Out} (hk : (compDrawn X ops ks nx).f c e h = r) (hb : NotBad r) :
  ∃ (alive act : Nat → Bool) (es : Nat → Env) (hs : Nat → H), es 0 = e ∧ hs 0 = h ∧ (∀ j, j < ops.size → TS X ops c alive j (es j) (hs j) (es (j + 1)) (hs (j + 1))) ∧
   (∀ p ∈ pairsOf X.P ops (Region.before ops) alive act, ChkOk X ops c es hs p) ∧
   ((alive = (fun _ => true) ∧ act = (fun _ => true) ∧ nx c (es ops.size) (hs ops.size) = r) ∨
    (∃ M o v e' h', ops[M]? = some o ∧ opClass X.P o.op = 3 ∧ opRun X ops c o (es M) (hs M) = .pan v e' h' ∧ alive = aliveAt (Region.before ops) M ∧ act = (fun i => Nat.ble i M) ∧ r = .pan v (forget ops.toList (es ops.size)) h')) := by
 unfold compDrawn at hk
 rw [hks] at hk
 have hck : ∀ tr k, (compChks X ops ops.size (pairsOf X.P ops (Region.before ops) (fun _ => true) fun _ => true)).f c tr k = (compChks X ops ops.size (pairsOf X.P ops (Region.before ops) (fun _ => true) fun _ => true)).f c tr k := fun _ _ => rfl
 cases hc : compChks X ops ops.size (pairsOf X.P ops (Region.before ops) (fun _ => true) fun _ => true) with | mk ck =>
 rw [hc] at hk
 dsimp only at hk
 have hk' : (compDr X ops (fun _ => true) (panTail X ops) (fun c e h tr => ck c ((e, h) :: tr) (nx c e h)) ops.toList.zipIdx).f c e h [] = r := by
  rw [← hk]
 have hz : ∀ (k : Nat) (x : Oper × Nat), ops.toList.zipIdx[k]? = some x → ops[k]? = some x.1 ∧ x.2 = k := fun k x hx => by
  rw [List.getElem?_zipIdx] at hx
  cases ho : ops[k]? with
  | none => simp [ho] at hx
  | some o => simp [ho] at hx; subst hx; exact ⟨rfl, rfl⟩
 obtain ⟨es, hs, hag, hor⟩ := compDr_ok (ops := ops) (l := ops.toList.zipIdx) (i0 := 0) (by simp) (by simpa using hz) (es := fun _ => e) (hs := fun _ => h) hk' hb
 obtain ⟨h1, h2⟩ := hag 0 (Nat.le_refl _)
 rcases hor with ⟨hts, hfin⟩ | ⟨M, o, v, e', h', _, m1, m2, m3, m4, m5, m6⟩
 ·have hfin' : (compChks X ops ops.size (pairsOf X.P ops (Region.before ops) (fun _ => true) fun _ => true)).f c (trOf es hs (ops.size + 1)) (nx c (es ops.size) (hs ops.size)) = r := by
   rw [hc]; exact hfin
  obtain ⟨f1, f2⟩ := compChks_ok (fun p hp => pairs_lt hp) hfin' hb
  exact ⟨_, _, es, hs, h1, h2, fun j hj => hts j (Nat.zero_le _) hj, f2, .inl ⟨rfl, rfl, f1⟩⟩
 ·have hMn : M < ops.size := (Array.getElem?_eq_some_iff.1 m1).1
  unfold panTail at m6
  have hcg : trOf (fun j => if j = M + 1 then es M else es j) (fun j => if j = M + 1 then hs M else hs j) (M + 1) = (es M, hs M) :: trOf es hs M := by
   rw [trOf_congr (es := es) (hs := hs) fun j hj => by
    have hne : j ≠ M + 1 := by omega
    simp [hne]]
   rfl
  obtain ⟨es', hs', hag', hor'⟩ := compDr_ok (ops := ops) (l := ops.toList.zipIdx.drop (M + 1)) (i0 := M + 1) (by simp; omega) (fun k x hx => by
    rw [List.getElem?_drop] at hx
    exact hz _ x hx) (es := fun j => if j = M + 1 then es M else es j) (hs := fun j => if j = M + 1 then hs M else hs j) (r := r) (by
    rw [hcg]; simpa using m6) hb
  have a1 := hag' (M + 1) (Nat.le_refl _)
  simp only [if_true] at a1
  have hle : ∀ j ≤ M, es' j = es j ∧ hs' j = hs j := fun j hj => by
   have := hag' j (by omega)
   have hne : j ≠ M + 1 := by omega
   simpa [hne] using this
  rcases hor' with ⟨hts, hfin⟩ | ⟨M', o', v', e1, h1', _, _, _, _, _, _, m6'⟩
  ·have hfin' : (compChks X ops ops.size (pairsOf X.P ops (Region.before ops) (aliveAt (Region.before ops) M) (fun i => Nat.ble i M))).f c (trOf es' hs' (ops.size + 1)) (.pan v (forget ops.toList (es' ops.size)) h') = r := hfin
   obtain ⟨f1, f2⟩ := compChks_ok (fun p hp => pairs_lt hp) hfin' hb
   refine ⟨_, _, es', hs', by rw [(hle 0 (Nat.zero_le _)).1, h1], by rw [(hle 0 (Nat.zero_le _)).2, h2], fun j hj => ?_, f2, .inr ⟨M, o, v, e', h', m1, m2, by rw [(hle M (Nat.le_refl _)).1, (hle M (Nat.le_refl _)).2]; exact m4, rfl, rfl, f1.symm⟩⟩
   rcases Nat.lt_trichotomy j M with hjM | rfl | hjM
   ·have := m5 j (Nat.zero_le _) hjM
    rw [(hle j (by omega)).1, (hle j (by omega)).2, (hle (j + 1) (by omega)).1, (hle (j + 1) (by omega)).2]
    rcases this with ⟨hf, _⟩ | ⟨_, hrest⟩
    ·cases hf
    ·exact .inr ⟨by simp [aliveAt, hjM], hrest⟩
   ·exact .inl ⟨by simp [aliveAt, blt_irrefl'], by rw [a1.1, (hle j (Nat.le_refl _)).1], by rw [a1.2, (hle j (Nat.le_refl _)).2]⟩
   ·exact hts j (by omega) hj
  ·exact bad_of m6' hb
def Xat (X : Cx) (ops : Array Oper) (o : Oper) : Cx := X.at fun t => (looks ops o).contains t || o.dst == some t
theorem compOper_Xat (hX : ∀ t, X.kn t = true) (o : Oper) : compOper (Xat X ops o) ops o = compOper X ops o :=
 compOper_kn hX fun t ht => by simp [ht]
theorem compOper_cases {o : Oper} {e : Env} {h : H} {k : K} {r : Out} (hk : (compOper X ops o).f c e h k = r) (hb : NotBad r) :
  ∃ s, SOk X o.dst s ∧ (((compOp X o s).f c e h k = r ∧ ∀ E a, ERel X E e a → Region.wanted o (yielded ops a.tmps) = true) ∨
   (k (s e .undef) h = r ∧ ∀ E a, ERel X E e a → Region.wanted o (yielded ops a.tmps) = false)) := by
 unfold compOper at hk
 rcases dst_cases X o.dst _ (badOp "slot") with ⟨s, hs, e1⟩ | e1 <;> rw [e1] at hk
 ·refine ⟨s, hs, ?_⟩
  have hrun : ∀ k r, (compOp X o s).f c e h k = r → (compOp X o s).f c e h k = r := fun _ _ h => h
  cases hm : compOp X o s with | mk m =>
  rw [hm] at hk
  dsimp only at hk ⊢
  cases hg : o.guard with
  | none =>
   rw [hg] at hk
   exact .inl ⟨hk, fun E a he => by simp [Region.wanted, hg]⟩
  | some jw =>
   obtain ⟨j, want⟩ := jw
   rw [hg] at hk
   dsimp only at hk
   cases hd : (ops[j]?).bind (·.dst) with
   | none => rw [hd] at hk; exact bad_of hk hb
   | some t =>
    rw [hd] at hk
    dsimp only at hk
    rcases opd_cases X (.tmp t) _ (badOp "guard") with ⟨g, hgk, e2⟩ | e2 <;> rw [e2] at hk
    ·have hy : ∀ a : Act, yielded ops a.tmps j = (match a.eval (.tmp t) with | .bool b => some b | _ => none) := by
      intro a
      unfold yielded
      rw [hd]
      simp only [Option.bind_some, Act.eval, Array.getD_eq_getD_getElem?]
      cases hq : a.tmps[t]? with
      | none => simp [undef]
      | some v => simp only [Option.getD_some]; cases v <;> rfl
     have hrel := fun E a (he : ERel X E e a) => hgk E e a he
     cases want
     ·dsimp only at hk
      cases hv : g e <;> simp only [hv] at hk hrel <;> try exact bad_of hk hb
      ·exact .inr ⟨hk, fun E a he => by have := hrel E a he; simp only [Rel] at this; simp [Region.wanted, hg, hy, this]⟩
      ·rename_i b
       cases b
       ·exact .inl ⟨hk, fun E a he => by have := hrel E a he; simp only [Rel] at this; simp [Region.wanted, hg, hy, this]⟩
       ·exact .inr ⟨hk, fun E a he => by have := hrel E a he; simp only [Rel] at this; simp [Region.wanted, hg, hy, this]⟩
     ·dsimp only at hk
      cases hv : g e <;> simp only [hv] at hk hrel <;> try exact bad_of hk hb
      ·exact .inr ⟨hk, fun E a he => by have := hrel E a he; simp only [Rel] at this; simp [Region.wanted, hg, hy, this]⟩
      ·rename_i b
       cases b
       ·exact .inr ⟨hk, fun E a he => by have := hrel E a he; simp only [Rel] at this; simp [Region.wanted, hg, hy, this]⟩
       ·exact .inl ⟨hk, fun E a he => by have := hrel E a he; simp only [Rel] at this; simp [Region.wanted, hg, hy, this]⟩
    ·exact bad_of hk hb
 ·exact bad_of hk hb
theorem gOf_put {o : Oper} {s : S} (hs : SOk X o.dst s) (e : Env) (v : V) : o.dst ≠ none → gOf o (s e v) = v := by
 intro hd
 unfold gOf
 cases h : o.dst with
 | none => exact absurd h hd
 | some t => rw [h] at hs; simp only [SOk] at hs; obtain ⟨_, _, rfl⟩ := hs; exact slot_put_same e t v
theorem stepOp_value {o : Oper} {a : Act} {w w' : World} {x : Value} (hw : Region.wanted o (yielded ops a.tmps) = true) (hx : (execOp a.eval o).run X.P w = .ok (.value x) w') :
  ∀ next Q, next (a.put o.dst x) w' → stepOp X.P ops o a w next Q := fun next Q hn => by
 unfold stepOp
 rw [if_pos hw]
 unfold Oper.wp
 rw [hx, Oper.upon_value]
 exact hn
theorem stepOp_skip {o : Oper} {a : Act} {w : World} (hw : Region.wanted o (yielded ops a.tmps) = false) :
  ∀ next Q, next (a.put o.dst undef) w → stepOp X.P ops o a w next Q := fun next Q hn => by
 unfold stepOp
 rw [if_neg (by rw [hw]; simp)]
 exact hn
theorem real_read (hq : EqsOk X.P X.eqs) (hX : ∀ t, X.kn t = true) (hcl : CallOk X.P X.gl c) {o : Oper} (h1 : opClass X.P o.op ≠ 1) (h3 : opClass X.P o.op ≠ 3) {e e' : Env} {hx h' : H} (hr : opRun X ops c o e hx = .nrm e' h')
  {E : Emb} {a : Act} {w : World} (he : ERel (Xat X ops o) E e a) (hsub : HSub E hx w) :
  ∃ x, (o.dst ≠ none → Rel E (gOf o e') x) ∧ ∀ next Q, next (a.put o.dst x) w → stepOp X.P ops o a w next Q := by
 unfold opRun at hr
 rw [← compOper_Xat hX] at hr
 obtain ⟨s, hs, hor⟩ := compOper_cases hr (by intro s h; cases h)
 rcases hor with ⟨hm, hw⟩ | ⟨hm, hw⟩
 ·have hread := class02_ok (X := Xat X ops o) (o := o) (s := s) hq h1 h3
  obtain ⟨v, x, e1, e2, e3⟩ := hread c hcl E e hx a w he hsub _ _ hm (by intro s h; cases h)
  cases e1
  exact ⟨x, fun hd => by rw [gOf_put hs e v hd]; exact e3, stepOp_value (hw E a he) e2⟩
 ·cases hm
  exact ⟨undef, fun hd => by rw [gOf_put hs e _ hd]; simp [Rel, undef], stepOp_skip (hw E a he)⟩
structure NewAt (X : Cx) (ops : Array Oper) (o : Oper) (e : Env) (h h1 : H) (e' : Env) (b : Blk) : Prop where
 free : h.blk h.next = .free
 same : h1.blk h.next = b
 rest : ∀ j, j ≠ h.next → h1.blk j = h.blk j
 sol : Solid b
 anc : ∀ c n x a, b = .live c n x a → a = []
 step : ∀ E a w, ERel (Xat X ops o) E e a → ∃ x obj, (∀ next Q, next (a.put o.dst x) { w with heap := w.heap.push obj } → stepOp X.P ops o a w next Q) ∧
  ∀ E', E.le E' → E' h.next = some ⟨w.heap.size, 0, 0, 0⟩ → (o.dst ≠ none → Rel E' (gOf o e') x) ∧ ∀ (w' : World), w'.heap[w.heap.size]? = some obj → BlkRel E' w' ⟨w.heap.size, 0, 0, 0⟩ b
theorem text_alloc (hX : ∀ t, X.kn t = true) {o : Oper} (h1 : opClass X.P o.op = 1) {e e' : Env} {h h' : H} (hr : opRun X ops c o e h = .nrm e' h') :
  (h' = h ∧ ∀ E a w, ERel (Xat X ops o) E e a → ∃ x, (o.dst ≠ none → Rel E (gOf o e') x) ∧ ∀ next Q, next (a.put o.dst x) w → stepOp X.P ops o a w next Q) ∨
  (∃ b, NewAt X ops o e h h' e' b) := by
 unfold opRun at hr
 rw [← compOper_Xat hX] at hr
 obtain ⟨s, hs, hor⟩ := compOper_cases hr (by intro s h; cases h)
 rcases hor with ⟨hm, hw⟩ | ⟨hm, hw⟩
 ·right
  obtain ⟨b, v, hsp, hn⟩ := class1_ok (X := Xat X ops o) (o := o) (s := s) h1 c e h _ _ hm (by intro s h; cases h)
  obtain ⟨h'', f1, f2, f3, f4⟩ := new_spec hn (by intro s h; cases h)
  cases f2
  refine ⟨b, f1, f3, f4, hsp.sol, hsp.anc, fun E a w he => ?_⟩
  obtain ⟨x, obj, g1, g2⟩ := hsp.run E a w he
  exact ⟨x, obj, stepOp_value (hw E a he) g1, fun E' hE hi => ⟨fun hd => by rw [gOf_put hs e _ hd]; exact (g2 E' _ hE hi).1, (g2 E' _ hE hi).2⟩⟩
 ·cases hm
  exact .inl ⟨rfl, fun E a w he => ⟨undef, fun hd => by rw [gOf_put hs e _ hd]; simp [Rel, undef], stepOp_skip (hw E a he)⟩⟩
theorem real_act (hq : EqsOk X.P X.eqs) (hX : ∀ t, X.kn t = true) (hcl : CallOk X.P X.gl c) {o : Oper} {e e' : Env} {h h' : H} (hr : opRun X ops c o e h = .nrm e' h')
  {E : Emb} {a : Act} {w : World} (he : ERel (Xat X ops o) E e a) (hh : HRel E h w) :
  ∀ next Q, (∀ E' a' w', Run E h w E' h' w' → a'.tmps.size = a.tmps.size → (∀ t < 992, o.dst = some t → Rel E' (gOf o e') (a'.tmps.getD t undef)) → Keeps o a a' → next a' w') → stepOp X.P ops o a w next Q := by
 unfold opRun at hr
 rw [← compOper_Xat hX] at hr
 rcases compOper_ok (X := Xat X ops o) hq ops o c hcl he hh hr (by intro s h; cases h) with ⟨e1, h1, hk, hfin⟩ | ⟨v, h1, hk, _⟩
 ·cases hk
  intro next Q hn
  refine hfin next Q fun E' a' w' hR he' hkp => hn E' a' w' hR (he'.size.trans he.size.symm) (fun t ht hd => ?_) hkp
  have := he'.tmps t ht (by simp [Xat, hd])
  unfold gOf
  rw [hd]
  exact this
 ·cases hk
theorem real_pan (hq : EqsOk X.P X.eqs) (hX : ∀ t, X.kn t = true) (hcl : CallOk X.P X.gl c) {o : Oper} {e e' : Env} {h h' : H} {v : V} (hr : opRun X ops c o e h = .pan v e' h')
  {E : Emb} {a : Act} {w : World} (he : ERel (Xat X ops o) E e a) (hh : HRel E h w) :
  ∀ next Q, (∀ E' x w', Run E h w E' h' w' → Rel E' v x → Q (.panic [{ v := x, recovered := false }]) a w') → stepOp X.P ops o a w next Q := by
 unfold opRun at hr
 rw [← compOper_Xat hX] at hr
 rcases compOper_ok (X := Xat X ops o) hq ops o c hcl he hh hr (by intro s h; cases h) with ⟨e1, h1, hk, hfin⟩ | ⟨v, h1, hk, hfin⟩
 ·cases hk
 ·cases hk
  exact hfin
end
end Go.Ev
set_option linter.unusedSimpArgs false
set_option linter.unusedVariables false
namespace Go.Ev
noncomputable section
variable {X : Cx} {ops : Array Oper} {c : Call}
theorem gOf_dput {o : Oper} (e : Env) (v : V) : o.dst ≠ none → gOf o (dput o e v) = v := by
 intro hd
 unfold gOf dput
 cases h : o.dst with
 | none => exact absurd h hd
 | some t => exact slot_put_same e t v
structure Txt (X : Cx) (ops : Array Oper) (alive act : Nat → Bool) (es : Nat → Env) (hs : Nat → H) (nb : Nat → Option Blk) : Prop where
 back : backOK ops = true
 acts : actOK X.P ops (Region.before ops) = true
 dep : depOK ops (Region.before ops) = true
 dead : ∀ j, j < ops.size → alive j = false → es (j + 1) = es j ∧ hs (j + 1) = hs j ∧ nb j = none
 env : ∀ j o, ops[j]? = some o → alive j = true → (∃ s, SOk X o.dst s) ∧ ∃ v, es (j + 1) = dput o (es j) v
 old : ∀ j, j < ops.size → nb j = none → clsAt X.P ops j ≠ 3 → hs (j + 1) = hs j
 new : ∀ j b, nb j = some b → ∃ o, ops[j]? = some o ∧ alive j = true ∧ opClass X.P o.op = 1 ∧ NewAt X ops o (es j) (hs j) (hs (j + 1)) (es (j + 1)) b
 pure : ∀ j o, ops[j]? = some o → alive j = true → opClass X.P o.op ≠ 3 → nb j = none → ∀ hx,
  (opClass X.P o.op = 2 → hx = hs j ∨ ∃ b, clsAt X.P ops b = 3 ∧ act b = true ∧ ¬ pre ops j b ∧ ¬ pre ops b j ∧ hx = hs (if Nat.blt b j then b else b + 1)) → (opClass X.P o.op ≠ 2 → hx = H.empty) →
  ∀ E a w, ERel (Xat X ops o) E (es j) a → HSub E hx w → ∃ x, (o.dst ≠ none → Rel E (gOf o (es (j + 1))) x) ∧ ∀ next Q, next (a.put o.dst x) w → stepOp X.P ops o a w next Q
 stepA : ∀ j o, ops[j]? = some o → alive j = true → opClass X.P o.op = 3 → ∀ E a w, ERel (Xat X ops o) E (es j) a → HRel E (hs j) w →
  ∀ next Q, (∀ E' a' w', Run E (hs j) w E' (hs (j + 1)) w' → a'.tmps.size = a.tmps.size → (∀ t < 992, o.dst = some t → Rel E' (gOf o (es (j + 1))) (a'.tmps.getD t undef)) → Keeps o a a' → next a' w') → stepOp X.P ops o a w next Q
 fresh : ∀ k b, nb k ≠ none → clsAt X.P ops b = 3 → act b = true → b < k → ¬ pre ops b k → (hs b).blk (hs k).next = .free
theorem clsAt_some {P : Program} {j : Nat} {o : Oper} (h : ops[j]? = some o) : clsAt P ops j = opClass P o.op := by unfold clsAt; rw [h]
theorem clsAt_lt {P : Program} {j : Nat} (h : clsAt P ops j ≠ 0) : ∃ o, ops[j]? = some o := by
 unfold clsAt at h
 cases ho : ops[j]? with
 | none => rw [ho] at h; exact absurd rfl h
 | some o => exact ⟨o, rfl⟩
theorem ordB_false {i b : Nat} : ordB (Region.before ops) i b = false ↔ ¬ pre ops i b ∧ ¬ pre ops b i := by
 unfold ordB pre
 rw [Bool.or_eq_false_iff]
 simp
open Classical in
theorem txt_of {alive act : Nat → Bool} {es : Nat → Env} {hs : Nat → H} (hq : EqsOk X.P X.eqs) (hX : ∀ t, X.kn t = true) (hcl : CallOk X.P X.gl c)
  (hback : backOK ops = true) (hacts : actOK X.P ops (Region.before ops) = true) (hdep : depOK ops (Region.before ops) = true)
  (hts : ∀ j, j < ops.size → TS X ops c alive j (es j) (hs j) (es (j + 1)) (hs (j + 1)))
  (hck : ∀ p ∈ pairsOf X.P ops (Region.before ops) alive act, ChkOk X ops c es hs p) : ∃ nb, Txt X ops alive act es hs nb := by
 have lt_of : ∀ {j o}, ops[j]? = some o → j < ops.size := fun h => (Array.getElem?_eq_some_iff.1 h).1
 let nbp : Nat → Blk → Prop := fun j b => ∃ o, ops[j]? = some o ∧ alive j = true ∧ opClass X.P o.op = 1 ∧ NewAt X ops o (es j) (hs j) (hs (j + 1)) (es (j + 1)) b
 let nb : Nat → Option Blk := fun j => if h : ∃ b, nbp j b then some (Classical.choose h) else none
 have nb_some : ∀ j b, nb j = some b → nbp j b := fun j b h => by
  simp only [nb] at h
  split at h
  ·rename_i hex
   cases h
   exact Classical.choose_spec hex
  ·cases h
 have nb_none : ∀ j, nb j = none → ∀ b, ¬ nbp j b := fun j h b hb => by
  simp only [nb] at h
  rw [dif_pos ⟨b, hb⟩] at h
  cases h
 have alive_step : ∀ j o, ops[j]? = some o → alive j = true → (∃ s, SOk X o.dst s) ∧ ∃ e' h', opRun X ops c o (es j) (heapFor (opClass X.P o.op) (hs j)) = .nrm e' h' ∧ es (j + 1) = dput o (es j) (gOf o e') ∧ hs (j + 1) = heapAfter (opClass X.P o.op) (hs j) h' := by
  intro j o ho ha
  rcases hts j (lt_of ho) with ⟨hf, _⟩ | ⟨_, o', ho', hs', e', h', h1, h2, h3⟩
  ·rw [ha] at hf; cases hf
  ·rw [ho] at ho'; cases ho'
   exact ⟨hs', e', h', h1, h2, h3⟩
 have gcongr : ∀ {j o e'}, es (j + 1) = dput o (es j) (gOf o e') → o.dst ≠ none → gOf o (es (j + 1)) = gOf o e' := fun h hd => by rw [h, gOf_dput _ _ hd]
 have alloc_case : ∀ j o, ops[j]? = some o → alive j = true → opClass X.P o.op = 1 → nb j = none → hs (j + 1) = hs j ∧
   ∀ E a w, ERel (Xat X ops o) E (es j) a → ∃ x, (o.dst ≠ none → Rel E (gOf o (es (j + 1))) x) ∧ ∀ next Q, next (a.put o.dst x) w → stepOp X.P ops o a w next Q := by
  intro j o ho ha hc hn
  obtain ⟨_, e', h', h1, h2, h3⟩ := alive_step j o ho ha
  rw [hc] at h1 h3
  rcases text_alloc hX hc h1 with ⟨hh, hst⟩ | ⟨b, hb⟩
  ·refine ⟨h3.trans hh, fun E a w he => ?_⟩
   obtain ⟨x, x1, x2⟩ := hst E a w he
   exact ⟨x, fun hd => by rw [gcongr h2 hd]; exact x1 hd, x2⟩
  ·exfalso
   refine nb_none j hn b ⟨o, ho, ha, hc, ?_⟩
   rw [show hs (j + 1) = h' from h3]
   refine ⟨hb.free, hb.same, hb.rest, hb.sol, hb.anc, fun E a w he => ?_⟩
   obtain ⟨x, obj, s1, s2⟩ := hb.step E a w he
   exact ⟨x, obj, s1, fun E' hE hi => ⟨fun hd => by rw [gcongr h2 hd]; exact (s2 E' hE hi).1 hd, (s2 E' hE hi).2⟩⟩
 refine ⟨nb, {
  back := hback, acts := hacts, dep := hdep,
  dead := fun j hj ha => ?_, env := fun j o ho ha => ?_, old := fun j hj hn hc => ?_, new := fun j b h => nb_some j b h, pure := ?_, stepA := ?_, fresh := ?_ }⟩
 ·rcases hts j hj with ⟨_, h1, h2⟩ | ⟨ht, _⟩
  ·refine ⟨h1, h2, ?_⟩
   cases hn : nb j with
   | none => rfl
   | some b => obtain ⟨_, _, ha', _⟩ := nb_some j b hn; rw [ha] at ha'; cases ha'
  ·rw [ha] at ht; cases ht
 ·obtain ⟨h1, e', _, _, h2, _⟩ := alive_step j o ho ha
  exact ⟨h1, _, h2⟩
 ·rcases hts j hj with ⟨_, _, h2⟩ | ⟨ha, o, ho, _, e', h', h1, h2, h3⟩
  ·exact h2
  ·rw [clsAt_some ho] at hc
   by_cases hc1 : opClass X.P o.op = 1
   ·exact (alloc_case j o ho ha hc1 hn).1
   ·rw [h3]
    unfold heapAfter
    split <;> first | rfl | (exfalso; first | exact hc (by assumption) | exact hc1 (by assumption))
 ·intro j o ho ha hc3 hn hx hx2 hx0 E a w he hsub
  by_cases hc1 : opClass X.P o.op = 1
  ·exact (alloc_case j o ho ha hc1 hn).2 E a w he
  ·obtain ⟨_, e', h', h1, h2, _⟩ := alive_step j o ho ha
   by_cases hc2 : opClass X.P o.op = 2
   ·rcases hx2 hc2 with rfl | ⟨b, hb3, hab, hp1, hp2, rfl⟩
    ·have : heapFor (opClass X.P o.op) (hs j) = hs j := by rw [hc2]; rfl
     rw [this] at h1
     obtain ⟨x, x1, x2⟩ := real_read hq hX hcl hc1 hc3 h1 he hsub
     exact ⟨x, fun hd => by rw [gcongr h2 hd]; exact x1 hd, x2⟩
    ·obtain ⟨q, hq'⟩ := clsAt_lt (P := X.P) (j := b) (by rw [hb3]; decide)
     rw [clsAt_some hq'] at hb3
     have := (hck _ (mem_pairs.2 ⟨j, b, o, q, ho, hq', hb3, ha, hab, ordB_false.2 ⟨hp1, hp2⟩, .inl ⟨hc2, rfl⟩⟩)).1 rfl
     obtain ⟨e1, h1', r1, r2⟩ := this
     obtain ⟨x, x1, x2⟩ := real_read hq hX hcl hc1 hc3 r1 he hsub
     exact ⟨x, fun hd => by rw [← show gOf o e1 = gOf o (es (j + 1)) from r2]; exact x1 hd, x2⟩
   ·have : heapFor (opClass X.P o.op) (hs j) = H.empty := by
     unfold heapFor
     split <;> first | rfl | (exfalso; first | exact hc3 (by assumption) | exact hc1 (by assumption) | exact hc2 (by assumption))
    rw [this] at h1
    rw [hx0 hc2] at hsub
    obtain ⟨x, x1, x2⟩ := real_read hq hX hcl hc1 hc3 h1 he hsub
    exact ⟨x, fun hd => by rw [gcongr h2 hd]; exact x1 hd, x2⟩
 ·intro j o ho ha hc E a w he hh next Q hn
  obtain ⟨_, e', h', h1, h2, h3⟩ := alive_step j o ho ha
  rw [hc] at h1 h3
  rw [show hs (j + 1) = h' from h3] at hn
  refine real_act hq hX hcl h1 he hh next Q fun E' a' w' hR hsz hv hk => hn E' a' w' hR hsz (fun t ht hd => ?_) hk
  rw [gcongr h2 (by rw [hd]; simp)]
  exact hv t ht hd
 ·intro k b hk hb hab hlt hp
  cases hn : nb k with
  | none => exact absurd hn hk
  | some bl =>
   obtain ⟨o, ho, ha, hc, _⟩ := nb_some k bl hn
   obtain ⟨q, hq'⟩ := clsAt_lt (P := X.P) (j := b) (by rw [hb]; decide)
   rw [clsAt_some hq'] at hb
   have hnp : ¬ pre ops k b := fun h => by have := pre_lt hback h; omega
   exact (hck _ (mem_pairs.2 ⟨k, b, o, q, ho, hq', hb, ha, hab, ordB_false.2 ⟨hnp, hp⟩, .inr ⟨hc, hlt, rfl⟩⟩)).2 rfl
section
variable {alive act : Nat → Bool} {es : Nat → Env} {hs : Nat → H} {nb : Nat → Option Blk}
abbrev lt_of_op {j : Nat} {o : Oper} (h : ops[j]? = some o) : j < ops.size := (Array.getElem?_eq_some_iff.1 h).1
theorem slot_dput {o : Oper} {s : S} (hs : SOk X o.dst s) (e : Env) (v : V) {t : Nat} (ht : t < 1024) : slot (dput o e v) t = if o.dst = some t then v else slot e t := by
 unfold dput
 cases hd : o.dst with
 | none => simp
 | some u =>
  rw [hd] at hs
  simp only [SOk] at hs
  have hu : @LT.lt Nat _ u 992 := Nat.lt_of_lt_of_le hs.1 hs.2.1
  dsimp only
  by_cases h : u = t
  ·subst h; simp [slot_put_same]
  ·rw [slot_put_ne e (by omega) ht h]; simp [h]
theorem Txt.slot_none (T : Txt X ops alive act es hs nb) {t : Nat} (ht : t < 1024) : ∀ {j i : Nat}, i ≤ j → j ≤ ops.size → (∀ k o, i ≤ k → k < j → alive k = true → ops[k]? = some o → o.dst ≠ some t) → slot (es j) t = slot (es i) t := by
 intro j
 induction j with
 | zero =>
   intro i h _ _; obtain rfl : i = 0 := by omega
   rfl
 | succ j ih =>
  intro i hij hj h
  rcases Nat.lt_or_ge j i with h' | h'
  ·obtain rfl : i = j + 1 := by omega
   rfl
  ·rw [← ih h' (by omega) fun k o h1 h2 => h k o h1 (by omega)]
   have hjn : j < ops.size := by omega
   cases ha : alive j with
   | false => rw [(T.dead j hjn ha).1]
   | true =>
    obtain ⟨⟨s, hs'⟩, v, hv⟩ := T.env j ops[j] (Array.getElem?_eq_getElem hjn) ha
    rw [hv, slot_dput hs' _ _ ht, if_neg (h j _ h' (by omega) ha (Array.getElem?_eq_getElem hjn))]
theorem Txt.slot_own (T : Txt X ops alive act es hs nb) {k : Nat} {o : Oper} (ho : ops[k]? = some o) {t : Nat} (ht : t < 1024) (hd : o.dst = some t) {j : Nat} (hkj : k < j) (hj : j ≤ ops.size) : slot (es j) t = gOf o (es (k + 1)) := by
 rw [T.slot_none ht (i := k + 1) (by omega) hj fun q p h1 _ _ hp hpd => (depOK_spec T.dep ho hp hpd (by omega)).1 hd]
 unfold gOf
 rw [hd]
def noAct (X : Cx) (ops : Array Oper) (alive : Nat → Bool) (i j : Nat) : Prop := ∀ k, i ≤ k → k < j → alive k = true → clsAt X.P ops k ≠ 3
theorem Txt.nb_alive (T : Txt X ops alive act es hs nb) {k : Nat} {b : Blk} (h : nb k = some b) : k < ops.size ∧ alive k = true ∧ clsAt X.P ops k = 1 := by
 obtain ⟨o, ho, ha, hc, _⟩ := T.new k b h
 exact ⟨lt_of_op ho, ha, by rw [clsAt_some ho]; exact hc⟩
theorem Txt.nb_new (T : Txt X ops alive act es hs nb) {k : Nat} {b : Blk} (h : nb k = some b) : (hs k).blk (hs k).next = .free ∧ (hs (k + 1)).blk (hs k).next = b ∧ (∀ j, j ≠ (hs k).next → (hs (k + 1)).blk j = (hs k).blk j) ∧ Solid b ∧ (∀ c n x a, b = .live c n x a → a = []) := by
 obtain ⟨o, ho, ha, hc, hn⟩ := T.new k b h
 exact ⟨hn.free, hn.same, hn.rest, hn.sol, hn.anc⟩
theorem Txt.seg (T : Txt X ops alive act es hs nb) : ∀ {j i : Nat}, i ≤ j → j ≤ ops.size → noAct X ops alive i j → ∀ id,
  ((hs j).blk id = (hs i).blk id ∧ ∀ k b, i ≤ k → k < j → nb k = some b → id ≠ (hs k).next) ∨
  (∃ k b, i ≤ k ∧ k < j ∧ nb k = some b ∧ id = (hs k).next ∧ (hs i).blk id = .free ∧ (hs j).blk id = b) := by
 intro j
 induction j with
 | zero =>
   intro i h _ _ id; obtain rfl : i = 0 := by omega
   exact .inl ⟨rfl, fun k b h1 h2 => by omega⟩
 | succ j ih =>
  intro i hij hj hna id
  rcases Nat.lt_or_ge j i with h' | h'
  ·obtain rfl : i = j + 1 := by omega
   exact .inl ⟨rfl, fun k b h1 h2 => by omega⟩
  ·have := ih h' (by omega) (fun k h1 h2 => hna k h1 (by omega)) id
   cases hn : nb j with
   | none =>
    have hsame : hs (j + 1) = hs j := by
     cases ha : alive j with
     | false => exact (T.dead j (by omega) ha).2.1
     | true => exact T.old j (by omega) hn (hna j h' (by omega) ha)
    rw [hsame]
    rcases this with ⟨h1, h2⟩ | ⟨k, b, h1, h2, h3⟩
    ·refine .inl ⟨h1, fun k b k1 k2 k3 => ?_⟩
     rcases Nat.lt_or_ge k j with h | h
     ·exact h2 k b k1 h k3
     ·obtain rfl : k = j := by omega
      rw [hn] at k3; cases k3
    ·exact .inr ⟨k, b, h1, by omega, h3⟩
   | some b =>
    obtain ⟨n1, n2, n3, n4, n5⟩ := T.nb_new hn
    by_cases hid : id = (hs j).next
    ·subst hid
     rcases this with ⟨h1, h2⟩ | ⟨k, b', h1, h2, h3, h4, h5, h6⟩
     ·exact .inr ⟨j, b, h', by omega, hn, rfl, h1 ▸ n1, n2⟩
     ·exfalso
      rw [n1] at h6
      exact (T.nb_new h3).2.2.2.1.not_free h6.symm
    ·rcases this with ⟨h1, h2⟩ | ⟨k, b', h1, h2, h3, h4, h5, h6⟩
     ·refine .inl ⟨by rw [n3 id hid]; exact h1, fun k b k1 k2 k3 => ?_⟩
      rcases Nat.lt_or_ge k j with h | h
      ·exact h2 k b k1 h k3
      ·obtain rfl : k = j := by omega
       exact hid
     ·exact .inr ⟨k, b', h1, by omega, h3, h4, h5, by rw [n3 id hid]; exact h6⟩
theorem Txt.free_at (T : Txt X ops alive act es hs nb) {k : Nat} (hk : nb k ≠ none) (hact : ∀ b, alive b = true → clsAt X.P ops b = 3 → act b = true) : ∀ {s : Nat}, s ≤ k → (∀ b, s ≤ b → b < k → alive b = true → clsAt X.P ops b = 3 → ¬ pre ops b k) → (hs s).blk (hs k).next = .free := by
 intro s hs' hp
 cases hn : nb k with
 | none => exact absurd hn hk
 | some bl =>
  have hkn := (T.nb_alive hn).1
  by_cases hex : ∃ b, s ≤ b ∧ b < k ∧ alive b = true ∧ clsAt X.P ops b = 3
  ·obtain ⟨hb, hmin⟩ := least_spec hex
   generalize least (fun b => s ≤ b ∧ b < k ∧ alive b = true ∧ clsAt X.P ops b = 3) = b at hb hmin
   obtain ⟨b1, b2, b3, b4⟩ := hb
   have hf := T.fresh k b hk b4 (hact b b3 b4) b2 (hp b b1 b2 b3 b4)
   have hna : noAct X ops alive s b := fun q q1 q2 q3 q4 => by have := hmin q ⟨q1, by omega, q3, q4⟩; omega
   rcases T.seg b1 (by omega) hna (hs k).next with ⟨h1, _⟩ | ⟨q, b', q1, q2, q3, q4, q5, q6⟩
   ·rw [← h1]; exact hf
   ·exact q5
  ·have hna : noAct X ops alive s k := fun q q1 q2 q3 q4 => hex ⟨q, q1, q2, q3, q4⟩
   rcases T.seg hs' (by omega) hna (hs k).next with ⟨h1, _⟩ | ⟨q, b', q1, q2, q3, q4, q5, q6⟩
   ·rw [← h1]; exact (T.nb_new hn).1
   ·exact q5
theorem Txt.distinct (T : Txt X ops alive act es hs nb) {i k : Nat} (hk : nb k ≠ none) (hi : nb i ≠ none) (hki : k < i) (hact : ∀ b, alive b = true → clsAt X.P ops b = 3 → act b = true)
  (hp : ∀ b, k < b → b < i → alive b = true → clsAt X.P ops b = 3 → ¬ pre ops b i) : (hs k).next ≠ (hs i).next := by
 intro he
 cases hn : nb k with
 | none => exact absurd hn hk
 | some bl =>
  have hf := T.free_at hi hact (s := k + 1) (by omega) fun b h1 h2 => hp b (by omega) h2
  rw [← he, (T.nb_new hn).2.1] at hf
  exact (T.nb_new hn).2.2.2.1.not_free hf
end
end
end Go.Ev
set_option linter.unusedSimpArgs false
set_option linter.unusedVariables false
namespace Go.Ev
noncomputable section
variable {X : Cx} {ops : Array Oper} {c : Call}
abbrev Early := Id → Option (Nat × Loc)
def EE (E : Emb) (R : Early) (i : Nat) : Emb := fun id => match E id with
 | some L => some L
 | none => match R id with
  | some (k, L) => if k < i then some L else none
  | none => none
theorem le_EE (E : Emb) (R : Early) (i : Nat) : E.le (EE E R i) := fun id L h => by unfold EE; rw [h]
theorem EE_some {E : Emb} {R : Early} {i : Nat} {id : Id} {L : Loc} (h : EE E R i id = some L) : E id = some L ∨ (E id = none ∧ ∃ k, R id = some (k, L) ∧ k < i) := by
 unfold EE at h
 cases hE : E id with
 | some L' => rw [hE] at h; exact .inl h
 | none =>
  rw [hE] at h
  dsimp only at h
  cases hR : R id with
  | none => rw [hR] at h; cases h
  | some kl =>
   obtain ⟨k, L'⟩ := kl
   rw [hR] at h
   dsimp only at h
   split at h
   ·rename_i hk; cases h; exact .inr ⟨rfl, k, rfl, hk⟩
   ·cases h
theorem EE_early {E : Emb} {R : Early} {i k : Nat} {id : Id} {L : Loc} (hE : E id = none) (hR : R id = some (k, L)) (hk : k < i) : EE E R i id = some L := by
 unfold EE
 rw [hE]; dsimp only; rw [hR]; dsimp only; rw [if_pos hk]
theorem EE_mono (E : Emb) (R : Early) {i j : Nat} (hij : i ≤ j) : (EE E R i).le (EE E R j) := fun id L h => by
 rcases EE_some h with h | ⟨h, k, hR, hk⟩
 ·exact le_EE E R j id L h
 ·exact EE_early h hR (by omega)
theorem EE_le {E E' : Emb} {R R' : Early} (hE : E.le E') (hR : ∀ id k L, E id = none → R id = some (k, L) → E' id = some L ∨ (E' id = none ∧ R' id = some (k, L))) (i : Nat) : (EE E R i).le (EE E' R' i) := fun id L h => by
 rcases EE_some h with h | ⟨h, k, hr, hk⟩
 ·exact le_EE E' R' i id L (hE id L h)
 ·rcases hR id k L h hr with h' | ⟨h1, h2⟩
  ·exact le_EE E' R' i id L h'
  ·exact EE_early h1 h2 hk
theorem EE_eq {E : Emb} {R : Early} {i : Nat} (h : ∀ id k L, R id = some (k, L) → i ≤ k) : EE E R i = E := by
 funext id
 unfold EE
 cases hE : E id with
 | some L => rfl
 | none =>
  dsimp only
  cases hR : R id with
  | none => rfl
  | some kl =>
   obtain ⟨k, L⟩ := kl
   dsimp only
   rw [if_neg (by have := h id k L hR; omega)]
theorem HRel.congr {E : Emb} {h h2 : H} {w : World} (hr : HRel E h w) (he : ∀ id, h2.blk id = h.blk id) : HRel E h2 w := by
 have hl : ∀ i j, Linked h2 i j ↔ Linked h i j := fun i j => by unfold Linked; rw [he j]
 have hw : ∀ i, Wr h2 i ↔ Wr h i := fun i => by unfold Wr; rw [he i]
 exact {
  dom := fun i => by rw [he i]; exact hr.dom i
  lt := hr.lt
  rel := fun i L e => by rw [he i]; exact hr.rel i L e
  inj := fun i j Li Lj ei ej hne hb hsi hsj hwi => by rw [he i] at hsi; rw [he j] at hsj; rw [hl, hl]; exact hr.inj i j Li Lj ei ej hne hb hsi hsj ((hw i).1 hwi)
  ancs := fun i j h => hr.ancs i j ((hl i j).1 h)
  ext := fun i j h => by rw [hw]; exact hr.ext i j ((hl i j).1 h)
  ends := fun i j Li Lj ci ni xi ai cj nj xj aj ei ej hi hj hm hb => by rw [he i] at hi; rw [he j] at hj; exact hr.ends i j Li Lj ci ni xi ai cj nj xj aj ei ej hi hj hm hb }
theorem Run.congr {E0 E : Emb} {h0 h h2 : H} {w0 w : World} (hR : Run E0 h0 w0 E h w) (he : ∀ id, h2.blk id = h.blk id) : Run E0 h0 w0 E h2 w :=
 { hR with
  rel := hR.rel.congr he
  wrs := fun i L e hw hl => hR.wrs i L e (by unfold Wr at hw ⊢; rw [← he i]; exact hw) hl }
theorem HRel.push {E : Emb} {h : H} {w : World} (hr : HRel E h w) (obj : Obj) : HRel E h { w with heap := w.heap.push obj } where
 dom := hr.dom
 lt := fun i L e => by have := hr.lt i L e; simp only [Array.size_push]; omega
 rel := fun i L e => (hr.rel i L e).world (by have := hr.lt i L e; simp only; rw [Array.getElem?_push]; simp [Nat.ne_of_lt this])
 inj := hr.inj
 ancs := hr.ancs
 ext := hr.ext
 ends := hr.ends
theorem Run.push {E0 E : Emb} {h0 h : H} {w0 w : World} (hR : Run E0 h0 w0 E h w) (obj : Obj) : Run E0 h0 w0 E h { w with heap := w.heap.push obj } where
 le := hR.le
 rel := hR.rel.push obj
 size := by simp only [Array.size_push]; exact Nat.le_succ_of_le hR.size
 frame := fun b hb hn => by
  simp only
  rw [Array.getElem?_push, if_neg (by have := hR.size; omega)]
  exact hR.frame b hb hn
 wrs := hR.wrs
 old := hR.old
 os := hR.os
 out := hR.out
 tape := hR.tape
theorem HRel.toSub {E F : Emb} {h hx : H} {w : World} (hr : HRel E h w) (hEF : E.le F)
  (c1 : ∀ id, F id ≠ none → hx.blk id ≠ .free → h.blk id = hx.blk id) (c2 : ∀ id c n x a, hx.blk id = .live c n x a → a ≠ [] → h.blk id = hx.blk id) : HSub F hx w := by
 have key : ∀ i L, F i = some L → hx.blk i ≠ .free → E i = some L ∧ h.blk i = hx.blk i := by
  intro i L hF hn
  have hb := c1 i (by rw [hF]; simp) hn
  cases hE : E i with
  | none => rw [(hr.dom i).1 hE] at hb; exact absurd hb.symm hn
  | some L' => have := hEF i L' hE; rw [hF] at this; cases this; exact ⟨rfl, hb⟩
 have hl : ∀ i j, Linked hx i j → Linked h i j := by
  rintro i j ⟨c, n, x, a, hj, hm⟩
  exact ⟨c, n, x, a, by rw [c2 j c n x a hj (by intro e; rw [e] at hm; cases hm)]; exact hj, hm⟩
 refine ⟨fun i L hF hn => ?_, fun i j Li Lj hFi hFj hne hb hsi hsj hwi => ?_, fun i j hij hw => ?_⟩
 ·obtain ⟨hE, hb⟩ := key i L hF hn
  rw [← hb]
  exact (hr.rel i L hE).mono hEF
 ·obtain ⟨hEi, hbi⟩ := key i Li hFi hsi.not_free
  obtain ⟨hEj, hbj⟩ := key j Lj hFj hsj.not_free
  have conv : ∀ i j, hx.blk j = h.blk j → Linked h i j → Linked hx i j := fun i j he ⟨c, n, x, a, hj, hm⟩ => ⟨c, n, x, a, by rw [he]; exact hj, hm⟩
  rcases hr.inj i j Li Lj hEi hEj hne hb (by rw [hbi]; exact hsi) (by rw [hbj]; exact hsj) (by unfold Wr at hwi ⊢; rw [hbi]; exact hwi) with h | h
  ·exact .inl (conv i j hbj.symm h)
  ·exact .inr (conv j i hbi.symm h)
 ·have hij' := hl i j hij
  have hE := (hr.ancs i j hij').1
  have hwx : hx.blk i ≠ .free := fun e => by unfold Wr at hw; rw [e] at hw; exact hw
  have hF : F i ≠ none := by
   cases hEi : E i with
   | none => exact absurd hEi hE
   | some L => rw [hEF i L hEi]; simp
  have hb := c1 i hF hwx
  refine hr.ext i j hij' ?_
  unfold Wr at hw ⊢
  rw [hb]; exact hw
theorem HSub.empty (E : Emb) (w : World) : HSub E H.empty w := by
 have hb : ∀ i, H.empty.blk i = .free := fun i => by
  cases i with | mk a b c =>
  show atBlk c (atB1 b (atB2 a (Nd.fill b2e))) = .free
  rw [atB2_eq, Nd.at'_fill, atB1_eq]
  show atBlk c (Nd.at' b (Nd.fill b1e)) = .free
  rw [Nd.at'_fill, atBlk_eq]
  show Nd.at' c (Nd.fill Blk.free) = Blk.free
  rw [Nd.at'_fill]
 exact ⟨fun i L _ hn => absurd (hb i) hn, fun i j _ _ _ _ _ _ hs _ _ => by rw [hb i] at hs; exact hs.elim, fun i j ⟨_, _, _, _, hj, _⟩ => by rw [hb j] at hj; cases hj⟩
section
variable {alive act : Nat → Bool} {es : Nat → Env} {hs : Nat → H} {nb : Nat → Option Blk}
structure Stg (X : Cx) (ops : Array Oper) (alive : Nat → Bool) (nb : Nat → Option Blk) (l : Array Bool) (σ T : Nat) : Prop where
 sz : l.size = ops.size
 closed : Closed ops l
 live : ∀ j, Lst l j → alive j = true ∧ j < ops.size
 le : σ ≤ T
 len : T ≤ ops.size
 start : σ = 0 ∨ ∃ b, σ = b + 1 ∧ clsAt X.P ops b = 3 ∧ Lst l b
 made : ∀ k, k < σ → nb k ≠ none → Lst l k
 noact : ∀ j, σ ≤ j → j < T → clsAt X.P ops j ≠ 3
 tend : T = ops.size ∨ clsAt X.P ops T = 3
 nact : ∀ j, T ≤ j → clsAt X.P ops j = 3 → ¬ Lst l j
structure Sim (X : Cx) (ops : Array Oper) (es : Nat → Env) (hs : Nat → H) (nb : Nat → Option Blk) (E0 : Emb) (h0 : H) (w0 : World)
  (l : Array Bool) (σ m : Nat) (E : Emb) (hp : H) (R : Early) (a : Act) (w : World) : Prop where
 run : Run E0 h0 w0 E hp w
 hp : ∀ id, (hp.blk id = (hs σ).blk id ∧ ∀ k, σ ≤ k → k < m → Lst l k → nb k ≠ none → id ≠ (hs k).next) ∨
  (∃ k b, σ ≤ k ∧ k < m ∧ Lst l k ∧ nb k = some b ∧ id = (hs k).next ∧ hp.blk id = b)
 r1 : ∀ id k L, R id = some (k, L) → id = (hs k).next ∧ Lst l k ∧ m ≤ k ∧ E id = none ∧ L = ⟨L.blk, 0, 0, 0⟩ ∧ w0.heap.size ≤ L.blk ∧ L.blk < w.heap.size ∧
  (∀ id' L', E id' = some L' → L'.blk ≠ L.blk) ∧ ∃ b, nb k = some b ∧ BlkRel (EE E R (k + 1)) w L b
 r2 : ∀ k, Lst l k → m ≤ k → nb k ≠ none → ∃ L, R (hs k).next = some (k, L)
 r3 : ∀ id id' k k' L L', R id = some (k, L) → R id' = some (k', L') → L.blk = L'.blk → id = id'
 size : a.tmps.size = X.nt
 dfr : DRel E (slot (es 0) 1023) a.defers
 glob : GlobOk X.gl E
 own : ∀ j o t, Lst l j → ops[j]? = some o → o.dst = some t → t < 992 → Rel (EE E R (j + 1)) (gOf o (es (j + 1))) (a.tmps.getD t undef)
 rest : ∀ t, t < 992 → (∀ j o, Lst l j → ops[j]? = some o → o.dst ≠ some t) → Rel E (slot (es 0) t) (a.tmps.getD t undef)
variable {E0 : Emb} {h0 : H} {w0 : World} {l : Array Bool} {σ m : Nat} {E : Emb} {hp : H} {R : Early} {a : Act} {w : World}
theorem Sim.erel (T : Txt X ops alive act es hs nb) (hC : Closed ops l) (hlive : ∀ j, Lst l j → alive j = true ∧ j < ops.size) (S : Sim X ops es hs nb E0 h0 w0 l σ m E hp R a w) {i : Nat} {o : Oper} (ho : ops[i]? = some o)
  (hnot : ¬ Lst l i) (hpre : ∀ k, pre ops k i → Lst l k) : ERel (Xat X ops o) (EE E R i) (es i) a := by
 have hin := lt_of_op ho
 have hle := le_EE E R i
 refine ⟨S.size, fun t ht hkn => ?_, ?_, S.glob.mono hle⟩
 ·have hlk : t ∈ looks ops o ∨ o.dst = some t := by
   simp only [Xat, at_kn, Bool.or_eq_true] at hkn
   rcases hkn with h | h
   ·exact .inl (by simpa using h)
   ·exact .inr (by simpa using h)
  by_cases hex : ∃ k p, Lst l k ∧ ops[k]? = some p ∧ p.dst = some t
  ·obtain ⟨k, p, hk, hp', hd⟩ := hex
   have hki : k ≠ i := fun e => hnot (e ▸ hk)
   obtain ⟨d1, d2⟩ := depOK_spec T.dep ho hp' hd hki
   have hlook := hlk.resolve_right d1
   have hki' : k < i := by
    rcases d2 hlook with h | h
    ·exact pre_lt T.back h
    ·exact absurd (hC _ _ hk h) hnot
   rw [T.slot_own hp' (by omega) hd hki' (by omega)]
   exact (S.own k p t hk hp' hd ht).mono (EE_mono E R (by omega))
  ·rw [T.slot_none (by omega) (Nat.zero_le i) (by omega) fun k p _ hki ha hp' hd => ?_]
   ·exact (S.rest t ht fun j p hj hp' hd => hex ⟨j, p, hj, hp', hd⟩).mono hle
   ·obtain ⟨d1, d2⟩ := depOK_spec T.dep ho hp' hd (by omega)
    have hlook := hlk.resolve_right d1
    rcases d2 hlook with h | h
    ·exact hex ⟨k, p, hpre k h, hp', hd⟩
    ·have := pre_lt T.back h; omega
 ·rw [T.slot_none (t := 1023) (by omega) (Nat.zero_le i) (by omega) fun k p _ hki ha hp' hd => ?_]
  ·exact S.dfr.mono hle
  ·obtain ⟨⟨s, hs'⟩, _⟩ := T.env k p hp' ha
   rw [hd] at hs'
   simp only [SOk] at hs'
   have h1 : @LT.lt Nat _ 1023 992 := Nat.lt_of_lt_of_le hs'.1 hs'.2.1
   omega
theorem Sim.heap (T : Txt X ops alive act es hs nb) (hact : ∀ b, alive b = true → clsAt X.P ops b = 3 → act b = true) (S : Sim X ops es hs nb E0 h0 w0 l σ m E hp R a w) {N : Nat} (hmN : m ≤ N) (hN : N ≤ ops.size) (hna : noAct X ops alive σ N) {j : Nat} (hσj : σ ≤ j) (hjN : j ≤ N)
  {id : Id} : (hp.blk id ≠ .free → (hs j).blk id ≠ .free → hp.blk id = (hs j).blk id) ∧ (∀ c n x a, (hs j).blk id = .live c n x a → a ≠ [] → hp.blk id = (hs j).blk id) := by
 have hseg := T.seg hσj (by omega) (fun k h1 h2 => hna k h1 (by omega)) id
 have uniq : ∀ {k k' b b'}, σ ≤ k → k < N → nb k = some b → σ ≤ k' → k' < N → nb k' = some b' → (hs k).next = (hs k').next → k = k' := by
  intro k k' b b' h1 h2 h3 h4 h5 h6 h7
  rcases Nat.lt_trichotomy k k' with h | h | h
  ·exact absurd h7 (T.distinct (by rw [h3]; simp) (by rw [h6]; simp) h hact fun q q1 q2 q3 q4 => absurd q4 (hna q (by omega) (by omega) q3))
  ·exact h
  ·exact absurd h7.symm (T.distinct (by rw [h6]; simp) (by rw [h3]; simp) h hact fun q q1 q2 q3 q4 => absurd q4 (hna q (by omega) (by omega) q3))
 have free_σ : ∀ {k b}, σ ≤ k → k < N → nb k = some b → (hs σ).blk (hs k).next = .free := by
  intro k b h1 h2 h3
  exact T.free_at (by rw [h3]; simp) hact h1 fun q q1 q2 q3 q4 => absurd q4 (hna q q1 (by omega) q3)
 constructor
 ·intro hf hj
  rcases S.hp id with ⟨e, _⟩ | ⟨k, b, k1, k2, k3, k4, k5, k6⟩
  ·rcases hseg with ⟨g, _⟩ | ⟨q, b', q1, q2, q3, q4, q5, q6⟩
   ·rw [e, g]
   ·rw [e, q5] at hf; exact absurd rfl hf
  ·have hfr := free_σ k1 (by omega) k4
   rw [← k5] at hfr
   rcases hseg with ⟨g, _⟩ | ⟨q, b', q1, q2, q3, q4, q5, q6⟩
   ·rw [g] at hj; exact absurd hfr hj
   ·have := uniq k1 (by omega) k4 q1 (by omega) q3 (k5.symm.trans q4)
    subst this
    rw [k4] at q3; cases q3
    rw [k6, q6]
 ·intro c n x an hl hne
  rcases hseg with ⟨g, g2⟩ | ⟨q, b', q1, q2, q3, q4, q5, q6⟩
  ·rcases S.hp id with ⟨e, _⟩ | ⟨k, b, k1, k2, k3, k4, k5, k6⟩
   ·rw [e, g]
   ·have hfr := free_σ k1 (by omega) k4
    rw [← k5, ← g, hl] at hfr
    cases hfr
  ·rw [q6] at hl
   exact absurd ((T.nb_new q3).2.2.2.2 _ _ _ _ hl) hne
end
end
end Go.Ev
set_option linter.unusedSimpArgs false
set_option linter.unusedVariables false
namespace Go.Ev
noncomputable section
variable {X : Cx} {ops : Array Oper} {c : Call}
variable {alive act : Nat → Bool} {es : Nat → Env} {hs : Nat → H} {nb : Nat → Option Blk}
variable {E0 : Emb} {h0 : H} {w0 : World} {l : Array Bool} {σ m T0 : Nat} {E : Emb} {hp : H} {R : Early} {a : Act} {w : World}
theorem put_getD {a : Act} {d : Option Tmp} {x : Value} {t : Tmp} (ht : d = some t) (hlt : t < a.tmps.size) : (a.put d x).tmps.getD t undef = x := by
 subst ht
 simp [Act.put, hlt]
theorem put_size {a : Act} {d : Option Tmp} {x : Value} : (a.put d x).tmps.size = a.tmps.size := by cases d <;> simp [Act.put]
theorem put_dfr {a : Act} {d : Option Tmp} {x : Value} : (a.put d x).defers = a.defers := by cases d <;> rfl
theorem Sim.slots (T : Txt X ops alive act es hs nb) (S : Sim X ops es hs nb E0 h0 w0 l σ m E hp R a w) (hsz : l.size = ops.size) {i : Nat} {o : Oper} (ho : ops[i]? = some o) (hnot : ¬ Lst l i)
  {E' : Emb} {R' : Early} {a' : Act} (hle : ∀ j, (EE E R j).le (EE E' R' j)) (hE : E.le E') (hkeep : ∀ t, o.dst ≠ some t → a'.tmps.getD t undef = a.tmps.getD t undef)
  (hv : ∀ t < 992, o.dst = some t → Rel (EE E' R' (i + 1)) (gOf o (es (i + 1))) (a'.tmps.getD t undef)) :
  (∀ j o t, Lst (l.setIfInBounds i true) j → ops[j]? = some o → o.dst = some t → t < 992 → Rel (EE E' R' (j + 1)) (gOf o (es (j + 1))) (a'.tmps.getD t undef)) ∧
  (∀ t, t < 992 → (∀ j o, Lst (l.setIfInBounds i true) j → ops[j]? = some o → o.dst ≠ some t) → Rel E' (slot (es 0) t) (a'.tmps.getD t undef)) := by
 have hi : i < l.size := by rw [hsz]; exact lt_of_op ho
 constructor
 ·intro j p t hj hp' hd ht
  rw [lst_set hi] at hj
  by_cases hji : j = i
  ·subst hji
   rw [ho] at hp'; cases hp'
   exact hv t ht hd
  ·have hj' := hj.resolve_left hji
   rw [hkeep t (depOK_spec T.dep ho hp' hd hji).1]
   exact (S.own j p t hj' hp' hd ht).mono (hle _)
 ·intro t ht hno
  rw [hkeep t (hno i o ((lst_set hi).2 (.inl rfl)) ho)]
  exact (S.rest t ht fun j p hj => hno j p ((lst_set hi).2 (.inr hj))).mono hE
theorem Stg.next (T : Txt X ops alive act es hs nb) (G : Stg X ops alive nb l σ T0) {i : Nat} {o : Oper} (ho : ops[i]? = some o) (hr : i ∈ Region.ready .any ops l) (ha : alive i = true) (hc : clsAt X.P ops i ≠ 3) :
  Stg X ops alive nb (l.setIfInBounds i true) σ T0 := by
 have hi : i < l.size := by rw [G.sz]; exact lt_of_op ho
 exact {
  sz := by simp [G.sz]
  closed := G.closed.set G.sz hr
  live := fun j hj => by
   rcases (lst_set hi).1 hj with rfl | h
   ·exact ⟨ha, lt_of_op ho⟩
   ·exact G.live j h
  le := G.le
  len := G.len
  start := G.start.imp id fun ⟨b, h1, h2, h3⟩ => ⟨b, h1, h2, (lst_set hi).2 (.inr h3)⟩
  made := fun k hk hn => (lst_set hi).2 (.inr (G.made k hk hn))
  noact := G.noact
  tend := G.tend
  nact := fun j hj hcj h => by
   rcases (lst_set hi).1 h with rfl | h
   ·exact hc hcj
   ·exact G.nact j hj hcj h }
theorem Sim.read (T : Txt X ops alive act es hs nb) (S : Sim X ops es hs nb E0 h0 w0 l σ m E hp R a w) (hsz : l.size = ops.size) {i : Nat} {o : Oper} (ho : ops[i]? = some o) (hnot : ¬ Lst l i) (ha : alive i = true) (hn : nb i = none)
  {x : Value} (hx : o.dst ≠ none → Rel (EE E R i) (gOf o (es (i + 1))) x) : Sim X ops es hs nb E0 h0 w0 (l.setIfInBounds i true) σ m E hp R (a.put o.dst x) w := by
 have hi : i < l.size := by rw [hsz]; exact lt_of_op ho
 have hback : ∀ k, Lst (l.setIfInBounds i true) k → nb k ≠ none → Lst l k := fun k hk hnk => by
  rcases (lst_set hi).1 hk with rfl | h
  ·exact absurd hn hnk
  ·exact h
 obtain ⟨hown, hrest⟩ := S.slots T hsz ho hnot (E' := E) (R' := R) (a' := a.put o.dst x) (fun j => Emb.le_refl _) (Emb.le_refl _) (Keeps.put_tmps a o.dst x) (fun t ht hd => by
  have hlt : t < a.tmps.size := by
   obtain ⟨⟨s, hs'⟩, _⟩ := T.env i o ho ha
   rw [hd] at hs'; simp only [SOk] at hs'
   rw [S.size]; exact hs'.1
  rw [put_getD hd hlt]
  exact (hx (by rw [hd]; simp)).mono (EE_mono E R (by omega)))
 exact {
  run := S.run
  hp := fun id => by
   rcases S.hp id with ⟨e, h⟩ | ⟨k, b, k1, k2, k3, k4⟩
   ·exact .inl ⟨e, fun k k1 k2 k3 k4 => h k k1 k2 (hback k k3 k4) k4⟩
   ·exact .inr ⟨k, b, k1, k2, (lst_set hi).2 (.inr k3), k4⟩
  r1 := fun id k L h => by
   obtain ⟨h1, h2, h3⟩ := S.r1 id k L h
   exact ⟨h1, (lst_set hi).2 (.inr h2), h3⟩
  r2 := fun k hk hm hnk => S.r2 k (hback k hk hnk) hm hnk
  r3 := S.r3
  size := by rw [put_size]; exact S.size
  dfr := by rw [put_dfr]; exact S.dfr
  glob := S.glob
  own := hown
  rest := hrest }
theorem Sim.sub (T : Txt X ops alive act es hs nb) (hact : ∀ b, alive b = true → clsAt X.P ops b = 3 → act b = true) (G : Stg X ops alive nb l σ T0) (S : Sim X ops es hs nb E0 h0 w0 l σ T0 E hp R a w) {i j : Nat} (hσ : σ ≤ j) (hj : j ≤ T0) :
  HSub (EE E R i) (hs j) w := by
 have hna : noAct X ops alive σ T0 := fun k h1 h2 _ => G.noact k h1 h2
 refine S.run.rel.toSub (le_EE E R i) (fun id hF hn => ?_) (fun id c n x an hl hne => (S.heap T hact (Nat.le_refl _) G.len hna hσ hj).2 c n x an hl hne)
 cases hFs : EE E R i id with
 | none => exact absurd hFs hF
 | some L =>
  rcases EE_some hFs with hE | ⟨hE, k, hR, hk⟩
  ·exact (S.heap T hact (Nat.le_refl _) G.len hna hσ hj).1 (fun e => by rw [(S.run.rel.dom id).2 e] at hE; cases hE) hn
  ·exfalso
   obtain ⟨h1, h2, h3, _, _, _, _, _, b, h4, _⟩ := S.r1 id k L hR
   refine hn ?_
   rw [h1]
   refine T.free_at (by rw [h4]; simp) hact (by omega) fun b b1 b2 b3 b4 hpre => ?_
   have hbT : T0 ≤ b := by
    rcases Nat.lt_or_ge b T0 with h | h
    ·exact absurd b4 (G.noact b (by omega) h)
    ·exact h
   exact G.nact b hbT b4 (G.closed _ _ h2 hpre)
theorem Sim.alloc (T : Txt X ops alive act es hs nb) (hact : ∀ b, alive b = true → clsAt X.P ops b = 3 → act b = true) (G : Stg X ops alive nb l σ T0) (S : Sim X ops es hs nb E0 h0 w0 l σ T0 E hp R a w)
  {i : Nat} {o : Oper} (ho : ops[i]? = some o) (hnot : ¬ Lst l i) (hpre : ∀ k, pre ops k i → Lst l k) (ha : alive i = true) {b : Blk} (hn : nb i = some b) (hi : σ ≤ i) (hiT : i < T0) :
  ∀ Q K, (∀ E' hp' x w', Sim X ops es hs nb E0 h0 w0 (l.setIfInBounds i true) σ T0 E' hp' R (a.put o.dst x) w' → K (a.put o.dst x) w') → stepOp X.P ops o a w K Q := by
 intro Q K hK
 have hil : i < l.size := by rw [G.sz]; exact lt_of_op ho
 have hna : noAct X ops alive σ T0 := fun k h1 h2 _ => G.noact k h1 h2
 obtain ⟨o', ho', _, _, N⟩ := T.new i b hn
 rw [ho] at ho'; cases ho'
 have hEEi : EE E R i = E := EE_eq fun id k L h => by have := (S.r1 id k L h).2.2.1; omega
 have he := S.erel T G.closed G.live ho hnot hpre
 rw [hEEi] at he
 obtain ⟨x, obj, hst, hrel⟩ := N.step E a w he
 refine hst K Q (hK (E.set (hs i).next ⟨w.heap.size, 0, 0, 0⟩) (hp.put (hs i).next b) x _ ?_)
 have hne : ∀ k, Lst l k → nb k ≠ none → σ ≤ k → (hs k).next ≠ (hs i).next := fun k hk hnk hσk => by
  have hki : k ≠ i := fun e => hnot (e ▸ hk)
  rcases Nat.lt_or_ge k i with h | h
  ·exact T.distinct hnk (by rw [hn]; simp) h hact fun q q1 q2 q3 q4 _ => absurd q4 (G.noact q (by omega) (by omega))
  ·refine fun e => T.distinct (by rw [hn]; simp) hnk (by omega) hact (fun q q1 q2 q3 q4 hpq => ?_) e.symm
   have hqT : T0 ≤ q := by
    rcases Nat.lt_or_ge q T0 with h | h
    ·exact absurd q4 (G.noact q (by omega) h)
    ·exact h
   exact G.nact q hqT q4 (G.closed _ _ hk hpq)
 have hfree : hp.blk (hs i).next = .free := by
  rcases S.hp (hs i).next with ⟨e, _⟩ | ⟨k, b', k1, k2, k3, k4, k5, _⟩
  ·rw [e]
   exact T.free_at (by rw [hn]; simp) hact hi fun q q1 q2 q3 q4 => absurd q4 (G.noact q q1 (by omega))
  ·exact absurd k5.symm (hne k k3 (by rw [k4]; simp) k1)
 have hEi : E (hs i).next = none := (S.run.rel.dom _).2 hfree
 have hleE : E.le (E.set (hs i).next ⟨w.heap.size, 0, 0, 0⟩) := Emb.le_set hEi
 have hRi : ∀ id k L, R id = some (k, L) → id ≠ (hs i).next := fun id k L h => by
  obtain ⟨h1, h2, h3, _, _, _, _, _, b', h4, _⟩ := S.r1 id k L h
  rw [h1]
  exact hne k h2 (by rw [h4]; simp) (by have := G.le; omega)
 have hle : ∀ j, (EE E R j).le (EE (E.set (hs i).next ⟨w.heap.size, 0, 0, 0⟩) R j) := EE_le hleE fun id k L hE hR => .inr ⟨by rw [Emb.set_ne E (hRi id k L hR)]; exact hE, hR⟩
 have hfin := hrel _ hleE (Emb.set_same _ _ _)
 have hrun : Run E hp w (E.set (hs i).next ⟨w.heap.size, 0, 0, 0⟩) (hp.put (hs i).next b) { w with heap := w.heap.push obj } :=
  S.run.rel.alloc (w' := { w with heap := w.heap.push obj }) (o := obj) hfree (blk_put_same _ _ _) (fun j hj => blk_put_ne _ (Ne.symm hj) _) rfl rfl rfl rfl 0 0 N.sol (fun c n x a e j hj => absurd hj (by rw [N.anc c n x a e]; simp)) (hfin.2 _ (by simp))
 have hworld : ∀ k, k < w.heap.size → (w.heap.push obj)[k]? = w.heap[k]? := fun k hk => by rw [Array.getElem?_push]; simp [Nat.ne_of_lt hk]
 obtain ⟨hown, hrest⟩ := S.slots T G.sz ho hnot (a' := a.put o.dst x) hle hleE (Keeps.put_tmps a o.dst x) (fun t ht hd => by
  have hlt : t < a.tmps.size := by
   obtain ⟨⟨s, hs'⟩, _⟩ := T.env i o ho ha
   rw [hd] at hs'; simp only [SOk] at hs'
   rw [S.size]; exact hs'.1
  rw [put_getD hd hlt]
  exact (hfin.1 (by rw [hd]; simp)).mono (le_EE _ _ _))
 exact {
  run := S.run.trans hrun
  hp := fun id => by
   by_cases hid : id = (hs i).next
   ·subst hid
    exact .inr ⟨i, b, hi, hiT, (lst_set hil).2 (.inl rfl), hn, rfl, blk_put_same _ _ _⟩
   ·rw [blk_put_ne _ (Ne.symm hid) _]
    rcases S.hp id with ⟨e, h⟩ | ⟨k, b', k1, k2, k3, k4⟩
    ·refine .inl ⟨e, fun k k1 k2 k3 k4 => ?_⟩
     rcases (lst_set hil).1 k3 with rfl | k3
     ·exact hid
     ·exact h k k1 k2 k3 k4
    ·exact .inr ⟨k, b', k1, k2, (lst_set hil).2 (.inr k3), k4⟩
  r1 := fun id k L h => by
   obtain ⟨h1, h2, h3, h4, h5, h6, h7, h8, b', h9, h10⟩ := S.r1 id k L h
   refine ⟨h1, (lst_set hil).2 (.inr h2), h3, by rw [Emb.set_ne E (hRi id k L h)]; exact h4, h5, h6, by simp only [Array.size_push]; omega, fun id' L' e => ?_, b', h9, (h10.world (hworld _ h7)).mono (hle _)⟩
   by_cases hid : id' = (hs i).next
   ·subst hid; rw [Emb.set_same] at e; cases e; exact fun e => by simp only at e; omega
   ·rw [Emb.set_ne E hid] at e; exact h8 id' L' e
  r2 := fun k hk hm hnk => by
   rcases (lst_set hil).1 hk with rfl | hk
   ·omega
   ·exact S.r2 k hk hm hnk
  r3 := S.r3
  size := by rw [put_size]; exact S.size
  dfr := by rw [put_dfr]; exact S.dfr.mono hleE
  glob := S.glob.mono hleE
  own := hown
  rest := hrest }
theorem Sim.early (T : Txt X ops alive act es hs nb) (hact : ∀ b, alive b = true → clsAt X.P ops b = 3 → act b = true) (G : Stg X ops alive nb l σ T0) (S : Sim X ops es hs nb E0 h0 w0 l σ T0 E hp R a w)
  {i : Nat} {o : Oper} (ho : ops[i]? = some o) (hnot : ¬ Lst l i) (hpre : ∀ k, pre ops k i → Lst l k) (ha : alive i = true) {b : Blk} (hn : nb i = some b) (hiT : T0 < i) :
  ∀ Q K, (∀ R' x w', Sim X ops es hs nb E0 h0 w0 (l.setIfInBounds i true) σ T0 E hp R' (a.put o.dst x) w' → K (a.put o.dst x) w') → stepOp X.P ops o a w K Q := by
 intro Q K hK
 have hil : i < l.size := by rw [G.sz]; exact lt_of_op ho
 obtain ⟨o', ho', _, _, N⟩ := T.new i b hn
 rw [ho] at ho'; cases ho'
 have he := S.erel T G.closed G.live ho hnot hpre
 obtain ⟨x, obj, hst, hrel⟩ := N.step _ a w he
 have hnl : ∀ q, σ ≤ q → clsAt X.P ops q = 3 → ¬ Lst l q := fun q hq h3 => by
  rcases Nat.lt_or_ge q T0 with h | h
  ·exact absurd h3 (G.noact q hq h)
  ·exact G.nact q h h3
 have hne : ∀ k, Lst l k → nb k ≠ none → σ ≤ k → (hs k).next ≠ (hs i).next := fun k hk hnk hσk => by
  have hki : k ≠ i := fun e => hnot (e ▸ hk)
  rcases Nat.lt_or_ge k i with h | h
  ·exact T.distinct hnk (by rw [hn]; simp) h hact fun q q1 q2 q3 q4 hpq => hnl q (by omega) q4 (hpre q hpq)
  ·exact fun e => T.distinct (by rw [hn]; simp) hnk (by omega) hact (fun q q1 q2 q3 q4 hpq => hnl q (by have := G.le; omega) q4 (G.closed _ _ hk hpq)) e.symm
 have hσi : σ ≤ i := by have := G.le; omega
 have hfree : hp.blk (hs i).next = .free := by
  rcases S.hp (hs i).next with ⟨e, _⟩ | ⟨k, b', k1, k2, k3, k4, k5, _⟩
  ·rw [e]
   exact T.free_at (by rw [hn]; simp) hact hσi fun q q1 q2 q3 q4 hpq => hnl q q1 q4 (hpre q hpq)
  ·exact absurd k5.symm (hne k k3 (by rw [k4]; simp) k1)
 have hEi : E (hs i).next = none := (S.run.rel.dom _).2 hfree
 have hRne : ∀ id k L, R id = some (k, L) → id ≠ (hs i).next := fun id k L h => by
  obtain ⟨h1, h2, h3, _, _, _, _, _, b', h4, _⟩ := S.r1 id k L h
  rw [h1]
  exact hne k h2 (by rw [h4]; simp) (by have := G.le; omega)
 let R' : Early := fun id => if Id.eqb id (hs i).next = true then some (i, ⟨w.heap.size, 0, 0, 0⟩) else R id
 have hR'i : R' (hs i).next = some (i, ⟨w.heap.size, 0, 0, 0⟩) := by simp [R', Id.eqb_iff]
 have hR'ne : ∀ id, id ≠ (hs i).next → R' id = R id := fun id h => by simp [R', Id.eqb_iff, h]
 have hR' : ∀ id k L, R' id = some (k, L) → (id = (hs i).next ∧ k = i ∧ L = ⟨w.heap.size, 0, 0, 0⟩) ∨ (id ≠ (hs i).next ∧ R id = some (k, L)) := fun id k L h => by
  by_cases hid : id = (hs i).next
  ·subst hid; rw [hR'i] at h; cases h; exact .inl ⟨rfl, rfl, rfl⟩
  ·rw [hR'ne id hid] at h; exact .inr ⟨hid, h⟩
 have hle : ∀ j, (EE E R j).le (EE E R' j) := EE_le (Emb.le_refl _) fun id k L hE hR => .inr ⟨hE, by rw [hR'ne id (hRne id k L hR)]; exact hR⟩
 have hworld : ∀ k, k < w.heap.size → (w.heap.push obj)[k]? = w.heap[k]? := fun k hk => by rw [Array.getElem?_push]; simp [Nat.ne_of_lt hk]
 have hfin := hrel (EE E R' (i + 1)) (fun id L h => EE_mono E R' (Nat.le_succ i) id L (hle i id L h)) (EE_early hEi hR'i (by omega))
 refine hst K Q (hK R' x _ ?_)
 obtain ⟨hown, hrest⟩ := S.slots T G.sz ho hnot (a' := a.put o.dst x) hle (Emb.le_refl _) (Keeps.put_tmps a o.dst x) (fun t ht hd => by
  have hlt : t < a.tmps.size := by
   obtain ⟨⟨s, hs'⟩, _⟩ := T.env i o ho ha
   rw [hd] at hs'; simp only [SOk] at hs'
   rw [S.size]; exact hs'.1
  rw [put_getD hd hlt]
  exact hfin.1 (by rw [hd]; simp))
 exact {
  run := S.run.push obj
  hp := fun id => by
   rcases S.hp id with ⟨e, h⟩ | ⟨k, b', k1, k2, k3, k4⟩
   ·refine .inl ⟨e, fun k k1 k2 k3 k4 => ?_⟩
    rcases (lst_set hil).1 k3 with rfl | k3
    ·omega
    ·exact h k k1 k2 k3 k4
   ·exact .inr ⟨k, b', k1, k2, (lst_set hil).2 (.inr k3), k4⟩
  r1 := fun id k L h => by
   rcases hR' id k L h with ⟨rfl, rfl, rfl⟩ | ⟨hid, h⟩
   ·exact ⟨rfl, (lst_set hil).2 (.inl rfl), by omega, hEi, rfl, S.run.size, by simp, fun id' L' e => by have := S.run.rel.lt id' L' e; simp only; omega, b, hn, hfin.2 _ (by simp)⟩
   ·obtain ⟨h1, h2, h3, h4, h5, h6, h7, h8, b', h9, h10⟩ := S.r1 id k L h
    exact ⟨h1, (lst_set hil).2 (.inr h2), h3, h4, h5, h6, by simp only [Array.size_push]; omega, h8, b', h9, (h10.world (hworld _ h7)).mono (hle _)⟩
  r2 := fun k hk hm hnk => by
   rcases (lst_set hil).1 hk with rfl | hk
   ·exact ⟨_, hR'i⟩
   ·obtain ⟨L, hL⟩ := S.r2 k hk hm hnk
    exact ⟨L, by rw [hR'ne _ (hRne _ _ _ hL)]; exact hL⟩
  r3 := fun id id' k k' L L' h h' e => by
   rcases hR' id k L h with ⟨rfl, rfl, rfl⟩ | ⟨hid, hh⟩
   ·rcases hR' id' k' L' h' with ⟨rfl, rfl, rfl⟩ | ⟨hid', h'⟩
    ·rfl
    ·have := (S.r1 id' k' L' h').2.2.2.2.2.2.1; simp only at e; omega
   ·rcases hR' id' k' L' h' with ⟨rfl, rfl, rfl⟩ | ⟨hid', h'⟩
    ·have := (S.r1 id k L hh).2.2.2.2.2.2.1; simp only at e; omega
    ·exact S.r3 id id' k k' L L' hh h' e
  size := by rw [put_size]; exact S.size
  dfr := by rw [put_dfr]; exact S.dfr
  glob := S.glob
  own := hown
  rest := hrest }
end
end Go.Ev
set_option linter.unusedSimpArgs false
set_option linter.unusedVariables false
namespace Go.Ev
noncomputable section
variable {X : Cx} {ops : Array Oper} {c : Call}
variable {alive act : Nat → Bool} {es : Nat → Env} {hs : Nat → H} {nb : Nat → Option Blk}
variable {E0 : Emb} {h0 : H} {w0 : World} {l : Array Bool} {σ m T0 : Nat} {E : Emb} {hp : H} {R : Early} {a : Act} {w : World}
theorem Sim.full (T : Txt X ops alive act es hs nb) (hact : ∀ b, alive b = true → clsAt X.P ops b = 3 → act b = true) (G : Stg X ops alive nb l σ T0) (S : Sim X ops es hs nb E0 h0 w0 l σ T0 E hp R a w)
  (hall : ∀ k, k < T0 → nb k ≠ none → Lst l k) : ∀ id, (hs T0).blk id = hp.blk id := by
 intro id
 have hna : noAct X ops alive σ T0 := fun k h1 h2 _ => G.noact k h1 h2
 rcases T.seg G.le G.len hna id with ⟨g, g2⟩ | ⟨q, b', q1, q2, q3, q4, q5, q6⟩
 ·rcases S.hp id with ⟨e, _⟩ | ⟨k, b, k1, k2, k3, k4, k5, k6⟩
  ·rw [e, g]
  ·exact absurd k5 (g2 k b k1 k2 k4)
 ·rcases S.hp id with ⟨e, h⟩ | ⟨k, b, k1, k2, k3, k4, k5, k6⟩
  ·exact absurd q4 (h q q1 q2 (hall q q2 (by rw [q3]; simp)) (by rw [q3]; simp))
  ·have : q = k := by
    rcases Nat.lt_trichotomy q k with h | h | h
    ·exact absurd (q4.symm.trans k5) (T.distinct (by rw [q3]; simp) (by rw [k4]; simp) h hact fun p p1 p2 p3 p4 => absurd p4 (G.noact p (by omega) (by omega)))
    ·exact h
    ·exact absurd (k5.symm.trans q4) (T.distinct (by rw [k4]; simp) (by rw [q3]; simp) h hact fun p p1 p2 p3 p4 => absurd p4 (G.noact p (by omega) (by omega)))
   subst this
   rw [k4] at q3; cases q3
   rw [q6, k6]
theorem Sim.adopt (T : Txt X ops alive act es hs nb) (S : Sim X ops es hs nb E0 h0 w0 l σ m E hp R a w) (hσ : σ ≤ m) :
  ∃ E' hp' R', Sim X ops es hs nb E0 h0 w0 l σ (m + 1) E' hp' R' a w := by
 by_cases hex : Lst l m ∧ nb m ≠ none
 ·obtain ⟨hm, hnm⟩ := hex
  obtain ⟨L, hL⟩ := S.r2 m hm (Nat.le_refl _) hnm
  obtain ⟨_, _, _, r4, r5, r6, r7, r8, b, r9, r10⟩ := S.r1 _ _ _ hL
  have hfree : hp.blk (hs m).next = .free := (S.run.rel.dom _).1 r4
  obtain ⟨n1, n2, n3, n4, n5⟩ := T.nb_new r9
  let R' : Early := fun id => if Id.eqb id (hs m).next = true then none else R id
  have hR'ne : ∀ id, id ≠ (hs m).next → R' id = R id := fun id h => by simp [R', Id.eqb_iff, h]
  have hR'i : R' (hs m).next = none := by simp [R', Id.eqb_iff]
  have hR' : ∀ id k L, R' id = some (k, L) → id ≠ (hs m).next ∧ R id = some (k, L) := fun id k L h => by
   by_cases hid : id = (hs m).next
   ·subst hid; rw [hR'i] at h; cases h
   ·rw [hR'ne id hid] at h; exact ⟨hid, h⟩
  have hleE : E.le (E.set (hs m).next L) := Emb.le_set r4
  have hbl : BlkRel (E.set (hs m).next L) w L b := r10.mono fun id L' h => by
   rcases EE_some h with h | ⟨h, k, hR, hk⟩
   ·exact hleE id L' h
   ·obtain ⟨k1, _, k2, _⟩ := S.r1 id k L' hR
    obtain rfl : k = m := by omega
    rw [k1] at hR ⊢
    rw [hL] at hR; cases hR
    exact Emb.set_same _ _ _
  have hrun : Run E0 h0 w0 (E.set (hs m).next L) (hp.put (hs m).next b) w := by
   rw [r5] at hbl ⊢
   exact S.run.adopt hfree (blk_put_same _ _ _) (fun j hj => blk_put_ne _ (Ne.symm hj) _) r6 r7 r8 0 0 n4 n5 hbl
  have hle : ∀ j, (EE E R j).le (EE (E.set (hs m).next L) R' j) := EE_le hleE fun id k L' hE hR => by
   by_cases hid : id = (hs m).next
   ·subst hid; rw [hL] at hR; cases hR; exact .inl (Emb.set_same _ _ _)
   ·exact .inr ⟨by rw [Emb.set_ne E hid]; exact hE, by rw [hR'ne id hid]; exact hR⟩
  refine ⟨E.set (hs m).next L, hp.put (hs m).next b, R', {
   run := hrun
   hp := fun id => ?_
   r1 := fun id k L' h => ?_
   r2 := fun k hk hmk hnk => ?_
   r3 := fun id id' k k' L L' h h' e => S.r3 id id' k k' L L' (hR' id k L h).2 (hR' id' k' L' h').2 e
   size := S.size
   dfr := S.dfr.mono hleE
   glob := S.glob.mono hleE
   own := fun j o t h1 h2 h3 h4 => (S.own j o t h1 h2 h3 h4).mono (hle _)
   rest := fun t h1 h2 => (S.rest t h1 h2).mono hleE }⟩
  ·by_cases hid : id = (hs m).next
   ·subst hid
    exact .inr ⟨m, b, hσ, by omega, hm, r9, rfl, blk_put_same _ _ _⟩
   ·rw [blk_put_ne _ (Ne.symm hid) _]
    rcases S.hp id with ⟨e, h⟩ | ⟨k, b', k1, k2, k3⟩
    ·refine .inl ⟨e, fun k k1 k2 k3 k4 => ?_⟩
     rcases Nat.lt_or_ge k m with hk | hk
     ·exact h k k1 hk k3 k4
     ·obtain rfl : k = m := by omega
      exact hid
    ·exact .inr ⟨k, b', k1, by omega, k3⟩
  ·obtain ⟨hid, h⟩ := hR' id k L' h
   obtain ⟨h1, h2, h3, h4, h5, h6, h7, h8, b', h9, h10⟩ := S.r1 id k L' h
   have hkm : k ≠ m := fun e => by subst e; exact hid h1
   refine ⟨h1, h2, by omega, by rw [Emb.set_ne E hid]; exact h4, h5, h6, h7, fun id' L'' e => ?_, b', h9, h10.mono (hle _)⟩
   by_cases hid' : id' = (hs m).next
   ·subst hid'
    rw [Emb.set_same] at e; cases e
    exact fun e => hid (S.r3 _ _ _ _ _ _ hL h e).symm
   ·rw [Emb.set_ne E hid'] at e; exact h8 id' L'' e
  ·obtain ⟨L', hL'⟩ := S.r2 k hk (by omega) hnk
   have hne : (hs k).next ≠ (hs m).next := fun e => by
    rw [e, hL] at hL'; cases hL'; omega
   exact ⟨L', by rw [hR'ne _ hne]; exact hL'⟩
 ·refine ⟨E, hp, R, { S with
   hp := fun id => ?_
   r1 := fun id k L h => ?_
   r2 := fun k hk hmk hnk => S.r2 k hk (by omega) hnk }⟩
  ·rcases S.hp id with ⟨e, h⟩ | ⟨k, b', k1, k2, k3⟩
   ·refine .inl ⟨e, fun k k1 k2 k3 k4 => ?_⟩
    rcases Nat.lt_or_ge k m with hk | hk
    ·exact h k k1 hk k3 k4
    ·obtain rfl : k = m := by omega
     exact absurd ⟨k3, k4⟩ hex
   ·exact .inr ⟨k, b', k1, by omega, k3⟩
  ·obtain ⟨h1, h2, h3, h4, h5, h6, h7, h8, b', h9, h10⟩ := S.r1 id k L h
   have hkm : k ≠ m := fun e => by subst e; exact hex ⟨h2, by rw [h9]; simp⟩
   exact ⟨h1, h2, by omega, h4, h5, h6, h7, h8, b', h9, h10⟩
theorem Sim.adopts (T : Txt X ops alive act es hs nb) : ∀ (d : Nat) {m : Nat} {E : Emb} {hp : H} {R : Early}, σ ≤ m → Sim X ops es hs nb E0 h0 w0 l σ m E hp R a w → ∃ E' hp' R', Sim X ops es hs nb E0 h0 w0 l σ (m + d) E' hp' R' a w
 | 0, m, E, hp, R, _, S => ⟨E, hp, R, S⟩
 | d + 1, m, E, hp, R, hm, S => by
  obtain ⟨E', hp', R', S'⟩ := S.adopt T hm
  obtain ⟨E2, hp2, R2, S2⟩ := Sim.adopts T d (m := m + 1) (by omega) S'
  exact ⟨E2, hp2, R2, by rw [show m + (d + 1) = m + 1 + d by omega]; exact S2⟩
theorem next_act (P : Program) (ops : Array Oper) : ∀ (d : Nat) {s : Nat}, s + d = ops.size → ∃ T, s ≤ T ∧ T ≤ ops.size ∧ (∀ j, s ≤ j → j < T → clsAt P ops j ≠ 3) ∧ (T = ops.size ∨ clsAt P ops T = 3)
 | 0, s, h => ⟨s, Nat.le_refl _, by omega, fun j h1 h2 => by omega, .inl (by omega)⟩
 | d + 1, s, h => by
  by_cases hc : clsAt P ops s = 3
  ·exact ⟨s, Nat.le_refl _, by omega, fun j h1 h2 => by omega, .inr hc⟩
  ·obtain ⟨T, h1, h2, h3, h4⟩ := next_act P ops d (s := s + 1) (by omega)
   refine ⟨T, by omega, h2, fun j j1 j2 => ?_, h4⟩
   rcases Nat.eq_or_lt_of_le j1 with rfl | h
   ·exact hc
   ·exact h3 j h j2
theorem Sim.acts (T : Txt X ops alive act es hs nb) (hact : ∀ b, alive b = true → clsAt X.P ops b = 3 → act b = true) (G : Stg X ops alive nb l σ T0) (S : Sim X ops es hs nb E0 h0 w0 l σ T0 E hp R a w)
  {o : Oper} (ho : ops[T0]? = some o) (hr : T0 ∈ Region.ready .any ops l) (ha : alive T0 = true) (hc : opClass X.P o.op = 3) :
  ∀ Q K, (∀ T1 E' hp' R' a' w', Stg X ops alive nb (l.setIfInBounds T0 true) (T0 + 1) T1 → Sim X ops es hs nb E0 h0 w0 (l.setIfInBounds T0 true) (T0 + 1) T1 E' hp' R' a' w' → K a' w') → stepOp X.P ops o a w K Q := by
 intro Q K hK
 have hTn := lt_of_op ho
 have hil : T0 < l.size := by rw [G.sz]; exact hTn
 have hcA : clsAt X.P ops T0 = 3 := by rw [clsAt_some ho]; exact hc
 have hnot : ¬ Lst l T0 := G.nact T0 (Nat.le_refl _) hcA
 have hpre : ∀ k, pre ops k T0 → Lst l k := fun k => ready_pre G.closed hr
 have hnbT : nb T0 = none := by
  cases h : nb T0 with
  | none => rfl
  | some b => have := (T.nb_alive h).2.2; rw [hcA] at this; cases this
 have hall : ∀ k, k < T0 → nb k ≠ none → Lst l k := fun k hk hn => by
  cases h : nb k with
  | none => exact absurd h hn
  | some b => exact hpre k (actOK_spec T.acts hk hcA (.inr (T.nb_alive h).2.2))
 have hfull := S.full T hact G hall
 have hEEi : EE E R T0 = E := EE_eq fun id k L h => (S.r1 id k L h).2.2.1
 have he := S.erel T G.closed G.live ho hnot hpre
 rw [hEEi] at he
 have hrel : HRel E (hs T0) w := S.run.rel.congr hfull
 refine T.stepA T0 o ho ha hc E a w he hrel K Q fun E' a' w' hR hsz hv hk => ?_
 obtain ⟨T1, t1, t2, t3, t4⟩ := next_act X.P ops (ops.size - (T0 + 1)) (s := T0 + 1) (by omega)
 have hnl : ∀ q, T0 + 1 ≤ q → clsAt X.P ops q = 3 → ¬ Lst (l.setIfInBounds T0 true) q := fun q hq h3 h => by
  rcases (lst_set hil).1 h with rfl | h
  ·omega
  ·exact G.nact q (by omega) h3 h
 have G' : Stg X ops alive nb (l.setIfInBounds T0 true) (T0 + 1) T1 := {
  sz := by simp [G.sz]
  closed := G.closed.set G.sz hr
  live := fun j hj => by
   rcases (lst_set hil).1 hj with rfl | h
   ·exact ⟨ha, hTn⟩
   ·exact G.live j h
  le := t1
  len := t2
  start := .inr ⟨T0, rfl, hcA, (lst_set hil).2 (.inl rfl)⟩
  made := fun k hk hn => by
   rcases Nat.lt_or_ge k T0 with h | h
   ·exact (lst_set hil).2 (.inr (hall k h hn))
   ·obtain rfl : k = T0 := by omega
    exact absurd hnbT hn
  noact := t3
  tend := t4
  nact := fun j hj h3 => hnl j (by omega) h3 }
 have hdom : ∀ id k L, R id = some (k, L) → E' id = none := fun id k L h => by
  obtain ⟨h1, h2, h3, _, _, _, _, _, b', h9, _⟩ := S.r1 id k L h
  have hkT : k ≠ T0 := fun e => by subst e; rw [hnbT] at h9; cases h9
  rw [h1]
  refine (hR.rel.dom _).2 ?_
  refine T.free_at (by rw [h9]; simp) hact (by omega) fun q q1 q2 q3 q4 hpq => ?_
  exact G.nact q (by omega) q4 (G.closed _ _ h2 hpq)
 have hle : ∀ j, (EE E R j).le (EE E' R j) := EE_le hR.le fun id k L hE h => .inr ⟨hdom id k L h, h⟩
 obtain ⟨hown, hrest⟩ := S.slots T G.sz ho hnot (a' := a') (E' := E') (R' := R) hle hR.le hk.1 (fun t ht hd => (hv t ht hd).mono (le_EE _ _ _))
 have S' : Sim X ops es hs nb E0 h0 w0 (l.setIfInBounds T0 true) (T0 + 1) (T0 + 1) E' (hs (T0 + 1)) R a' w' := {
  run := (S.run.congr hfull).trans hR
  hp := fun id => .inl ⟨rfl, fun k k1 k2 => by omega⟩
  r1 := fun id k L h => by
   obtain ⟨h1, h2, h3, h4, h5, h6, h7, h8, b', h9, h10⟩ := S.r1 id k L h
   have hkT : k ≠ T0 := fun e => by subst e; rw [hnbT] at h9; cases h9
   refine ⟨h1, (lst_set hil).2 (.inr h2), by omega, hdom id k L h, h5, h6, Nat.lt_of_lt_of_le h7 hR.size, fun id' L' e heq => ?_, b', h9, ?_⟩
   ·obtain ⟨j, Lj, ej, hj⟩ := hR.old id' L' e (heq ▸ h7)
    exact h8 j Lj ej (hj.trans heq)
   ·exact (h10.world (hR.frame L.blk h7 fun id' L' e _ => h8 id' L' e)).mono (hle _)
  r2 := fun k hk' hm hnk => by
   rcases (lst_set hil).1 hk' with rfl | hk'
   ·omega
   ·exact S.r2 k hk' (by omega) hnk
  r3 := S.r3
  size := hsz.trans S.size
  dfr := by rw [hk.2 fun c => depOK_defer T.dep ho c]; exact S.dfr.mono hR.le
  glob := S.glob.mono hR.le
  own := hown
  rest := hrest }
 obtain ⟨E2, hp2, R2, S2⟩ := Sim.adopts T (T1 - (T0 + 1)) (Nat.le_refl _) S'
 rw [show T0 + 1 + (T1 - (T0 + 1)) = T1 by omega] at S2
 exact hK T1 E2 hp2 R2 a' w' G' S2
theorem Sim.final (T : Txt X ops alive act es hs nb) (hX : ∀ t, X.kn t = true) (hact : ∀ b, alive b = true → clsAt X.P ops b = 3 → act b = true) (G : Stg X ops alive nb l σ T0) (S : Sim X ops es hs nb E0 h0 w0 l σ T0 E hp R a w)
  (hall : ∀ j, j < ops.size → Lst l j) : Run E0 h0 w0 E (hs ops.size) w ∧ ERel X E (es ops.size) a := by
 have hT : T0 = ops.size := by
  rcases G.tend with h | h
  ·exact h
  ·obtain ⟨o, ho⟩ := clsAt_lt (P := X.P) (j := T0) (by rw [h]; decide)
   exact absurd (hall T0 (lt_of_op ho)) (G.nact T0 (Nat.le_refl _) h)
 have hfull := S.full T hact G fun k hk hn => hall k (by have := G.len; omega)
 rw [hT] at hfull S
 have hEE : ∀ i, i ≤ ops.size → EE E R i = E := fun i hi => EE_eq fun id k L h => by have := (S.r1 id k L h).2.2.1; omega
 refine ⟨S.run.congr hfull, S.size, fun t ht _ => ?_, ?_, S.glob⟩
 ·by_cases hex : ∃ (k : Nat) (p : Oper), ops[k]? = some p ∧ p.dst = some t
  ·obtain ⟨k, p, hp', hd⟩ := hex
   have hkn := lt_of_op hp'
   rw [T.slot_own hp' (by omega) hd hkn (Nat.le_refl _)]
   have := S.own k p t (hall k hkn) hp' hd ht
   rw [hEE (k + 1) (by omega)] at this
   exact this
  ·rw [T.slot_none (by omega) (Nat.zero_le _) (Nat.le_refl _) fun k p _ _ _ hp' hd => hex ⟨k, p, hp', hd⟩]
   exact S.rest t ht fun j p _ hp' hd => hex ⟨j, p, hp', hd⟩
 ·rw [T.slot_none (t := 1023) (by omega) (Nat.zero_le _) (Nat.le_refl _) fun k p _ hki ha hp' hd => ?_]
  ·exact S.dfr
  ·obtain ⟨⟨s, hs'⟩, _⟩ := T.env k p hp' ha
   rw [hd] at hs'
   simp only [SOk] at hs'
   have h1 : @LT.lt Nat _ 1023 992 := Nat.lt_of_lt_of_le hs'.1 hs'.2.1
   omega
end
end Go.Ev
set_option linter.unusedSimpArgs false
set_option linter.unusedVariables false
namespace Go.Ev
noncomputable section
variable {X : Cx} {ops : Array Oper} {c : Call}
variable {alive act : Nat → Bool} {es : Nat → Env} {hs : Nat → H} {nb : Nat → Option Blk}
variable {E0 : Emb} {h0 : H} {w0 : World}
def cnt (l : Array Bool) : Nat → Nat
 | 0 => 0
 | k + 1 => cnt l k + if l.getD k false = true then 0 else 1
theorem cnt_set_ge {l : Array Bool} {i : Nat} : ∀ {k : Nat}, k ≤ i → cnt (l.setIfInBounds i true) k = cnt l k
 | 0, _ => rfl
 | k + 1, h => by
  simp only [cnt]
  rw [cnt_set_ge (by omega), getD_set_ne false (by omega)]
theorem cnt_set {l : Array Bool} {i : Nat} (hi : i < l.size) (hn : ¬ Lst l i) : ∀ {k : Nat}, i < k → cnt (l.setIfInBounds i true) k + 1 = cnt l k
 | 0, h => by omega
 | k + 1, h => by
  simp only [cnt]
  by_cases hk : k = i
  ·subst hk
   rw [cnt_set_ge (Nat.le_refl _)]
   have h1 : (l.setIfInBounds k true).getD k false = true := (lst_set hi).2 (.inl rfl)
   have h2 : l.getD k false = false := by
    cases hq : l.getD k false with
    | true => exact absurd hq hn
    | false => rfl
   rw [if_pos h1, h2]
   rfl
  ·rw [getD_set_ne false (Ne.symm hk), ← cnt_set hi hn (k := k) (by omega)]
   omega
theorem cnt_zero {l : Array Bool} : ∀ {k : Nat}, cnt l k = 0 → ∀ j, j < k → Lst l j
 | 0, _, j, h => by omega
 | k + 1, h0, j, h => by
  simp only [cnt] at h0
  rcases Nat.lt_or_ge j k with h' | h'
  ·exact cnt_zero (k := k) (by omega) j h'
  ·obtain rfl : j = k := by omega
   unfold Lst
   cases hq : l.getD j false with
   | true => rfl
   | false => simp [hq] at h0
theorem cnt_le (l : Array Bool) : ∀ k, cnt l k ≤ k
 | 0 => Nat.le_refl _
 | k + 1 => by
  simp only [cnt]
  have := cnt_le l k
  split <;> omega
theorem stepOp_wpOp {P : Program} {Q : Exit → Act → World → Prop} {i : Nat} {o : Oper} (ho : ops[i]? = some o) {K : Act → World → Prop} {a : Act} {w : World} (h : stepOp P ops o a w K Q) : wpOp P ops Q i K a w := by
 unfold wpOp
 rw [ho]
 dsimp only
 unfold stepOp at h
 split
 ·rename_i hw; rw [if_pos hw] at h; exact .inl h
 ·rename_i hw; rw [if_neg hw] at h; exact h
def Ends (X : Cx) (ops : Array Oper) (c : Call) (alive act : Nat → Bool) (es : Nat → Env) (hs : Nat → H) (E0 : Emb) (h0 : H) (w0 : World) (Q : Exit → Act → World → Prop) : Prop :=
 (alive = (fun _ => true) ∧ act = (fun _ => true) ∧ ∀ E a w, Run E0 h0 w0 E (hs ops.size) w → ERel X E (es ops.size) a → Q .normal a w) ∨
 (∃ M o v e' h', ops[M]? = some o ∧ opClass X.P o.op = 3 ∧ opRun X ops c o (es M) (hs M) = .pan v e' h' ∧ alive = aliveAt (Region.before ops) M ∧ act = (fun i => Nat.ble i M) ∧
  ∀ E a x w, Run E0 h0 w0 E h' w → ERel X E (forget ops.toList (es ops.size)) a → Rel E v x → Q (.panic [{ v := x, recovered := false }]) a w)
theorem forget_slot : ∀ (l : List Oper) (e : Env) {t : Nat}, (∀ o ∈ l, ∀ u, o.dst = some u → u < 992) → t < 1024 → slot (forget l e) t = .nil ∨ (slot (forget l e) t = slot e t ∧ ∀ o ∈ l, o.dst ≠ some t)
 | [], e, t, _, _ => .inr ⟨rfl, fun o h => by cases h⟩
 | o :: l, e, t, hl, ht => by
  unfold forget
  cases hd : o.dst with
  | none =>
   dsimp only
   rcases forget_slot l e (fun p hp => hl p (by simp [hp])) ht with h | ⟨h1, h2⟩
   ·exact .inl h
   ·exact .inr ⟨h1, fun p hp => by
     rcases List.mem_cons.1 hp with rfl | hp
     ·rw [hd]; simp
     ·exact h2 p hp⟩
  | some u =>
   dsimp only
   have hu : @LT.lt Nat _ u 992 := hl o (by simp) u hd
   rcases forget_slot l (put e u .nil) (fun p hp => hl p (by simp [hp])) ht with h | ⟨h1, h2⟩
   ·exact .inl h
   ·by_cases hut : u = t
    ·subst hut
     exact .inl (by rw [h1, slot_put_same])
    ·refine .inr ⟨by rw [h1, slot_put_ne e (by omega) ht hut], fun p hp => ?_⟩
     rcases List.mem_cons.1 hp with rfl | hp
     ·rw [hd]; exact fun h => hut (by cases h; rfl)
     ·exact h2 p hp
theorem any_ok (T : Txt X ops alive act es hs nb) (hq : EqsOk X.P X.eqs) (hX : ∀ t, X.kn t = true) (hcl : CallOk X.P X.gl c) (hdst : ∀ o ∈ ops.toList, ∀ u, o.dst = some u → u < 992)
  {Q : Exit → Act → World → Prop} (hend : Ends X ops c alive act es hs E0 h0 w0 Q) : ∀ (fuel : Nat) {l : Array Bool} {σ T0 : Nat} {E : Emb} {hp : H} {R : Early} {a : Act} {w : World},
  Stg X ops alive nb l σ T0 → Sim X ops es hs nb E0 h0 w0 l σ T0 E hp R a w → cnt l ops.size ≤ fuel → wpAny X.P .any ops Q fuel l a w := by
 have hact : ∀ b, alive b = true → clsAt X.P ops b = 3 → act b = true := by
  intro b hb h3
  rcases hend with ⟨_, h, _⟩ | ⟨M, o, v, e', h', hM, hc, _, hal, hac, _⟩
  ·rw [h]
  ·rw [hac]
   rw [hal] at hb
   have hcM : clsAt X.P ops M = 3 := by rw [clsAt_some hM]; exact hc
   rw [Nat.ble_eq]
   rcases Nat.lt_or_ge M b with h | h
   ·have := actOK_spec T.acts h h3 (.inl hcM)
    unfold aliveAt at hb
    unfold pre at this
    rw [this] at hb
    have hlt : Nat.blt b M = false := by
     cases hq : Nat.blt b M
     ·rfl
     ·rw [Nat.blt_eq] at hq; omega
    rw [hlt] at hb
    simp at hb
   ·exact h
 have final : ∀ {l : Array Bool} {σ T0 : Nat} {E : Emb} {hp : H} {R : Early} {a : Act} {w : World}, Stg X ops alive nb l σ T0 → Sim X ops es hs nb E0 h0 w0 l σ T0 E hp R a w → (∀ j, j < ops.size → Lst l j) → Q .normal a w := by
  intro l σ T0 E hp R a w G S hall
  rcases hend with ⟨_, _, h⟩ | ⟨M, o, v, e', h', hM, hc, _, hal, hac, _⟩
  ·obtain ⟨f1, f2⟩ := S.final T hX hact G hall
   exact h E a w f1 f2
  ·have := (G.live M (hall M (lt_of_op hM))).1
   rw [hal] at this
   simp [aliveAt, blt_irrefl'] at this
 intro fuel
 induction fuel with
 | zero =>
  intro l σ T0 E hp R a w G S hcnt
  have hall := cnt_zero (l := l) (k := ops.size) (by omega)
  refine ⟨?_, final G S hall⟩
  cases hr : Region.ready .any ops l with
  | nil => rfl
  | cons j r =>
   obtain ⟨hun, o, ho, _⟩ := mem_ready.1 (show j ∈ Region.ready .any ops l by rw [hr]; simp)
   have := hall j (lt_of_op ho)
   unfold Lst at this
   have hjl : j < l.size := by rw [G.sz]; exact lt_of_op ho
   unfold Array.getD at hun this
   rw [dif_pos hjl] at hun this
   rw [hun] at this; cases this
 | succ fuel ih =>
  intro l σ T0 E hp R a w G S hcnt
  refine ⟨fun hr => final G S (all_listed T.back G.sz hr), fun i hi => ?_⟩
  obtain ⟨hun, o, ho, _⟩ := mem_ready.1 hi
  have hin := lt_of_op ho
  have hil : i < l.size := by rw [G.sz]; exact hin
  have hnot : ¬ Lst l i := fun h => by
   unfold Lst at h
   unfold Array.getD at hun h
   rw [dif_pos hil] at hun h
   rw [hun] at h; cases h
  have hpre : ∀ k, pre ops k i → Lst l k := fun k => ready_pre G.closed hi
  have hcnt' : cnt (l.setIfInBounds i true) ops.size ≤ fuel := by have := cnt_set hil hnot hin; omega
  have act_pos : clsAt X.P ops i = 3 → i = T0 := by
   intro h3
   rcases Nat.lt_trichotomy i T0 with h | h | h
   ·rcases Nat.lt_or_ge i σ with h' | h'
    ·rcases G.start with hs0 | ⟨b, hb, hb3, hbl⟩
     ·omega
     ·have hne : i ≠ b := fun e => hnot (e ▸ hbl)
      exact absurd (G.closed _ _ hbl (actOK_spec T.acts (show i < b by omega) hb3 (.inl h3))) hnot
    ·exact absurd h3 (G.noact i h' h)
   ·exact h
   ·have hT3 : clsAt X.P ops T0 = 3 := by
     rcases G.tend with h' | h'
     ·omega
     ·exact h'
    exact absurd (hpre T0 (actOK_spec T.acts h h3 (.inl hT3))) (G.nact T0 (Nat.le_refl _) hT3)
  have actT0 : T0 < ops.size → act T0 = true := by
   intro hT
   have hT3 : clsAt X.P ops T0 = 3 := by
    rcases G.tend with h' | h'
    ·omega
    ·exact h'
   rcases hend with ⟨_, h, _⟩ | ⟨M, o, v, e', h', hM, hc, _, hal, hac, _⟩
   ·rw [h]
   ·rw [hac, Nat.ble_eq]
    have hcM : clsAt X.P ops M = 3 := by rw [clsAt_some hM]; exact hc
    have hMl : ¬ Lst l M := fun h => by
     have := (G.live M h).1
     rw [hal] at this
     simp [aliveAt, blt_irrefl'] at this
    have hσM : σ ≤ M := by
     rcases G.start with hs0 | ⟨b, hb, hb3, hbl⟩
     ·omega
     ·rcases Nat.lt_trichotomy b M with h | h | h
      ·omega
      ·exact absurd (h ▸ hbl) hMl
      ·exact absurd (G.closed _ _ hbl (actOK_spec T.acts h hb3 (.inl hcM))) hMl
    rcases Nat.lt_or_ge M T0 with h | h
    ·exact absurd hcM (G.noact M hσM h)
    ·exact h
  cases ha : alive i with
  | false =>
   rcases hend with ⟨hal, _, _⟩ | ⟨M, o', v, e', h', hM, hc, hrun, hal, hac, hfin⟩
   ·rw [hal] at ha; cases ha
   ·have hMl : ¬ Lst l M := fun h => by
     have := (G.live M h).1
     rw [hal] at this
     simp [aliveAt, blt_irrefl'] at this
    have hiM : i = M := by
     rw [hal] at ha
     unfold aliveAt at ha
     simp only [Bool.or_eq_false_iff, Bool.and_eq_false_iff, Bool.not_eq_false'] at ha
     rcases ha.2 with h | h
     ·exact of_beq_true h
     ·exact absurd (hpre M h) hMl
    subst hiM
    rw [ho] at hM; cases hM
    have hcA : clsAt X.P ops i = 3 := by rw [clsAt_some ho]; exact hc
    have hiT := act_pos hcA
    have hall : ∀ k, k < T0 → nb k ≠ none → Lst l k := fun k hk hn => by
     cases h : nb k with
     | none => exact absurd h hn
     | some b => exact hpre k (actOK_spec T.acts (by omega) hcA (.inr (T.nb_alive h).2.2))
    have hfull := S.full T hact G hall
    have hEEi : EE E R i = E := EE_eq fun id k L h => by have := (S.r1 id k L h).2.2.1; omega
    have he := S.erel T G.closed G.live ho hnot hpre
    rw [hEEi] at he
    rw [← hiT] at hfull
    refine stepOp_wpOp ho (real_pan hq hX hcl hrun he (S.run.rel.congr hfull) _ Q fun E' x w' hR hv => ?_)
    refine hfin E' a x w' ((S.run.congr hfull).trans hR) ⟨S.size, fun t ht _ => ?_, ?_, S.glob.mono hR.le⟩ hv
    ·rcases forget_slot ops.toList (es ops.size) hdst (t := t) (by omega) with h | ⟨h1, h2⟩
     ·rw [h]; simp [Rel]
     ·have h2' : ∀ (k : Nat) (p : Oper), ops[k]? = some p → p.dst ≠ some t := fun k p hp' => h2 p (by simpa using Array.mem_of_getElem? hp')
      rw [h1, T.slot_none (by omega) (Nat.zero_le _) (Nat.le_refl _) fun k p _ _ _ hp' => h2' k p hp']
      exact (S.rest t ht fun j p _ hp' => h2' j p hp').mono hR.le
    ·have hbig : ∀ (k : Nat) (p : Oper), ops[k]? = some p → p.dst ≠ some 1023 := fun k p hp' hd => by
      have : @LT.lt Nat _ 1023 992 := hdst p (by simpa using Array.mem_of_getElem? hp') 1023 hd
      omega
     rcases forget_slot ops.toList (es ops.size) hdst (t := 1023) (by omega) with h | ⟨h1, h2⟩
     ·exfalso
      have : ∀ (l : List Oper) (e : Env), (∀ p ∈ l, ∀ u, p.dst = some u → u < 992) → slot (forget l e) 1023 = slot e 1023 := by
       intro l
       induction l with
       | nil => intro e _; rfl
       | cons p l ihl =>
        intro e hl
        unfold forget
        cases hd : p.dst with
        | none => exact ihl e fun q hq => hl q (by simp [hq])
        | some u =>
         dsimp only
         rw [ihl _ fun q hq => hl q (by simp [hq])]
         have hu : @LT.lt Nat _ u 992 := hl p (by simp) u hd
         exact slot_put_ne e (by omega) (by omega) (by omega) .nil
      rw [this _ _ hdst] at h
      have hd := S.dfr
      rw [T.slot_none (t := 1023) (by omega) (Nat.zero_le ops.size) (Nat.le_refl _) fun k p _ _ _ hp' => hbig k p hp'] at h
      rw [h] at hd
      cases hds : a.defers with
      | nil => rw [hds] at hd; simp [DRel] at hd
      | cons d ds =>
       rw [hds] at hd
       rcases hd with ⟨_, _, _, _, _, _, _, _, e, _⟩ | ⟨_, _, _, e, _⟩ <;> cases e
     ·rw [h1, T.slot_none (t := 1023) (by omega) (Nat.zero_le _) (Nat.le_refl _) fun k p _ _ _ hp' => hbig k p hp']
      exact S.dfr.mono hR.le
  | true =>
   by_cases hc3 : opClass X.P o.op = 3
   ·have hcA : clsAt X.P ops i = 3 := by rw [clsAt_some ho]; exact hc3
    have hiT := act_pos hcA
    subst hiT
    exact stepOp_wpOp ho (S.acts T hact G ho hi ha hc3 Q _ fun T1 E' hp' R' a' w' G' S' => ih G' S' hcnt')
   ·have hcA : clsAt X.P ops i ≠ 3 := by rw [clsAt_some ho]; exact hc3
    have G' := G.next T ho hi ha hcA
    have hiT : i ≠ T0 := fun e => by
     rcases G.tend with h | h
     ·omega
     ·rw [← e] at h; exact hcA h
    cases hn : nb i with
    | some b =>
     rcases Nat.lt_or_ge i T0 with h | h
     ·have hσi : σ ≤ i := by
       rcases Nat.lt_or_ge i σ with h' | h'
       ·exact absurd (G.made i h' (by rw [hn]; simp)) hnot
       ·exact h'
      exact stepOp_wpOp ho (S.alloc T hact G ho hnot hpre ha hn hσi h Q _ fun E' hp' x w' S' => ih G' S' hcnt')
     ·exact stepOp_wpOp ho (S.early T hact G ho hnot hpre ha hn (by omega) Q _ fun R' x w' S' => ih G' S' hcnt')
    | none =>
     have he := S.erel T G.closed G.live ho hnot hpre
     by_cases hc2 : opClass X.P o.op = 2
     ·have hex : ∃ hx, (hx = hs i ∨ ∃ b, clsAt X.P ops b = 3 ∧ act b = true ∧ ¬ pre ops i b ∧ ¬ pre ops b i ∧ hx = hs (if Nat.blt b i then b else b + 1)) ∧ HSub (EE E R i) hx w := by
       rcases Nat.lt_or_ge i σ with h | h
       ·rcases G.start with hs0 | ⟨b, hb, hb3, hbl⟩
        ·omega
        ·have hne : i ≠ b := fun e => hnot (e ▸ hbl)
         have hib : i < b := by omega
         refine ⟨hs σ, .inr ⟨b, hb3, hact b (G.live b hbl).1 hb3, fun hp' => hnot (G.closed _ _ hbl hp'), fun hp' => by have := pre_lt T.back hp'; omega, ?_⟩, S.sub T hact G (Nat.le_refl _) G.le⟩
         have : Nat.blt b i = false := by
          cases hq' : Nat.blt b i
          ·rfl
          ·rw [Nat.blt_eq] at hq'; omega
         rw [this, hb]; rfl
       ·rcases Nat.lt_or_ge i T0 with h' | h'
        ·exact ⟨hs i, .inl rfl, S.sub T hact G h (by omega)⟩
        ·have hTi : T0 < i := by omega
         have hT3 : clsAt X.P ops T0 = 3 := by
          rcases G.tend with h' | h'
          ·omega
          ·exact h'
         refine ⟨hs T0, .inr ⟨T0, hT3, actT0 (by omega), fun hp' => by have := pre_lt T.back hp'; omega, fun hp' => G.nact T0 (Nat.le_refl _) hT3 (hpre T0 hp'), ?_⟩, S.sub T hact G G.le (Nat.le_refl _)⟩
         have : Nat.blt T0 i = true := by rw [Nat.blt_eq]; exact hTi
         rw [this]; rfl
      obtain ⟨hx, hx1, hx2⟩ := hex
      obtain ⟨x, x1, x2⟩ := T.pure i o ho ha hc3 hn hx (fun _ => hx1) (fun h => absurd hc2 h) _ a w he hx2
      exact stepOp_wpOp ho (x2 _ Q (ih G' (S.read T G.sz ho hnot ha hn x1) hcnt'))
     ·obtain ⟨x, x1, x2⟩ := T.pure i o ho ha hc3 hn H.empty (fun h => absurd h hc2) (fun _ => rfl) _ a w he (HSub.empty _ _)
      exact stepOp_wpOp ho (x2 _ Q (ih G' (S.read T G.sz ho hnot ha hn x1) hcnt'))
theorem region_drawn (hm : X.P.follows .mixedOrders = true) (hq : EqsOk X.P X.eqs) (hX : ∀ t, X.kn t = true) (id : Nat) (ops : Array Oper) : CodeOk X (.region id ops true) := by
 intro hok F hF nx cl hcl E0 h0 w0 E e h a w hR he r hk hb
 rw [comp_region] at hk
 simp only [compRegion] at hk
 have hchk : okRegion X.P X.tab id ops = true := hok
 unfold okRegion at hchk
 cases hbad : isBadR (tabFind X.tab id) with
 | true => rw [hbad] at hk; exact bad_of hk hb
 | false =>
  rw [hbad] at hk hchk
  dsimp only at hk
  simp only [Bool.false_or, Bool.and_eq_true] at hchk
  obtain ⟨⟨⟨⟨hback, hacts⟩, hdep⟩, hdst⟩, hkeys⟩ := hchk
  have hks : prsOf ops (tabFind X.tab id) = pairsOf X.P ops (Region.before ops) (fun _ => true) (fun _ => true) := by
   rw [eqKeys_eq hkeys]
   exact prsOf_keys ops fun p hp => by
    obtain ⟨i, b, o, q, ho, _, _, _, _, _, hor⟩ := mem_pairs.1 hp
    rcases hor with ⟨_, rfl⟩ | ⟨_, _, rfl⟩ <;> exact ho
  have hdst' : ∀ o ∈ ops.toList, ∀ u, o.dst = some u → u < 992 := fun o ho u hu => by
   have := List.all_eq_true.1 hdst o ho
   rw [hu] at this
   simpa [Nat.blt_eq] using this
  obtain ⟨alive, act, es, hs, hes, hhs, hts, hck, hfin⟩ := compDrawn_ok hks hk hb
  obtain ⟨nb, T⟩ := txt_of hq hX hcl hback hacts hdep hts hck
  refine wpIn_region_draw fun t => wpOps_in hF NextPost.letsOut _ _ _ ?_
  simp only [Region.schedule, hm, Bool.true_or, if_true]
  refine wpAny_sound ops.size t _ a _ ?_
  have hR' : Run E0 h0 w0 E (hs 0) { w with drawn := w.drawn + 1 } := by
   rw [hhs]
   exact { le := hR.le, rel := { dom := hR.rel.dom, lt := hR.rel.lt, rel := fun i L e => (hR.rel.rel i L e).world rfl, inj := hR.rel.inj, ancs := hR.rel.ancs, ext := hR.rel.ext, ends := hR.rel.ends }, size := hR.size, frame := hR.frame, wrs := hR.wrs, old := hR.old, os := hR.os, out := hR.out, tape := hR.tape }
  obtain ⟨T1, t1, t2, t3, t4⟩ := next_act X.P ops ops.size (s := 0) (by omega)
  have hno : ∀ j, ¬ Lst (Array.replicate ops.size false) j := fun j h => by
   unfold Lst at h
   rw [Array.getD_eq_getD_getElem?, Array.getElem?_replicate] at h
   split at h <;> simp at h
  have G : Stg X ops alive nb (Array.replicate ops.size false) 0 T1 := {
   sz := by simp
   closed := fun i j hj => absurd hj (hno j)
   live := fun j hj => absurd hj (hno j)
   le := t1
   len := t2
   start := .inl rfl
   made := fun k hk => by omega
   noact := t3
   tend := t4
   nact := fun j _ _ => hno j }
  have S : Sim X ops es hs nb E0 h0 w0 (Array.replicate ops.size false) 0 T1 E (hs 0) (fun _ => none) a { w with drawn := w.drawn + 1 } := {
   run := hR'
   hp := fun id => .inl ⟨rfl, fun k _ _ hk => absurd hk (hno k)⟩
   r1 := fun id k L h => by cases h
   r2 := fun k hk => absurd hk (hno k)
   r3 := fun _ _ _ _ _ _ h => by cases h
   size := he.size
   dfr := by rw [hes]; exact he.dfr
   glob := he.glob
   own := fun j o t hj => absurd hj (hno j)
   rest := fun t ht _ => by rw [hes]; exact he.tmps t ht (hX t) }
  refine any_ok T hq hX hcl hdst' ?_ ops.size G S (cnt_le _ _)
  rcases hfin with ⟨hal, hac, hnx⟩ | ⟨M, o, v, e', h', hM, hc, hrun, hal, hac, hr⟩
  ·exact .inl ⟨hal, hac, fun E a w hR he => ⟨es ops.size, hs ops.size, E, hnx, hR, he⟩⟩
  ·exact .inr ⟨M, o, v, e', h', hM, hc, hrun, hal, hac, fun E a x w hR he hv => ⟨v, x, _, h', E, hr, rfl, hR, he, hv⟩⟩
end
end Go.Ev
set_option linter.unusedSimpArgs false
set_option linter.unusedVariables false
namespace Go.Ev
noncomputable section
variable {X : Cx}
def BackOk (P : Program) (f : FuncId) : Prop :=
 (∃ fn, P.funcs[f]? = some fn ∧ fn.body.isSome = true ∧ fn.name ≠ "runtime.NumGoroutine") ∧
 ∀ (l bA oA : Nat) (N : Nat) (I : Nat → World → Prop) (R : Ending → World → Prop) (W : World),
  (∃ b c, W.cell? ⟨bA, oA, none⟩ = some (.slice b N c) ∧ N ≤ 32768) → I N W →
  (∀ k W, k < N → I (k + 1) W → ∃ ba oa len c x, W.cell? ⟨bA, oA, none⟩ = some (.slice (some ⟨ba, oa, none⟩) len c) ∧ k < len ∧ W.cell? ⟨ba, oa + k, none⟩ = some x ∧ oneCell x ∧
   YieldAt Fence.wide 0 P l #[.int .i64 k, x] W fun en W' => en = .returned (.bool true) ∧ I k W') →
  (∀ v W, I 0 W → R (.returned v) W) →
  CallsIn Fence.wide 0 P f #[.func (.yield l) #[] #[], .pointer (some ⟨bA, oA, none⟩)] W R
theorem backStart_ok {x : V} {k : Nat → Out} {r : Out} (h : backStart x k = r) (hb : NotBad r) {E : Emb} {y : Value} (hy : Rel E x y) : ∃ n b c, k n = r ∧ y = .slice b n c ∧ n ≤ 32768 := by
 unfold backStart at h
 split at h
 ·simp only [Rel] at hy; exact ⟨0, _, _, h, hy, by omega⟩
 ·rename_i i e s len cap
  simp only [Rel] at hy
  obtain ⟨L, a, c, _, _, _, _, hl, rfl⟩ := hy
  exact ⟨_, _, _, h, rfl, hl⟩
 ·exact bad_of h hb
theorem Run.turn {E0 E : Emb} {h0 h : H} {w0 w : World} (hR : Run E0 h0 w0 E h w) {l : Nat} (hl : w0.heap.size ≤ l) (hun : ∀ id L, E id = some L → L.blk ≠ l) (o : Obj) : Run E0 h0 w0 E h (w.putObj l o) where
 le := hR.le
 rel := {
  dom := hR.rel.dom
  lt := fun i L e => by rw [World.putObj_size]; exact hR.rel.lt i L e
  rel := fun i L e => (hR.rel.rel i L e).world (World.putObj_heap_other (hun i L e))
  inj := hR.rel.inj
  ancs := hR.rel.ancs
  ext := hR.rel.ext
  ends := hR.rel.ends }
 size := by rw [World.putObj_size]; exact hR.size
 frame := fun b hb hn => by rw [World.putObj_heap_other (by omega)]; exact hR.frame b hb hn
 wrs := hR.wrs
 old := hR.old
 os := hR.os
 out := hR.out
 tape := hR.tape
theorem Run.keeps {E E' : Emb} {h h' : H} {w w' : World} (hR : Run E h w E' h' w') {l : Nat} {o : Obj} (hl : w.heap[l]? = some o) (hun : ∀ id L, E id = some L → L.blk ≠ l) :
  w'.heap[l]? = some o ∧ ∀ id L, E' id = some L → L.blk ≠ l := by
 have hlt : l < w.heap.size := (Array.getElem?_eq_some_iff.1 hl).1
 refine ⟨by rw [hR.frame l hlt fun i L e _ => hun i L e]; exact hl, fun id L e he => ?_⟩
 obtain ⟨j, Lj, ej, hj⟩ := hR.old id L e (he ▸ hlt)
 exact hun j Lj ej (hj.trans he)
theorem slot_mark (e : Env) (d : Id) (t : Nat) (ht : t < 1024) : slot (markE e d) t = if t = 1023 then .cons (.ptr d 0) (slot e 1023) else slot e t := by
 have : markE e d = put e 1023 (.cons (.ptr d 0) (slot e 1023)) := by unfold markE; rw [put_top, slot_top]
 rw [this]
 by_cases h : t = 1023
 ·subst h; simp [slot_put_same]
 ·rw [slot_put_ne e (by omega) ht (Ne.symm h)]; simp [h]
theorem slot_clear (e : Env) (t : Nat) (ht : t < 1024) : slot (clearE e) t = if t = 1023 then .undef else slot e t := by
 have : clearE e = put e 1023 .undef := by unfold clearE; rw [put_top]
 rw [this]
 by_cases h : t = 1023
 ·subst h; simp [slot_put_same]
 ·rw [slot_put_ne e (by omega) ht (Ne.symm h)]; simp [h]
theorem rangeFunc_ok (hX : ∀ t, X.kn t = true) (hbw : ∀ f ∈ X.bw, BackOk X.P f) {x : Operand} {params : Array Tmp} {ca cb : Code} (ha : CodeOk X ca) (hcb : CodeOk X cb) : CodeOk X (.rangeFunc x params ca cb) := by
 intro hok F hF nx cl hcl E0 h0 w0 E e h a w hR he r hk hb
 obtain ⟨hoka, hokb⟩ := Bool.and_eq_true_iff.1 hok
 obtain rfl : F = Fence.wide := by
  rcases hF with h | ⟨l, _, hc⟩
  ·exact h
  ·cases hc
 rw [comp_rangeFunc] at hk
 unfold compRange at hk
 split at hk
 ·rename_i p q hps
  rcases opd_cases X x _ (badM "rangeFunc") with ⟨g, hg, e1⟩ | e1 <;> rw [e1] at hk
  ·rcases dst_cases X (some p) _ (badM "rangeFunc") with ⟨sp, hsp, e1⟩ | e1 <;> rw [e1] at hk
   ·rcases dst_cases X (some q) _ (badM "rangeFunc") with ⟨sq, hsq, e1⟩ | e1 <;> rw [e1] at hk
    ·have hcmb : ∀ (e : Env) (h : H), (comp X cb nrmM).f cl e h = (comp X cb nrmM).f cl e h := fun _ _ => rfl
     cases hb' : comp X cb nrmM with | mk mb =>
     rw [hb'] at hk
     dsimp only at hk
     cases hm : comp X ca mb with | mk m =>
     rw [hm] at hk
     dsimp only at hk
     cases hcalm : calm ca && calm cb with
     | false => rw [hcalm] at hk; exact bad_of hk hb
     | true =>
      rw [hcalm] at hk
      dsimp only at hk
      obtain ⟨hca, hcc⟩ := Bool.and_eq_true_iff.1 hcalm
      have h1 := hg E e a he
      split at hk
      ·rename_i f i o hgv
       rw [hgv] at h1
       simp only [Rel] at h1
       obtain ⟨xs, ys, hx1, hx2, hx3⟩ := h1
       simp only [RelL] at hx1 hx2
       subst hx1
       obtain ⟨y, r1, ⟨L, hL, hy⟩, hr1, hx2⟩ := hx2
       subst hr1; subst hy; subst hx2
       split at hk
       ·rename_i hf
        have hf' : f ∈ X.bw := by simpa using hf
        obtain ⟨h1, f1, hk, f3, f4⟩ := new_spec hk hb
        have hEd : E h.next = none := (hR.rel.dom _).2 f1
        have hrun1 : Run E h w (E.set h.next ⟨w.heap.size, 0, 0, 0⟩) h1 (w.alloc (.deferred (some []))) :=
         hR.rel.alloc (w' := w.alloc (.deferred (some []))) (o := .deferred (some [])) f1 f3 f4 rfl rfl rfl rfl 0 0 trivial (fun _ _ _ _ e => by cases e) ⟨rfl, by rw [World.alloc]; simp⟩
        generalize hE1 : E.set h.next ⟨w.heap.size, 0, 0, 0⟩ = E1 at hrun1
        have hE1d : E1 h.next = some ⟨w.heap.size, 0, 0, 0⟩ := by rw [← hE1]; exact Emb.set_same _ _ _
        obtain ⟨cc, n, x', a', hbk, hlt, hk⟩ := loadOne_ok hk hb
        have hL1 : E1 i = some L := hrun1.le i L hL
        obtain ⟨_, sv, hcell, hrel⟩ := hrun1.rel.cell hL1 hbk hlt
        obtain ⟨N, sb, sc, hk, rfl, hN⟩ := backStart_ok hk hb hrel
        refine wpIn_rangeFunc fun fn hfn => ?_
        obtain ⟨rec, hrec⟩ : ∃ rec : LoopState → Option Code → Loop, rec = fun st pe => { state := st, pending := pe, fn, tmps := a.tmps, params := params, assign := ca, body := cb, defers := w.heap.size } := ⟨_, rfl⟩
        let W1 := (w.alloc (.deferred (some []))).alloc (.loop (rec .ready none))
        have hW1 : W1 = (w.alloc (.deferred (some []))).alloc (.loop (rec .ready none)) := rfl
        have hrunW : Run E h w E1 h1 W1 := hrun1.push _
        have hl0 : W1.heap[w.heap.size + 1]? = some (.loop (rec .ready none)) := by
         have := World.alloc_heap_new (w.alloc (.deferred (some []))) (.loop (rec .ready none)); rwa [World.size_alloc] at this
        have hun0 : ∀ id L', E1 id = some L' → L'.blk ≠ w.heap.size + 1 := fun id L' e he => by
         have := hrun1.rel.lt id L' e
         rw [World.size_alloc] at this
         omega
        refine ⟨w.heap.size + 1, [{ target := .collected w.heap.size, args := #[] }], W1, { target := .fn (.func f) [.pointer (some ⟨L.blk, L.base + o, none⟩)].toArray, args := #[.func (.yield (w.heap.size + 1)) #[] #[]] }, W1, f,
         #[.func (.yield (w.heap.size + 1)) #[] #[], .pointer (some ⟨L.blk, L.base + o, none⟩)], W1, ?_, ?_, ?_, ?_, (fun h => by cases h), ?_⟩
        ·rw [hW1, hrec]; exact run_enterLoop_outer _ _ _ _ _
        ·simp only [resolve, hx3]
         simp [go_sem]
        ·intro f' _; trivial
        ·simp [invoke, run_callFunc (hbw f hf').1]
        ·
         have hcell1 : W1.cell? ⟨L.blk, L.base + o, none⟩ = some (.slice sb N sc) := by
          have hlt' := hrun1.rel.lt i L hL1
          unfold World.cell? at hcell ⊢
          have : W1.heap[L.blk]? = (w.alloc (.deferred (some []))).heap[L.blk]? := by
           show ((w.alloc (.deferred (some []))).heap.push _)[L.blk]? = _
           rw [Array.getElem?_push, if_neg (by omega)]
          rw [this]; exact hcell
         have heC : ∀ E', E.le E' → ERel X E' (clearE e) { a with defers := [] } := fun E' hE => ⟨he.size, fun t ht hkn => by
           rw [slot_clear e t (by omega), if_neg (by omega)]; exact (he.tmps t ht hkn).mono hE, by
           rw [slot_clear e 1023 (by omega), if_pos rfl]; simp [DRel], he.glob.mono hE⟩
         refine (hbw f hf').2 (w.heap.size + 1) L.blk (L.base + o) N
          (fun k W => ∃ E' h', backRounds m (fun e v w => sq (sp e v) w) cl i o (clearE e) (fun _ h_1 => nx cl (markE e h.next) h_1) k h' = r ∧ Run E0 h0 w0 E' h' W ∧ E1.le E' ∧
           W.heap[w.heap.size + 1]? = some (.loop (rec .ready none)) ∧ ∀ id L', E' id = some L' → L'.blk ≠ w.heap.size + 1) _ W1 ⟨sb, sc, hcell1, hN⟩ ⟨E1, h1, hk, hR.trans hrunW, Emb.le_refl _, hl0, hun0⟩ ?_ ?_
         ·rintro k W hkN ⟨E', h', hkr, hR', hE', hl, hun⟩
          simp only [backRounds] at hkr
          obtain ⟨c2, n2, x2, a2, hbk2, hlt2, hkr⟩ := loadOne_ok hkr hb
          have hL2 : E' i = some L := hE' i L hL1
          obtain ⟨_, sv2, hcell2, hrel2⟩ := hR'.rel.cell hL2 hbk2 hlt2
          split at hkr
          ·rename_i j eo sz len cap hsv
           rw [hsv] at hrel2
           simp only [Rel] at hrel2
           obtain ⟨Lj, aj, cj, hLj, _, hja, hlc, _, rfl⟩ := hrel2
           split at hkr
           ·rename_i hsz hle
            have hsz1 : sz = 1 := of_beq_true hsz
            have hle1 : k + 1 ≤ len := of_ble_true hle
            obtain ⟨c3, n3, x3, a3, hbk3, hlt3, hkr⟩ := loadOne_ok hkr hb
            obtain ⟨hsc3, ev, hcell3, hrel3⟩ := hR'.rel.cell hLj hbk3 hlt3
            have haj : aj = (⟨Lj.blk, Lj.base + eo * sz, none⟩ : Addr) := hja.resolve_left (by omega)
            subst hsz1
            subst haj
            refine ⟨Lj.blk, Lj.base + eo * 1, len, cj, ev, hcell2, by omega, by rw [Nat.mul_one, Nat.add_assoc]; exact hcell3, Rel.oneCell hsc3 hrel3, ?_⟩
            have hy := run_yield (P := X.P) (args := #[.int .i64 (k : Int), ev]) hl (by
              rw [hrec]; have : params.size = 2 := by rw [← Array.length_toList, hps]; rfl
              simp [this])
            rw [hrec] at hy
            refine ⟨fn, _, ca, cb, hy, roundIn_of_wpIn hfn ?_⟩
            have hfold : (params.zip #[.int .i64 (k : Int), ev]).foldl (fun tmps (x : Tmp × Value) => tmps.setIfInBounds x.1 x.2) a.tmps = (({ a with defers := [] } : Act).put (some p) (.int .i64 (k : Int)) |>.put (some q) ev).tmps := by
             rw [← Array.foldl_toList, Array.toList_zip, hps]
             rfl
            have her : ERel X E' (sq (sp (clearE e) (.int .i64 k)) (c3.get (eo + k))) { tmps := (params.zip #[.int .i64 (k : Int), ev]).foldl (fun tmps (x : Tmp × Value) => tmps.setIfInBounds x.1 x.2) a.tmps, defers := [] } := by
             have h3 := ((heC E' (hrunW.le.trans hE')).set (v := .int .i64 k) (x := .int .i64 (k : Int)) hsp (by simp only [Rel]; exact ⟨by show k < 18446744073709551616; omega, by rw [toInt_i64 (by omega)]⟩)).set (v := c3.get (eo + k)) (x := ev) hsq hrel3
             rw [hfold]
             exact h3
            have hFa : FOkR (Fence.wide.inRound (w.heap.size + 1)) ca := .inr ⟨_, rfl, hca⟩
            have hFb : FOkR (Fence.wide.inRound (w.heap.size + 1)) cb := .inr ⟨_, rfl, hcc⟩
            cases hro : m cl (sq (sp (clearE e) (.int .i64 k)) (c3.get (eo + k))) h' <;> rw [hro] at hkr <;> try exact bad_of hkr hb
            rename_i e4 h4
            have hnb : NotBad (.nrm e4 h4) := by intro s h; cases h
            refine wpIn_mono (ha hoka _ hFa mb cl hcl E' h' W E' _ h' _ W (Run.refl hR'.rel) her (.nrm e4 h4) (by rw [hm]; exact hro) hnb) fun ex a5 W5 hp => ?_
            cases ex with
            | normal =>
             obtain ⟨e5, h5, E5, hn5, hR5, he5⟩ := hp
             obtain ⟨hl5, hun5⟩ := hR5.keeps hl hun
             have hlw : w0.heap.size ≤ w.heap.size + 1 := by have := hR.size; omega
             have hR6 : Run E0 h0 w0 E5 h5 (W5.putObj (w.heap.size + 1) (.loop { rec .ready none with state := .busy })) := (hR'.trans hR5).turn hlw hun5 _
             refine ⟨_, run_beginRound hl5 (by rw [hrec]), ?_⟩
             have hl6 : (W5.putObj (w.heap.size + 1) (.loop { rec .ready none with state := .busy })).heap[w.heap.size + 1]? = some (.loop { rec .ready none with state := .busy }) := World.putObj_heap_same (Array.getElem?_eq_some_iff.1 hl5).1
             refine wpIn_mono (hcb hokb _ hFb nrmM cl hcl E5 h5 _ E5 e5 h5 a5 _ (Run.refl hR6.rel) he5 (.nrm e4 h4) (by rw [hb']; exact hn5) hnb) fun ex a7 W7 hp => ?_
             cases ex with
             | normal =>
              obtain ⟨e7, h7, E7, hn7, hR7, he7⟩ := hp
              cases hn7
              obtain ⟨hl7, hun7⟩ := hR7.keeps hl6 hun5
              have hend := run_endRound (P := X.P) none hl7
              rw [hrec] at hend
              have hW8 := World.putObj_heap_same (o := .loop (rec .ready none)) (Array.getElem?_eq_some_iff.1 hl7).1
              refine ⟨_, _, hend, rfl, E7, h4, hkr, (hR6.trans hR7).turn hlw hun7 _, (hE'.trans hR5.le).trans hR7.le, ?_, hun7⟩
              rw [hrec] at hW8 ⊢
              exact hW8
             | ret => obtain ⟨_, _, _, h, _⟩ := hp; cases h
             | exit id => obtain ⟨_, _, _, h, _⟩ := hp; cases h
             | goto t => exact hp.elim
             | panic ch => obtain ⟨_, _, _, _, _, h, _⟩ := hp; cases h
             | outgrown => exact hp.elim
            | ret => obtain ⟨_, _, _, h, _⟩ := hp; cases h
            | exit id => obtain ⟨_, _, _, h, _⟩ := hp; cases h
            | goto t => exact hp.elim
            | panic ch => obtain ⟨_, _, _, _, _, h, _⟩ := hp; cases h
            | outgrown => exact hp.elim
           ·exact bad_of hkr hb
          ·exact bad_of hkr hb
         ·rintro v W ⟨E', h', hkr, hR', hE', hl, hun⟩
          simp only [backRounds] at hkr
          have hend := run_endLoop (P := X.P) hl (by rw [hrec]; simp)
          rw [hrec] at hend
          refine ⟨none, _, hend, markE e h.next, h', E', hkr, hR'.turn (by have := hR.size; omega) hun _, ?_⟩
          have hle := hrunW.le.trans hE'
          refine ⟨he.size, fun t ht hkn => ?_, ?_, he.glob.mono hle⟩
          ·rw [slot_mark e _ t (by omega), if_neg (by omega)]; exact (he.tmps t ht hkn).mono hle
          ·rw [slot_mark e _ 1023 (by omega), if_pos rfl]
           exact .inr ⟨h.next, slot e 1023, ⟨w.heap.size, 0, 0, 0⟩, rfl, hE' _ _ hE1d, rfl, he.dfr.mono hle⟩
       ·exact bad_of hk hb
      ·exact bad_of hk hb
    ·exact bad_of hk hb
   ·exact bad_of hk hb
  ·exact bad_of hk hb
 ·exact bad_of hk hb
end
end Go.Ev
set_option linter.unusedSimpArgs false
set_option linter.unusedVariables false
namespace Go.Ev
noncomputable section
variable {X : Cx}
theorem fillArgs_slot : ∀ (l : V) (n : Nat) (e : Env) (t : Nat), t < 1024 → n + V.len l ≤ 32 → slot (fillArgs l n e) t = if n ≤ t ∧ t < n + V.len l then V.nth l (t - n) else slot e t := by
 intro l
 induction l with
 | cons v l _ ih =>
  intro n e t ht hl
  simp only [V.len] at hl
  simp only [fillArgs]
  rw [ih (n + 1) _ t ht (by omega), ← put_lo (show n < 32 by omega) e v]
  by_cases hn : t = n
  ·subst hn
   rw [if_neg (by omega), if_pos (by simp only [V.len]; omega), Nat.sub_self, slot_put_same]
   rfl
  ·by_cases hin : n + 1 ≤ t ∧ t < n + 1 + V.len l
   ·rw [if_pos hin, if_pos (by simp only [V.len]; omega)]
    obtain ⟨m, rfl⟩ : ∃ m, t = n + 1 + m := ⟨t - (n + 1), by omega⟩
    rw [show n + 1 + m - (n + 1) = m by omega, show n + 1 + m - n = m + 1 by omega]; rfl
   ·rw [if_neg hin, if_neg (by simp only [V.len]; omega), slot_put_ne e (by omega) ht (Ne.symm hn)]
 | _ => intro n e t ht hl; exact (if_neg (by simp only [V.len]; omega)).symm
theorem env0_slot {args : V} {t : Nat} (ht : t < 1024) (hl : V.len args ≤ 32) : slot (env0 args) t = if t < V.len args then V.nth args t else .undef := by
 unfold env0
 rw [fillArgs_slot args 0 e2e t ht (by omega), slot_e2e]
 by_cases htl : t < V.len args
 ·rw [if_pos (by omega), if_pos htl]; rfl
 ·rw [if_neg (by omega), if_neg htl]
theorem ERel.enter {E : Emb} {args : V} {xs : List Value} (h : RelL E args xs) (hfit : argsFit args X.nt = true) (hg : GlobOk X.gl E) : ERel X E (env0 args) { tmps := xs.toArray ++ Array.replicate (X.nt - xs.toArray.size) undef, defers := [] } := by
 unfold argsFit at hfit
 split at hfit
 ·rename_i h32
  have h32' : V.len args ≤ 32 := ble_le h32
  have hnt : V.len args ≤ X.nt := ble_le hfit
  rw [h.len] at h32' hnt
  refine ⟨by simp; omega, fun t ht _ => ?_, ?_, hg⟩
  ·rw [env0_slot (by omega) (by rw [h.len]; exact h32'), h.len]
   by_cases htl : t < xs.length
   ·rw [if_pos htl]
    rcases h.nth t with ⟨y, hy, hr⟩ | ⟨hle, _⟩
    ·have : ((xs.toArray ++ Array.replicate (X.nt - xs.toArray.size) undef).getD t undef) = y := by
      simp only [Array.getD_eq_getD_getElem?]
      rw [Array.getElem?_append_left (by simpa using htl)]
      simp [hy]
     rw [this]; exact hr
    ·omega
   ·rw [if_neg htl]
    have : ((xs.toArray ++ Array.replicate (X.nt - xs.toArray.size) undef).getD t undef) = undef := by
     simp only [Array.getD_eq_getD_getElem?]
     rw [Array.getElem?_append_right (by simpa using htl)]
     rw [Array.getElem?_replicate]
     split <;> rfl
    rw [this]; simp [Rel, undef]
  ·show slot (env0 args) 1023 = .undef
   rw [env0_slot (by omega) (by rw [h.len]; exact h32'), if_neg (by rw [h.len]; omega)]
 ·cases hfit
def ResRun (P : Program) (a : Act) (w : World) : ResultVar → Value → Prop
 | .tmp t, x => x = a.tmps.getD t undef
 | .cell c t, x => ∃ ad, a.tmps.getD c undef = .pointer (some ad) ∧ (loadVar t ad).run P w = .ok x w
theorem resultOf_ok (X : Cx) (rv : ResultVar) (k : (Env → H → (V → Out) → Out) → Fn1 M) (d : Fn1 M) :
  (∃ f : Env → H → (V → Out) → Out, resultOf X rv k d = k f ∧ ∀ E e h a w, ERel X E e a → HRel E h w → ∀ (K : V → Out) r, f e h K = r → NotBad r → ∃ v x, K v = r ∧ Rel E v x ∧ ResRun X.P a w rv x) ∨ resultOf X rv k d = d := by
 cases rv with
 | tmp t =>
  unfold resultOf
  rcases opd_cases X (.tmp t) (fun g => k (fun e _ k => k (g e))) d with ⟨g, hg, e1⟩ | e1
  ·exact .inl ⟨_, e1, fun E e h a w he hr K r hk hb => ⟨g e, _, hk, hg E e a he, by simp [ResRun, Act.eval]⟩⟩
  ·exact .inr e1
 | cell c t =>
  unfold resultOf
  dsimp only
  cases hsc : scalarT X.P t with
  | none =>
   rcases opd_cases X (.tmp c) (fun _ => d) d with ⟨g, hg, e1⟩ | e1 <;> exact .inr e1
  | some b =>
   cases b with
   | true =>
    dsimp only
    rcases opd_cases X (.tmp c) _ d with ⟨g, hg, e1⟩ | e1 <;> rw [e1]
    ·refine .inl ⟨_, rfl, fun E e h a w he hr K r hk hb => ?_⟩
     have h1 := hg E e a he
     cases hv : g e <;> simp only [hv] at hk h1 <;> try exact bad_of hk hb
     simp only [Rel] at h1
     obtain ⟨L, hL, hx⟩ := h1
     obtain ⟨cc, n, x', a', hbk, hlt, hk⟩ := loadOne_ok hk hb
     obtain ⟨_, v, hcell, hrel⟩ := hr.cell hL hbk hlt
     exact ⟨_, v, hk, hrel, _, hx, run_loadVar_one hsc hcell⟩
    ·exact .inr rfl
   | false =>
    dsimp only
    rcases opd_cases X (.tmp c) _ d with ⟨g, hg, e1⟩ | e1 <;> rw [e1]
    ·refine .inl ⟨_, rfl, fun E e h a w he hr K r hk hb => ?_⟩
     have h1 := hg E e a he
     cases hv : g e <;> simp only [hv] at hk h1 <;> try exact bad_of hk hb
     rename_i i off
     simp only [Rel] at h1
     obtain ⟨L, hL, hx⟩ := h1
     obtain ⟨cc, n, x', a', hbk, hle, hk⟩ := loadAgg_ok hk hb
     obtain ⟨cs, hlen, hs, hrel, hcs⟩ := hr.cells hL hbk _ off hle
     exact ⟨_, .agg cs.toArray, hk, by simp only [Rel]; exact ⟨hs, cs, hrel, rfl⟩, _, hx, run_loadVar_agg hsc hlen (fun j v hv => by rw [addr_add]; exact hcs j v hv)⟩
    ·exact .inr rfl
theorem resultsL_ok (X : Cx) : ∀ (l : List ResultVar) (k : (Env → H → (V → Out) → Out) → Fn1 M) (d : Fn1 M),
  (∃ f : Env → H → (V → Out) → Out, resultsL X l k d = k f ∧ ∀ E e h a w, ERel X E e a → HRel E h w → ∀ (K : V → Out) r, f e h K = r → NotBad r →
   ∃ v xs, K v = r ∧ RelL E v xs ∧ xs.length = l.length ∧ ∀ (j : Nat) rv, l[j]? = some rv → ∃ x, xs[j]? = some x ∧ ResRun X.P a w rv x) ∨ resultsL X l k d = d
 | [], k, d => .inl ⟨_, rfl, fun E e h a w he hr K r hk hb => ⟨.nil, [], hk, by simp [RelL], rfl, fun j rv h => by simp at h⟩⟩
 | rv :: l, k, d => by
  simp only [resultsL]
  rcases resultOf_ok X rv (fun f => resultsL X l (fun g => k (fun e h k => f e h fun v => g e h fun vs => k (.cons v vs))) d) d with ⟨f, e1, hf⟩ | e1
  ·rcases resultsL_ok X l (fun g => k (fun e h k => f e h fun v => g e h fun vs => k (.cons v vs))) d with ⟨g, e2, hg⟩ | e2
   ·refine .inl ⟨_, e1.trans e2, fun E e h a w he hr K r hk hb => ?_⟩
    obtain ⟨v, x, hk, hv, hx⟩ := hf E e h a w he hr _ r hk hb
    obtain ⟨vs, xs, hk, hvs, hlen, hxs⟩ := hg E e h a w he hr _ r hk hb
    refine ⟨_, x :: xs, hk, by simp only [RelL]; exact ⟨x, xs, hv, hvs, rfl⟩, by simp [hlen], fun j rv' h => ?_⟩
    cases j with
    | zero => simp at h; subst h; exact ⟨x, rfl, hx⟩
    | succ j => simpa using hxs j rv' (by simpa using h)
   ·exact .inr (e1.trans e2)
  ·exact .inr e1
def resV (tmps : Array Value) (rv : ResultVar) : Sem Value :=
 match rv with | .tmp t => pure (tmps.getD t undef) | .cell c t => do loadVar t (← asAddr (tmps.getD c undef))
theorem run_result {P : Program} {a : Act} {w : World} {rv : ResultVar} {x : Value} (h : ResRun P a w rv x) : (resV a.tmps rv).run P w = .ok x w := by
 cases rv with
 | tmp t => simp only [ResRun] at h; subst h; rfl
 | cell c t =>
  obtain ⟨ad, h1, h2⟩ := h
  simp [resV, h1, asAddr, Sem.run_bind, h2]
theorem run_mapM_results {P : Program} {a : Act} {w : World} : ∀ (l : List ResultVar) (xs : List Value), xs.length = l.length → (∀ (j : Nat) rv, l[j]? = some rv → ∃ x, xs[j]? = some x ∧ ResRun P a w rv x) →
  (l.mapM (resV a.tmps)).run P w = .ok xs w
 | [], [], _, _ => by simp
 | rv :: l, x :: xs, hl, h => by
  obtain ⟨y, hy, hr⟩ := h 0 rv rfl
  simp only [List.getElem?_cons_zero, Option.some.injEq] at hy
  subst hy
  have ih := run_mapM_results l xs (by simpa using hl) (fun j rv hj => by simpa using h (j + 1) rv (by simpa using hj))
  rw [List.mapM_cons]
  simp only [Sem.run_bind, run_result hr, Result.andThen_ok, ih, Sem.run_pure]
def oneOr (xs : List Value) : Value := match xs with | [x] => x | xs => .tuple xs.toArray
theorem run_results {P : Program} {fn : Func} {a : Act} {w : World} {xs : List Value} (hlen : xs.length = fn.results.toList.length) (h : ∀ (j : Nat) rv, fn.results.toList[j]? = some rv → ∃ x, xs[j]? = some x ∧ ResRun P a w rv x) :
  (results fn a.tmps).run P w = .ok (oneOr xs) w := by
 have e0 : results fn a.tmps = (do
   let vs ← fn.results.mapM (resV a.tmps)
   pure (if h : vs.size = 1 then vs[0] else .tuple vs)) := by
  unfold results
  congr 1
 rw [e0]
 have e1 : (fn.results.mapM (resV a.tmps)).run P w = .ok xs.toArray w := by
  rw [Array.mapM_eq_mapM_toList]
  have := run_mapM_results (P := P) (a := a) (w := w) fn.results.toList xs hlen h
  simp [this]
 simp only [Sem.run_bind, e1, Result.andThen_ok, Sem.run_pure]
 congr 1
 clear e1 hlen h
 match xs with
 | [] => rfl
 | [x] => rfl
 | x :: y :: r => simp [oneOr]
def finR (res : Fn1 M) : Env → H → OpR := fun e h => match res.f (fun _ _ _ => .bad "") e h with
 | .pan v _ h => .val v h
 | .bad w => .bad w
 | _ => .bad "results"
theorem fin_ok (X : Cx) (fn : Func) {E : Emb} {e : Env} {h : H} {a : Act} {w : World} (he : ERel X E e a) (hr : HRel E h w) :
  (∃ s, finR (resultsM X fn.results.toList) e h = .bad s) ∨ ∃ v x, finR (resultsM X fn.results.toList) e h = .val v h ∧ Rel E v x ∧ (results fn a.tmps).run X.P w = .ok x w := by
 unfold resultsM
 split
 ·rename_i rv hl
  rcases resultOf_ok X rv (fun f => ⟨fun _ e h => f e h fun v => retV v h⟩) (badM "results") with ⟨f, e1, hf⟩ | e1
  ·rw [e1]
   unfold finR
   dsimp only
   generalize hq : f e h (fun v => retV v h) = r
   by_cases hb : NotBad r
   ·obtain ⟨v, x, hk, hv, hx⟩ := hf E e h a w he hr _ r hq hb
    rw [← hk]
    refine .inr ⟨v, x, rfl, hv, ?_⟩
    have := run_results (P := X.P) (fn := fn) (a := a) (w := w) (xs := [x]) (by rw [hl]; rfl) (fun j rv' h' => by
     rw [hl] at h'
     cases j with
     | zero => simp at h'; subst h'; exact ⟨x, rfl, hx⟩
     | succ j => simp at h')
    exact this
   ·have : ∃ s, r = .bad s := Classical.byContradiction fun hn => hb fun s hs => hn ⟨s, hs⟩
    obtain ⟨s, hs⟩ := this
    rw [hs]
    exact .inl ⟨s, rfl⟩
  ·rw [e1]; exact .inl ⟨_, rfl⟩
 ·rename_i hne
  rcases resultsL_ok X fn.results.toList (fun f => ⟨fun _ e h => f e h fun v => retV (.tup v) h⟩) (badM "results") with ⟨f, e1, hf⟩ | e1
  ·rw [e1]
   unfold finR
   dsimp only
   generalize hq : f e h (fun v => retV (.tup v) h) = r
   by_cases hb : NotBad r
   ·obtain ⟨v, xs, hk, hv, hlen, hx⟩ := hf E e h a w he hr _ r hq hb
    rw [← hk]
    refine .inr ⟨.tup v, .tuple xs.toArray, rfl, by simp only [Rel]; exact ⟨xs, hv, rfl⟩, ?_⟩
    have := run_results (P := X.P) (fn := fn) (a := a) (w := w) hlen hx
    rw [this]
    congr 1
    match xs, hlen with
    | [], _ => rfl
    | [x], hlen =>
     exfalso
     match hfl : fn.results.toList with
     | [] => rw [hfl] at hlen; cases hlen
     | [rv] => exact hne rv hfl
     | _ :: _ :: _ => rw [hfl] at hlen; simp at hlen
    | x :: y :: r, _ => rfl
   ·have : ∃ s, r = .bad s := Classical.byContradiction fun hn => hb fun s hs => hn ⟨s, hs⟩
    obtain ⟨s, hs⟩ := this
    rw [hs]
    exact .inl ⟨s, rfl⟩
  ·rw [e1]; exact .inl ⟨_, rfl⟩
end
end Go.Ev
set_option linter.unusedSimpArgs false
set_option linter.unusedVariables false
namespace Go.Ev
noncomputable section
variable {X : Cx}
theorem compOpS_recover_none {P : Program} {o : Oper} {c : Go.Call} (ho : o.op = .call c) (hc : c.callee = .builtin .recover) (ρ : Operand → Value) (w : World) : (execOp ρ o).run P w = .ok .recover w := by
 simp [execOp, ho, resolve, hc, invoke, builtin, Sem.run_bind, Result.andThen]
def PRel (E : Emb) : PSt → FrameMode → Prop
 | none, u => u = .returning
 | some (v, rc), u => ∃ x, u = .panicking [{ v := x, recovered := rc }] ∧ Rel E v x
theorem PRel.mono {E F : Emb} (hE : E.le F) {p : PSt} {u : FrameMode} (h : PRel E p u) : PRel F p u := by
 cases p with
 | none => exact h
 | some vr => obtain ⟨v, rc⟩ := vr; obtain ⟨x, h1, h2⟩ := h; exact ⟨x, h1, h2.mono hE⟩
def PostS (X : Cx) (E0 : Emb) (h0 : H) (w0 : World) (c0 : Frame) (cs : List Frame) (r : Out × PSt) : Exit → Act → List Frame → World → Prop
 | .normal, a, cs', w => ∃ u e h E, r.1 = .nrm e h ∧ Run E0 h0 w0 E h w ∧ ERel X E e a ∧ cs' = { c0 with mode := u } :: cs ∧ PRel E r.2 u
 | .ret, a, cs', w => ∃ u e h E, r.1 = .ret e h ∧ Run E0 h0 w0 E h w ∧ ERel X E e a ∧ cs' = { c0 with mode := u } :: cs ∧ PRel E r.2 u
 | .exit id, a, cs', w => ∃ e h, r.1 = .ext id e h
 | .panic _, a, cs', w => ∃ v e h, r.1 = .pan v e h
 | _, _, _, _ => False
theorem opSf {o : Oper} {ops : Array Oper} (hno : ∀ c : Go.Call, o.op = .call c → c.callee ≠ .builtin .recover) : compOperS X ops o = (match compOper X ops o with | ⟨m⟩ => ⟨fun c p e h => (m c e h fun e h => .nrm e h, p)⟩) := by
 unfold compOperS
 split
 ·rename_i c h
  exact absurd rfl (hno _ h)
 ·cases compOper X ops o; rfl
theorem compOpersS_ok (hq : EqsOk X.P X.eqs) (ops : Array Oper) {cl : Call} (hcl : CallOk X.P X.gl cl) {E0 : Emb} {h0 : H} {w0 : World} {c0 : Frame} {cs : List Frame} : ∀ (l : List Nat) (lo : List Oper), lo.length = l.length → (∀ (k i : Nat), l[k]? = some i → ∃ o, ops[i]? = some o ∧ lo[k]? = some o) →
  ∀ {E : Emb} {e : Env} {h : H} {a : Act} {w : World} {p : PSt} {u : FrameMode}, Run E0 h0 w0 E h w → ERel X E e a → PRel E p u → ∀ {r : Out × PSt}, (compOpersS X ops lo).f cl p e h = r → NotBad r.1 →
  wpOpsS X.P ops (PostS X E0 h0 w0 c0 cs r) l a ({ c0 with mode := u } :: cs) w
 | [], [], _, _, E, e, h, a, w, p, u, hR, he, hp, r, hk, hb => by
  simp only [compOpersS] at hk
  subst hk
  exact ⟨u, e, h, E, rfl, hR, he, rfl, hp⟩
 | [], _ :: _, hl, _, _, _, _, _, _, _, _, _, _, _, _, _, _ => by cases hl
 | _ :: _, [], hl, _, _, _, _, _, _, _, _, _, _, _, _, _, _ => by cases hl
 | i :: l, o :: lo, hlen, hl, E, e, h, a, w, p, u, hR, he, hp, r, hk, hb => by
  obtain ⟨o', ho, ho'⟩ := hl 0 i rfl
  simp only [List.getElem?_cons_zero, Option.some.injEq] at ho'
  subst ho'
  have hl' : ∀ (k i : Nat), l[k]? = some i → ∃ o, ops[i]? = some o ∧ lo[k]? = some o := fun k i hk => by
   obtain ⟨o, h1, h2⟩ := hl (k + 1) i (by simpa using hk)
   exact ⟨o, h1, by simpa using h2⟩
  have hlen' : lo.length = l.length := by simpa using hlen
  have hk' : seqS (compOperS X ops o).f (compOpersS X ops lo).f cl p e h = r := by
   rw [← hk]
   simp only [compOpersS]
  unfold seqS at hk'
  simp only [wpOpsS, ho]
  by_cases hrec : ∃ c : Go.Call, o.op = .call c ∧ c.callee = .builtin .recover
  ·obtain ⟨c, hoc, hcc⟩ := hrec
   have hcs : compOperS X ops o = dst X o.dst (fun s => (match o.guard with
     | none => ⟨fun (_ : Call) (p : PSt) (e : Env) (h : H) => match p with
      | some (v, false) => (.nrm (s e v) h, some (v, true))
      | _ => (.nrm (s e .nili) h, p)⟩
     | _ => ⟨fun (_ : Call) (p : PSt) (_ : Env) (_ : H) => (.bad "recover", p)⟩ : Fn1 MS)) (⟨fun _ p _ _ => (.bad "recover", p)⟩ : Fn1 MS) := by
    unfold compOperS
    rw [hoc]
    obtain ⟨callee, args, at'⟩ := c
    simp only at hcc
    subst hcc
    rfl
   rw [hcs] at hk'
   have hrun := compOpS_recover_none (P := X.P) hoc hcc
   rcases dst_cases X o.dst _ (⟨fun _ p _ _ => (.bad "recover", p)⟩ : Fn1 MS) with ⟨s, hs, e1⟩ | e1 <;> rw [e1] at hk'
   ·cases hg : o.guard with
    | some gw => rw [hg] at hk'; dsimp only at hk'; subst hk'; exact absurd rfl (hb _)
    | none =>
     rw [hg] at hk'
     dsimp only at hk'
     rw [if_pos (by simp [Region.wanted, hg]), hrun]
     dsimp only
     cases p with
     | none =>
      simp only [PRel] at hp
      subst hp
      dsimp only at hk'
      exact compOpersS_ok hq ops hcl l lo hlen' hl' (p := none) (u := .returning) hR (he.set hs (by simp [Rel])) rfl hk' hb
     | some vr =>
      obtain ⟨v, rc⟩ := vr
      obtain ⟨x, rfl, hv⟩ := hp
      cases rc with
      | false =>
       dsimp only at hk'
       exact compOpersS_ok hq ops hcl l lo hlen' hl' (p := some (v, true)) (u := .panicking [{ v := x, recovered := true }]) hR (he.set hs hv) ⟨x, rfl, hv⟩ hk' hb
      | true =>
       dsimp only at hk'
       exact compOpersS_ok hq ops hcl l lo hlen' hl' (p := some (v, true)) (u := .panicking [{ v := x, recovered := true }]) hR (he.set hs (by simp [Rel])) ⟨x, rfl, hv⟩ hk' hb
   ·dsimp only at hk'; subst hk'; exact absurd rfl (hb _)
  ·rw [opSf fun c h1 h2 => hrec ⟨c, h1, h2⟩] at hk'
   have hm : ∀ k, (compOper X ops o).f cl e h k = (compOper X ops o).f cl e h k := fun _ => rfl
   cases hco : compOper X ops o with | mk m =>
   rw [hco] at hk'
   dsimp only at hk'
   have hnb : NotBad (m cl e h fun e h => .nrm e h) := fun s hs => by
    rw [hs] at hk'; dsimp only at hk'; subst hk'; exact absurd rfl (hb _)
   have step := compOper_ok hq ops o cl hcl he hR.rel (k := fun e h => .nrm e h) (by rw [hco]) hnb
   have hT : stepOp X.P ops o a w (fun _ _ => True) (fun _ _ _ => True) := by
    rcases step with ⟨e', h', hn, hfin⟩ | ⟨v, h', hpan, hfin⟩
    ·exact hfin _ _ fun _ _ _ _ _ _ => trivial
    ·exact hfin _ _ fun _ _ _ _ _ => trivial
   have conv : ∀ {nxt : Act → World → Prop} {Q : Exit → Act → World → Prop}, stepOp X.P ops o a w nxt Q →
     (if Region.wanted o (yielded ops a.tmps) = true then
      (match (execOp a.eval o).run X.P w with
      | .ok .recover w' => (match recoverD ({ c0 with mode := u } :: cs) with
       | some (v, cs') => wpOpsS X.P ops (PostS X E0 h0 w0 c0 cs r) l (a.put o.dst v) cs' w'
       | none => wpOpsS X.P ops (PostS X E0 h0 w0 c0 cs r) l (a.put o.dst .nilIface) ({ c0 with mode := u } :: cs) w')
      | rr => o.upon X.P a nxt Q rr)
     else nxt (a.put o.dst undef) w) := by
    intro nxt Q hst
    unfold stepOp Oper.wp at hst
    split
    ·rename_i hw
     rw [if_pos hw] at hst
     split
     ·rename_i w' hr
      exfalso
      unfold stepOp Oper.wp at hT
      rw [if_pos hw, hr] at hT
      exact hT
     ·exact hst
    ·rename_i hw
     rw [if_neg hw] at hst
     exact hst
   rcases step with ⟨e', h', hn, hfin⟩ | ⟨v, h', hpan, hfin⟩
   ·rw [← hn] at hk'
    dsimp only at hk'
    exact conv (hfin _ _ fun E' a' w' hR' he' _ => compOpersS_ok hq ops hcl l lo hlen' hl' (hR.trans hR') he' (hp.mono hR'.le) hk' hb)
   ·rw [hpan] at hk'
    dsimp only at hk'
    subst hk'
    exact conv (hfin _ _ fun E' x w' hR' hv => ⟨v, e, h', rfl⟩)
theorem compS_ok (hcode : ∀ c, CodeOk X c) (hq : EqsOk X.P X.eqs) {cl : Call} (hcl : CallOk X.P X.gl cl) {E0 : Emb} {h0 : H} {w0 : World} {c0 : Frame} {cs : List Frame} : ∀ (c : Code), okCode X.P X.tab c = true → ∀ {E : Emb} {e : Env} {h : H} {a : Act} {w : World} {p : PSt} {u : FrameMode}, Run E0 h0 w0 E h w → ERel X E e a → PRel E p u → ∀ {r : Out × PSt}, (compS X c).f cl p e h = r → NotBad r.1 →
  c.wpS X.P (PostS X E0 h0 w0 c0 cs r) a ({ c0 with mode := u } :: cs) w := by
 have other : ∀ (c : Code), okCode X.P X.tab c = true → compS X c = (match comp X c (fun _ e h => .nrm e h) with | ⟨m⟩ => ⟨fun cl p e h => (m cl e h, p)⟩) → ∀ {E : Emb} {e : Env} {h : H} {a : Act} {w : World} {p : PSt} {u : FrameMode}, Run E0 h0 w0 E h w → ERel X E e a → PRel E p u → ∀ {r : Out × PSt}, (compS X c).f cl p e h = r → NotBad r.1 →
   c.wpS X.P (PostS X E0 h0 w0 c0 cs r) a ({ c0 with mode := u } :: cs) w := by
  intro c hok hc E e h a w p u hR he hp r hk hb
  rw [hc] at hk
  cases hcm : comp X c (fun _ e h => .nrm e h) with | mk m =>
  rw [hcm] at hk
  dsimp only at hk
  subst hk
  have hwp := wpIn_wide.1 (hcode c hok Fence.wide (.inl rfl) (fun _ e h => .nrm e h) cl hcl E h w E e h a w (Run.refl hR.rel) he (m cl e h) (by rw [hcm]) hb)
  refine wpS_of_wp (wp_mono hwp fun ex a' w' hpost => ?_)
  cases ex with
  | normal =>
   obtain ⟨e', h', E', hn, hR', he'⟩ := hpost
   exact ⟨u, e', h', E', hn.symm, hR.trans hR', he', rfl, hp.mono hR'.le⟩
  | ret =>
   obtain ⟨e', h', E', hn, hR', he'⟩ := hpost
   exact ⟨u, e', h', E', hn, hR.trans hR', he', rfl, hp.mono hR'.le⟩
  | exit id =>
   obtain ⟨e', h', E', hn, hR', he'⟩ := hpost
   exact ⟨e', h', hn⟩
  | goto l => exact hpost.elim
  | panic ch =>
   obtain ⟨v, x, e', h', E', hn, _⟩ := hpost
   exact ⟨v, e', h', hn⟩
  | outgrown => exact hpost.elim
 intro c
 induction c with
 | region id ops d =>
  cases d with
  | true => exact fun hok => other _ hok (by simp only [compS])
  | false =>
   intro hok E e h a w p u hR he hp r hk hb
   simp only [compS] at hk
   refine wpS_region (compOpersS_ok hq ops hcl (List.range ops.size) ops.toList (by simp) (fun k i hki => ?_) hR he hp hk hb)
   obtain ⟨hlt, rfl⟩ := List.getElem?_eq_some_iff.1 hki
   have hlt' : k < ops.size := by simpa using hlt
   exact ⟨ops[k], by simp [hlt'], by simp [hlt']⟩
 | seq x y ihx ihy =>
  intro hok E e h a w p u hR he hp r hk hb
  obtain ⟨hok1, hok2⟩ := Bool.and_eq_true_iff.1 hok
  simp only [compS] at hk
  have hk' : seqS (compS X x).f (compS X y).f cl p e h = r := by rw [← hk]
  unfold seqS at hk'
  refine wpS_seq ?_
  generalize hr1 : (compS X x).f cl p e h = r1 at hk'
  have hb1 : NotBad r1.1 := fun s hs => by
   obtain ⟨o1, p1⟩ := r1
   dsimp only at hs
   subst hs
   dsimp only at hk'
   subst hk'
   exact absurd rfl (hb _)
  have := ihx hok1 hR he hp hr1 hb1
  intro b k hkd hro
  obtain ⟨ex, a', cs', w', hpost, harr⟩ := this b k hkd hro
  refine ⟨ex, a', cs', w', ?_, harr⟩
  obtain ⟨o1, p1⟩ := r1
  cases ex with
  | normal =>
   obtain ⟨u', e', h', E', hn, hR', he', hcs, hp'⟩ := hpost
   dsimp only at hn hp'
   subst hn
   dsimp only at hk'
   subst hcs
   exact ihy hok2 hR' he' hp' hk' hb
  | ret =>
   obtain ⟨u', e', h', E', hn, hR', he', hcs, hp'⟩ := hpost
   dsimp only at hn hp'
   subst hn
   dsimp only at hk'
   subst hk'
   exact ⟨u', e', h', E', rfl, hR', he', hcs, hp'⟩
  | exit id =>
   obtain ⟨e', h', hn⟩ := hpost
   dsimp only at hn
   subst hn
   dsimp only at hk'
   subst hk'
   exact ⟨e', h', rfl⟩
  | goto l => exact hpost.elim
  | panic ch =>
   obtain ⟨v, e', h', hn⟩ := hpost
   dsimp only at hn
   subst hn
   dsimp only at hk'
   subst hk'
   exact ⟨v, e', h', rfl⟩
  | outgrown => exact hpost.elim
 | cond x y z ihy ihz =>
  intro hok E e h a w p u hR he hp r hk hb
  obtain ⟨hok1, hok2⟩ := Bool.and_eq_true_iff.1 hok
  simp only [compS] at hk
  rcases opd_cases X x _ (⟨fun _ p _ _ => (.bad "cond", p)⟩ : Fn1 MS) with ⟨g, hg, e1⟩ | e1 <;> rw [e1] at hk
  ·have h1 := hg E e a he
   cases hcy : compS X y with | mk my =>
   cases hcz : compS X z with | mk mz =>
   rw [hcy, hcz] at hk
   dsimp only at hk
   cases hv : g e <;> simp only [hv] at hk h1 <;> try (subst hk; exact absurd rfl (hb _))
   rename_i t
   simp only [Rel] at h1
   cases t
   ·exact wpS_cond h1 (ihz hok2 hR he hp (by rw [hcz]; exact hk) hb)
   ·exact wpS_cond h1 (ihy hok1 hR he hp (by rw [hcy]; exact hk) hb)
  ·subst hk; exact absurd rfl (hb _)
 | _ => exact fun hok => other _ hok (by simp only [compS])
end
end Go.Ev
set_option linter.unusedSimpArgs false
set_option linter.unusedVariables false
namespace Go.Ev
noncomputable section
theorem callsDIn_wide {P : Program} {n : Nat} {f : FuncId} {args : Array Value} {u : FrameMode} {w : World} {R : Ending → FrameMode → World → Prop} {fn : Func} {c : Code} (hf : P.funcs[f]? = some fn) (hb : fn.body = some c)
  (h : ∀ (c₀ : Frame) (cs : List Frame), c₀.mode = u →
   c.wpS P (bodyPostS P fn c₀ cs R) { tmps := args ++ Array.replicate (fn.ntmps - args.size) undef, defers := [] } (c₀ :: cs) w) : CallsDIn Fence.wide n P f args u w R := by
 refine ⟨trivial, fun c₀ cs hu _ => ?_⟩
 let b : Frame := { (default : Frame) with fn := f, kind := .deferred }
 have henter : Frame.enter P f args .deferred =
   b.at { tmps := args ++ Array.replicate (fn.ntmps - args.size) undef, defers := [] } [.code c] := by
  simp [Frame.enter, Frame.at, hf, hb, b]
 obtain ⟨e, a', cs', w', hq, harr⟩ := h c₀ cs hu b [] rfl rfl
 rw [← henter] at harr
 cases e with
 | normal =>
  obtain ⟨hd, u', rfl, v, hr, hR⟩ := hq
  exact ⟨.returned v, u', w', _, hR, stepsIn_wide.2 (Steps.trans harr (.one step_end)), rfl, rfl, rfl, hd, fn, hf, hr⟩
 | ret =>
  obtain ⟨hd, u', rfl, v, hr, hR⟩ := hq
  obtain ⟨todo, hs⟩ := harr
  exact ⟨.returned v, u', w', _, hR, stepsIn_wide.2 hs, rfl, rfl, rfl, hd, fn, hf, hr⟩
 | panic chain =>
  obtain ⟨hd, u', rfl, hR⟩ := hq
  obtain ⟨todo, hs⟩ := harr
  exact ⟨.panicked chain, u', w', _, hR, stepsIn_wide.2 hs, rfl, rfl, rfl, hd, fn, hf⟩
 | exit id => exact hq.elim
 | goto l => exact hq.elim
 | outgrown =>
  obtain ⟨u', hR⟩ := hq
  exact ⟨.outgrown, u', w', b, hR, harr.resolve_left (by simp [b]), rfl, rfl, trivial⟩
theorem DRel.undef {E : Emb} {ds : List Deferred} (h : DRel E .undef ds) : ds = [] := by
 cases ds with
 | nil => rfl
 | cons d ds => rcases h with ⟨f, a, c, args, rest, xs, ys, zs, e, _⟩ | ⟨_, _, _, e, _⟩ <;> cases e
theorem settle_PRel {E : Emb} {p : PSt} {u : FrameMode} (h : PRel E p u) : PRel E (settleP p) (settle u) := by
 cases p with
 | none => simp only [PRel] at h; subst h; rfl
 | some vr =>
  obtain ⟨v, rc⟩ := vr
  obtain ⟨x, rfl, hv⟩ := h
  cases rc with
  | false => exact ⟨x, rfl, hv⟩
  | true => rfl
def LPost (F : Cf) (fn : Func) (tmps : Array Value) (E0 : Emb) (h0 : H) (w0 : World) (R : Ending → World → Prop) (ds : List Deferred) (u : FrameMode) (w : World) : OpR → Prop
 | .bad _ => True
 | .val v h' => (∀ x w' E', Run E0 h0 w0 E' h' w' → Rel E' v x → R (.returned x) w') → LeavesInM Fence.wide 0 F.P fn tmps R ds u w
 | .pan v h' => (∀ x w' E', Run E0 h0 w0 E' h' w' → Rel E' v x → R (.panicked [{ v := x, recovered := false }]) w') → LeavesInM Fence.wide 0 F.P fn tmps R ds u w
theorem runDefers_ok {F : Cf} (hcode : ∀ nt f c, CodeOk (F.cx nt f) c) (hokf : ∀ f fn c, F.P.funcs[f]? = some fn → fn.body = some c → F.ok f = true → okCode F.P (F.tab f) c = true) (hq : EqsOk F.P F.eqs) {call : Call} (hcl : CallOk F.P F.gl call) (fn : Func) (f0 : FuncId) (X : Cx) (hX : X = F.cx fn.ntmps f0) {E0 : Emb} {h0 : H} {w0 : World} {e : Env} {a : Act} :
  ∀ (n : Nat) {E : Emb} {h : H} {w : World} (dv : V) (ds : List Deferred) (p : PSt) (u : FrameMode), Run E0 h0 w0 E h w → ERel X E e a → DRel E dv ds → PRel E p u → (∀ v, p ≠ some (v, true)) →
  ∀ r, runDefers F call (finR (resultsM X fn.results.toList)) e n dv p h = r → ∀ (R : Ending → World → Prop),
  LPost F fn a.tmps E0 h0 w0 R ds u w r := by
 intro n
 induction n with
 | zero => intro E h w dv ds p u _ _ _ _ _ r hk R; subst hk; trivial
 | succ n ih =>
  intro E h w dv ds p u hR he hd hp hnr r hk R
  have hu : u ≠ .run := by
   cases p with
   | none => simp only [PRel] at hp; rw [hp]; simp
   | some vr => obtain ⟨x, hx, _⟩ := hp; rw [hx]; simp
  cases ds with
  | nil =>
   simp only [DRel] at hd
   subst hd
   simp only [runDefers] at hk
   cases p with
   | none =>
    simp only [PRel] at hp
    subst hp
    dsimp only at hk
    rcases fin_ok X fn he hR.rel with ⟨s, hs⟩ | ⟨v, x, hv, hrel, hrun⟩
    ·rw [hs] at hk; subst hk; trivial
    ·rw [hv] at hk
     subst hk
     intro hRR
     refine ⟨x, ?_, hRR x w E hR hrel⟩
     rw [hX] at hrun
     exact hrun
   | some vr =>
    obtain ⟨v, rc⟩ := vr
    dsimp only at hk
    subst hk
    intro hRR
    cases rc with
    | true => exact absurd rfl (hnr v)
    | false =>
     obtain ⟨x, rfl, hv⟩ := hp
     exact hRR x w E hR hv
  | cons d ds =>
   rcases hd with ⟨f, av, cap, args, rest, xs, ys, zs, rfl, r1, r2, r3, rfl, hd'⟩ | ⟨i, rest, L, rfl, hL, rfl, hd'⟩
   ·
    simp only [runDefers] at hk
    cases hf : F.P.funcs[f]? with
    | none => rw [hf] at hk; subst hk; trivial
    | some fn' =>
     rw [hf] at hk
     dsimp only at hk
     cases hbody : fn'.body with
     | none => rw [hbody] at hk; subst hk; trivial
     | some c =>
      rw [hbody] at hk
      dsimp only at hk
      by_cases hc : fn'.name = "runtime.NumGoroutine" ∨ 32 < fn'.ntmps ∨ fn'.results.size ≠ 0 ∨ F.ok f = false
      ·rw [if_pos hc] at hk; subst hk; trivial
      ·rw [if_neg hc] at hk
       have hname : fn'.name ≠ "runtime.NumGoroutine" := fun h => hc (.inl h)
       have hokF : F.ok f = true := by
        cases h : F.ok f with
        | true => rfl
        | false => exact absurd (.inr (.inr (.inr h))) hc
       have hres : fn'.results.size = 0 := by
        rcases Nat.decEq fn'.results.size 0 with h | h
        ·exact absurd (.inr (.inr (.inl h))) hc
        ·exact h
       cases hfit : argsFit (V.app av (V.app args cap)) fn'.ntmps with
       | false => rw [hfit] at hk; subst hk; trivial
       | true =>
        rw [hfit] at hk
        dsimp only at hk
        have hrel : RelL E (V.app av (V.app args cap)) (xs ++ (zs ++ ys)) := r1.app (r3.app r2)
        have he0 : ERel (F.cx fn'.ntmps f) E (env0 (V.app av (V.app args cap))) { tmps := (xs ++ (zs ++ ys)).toArray ++ Array.replicate (fn'.ntmps - (xs ++ (zs ++ ys)).toArray.size) undef, defers := [] } := ERel.enter (X := F.cx fn'.ntmps f) hrel hfit (by have := he.glob; rw [hX] at this; exact this)
        generalize hrs : (compS (F.cx fn'.ntmps f) c).f call p (env0 (V.app av (V.app args cap))) h = rs at hk
        obtain ⟨o1, p1⟩ := rs
        have fin : ∀ (e' : Env) (h' : H), (o1 = .nrm e' h' ∨ o1 = .ret e' h') → topE e' = .undef →
          (∀ E' w' u', Run E0 h0 w0 E' h' w' → E.le E' → PRel E' p1 u' → LeavesInM Fence.wide 0 F.P fn a.tmps R ds (settle u') w') → LeavesInM Fence.wide 0 F.P fn a.tmps R ({ target := .fn (.func f) ys.toArray, args := xs.toArray ++ zs.toArray } :: ds) u w := by
         intro e' h' ho1 hslot hnext
         have hb1 : NotBad o1 := by rcases ho1 with h | h <;> (intro s hs; rw [h] at hs; cases hs)
         refine ⟨hu, .inr ⟨(fun h => by cases h), .func f, ys.toArray, f, (xs ++ (zs ++ ys)).toArray, rfl, ?_, fun g _ => trivial, ?_⟩⟩
         ·have e1 : xs.toArray ++ zs.toArray ++ ys.toArray = (xs ++ (zs ++ ys)).toArray := by
           apply Array.ext'; simp
          simp only [invoke, e1, run_callFunc ⟨fn', hf, by rw [hbody]; rfl, hname⟩]
         ·refine callsDIn_wide hf hbody fun c₀ cs hm => ?_
          have := compS_ok (X := F.cx fn'.ntmps f) (hcode _ _) hq hcl (E0 := E) (h0 := h) (w0 := w) (c0 := c₀) (cs := cs) c (hokf f fn' c hf hbody hokF) (p := p) (u := u) (Run.refl hR.rel) he0 hp hrs hb1
          have hc0 : ({ c₀ with mode := u } : Frame) = c₀ := by subst hm; rfl
          rw [hc0] at this
          intro b k hkd hro
          obtain ⟨ex, a', cs', w', hpost, harr⟩ := this b k hkd hro
          refine ⟨ex, a', cs', w', ?_, harr⟩
          have both : ∀ (e2 : Env) (h2 : H) (E2 : Emb) (u2 : FrameMode), (o1 = .nrm e2 h2 ∨ o1 = .ret e2 h2) → Run E h w E2 h2 w' → ERel (F.cx fn'.ntmps f) E2 e2 a' → cs' = { c₀ with mode := u2 } :: cs → PRel E2 p1 u2 →
            a'.defers = [] ∧ ∃ u', cs' = { c₀ with mode := u' } :: cs ∧ ∃ v, (results fn' a'.tmps).run F.P w' = .ok v w' ∧ LeavesInM Fence.wide 0 F.P fn a.tmps R ds (settle u') w' := by
           intro e2 h2 E2 u2 ho2 hR2 he2 hcs2 hp2
           have : e2 = e' ∧ h2 = h' := by
            rcases ho1 with h | h <;> rcases ho2 with h' | h' <;> (rw [h] at h'; cases h' <;> exact ⟨rfl, rfl⟩)
           obtain ⟨rfl, rfl⟩ := this
           have hdf := he2.dfr
           rw [← slot_top, hslot] at hdf
           refine ⟨hdf.undef, u2, hcs2, .tuple #[], ?_, hnext E2 w' u2 (hR.trans hR2) hR2.le hp2⟩
           have hr0 : fn'.results = #[] := Array.eq_empty_of_size_eq_zero hres
           unfold results
           rw [hr0]
           simp [Sem.run]
          cases ex with
          | normal => obtain ⟨u2, e2, h2, E2, hn, hR2, he2, hcs2, hp2⟩ := hpost; exact both e2 h2 E2 u2 (.inl hn) hR2 he2 hcs2 hp2
          | ret => obtain ⟨u2, e2, h2, E2, hn, hR2, he2, hcs2, hp2⟩ := hpost; exact both e2 h2 E2 u2 (.inr hn) hR2 he2 hcs2 hp2
          | exit id => obtain ⟨e2, h2, hn⟩ := hpost; rcases ho1 with h | h <;> (rw [h] at hn; cases hn)
          | goto l => exact hpost.elim
          | panic ch => obtain ⟨v2, e2, h2, hn⟩ := hpost; rcases ho1 with h | h <;> (rw [h] at hn; cases hn)
          | outgrown => exact hpost.elim
        have cont : ∀ (e' : Env) (h' : H), (o1 = .nrm e' h' ∨ o1 = .ret e' h') →
          (match topE e' with
            | .undef => runDefers F call (finR (resultsM X fn.results.toList)) e n rest (settleP p1) h'
            | _ => .bad "defer in a deferred function") = r → LPost F fn a.tmps E0 h0 w0 R ({ target := .fn (.func f) ys.toArray, args := xs.toArray ++ zs.toArray } :: ds) u w r := by
         intro e' h' ho1 hk
         have hnr' : ∀ v, settleP p1 ≠ some (v, true) := by
          intro v
          match p1 with
          | none => simp [settleP]
          | some (v', true) => simp [settleP]
          | some (v', false) => simp [settleP]
         split at hk
         ·rename_i hslot
          cases r with
          | bad s => trivial
          | val v h2 =>
           intro hRR
           refine fin e' h' ho1 hslot fun E' w' u' hR' hE' hp' => ?_
           have := ih rest ds _ (settle u') hR' (he.mono hE') (hd'.mono hE') (settle_PRel hp') hnr' _ hk R
           exact this hRR
          | pan v h2 =>
           intro hRR
           refine fin e' h' ho1 hslot fun E' w' u' hR' hE' hp' => ?_
           have := ih rest ds _ (settle u') hR' (he.mono hE') (hd'.mono hE') (settle_PRel hp') hnr' _ hk R
           exact this hRR
         ·subst hk; trivial
        cases o1 with
        | nrm e' h' => exact cont e' h' (.inl rfl) (by dsimp only at hk; exact hk)
        | ret e' h' => exact cont e' h' (.inr rfl) (by dsimp only at hk; exact hk)
        | ext _ _ _ => dsimp only at hk; subst hk; trivial
        | pan _ _ _ => dsimp only at hk; subst hk; trivial
        | bad _ => dsimp only at hk; subst hk; trivial
   ·
    simp only [runDefers] at hk
    split at hk
    ·rename_i mm ss hblk
     have hb := hR.rel.rel i L hL
     rw [hblk] at hb
     obtain ⟨hb0, hw⟩ := hb
     have htake := run_takeDeferred (P := F.P) hw
     have hlt : L.blk < w.heap.size := (Array.getElem?_eq_some_iff.1 hw).1
     have hR2 : Run E h w E (h.put i (.mapIter none 1 [] 0)) (w.putObj L.blk (.deferred none)) :=
      hR.rel.writeObj (b' := .mapIter none 1 [] 0) (o' := .deferred none) hL (by unfold Wr; rw [hblk]; trivial) (fun c n x a e => by rw [hblk] at e; cases e) (fun c n x a e => by cases e) (fun h' e => by unfold Wr; rw [e]; trivial) trivial rfl ⟨hb0, World.putObj_heap_same hlt⟩ rfl rfl rfl
     have := ih rest ds p u (hR.trans hR2) he hd' hp hnr _ hk R
     cases r with
     | bad s => trivial
     | val v h2 => exact fun hRR => ⟨hu, .inl ⟨L.blk, _, rfl, htake, this hRR⟩⟩
     | pan v h2 => exact fun hRR => ⟨hu, .inl ⟨L.blk, _, rfl, htake, this hRR⟩⟩
    ·subst hk; trivial
end
end Go.Ev
set_option linter.unusedSimpArgs false
set_option linter.unusedVariables false
namespace Go.Ev
noncomputable section
structure FOk (F : Cf) : Prop where
 mixed : F.P.follows .mixedOrders = true
 eqs : EqsOk F.P F.eqs
 bw : ∀ f ∈ F.bw, BackOk F.P f
 ok : ∀ f fn c, F.P.funcs[f]? = some fn → fn.body = some c → F.ok f = true → okCode F.P (F.tab f) c = true
theorem code_ok {F : Cf} (hF : FOk F) (nt : Nat) (f : FuncId) : ∀ c, CodeOk (F.cx nt f) c := by
 have other : ∀ c, (∀ nx, comp (F.cx nt f) c nx = badM "code") → CodeOk (F.cx nt f) c := fun c hc hok F' hF' nx cl hcl E0 h0 w0 E e h a w hR he r hk hb => by
  rw [hc] at hk; exact bad_of hk hb
 intro c
 induction c with
 | skip => exact skip_ok
 | region id ops d =>
  cases d with
  | false => exact region_plain hF.eqs id ops
  | true => exact region_drawn hF.mixed hF.eqs (fun _ => rfl) id ops
 | seq x y ihx ihy => exact seq_ok ihx ihy
 | cond c x y ihx ihy => exact cond_ok ihx ihy
 | block id x ih => exact block_ok ih
 | loop x ih => exact loop_ok ih
 | exit id => exact exit_ok id
 | ret => exact ret_ok
 | rangeFunc x ps ca cb iha ihb => exact rangeFunc_ok (fun _ => rfl) hF.bw iha ihb
 | _ => exact other _ fun _ => rfl
theorem fnC_ok {F : Cf} (hF : FOk F) {call : Call} (hcl : CallOk F.P F.gl call) (f : FuncId) (args : V) {h : H} {E : Emb} {w : World} {xs : List Value} (hr : HRel E h w) (hg : GlobOk F.gl E) (ha : RelL E args xs) :
  CallRes F.P E h w f xs.toArray ((fnC F f).f call args h) := by
 unfold fnC
 rw [env0F_eq]
 cases hf : F.P.funcs[f]? with
 | none => trivial
 | some fn =>
  dsimp only
  cases hbody : fn.body with
  | none => trivial
  | some c =>
   dsimp only
   by_cases hc : fn.ntmps ≤ 992 ∧ ¬ fn.name = "runtime.NumGoroutine" ∧ F.ok f = true
   ·rw [if_pos hc]
    cases hres : resultsM (F.cx fn.ntmps f) fn.results.toList with | mk res =>
    cases hm : comp (F.cx fn.ntmps f) c (fun _ e h => .ret e h) with | mk m =>
    dsimp only
    have hfin : ∀ e h, finR (resultsM (F.cx fn.ntmps f) fn.results.toList) e h = @Out.rec (fun _ => OpR) (fun e h => .bad "results") (fun _ _ _ => .bad "results") (fun e h => .bad "results") (fun v _ h => .val v h) (fun w => .bad w) (res (fun _ _ _ => .bad "") e h) := by
     intro e h
     unfold finR
     rw [hres]; dsimp only
     cases res (fun _ _ _ => .bad "") e h <;> rfl
    cases hfit : argsFit args fn.ntmps with
    | false => trivial
    | true =>
     dsimp only
     have hfn : ∃ fn, F.P.funcs[f]? = some fn ∧ fn.body.isSome = true ∧ fn.name ≠ "runtime.NumGoroutine" := ⟨fn, hf, by rw [hbody]; rfl, hc.2.1⟩
     have he0 : ERel (F.cx fn.ntmps f) E (env0 args) { tmps := xs.toArray ++ Array.replicate (fn.ntmps - xs.toArray.size) undef, defers := [] } := ERel.enter (X := F.cx fn.ntmps f) ha hfit hg
     generalize hq : m call (env0 args) h = r
     by_cases hb : NotBad r
     ·have hwp := code_ok hF fn.ntmps f c (hF.ok f fn c hf hbody hc.2.2) Fence.wide (.inl rfl) (fun _ e h => .ret e h) call hcl E h w E (env0 args) h _ w (Run.refl hr) he0 r (by rw [hm]; exact hq) hb
      have key : ∀ (R : Ending → World → Prop),
        (∀ e' h' E' a' w', r = .ret e' h' → Run E h w E' h' w' → ERel (F.cx fn.ntmps f) E' e' a' → LeavesInM Fence.wide 0 F.P fn a'.tmps R a'.defers .returning w') →
        (∀ v x e' h' E' a' w', r = .pan v e' h' → Run E h w E' h' w' → ERel (F.cx fn.ntmps f) E' e' a' → Rel E' v x → LeavesInM Fence.wide 0 F.P fn a'.tmps R a'.defers (.panicking [{ v := x, recovered := false }]) w') →
        (∀ e' h', r ≠ .nrm e' h') → (∀ i e' h', r ≠ .ext i e' h') → Calls F.P f xs.toArray w R := by
       intro R k1 k2 k3 k4
       refine (callsIn_wide (n := 0)).1 (callsIn_of_wp_marks hf hbody trivial (wpIn_mono hwp fun ex a' w' hp => ?_))
       cases ex with
       | normal =>
        obtain ⟨e', h', E', hn, hR', he'⟩ := hp
        exact k1 e' h' E' a' w' hn.symm hR' he'
       | ret =>
        obtain ⟨e', h', E', hn, hR', he'⟩ := hp
        exact k1 e' h' E' a' w' hn hR' he'
       | panic ch =>
        obtain ⟨v, x, e', h', E', hn, hch, hR', he', hv⟩ := hp
        subst hch
        exact k2 v x e' h' E' a' w' hn hR' he' hv
       | exit i =>
        obtain ⟨e', h', E', hn, hR', he'⟩ := hp
        exact absurd hn (k4 i e' h')
       | goto l => exact hp
       | outgrown => exact hp.elim
      cases r with
      | bad s => trivial
      | nrm e' h' => trivial
      | ext i e' h' => trivial
      | ret e' h' =>
       dsimp only
       have fin_case : slot e' 1023 = .undef → CallRes F.P E h w f xs.toArray (finR (resultsM (F.cx fn.ntmps f) fn.results.toList) e' h') := by
        intro hu
        cases hfr : finR (resultsM (F.cx fn.ntmps f) fn.results.toList) e' h' with
        | bad s => trivial
        | pan v hh =>
         exfalso
         unfold finR at hfr
         split at hfr <;> cases hfr
        | val v hh =>
         refine ⟨hfn, key _ (fun e1 h1 E1 a1 w1 hq1 hR1 he1 => ?_) (fun v x e1 h1 E1 a1 w1 hq1 => by cases hq1) (fun _ _ => by simp) (fun _ _ _ => by simp)⟩
         cases hq1
         have hd := he1.dfr
         rw [hu] at hd
         rw [hd.undef]
         rcases fin_ok (F.cx fn.ntmps f) fn he1 hR1.rel with ⟨s, hs⟩ | ⟨v', x, hv', hrel, hrun⟩
         ·rw [hs] at hfr; cases hfr
         ·rw [hv'] at hfr; cases hfr
          exact ⟨x, hrun, E1, x, rfl, hR1, hrel⟩
       have dfr_case : CallRes F.P E h w f xs.toArray (runDefers F call (finR (resultsM (F.cx fn.ntmps f) fn.results.toList)) e' 100 (slot e' 1023) none h') := by
        cases hrd : runDefers F call (finR (resultsM (F.cx fn.ntmps f) fn.results.toList)) e' 100 (slot e' 1023) none h' with
        | bad s => trivial
        | val v hh =>
         refine ⟨hfn, key _ (fun e1 h1 E1 a1 w1 hq1 hR1 he1 => ?_) (fun v x e1 h1 E1 a1 w1 hq1 => by cases hq1) (fun _ _ => by simp) (fun _ _ _ => by simp)⟩
         cases hq1
         exact (runDefers_ok (fun nt f c => code_ok hF nt f c) hF.ok hF.eqs hcl fn f _ rfl 100 _ _ none .returning hR1 he1 he1.dfr rfl (by simp) _ hrd _) fun x w' E' hR' hrel => ⟨E', x, rfl, hR', hrel⟩
        | pan v hh =>
         refine ⟨hfn, key _ (fun e1 h1 E1 a1 w1 hq1 hR1 he1 => ?_) (fun v x e1 h1 E1 a1 w1 hq1 => by cases hq1) (fun _ _ => by simp) (fun _ _ _ => by simp)⟩
         cases hq1
         exact (runDefers_ok (fun nt f c => code_ok hF nt f c) hF.ok hF.eqs hcl fn f _ rfl 100 _ _ none .returning hR1 he1 he1.dfr rfl (by simp) _ hrd _) fun x w' E' hR' hrel => ⟨E', x, rfl, hR', hrel⟩
       have e3 : (finR (resultsM (F.cx fn.ntmps f) fn.results.toList)) = fun e h => @Out.rec (fun _ => OpR) (fun e h => .bad "results") (fun _ _ _ => .bad "results") (fun e h => .bad "results") (fun v _ h => .val v h) (fun w => .bad w) (res (fun _ _ _ => .bad "") e h) := by funext e h; exact hfin e h
       rw [e3] at fin_case dfr_case
       rw [slot_top]
       cases hs : slot e' 1023 <;> rw [hs] at dfr_case <;> first | exact fin_case hs | exact dfr_case
      | pan v e' h' =>
       dsimp only
       have fin_case : slot e' 1023 = .undef → CallRes F.P E h w f xs.toArray (.pan v h') := by
        intro hu
        refine ⟨hfn, key _ (fun e1 h1 E1 a1 w1 hq1 => by cases hq1) (fun v x e1 h1 E1 a1 w1 hq1 hR1 he1 hv => ?_) (fun _ _ => by simp) (fun _ _ _ => by simp)⟩
        cases hq1
        have hd := he1.dfr
        rw [hu] at hd
        rw [hd.undef]
        exact ⟨E1, x, rfl, hR1, hv⟩
       have dfr_case : CallRes F.P E h w f xs.toArray (runDefers F call (finR (resultsM (F.cx fn.ntmps f) fn.results.toList)) e' 100 (slot e' 1023) (some (v, false)) h') := by
        cases hrd : runDefers F call (finR (resultsM (F.cx fn.ntmps f) fn.results.toList)) e' 100 (slot e' 1023) (some (v, false)) h' with
        | bad s => trivial
        | val v hh =>
         refine ⟨hfn, key _ (fun e1 h1 E1 a1 w1 hq1 => by cases hq1) (fun v x e1 h1 E1 a1 w1 hq1 hR1 he1 hv => ?_) (fun _ _ => by simp) (fun _ _ _ => by simp)⟩
         cases hq1
         exact (runDefers_ok (fun nt f c => code_ok hF nt f c) hF.ok hF.eqs hcl fn f _ rfl 100 _ _ (some (_, false)) (.panicking [{ v := x, recovered := false }]) hR1 he1 he1.dfr ⟨x, rfl, hv⟩ (by simp) _ hrd _) fun x w' E' hR' hrel => ⟨E', x, rfl, hR', hrel⟩
        | pan v hh =>
         refine ⟨hfn, key _ (fun e1 h1 E1 a1 w1 hq1 => by cases hq1) (fun v x e1 h1 E1 a1 w1 hq1 hR1 he1 hv => ?_) (fun _ _ => by simp) (fun _ _ _ => by simp)⟩
         cases hq1
         exact (runDefers_ok (fun nt f c => code_ok hF nt f c) hF.ok hF.eqs hcl fn f _ rfl 100 _ _ (some (_, false)) (.panicking [{ v := x, recovered := false }]) hR1 he1 he1.dfr ⟨x, rfl, hv⟩ (by simp) _ hrd _) fun x w' E' hR' hrel => ⟨E', x, rfl, hR', hrel⟩
       have e3 : (finR (resultsM (F.cx fn.ntmps f) fn.results.toList)) = fun e h => @Out.rec (fun _ => OpR) (fun e h => .bad "results") (fun _ _ _ => .bad "results") (fun e h => .bad "results") (fun v _ h => .val v h) (fun w => .bad w) (res (fun _ _ _ => .bad "") e h) := by funext e h; exact hfin e h
       rw [e3] at dfr_case
       rw [slot_top]
       cases hs : slot e' 1023 <;> rw [hs] at dfr_case <;> first | exact fin_case hs | exact dfr_case
     ·have : ∃ s, r = .bad s := Classical.byContradiction fun hn => hb fun s hs => hn ⟨s, hs⟩
      obtain ⟨s, hs⟩ := this
      rw [hs]
      trivial
   ·rw [if_neg hc]; trivial
end
end Go.Ev
