/- The machine with calls that are known by a contract, and with one package-level number that is not known. -/
import Derived.Test.YtgljaemmheolfaaGreatDoorSpB
set_option linter.all false
namespace Go.Ev
open Go
noncomputable section
def idxB (c : Nat) : (n i bits : Nat) → Nat
 | 0, _, _ => 18446744073709551615
 | n + 1, i, bits => match Nat.beq (Nat.mod bits 256) c with | true => i | false => idxB c n (i + 1) (Nat.div bits 256)
def idx2B (m c : Nat) : (n i bits : Nat) → Nat
 | 0, _, _ => 18446744073709551615
 | n + 1, i, bits => match Nat.ble m (n + 1) && Nat.beq (Nat.mod bits (p256 m)) c with | true => i | false => idx2B m c n (i + 1) (Nat.div bits 256)
inductive Hook where
 | tab (l : List (V × V)) | idx | oth | ind (g : Nat)
def IntAt (h : H) (g : Nat) : Prop := ∃ c n x a k, h.blk (Id.ofNat g) = .live c n x a ∧ 1 ≤ n ∧ c.get 0 = .int .i64 k
def SlA (h : H) (sz : Nat) (s : V) (len : Nat) (g : Nat → V) : Prop :=
 (s = .nils ∧ len = 0) ∨ ∃ j eo cap d m y b, s = .sl j eo sz len cap ∧ h.blk j = .live d m y b ∧ (eo + len) * sz ≤ m ∧ g = fun o => d.get (eo * sz + o)
def TermA (h : H) : Nat → V → Prop
 | 0, _ => False
 | k + 1, v => ∃ i o c n x a kd, v = .ptr i o ∧ h.blk i = .live c n x a ∧ o + 3 < n ∧ c.get o = .int .i64 kd ∧
   ((∃ j p, c.get (o + 3) = .ptr j p ∧ TermA h k (.ptr j p)) ∨ (c.get (o + 3) = .nilp ∧ ∃ len g, SlA h 1 (c.get (o + 2)) len g ∧ len ≤ 15 ∧ ∀ q < len, TermA h k (g q)))
def OthA (h : H) (args : V) : Prop :=
 ∃ i o n c m x a ls lo lu gs go gu mf es cl, args = .cons (.ptr i o) (.cons (.int .i64 n) .nil) ∧ h.blk i = .live c m x a ∧ o + 9 < m ∧ SlA h 4 (c.get (o + 1)) ls gs ∧ SlA h 1 (c.get (o + 6)) lo go ∧
  SlA h 1 (c.get (o + 9)) lu gu ∧ c.get (o + 8) = .map mf ∧ h.blk mf = .map es cl ∧ (∀ q < lu, ∃ k, gu q = .int .i64 k ∧ (k = n ∨ (k < lo ∧ TermA h 10 (go k)))) ∧
  (∀ q < ls, (∃ a1 a2 k2 k3, gs (q * 4) = .str a1 a2 ∧ gs (q * 4 + 2) = .int .i64 k2 ∧ gs (q * 4 + 3) = .int .i64 k3) ∧ ∃ kd, gs (q * 4 + 1) = .int .i64 kd ∧ (kd = 8 → q < lo ∧ TermA h 10 (go q))) ∧ ∀ e ∈ es, TermA h 10 e.2.1 ∧ e.2.2 < cl
def lookV (l : List (V × V)) (args : V) : Option V := match l with
 | [] => none
 | p :: l => match V.eqb p.1 args with | true => some p.2 | false => lookV l args
def hookV (k : Hook) (args : V) (h : H) : OpR :=
 match k with
 | .tab l => match lookV l args with | some v => .val v h | none => .bad ""
 | .idx => match args with | .cons (.str n b) (.cons (.int .u8 c) .nil) => .val (.int .i64 (idxB c n 0 b)) h | _ => .bad ""
 | .oth => open Classical in if OthA h args then .val .nil h else .bad ""
 | .ind g => match args with
  | .cons (.str n b) (.cons (.str m c) .nil) => open Classical in if IntAt h g ∧ 1 ≤ m ∧ n ≤ 1000000 then .val (.int .i64 (idx2B m c n 0 b)) h else .bad ""
  | _ => .bad ""
def callH (F : Cf) (hk : FuncId → Option Hook) : Nat → Call
 | 0 => fun _ _ _ => .bad ""
 | n + 1 => fun f args h => match hk f with | some k => hookV k args h | none => (fnC F f).f (callH F hk n) args h
def HookOk (P : Program) (gl : List Nat) (f : FuncId) (k : Hook) : Prop :=
 ∀ (args : V) (h : H) (E : Emb) (w : World) (xs : List Value) (v : V) (h' : H), HRel E h w → GlobOk gl E → RelL E args xs → hookV k args h = .val v h' →
  h' = h ∧ (∃ fn, P.funcs[f]? = some fn ∧ fn.body.isSome = true ∧ fn.name ≠ "runtime.NumGoroutine") ∧ Calls P f xs.toArray w fun en w' => ∃ x, en = .returned x ∧ KeepsW w w' ∧ Rel E v x
theorem hookV_pan {k : Hook} {args v : V} {h h' : H} : hookV k args h ≠ .pan v h' := by
 intro e
 unfold hookV at e
 cases k with
 | tab l => dsimp only at e; split at e <;> exact nomatch e
 | idx => dsimp only at e; split at e <;> exact nomatch e
 | oth => dsimp only at e; split at e <;> exact nomatch e
 | ind g => dsimp only at e; split at e <;> (try split at e) <;> exact nomatch e
theorem callH_ok {F : Cf} (hF : FOk F) {hk : FuncId → Option Hook} (hh : ∀ f k, hk f = some k → HookOk F.P F.gl f k) : ∀ n, CallOk F.P F.gl (callH F hk n)
 | 0 => fun f args h E w xs hr hg ha => trivial
 | n + 1 => fun f args h E w xs hr hg ha => by
  unfold callH
  (try dsimp only)
  cases hf : hk f with
  | none => exact fnC_ok hF (callH_ok hF hh n) f args hr hg ha
  | some k =>
   dsimp only
   cases hv : hookV k args h with
   | bad _ => trivial
   | pan v h' => exact (hookV_pan hv).elim
   | val v h' =>
    obtain ⟨rfl, k1, k2⟩ := hh f k hf args h E w xs v h' hr hg ha hv
    refine ⟨k1, k2.mono fun en w' hp => ?_⟩
    obtain ⟨x, e1, hk', hx⟩ := hp
    exact ⟨E, x, e1, hk'.run hr, hx⟩
end
end Go.Ev
namespace Go.Ev.Sp
open Go Go.Ev
noncomputable def idxS (c n i bits : Nat) (k : Nat → R) : R :=
 @Nat.rec (fun _ => Nat → Nat → (Nat → R) → R) (fun _ _ k => k 18446744073709551615) (fun _ ih i bits k => (@Bool.rec  (fun _ => (Nat) → (Nat) → (Nat → R) → R) (fun i bits k => ih (Nat.succ i) (Nat.div bits 256) k) (fun i bits k => k i) (Nat.beq (Nat.mod bits 256) c) i bits k)) n i bits k
noncomputable def allS (n : Nat) (f : Nat → R → R) (r : R) : R := @Nat.rec (fun _ => R → R) (fun r => r) (fun n ih r => f n (ih r)) n r
noncomputable def slS (sz : Nat) (s : V) (h : HS) (k : Nat → (Nat → (V → R) → R) → R) : R :=
 (@V.rec  (fun _ => (Nat) → (HS) → (Nat → (Nat → (V → R) → R) → R) → R) (fun sz h k => .bad) (fun _ sz h k => .bad) (fun _ _ sz h k => .bad) (fun _ _ sz h k => .bad) (fun _ _ sz h k => .bad) (fun sz h k => .bad) (fun j eo sz' len _ sz h k => (@Bool.rec  (fun _ => (Nat) → (Id) → (Nat) → (Nat) → (HS) → (Nat → (Nat → (V → R) → R) → R) → R) (fun sz j eo len h k => .bad) (fun sz j eo len h k => liveAt h j fun d m _ _ => (@Bool.rec  (fun _ => (CellsS) → (Nat) → (Nat) → (Nat) → (Nat → (Nat → (V → R) → R) → R) → R) (fun d sz eo len k => .bad) (fun d sz eo len k => k len fun o k => cellGet d (Nat.add (Nat.mul eo sz) o) k) (Nat.ble (Nat.mul (Nat.add eo len) sz) m) d sz eo len k)) (Nat.beq sz sz') sz j eo len h k)) (fun sz h k => k 0 fun _ _ => .bad) (fun _ sz h k => .bad) (fun sz h k => .bad) (fun _ _ _ _ _ sz h k => .bad) (fun sz h k => .bad) (fun _ _ _ sz h k => .bad) (fun sz h k => .bad) (fun _ _ sz h k => .bad) (fun _ _ sz h k => .bad) (fun sz h k => .bad) (fun _ _ _ _ sz h k => .bad) (s) sz h k)
noncomputable def kidsS (ih : V → R → R) (s : V) (h : HS) (r : R) : R :=
 slS 1 s h fun len g => (@Bool.rec  (fun _ => R) (.bad) (allS len (fun q r => g q fun v => ih v r) r) (Nat.ble len 15))
noncomputable def termS (h : HS) (n : Nat) (v : V) (r : R) : R :=
 @Nat.rec (fun _ => V → R → R) (fun _ _ => .bad) (fun _ ih v r => (@V.rec  (fun _ => (R) → R) (fun r => .bad) (fun _ r => .bad) (fun _ _ r => .bad) (fun _ _ r => .bad) (fun i o r => liveAt h i fun c n _ _ => (@Bool.rec  (fun _ => (CellsS) → (Nat) → (R) → R) (fun c o r => .bad) (fun c o r => cellGet c o fun kd => (@V.rec  (fun _ => (CellsS) → (Nat) → (R) → R) (fun c o r => .bad) (fun _ c o r => .bad) (fun kk _ c o r => (@Bool.rec  (fun _ => (CellsS) → (Nat) → (R) → R) (fun c o r => .bad) (fun c o r => cellGet c (Nat.add o 3) fun b => (@V.rec  (fun _ => (CellsS) → (Nat) → (R) → R) (fun c o r => .bad) (fun _ c o r => .bad) (fun _ _ c o r => .bad) (fun _ _ c o r => .bad) (fun j p c o r => ih (.ptr j p) r) (fun c o r => cellGet c (Nat.add o 2) fun s => kidsS ih s h r) (fun _ _ _ _ _ c o r => .bad) (fun c o r => .bad) (fun _ c o r => .bad) (fun c o r => .bad) (fun _ _ _ _ _ c o r => .bad) (fun c o r => .bad) (fun _ _ _ c o r => .bad) (fun c o r => .bad) (fun _ _ c o r => .bad) (fun _ _ c o r => .bad) (fun c o r => .bad) (fun _ _ _ _ c o r => .bad) (b) c o r)) (keq kk .i64) c o r)) (fun _ _ c o r => .bad) (fun _ _ c o r => .bad) (fun c o r => .bad) (fun _ _ _ _ _ c o r => .bad) (fun c o r => .bad) (fun _ c o r => .bad) (fun c o r => .bad) (fun _ _ _ _ _ c o r => .bad) (fun c o r => .bad) (fun _ _ _ c o r => .bad) (fun c o r => .bad) (fun _ _ c o r => .bad) (fun _ _ c o r => .bad) (fun c o r => .bad) (fun _ _ _ _ c o r => .bad) (kd) c o r)) (Nat.ble (Nat.add o 4) n) c o r)) (fun r => .bad) (fun _ _ _ _ _ r => .bad) (fun r => .bad) (fun _ r => .bad) (fun r => .bad) (fun _ _ _ _ _ r => .bad) (fun r => .bad) (fun _ _ _ r => .bad) (fun r => .bad) (fun _ _ r => .bad) (fun _ _ r => .bad) (fun r => .bad) (fun _ _ _ _ r => .bad) (v) r)) n v r
noncomputable def isStrS (v : V) (r : R) : R := (@V.rec  (fun _ => (R) → R) (fun r => .bad) (fun _ r => .bad) (fun _ _ r => .bad) (fun _ _ r => r) (fun _ _ r => .bad) (fun r => .bad) (fun _ _ _ _ _ r => .bad) (fun r => .bad) (fun _ r => .bad) (fun r => .bad) (fun _ _ _ _ _ r => .bad) (fun r => .bad) (fun _ _ _ r => .bad) (fun r => .bad) (fun _ _ r => .bad) (fun _ _ r => .bad) (fun r => .bad) (fun _ _ _ _ r => .bad) (v) r)
noncomputable def isI64S (v : V) (r : R) : R := (@V.rec  (fun _ => (R) → R) (fun r => .bad) (fun _ r => .bad) (fun k _ r => (@Bool.rec  (fun _ => (R) → R) (fun r => .bad) (fun r => r) (keq k .i64) r)) (fun _ _ r => .bad) (fun _ _ r => .bad) (fun r => .bad) (fun _ _ _ _ _ r => .bad) (fun r => .bad) (fun _ r => .bad) (fun r => .bad) (fun _ _ _ _ _ r => .bad) (fun r => .bad) (fun _ _ _ r => .bad) (fun r => .bad) (fun _ _ r => .bad) (fun _ _ r => .bad) (fun r => .bad) (fun _ _ _ _ r => .bad) (v) r)
noncomputable def othS (args : V) (h : HS) (r : R) : R :=
 (@V.rec  (fun _ => (HS) → (R) → R) (fun h r => .bad) (fun _ h r => .bad) (fun _ _ h r => .bad) (fun _ _ h r => .bad) (fun _ _ h r => .bad) (fun h r => .bad) (fun _ _ _ _ _ h r => .bad) (fun h r => .bad) (fun _ h r => .bad) (fun h r => .bad) (fun _ _ _ _ _ h r => .bad) (fun h r => .bad) (fun _ _ _ h r => .bad) (fun h r => .bad) (fun _ _ h r => .bad) (fun _ _ h r => .bad) (fun h r => .bad) (fun p l _ _ h r => (@V.rec  (fun _ => (V) → (HS) → (R) → R) (fun p h r => .bad) (fun _ p h r => .bad) (fun _ _ p h r => .bad) (fun _ _ p h r => .bad) (fun _ _ p h r => .bad) (fun p h r => .bad) (fun _ _ _ _ _ p h r => .bad) (fun p h r => .bad) (fun _ p h r => .bad) (fun p h r => .bad) (fun _ _ _ _ _ p h r => .bad) (fun p h r => .bad) (fun _ _ _ p h r => .bad) (fun p h r => .bad) (fun _ _ p h r => .bad) (fun _ _ p h r => .bad) (fun p h r => .bad) (fun q l _ _ p h r => (@V.rec  (fun _ => (V) → (V) → (HS) → (R) → R) (fun p q h r => .bad) (fun _ p q h r => .bad) (fun _ _ p q h r => .bad) (fun _ _ p q h r => .bad) (fun _ _ p q h r => .bad) (fun p q h r => .bad) (fun _ _ _ _ _ p q h r => .bad) (fun p q h r => .bad) (fun _ p q h r => .bad) (fun p q h r => .bad) (fun _ _ _ _ _ p q h r => .bad) (fun p q h r => .bad) (fun _ _ _ p q h r => .bad) (fun p q h r => .bad) (fun _ _ p q h r => .bad) (fun _ _ p q h r => .bad) (fun p q h r => (@V.rec  (fun _ => (V) → (HS) → (R) → R) (fun q h r => .bad) (fun _ q h r => .bad) (fun _ _ q h r => .bad) (fun _ _ q h r => .bad) (fun i o q h r => (@V.rec  (fun _ => (Id) → (Nat) → (HS) → (R) → R) (fun i o h r => .bad) (fun _ i o h r => .bad) (fun kk n i o h r => (@Bool.rec  (fun _ => (Id) → (Nat) → (Nat) → (HS) → (R) → R) (fun i o n h r => .bad) (fun i o n h r => liveAt h i fun c m _ _ => (@Bool.rec  (fun _ => (CellsS) → (Nat) → (Nat) → (HS) → (R) → R) (fun c o n h r => .bad) (fun c o n h r => cellGet c (Nat.add o 1) fun s1 => slS 4 s1 h fun ls gs => cellGet c (Nat.add o 6) fun s2 => slS 1 s2 h fun lo go => cellGet c (Nat.add o 9) fun s3 => slS 1 s3 h fun lu gu => cellGet c (Nat.add o 8) fun mv => (@V.rec  (fun _ => (HS) → (R) → R) (fun h r => .bad) (fun _ h r => .bad) (fun _ _ h r => .bad) (fun _ _ h r => .bad) (fun _ _ h r => .bad) (fun h r => .bad) (fun _ _ _ _ _ h r => .bad) (fun h r => .bad) (fun mf h r => mapAt h mf fun es cl =>
    allS lu (fun q r => gu q fun v => (@V.rec  (fun _ => (R) → R) (fun r => .bad) (fun _ r => .bad) (fun kk k r => (@Bool.rec  (fun _ => (Nat) → (R) → R) (fun k r => .bad) (fun k r => (@Bool.rec  (fun _ => (Nat) → (R) → R) (fun k r => (@Bool.rec  (fun _ => (Nat) → (R) → R) (fun k r => .bad) (fun k r => go k fun t => termS h 10 t r) (Nat.ble (Nat.succ k) lo) k r)) (fun k r => r) (Nat.beq k n) k r)) (keq kk .i64) k r)) (fun _ _ r => .bad) (fun _ _ r => .bad) (fun r => .bad) (fun _ _ _ _ _ r => .bad) (fun r => .bad) (fun _ r => .bad) (fun r => .bad) (fun _ _ _ _ _ r => .bad) (fun r => .bad) (fun _ _ _ r => .bad) (fun r => .bad) (fun _ _ r => .bad) (fun _ _ r => .bad) (fun r => .bad) (fun _ _ _ _ r => .bad) (v) r))
    (allS ls (fun q r => gs (Nat.mul q 4) fun v0 => isStrS v0 (gs (Nat.add (Nat.mul q 4) 2) fun v2 => isI64S v2 (gs (Nat.add (Nat.mul q 4) 3) fun v3 => isI64S v3 (gs (Nat.add (Nat.mul q 4) 1) fun v => (@V.rec  (fun _ => (R) → R) (fun r => .bad) (fun _ r => .bad) (fun kk k r => (@Bool.rec  (fun _ => (Nat) → (R) → R) (fun k r => .bad) (fun k r => (@Bool.rec  (fun _ => (R) → R) (fun r => r) (fun r => (@Bool.rec  (fun _ => (R) → R) (fun r => .bad) (fun r => go q fun t => termS h 10 t r) (Nat.ble (Nat.succ q) lo) r)) (Nat.beq k 8) r)) (keq kk .i64) k r)) (fun _ _ r => .bad) (fun _ _ r => .bad) (fun r => .bad) (fun _ _ _ _ _ r => .bad) (fun r => .bad) (fun _ r => .bad) (fun r => .bad) (fun _ _ _ _ _ r => .bad) (fun r => .bad) (fun _ _ _ r => .bad) (fun r => .bad) (fun _ _ r => .bad) (fun _ _ r => .bad) (fun r => .bad) (fun _ _ _ _ r => .bad) (v) r)))))
    (@List.rec (V × V × Nat) (fun _ => R → R) (fun r => r) (fun e _ ih r => (@Bool.rec  (fun _ => (V × V × Nat) → (R) → R) (fun e r => .bad) (fun e r => termS h 10 e.2.1 (ih r)) (Nat.ble (Nat.succ e.2.2) cl) e r)) es r))) (fun h r => .bad) (fun _ _ _ _ _ h r => .bad) (fun h r => .bad) (fun _ _ _ h r => .bad) (fun h r => .bad) (fun _ _ h r => .bad) (fun _ _ h r => .bad) (fun h r => .bad) (fun _ _ _ _ h r => .bad) (mv) h r)) (Nat.ble (Nat.add o 10) m) c o n h r)) (keq kk .i64) i o n h r)) (fun _ _ i o h r => .bad) (fun _ _ i o h r => .bad) (fun i o h r => .bad) (fun _ _ _ _ _ i o h r => .bad) (fun i o h r => .bad) (fun _ i o h r => .bad) (fun i o h r => .bad) (fun _ _ _ _ _ i o h r => .bad) (fun i o h r => .bad) (fun _ _ _ i o h r => .bad) (fun i o h r => .bad) (fun _ _ i o h r => .bad) (fun _ _ i o h r => .bad) (fun i o h r => .bad) (fun _ _ _ _ i o h r => .bad) (q) i o h r)) (fun q h r => .bad) (fun _ _ _ _ _ q h r => .bad) (fun q h r => .bad) (fun _ q h r => .bad) (fun q h r => .bad) (fun _ _ _ _ _ q h r => .bad) (fun q h r => .bad) (fun _ _ _ q h r => .bad) (fun q h r => .bad) (fun _ _ q h r => .bad) (fun _ _ q h r => .bad) (fun q h r => .bad) (fun _ _ _ _ q h r => .bad) (p) q h r)) (fun _ _ _ _ p q h r => .bad) (l) p q h r)) (l) p h r)) (args) h r)
noncomputable def lookS (l : List (V × V)) (args : V) (k : V → R) : R :=
 @List.rec (V × V) (fun _ => V → (V → R) → R) (fun _ _ => .bad) (fun p _ ih args k => (@Bool.rec  (fun _ => (V × V) → (V) → (V → R) → R) (fun p args k => ih args k) (fun p args k => k p.2) (V.eqb p.1 args) p args k)) l args k
noncomputable def idxAS (args : V) (k : V → R) : R :=
 (@V.rec  (fun _ => (V → R) → R) (fun k => .bad) (fun _ k => .bad) (fun _ _ k => .bad) (fun _ _ k => .bad) (fun _ _ k => .bad) (fun k => .bad) (fun _ _ _ _ _ k => .bad) (fun k => .bad) (fun _ k => .bad) (fun k => .bad) (fun _ _ _ _ _ k => .bad) (fun k => .bad) (fun _ _ _ k => .bad) (fun k => .bad) (fun _ _ k => .bad) (fun _ _ k => .bad) (fun k => .bad) (fun p l _ _ k => (@V.rec  (fun _ => (V) → (V → R) → R) (fun p k => .bad) (fun _ p k => .bad) (fun _ _ p k => .bad) (fun _ _ p k => .bad) (fun _ _ p k => .bad) (fun p k => .bad) (fun _ _ _ _ _ p k => .bad) (fun p k => .bad) (fun _ p k => .bad) (fun p k => .bad) (fun _ _ _ _ _ p k => .bad) (fun p k => .bad) (fun _ _ _ p k => .bad) (fun p k => .bad) (fun _ _ p k => .bad) (fun _ _ p k => .bad) (fun p k => .bad) (fun q l _ _ p k => (@V.rec  (fun _ => (V) → (V) → (V → R) → R) (fun p q k => .bad) (fun _ p q k => .bad) (fun _ _ p q k => .bad) (fun _ _ p q k => .bad) (fun _ _ p q k => .bad) (fun p q k => .bad) (fun _ _ _ _ _ p q k => .bad) (fun p q k => .bad) (fun _ p q k => .bad) (fun p q k => .bad) (fun _ _ _ _ _ p q k => .bad) (fun p q k => .bad) (fun _ _ _ p q k => .bad) (fun p q k => .bad) (fun _ _ p q k => .bad) (fun _ _ p q k => .bad) (fun p q k => (@V.rec  (fun _ => (V) → (V → R) → R) (fun q k => .bad) (fun _ q k => .bad) (fun _ _ q k => .bad) (fun n b q k => (@V.rec  (fun _ => (Nat) → (Nat) → (V → R) → R) (fun n b k => .bad) (fun _ n b k => .bad) (fun kk c n b k => (@Bool.rec  (fun _ => (Nat) → (Nat) → (Nat) → (V → R) → R) (fun c n b k => .bad) (fun c n b k => idxS c n 0 b fun i => k (.int .i64 i)) (keq kk .u8) c n b k)) (fun _ _ n b k => .bad) (fun _ _ n b k => .bad) (fun n b k => .bad) (fun _ _ _ _ _ n b k => .bad) (fun n b k => .bad) (fun _ n b k => .bad) (fun n b k => .bad) (fun _ _ _ _ _ n b k => .bad) (fun n b k => .bad) (fun _ _ _ n b k => .bad) (fun n b k => .bad) (fun _ _ n b k => .bad) (fun _ _ n b k => .bad) (fun n b k => .bad) (fun _ _ _ _ n b k => .bad) (q) n b k)) (fun _ _ q k => .bad) (fun q k => .bad) (fun _ _ _ _ _ q k => .bad) (fun q k => .bad) (fun _ q k => .bad) (fun q k => .bad) (fun _ _ _ _ _ q k => .bad) (fun q k => .bad) (fun _ _ _ q k => .bad) (fun q k => .bad) (fun _ _ q k => .bad) (fun _ _ q k => .bad) (fun q k => .bad) (fun _ _ _ _ q k => .bad) (p) q k)) (fun _ _ _ _ p q k => .bad) (l) p q k)) (l) p k)) (args) k)
noncomputable def idx2S (m c n i bits : Nat) (k : Nat → R) : R :=
 @Nat.rec (fun _ => Nat → Nat → (Nat → R) → R) (fun _ _ k => k 18446744073709551615) (fun n ih i bits k => (@Bool.rec  (fun _ => (Nat) → (Nat) → (Nat → R) → R) (fun i bits k => ih (Nat.succ i) (Nat.div bits 256) k) (fun i bits k => k i) (Nat.ble m (n + 1) && Nat.beq (Nat.mod bits (p256 m)) c) i bits k)) n i bits k
noncomputable def indS (g : Nat) (args : V) (h : HS) (k : V → R) : R :=
 (@V.rec  (fun _ => (HS) → (V → R) → R) (fun h k => .bad) (fun _ h k => .bad) (fun _ _ h k => .bad) (fun _ _ h k => .bad) (fun _ _ h k => .bad) (fun h k => .bad) (fun _ _ _ _ _ h k => .bad) (fun h k => .bad) (fun _ h k => .bad) (fun h k => .bad) (fun _ _ _ _ _ h k => .bad) (fun h k => .bad) (fun _ _ _ h k => .bad) (fun h k => .bad) (fun _ _ h k => .bad) (fun _ _ h k => .bad) (fun h k => .bad) (fun p l _ _ h k => (@V.rec  (fun _ => (V) → (HS) → (V → R) → R) (fun p h k => .bad) (fun _ p h k => .bad) (fun _ _ p h k => .bad) (fun _ _ p h k => .bad) (fun _ _ p h k => .bad) (fun p h k => .bad) (fun _ _ _ _ _ p h k => .bad) (fun p h k => .bad) (fun _ p h k => .bad) (fun p h k => .bad) (fun _ _ _ _ _ p h k => .bad) (fun p h k => .bad) (fun _ _ _ p h k => .bad) (fun p h k => .bad) (fun _ _ p h k => .bad) (fun _ _ p h k => .bad) (fun p h k => .bad) (fun q l _ _ p h k => (@V.rec  (fun _ => (V) → (V) → (HS) → (V → R) → R) (fun p q h k => .bad) (fun _ p q h k => .bad) (fun _ _ p q h k => .bad) (fun _ _ p q h k => .bad) (fun _ _ p q h k => .bad) (fun p q h k => .bad) (fun _ _ _ _ _ p q h k => .bad) (fun p q h k => .bad) (fun _ p q h k => .bad) (fun p q h k => .bad) (fun _ _ _ _ _ p q h k => .bad) (fun p q h k => .bad) (fun _ _ _ p q h k => .bad) (fun p q h k => .bad) (fun _ _ p q h k => .bad) (fun _ _ p q h k => .bad) (fun p q h k => (@V.rec  (fun _ => (V) → (HS) → (V → R) → R) (fun q h k => .bad) (fun _ q h k => .bad) (fun _ _ q h k => .bad) (fun n b q h k => (@V.rec  (fun _ => (Nat) → (Nat) → (HS) → (V → R) → R) (fun n b h k => .bad) (fun _ n b h k => .bad) (fun _ _ n b h k => .bad) (fun m c n b h k => (@Bool.rec  (fun _ => (Nat) → (Nat) → (Nat) → (Nat) → (HS) → (V → R) → R) (fun m c n b h k => .bad) (fun m c n b h k => liveAt h (Go.Ev.Id.ofNat g) fun d q _ _ => (@Bool.rec  (fun _ => (CellsS) → (Nat) → (Nat) → (Nat) → (Nat) → (V → R) → R) (fun d m c n b k => .bad) (fun d m c n b k => cellGet d 0 fun v => isI64S v (idx2S m c n 0 b fun i => k (.int .i64 i))) (Nat.ble 1 q) d m c n b k)) (Nat.ble 1 m && Nat.ble n 1000000) m c n b h k)) (fun _ _ n b h k => .bad) (fun n b h k => .bad) (fun _ _ _ _ _ n b h k => .bad) (fun n b h k => .bad) (fun _ n b h k => .bad) (fun n b h k => .bad) (fun _ _ _ _ _ n b h k => .bad) (fun n b h k => .bad) (fun _ _ _ n b h k => .bad) (fun n b h k => .bad) (fun _ _ n b h k => .bad) (fun _ _ n b h k => .bad) (fun n b h k => .bad) (fun _ _ _ _ n b h k => .bad) (q) n b h k)) (fun _ _ q h k => .bad) (fun q h k => .bad) (fun _ _ _ _ _ q h k => .bad) (fun q h k => .bad) (fun _ q h k => .bad) (fun q h k => .bad) (fun _ _ _ _ _ q h k => .bad) (fun q h k => .bad) (fun _ _ _ q h k => .bad) (fun q h k => .bad) (fun _ _ q h k => .bad) (fun _ _ q h k => .bad) (fun q h k => .bad) (fun _ _ _ _ q h k => .bad) (p) q h k)) (fun _ _ _ _ p q h k => .bad) (l) p q h k)) (l) p h k)) (args) h k)
noncomputable def hookS (k : Hook) (args : V) (h : HS) (kv : V → HS → R) : R :=
 @Hook.rec (fun _ => V → HS → (V → HS → R) → R) (fun l args h kv => lookS l args fun v => kv v h) (fun args h kv => idxAS args fun v => kv v h) (fun args h kv => othS args h (kv .nil h)) (fun g args h kv => indS g args h fun v => kv v h) k args h kv
noncomputable def callHS (F : Cf) (hk : FuncId → Option Hook) (n : Nat) : CallS :=
 @Nat.rec (fun _ => CallS) (fun _ _ _ _ _ => .bad) (fun _ ih f args h kv kp => (@Option.rec Hook (fun _ => (FuncId) → (CallS) → (V) → (HS) → (V → HS → R) → (V → HS → R) → R) (fun f ih args h kv kp => (@Fn1.rec FnS (fun _ => (CallS) → (V) → (HS) → (V → HS → R) → (V → HS → R) → R) (fun m ih args h kv kp => m ih args h kv kp) (fnS F f) ih args h kv kp)) (fun k f ih args h kv kp => hookS k args h kv) (hk f) f ih args h kv kp)) n
theorem idxS_eq (c : Nat) : ∀ (n i bits : Nat) (k : Nat → R), idxS c n i bits k = k (idxB c n i bits)
 | 0, i, bits, k => rfl
 | n + 1, i, bits, k => by
  show (@Bool.rec (fun _ => Nat → Nat → (Nat → R) → R) (fun i bits k => idxS c n (Nat.succ i) (Nat.div bits 256) k) (fun i bits k => k i) (Nat.beq (Nat.mod bits 256) c) i bits k) = _
  unfold idxB
  cases Nat.beq (Nat.mod bits 256) c with
  | true => rfl
  | false => exact idxS_eq c n _ _ k
theorem allS_le {f : Nat → R → R} {p : Nat → Prop} (hf : ∀ q r, f q r = .good → p q ∧ r = .good) : ∀ {n : Nat} {r : R}, allS n f r = .good → (∀ q, q < n → p q) ∧ r = .good
 | 0, r, h => ⟨fun q hq => absurd hq (Nat.not_lt_zero _), h⟩
 | n + 1, r, h => by
  obtain ⟨h1, h2⟩ := hf n _ (show f n (allS n f r) = .good from h)
  obtain ⟨h3, h4⟩ := allS_le hf h2
  refine ⟨fun q hq => ?_, h4⟩
  by_cases e : q = n
  ·exact e ▸ h1
  ·exact h3 q (by omega)
theorem slS_le {sz : Nat} {s : V} {h : H} {k : Nat → (Nat → (V → R) → R) → R} (hg : slS sz s (encH h) k = .good) :
  ∃ len g gS, SlA h sz s len g ∧ (∀ o k, gS o k = .good → k (g o) = .good) ∧ k len gS = .good := by
 cases s <;> try exact (bad_ne hg).elim
 ·rename_i j eo sz' len cap
  replace hg : (@Bool.rec (fun _ => Nat → Id → Nat → Nat → HS → (Nat → (Nat → (V → R) → R) → R) → R) (fun _ _ _ _ _ _ => .bad) (fun sz j eo len h k => liveAt h j fun d m _ _ => (@Bool.rec (fun _ => CellsS → Nat → Nat → Nat → (Nat → (Nat → (V → R) → R) → R) → R) (fun _ _ _ _ _ => .bad) (fun d sz eo len k => k len fun o k => cellGet d (Nat.add (Nat.mul eo sz) o) k) (Nat.ble (Nat.mul (Nat.add eo len) sz) m) d sz eo len k)) (Nat.beq sz sz') sz j eo len (encH h) k) = .good := hg
  cases h1 : Nat.beq sz sz' <;> rw [h1] at hg
  ·exact (bad_ne hg).elim
  ·have e1 := Nat.eq_of_beq_eq_true h1
   subst e1
   (try dsimp only at hg)
   obtain ⟨d, m, y, b, hb, hg⟩ := liveAt_le hg
   cases h2 : Nat.ble (Nat.mul (Nat.add eo len) sz) m <;> rw [h2] at hg
   ·exact (bad_ne hg).elim
   ·refine ⟨len, _, _, .inr ⟨j, eo, cap, d, m, y, b, rfl, hb, Nat.le_of_ble_eq_true h2, rfl⟩, ?_, hg⟩
    intro o k hk
    rw [cellGet_enc] at hk
    exact hk
 ·exact ⟨0, fun _ => .undef, _, .inl ⟨rfl, rfl⟩, fun o k hk => (bad_ne hk).elim, hg⟩
theorem keq_eq {k j : IntKind} (h : keq k j = true) : k = j := knum_inj h
theorem termS_le {h : H} : ∀ (n : Nat) (v : V) (r : R), termS (encH h) n v r = .good → TermA h n v ∧ r = .good
 | 0, v, r, hg => (bad_ne hg).elim
 | n + 1, v, r, hg => by
  have ih := @termS_le h n
  cases v <;> try exact (bad_ne hg).elim
  rename_i i o
  replace hg : (liveAt (encH h) i fun c m _ _ => (@Bool.rec (fun _ => CellsS → Nat → R → R) (fun _ _ _ => .bad) (fun c o r => cellGet c o fun kd => (@V.rec (fun _ => CellsS → Nat → R → R) (fun _ _ _ => .bad) (fun _ _ _ _ => .bad) (fun kk _ c o r => (@Bool.rec (fun _ => CellsS → Nat → R → R) (fun _ _ _ => .bad) (fun c o r =>
   cellGet c (Nat.add o 3) fun b => (@V.rec (fun _ => CellsS → Nat → R → R) (fun _ _ _ => .bad) (fun _ _ _ _ => .bad) (fun _ _ _ _ _ => .bad) (fun _ _ _ _ _ => .bad) (fun j p _ _ r => termS (encH h) n (.ptr j p) r) (fun c o r => cellGet c (Nat.add o 2) fun s => kidsS (termS (encH h) n) s (encH h) r) (fun _ _ _ _ _ _ _ _ => .bad) (fun _ _ _ => .bad) (fun _ _ _ _ => .bad) (fun _ _ _ => .bad) (fun _ _ _ _ _ _ _ _ => .bad) (fun _ _ _ => .bad) (fun _ _ _ _ _ _ => .bad) (fun _ _ _ => .bad) (fun _ _ _ _ _ => .bad) (fun _ _ _ _ _ => .bad) (fun _ _ _ => .bad) (fun _ _ _ _ _ _ _ => .bad) b c o r)) (keq kk .i64) c o r)) (fun _ _ _ _ _ => .bad) (fun _ _ _ _ _ => .bad) (fun _ _ _ => .bad) (fun _ _ _ _ _ _ _ _ => .bad) (fun _ _ _ => .bad) (fun _ _ _ _ => .bad) (fun _ _ _ => .bad) (fun _ _ _ _ _ _ _ _ => .bad) (fun _ _ _ => .bad) (fun _ _ _ _ _ _ => .bad) (fun _ _ _ => .bad) (fun _ _ _ _ _ => .bad) (fun _ _ _ _ _ => .bad) (fun _ _ _ => .bad) (fun _ _ _ _ _ _ _ => .bad) kd c o r)) (Nat.ble (Nat.add o 4) m) c o r)) = .good := hg
  obtain ⟨c, m, x, a, hb, hg⟩ := liveAt_le hg
  cases h1 : Nat.ble (Nat.add o 4) m <;> rw [h1] at hg
  ·exact (bad_ne hg).elim
  ·dsimp only at hg
   have h1' : o + 4 ≤ m := Nat.le_of_ble_eq_true h1
   rw [cellGet_enc] at hg
   cases h2 : c.get o <;> rw [h2] at hg <;> try exact (bad_ne hg).elim
   rename_i kk kd
   dsimp only at hg
   cases h3 : keq kk .i64 <;> rw [h3] at hg
   ·exact (bad_ne hg).elim
   ·have e3 := keq_eq h3
    subst e3
    dsimp only at hg
    rw [cellGet_enc] at hg
    cases h4 : c.get (Nat.add o 3) <;> rw [h4] at hg <;> try exact (bad_ne hg).elim
    ·rename_i j p
     obtain ⟨k1, k2⟩ := ih _ _ hg
     exact ⟨⟨i, o, c, m, x, a, kd, rfl, hb, by omega, h2, .inl ⟨j, p, h4, k1⟩⟩, k2⟩
    ·dsimp only at hg
     rw [cellGet_enc] at hg
     unfold kidsS at hg
     obtain ⟨len, g, gS, s1, s2, hg⟩ := slS_le hg
     cases h5 : Nat.ble len 15 <;> rw [h5] at hg
     ·exact (bad_ne hg).elim
     ·dsimp only at hg
      obtain ⟨k1, k2⟩ := allS_le (p := fun q => TermA h n (g q)) (fun q r hq => ih _ _ (s2 _ _ hq)) hg
      exact ⟨⟨i, o, c, m, x, a, kd, rfl, hb, by omega, h2, .inr ⟨h4, len, g, s1, Nat.le_of_ble_eq_true h5, k1⟩⟩, k2⟩
theorem entsS_le {h : H} {cl : Nat} : ∀ {es : List (V × V × Nat)} {r : R}, (@List.rec (V × V × Nat) (fun _ => R → R) (fun r => r) (fun e _ ih r => @Bool.rec (fun _ => V × V × Nat → R → R) (fun _ _ => .bad) (fun e r => termS (encH h) 10 e.2.1 (ih r)) (Nat.ble (Nat.succ e.2.2) cl) e r) es r) = .good → (∀ e ∈ es, TermA h 10 e.2.1 ∧ e.2.2 < cl) ∧ r = .good
 | [], r, hg => ⟨fun e he => absurd he (List.not_mem_nil), hg⟩
 | e :: es, r, hg => by
  replace hg : (@Bool.rec (fun _ => V × V × Nat → R → R) (fun _ _ => .bad) (fun e r => termS (encH h) 10 e.2.1 (@List.rec (V × V × Nat) (fun _ => R → R) (fun r => r) (fun e _ ih r => @Bool.rec (fun _ => V × V × Nat → R → R) (fun _ _ => .bad) (fun e r => termS (encH h) 10 e.2.1 (ih r)) (Nat.ble (Nat.succ e.2.2) cl) e r) es r)) (Nat.ble (Nat.succ e.2.2) cl) e r) = .good := hg
  cases h1 : Nat.ble (Nat.succ e.2.2) cl <;> rw [h1] at hg
  ·exact (bad_ne hg).elim
  ·obtain ⟨k1, k2⟩ := termS_le _ _ _ hg
   obtain ⟨k3, k4⟩ := entsS_le k2
   refine ⟨fun e' he => ?_, k4⟩
   rcases List.mem_cons.1 he with rfl | he
   ·exact ⟨k1, Nat.le_of_ble_eq_true h1⟩
   ·exact k3 e' he
theorem isStrS_le {v : V} {r : R} (hg : isStrS v r = .good) : (∃ a b, v = .str a b) ∧ r = .good := by
 cases v <;> first | exact ⟨⟨_, _, rfl⟩, hg⟩ | exact (bad_ne hg).elim
theorem isI64S_le {v : V} {r : R} (hg : isI64S v r = .good) : (∃ a, v = .int .i64 a) ∧ r = .good := by
 cases v <;> try exact (bad_ne hg).elim
 rename_i k n
 replace hg : (@Bool.rec (fun _ => R → R) (fun _ => .bad) (fun r => r) (keq k .i64) r) = .good := hg
 cases h1 : keq k .i64 <;> rw [h1] at hg
 ·exact (bad_ne hg).elim
 ·have e1 := keq_eq h1
  subst e1
  exact ⟨⟨n, rfl⟩, hg⟩
theorem othS_le {args : V} {h : H} {r : R} (hg : othS args (encH h) r = .good) : OthA h args ∧ r = .good := by
 cases args <;> try exact (bad_ne hg).elim
 rename_i p l
 cases l <;> try exact (bad_ne hg).elim
 rename_i q l
 cases l <;> try exact (bad_ne hg).elim
 cases p <;> try exact (bad_ne hg).elim
 rename_i i o
 cases q <;> try exact (bad_ne hg).elim
 rename_i kk n
 replace hg := show ((fun (h : HS) (r : R) => (@Bool.rec  (fun _ => (Id) → (Nat) → (Nat) → (HS) → (R) → R) (fun i o n h r => .bad) (fun i o n h r => liveAt h i fun c m _ _ => (@Bool.rec  (fun _ => (CellsS) → (Nat) → (Nat) → (HS) → (R) → R) (fun c o n h r => .bad) (fun c o n h r => cellGet c (Nat.add o 1) fun s1 => slS 4 s1 h fun ls gs => cellGet c (Nat.add o 6) fun s2 => slS 1 s2 h fun lo go => cellGet c (Nat.add o 9) fun s3 => slS 1 s3 h fun lu gu => cellGet c (Nat.add o 8) fun mv => (@V.rec  (fun _ => (HS) → (R) → R) (fun h r => .bad) (fun _ h r => .bad) (fun _ _ h r => .bad) (fun _ _ h r => .bad) (fun _ _ h r => .bad) (fun h r => .bad) (fun _ _ _ _ _ h r => .bad) (fun h r => .bad) (fun mf h r => mapAt h mf fun es cl =>
    allS lu (fun q r => gu q fun v => (@V.rec  (fun _ => (R) → R) (fun r => .bad) (fun _ r => .bad) (fun kk k r => (@Bool.rec  (fun _ => (Nat) → (R) → R) (fun k r => .bad) (fun k r => (@Bool.rec  (fun _ => (Nat) → (R) → R) (fun k r => (@Bool.rec  (fun _ => (Nat) → (R) → R) (fun k r => .bad) (fun k r => go k fun t => termS h 10 t r) (Nat.ble (Nat.succ k) lo) k r)) (fun k r => r) (Nat.beq k n) k r)) (keq kk .i64) k r)) (fun _ _ r => .bad) (fun _ _ r => .bad) (fun r => .bad) (fun _ _ _ _ _ r => .bad) (fun r => .bad) (fun _ r => .bad) (fun r => .bad) (fun _ _ _ _ _ r => .bad) (fun r => .bad) (fun _ _ _ r => .bad) (fun r => .bad) (fun _ _ r => .bad) (fun _ _ r => .bad) (fun r => .bad) (fun _ _ _ _ r => .bad) (v) r))
    (allS ls (fun q r => gs (Nat.mul q 4) fun v0 => isStrS v0 (gs (Nat.add (Nat.mul q 4) 2) fun v2 => isI64S v2 (gs (Nat.add (Nat.mul q 4) 3) fun v3 => isI64S v3 (gs (Nat.add (Nat.mul q 4) 1) fun v => (@V.rec  (fun _ => (R) → R) (fun r => .bad) (fun _ r => .bad) (fun kk k r => (@Bool.rec  (fun _ => (Nat) → (R) → R) (fun k r => .bad) (fun k r => (@Bool.rec  (fun _ => (R) → R) (fun r => r) (fun r => (@Bool.rec  (fun _ => (R) → R) (fun r => .bad) (fun r => go q fun t => termS h 10 t r) (Nat.ble (Nat.succ q) lo) r)) (Nat.beq k 8) r)) (keq kk .i64) k r)) (fun _ _ r => .bad) (fun _ _ r => .bad) (fun r => .bad) (fun _ _ _ _ _ r => .bad) (fun r => .bad) (fun _ r => .bad) (fun r => .bad) (fun _ _ _ _ _ r => .bad) (fun r => .bad) (fun _ _ _ r => .bad) (fun r => .bad) (fun _ _ r => .bad) (fun _ _ r => .bad) (fun r => .bad) (fun _ _ _ _ r => .bad) (v) r)))))
    (@List.rec (V × V × Nat) (fun _ => R → R) (fun r => r) (fun e _ ih r => (@Bool.rec  (fun _ => (V × V × Nat) → (R) → R) (fun e r => .bad) (fun e r => termS h 10 e.2.1 (ih r)) (Nat.ble (Nat.succ e.2.2) cl) e r)) es r))) (fun h r => .bad) (fun _ _ _ _ _ h r => .bad) (fun h r => .bad) (fun _ _ _ h r => .bad) (fun h r => .bad) (fun _ _ h r => .bad) (fun _ _ h r => .bad) (fun h r => .bad) (fun _ _ _ _ h r => .bad) (mv) h r)) (Nat.ble (Nat.add o 10) m) c o n h r)) (keq kk .i64) i o n h r)) (encH h) r) = .good from hg
 cases h1 : keq kk .i64 <;> rw [h1] at hg
 ·exact (bad_ne hg).elim
 ·have e1 := keq_eq h1
  subst e1
  (try dsimp only at hg)
  obtain ⟨c, m, x, a, hb, hg⟩ := liveAt_le hg
  cases h2 : Nat.ble (Nat.add o 10) m <;> rw [h2] at hg
  ·exact (bad_ne hg).elim
  ·have h2' : o + 10 ≤ m := Nat.le_of_ble_eq_true h2
   dsimp only at hg
   rw [cellGet_enc] at hg
   obtain ⟨ls, gs, gsS, s1, s2, hg⟩ := slS_le hg
   rw [cellGet_enc] at hg
   obtain ⟨lo, go, goS, t1, t2, hg⟩ := slS_le hg
   rw [cellGet_enc] at hg
   obtain ⟨lu, gu, guS, u1, u2, hg⟩ := slS_le hg
   rw [cellGet_enc] at hg
   cases h3 : c.get (Nat.add o 8) <;> rw [h3] at hg <;> try exact (bad_ne hg).elim
   rename_i mf
   dsimp only at hg
   obtain ⟨es, cl, hm, hg⟩ := mapAt_le hg
   obtain ⟨k1, hg⟩ := allS_le (p := fun q => ∃ k, gu q = .int .i64 k ∧ (k = n ∨ (k < lo ∧ TermA h 10 (go k)))) (fun q r hq => by
    have hq := u2 _ _ hq
    (try dsimp only at hq)
    cases h4 : gu q <;> rw [h4] at hq <;> try exact (bad_ne hq).elim
    rename_i kk k
    dsimp only at hq
    cases h5 : keq kk .i64 <;> rw [h5] at hq
    ·exact (bad_ne hq).elim
    ·have e5 := keq_eq h5
     subst e5
     dsimp only at hq
     cases h6 : Nat.beq k n <;> rw [h6] at hq
     ·dsimp only at hq
      cases h7 : Nat.ble (Nat.succ k) lo <;> rw [h7] at hq
      ·exact (bad_ne hq).elim
      ·have hq := t2 _ _ hq
       obtain ⟨z1, z2⟩ := termS_le _ _ _ hq
       exact ⟨⟨k, rfl, .inr ⟨Nat.le_of_ble_eq_true h7, z1⟩⟩, z2⟩
     ·exact ⟨⟨k, rfl, .inl (Nat.eq_of_beq_eq_true h6)⟩, hq⟩) hg
   obtain ⟨k2, hg⟩ := allS_le (p := fun q => (∃ a1 a2 k2 k3, gs (q * 4) = .str a1 a2 ∧ gs (q * 4 + 2) = .int .i64 k2 ∧ gs (q * 4 + 3) = .int .i64 k3) ∧ ∃ kd, gs (q * 4 + 1) = .int .i64 kd ∧ (kd = 8 → q < lo ∧ TermA h 10 (go q))) (fun q r hq => by
    obtain ⟨⟨a1, a2, z1⟩, hq⟩ := isStrS_le (s2 _ _ hq)
    obtain ⟨⟨b2, z2⟩, hq⟩ := isI64S_le (s2 _ _ hq)
    obtain ⟨⟨b3, z3⟩, hq⟩ := isI64S_le (s2 _ _ hq)
    have hz : ∃ a1 a2 k2 k3, gs (q * 4) = .str a1 a2 ∧ gs (q * 4 + 2) = .int .i64 k2 ∧ gs (q * 4 + 3) = .int .i64 k3 := ⟨a1, a2, b2, b3, z1, z2, z3⟩
    have hq := s2 _ _ hq
    (try dsimp only at hq)
    cases h4 : gs (Nat.add (Nat.mul q 4) 1) <;> rw [h4] at hq <;> try exact (bad_ne hq).elim
    rename_i kk k
    dsimp only at hq
    cases h5 : keq kk .i64 <;> rw [h5] at hq
    ·exact (bad_ne hq).elim
    ·have e5 := keq_eq h5
     subst e5
     dsimp only at hq
     cases h6 : Nat.beq k 8 <;> rw [h6] at hq
     ·exact ⟨⟨hz, k, rfl, fun e => by rw [e] at h6; exact nomatch h6⟩, hq⟩
     ·dsimp only at hq
      cases h7 : Nat.ble (Nat.succ q) lo <;> rw [h7] at hq
      ·exact (bad_ne hq).elim
      ·have hq := t2 _ _ hq
       obtain ⟨z1, z2⟩ := termS_le _ _ _ hq
       exact ⟨⟨hz, k, rfl, fun _ => ⟨Nat.le_of_ble_eq_true h7, z1⟩⟩, z2⟩) hg
   obtain ⟨k3, hg⟩ := entsS_le hg
   exact ⟨⟨i, o, n, c, m, x, a, ls, lo, lu, gs, go, gu, mf, es, cl, rfl, hb, by omega, s1, t1, u1, h3, hm, k1, k2, k3⟩, hg⟩
theorem lookS_le : ∀ {l : List (V × V)} {args : V} {k : V → R}, lookS l args k = .good → ∃ v, lookV l args = some v ∧ k v = .good
 | [], args, k, hg => (bad_ne hg).elim
 | p :: l, args, k, hg => by
  replace hg : (@Bool.rec (fun _ => V × V → V → (V → R) → R) (fun p args k => lookS l args k) (fun p args k => k p.2) (V.eqb p.1 args) p args k) = .good := hg
  unfold lookV
  cases h1 : V.eqb p.1 args <;> rw [h1] at hg
  ·exact lookS_le hg
  ·exact ⟨p.2, rfl, hg⟩
theorem idxAS_le {args : V} {h : H} {k : V → R} (hg : idxAS args k = .good) : ∃ v, hookV .idx args h = .val v h ∧ k v = .good := by
 cases args <;> try exact (bad_ne hg).elim
 rename_i p l
 cases l <;> try exact (bad_ne hg).elim
 rename_i q l
 cases l <;> try exact (bad_ne hg).elim
 cases p <;> try exact (bad_ne hg).elim
 rename_i n b
 cases q <;> try exact (bad_ne hg).elim
 rename_i kk c
 replace hg : (@Bool.rec (fun _ => Nat → Nat → Nat → (V → R) → R) (fun _ _ _ _ => .bad) (fun c n b k => idxS c n 0 b fun i => k (.int .i64 i)) (keq kk .u8) c n b k) = .good := hg
 cases h1 : keq kk .u8 <;> rw [h1] at hg
 ·exact (bad_ne hg).elim
 ·have e1 := keq_eq h1
  subst e1
  (try dsimp only at hg)
  rw [idxS_eq] at hg
  exact ⟨_, rfl, hg⟩
theorem idx2S_eq (m c : Nat) : ∀ (n i bits : Nat) (k : Nat → R), idx2S m c n i bits k = k (idx2B m c n i bits)
 | 0, i, bits, k => rfl
 | n + 1, i, bits, k => by
  show (@Bool.rec (fun _ => Nat → Nat → (Nat → R) → R) (fun i bits k => idx2S m c n (Nat.succ i) (Nat.div bits 256) k) (fun i bits k => k i) (Nat.ble m (n + 1) && Nat.beq (Nat.mod bits (p256 m)) c) i bits k) = _
  unfold idx2B
  cases (Nat.ble m (n + 1) && Nat.beq (Nat.mod bits (p256 m)) c) with
  | true => rfl
  | false => exact idx2S_eq m c n _ _ k
theorem indS_le {g : Nat} {args : V} {h : H} {k : V → R} (hg : indS g args (encH h) k = .good) : ∃ v, hookV (.ind g) args h = .val v h ∧ k v = .good := by
 cases args <;> try exact (bad_ne hg).elim
 rename_i p l
 cases l <;> try exact (bad_ne hg).elim
 rename_i q l
 cases l <;> try exact (bad_ne hg).elim
 cases p <;> try exact (bad_ne hg).elim
 rename_i n b
 cases q <;> try exact (bad_ne hg).elim
 rename_i m c
 replace hg : (@Bool.rec (fun _ => Nat → Nat → Nat → Nat → HS → (V → R) → R) (fun _ _ _ _ _ _ => .bad) (fun m c n b h k => liveAt h (Go.Ev.Id.ofNat g) fun d q _ _ => (@Bool.rec (fun _ => CellsS → Nat → Nat → Nat → Nat → (V → R) → R) (fun _ _ _ _ _ _ => .bad) (fun d m c n b k => cellGet d 0 fun v => isI64S v (idx2S m c n 0 b fun i => k (.int .i64 i))) (Nat.ble 1 q) d m c n b k)) (Nat.ble 1 m && Nat.ble n 1000000) m c n b (encH h) k) = .good := hg
 cases h1 : (Nat.ble 1 m && Nat.ble n 1000000) <;> rw [h1] at hg
 ·exact (bad_ne hg).elim
 ·(try dsimp only at hg)
  rw [Bool.and_eq_true] at h1
  obtain ⟨d, q, x, a, hb, hg⟩ := liveAt_le hg
  cases h2 : Nat.ble 1 q <;> rw [h2] at hg
  ·exact (bad_ne hg).elim
  ·dsimp only at hg
   rw [cellGet_enc] at hg
   obtain ⟨⟨k', hk'⟩, hg⟩ := isI64S_le hg
   rw [idx2S_eq] at hg
   refine ⟨_, ?_, hg⟩
   simp only [hookV]
   rw [if_pos ⟨⟨d, q, x, a, k', hb, Nat.le_of_ble_eq_true h2, hk'⟩, Nat.le_of_ble_eq_true h1.1, Nat.le_of_ble_eq_true h1.2⟩]
theorem hookS_le {k : Hook} {args : V} {h : H} {kv : V → HS → R} (hg : hookS k args (encH h) kv = .good) : ∃ v h', hookV k args h = .val v h' ∧ kv v (encH h') = .good := by
 cases k with
 | tab l =>
  obtain ⟨v, e1, hg⟩ := lookS_le (show lookS l args (fun v => kv v (encH h)) = .good from hg)
  exact ⟨v, h, by simp only [hookV, e1], hg⟩
 | idx =>
  obtain ⟨v, e1, hg⟩ := idxAS_le (h := h) (show idxAS args (fun v => kv v (encH h)) = .good from hg)
  exact ⟨v, h, e1, hg⟩
 | oth =>
  obtain ⟨e1, hg⟩ := othS_le (show othS args (encH h) (kv .nil (encH h)) = .good from hg)
  exact ⟨.nil, h, by simp only [hookV]; rw [if_pos e1], hg⟩
 | ind g =>
  obtain ⟨v, e1, hg⟩ := indS_le (h := h) (show indS g args (encH h) (fun v => kv v (encH h)) = .good from hg)
  exact ⟨v, h, e1, hg⟩
theorem callHS_le {F : Cf} (hn : NamesOk F) (hk : FuncId → Option Hook) : ∀ n, CallLe (callHS F hk n) (callH F hk n)
 | 0 => fun f args h kv kp hg => (bad_ne hg).elim
 | n + 1 => fun f args h kv kp hg => by
  have ih := callHS_le hn hk n
  replace hg : (@Option.rec Hook (fun _ => FuncId → CallS → V → HS → (V → HS → R) → (V → HS → R) → R) (fun f ih args h kv kp => @Fn1.rec FnS (fun _ => CallS → V → HS → (V → HS → R) → (V → HS → R) → R) (fun m ih args h kv kp => m ih args h kv kp) (fnS F f) ih args h kv kp) (fun k f ih args h kv kp => hookS k args h kv) (hk f) f (callHS F hk n) args (encH h) kv kp) = .good := hg
  unfold callH
  (try dsimp only)
  cases hf : hk f with
  | some k =>
   rw [hf] at hg
   exact .inl (hookS_le hg)
  | none =>
   rw [hf] at hg
   have h1 : (fnS F f).f (callHS F hk n) args (encH h) kv kp = .good := by
    replace hg : (@Fn1.rec FnS (fun _ => CallS → V → HS → (V → HS → R) → (V → HS → R) → R) (fun m ih args h kv kp => m ih args h kv kp) (fnS F f) (callHS F hk n) args (encH h) kv kp) = .good := hg
    revert hg
    cases fnS F f with
    | mk m => exact fun hg => hg
   exact fnS_le hn ih h1
end Go.Ev.Sp
namespace Go.Ev
open Go
theorem HRel.addRO {E : Emb} {h : H} {w : World} (hr : HRel E h w) {i : Id} (hf : h.blk i = .free) (hnw : ∀ j, ¬ Wr h j) (hnl : ∀ j k, ¬ Linked h j k) {L : Loc} {c : Cells} {n : Nat} (hlt : L.blk < w.heap.size) (hb : BlkRel (E.set i L) w L (.live c n true [])) :
  HRel (E.set i L) (h.put i (.live c n true [])) w ∧ ∀ j, ¬ Wr (h.put i (.live c n true [])) j := by
 have hEi : E i = none := (hr.dom i).2 hf
 have hw : ∀ j, ¬ Wr (h.put i (.live c n true [])) j := by
  intro j hj
  unfold Wr at hj
  by_cases e : i = j
  ·subst e; rw [blk_put_same] at hj; simp at hj
  ·rw [blk_put_ne h e] at hj
   exact hnw j (by unfold Wr; exact hj)
 have hl : ∀ j k, ¬ Linked (h.put i (.live c n true [])) j k := by
  rintro j k ⟨c', n', x, a, e, hm⟩
  by_cases ek : i = k
  ·subst ek; rw [blk_put_same] at e; cases e; simp at hm
  ·rw [blk_put_ne h ek] at e
   exact hnl j k ⟨c', n', x, a, e, hm⟩
 refine ⟨⟨fun j => ?_, fun j Lj e => ?_, fun j Lj e => ?_, fun j k Lj Lk _ _ _ _ _ _ hwj => absurd hwj (hw j), fun j k hk => absurd hk (hl j k), fun j k hk => absurd hk (hl j k), fun j k Lj Lk cj nj xj aj ck nk xk ak _ _ _ hk hm => absurd ⟨ck, nk, xk, ak, hk, hm⟩ (hl j k)⟩, hw⟩
 ·by_cases e : j = i
  ·subst e; rw [Emb.set_same, blk_put_same]; simp
  ·rw [Emb.set_ne E e, blk_put_ne h (Ne.symm e)]; exact hr.dom j
 ·by_cases ej : j = i
  ·subst ej; rw [Emb.set_same] at e; cases e; exact hlt
  ·rw [Emb.set_ne E ej] at e; exact hr.lt j Lj e
 ·by_cases ej : j = i
  ·subst ej; rw [Emb.set_same] at e; cases e; rw [blk_put_same]; exact hb
  ·rw [Emb.set_ne E ej] at e; rw [blk_put_ne h (Ne.symm ej)]; exact (hr.rel j Lj e).mono (Emb.le_set hEi)
theorem heapOf_noLink {ss : List Sl} (h : slsOk ss = true) (nx : Nat) (i j : Id) : ¬ Linked (heapOf nx ss) i j := by
 rintro ⟨c, n, x, a, e, hm⟩
 rw [heapOf_blk h] at e
 rcases blkAt_cases h (fun _ => 0) (fun _ => 0) j with ⟨e', _⟩ | ⟨s, _, c', e', _⟩ | ⟨s, _, d, e', _⟩ <;> rw [e'] at e <;> cases e <;> simp at hm
end Go.Ev
namespace Go.Ev.Sp
open Go Go.Ev
noncomputable def runMS (F : Cf) (hk : FuncId → Option Hook) (nx : Nat) (ss : List Sl) (g m : Nat) (n : Nat) (f : FuncId) (args : V) (ck : V → R) : R :=
 initS nx ss fun h => fromL (.cons (.int .i64 m) .nil) fun c q => putS h (Go.Ev.Id.ofNat g) (fun _ _ L _ _ _ => L c q true []) fun h => callHS F hk n f args h (fun v _ => ck v) fun _ _ => .bad
theorem runMS_sound {F : Cf} (hF : FOk F) (hN : NamesOk F) {hk : FuncId → Option Hook} (hh : ∀ f k, hk f = some k → HookOk F.P F.gl f k) {nx : Nat} {ss : List Sl} (hss : slsOk ss = true) {g m : Nat} (hg9 : g ≤ 32767) (hgs : ∀ s ∈ ss, s.g ≠ g ∧ s.r ≠ g) (hgl : ∀ k ∈ F.gl, k = g ∨ ∃ s ∈ ss, s.g = k)
  {n : Nat} {f : FuncId} {args : V} {ck : V → R} (hrun : runMS F hk nx ss g m n f args ck = .good) {rb off : Sl → Nat} {w : World} {xs : List Value} (hl : Laid ss rb off w) {C : Array Value} {el : TypeId} (hw : w.heap[g]? = some (.cells C el (0, 0))) (hm : m < kmod .i64) (hc : C[0]? = some (.int .i64 (toInt .i64 m))) (ha : RelL (fun _ => none) args xs) :
  (∃ fn, F.P.funcs[f]? = some fn ∧ fn.body.isSome = true ∧ fn.name ≠ "runtime.NumGoroutine") ∧ Calls F.P f xs.toArray w fun en w' => ∃ x, en = .returned x ∧ (∃ E v, Rel E v x ∧ ck v = .good) ∧ KeepsW w w' := by
 have hg := initS_le hrun
 obtain ⟨c, q, hp, hg⟩ := fromL_le hg
 rw [putLive_enc] at hg
 have hblk : blkOfList [.int .i64 m] = some (c, q) := hp
 obtain ⟨b1, b2, b3⟩ := blk_cells hblk
 have hfree : (heapOf nx ss).blk (Go.Ev.Id.ofNat g) = .free := by
  rw [heapOf_blk hss]
  have gen : ∀ tt : List Sl, (∀ t ∈ tt, t ∈ ss) → blkAt tt (Go.Ev.Id.ofNat g) = .free := by
   intro tt
   induction tt with
   | nil => intro _; rfl
   | cons t tt ih =>
    intro hsub
    have ht := hsub t (List.mem_cons_self ..)
    have ok : slOk t = true := by unfold slsOk at hss; rw [Bool.and_eq_true] at hss; exact List.all_eq_true.1 hss.1 t ht
    obtain ⟨_, _, _, _, _, _, o1, o2⟩ := slOk_out ok
    show (open Classical in if Go.Ev.Id.ofNat g = Go.Ev.Id.ofNat t.g then _ else if Go.Ev.Id.ofNat g = Go.Ev.Id.ofNat t.r then _ else blkAt tt (Go.Ev.Id.ofNat g)) = _
    rw [if_neg (fun e => (hgs t ht).1 (Id.ofNat_inj hg9 o1 e).symm), if_neg (fun e => (hgs t ht).2 (Id.ofNat_inj hg9 o2 e).symm)]
    exact ih fun t ht => hsub t (List.mem_cons_of_mem _ ht)
  exact gen ss fun t ht => ht
 have hglt := (Array.getElem?_eq_some_iff.1 hw).1
 have hC0 := (Array.getElem?_eq_some_iff.1 hc).1
 have hq1 : q = 1 := b1
 obtain ⟨hR, hW⟩ := HRel.addRO (laid_HRel hss nx hl) hfree (heapOf_noWr hss nx) (heapOf_noLink hss nx) (L := ⟨g, 0, 0, 0⟩) (c := c) (n := q) hglt
  ⟨b2, C, el, hw, by simp only; omega, ⟨by simp, .inl rfl⟩, fun o ho => by
   have : o = 0 := by omega
   subst this
   rw [b3 0 _ rfl]
   exact ⟨rfl, _, by simpa using hc, (show Rel _ (.int .i64 m) _ by unfold Rel; exact ⟨hm, rfl⟩)⟩⟩
 rcases callHS_le hN hk n _ _ _ _ _ hg with ⟨v, h', e1, hv⟩ | ⟨v, h', e1, hv⟩
 ·have key := callH_ok hF hh n f args _ _ w xs hR (fun k hk => by
   rcases hgl k hk with rfl | ⟨s, hs, rfl⟩
   ·exact ⟨_, Emb.set_same _ _ _, rfl, rfl⟩
   ·have ok : slOk s = true := by unfold slsOk at hss; rw [Bool.and_eq_true] at hss; exact List.all_eq_true.1 hss.1 s hs
    obtain ⟨_, _, _, _, _, _, o1, o2⟩ := slOk_out ok
    exact ⟨_, by rw [Emb.set_ne _ (fun e => (hgs s hs).1 (Id.ofNat_inj o1 hg9 e))]; exact (emb_row hss hs).2, rfl, rfl⟩) (ha.mono (none_le _))
  rw [e1] at key
  refine ⟨key.1, key.2.mono fun en w' hp => ?_⟩
  obtain ⟨E', x, e2, hRun, hr⟩ := hp
  exact ⟨x, e2, ⟨E', v, hr, hv⟩, noWr_keeps hW hRun⟩
 ·exact (bad_ne hv).elim
end Go.Ev.Sp
