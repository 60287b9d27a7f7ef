/- The contracts of the functions that the runs do not step through. -/
import Derived.Test.YtgljaemmheolfaaGreatDoorSpC
import Derived.Lib.Bytealg
import Derived.Lib.Index
import Derived.Test.YtgljaemmheolfaaGreatDoorEvC
import Derived.Test.YtgljaemmheolfaaGreatDoorProg
import Derived.WalkKit
import Derived.OwnWalk
import Derived.TacticsInMore
import Derived.LoopTactic
import Derived.Deep.AppendSrc
import Derived.Maps.OwnOps
import Derived.Maps.RangeWalk
import Derived.Deep.Upon
import Derived.Maps.RangeRun
import Derived.Lib.ConvBytes
import Derived.Laws.Externs
import Derived.Shelf.Strings.Search2
set_option linter.all false
namespace Go.Ev
open Go
def TermC (w : World) : Nat → Nat → Nat → Prop
 | 0, _, _ => False
 | k + 1, b, o => (∃ C el, w.heap[b]? = some (.cells C el (0, 0))) ∧ ∃ kd bd, w.cell? ⟨b, o, none⟩ = some (.int .i64 kd) ∧ w.cell? ⟨b, o + 3, none⟩ = some (.pointer bd) ∧
   ((∃ b' o', bd = some ⟨b', o', none⟩ ∧ TermC w k b' o') ∨ (bd = none ∧ ∃ so len cap, w.cell? ⟨b, o + 2, none⟩ = some (.slice so len cap) ∧ len ≤ 15 ∧ ∀ q < len, ∃ sb sf b' o', so = some ⟨sb, sf, none⟩ ∧ w.cell? ⟨sb, sf + q, none⟩ = some (.pointer (some ⟨b', o', none⟩)) ∧ TermC w k b' o'))
def RootC (w : World) (k b o : Nat) : Prop :=
 (∃ C el, w.heap[b]? = some (.cells C el (0, 0))) ∧ ∃ kd so len cap, w.cell? ⟨b, o, none⟩ = some (.int .i64 kd) ∧ w.cell? ⟨b, o + 2, none⟩ = some (.slice so len cap) ∧ w.cell? ⟨b, o + 3, none⟩ = some (.pointer none) ∧
   len ≤ 15 ∧ ∀ q < len, ∃ sb sf b' o', so = some ⟨sb, sf, none⟩ ∧ w.cell? ⟨sb, sf + q, none⟩ = some (.pointer (some ⟨b', o', none⟩)) ∧ TermC w k b' o'
theorem leastH {p : Nat → Prop} (h : ∃ k, p k) : ∃ k, p k ∧ ∀ j, p j → k ≤ j := by
 obtain ⟨k, hk⟩ := h
 induction k using Nat.strongRecOn with
 | _ k ih =>
  by_cases hj : ∃ j, j < k ∧ p j
  ·obtain ⟨j, hj, hp⟩ := hj; exact ih j hj hp
  ·exact ⟨k, hk, fun j hp => Nat.le_of_not_lt fun hl => hj ⟨j, hl, hp⟩⟩
def TermV (w : World) (v : Value) (k : Nat) : Prop := ∃ b o, v = .pointer (some ⟨b, o, none⟩) ∧ TermC w k b o
noncomputable def heightOf (w : World) (v : Value) : Nat :=
 open Classical in if h : ∃ k, TermV w v k then Classical.choose (leastH h) else 0
theorem heightOf_spec {w : World} {k b o : Nat} (h : TermC w k b o) : heightOf w (.pointer (some ⟨b, o, none⟩)) ≤ k ∧ TermC w (heightOf w (.pointer (some ⟨b, o, none⟩))) b o := by
 have hx : ∃ k, TermV w (.pointer (some ⟨b, o, none⟩)) k := ⟨k, b, o, rfl, h⟩
 have key := Classical.choose_spec (leastH hx)
 unfold heightOf
 rw [dif_pos hx]
 obtain ⟨⟨b', o', e, ht⟩, hmin⟩ := key
 cases e
 exact ⟨hmin k ⟨b, o, rfl, h⟩, ht⟩
theorem KeepsW.cell {w w' : World} (hk : KeepsW w w') {a : Addr} {v : Value} (h : w.cell? a = some v) : w'.cell? a = some v := by
 have hlt : a.block < w.heap.size := by
  unfold World.cell? at h
  split at h
  ·rename_i hh
   exact (Array.getElem?_eq_some_iff.1 hh).1
  ·cases h
 unfold World.cell? at h ⊢
 rw [hk.old _ hlt]
 exact h
end Go.Ev
namespace Go.Ev
open Go
theorem slC_of {E : Emb} {h : H} {w : World} (hr : HRel E h w) {sz len : Nat} {s : V} {g : Nat → V} (hs : SlA h sz s len g) {x : Value} (hx : Rel E s x) :
  ∃ so cap, x = .slice so len cap ∧ len ≤ 32768 ∧ ∀ q < len * sz, ∃ sb sf v, so = some ⟨sb, sf, none⟩ ∧ w.cell? ⟨sb, sf + q, none⟩ = some v ∧ Rel E (g q) v := by
 rcases hs with ⟨rfl, rfl⟩ | ⟨j, eo, cap, d, m, y, b, rfl, hb, hle, rfl⟩
 ·simp only [Rel] at hx
  subst hx
  exact ⟨none, 0, rfl, Nat.zero_le _, fun q hq => by omega⟩
 ·simp only [Rel] at hx
  obtain ⟨L, a, c, hL, _, hc0, hlc, h32, rfl⟩ := hx
  refine ⟨some a, c, rfl, h32, fun q hq => ?_⟩
  have hmul : (eo + len) * sz = eo * sz + len * sz := Nat.add_mul _ _ _
  obtain ⟨_, v, hv, hrel⟩ := hr.cell hL hb (o := eo * sz + q) (by omega)
  rcases hc0 with h0 | rfl
  ·have : len = 0 := by omega
   subst this; omega
  ·exact ⟨_, _, v, rfl, by rw [Nat.add_assoc]; exact hv, hrel⟩
theorem termC_of {E : Emb} {h : H} {w : World} (hr : HRel E h w) : ∀ (k : Nat) (v : V) (x : Value), TermA h k v → Rel E v x → ∃ b o, x = .pointer (some ⟨b, o, none⟩) ∧ TermC w k b o
 | 0, v, x, ht, _ => ht.elim
 | k + 1, v, x, ht, hx => by
  obtain ⟨i, o, c, n, y, a, kd, rfl, hb, ho, h0, hkk⟩ := ht
  simp only [Rel] at hx
  obtain ⟨L, hL, rfl⟩ := hx
  refine ⟨_, _, rfl, ?_⟩
  have hbr := hr.rel i L hL
  rw [hb] at hbr
  obtain ⟨_, C, el, hC, _, _, _⟩ := hbr
  obtain ⟨_, v0, e0, r0⟩ := hr.cell hL hb (o := o) (by omega)
  obtain ⟨_, v2, e2, r2⟩ := hr.cell hL hb (o := o + 2) (by omega)
  obtain ⟨_, v3, e3, r3⟩ := hr.cell hL hb (o := o + 3) (by omega)
  rw [← Nat.add_assoc] at e2 e3
  rw [h0] at r0
  simp only [Rel] at r0
  obtain ⟨_, rfl⟩ := r0
  refine ⟨⟨C, el, hC⟩, ?_⟩
  rcases hkk with ⟨j, p, h3, hj⟩ | ⟨h3, len, g, hsl, hlen, hq⟩
  ·rw [h3] at r3
   obtain ⟨b', o', hp, ht'⟩ := termC_of hr k _ _ hj r3
   subst hp
   exact ⟨_, _, e0, e3, .inl ⟨b', o', rfl, ht'⟩⟩
  ·rw [h3] at r3
   simp only [Rel] at r3
   subst r3
   obtain ⟨so, cap, rfl, _, hcells⟩ := slC_of hr hsl r2
   refine ⟨_, none, e0, e3, .inr ⟨rfl, so, len, cap, e2, hlen, fun q hql => ?_⟩⟩
   obtain ⟨sb, sf, v', e4, e5, r5⟩ := hcells q (by omega)
   obtain ⟨b', o', rfl, ht'⟩ := termC_of hr k _ _ (hq q hql) r5
   exact ⟨sb, sf, b', o', e4, e5, ht'⟩
structure OthC (w0 : World) (b o : Nat) (n : Int) where
 so : Option Addr
 ls : Nat
 cs : Nat
 oo : Option Addr
 lo : Nat
 co : Nat
 uo : Option Addr
 lu : Nat
 cu : Nat
 mf : Nat
 es : Array MapEntry
 cl : Nat
 c1 : w0.cell? ⟨b, o + 1, none⟩ = some (.slice so ls cs)
 c6 : w0.cell? ⟨b, o + 6, none⟩ = some (.slice oo lo co)
 c9 : w0.cell? ⟨b, o + 9, none⟩ = some (.slice uo lu cu)
 c8 : w0.cell? ⟨b, o + 8, none⟩ = some (.map (some mf))
 hm : w0.heap[mf]? = some (.map es cl)
 bs : ls ≤ 32768
 bo : lo ≤ 32768
 bu : lu ≤ 32768
 outer : ∀ q < lu, ∃ ub uf k, uo = some ⟨ub, uf, none⟩ ∧ w0.cell? ⟨ub, uf + q, none⟩ = some (.int .i64 k) ∧ (k = n ∨ ∃ (j ob of b' o' : Nat), k = (j : Int) ∧ j < lo ∧ oo = some ⟨ob, of, none⟩ ∧ w0.cell? ⟨ob, of + j, none⟩ = some (.pointer (some ⟨b', o', none⟩)) ∧ TermC w0 10 b' o')
 syms : ∀ q < ls, ∃ sb sf t0 kd i2 i3, so = some ⟨sb, sf, none⟩ ∧ w0.cell? ⟨sb, sf + q * 4, none⟩ = some (.string t0) ∧ w0.cell? ⟨sb, sf + q * 4 + 1, none⟩ = some (.int .i64 kd) ∧ w0.cell? ⟨sb, sf + q * 4 + 2, none⟩ = some (.int .i64 i2) ∧ w0.cell? ⟨sb, sf + q * 4 + 3, none⟩ = some (.int .i64 i3) ∧
  (kd = 8 → ∃ (ob of b' o' : Nat), q < lo ∧ oo = some ⟨ob, of, none⟩ ∧ w0.cell? ⟨ob, of + q, none⟩ = some (.pointer (some ⟨b', o', none⟩)) ∧ TermC w0 10 b' o')
 ents : ∀ e ∈ es.toList, e.born < cl ∧ ∃ b' o', e.val = .pointer (some ⟨b', o', none⟩) ∧ TermC w0 10 b' o'
theorem othC_of {E : Emb} {h : H} {w : World} (hr : HRel E h w) {args : V} {xs : List Value} (ha : OthA h args) (hx : RelL E args xs) :
  ∃ b o n, xs = [.pointer (some ⟨b, o, none⟩), .int .i64 n] ∧ Nonempty (OthC w b o n) := by
 obtain ⟨i, o, n, c, m, x, a, ls, lo, lu, gs, go, gu, mf, es, cl, rfl, hb, ho, s1, s6, s9, h8, hmf, k1, k2, k3⟩ := ha
 simp only [RelL, Rel] at hx
 obtain ⟨x1, r, ⟨L, hL, rfl⟩, ⟨x2, r2, ⟨hn, rfl⟩, rfl, rfl⟩, rfl⟩ := hx
 refine ⟨L.blk, L.base + o, toInt .i64 n, rfl, ?_⟩
 obtain ⟨_, v1, e1, r1⟩ := hr.cell hL hb (o := o + 1) (by omega)
 obtain ⟨_, v6, e6, r6⟩ := hr.cell hL hb (o := o + 6) (by omega)
 obtain ⟨_, v9, e9, r9⟩ := hr.cell hL hb (o := o + 9) (by omega)
 obtain ⟨_, v8, e8, r8⟩ := hr.cell hL hb (o := o + 8) (by omega)
 rw [← Nat.add_assoc] at e1 e6 e9 e8
 obtain ⟨so, cs, rfl, bs, hs⟩ := slC_of hr s1 r1
 obtain ⟨oo, co, rfl, bo, hof⟩ := slC_of hr s6 r6
 obtain ⟨uo, cu, rfl, bu, hou⟩ := slC_of hr s9 r9
 rw [h8] at r8
 simp only [Rel] at r8
 obtain ⟨Lm, hLm, rfl⟩ := r8
 have hbm := hr.rel mf Lm hLm
 rw [hmf] at hbm
 obtain ⟨es', hes, hent⟩ := hbm
 have term : ∀ q, q < lo → TermA h 10 (go q) → ∃ (ob of b' o' : Nat), oo = some ⟨ob, of, none⟩ ∧ w.cell? ⟨ob, of + q, none⟩ = some (.pointer (some ⟨b', o', none⟩)) ∧ TermC w 10 b' o' := by
  intro q hq ht
  obtain ⟨sb, sf, v, z1, z2, z3⟩ := hof q (by omega)
  obtain ⟨b', o', rfl, ht'⟩ := termC_of hr 10 _ _ ht z3
  exact ⟨sb, sf, b', o', z1, z2, ht'⟩
 refine ⟨⟨so, ls, cs, oo, lo, co, uo, lu, cu, Lm.blk, es', cl, e1, e6, e9, e8, hes, bs, bo, bu, fun q hq => ?_, fun q hq => ?_, fun e he => ?_⟩⟩
 ·obtain ⟨k, hk, hkk⟩ := k1 q hq
  obtain ⟨ub, uf, v, z1, z2, z3⟩ := hou q (by omega)
  rw [hk] at z3
  simp only [Rel] at z3
  obtain ⟨_, rfl⟩ := z3
  refine ⟨ub, uf, _, z1, z2, ?_⟩
  rcases hkk with rfl | ⟨hlt, ht⟩
  ·exact .inl rfl
  ·obtain ⟨ob, of, b', o', y1, y2, y3⟩ := term k hlt ht
   refine .inr ⟨k, ob, of, b', o', ?_, hlt, y1, y2, y3⟩
   have h1 : khalf .i64 = 9223372036854775808 := rfl
   unfold toInt
   rw [h1, if_neg (by omega)]
 ·obtain ⟨⟨a1, a2, k2', k3', g0, g2, g3⟩, kd, hk, hkk⟩ := k2 q hq
  obtain ⟨sb, sf, v0, z1, z2, z3⟩ := hs (q * 4) (by omega)
  obtain ⟨sb1, sf1, v1, y1, y2, y3⟩ := hs (q * 4 + 1) (by omega)
  obtain ⟨sb2, sf2, v2, x1, x2, x3⟩ := hs (q * 4 + 2) (by omega)
  obtain ⟨sb3, sf3, v3, u1, u2, u3⟩ := hs (q * 4 + 3) (by omega)
  rw [z1] at y1 x1 u1
  cases y1; cases x1; cases u1
  rw [hk] at y3
  rw [g0] at z3
  rw [g2] at x3
  rw [g3] at u3
  simp only [Rel] at y3 z3 x3 u3
  obtain ⟨hkl, rfl⟩ := y3
  obtain ⟨_, t0, _, _, rfl⟩ := z3
  obtain ⟨_, rfl⟩ := x3
  obtain ⟨_, rfl⟩ := u3
  refine ⟨sb, sf, t0, _, _, _, z1, z2, by rw [Nat.add_assoc]; exact y2, by rw [Nat.add_assoc]; exact x2, by rw [Nat.add_assoc]; exact u2, fun h8 => ?_⟩
  have h1 : khalf .i64 = 9223372036854775808 := rfl
  have h2 : kmod .i64 = 18446744073709551616 := rfl
  have hk8 : kd = 8 := by
   unfold toInt at h8
   rw [h1, h2] at h8
   rw [h2] at hkl
   split at h8 <;> omega
  obtain ⟨hlt, ht⟩ := hkk hk8
  obtain ⟨ob, of, b', o', w1, w2, w3⟩ := term q hlt ht
  exact ⟨ob, of, b', o', hlt, w1, w2, w3⟩
 ·have gen : ∀ (es : List (V × V × Nat)) (es' : List MapEntry), EntRel E es es' → (∀ e ∈ es, TermA h 10 e.2.1 ∧ e.2.2 < cl) → ∀ e ∈ es', e.born < cl ∧ ∃ b' o', e.val = .pointer (some ⟨b', o', none⟩) ∧ TermC w 10 b' o' := by
   intro es
   induction es with
   | nil => intro es' he _ e hm; simp only [EntRel] at he; subst he; exact nomatch hm
   | cons p es ih =>
    intro es' he hall e hm
    obtain ⟨k, v, bn⟩ := p
    obtain ⟨x, y, r, q1, q2, q3, rfl⟩ := he
    rcases List.mem_cons.1 hm with rfl | hm
    ·obtain ⟨t1, t2⟩ := hall _ (List.mem_cons_self ..)
     obtain ⟨b', o', rfl, t3⟩ := termC_of hr 10 _ _ t1 q2
     exact ⟨t2, b', o', rfl, t3⟩
    ·exact ih r q3 (fun e he => hall e (List.mem_cons_of_mem _ he)) e hm
  exact gen es es'.toList hent k3 e he
theorem idxB_ok (c : UInt8) : ∀ (l : List UInt8) (i : Nat), i + l.length ≤ 1000000000 →
  idxB c.toNat l.length i (strBits l) < 18446744073709551616 ∧ toInt .i64 (idxB c.toNat l.length i (strBits l)) = if Lib.indexByte l c = -1 then -1 else (i : Int) + Lib.indexByte l c
 | [], i, _ => by
  refine ⟨by simp [idxB], ?_⟩
  have h1 : khalf .i64 = 9223372036854775808 := rfl
  have h2 : kmod .i64 = 18446744073709551616 := rfl
  simp only [List.length_nil, idxB, Lib.indexByte, if_true]
  unfold toInt
  rw [h1, h2]
  simp
 | b :: l, i, hl => by
  have h1 : khalf .i64 = 9223372036854775808 := rfl
  simp only [List.length_cons, strBits, idxB]
  have hb : b.toNat < 256 := b.toNat_lt
  have e1 : Nat.mod (b.toNat + 256 * strBits l) 256 = b.toNat := by show (b.toNat + 256 * strBits l) % 256 = _; omega
  have e2 : Nat.div (b.toNat + 256 * strBits l) 256 = strBits l := by show (b.toNat + 256 * strBits l) / 256 = _; omega
  rw [e1, e2]
  simp only [List.length_cons] at hl
  unfold Lib.indexByte
  cases hbc : Nat.beq b.toNat c.toNat with
  | true =>
   have : b = c := UInt8.toNat_inj.1 (Nat.eq_of_beq_eq_true hbc)
   subst this
   simp only [beq_self_eq_true, if_true]
   refine ⟨by omega, ?_⟩
   unfold toInt
   rw [h1, if_neg (by omega)]
   simp
  | false =>
   have hne : (b == c) = false := by
    rw [beq_eq_false_iff_ne]
    rintro rfl
    rw [Nat.beq_refl] at hbc
    exact nomatch hbc
   obtain ⟨k1, k2⟩ := idxB_ok c l (i + 1) (by omega)
   refine ⟨k1, ?_⟩
   dsimp only
   rw [k2, hne]
   have hge := Lib.indexByte_ge l c
   by_cases hm : Lib.indexByte l c = -1
   ·simp [hm]
   ·have : (Lib.indexByte l c == -1) = false := by rw [beq_eq_false_iff_ne]; exact hm
    simp only [this, hm, if_false, Bool.false_eq_true]
    rw [if_neg (by omega)]
    omega
theorem prefix_bits (sub l : List UInt8) : sub.isPrefixOf l = (Nat.ble sub.length l.length && Nat.beq (Nat.mod (strBits l) (p256 sub.length)) (strBits sub)) := by
 rw [Bool.eq_iff_iff, List.isPrefixOf_iff_prefix, List.prefix_iff_eq_take, Bool.and_eq_true, Nat.ble_eq, Nat.beq_eq]
 constructor
 ·intro h
  have hl := congrArg List.length h
  rw [List.length_take] at hl
  refine ⟨by omega, ?_⟩
  rw [show Nat.mod (strBits l) (p256 sub.length) = strBits l % p256 sub.length from rfl, ← strBits_take, ← h]
 ·rintro ⟨h1, h2⟩
  refine strBits_inj (by rw [List.length_take]; omega) ?_
  rw [strBits_take]
  exact h2.symm
theorem idx2B_ok (sub : List UInt8) (hs : 1 ≤ sub.length) : ∀ (l : List UInt8) (i : Nat), i + l.length ≤ 1000000000 →
  idx2B sub.length (strBits sub) l.length i (strBits l) < 18446744073709551616 ∧ toInt .i64 (idx2B sub.length (strBits sub) l.length i (strBits l)) = if Lib.index l sub = -1 then -1 else (i : Int) + Lib.index l sub
 | [], i, _ => by
  refine ⟨by simp [idx2B], ?_⟩
  have h1 : khalf .i64 = 9223372036854775808 := rfl
  have h2 : kmod .i64 = 18446744073709551616 := rfl
  have he : sub.isEmpty = false := by cases sub with | nil => simp at hs | cons _ _ => rfl
  simp only [List.length_nil, idx2B, Lib.index, he, Bool.false_eq_true, if_false, if_true]
  unfold toInt
  rw [h1, h2]
  simp
 | b :: l, i, hl => by
  have h1 : khalf .i64 = 9223372036854775808 := rfl
  have hp := prefix_bits sub (b :: l)
  simp only [List.length_cons] at hp hl
  simp only [List.length_cons, idx2B]
  have e2 : Nat.div (strBits (b :: l)) 256 = strBits l := by
   have hb : b.toNat < 256 := b.toNat_lt
   show strBits (b :: l) / 256 = _
   simp only [strBits]
   omega
  rw [e2, ← hp]
  unfold Lib.index
  cases hb : sub.isPrefixOf (b :: l) with
  | true =>
   simp only [if_true]
   refine ⟨by omega, ?_⟩
   unfold toInt
   rw [h1, if_neg (by omega)]
   simp
  | false =>
   obtain ⟨k1, k2⟩ := idx2B_ok sub hs l (i + 1) (by omega)
   refine ⟨k1, ?_⟩
   dsimp only
   rw [k2]
   have hge := Lib.index_ge l sub
   by_cases hm : Lib.index l sub = -1
   ·simp [hm]
   ·have : (Lib.index l sub == -1) = false := by rw [beq_eq_false_iff_ne]; exact hm
    simp only [this, hm, if_false, Bool.false_eq_true]
    rw [if_neg (by omega)]
    omega
end Go.Ev
namespace Go.Proofs.Ow
open Go Go.RowKit Go.Ev
attribute [local go_sem] Oper.semAt_some
set_option maxRecDepth 100000 in
set_option maxHeartbeats 1000000 in
theorem find_ok (w0 : World) (k b o : Nat) (w : World) (ht : TermC w0 k b o) (hk : KeepsW w0 w) :
  Calls Tryz.prog 256 #[.pointer (some ⟨b, o, none⟩)] w fun en w' => w' = w ∧ ∃ b' o' k', en = .returned (.pointer (some ⟨b', o', none⟩)) ∧ k' < k ∧ RootC w0 k' b' o' := by
 go_enter Tryz.func256, Tryz.ntmps256
 go_wp2
 go_loop [0] (fun t => ∃ b o k', t = .pointer (some ⟨b, o, none⟩) ∧ k' ≤ k ∧ TermC w0 k' b o) (fun t => heightOf w0 t)
 case atStart => exact ⟨b, o, k, rfl, Nat.le_refl _, ht⟩
 case round =>
  obtain ⟨b1, o1, k1, rfl, hk1, ht1⟩ := hrel
  have hs := heightOf_spec ht1
  generalize hn : heightOf w0 (.pointer (some ⟨b1, o1, none⟩)) = n at hs
  obtain ⟨hs1, hs2⟩ := hs
  cases n with
  | zero => exact hs2.elim
  | succ n =>
   obtain ⟨hbl, kd, bd, c0, c3, hb⟩ := hs2
   have c3' := hk.cell c3
   rcases hb with ⟨b2, o2, rfl, ht2⟩ | ⟨rfl, so, len, cap, c2, hl, hq⟩
   ·go_wp2
    exact ⟨⟨b2, o2, n, rfl, by omega, ht2⟩, by rw [hn]; exact Nat.lt_succ_of_le (heightOf_spec ht2).1⟩
   ·go_wp2
    go_ret
    exact ⟨rfl, b1, o1, rfl, n, by omega, hbl, kd, so, len, cap, c0, c2, c3, hl, hq⟩
theorem u241 : Tryz.prog.underlying 241 = some (.map 215 4) := by kernel_rfl
theorem u215 : Tryz.prog.underlying 215 = some (.pointer 234) := by kernel_rfl
theorem c234 : Tryz.prog.cellsOf 234 = 4 := by kernel_rfl
theorem sk215 : skT Tryz.prog 215 = some .ptr := by kernel_rfl
theorem z4 : (Tryz.prog.info? 4).bind (·.zero) = some (.bool false) := by kernel_rfl
def MapC (w0 w : World) (m : Nat) : Prop :=
 ∃ es cl, w.heap[m]? = some (.map es cl) ∧ ∀ e ∈ es.toList, ∃ b o C el v, e.key = .pointer (some ⟨b, o, none⟩) ∧ w0.heap[b]? = some (.cells C el (0, 0)) ∧ e.val = .bool v
theorem ptr_equal {w : World} {b o c p : Nat} {C D : Array Value} {el el' : TypeId} (h1 : w.heap[b]? = some (.cells C el (0, 0))) (h2 : w.heap[c]? = some (.cells D el' (0, 0))) :
  (Op.equal 215 (.pointer (some ⟨b, o, none⟩)) (.pointer (some ⟨c, p, none⟩))).run Tryz.prog w = .ok (decide (b = c ∧ o = p)) w := by
 have key : ∀ n, (Op.equalIn (n + 1) 215 (.pointer (some ⟨b, o, none⟩)) (.pointer (some ⟨c, p, none⟩))).run Tryz.prog w = .ok (decide (b = c ∧ o = p)) w := by
  intro n
  simp only [Op.equalIn, Sem.run_bind, run_underlying u215, Result.andThen_ok, run_sizeOf_ne (by rw [c234]; decide : Tryz.prog.cellsOf 234 ≠ 0), c234, ne_eq, not_false_eq_true, if_true]
  by_cases he : b = c ∧ o = p
  ·obtain ⟨rfl, rfl⟩ := he
   simp [sameAddr]
  ·have hne : (⟨b, o, none⟩ : Addr) ≠ ⟨c, p, none⟩ := fun e => he (by cases e; exact ⟨rfl, rfl⟩)
   have := run_sameAddr_other (P := Tryz.prog) w hne h1 h2
   simpa [he] using this
 exact key 9999
theorem find_key {w0 w : World} (hk : KeepsW w0 w) {b o : Nat} {C : Array Value} {el : TypeId} (hb : w0.heap[b]? = some (.cells C el (0, 0))) :
  ∀ (es : List MapEntry) (i : Nat), (∀ e ∈ es, ∃ b o C el v, e.key = .pointer (some ⟨b, o, none⟩) ∧ w0.heap[b]? = some (.cells C el (0, 0)) ∧ e.val = .bool v) →
   ((Instr.findAsking 215 (.pointer (some ⟨b, o, none⟩)) es i).run Tryz.prog w = .ok none w) ∨ ∃ j e v, (Instr.findAsking 215 (.pointer (some ⟨b, o, none⟩)) es i).run Tryz.prog w = .ok (some (i + j, .bool v)) w ∧ es[j]? = some e ∧ e.key = .pointer (some ⟨b, o, none⟩)
 | [], i, _ => .inl (by simp [Instr.findAsking])
 | e :: es, i, hes => by
  obtain ⟨c, p, D, el', v, e1, e2, e3⟩ := hes e (List.mem_cons_self ..)
  have old : ∀ {q : Nat} {x}, w0.heap[q]? = some x → w.heap[q]? = some x := fun {q x} hx => by
   rw [hk.old _ (Array.getElem?_eq_some_iff.1 hx).1]; exact hx
  have hop := ptr_equal (o := o) (p := p) (old hb) (old e2)
  rw [← e1] at hop
  by_cases he : b = c ∧ o = p
  ·refine .inr ⟨0, e, v, ?_, rfl, ?_⟩
   ·simp only [Instr.findAsking, Sem.run_bind, hop, Result.andThen_ok]
    simp [he, e3]
   ·rw [e1, he.1, he.2]
  ·have hf : (Instr.findAsking 215 (.pointer (some ⟨b, o, none⟩)) (e :: es) i).run Tryz.prog w = (Instr.findAsking 215 (.pointer (some ⟨b, o, none⟩)) es (i + 1)).run Tryz.prog w := by
    simp only [Instr.findAsking, Sem.run_bind, hop, Result.andThen_ok]
    simp [he]
   rw [hf]
   rcases find_key hk hb es (i + 1) (fun e he => hes e (List.mem_cons_of_mem _ he)) with h | ⟨j, e', v', h, h1, h2⟩
   ·exact .inl h
   ·exact .inr ⟨j + 1, e', v', by rw [h, show i + 1 + j = i + (j + 1) from by omega], by simpa using h1, h2⟩
theorem look_ok {w0 w : World} (hk : KeepsW w0 w) {m b o : Nat} {C : Array Value} {el : TypeId} (hb : w0.heap[b]? = some (.cells C el (0, 0))) (hm : MapC w0 w m) :
  ∃ v, (Instr.lookup 241 (.map (some m)) (.pointer (some ⟨b, o, none⟩)) false).run Tryz.prog w = .ok (.bool v) w := by
 obtain ⟨es, cl, h1, h2⟩ := hm
 have hz : ∃ i, Tryz.prog.info? 4 = some i ∧ i.zero = some (.bool false) := by
  have := z4
  cases hi : Tryz.prog.info? 4 with
  | none => rw [hi] at this; exact nomatch this
  | some i => rw [hi] at this; exact ⟨i, rfl, this⟩
 obtain ⟨zi, hz1, hz2⟩ := hz
 have hck := fun em v => checkKey_sk (P := Tryz.prog) (w := w) sk215 em 9999 v
 rcases find_key hk (o := o) hb es.toList 0 h2 with h | ⟨j, e, v, h, _⟩
 ·exact ⟨false, by simp [Instr.lookup, run_underlying u241, Sem.run_bind, getObj, Sem.run, h1, hck, run_findKey_asking u215 h, run_zeroValue hz1 hz2]⟩
 ·exact ⟨v, by simp [Instr.lookup, run_underlying u241, Sem.run_bind, getObj, Sem.run, h1, hck, run_findKey_asking u215 h]⟩
theorem KeepsW.trans {w0 w w' : World} (h : KeepsW w0 w) (h' : KeepsW w w') : KeepsW w0 w' :=
 ⟨Nat.le_trans h.size h'.size, fun b hb => (h'.old b (Nat.lt_of_lt_of_le hb h.size)).trans (h.old b hb), h'.os.trans h.os, h'.out.trans h.out, h'.tape.trans h.tape⟩
theorem put_ok {w0 w : World} (hk : KeepsW w0 w) {m b o : Nat} {C : Array Value} {el : TypeId} (hb : w0.heap[b]? = some (.cells C el (0, 0))) (hm0 : w0.heap.size ≤ m) (hm : MapC w0 w m) :
  ∃ ob, (Instr.mapUpdate 241 (.map (some m)) (.pointer (some ⟨b, o, none⟩)) (.bool true)).run Tryz.prog w = .ok () { w with heap := w.heap.setIfInBounds m ob } ∧
   KeepsW w0 { w with heap := w.heap.setIfInBounds m ob } ∧ MapC w0 { w with heap := w.heap.setIfInBounds m ob } m := by
 obtain ⟨es, cl, h1, h2⟩ := hm
 have hlt : m < w.heap.size := (Array.getElem?_eq_some_iff.1 h1).1
 have keeps : ∀ ob, KeepsW w0 { w with heap := w.heap.setIfInBounds m ob } := fun ob =>
  ⟨by simpa using hk.size, fun q hq => by
   show (w.heap.setIfInBounds m ob)[q]? = _
   rw [Array.getElem?_setIfInBounds, if_neg (by omega)]
   exact hk.old q hq, hk.os, hk.out, hk.tape⟩
 have hck := fun em v => checkKey_sk (P := Tryz.prog) (w := w) sk215 em 9999 v
 rcases find_key hk (o := o) hb es.toList 0 h2 with h | ⟨j, e, v, h, h3, h4⟩
 ·refine ⟨.map (es.push { key := .pointer (some ⟨b, o, none⟩), val := .bool true, born := cl }) (cl + 1), ?_, keeps _, ?_⟩
  ·simp [Instr.mapUpdate, run_underlying u241, Sem.run_bind, getObj, setObj, Sem.run, h1, hck, run_findKey_asking u215 h]
  ·refine ⟨_, _, by simp [hlt]; exact ⟨rfl, rfl⟩, fun x hx => ?_⟩
   rw [Array.toList_push] at hx
   rcases List.mem_append.1 hx with hx | hx
   ·exact h2 x hx
   ·simp only [List.mem_cons, List.not_mem_nil, or_false] at hx
    subst hx
    exact ⟨b, o, C, el, true, rfl, hb, rfl⟩
 ·have h3' : es[j]? = some e := by simpa using h3
  rw [Nat.zero_add] at h
  refine ⟨.map (es.modify j fun e => { e with key := .pointer (some ⟨b, o, none⟩), val := .bool true }) cl, ?_, keeps _, ?_⟩
  ·simp [Instr.mapUpdate, run_underlying u241, Sem.run_bind, getObj, setObj, Sem.run, h1, hck, run_findKey_asking u215 h, h3', Instr.keyThatStays, h4, Instr.sameBits]
  ·refine ⟨_, _, by simp [hlt]; exact ⟨rfl, rfl⟩, fun x hx => ?_⟩
   rw [Array.toList_modify] at hx
   obtain ⟨q, hq, hx⟩ := List.mem_iff_getElem.1 hx
   rw [List.getElem_modify] at hx
   split at hx
   ·subst hx
    exact ⟨b, o, C, el, true, rfl, hb, rfl⟩
   ·exact h2 x (hx ▸ List.getElem_mem _)
end Go.Proofs.Ow
namespace Go.Proofs.Ow
open Go Go.RowKit Go.Ev
theorem i215 : ∃ i, Tryz.prog.info? 215 = some i ∧ i.zero = some (.pointer none) ∧ i.size = 1 ∧ i.bytes = 8 := by
 have h : (Tryz.prog.info? 215).map (fun i => (i.zero, i.size, i.bytes)) = some (some (.pointer none), 1, 8) := by kernel_rfl
 cases hi : Tryz.prog.info? 215 with
 | none => rw [hi] at h; exact nomatch h
 | some i =>
  rw [hi] at h
  simp only [Option.map_some, Option.some.injEq, Prod.mk.injEq] at h
  exact ⟨i, rfl, h.1, h.2.1, h.2.2⟩
theorem u116 : Tryz.prog.underlying 116 = some (.slice 215) := by kernel_rfl
def OutC (w0 w : World) (m r L : Nat) (out : Value) : Prop :=
 (out = .slice none 0 0 ∧ L = 0) ∨ ∃ b cap C el, out = .slice (some ⟨b, 0, none⟩) L cap ∧ w0.heap.size ≤ b ∧ b ≠ m ∧ b ≠ r ∧ w.heap[b]? = some (.cells C el (0, 0)) ∧ cap ≤ C.size ∧ L ≤ cap ∧ ∀ q < L, ∃ v, C[q]? = some v ∧ v.oneCell' = true
theorem app_ok {w0 w : World} {m r L : Nat} {out : Value} {ob : Obj} (hr : w.heap[r]? = some ob) (hk : KeepsW w0 w) (hm : MapC w0 w m) (hm0 : w0.heap.size ≤ m) (ho : OutC w0 w m r L out) (hL : L ≤ 2199023255552) {bs : Nat} {x : Value} (hx : w.cell? ⟨bs, 0, none⟩ = some x) (h1 : x.oneCell' = true) (ty : TypeId) :
  ∃ y w', (Builtin.append_ #[116, 116] ty #[out, .slice (some ⟨bs, 0, none⟩) 1 1]).run Tryz.prog w = .ok y w' ∧ KeepsW w0 w' ∧ MapC w0 w' m ∧ OutC w0 w' m r (L + 1) y ∧ w'.heap[r]? = some ob := by
 obtain ⟨i, hi, hz, hs, hb⟩ := i215
 have hsrc : Src Tryz.prog i.size 116 (.slice (some ⟨bs, 0, none⟩) 1 1) 1 [x] w := by
  refine Src.ofSlice w u116 _ 1 1 [x] (by rw [hs]; rfl) (fun j u hj => ?_) (fun u hu => ?_)
  ·cases j with
   | zero => simp at hj; subst hj; exact hx
   | succ j => simp at hj
  ·simp at hu; subst hu; exact h1
 have mapKeep : ∀ (w' : World), w'.heap[m]? = w.heap[m]? → MapC w0 w' m := fun w' e => by
  obtain ⟨es, cl, e1, e2⟩ := hm
  exact ⟨es, cl, e.trans e1, e2⟩
 have hmlt : m < w.heap.size := by
  obtain ⟨es, cl, e1, e2⟩ := hm
  exact (Array.getElem?_eq_some_iff.1 e1).1
 have hrlt : r < w.heap.size := (Array.getElem?_eq_some_iff.1 hr).1
 have grow : ∀ (base : Option Addr) (sCap : Nat) (olds : List Value), out = .slice base L sCap → (Builtin.firstCells i.size L (.slice base L sCap)).run Tryz.prog w.drew = .ok olds.toArray w.drew → olds.length = L → (∀ v ∈ olds, v.oneCell' = true) → sCap < L + 1 →
   ∃ y w', (Builtin.append_ #[116, 116] ty #[out, .slice (some ⟨bs, 0, none⟩) 1 1]).run Tryz.prog w = .ok y w' ∧ KeepsW w0 w' ∧ MapC w0 w' m ∧ OutC w0 w' m r (L + 1) y ∧ w'.heap[r]? = some ob := by
  intro base sCap olds hout hold hol hone hlt
  have hap := run_append_grow_src (P := Tryz.prog) w 116 116 ty 215 i (.pointer none) u116 hi hz base L sCap olds hold (.slice (some ⟨bs, 0, none⟩) 1 1) 1 [x] hsrc hlt (by omega) (growslice_fits hlt (by rw [hb]; omega))
  have hcap := grownCap_ge w (L + 1) sCap 215
  obtain ⟨W, hap, hheap, e1, e2, e3⟩ : ∃ W, (Builtin.append_ #[116, 116] ty #[.slice base L sCap, .slice (some ⟨bs, 0, none⟩) 1 1]).run Tryz.prog w = .ok (.slice (some ⟨w.heap.size, 0, none⟩) (L + 1) (grownCap w (L + 1) sCap 215)) W ∧
   W.heap = w.heap.push (.cells ((olds ++ [x]).toArray ++ Builtin.zeroCells (Value.pointer none).cells (grownCap w (L + 1) sCap 215 - (L + 1))) 215 (0, 0)) ∧ W.os = w.os ∧ W.output = w.output ∧ W.tape = w.tape := ⟨_, hap, rfl, rfl, rfl, rfl⟩
  have hsz := hk.size
  have old : ∀ q, q < w.heap.size → W.heap[q]? = w.heap[q]? := fun q hq => by rw [hheap, Array.getElem?_push, if_neg (by omega)]
  have hlen : (olds ++ [x]).length = L + 1 := by simp [hol]
  refine ⟨_, W, by rw [hout]; exact hap, ⟨by rw [hheap, Array.size_push]; omega, fun q hq => (old q (by omega)).trans (hk.old q hq), e1.trans hk.os, e2.trans hk.out, e3.trans hk.tape⟩, mapKeep _ (old m hmlt),
   .inr ⟨w.heap.size, _, _, 215, rfl, hk.size, by omega, by omega, by rw [hheap]; simp; rfl, ?_, hcap, fun q hq => ?_⟩, (old r hrlt).trans hr⟩
  ·rw [Array.size_append, zeroCells_size, List.size_toArray, hlen]
   simp [Value.cells]
   omega
  ·rw [Array.getElem?_append_left (by simpa [hlen] using hq)]
   have : q < (olds ++ [x]).length := by omega
   refine ⟨(olds ++ [x])[q], by simp [this], ?_⟩
   rcases List.mem_append.1 (List.getElem_mem this) with h | h
   ·exact hone _ h
   ·simp only [List.mem_cons, List.not_mem_nil, or_false] at h
    rw [h]; exact h1
 rcases ho with ⟨rfl, rfl⟩ | ⟨b, cap, C, el, rfl, hb0, hbm, hbr, hC, hcs, hlc, hcells⟩
 ·exact grow none 0 [] rfl (Src.ofNil w (P := Tryz.prog) u116 0).cellsD rfl (fun v h => nomatch h) (by omega)
 ·by_cases hroom : L + 1 ≤ cap
  ·have hap := run_append_room_src (P := Tryz.prog) w 116 116 ty 215 i u116 hi b 0 L cap (.slice (some ⟨bs, 0, none⟩) 1 1) 1 [x] hsrc hroom (fun j hj => by
    simp only [List.length_cons, List.length_nil] at hj
    simp [World.cell?, hC, hs]; omega) (fun j hj => by simp [World.frozen?, hC])
   obtain ⟨C', hst2, hheap, hsize, hlo, hhi, o1, o2, o3⟩ := store_raw (P := Tryz.prog) (w := w) (xs := [x]) (o := 0 + L * i.size) hC (by rw [hs]; simp; omega) (fun u hu => by simp at hu; subst hu; exact h1)
   have hblt := (Array.getElem?_eq_some_iff.1 hC).1
   have old : ∀ q, q ≠ b → (w.setCells b (0 + L * i.size) [x]).heap[q]? = w.heap[q]? := fun q hq => by rw [hheap, Array.getElem?_setIfInBounds, if_neg (fun e => hq e.symm)]
   refine ⟨_, _, hap, ⟨by rw [hheap, Array.size_setIfInBounds]; exact hk.size, fun q hq => (old q (by omega)).trans (hk.old q hq), o1.trans hk.os, o2.trans hk.out, o3.trans hk.tape⟩, mapKeep _ (old m (fun e => hbm e.symm)),
    .inr ⟨b, cap, C', el, rfl, hb0, hbm, hbr, by rw [hheap]; simp [hblt], by omega, hroom, fun q hq => ?_⟩, (old r (fun e => hbr e.symm)).trans hr⟩
   by_cases hqL : q < L
   ·rw [hlo q (by rw [hs]; omega)]
    exact hcells q hqL
   ·have hq' : q = L := by omega
    subst hq'
    have := hhi 0 (by simp)
    rw [hs] at this
    simp only [Nat.zero_add, Nat.mul_one, Nat.add_zero, List.getElem?_cons_zero] at this
    exact ⟨x, this, h1⟩
  ·have hol : (C.toList.take L).length = L := by simp; omega
   have hone : ∀ v ∈ C.toList.take L, v.oneCell' = true := fun v hv => by
    obtain ⟨q, hq, e⟩ := List.mem_iff_getElem.1 hv
    rw [hol] at hq
    obtain ⟨v', h2, h3⟩ := hcells q hq
    have : v = v' := by
     rw [← e, List.getElem_take]
     have := (Array.getElem?_eq_some_iff.1 h2).2
     simpa using this
    rw [this]; exact h3
   refine grow (some ⟨b, 0, none⟩) cap (C.toList.take L) rfl ?_ hol hone (by omega)
   have hsl : Src Tryz.prog i.size 116 (.slice (some ⟨b, 0, none⟩) L cap) L (C.toList.take L) w := by
    refine Src.ofSlice w u116 _ L cap _ (by rw [hol, hs, Nat.mul_one]) (fun j u hj => ?_) hone
    have hjl := (List.getElem?_eq_some_iff.1 hj).1
    rw [hol] at hjl
    rw [addr_add, Nat.zero_add]
    obtain ⟨v', h2, h3⟩ := hcells j hjl
    have : u = v' := by
     have h4 := (Array.getElem?_eq_some_iff.1 h2).2
     have h5 := (List.getElem?_eq_some_iff.1 hj).2
     rw [List.getElem_take] at h5
     rw [← h5, ← h4]; simp
    subst this
    simp [World.cell?, hC, h2]
   exact hsl.cellsD
end Go.Proofs.Ow
namespace Go.Proofs.Ow
open Go Go.RowKit Go.Ev
attribute [local go_sem] Oper.semAt_some
theorem KeepsW.map {w0 w w' : World} {m : Nat} (hm : MapC w0 w m) (h : w'.heap[m]? = w.heap[m]?) : MapC w0 w' m := by
 obtain ⟨es, cl, e1, e2⟩ := hm
 exact ⟨es, cl, h.trans e1, e2⟩
theorem OutC.keep {w0 w w' : World} {m r L : Nat} {out : Value} (ho : OutC w0 w m r L out) (h : ∀ b, b ≠ m → b < w.heap.size → w'.heap[b]? = w.heap[b]?) : OutC w0 w' m r L out := by
 rcases ho with h1 | ⟨b, cap, C, el, h1, h2, h3, h3r, h4, h5⟩
 ·exact .inl h1
 ·exact .inr ⟨b, cap, C, el, h1, h2, h3, h3r, (h b h3 (Array.getElem?_eq_some_iff.1 h4).1).trans h4, h5⟩
theorem MapC.alloc {w0 w : World} {m : Nat} (hm : MapC w0 w m) (ob : Obj) : MapC w0 (w.alloc ob) m := by
 refine KeepsW.map hm ?_
 obtain ⟨es, cl, e1, e2⟩ := hm
 have := (Array.getElem?_eq_some_iff.1 e1).1
 simp only [World.alloc]
 rw [Array.getElem?_push, if_neg (by omega)]
theorem KeepsW.alloc' {w0 w : World} (hk : KeepsW w0 w) (ob : Obj) : KeepsW w0 (w.alloc ob) :=
 ⟨by have := hk.size; simp only [World.alloc, Array.size_push]; omega, fun q hq => by
  have := hk.size
  simp only [World.alloc]
  rw [Array.getElem?_push, if_neg (by omega)]
  exact hk.old q hq, hk.os, hk.out, hk.tape⟩
theorem OutC.alloc {w0 w : World} {m r L : Nat} {out : Value} (ho : OutC w0 w m r L out) (ob : Obj) : OutC w0 (w.alloc ob) m r L out :=
 ho.keep fun b _ hb => by
  simp only [World.alloc]
  rw [Array.getElem?_push, if_neg (by omega)]
theorem wpList_app {P : Program} {ops : Array Oper} {rest : List Oper} {o : Oper} {a : Act} {Q : Exit → Act → World → Prop} {w w' : World} {s x : Operand} {vo vx y : Value} (hgd : o.guard = none)
  (ho : o.op = .call { callee := .builtin .append, args := #[s, x], argTypes := #[116, 116] }) (hs : a.eval s = vo) (hx : a.eval x = vx) (hrun : (Builtin.append_ #[116, 116] o.type #[vo, vx]).run P w = .ok y w')
  (hK : wpList P ops Q rest (a.put o.dst y) w') : wpList P ops Q (o :: rest) a w := by
 refine wpList_plain hgd fun K hK' => ?_
 unfold Oper.wp
 simp [execOp, ho, resolve, invoke, builtin, hs, hx, hrun, Result.andThen]
 exact hK' _ _ hK
theorem cell_new {w : World} {x : Value} {t : TypeId} {b : Nat} (hb : b = w.heap.size) : (w.alloc (.cells #[x] t)).cell? ⟨b, 0, none⟩ = some x := by
 subst hb
 have h : (w.alloc (.cells #[x] t)).heap[w.heap.size]? = some (.cells #[x] t (0, 0)) := by simp only [World.alloc]; rw [Array.getElem?_push, if_pos rfl]
 unfold World.cell?
 rw [h]; rfl
theorem block_alloc {w : World} {r : Nat} {ob : Obj} (hr : w.heap[r]? = some ob) (ob' : Obj) : (w.alloc ob').heap[r]? = some ob := by
 have := (Array.getElem?_eq_some_iff.1 hr).1
 simp only [World.alloc]
 rw [Array.getElem?_push, if_neg (by omega)]
 exact hr
theorem var_facts {w0 w : World} {m r L b1 o1 : Nat} {out : Value} {C : Array Value} {el : TypeId} {obr : Obj} (hr : w.heap[r]? = some obr) (hrm : r ≠ m) (hk : KeepsW w0 w) (hm : MapC w0 w m) (hm0 : w0.heap.size ≤ m) (ho : OutC w0 w m r L out) (hL : L ≤ 2199023255552) (hb1 : w0.heap[b1]? = some (.cells C el (0, 0))) :
  ∃ v ob y w2, (Instr.lookup 241 (.map (some m)) (.pointer (some ⟨b1, o1, none⟩)) false).run Tryz.prog w = .ok (.bool v) w ∧
   (Instr.mapUpdate 241 (.map (some m)) (.pointer (some ⟨b1, o1, none⟩)) (.bool true)).run Tryz.prog w = .ok () { w with heap := w.heap.setIfInBounds m ob } ∧
   KeepsW w0 { w with heap := w.heap.setIfInBounds m ob } ∧ MapC w0 { w with heap := w.heap.setIfInBounds m ob } m ∧ OutC w0 { w with heap := w.heap.setIfInBounds m ob } m r L out ∧
   (Builtin.append_ #[116, 116] 116 #[out, .slice (some ⟨w.heap.size, 0, none⟩) 1 1]).run Tryz.prog (({ w with heap := w.heap.setIfInBounds m ob } : World).alloc (.cells #[.pointer (some ⟨b1, o1, none⟩)] 215)) = .ok y w2 ∧
   KeepsW w0 w2 ∧ MapC w0 w2 m ∧ OutC w0 w2 m r (L + 1) y ∧ w2.heap[r]? = some obr ∧ (w.heap.setIfInBounds m ob)[r]? = some obr := by
 obtain ⟨v, hv⟩ := look_ok hk (o := o1) hb1 hm
 obtain ⟨ob, hp, hk2, hm2⟩ := put_ok hk (o := o1) hb1 hm0 hm
 have ho2 : OutC w0 { w with heap := w.heap.setIfInBounds m ob } m r L out := ho.keep (fun b hb _ => by
  show (w.heap.setIfInBounds m ob)[b]? = _
  rw [Array.getElem?_setIfInBounds, if_neg (Ne.symm hb)])
 have hr2 : (w.heap.setIfInBounds m ob)[r]? = some obr := by rw [Array.getElem?_setIfInBounds, if_neg (Ne.symm hrm)]; exact hr
 obtain ⟨y, w2, hap, hk3, hm3, ho3, hr3⟩ := app_ok (block_alloc (w := { w with heap := w.heap.setIfInBounds m ob }) hr2 (.cells #[.pointer (some ⟨b1, o1, none⟩)] 215)) (KeepsW.alloc' hk2 (.cells #[.pointer (some ⟨b1, o1, none⟩)] 215)) (hm2.alloc _) hm0 (ho2.alloc _) hL (bs := w.heap.size) (x := .pointer (some ⟨b1, o1, none⟩)) (cell_new (by simp)) rfl 116
 exact ⟨v, ob, y, w2, hv, hp, hk2, hm2, ho2, hap, hk3, hm3, ho3, hr3, hr2⟩
set_option maxRecDepth 100000 in
set_option maxHeartbeats 2000000 in
theorem vars_ok (w0 : World) (m r : Nat) (obr : Obj) (hrm : r ≠ m) (hm0 : w0.heap.size ≤ m) (k : Nat) : ∀ (b o : Nat) (w : World) (out : Value) (L : Nat), TermC w0 k b o → k ≤ 10 → w.heap[r]? = some obr → KeepsW w0 w → MapC w0 w m → OutC w0 w m r L out → L + 16 ^ k ≤ 2199023255552 →
  Calls Tryz.prog 148 #[.pointer (some ⟨b, o, none⟩), .map (some m), out] w fun en w' => w'.heap[r]? = some obr ∧ KeepsW w0 w' ∧ MapC w0 w' m ∧ ∃ y L', en = .returned y ∧ OutC w0 w' m r L' y ∧ L' ≤ L + 16 ^ k := by
 induction k using Nat.strongRecOn with
 | _ k ih =>
  intro b o w out L ht hk10 hr hk hm ho hL
  go_enter Tryz.func148, Tryz.ntmps148
  go_wp2_with (first
   | (go_at_call 256; refine (find_ok w0 k b o _ ht hk).mono ?_; rintro e w1 ⟨rfl, b1, o1, k1, rfl, hk1, ⟨C, el, hb1⟩, kd, so, len, cap, c0, c2, c3, hlen, hkids⟩; obtain ⟨v, ob, y, w2, hv, hp, hk2, hm2, ho2, hap, hk3, hm3, ho3, hr3, hr2⟩ := var_facts (o1 := o1) hr hrm hk hm hm0 ho (Nat.le_trans (Nat.le_add_right _ _) hL) hb1; have d0 := hk2.cell c0; have d2 := hk2.cell c2; have d3 := hk2.cell c3)
   | (at_builtin; refine wpList_app rfl rfl rfl rfl hap ?_))
  ·go_ret
   exact ⟨hr, hk, hm, out, L, rfl, ho, Nat.le_add_right _ _⟩
  ·go_ret
   exact ⟨hr3, hk3, hm3, y, L + 1, rfl, ho3, Nat.add_le_add_left (Nat.one_le_pow _ _ (by decide)) _⟩
  ·skip
   have e1 : v = false := by assumption
   subst e1
   have e2 : (kd == 1) = false := by assumption
   rw [e2]
   have hX : 16 * 16 ^ k1 ≤ 16 ^ k := by rw [← Nat.pow_succ']; exact Nat.pow_le_pow_right (by decide) hk1
   go_loopw [2, 31] (fun s i wr => ∃ (q L' : Nat), i = .int .i64 q ∧ q ≤ len ∧ wr.heap[r]? = some obr ∧ KeepsW w0 wr ∧ MapC w0 wr m ∧ OutC w0 wr m r L' s ∧ L' ≤ L + q * 16 ^ k1) (fun _ i _ => len - (intOf i).toNat)
   case atStart => exact ⟨0, L, rfl, Nat.zero_le _, hr2, hk2, hm2, ho2, by omega⟩
   case round =>
    obtain ⟨q, L', rfl, hq, hr5, hk5, hm5, ho5, hL5⟩ := hrel
    by_cases hql : q < len
    ·obtain ⟨sb, sf, b', o', hso, hcell, hterm⟩ := hkids q hql
     subst hso
     have hcell5 := hk5.cell hcell
     have hqX : q * 16 ^ k1 ≤ 14 * 16 ^ k1 := Nat.mul_le_mul_right _ (by omega)
     go_wp2_with (go_at_call 148; refine (ih k1 hk1 b' o' _ _ L' hterm (by omega) hr5 hk5 hm5 ho5 (by omega)).mono ?_; rintro e w3 ⟨hr6, hk6, hm6, y6, L6, rfl, ho6, hL6⟩)
     go_roundw
     case rel => exact ⟨q + 1, L6, by go_num, by omega, hr6, hk6, hm6, ho6, by rw [Nat.add_mul]; omega⟩
     case measure => simp [intOf]; omega
    ·have hqe : q = len := by omega
     subst hqe
     go_wp2_with fail
     go_ret
     refine ⟨hr5, hk5, hm5, _, rfl, L', ho5, ?_⟩
     have : q * 16 ^ k1 ≤ 15 * 16 ^ k1 := Nat.mul_le_mul_right _ hlen
     omega
end Go.Proofs.Ow
namespace Go.Proofs.Ow
open Go Go.RowKit Go.Ev
attribute [local go_sem] Oper.semAt_some
theorem made_map (w : World) : MapC w (w.alloc (.map #[] 0)) w.heap.size :=
 ⟨#[], 0, by simp only [World.alloc]; rw [Array.getElem?_push, if_pos rfl], fun e he => nomatch he⟩
theorem keeps_refl (w : World) : KeepsW w w := ⟨Nat.le_refl _, fun _ _ => rfl, rfl, rfl, rfl⟩
theorem u118 : Tryz.prog.underlying 118 = some (.map 66 215) := by kernel_rfl
def iterLeft (es : Array MapEntry) (r : Nat) (w : World) : Nat := match w.heap[r]? with | some (.mapIter _ _ seen _) => (_root_.Go.leftOf es seen).size | _ => 0
theorem left_push (es : Array MapEntry) (seen : Array Nat) (e : MapEntry) (he : e ∈ (_root_.Go.leftOf es seen).toList) : (_root_.Go.leftOf es (seen.push e.born)).size < (_root_.Go.leftOf es seen).size := by
 have h : (_root_.Go.leftOf es (seen.push e.born)) = (_root_.Go.leftOf es seen).filter fun x => !(x.born == e.born) := by
  unfold _root_.Go.leftOf
  rw [Array.filter_filter]
  congr 1
  funext x
  simp only [Array.contains_push, Bool.not_or]
  rw [Bool.and_comm, Bool.beq_comm]
 have h2 := congrArg Array.toList h
 rw [Array.toList_filter] at h2
 rw [← Array.length_toList, ← Array.length_toList, h2]
 exact List.length_filter_lt_length_iff_exists.2 ⟨e, he, by simp⟩
theorem next_ok {w0 w : World} {m r mf cl : Nat} {es : Array MapEntry} {seen : Array Nat} (hmf : w0.heap[mf]? = some (.map es cl)) (hrm : r ≠ m) (hr0 : w0.heap.size ≤ r) (hri : w.heap[r]? = some (.mapIter (some mf) cl seen cl)) (hk : KeepsW w0 w) (hm : MapC w0 w m) (hold : ∀ x ∈ es.toList, x.born < cl) :
  ((Instr.next (.pointer (some ⟨r, 0, none⟩)) false 0).run Tryz.prog w = .ok (.tuple #[.bool false]) w) ∨
  ∃ e e' w2, e ∈ (_root_.Go.leftOf es seen).toList ∧ e' ∈ es.toList ∧ (Instr.next (.pointer (some ⟨r, 0, none⟩)) false 0).run Tryz.prog w = .ok (.tuple #[.bool true, e.key, e.val]) w2 ∧
   (Instr.entry (.pointer (some ⟨r, 0, none⟩))).run Tryz.prog w2 = .ok (.tuple #[e'.key, e'.val]) w2 ∧ w2.heap[r]? = some (.mapIter (some mf) cl (seen.push e.born) cl) ∧ KeepsW w0 w2 ∧ MapC w0 w2 m := by
 have hmlt : mf < w0.heap.size := (Array.getElem?_eq_some_iff.1 hmf).1
 have hmw : w.heap[mf]? = some (.map es cl) := (hk.old mf hmlt).trans hmf
 have hrlt : r < w.heap.size := (Array.getElem?_eq_some_iff.1 hri).1
 rcases run_next_at (P := Tryz.prog) w 0 r mf cl cl seen es cl hri hmw hold (Nat.le_refl _) with ⟨_, h⟩ | ⟨e, he, w1, hw1, h⟩
 ·exact .inl h
 ·right
  have e1 : w1.heap = w.heap := by rcases hw1 with rfl | rfl <;> rfl
  have e2 : w1.os = w.os ∧ w1.output = w.output ∧ w1.tape = w.tape := by rcases hw1 with rfl | rfl <;> exact ⟨rfl, rfl, rfl⟩
  obtain ⟨w2, hw2, h, hh, h3⟩ : ∃ w2, w2 = ChangeMaps.setBlock w1 r (.mapIter (some mf) cl (seen.push e.born) cl) ∧ (Instr.next (.pointer (some ⟨r, 0, none⟩)) false 0).run Tryz.prog w = .ok (.tuple #[.bool true, e.key, e.val]) w2 ∧ w2.heap = w.heap.setIfInBounds r (.mapIter (some mf) cl (seen.push e.born) cl) ∧ (w2.os = w.os ∧ w2.output = w.output ∧ w2.tape = w.tape) :=
   ⟨_, rfl, h, by simp [ChangeMaps.setBlock, e1], by simpa [ChangeMaps.setBlock] using e2⟩
  have hes : e ∈ es.toList := by
   have := he
   unfold _root_.Go.leftOf at this
   rw [Array.toList_filter] at this
   exact (List.mem_filter.1 this).1
  have old : ∀ q, q ≠ r → w2.heap[q]? = w.heap[q]? := fun q hq => by rw [hh, Array.getElem?_setIfInBounds, if_neg (Ne.symm hq)]
  have hr2 : w2.heap[r]? = some (.mapIter (some mf) cl (seen.push e.born) cl) := by rw [hh]; simp [hrlt]
  have hm2 : w2.heap[mf]? = some (.map es cl) := (old mf (by omega)).trans hmw
  obtain ⟨e', hf, he'⟩ : ∃ e', es.find? (·.born == e.born) = some e' ∧ e' ∈ es.toList := by
   cases hf : es.find? (·.born == e.born) with
   | none =>
    have := Array.find?_eq_none.1 hf e (by simpa using hes)
    simp at this
   | some e' => exact ⟨e', rfl, by simpa using Array.mem_of_find?_eq_some hf⟩
  refine ⟨e, e', w2, he, he', h, ?_, hr2, ⟨by rw [hh, Array.size_setIfInBounds]; exact hk.size, fun q hq => (old q (by omega)).trans (hk.old q hq), h3.1.trans hk.os, h3.2.1.trans hk.out, h3.2.2.trans hk.tape⟩, KeepsW.map hm (old m (Ne.symm hrm))⟩
  simp [Instr.entry, getObj, Sem.run_bind, Sem.run, hr2, hm2, hf]
set_option maxRecDepth 100000 in
set_option maxHeartbeats 4000000 in
theorem others_ok (w0 : World) (b o : Nat) (n : Int) (H : OthC w0 b o n) :
  Calls Tryz.prog 362 #[.pointer (some ⟨b, o, none⟩), .int .i64 n] w0 fun en w' => ∃ x, en = .returned x ∧ KeepsW w0 w' := by
 obtain ⟨so, ls, cs, oo, lo, co, uo, lu, cu, mf, es, cl, c1, c6, c9, c8, hm, bs, bo, bu, outer, syms, ents⟩ := H
 have vars : ∀ (r : Nat) (obr : Obj) (b' o' : Nat) (w : World), r ≠ w0.heap.size → w.heap[r]? = some obr → TermC w0 10 b' o' → KeepsW w0 w → MapC w0 w w0.heap.size → Calls Tryz.prog 148 #[.pointer (some ⟨b', o', none⟩), .map (some w0.heap.size), .slice none 0 0] w fun en w' => w'.heap[r]? = some obr ∧ KeepsW w0 w' ∧ MapC w0 w' w0.heap.size ∧ ∃ y, en = .returned y :=
  fun r obr b' o' w hrm hr ht hk hm => (vars_ok w0 w0.heap.size r obr hrm (Nat.le_refl _) 10 b' o' w (.slice none 0 0) 0 ht (Nat.le_refl _) hr hk hm (.inl ⟨rfl, rfl⟩) (by decide)).mono fun en w' hp => by
   obtain ⟨h0, h1, h2, y, L, h3, _⟩ := hp
   exact ⟨h0, h1, h2, y, h3⟩
 have hmlt : mf < w0.heap.size := (Array.getElem?_eq_some_iff.1 hm).1
 have old : ∀ (w : World), KeepsW w0 w → w.heap[mf]? = some (.map es cl) := fun w hk => (hk.old mf hmlt).trans hm
 have hmm := @run_makeMap Tryz.prog
 have hk1 := KeepsW.alloc' (keeps_refl w0) (.map #[] 0)
 have hm1 := made_map w0
 have d9 := hk1.cell c9
 go_enter Tryz.func362, Tryz.ntmps362
 go_wp2_with fail
 go_loopw [18] (fun i wr => ∃ q : Nat, i = .int .i64 q ∧ q ≤ lu ∧ KeepsW w0 wr ∧ MapC w0 wr w0.heap.size) (fun i _ => lu - (intOf i).toNat)
 case atStart => exact ⟨0, rfl, Nat.zero_le _, hk1, hm1⟩
 case round =>
  obtain ⟨q, rfl, hq, hk, hm2⟩ := hrel
  by_cases hql : q < lu
  ·obtain ⟨ub, uf, k, hu, hcell, hkk⟩ := outer q hql
   subst hu
   have e6 := hk.cell c6
   have ecell := hk.cell hcell
   rcases hkk with rfl | ⟨j, ob, of, b', o', rfl, hj, hoo, hcell2, hterm⟩
   ·go_wp2_with fail
    exact ⟨⟨q + 1, by simp, by omega, hk, hm2⟩, by simp [intOf]; omega⟩
   ·subst hoo
    have ecell2 := hk.cell hcell2
    go_wp2_with (go_at_call 148; refine (vars mf _ b' o' _ (by omega) (old _ hk) hterm hk hm2).mono ?_; rintro e w3 ⟨_, hk6, hm6, y6, rfl⟩)
    ·exact ⟨⟨q + 1, by simp, by omega, hk6, hm6⟩, by simp [intOf]; omega⟩
    ·exact ⟨⟨q + 1, by simp, by omega, hk, hm2⟩, by simp [intOf]; omega⟩
  ·have hqe : q = lu := by omega
   subst hqe
   have e1 := hk.cell c1
   go_wp2_with fail
   go_loopw [40] (fun i wr => ∃ q : Nat, i = .int .i64 q ∧ q ≤ ls ∧ KeepsW w0 wr ∧ MapC w0 wr w0.heap.size) (fun i _ => ls - (intOf i).toNat)
   case atStart => exact ⟨0, rfl, Nat.zero_le _, hk, hm2⟩
   case round =>
    obtain ⟨p, rfl, hp, hkb, hmb⟩ := hrel
    by_cases hpl : p < ls
    ·obtain ⟨sb, sf, t0, kd, i2, i3, hso, y0, y1, y2, y3, h8⟩ := syms p hpl
     subst hso
     have z0 := hkb.cell y0
     have z1 := hkb.cell y1
     have z2 := hkb.cell y2
     have z3 := hkb.cell y3
     have hka := KeepsW.alloc' hkb (.cells #[.string t0, .int .i64 kd, .int .i64 i2, .int .i64 i3] 137)
     have hma := hmb.alloc (.cells #[.string t0, .int .i64 kd, .int .i64 i2, .int .i64 i3] 137)
     have e6 := hka.cell c6
     by_cases hk8 : kd = 8
     ·obtain ⟨ob, of, b', o', hlt, hoo, y5, hterm⟩ := h8 hk8
      subst hoo
      subst hk8
      have z5 := hka.cell y5
      go_wp2_with (go_at_call 148; refine (vars mf _ b' o' _ (by omega) (old _ hka) hterm hka hma).mono ?_; rintro e w3 ⟨_, hk6, hm6, y6, rfl⟩)
      exact ⟨⟨p + 1, by simp, by omega, hk6, hm6⟩, by simp [intOf]; omega⟩
     ·have hk8' : (kd == 8) = false := by simpa using hk8
      go_wp2_with fail
      exact ⟨⟨p + 1, by simp, by omega, hka, hma⟩, by simp [intOf]; omega⟩
    ·have hpe : p = ls := by omega
     subst hpe
     have e8 := hkb.cell c8
     have hrange : (Instr.range 118 (.map (some mf))).run Tryz.prog wr = .ok (.pointer (some ⟨wr.heap.size, 0, none⟩)) (wr.alloc (.mapIter (some mf) cl #[] cl)) := by
      simp [Instr.range, run_underlying u118, Sem.run_bind, getObj, newObj, Sem.run, old wr hkb]
     have hkc := KeepsW.alloc' hkb (.mapIter (some mf) cl #[] cl)
     have hmc := hmb.alloc (.mapIter (some mf) cl #[] cl)
     have hrm : wr.heap.size ≠ w0.heap.size := by
      obtain ⟨es', cl', e1, _⟩ := hmb
      have := (Array.getElem?_eq_some_iff.1 e1).1
      omega
     have hrs := hkb.size
     have hr0 : (wr.alloc (.mapIter (some mf) cl #[] cl)).heap[wr.heap.size]? = some (.mapIter (some mf) cl #[] cl) := by simp only [World.alloc]; rw [Array.getElem?_push, if_pos rfl]
     generalize hrr : wr.heap.size = r at hrange hrm hr0 hrs
     go_wp2_with fail
     go_loopw [11] (fun _ wr => ∃ seen, wr.heap[r]? = some (.mapIter (some mf) cl seen cl) ∧ KeepsW w0 wr ∧ MapC w0 wr w0.heap.size) (fun _ wr => iterLeft es r wr)
     case atStart => exact ⟨#[], hr0, hkc, hmc⟩
     case round =>
      obtain ⟨seen, hri, hk7, hm7⟩ := hrel
      have hml : iterLeft es r wr = (_root_.Go.leftOf es seen).size := by unfold iterLeft; rw [hri]
      rcases next_ok hm hrm hrs hri hk7 hm7 (fun x hx => (ents x hx).1) with hn | ⟨e, e', w2, he, he', hn, hen, hr8, hk8, hm8⟩
      ·go_wp2_with fail
       go_ret
       exact ⟨_, rfl, hk7⟩
      ·obtain ⟨_, b', o', hv, hterm⟩ := ents e' he'
       rw [hv] at hen
       go_wp2_with (go_at_call 148; refine (vars r _ b' o' _ hrm hr8 hterm hk8 hm8).mono ?_; rintro en w3 ⟨hr9, hk9, hm9, y6, rfl⟩)
       have hml2 : iterLeft es r w3 = (_root_.Go.leftOf es (seen.push e.born)).size := by unfold iterLeft; rw [hr9]
       exact ⟨⟨_, hr9, hk9, hm9⟩, by rw [hml, hml2]; exact left_push es seen e he⟩
end Go.Proofs.Ow
namespace Go.Proofs.Ow
open Go Go.RowKit Go.Ev
attribute [local go_sem] Oper.semAt_some
theorem index_call (s : ByteArray) (c : Int) (w : World) : (callFunc 393 #[.string s, .int .u8 c]).run Tryz.prog w = .ok (.value (.int .i64 (Lib.indexByte s.data.toList c.toNat.toUInt8))) w := by
 rw [run_callFunc_extern (e := Extern.BytealgIndexByte.indexByte) Tryz.func393 (by kernel_rfl) (by kernel_rfl) (by kernel_rfl) (by kernel_rfl), Lib.run_indexByteString]
 rfl
theorem index_ok (s : ByteArray) (c : Int) (w : World) : Calls Tryz.prog 310 #[.string s, .int .u8 c] w fun en w' => en = .returned (.int .i64 (Lib.indexByte s.data.toList c.toNat.toUInt8)) ∧ w' = w := by
 have h := index_call s c w
 go_enter Tryz.func310, Tryz.ntmps310
 go_wp2
 go_ret
 exact ⟨rfl, rfl⟩
theorem idx_hook (gl : List Nat) : HookOk Tryz.prog gl 310 .idx := by
 intro args h E w xs v h' hr hg hx hv
 unfold hookV at hv
 dsimp only at hv
 split at hv
 ·rename_i n b c
  cases hv
  simp only [RelL, Rel] at hx
  obtain ⟨x1, r, ⟨hn, s, hs, hb, rfl⟩, ⟨x2, r2, ⟨hc, rfl⟩, rfl, rfl⟩, rfl⟩ := hx
  refine ⟨rfl, ⟨_, Tryz.func310, rfl, by decide +kernel⟩, (index_ok s _ w).mono fun en w' hp => ?_⟩
  obtain ⟨rfl, rfl⟩ := hp
  refine ⟨_, rfl, keeps_refl _, ?_⟩
  have hc' : c < 256 := hc
  have e0 : (toInt .u8 c) = (c : Int) := by
   have h1 : khalf .u8 = 0 := rfl
   unfold toInt
   rw [h1]; simp
  have e1 : ((toInt .u8 c).toNat.toUInt8).toNat = c := by
   rw [e0]
   simp
   omega
  have hl : s.data.toList.length = n := by rw [Array.length_toList]; exact hs
  obtain ⟨k1, k2⟩ := idxB_ok ((toInt .u8 c).toNat.toUInt8) s.data.toList 0 (by omega)
  rw [e1, hl, hb] at k1 k2
  simp only [Rel]
  refine ⟨k1, ?_⟩
  rw [k2]
  congr 1
  split
  ·rename_i hm; rw [hm]
  ·simp
 ·exact nomatch hv
theorem oth_hook (gl : List Nat) : HookOk Tryz.prog gl 362 .oth := by
 intro args h E w xs v h' hr hg hx hv
 unfold hookV at hv
 dsimp only at hv
 split at hv
 ·rename_i ha
  cases hv
  obtain ⟨b, o, n, rfl, ⟨H⟩⟩ := othC_of hr ha hx
  refine ⟨rfl, ⟨_, Tryz.func362, rfl, by decide +kernel⟩, (others_ok w b o n H).mono fun en w' hp => ?_⟩
  obtain ⟨x, rfl, hk⟩ := hp
  exact ⟨x, rfl, hk, by simp [Rel]⟩
 ·exact nomatch hv
set_option maxRecDepth 100000 in
set_option maxHeartbeats 8000000 in
theorem parse0 (w : World) : Calls Tryz.prog 515 #[.string ⟨#[48]⟩, .int .i64 10, .int .i64 64] w fun en w' => en = .returned (.tuple #[.int .u64 0, .nilIface]) ∧ KeepsW w w' := by
 have hcv := Lib.run_convert_string_bytes (P := Tryz.prog) w 9 507 5 ⟨#[48]⟩ (by kernel_rfl : Tryz.prog.underlying 9 = some .string) (by kernel_rfl : Tryz.prog.underlying 507 = some (.slice 5)) (by kernel_rfl)
 have hkeep : KeepsW w (Lib.bytesWorld w 5 ⟨#[48]⟩) := ⟨by rw [Lib.bytesWorld_size]; omega, fun b hb => Lib.bytesWorld_at_old w 5 _ b hb, rfl, rfl, rfl⟩
 have hcell : (Lib.bytesWorld w 5 ⟨#[48]⟩).cell? ⟨w.heap.size, 0, none⟩ = some (.int .u8 48) := Lib.bytesWorld_cell w 5 ⟨#[48]⟩ 0 (by decide)
 generalize Lib.bytesWorld w 5 ⟨#[48]⟩ = w1 at hcv hkeep hcell
 have hsz : (⟨#[48]⟩ : ByteArray).size = 1 := rfl
 rw [hsz] at hcv
 go_enter Tryz.func515, Tryz.ntmps515
 go_wp2_with fail
 go_loopw [12, 13, 101] (fun us n i wr => wr = w1 ∧ us = .bool false ∧ ((i = .int .i64 0 ∧ n = .int .u64 0) ∨ (i = .int .i64 1 ∧ n = .int .u64 0))) (fun _ _ i _ => 1 - (intOf i).toNat)
 case atStart => exact ⟨rfl, rfl, .inl ⟨rfl, rfl⟩⟩
 case round =>
  obtain ⟨rfl, rfl, ⟨rfl, rfl⟩ | ⟨rfl, rfl⟩⟩ := hrel
  ·go_wp2_with fail
   go_roundw
   case rel => exact ⟨trivial, by simp⟩
   case measure => simp [intOf]
  ·go_wp2_with fail
   go_ret2
   exact ⟨rfl, hkeep⟩
set_option maxRecDepth 100000 in
set_option maxHeartbeats 8000000 in
theorem parse1 (w : World) : Calls Tryz.prog 515 #[.string ⟨#[49]⟩, .int .i64 10, .int .i64 64] w fun en w' => en = .returned (.tuple #[.int .u64 1, .nilIface]) ∧ KeepsW w w' := by
 have hcv := Lib.run_convert_string_bytes (P := Tryz.prog) w 9 507 5 ⟨#[49]⟩ (by kernel_rfl : Tryz.prog.underlying 9 = some .string) (by kernel_rfl : Tryz.prog.underlying 507 = some (.slice 5)) (by kernel_rfl)
 have hkeep : KeepsW w (Lib.bytesWorld w 5 ⟨#[49]⟩) := ⟨by rw [Lib.bytesWorld_size]; omega, fun b hb => Lib.bytesWorld_at_old w 5 _ b hb, rfl, rfl, rfl⟩
 have hcell : (Lib.bytesWorld w 5 ⟨#[49]⟩).cell? ⟨w.heap.size, 0, none⟩ = some (.int .u8 49) := Lib.bytesWorld_cell w 5 ⟨#[49]⟩ 0 (by decide)
 generalize Lib.bytesWorld w 5 ⟨#[49]⟩ = w1 at hcv hkeep hcell
 have hsz : (⟨#[49]⟩ : ByteArray).size = 1 := rfl
 rw [hsz] at hcv
 go_enter Tryz.func515, Tryz.ntmps515
 go_wp2_with fail
 go_loopw [12, 13, 101] (fun us n i wr => wr = w1 ∧ us = .bool false ∧ ((i = .int .i64 0 ∧ n = .int .u64 0) ∨ (i = .int .i64 1 ∧ n = .int .u64 1))) (fun _ _ i _ => 1 - (intOf i).toNat)
 case atStart => exact ⟨rfl, rfl, .inl ⟨rfl, rfl⟩⟩
 case round =>
  obtain ⟨rfl, rfl, ⟨rfl, rfl⟩ | ⟨rfl, rfl⟩⟩ := hrel
  ·go_wp2_with fail
   go_roundw
   case rel => exact ⟨trivial, by simp⟩
   case measure => simp [intOf]
  ·go_wp2_with fail
   go_ret2
   exact ⟨rfl, hkeep⟩
def parseT : List (V × V) := [(.cons (.str 1 48) (.cons (.int .i64 10) (.cons (.int .i64 64) .nil)), .tup (.cons (.int .u64 0) (.cons .nili .nil))), (.cons (.str 1 49) (.cons (.int .i64 10) (.cons (.int .i64 64) .nil)), .tup (.cons (.int .u64 1) (.cons .nili .nil)))]
theorem one_byte {s : ByteArray} {d : Nat} (hd : d < 256) (hs : s.size = 1) (hb : strBits s.data.toList = d) : s = ⟨#[d.toUInt8]⟩ := by
 obtain ⟨⟨l⟩⟩ := s
 match l, hs, hb with
 | [a], _, hb =>
  simp only [strBits] at hb
  have : a = d.toUInt8 := UInt8.toNat_inj.1 (by simp; omega)
  rw [this]
theorem tab_hook (gl : List Nat) : HookOk Tryz.prog gl 515 (.tab parseT) := by
 intro args h E w xs v h' hr hg hx hv
 have key : ∀ (d n : Nat), d < 256 → args = .cons (.str 1 d) (.cons (.int .i64 10) (.cons (.int .i64 64) .nil)) → v = .tup (.cons (.int .u64 n) (.cons .nili .nil)) → n < 100 → (∀ w, Calls Tryz.prog 515 #[.string ⟨#[d.toUInt8]⟩, .int .i64 10, .int .i64 64] w fun en w' => en = .returned (.tuple #[.int .u64 n, .nilIface]) ∧ KeepsW w w') → h' = h →
   h' = h ∧ (∃ fn, Tryz.prog.funcs[515]? = some fn ∧ fn.body.isSome = true ∧ fn.name ≠ "runtime.NumGoroutine") ∧ Calls Tryz.prog 515 xs.toArray w fun en w' => ∃ x, en = .returned x ∧ KeepsW w w' ∧ Rel E v x := by
  intro d n hd ha hvv hn hc hh
  subst ha
  subst hvv
  simp only [RelL, Rel] at hx
  obtain ⟨x1, r, ⟨_, s, hs, hb, rfl⟩, ⟨x2, r2, ⟨_, rfl⟩, ⟨x3, r3, ⟨_, rfl⟩, rfl, rfl⟩, rfl⟩, rfl⟩ := hx
  rw [one_byte hd hs hb]
  refine ⟨hh, ⟨_, Tryz.func515, rfl, by decide +kernel⟩, (hc w).mono fun en w' hp => ?_⟩
  obtain ⟨rfl, hk⟩ := hp
  refine ⟨_, rfl, hk, ?_⟩
  simp only [Rel, RelL]
  have h1 : khalf .u64 = 0 := rfl
  have h2 : kmod .u64 = 18446744073709551616 := rfl
  refine ⟨_, ⟨_, _, ⟨by rw [h2]; omega, rfl⟩, ⟨_, _, rfl, rfl, rfl⟩, rfl⟩, ?_⟩
  unfold toInt
  rw [h1]
  simp
 unfold hookV at hv
 simp only [parseT, lookV] at hv
 split at hv
 ·rename_i v0 hl
  cases hv
  split at hl
  ·rename_i he
   cases hl
   exact key 48 0 (by decide) (V.eqb_eq he).symm rfl (by decide) parse0 rfl
  ·split at hl
   ·rename_i he
    cases hl
    exact key 49 1 (by decide) (V.eqb_eq he).symm rfl (by decide) parse1 rfl
   ·exact nomatch hl
 ·exact nomatch hv
end Go.Proofs.Ow
namespace Go.Proofs.Ow
open Go Go.RowKit Go.Ev Go.Proofs Go.Shelf
def renC : Ren := ⟨fun k => match k with | 217 => 310 | 219 => 488 | 224 => 391 | 225 => 392 | 266 => 393 | 267 => 540 | 314 => 580 | _ => 0, fun k => match k with | 3 => 3 | 4 => 4 | 5 => 5 | 9 => 9 | 46 => 419 | 51 => 482 | 146 => 566 | _ => 0, fun _ => 4⟩
theorem laysC : Lays.n219 Tryz.prog renC where
 mixed := by kernel_rfl
 f217 := by kernel_rfl
 f219 := by kernel_rfl
 f224 := by kernel_rfl
 f225 := by kernel_rfl
 f266 := by kernel_rfl
 f267 := by kernel_rfl
 f314 := by kernel_rfl
 t3 := by kernel_rfl
 a3 := fun w => by kernel_rfl
 z3 := fun w => by kernel_rfl
 v3 := fun w => by kernel_rfl
 t4 := by kernel_rfl
 a4 := fun w => by kernel_rfl
 z4 := fun w => by kernel_rfl
 v4 := fun w => by kernel_rfl
 t5 := by kernel_rfl
 a5 := fun w => by kernel_rfl
 z5 := fun w => by kernel_rfl
 v5 := fun w => by kernel_rfl
 t9 := by kernel_rfl
 a9 := fun w => by kernel_rfl
 z9 := fun w => by kernel_rfl
 v9 := fun w => by kernel_rfl
 t46 := by kernel_rfl
 a46 := fun w => by kernel_rfl
 z46 := fun w => by kernel_rfl
 v46 := fun w => by kernel_rfl
 t51 := by kernel_rfl
 a51 := fun w => by kernel_rfl
 z51 := fun w => by kernel_rfl
 v51 := fun w => by kernel_rfl
 t146 := by kernel_rfl
 a146 := fun w => by kernel_rfl
 z146 := fun w => by kernel_rfl
 v146 := fun w => by kernel_rfl
 g1 := by kernel_rfl
theorem ind_hook (gl : List Nat) (h4 : 4 ∈ gl) : HookOk Tryz.prog gl 488 (.ind 4) := by
 intro args h E w xs v h' hr hg hx hv
 unfold hookV at hv
 dsimp only at hv
 split at hv
 ·rename_i n b m c
  split at hv
  ·rename_i hc
   cases hv
   obtain ⟨⟨d, q, x, a, k, hb, hq, hk⟩, hm1, hn⟩ := hc
   obtain ⟨L, hL, hL1, hL2⟩ := hg 4 h4
   obtain ⟨_, y, hy, hry⟩ := hr.cell hL hb (o := 0) (by omega)
   rw [hk] at hry
   simp only [Rel] at hry
   obtain ⟨_, rfl⟩ := hry
   rw [hL1, hL2] at hy
   simp only [RelL, Rel] at hx
   obtain ⟨x1, r, ⟨_, s, hs, hsb, rfl⟩, ⟨x2, r2, ⟨_, u, hu, hub, rfl⟩, rfl, rfl⟩, rfl⟩ := hx
   have key := Any.stringslite_Index laysC s u _ w (by omega) hy
   refine ⟨rfl, ⟨_, Tryz.func488, rfl, by decide +kernel⟩, key.mono fun en w' hp => ?_⟩
   obtain ⟨rfl, rfl⟩ := hp
   refine ⟨_, rfl, ⟨Nat.le_refl _, fun _ _ => rfl, rfl, rfl, rfl⟩, ?_⟩
   have hl : s.data.toList.length = n := by rw [Array.length_toList]; exact hs
   have hl2 : u.data.toList.length = m := by rw [Array.length_toList]; exact hu
   obtain ⟨k1, k2⟩ := idx2B_ok u.data.toList (by omega) s.data.toList 0 (by omega)
   rw [hl, hl2, hsb, hub] at k1 k2
   simp only [Rel]
   refine ⟨k1, ?_⟩
   rw [k2]
   congr 1
   split
   ·rename_i hm; rw [hm]
   ·simp
  ·exact nomatch hv
 ·exact nomatch hv
end Go.Proofs.Ow
