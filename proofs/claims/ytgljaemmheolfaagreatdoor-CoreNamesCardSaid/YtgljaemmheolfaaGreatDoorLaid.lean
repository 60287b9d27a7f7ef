/- What the listed variables of the row say of the memory. -/
import Derived.Test.YtgljaemmheolfaaGreatDoorTop
import Derived.Test.YtgljaemmheolfaaGreatDoorRows
import Derived.ProofKit
import Derived.OpenShut
import Derived.LaidMore
import Derived.Lay
import Derived.SliceStrings
import Derived.Deep.Slices
import Derived.Deep.Strs
set_option linter.all false
namespace Go.Proofs.YtgljaemmheolfaaGreatDoor
open Go Go.Ev Go.RowKit Go.ChangeShapes Go.Deep
noncomputable section
def absL : DataW Unit → List V
 | .lit (.string bs) => [.str bs.length (strBits bs)]
 | .lit (.int k n) => [.int k (n % (kmod k : Int)).toNat]
 | .lit (.bool b) => [.bool b]
 | .agg l => absAll l
 | _ => []
where absAll : List (DataW Unit) → List V
 | [] => []
 | d :: l => absL d ++ absAll l
def elemsOf : DataW Unit → List (DataW Unit)
 | .slice l _ => l
 | _ => []
end
theorem absAll_cons (d : DataW Unit) (l : List (DataW Unit)) : absL.absAll (d :: l) = absL d ++ absL.absAll l := by simp only [absL.absAll]
theorem absAll_map1 : ∀ (l : List (DataW Unit)), (∀ d ∈ l, (absL d).length = 1) → ∀ (o : Nat) (v : V), (absL.absAll l)[o]? = some v → ∃ d, l[o]? = some d ∧ absL d = [v]
 | [], _, o, v, h => by simp [absL.absAll] at h
 | d :: l, hl, o, v, h => by
  rw [absAll_cons] at h
  have h1 := hl d (List.mem_cons_self ..)
  obtain ⟨a, ha⟩ := List.length_eq_one_iff.1 h1
  rw [ha] at h
  cases o with
  | zero => simp at h; subst h; exact ⟨d, rfl, ha⟩
  | succ o =>
   obtain ⟨e, he, hv⟩ := absAll_map1 l (fun d hd => hl d (List.mem_cons_of_mem _ hd)) o v (by simpa using h)
   exact ⟨e, by simpa using he, hv⟩
theorem absAll_map4 : ∀ (l : List (DataW Unit)), (∀ d ∈ l, (absL d).length = 4) → ∀ (o : Nat) (v : V), (absL.absAll l)[o]? = some v → ∃ d, l[o / 4]? = some d ∧ (absL d)[o % 4]? = some v
 | [], _, o, v, h => by simp [absL.absAll] at h
 | d :: l, hl, o, v, h => by
  rw [absAll_cons] at h
  have h1 := hl d (List.mem_cons_self ..)
  by_cases ho : o < 4
  ·rw [List.getElem?_append_left (by omega)] at h
   exact ⟨d, by rw [show o / 4 = 0 by omega]; rfl, by rw [show o % 4 = o by omega]; exact h⟩
  ·rw [List.getElem?_append_right (by omega), h1] at h
   obtain ⟨e, he, hv⟩ := absAll_map4 l (fun d hd => hl d (List.mem_cons_of_mem _ hd)) (o - 4) v h
   exact ⟨e, by rw [show o / 4 = (o - 4) / 4 + 1 by omega]; simpa using he, by rw [show o % 4 = (o - 4) % 4 by omega]; exact hv⟩
theorem absAll_len1 : ∀ (l : List (DataW Unit)), (∀ d ∈ l, (absL d).length = 1) → (absL.absAll l).length = l.length
 | [], _ => by simp [absL.absAll]
 | d :: l, h => by rw [absAll_cons, List.length_append, h d (List.mem_cons_self ..), absAll_len1 l (fun d hd => h d (List.mem_cons_of_mem _ hd)), List.length_cons, Nat.add_comm]
theorem absAll_len4 : ∀ (l : List (DataW Unit)), (∀ d ∈ l, (absL d).length = 4) → (absL.absAll l).length = 4 * l.length
 | [], _ => by simp [absL.absAll]
 | d :: l, h => by rw [absAll_cons, List.length_append, h d (List.mem_cons_self ..), absAll_len4 l (fun d hd => h d (List.mem_cons_of_mem _ hd)), List.length_cons]; omega
theorem rel_str {s : ByteArray} (hs : s.size ≤ 1000000000) : Rel (fun _ => none) (.str s.data.toList.length (strBits s.data.toList)) (.string s) := by
 simp only [Rel]
 have e : s.data.toList.length = s.size := by rw [Array.length_toList]; rfl
 exact ⟨by rw [e]; exact hs, s, e.symm, rfl, rfl⟩
set_option maxRecDepth 100000 in
theorem rel_int64 {n : Int} (hw : (Lit.int .i64 n).wf = true) : Rel (fun _ => none) (.int .i64 (n % (kmod .i64 : Int)).toNat) (.int .i64 n) := by
 simp only [Lit.wf, Bool.and_eq_true, decide_eq_true_eq] at hw
 have h1 : IntKind.min .i64 = -9223372036854775808 := by rfl
 have h2 : IntKind.max .i64 = 9223372036854775807 := by rfl
 rw [h1, h2] at hw
 simp only [Rel]
 have hk : kmod .i64 = 18446744073709551616 := rfl
 have hh : khalf .i64 = 9223372036854775808 := rfl
 refine ⟨by rw [hk]; omega, ?_⟩
 congr 1
 unfold toInt
 rw [hk, hh]
 split <;> omega
theorem cell_heap {w : World} {b o : Nat} {v : Value} {C : Array Value} {t : TypeId} (hh : w.heap[b]? = some (.cells C t (0, 0))) (hc : w.cell? ⟨b, o, none⟩ = some v) : C[o]? = some v := by
 simpa [World.cell?, hh] using hc
theorem spot_none {w : World} {a : Addr} {v : Value} (h : w.cell? a = some v) : a = ⟨a.block, a.off, none⟩ := by
 obtain ⟨b, o, s⟩ := a
 unfold World.cell? at h
 split at h
 ·split at h
  ·cases h
  ·cases s with
   | none => rfl
   | some x => rename_i hn; exact absurd rfl hn
 ·cases h
theorem add_none (b o i : Nat) : (⟨b, o, none⟩ : Addr).add i = ⟨b, o + i, none⟩ := by
 unfold Addr.add; split
 ·rename_i h; subst h; rfl
 ·rfl
theorem slab {w : World} {s : Sl} {b off : Nat} (hlen : 1 ≤ s.l.length) (fz : ∀ c, (∃ o, w.cell? ⟨c, o, none⟩ ≠ none) → c = s.g ∨ c = b → ∃ C t, w.heap[c]? = some (.cells C t (0, 0)))
  (h0 : w.cell? ⟨s.g, 0, none⟩ = some (.slice (some ⟨b, off, none⟩) s.len s.len)) (hc : ∀ o v, s.l[o]? = some v → ∃ x, w.cell? ⟨b, off + o, none⟩ = some x ∧ Rel (fun _ => none) v x) :
  (∃ C el, w.heap[s.g]? = some (.cells C el (0, 0)) ∧ C[0]? = some (.slice (some ⟨b, off, none⟩) s.len s.len)) ∧
  ∃ C el, w.heap[b]? = some (.cells C el (0, 0)) ∧ off + s.l.length ≤ C.size ∧ ∀ o v, s.l[o]? = some v → ∃ x, C[off + o]? = some x ∧ Rel (fun _ => none) v x := by
 obtain ⟨C, t, hC⟩ := fz s.g ⟨0, by rw [h0]; simp⟩ (.inl rfl)
 obtain ⟨x, hx, _⟩ := hc (s.l.length - 1) _ (List.getElem?_eq_getElem (by omega))
 obtain ⟨D, u, hD⟩ := fz b ⟨_, by rw [hx]; simp⟩ (.inr rfl)
 refine ⟨⟨C, t, hC, cell_heap hC h0⟩, D, u, hD, ?_, fun o v hv => ?_⟩
 ·have := (Array.getElem?_eq_some_iff.1 (cell_heap hD hx)).1
  omega
 ·obtain ⟨y, hy, hr⟩ := hc o v hv
  exact ⟨y, cell_heap hD hy, hr⟩
def laid11 : List (String × DataW Unit) := [("math/bits.deBruijn32tab", Rows.laid_math_bits_deBruijn32tab), ("math/bits.deBruijn64tab", Rows.laid_math_bits_deBruijn64tab), ("internal/strconv.uint64pow10", Rows.laid_internal_strconv_uint64pow10), ("unicode/utf8.acceptRanges", Rows.laid_unicode_utf8_acceptRanges), ("strconv.ErrRange", Rows.laid_strconv_ErrRange), ("strconv.ErrSyntax", Rows.laid_strconv_ErrSyntax), ("cspcheck/lexer.keywords", Rows.laid_cspcheck_lexer_keywords), ("cspcheck/lexer.symbols", Rows.laid_cspcheck_lexer_symbols), ("cspcheck/layout.closers", Rows.laid_cspcheck_layout_closers), ("cspcheck/scope.builtins", Rows.laid_cspcheck_scope_builtins), ("unicode/utf8.first", Rows.laid_unicode_utf8_first)]
theorem strs_slab {w : World} {ps : List MemPlace} (fz : ∀ b off, MemPlace.cell b off ∈ ps → ∃ C t, w.heap[b]? = some (.cells C t (0, 0))) {s : Sl} {name : String} {d : DataW Unit} {cs : Array Value} {fuel : Nat} {p : List MemPlace}
  (hu : Tryz.prog.underlying 207 = some (.slice 9)) (he : Tryz.prog.underlying 9 = some .string) (hc1 : Tryz.prog.cellsOf 9 = 1)
  (hg : Tryz.prog.globalNamed name = some s.g) (hv : w.var? Tryz.prog name = some cs) (hd : DataW.trod (fun _ => ()) Tryz.prog w 0 (fun _ => true) false fuel 207 cs.toList = some (d, p))
  (hps : ∀ x ∈ MemPlace.row ⟨s.g, 0, none⟩ cs.size ++ p, x ∈ ps) (hd0 : ∃ es, d = .slice es [] ∧ s.l = absL.absAll es ∧ s.len = es.length ∧ es.all (fun e => match e with | .lit (.string bs) => Nat.ble bs.length 1000000000 | _ => false) = true) (hlen : 1 ≤ s.l.length) :
  ∃ b off, (∃ C el, w.heap[s.g]? = some (.cells C el (0, 0)) ∧ C[0]? = some (.slice (some ⟨b, off, none⟩) s.len s.len)) ∧
  ∃ C el, w.heap[b]? = some (.cells C el (0, 0)) ∧ off + s.l.length ≤ C.size ∧ ∀ o v, s.l[o]? = some v → ∃ x, C[off + o]? = some x ∧ Rel (fun _ => none) v x := by
 obtain ⟨es, rfl, hl, hn, hall⟩ := hd0
 rcases open_strings hu he hc1 hd with ⟨_, hx⟩ | ⟨a, len, cap, ss, hcs, _, hlc, _, hss, hx, hcell, hsz⟩
 ·simp at hx
 simp only [Prod.mk.injEq, DataW.slice.injEq] at hx
 obtain ⟨⟨x1, x2⟩, x3⟩ := hx
 have hcap : ss.length = cap := by rw [hss]; simp
 have hdrop : ss.length ≤ len := by
  have : (strs (H := Unit) (ss.drop len)).length = 0 := by rw [← x2]; rfl
  simp [strs] at this
  omega
 have htake : ss.take len = ss := List.take_of_length_le hdrop
 rw [htake] at x1
 have hlen2 : es.length = ss.length := by rw [x1]; simp [strs]
 have hcl : cap = s.len := by omega
 have hll : len = s.len := by omega
 have hg0 : w.cell? ⟨s.g, 0, none⟩ = some (.slice (some a) s.len s.len) := by
  have := World.var?_cell hg hv 0
  rw [this]
  obtain ⟨l⟩ := cs
  simp at hcs
  subst hcs
  simp [hcl, hll]
 have hcs1 : cs.size = 1 := by
  obtain ⟨l⟩ := cs
  simp at hcs
  subst hcs; rfl
 have hel : ∀ d ∈ es, (absL d).length = 1 := by
  intro d hm
  rw [x1] at hm
  obtain ⟨t, _, rfl⟩ := List.mem_map.1 hm
  rfl
 have hlss : s.l.length = ss.length := by
  rw [hl, ← hlen2, absAll_len1 es hel]
 have hz : a = ⟨a.block, a.off, none⟩ := by
  have h1 := hcell 0 (by omega)
  rw [show a.add 0 = a from rfl] at h1
  exact spot_none h1
 refine ⟨a.block, a.off, slab hlen (fun c hc hcc => ?_) (by rw [← hz]; exact hg0) (fun o v ho => ?_)⟩
 ·rcases hcc with rfl | rfl
  ·exact fz s.g 0 (hps _ (List.mem_append_left _ (by rw [hcs1]; simp [MemPlace.row])))
  ·refine fz a.block a.off (hps _ (List.mem_append_right _ ?_))
   rw [x3]
   refine List.mem_map.2 ⟨0, by simp; omega, by simp⟩
 ·rw [hl] at ho
  obtain ⟨d, hd1, hd2⟩ := absAll_map1 es hel o v ho
  rw [x1] at hd1
  simp only [strs, List.getElem?_map, Option.map_eq_some_iff] at hd1
  obtain ⟨t, ht, rfl⟩ := hd1
  have hto := (List.getElem?_eq_some_iff.1 ht)
  have hlt : o < ss.length := hto.1
  have h1 := hcell o hlt
  have hsd : ss.getD o ByteArray.empty = t := by rw [List.getD, ht]; rfl
  rw [hsd, hz, add_none] at h1
  refine ⟨.string t, h1, ?_⟩
  have e : v = .str t.data.toList.length (strBits t.data.toList) := by
   have : absL (.lit (.string t.data.toList)) = [.str t.data.toList.length (strBits t.data.toList)] := rfl
   rw [this] at hd2
   simpa using hd2.symm
  rw [e]
  refine rel_str ?_
  have hm : (DataW.lit (.string t.data.toList) : DataW Unit) ∈ es := by rw [x1]; exact List.mem_map.2 ⟨t, List.mem_of_getElem? ht, rfl⟩
  have hb := List.all_eq_true.1 hall _ hm
  have := Nat.le_of_ble_eq_true hb
  have e2 : t.data.toList.length = t.size := by rw [Array.length_toList]; rfl
  omega
end Go.Proofs.YtgljaemmheolfaaGreatDoor
namespace Go.Proofs.YtgljaemmheolfaaGreatDoor
open Go Go.Ev Go.RowKit Go.ChangeShapes Go.Deep
def symOk (e : DataW Unit) : Bool := match e with | .agg [.lit (.string bs), .lit (.int .i64 _), .lit (.int .i64 _), .lit (.int .i64 _)] => Nat.ble bs.length 1000000000 | _ => false
theorem symOk_out {e : DataW Unit} (h : symOk e = true) : ∃ bs n1 n2 n3, e = .agg [.lit (.string bs), .lit (.int .i64 n1), .lit (.int .i64 n2), .lit (.int .i64 n3)] ∧ bs.length ≤ 1000000000 := by
 unfold symOk at h
 split at h
 ·exact ⟨_, _, _, _, rfl, Nat.le_of_ble_eq_true h⟩
 ·exact nomatch h
theorem absL_sym (bs : List UInt8) (n1 n2 n3 : Int) : absL (.agg [.lit (.string bs), .lit (.int .i64 n1), .lit (.int .i64 n2), .lit (.int .i64 n3)]) =
  [.str bs.length (strBits bs), .int .i64 (n1 % (kmod .i64 : Int)).toNat, .int .i64 (n2 % (kmod .i64 : Int)).toNat, .int .i64 (n3 % (kmod .i64 : Int)).toNat] := by
 simp only [absL, absL.absAll, List.cons_append, List.nil_append, List.append_nil]
set_option maxRecDepth 100000 in
theorem sym_cells {w : World} {fuel : Nat} {cs : List Value} {bs : List UInt8} {n1 n2 n3 : Int} {pl : List MemPlace}
  (hu : Tryz.prog.underlying 137 = some (.struct #[{ name := "Name", type := 9, offset := 0, embedded := false, tag := "", pkgPath := "", byteOffset := 0 }, { name := "Kind", type := 3, offset := 1, embedded := false, tag := "", pkgPath := "", byteOffset := 16 }, { name := "Node", type := 3, offset := 2, embedded := false, tag := "", pkgPath := "", byteOffset := 24 }, { name := "Arity", type := 3, offset := 3, embedded := false, tag := "", pkgPath := "", byteOffset := 32 }]))
  (h9 : Tryz.prog.underlying 9 = some .string) (h3 : Tryz.prog.underlying 3 = some (.int .i64)) (c9 : Tryz.prog.cellsOf 9 = 1) (c3 : Tryz.prog.cellsOf 3 = 1) (c72 : Tryz.prog.cellsOf 137 = 4)
  (h : DataW.trod (fun _ => ()) Tryz.prog w 0 (fun _ => true) false fuel 137 cs = some (.agg [.lit (.string bs), .lit (.int .i64 n1), .lit (.int .i64 n2), .lit (.int .i64 n3)], pl)) :
  ∃ s : ByteArray, s.data.toList = bs ∧ cs = [.string s, .int .i64 n1, .int .i64 n2, .int .i64 n3] ∧ (Lit.int .i64 n1).wf = true ∧ (Lit.int .i64 n2).wf = true ∧ (Lit.int .i64 n3).wf = true := by
 obtain ⟨xs, n, _, hx, hl, hlen, hf⟩ := DataW.trod_struct hu h
 rw [c72] at hl
 match cs, hl with
 | [v0, v1, v2, v3], _ =>
  match xs, hlen with
  | [x0, x1, x2, x3], _ =>
   have f0 : DataW.trod (fun _ => ()) Tryz.prog w 0 (fun _ => true) false n 9 (([v0, v1, v2, v3].drop 0).take (Tryz.prog.cellsOf 9)) = some x0 := hf 0 _ rfl
   have f1 : DataW.trod (fun _ => ()) Tryz.prog w 0 (fun _ => true) false n 3 (([v0, v1, v2, v3].drop 1).take (Tryz.prog.cellsOf 3)) = some x1 := hf 1 _ rfl
   have f2 : DataW.trod (fun _ => ()) Tryz.prog w 0 (fun _ => true) false n 3 (([v0, v1, v2, v3].drop 2).take (Tryz.prog.cellsOf 3)) = some x2 := hf 2 _ rfl
   have f3 : DataW.trod (fun _ => ()) Tryz.prog w 0 (fun _ => true) false n 3 (([v0, v1, v2, v3].drop 3).take (Tryz.prog.cellsOf 3)) = some x3 := hf 3 _ rfl
   rw [c9] at f0
   rw [c3] at f1 f2 f3
   simp only [List.map_cons, List.map_nil, Prod.mk.injEq, DataW.agg.injEq, List.cons.injEq, and_true] at hx
   obtain ⟨⟨e0, e1, e2, e3⟩, _⟩ := hx
   obtain ⟨s, a0, b0, _⟩ := DataW.trod_string h9 (show DataW.trod _ _ _ _ _ _ n 9 [v0] = some x0 from f0)
   obtain ⟨m1, a1, b1, w1⟩ := DataW.trod_int h3 (show DataW.trod _ _ _ _ _ _ n 3 [v1] = some x1 from f1)
   obtain ⟨m2, a2, b2, w2⟩ := DataW.trod_int h3 (show DataW.trod _ _ _ _ _ _ n 3 [v2] = some x2 from f2)
   obtain ⟨m3, a3, b3, w3⟩ := DataW.trod_int h3 (show DataW.trod _ _ _ _ _ _ n 3 [v3] = some x3 from f3)
   subst b0; subst b1; subst b2; subst b3
   simp only [DataW.lit.injEq, Lit.string.injEq, Lit.int.injEq, true_and] at e0 e1 e2 e3
   subst e1; subst e2; subst e3
   simp only [List.cons.injEq, and_true] at a0 a1 a2 a3
   subst a0; subst a1; subst a2; subst a3
   exact ⟨s, e0.symm, rfl, w1, w2, w3⟩
theorem syms_slab {w : World} {ps : List MemPlace} (fz : ∀ b off, MemPlace.cell b off ∈ ps → ∃ C t, w.heap[b]? = some (.cells C t (0, 0))) {s : Sl} {name : String} {d : DataW Unit} {cs : Array Value} {fuel : Nat} {p : List MemPlace}
  (hus : Tryz.prog.underlying 44 = some (.slice 137))
  (hu : Tryz.prog.underlying 137 = some (.struct #[{ name := "Name", type := 9, offset := 0, embedded := false, tag := "", pkgPath := "", byteOffset := 0 }, { name := "Kind", type := 3, offset := 1, embedded := false, tag := "", pkgPath := "", byteOffset := 16 }, { name := "Node", type := 3, offset := 2, embedded := false, tag := "", pkgPath := "", byteOffset := 24 }, { name := "Arity", type := 3, offset := 3, embedded := false, tag := "", pkgPath := "", byteOffset := 32 }]))
  (h9 : Tryz.prog.underlying 9 = some .string) (h3 : Tryz.prog.underlying 3 = some (.int .i64)) (c9 : Tryz.prog.cellsOf 9 = 1) (c3 : Tryz.prog.cellsOf 3 = 1) (c72 : Tryz.prog.cellsOf 137 = 4)
  (hg : Tryz.prog.globalNamed name = some s.g) (hv : w.var? Tryz.prog name = some cs) (hd : DataW.trod (fun _ => ()) Tryz.prog w 0 (fun _ => true) false fuel 44 cs.toList = some (d, p))
  (hps : ∀ x ∈ MemPlace.row ⟨s.g, 0, none⟩ cs.size ++ p, x ∈ ps) (hd0 : ∃ es, d = .slice es [] ∧ s.l = absL.absAll es ∧ s.len = es.length ∧ es.all symOk = true) (hlen : 1 ≤ s.l.length) :
  ∃ b off, (∃ C el, w.heap[s.g]? = some (.cells C el (0, 0)) ∧ C[0]? = some (.slice (some ⟨b, off, none⟩) s.len s.len)) ∧
  ∃ C el, w.heap[b]? = some (.cells C el (0, 0)) ∧ off + s.l.length ≤ C.size ∧ ∀ o v, s.l[o]? = some v → ∃ x, C[off + o]? = some x ∧ Rel (fun _ => none) v x := by
 obtain ⟨es, rfl, hl, hn, hall⟩ := hd0
 rcases open_slice hus hd with ⟨_, hx⟩ | ⟨a, len, cap, m, n, D, Pl, hcs, _, hlc, _, hm, hx, hel⟩
 ·simp at hx
 simp only [Prod.mk.injEq, DataW.slice.injEq] at hx
 obtain ⟨⟨x1, x2⟩, x3⟩ := hx
 simp only [if_true] at hm
 have hml : m - len = 0 := by
  have := congrArg List.length x2
  simpa using this.symm
 have hlen2 : es.length = len := by rw [x1]; simp
 have hcl : cap = s.len := by omega
 have hll : len = s.len := by omega
 have hg0 : w.cell? ⟨s.g, 0, none⟩ = some (.slice (some a) s.len s.len) := by
  have := World.var?_cell hg hv 0
  rw [this]
  obtain ⟨l⟩ := cs
  simp at hcs
  subst hcs
  simp [hcl, hll]
 have hcs1 : cs.size = 1 := by
  obtain ⟨l⟩ := cs
  simp at hcs
  subst hcs; rfl
 have hes : ∀ i (hi : i < es.length), es[i]? = some (D i) := by
  intro i hi
  rw [x1, List.getElem?_map, List.getElem?_range (by omega)]; rfl
 have h4 : ∀ d ∈ es, (absL d).length = 4 := by
  intro d hd
  obtain ⟨bs, n1, n2, n3, rfl, _⟩ := symOk_out (List.all_eq_true.1 hall d hd)
  rw [absL_sym]; rfl
 have hlss : s.l.length = 4 * len := by rw [hl, absAll_len4 es h4, hlen2]
 have cell : ∀ i, i < len → ∃ t n1 n2 n3, D i = .agg [.lit (.string t.data.toList), .lit (.int .i64 n1), .lit (.int .i64 n2), .lit (.int .i64 n3)] ∧ t.size ≤ 1000000000 ∧
   (Lit.int .i64 n1).wf = true ∧ (Lit.int .i64 n2).wf = true ∧ (Lit.int .i64 n3).wf = true ∧ ∀ j v, ([.string t, .int .i64 n1, .int .i64 n2, .int .i64 n3] : List Value)[j]? = some v → w.cell? ((a.add (i * 4)).add j) = some v := by
  intro i hi
  obtain ⟨cs', c1, c2⟩ := hel i (by omega)
  have hmem : D i ∈ es := List.mem_of_getElem? (hes i (by omega))
  obtain ⟨bs, n1, n2, n3, hD, hbs⟩ := symOk_out (List.all_eq_true.1 hall _ hmem)
  rw [hD] at c2
  obtain ⟨t, ht, hcs', w1, w2, w3⟩ := sym_cells hu h9 h3 c9 c3 c72 c2
  subst ht
  rw [c72] at c1
  obtain ⟨_, hlen', hcell⟩ := World.cells?_some c1
  refine ⟨t, n1, n2, n3, hD, ?_, w1, w2, w3, fun j v hj => ?_⟩
  ·have e2 : t.data.toList.length = t.size := by rw [Array.length_toList]; rfl
   omega
  ·rw [← hcs'] at hj
   have hjl := (List.getElem?_eq_some_iff.1 hj).1
   have := hcell j (by rw [hlen'] at hjl; exact hjl)
   rw [this]; exact hj
 have hz : a = ⟨a.block, a.off, none⟩ := by
  obtain ⟨t, n1, n2, n3, _, _, _, _, _, hc⟩ := cell 0 (by omega)
  have h1 := hc 0 _ rfl
  rw [show (a.add (0 * 4)).add 0 = a from rfl] at h1
  exact spot_none h1
 refine ⟨a.block, a.off, slab hlen (fun c hc hcc => ?_) (by rw [← hz]; exact hg0) (fun o v ho => ?_)⟩
 ·rcases hcc with rfl | rfl
  ·exact fz s.g 0 (hps _ (List.mem_append_left _ (by rw [hcs1]; simp [MemPlace.row])))
  ·refine fz a.block a.off (hps _ (List.mem_append_right _ ?_))
   rw [x3]
   refine List.mem_append_left _ (List.mem_map.2 ⟨0, by rw [c72]; simp; omega, by simp⟩)
 ·rw [hl] at ho
  obtain ⟨d, hd1, hd2⟩ := absAll_map4 es h4 o v ho
  have hil := (List.getElem?_eq_some_iff.1 hd1).1
  rw [hes _ hil] at hd1
  cases hd1
  obtain ⟨t, n1, n2, n3, hD, hts, w1, w2, w3, hc⟩ := cell (o / 4) (by omega)
  rw [hD, absL_sym] at hd2
  have hj : ∀ u, ([.string t, .int .i64 n1, .int .i64 n2, .int .i64 n3] : List Value)[o % 4]? = some u → w.cell? ⟨a.block, a.off + o, none⟩ = some u := by
   intro u hu
   have := hc (o % 4) u hu
   rw [hz, add_none, add_none] at this
   rw [show a.off + o = a.off + o / 4 * 4 + o % 4 by omega]
   exact this
  have h4 : o % 4 < 4 := Nat.mod_lt _ (by omega)
  generalize hq : o % 4 = q at hd2 hj h4
  match q, h4 with
  | 0, _ => cases hd2; exact ⟨_, hj _ rfl, rel_str hts⟩
  | 1, _ => cases hd2; exact ⟨_, hj _ rfl, rel_int64 w1⟩
  | 2, _ => cases hd2; exact ⟨_, hj _ rfl, rel_int64 w2⟩
  | 3, _ => cases hd2; exact ⟨_, hj _ rfl, rel_int64 w3⟩
theorem u33 : Tryz.prog.underlying 44 = some (.slice 137) := by kernel_rfl
theorem u22 : Tryz.prog.underlying 207 = some (.slice 9) := by kernel_rfl
theorem u9 : Tryz.prog.underlying 9 = some .string := by kernel_rfl
theorem u3 : Tryz.prog.underlying 3 = some (.int .i64) := by kernel_rfl
theorem u72 : Tryz.prog.underlying 137 = some (.struct #[{ name := "Name", type := 9, offset := 0, embedded := false, tag := "", pkgPath := "", byteOffset := 0 }, { name := "Kind", type := 3, offset := 1, embedded := false, tag := "", pkgPath := "", byteOffset := 16 }, { name := "Node", type := 3, offset := 2, embedded := false, tag := "", pkgPath := "", byteOffset := 24 }, { name := "Arity", type := 3, offset := 3, embedded := false, tag := "", pkgPath := "", byteOffset := 32 }]) := by kernel_rfl
theorem c9 : Tryz.prog.cellsOf 9 = 1 := by kernel_rfl
theorem c3 : Tryz.prog.cellsOf 3 = 1 := by kernel_rfl
theorem c72 : Tryz.prog.cellsOf 137 = 4 := by kernel_rfl
theorem gB : Tryz.prog.globalNamed "cspcheck/scope.builtins" = some 0 := by kernel_rfl
theorem gK : Tryz.prog.globalNamed "cspcheck/lexer.keywords" = some 1 := by kernel_rfl
theorem gC : Tryz.prog.globalNamed "cspcheck/layout.closers" = some 3 := by kernel_rfl
theorem gS : Tryz.prog.globalNamed "cspcheck/lexer.symbols" = some 2 := by kernel_rfl
theorem tB : (Tryz.prog.globals[0]?).map (·.type) = some 44 := by kernel_rfl
theorem tK : (Tryz.prog.globals[1]?).map (·.type) = some 207 := by kernel_rfl
theorem tC : (Tryz.prog.globals[3]?).map (·.type) = some 207 := by kernel_rfl
theorem tS : (Tryz.prog.globals[2]?).map (·.type) = some 207 := by kernel_rfl
theorem allK : (elemsOf Rows.laid_cspcheck_lexer_keywords).all (fun e => match e with | .lit (.string bs) => Nat.ble bs.length 1000000000 | _ => false) = true := by kernel_rfl
theorem allC : (elemsOf Rows.laid_cspcheck_layout_closers).all (fun e => match e with | .lit (.string bs) => Nat.ble bs.length 1000000000 | _ => false) = true := by kernel_rfl
theorem allS : (elemsOf Rows.laid_cspcheck_lexer_symbols).all (fun e => match e with | .lit (.string bs) => Nat.ble bs.length 1000000000 | _ => false) = true := by kernel_rfl
theorem allB : (elemsOf Rows.laid_cspcheck_scope_builtins).all symOk = true := by kernel_rfl
theorem shK : Rows.laid_cspcheck_lexer_keywords = .slice (elemsOf Rows.laid_cspcheck_lexer_keywords) [] := by kernel_rfl
theorem shC : Rows.laid_cspcheck_layout_closers = .slice (elemsOf Rows.laid_cspcheck_layout_closers) [] := by kernel_rfl
theorem lB : sl0.l = absL.absAll (elemsOf Rows.laid_cspcheck_scope_builtins) := by kernel_rfl
theorem lK : sl1.l = absL.absAll (elemsOf Rows.laid_cspcheck_lexer_keywords) := by kernel_rfl
theorem lS : sl2.l = absL.absAll (elemsOf Rows.laid_cspcheck_lexer_symbols) := by kernel_rfl
theorem lC : sl3.l = absL.absAll (elemsOf Rows.laid_cspcheck_layout_closers) := by kernel_rfl
theorem nB : sl0.len = (elemsOf Rows.laid_cspcheck_scope_builtins).length := by kernel_rfl
theorem nK : sl1.len = (elemsOf Rows.laid_cspcheck_lexer_keywords).length := by kernel_rfl
theorem nS : sl2.len = (elemsOf Rows.laid_cspcheck_lexer_symbols).length := by kernel_rfl
theorem nC : sl3.len = (elemsOf Rows.laid_cspcheck_layout_closers).length := by kernel_rfl
theorem shS : Rows.laid_cspcheck_lexer_symbols = .slice (elemsOf Rows.laid_cspcheck_lexer_symbols) [] := by kernel_rfl
theorem shB : Rows.laid_cspcheck_scope_builtins = .slice (elemsOf Rows.laid_cspcheck_scope_builtins) [] := by kernel_rfl
theorem len_pos {s : Sl} (h : s ∈ sls) : 1 ≤ s.l.length := by
 have h1 := sls_ok
 unfold slsOk at h1
 rw [Bool.and_eq_true] at h1
 obtain ⟨a, b, _, c, _⟩ := slOk_out (List.all_eq_true.1 h1.1 s h)
 rw [a]
 exact Nat.mul_pos b c
theorem laid_sls {w : World} (h : laidMetH Tryz.prog laid11 w) : ∃ rb off, Laid sls rb off w := by
 rw [MakeChecks.laidMetH_plain _ _ _ (by kernel_rfl)] at h
 obtain ⟨ps, ⟨_, _, _, _, _, _, _, _, _, _, ⟨_, _, _, _, _, _, _, _, _, _, ⟨_, _, _, _, _, _, _, _, _, _, ⟨_, _, _, _, _, _, _, _, _, _, ⟨_, _, _, _, _, _, _, _, _, _, ⟨_, _, _, _, _, _, _, _, _, _,
  ⟨g1, t1, cs1, f1, p1, q1, hg1, ht1, hv1, hd1, ⟨g2, t2, cs2, f2, p2, q2, hg2, ht2, hv2, hd2, ⟨g3, t3, cs3, f3, p3, q3, hg3, ht3, hv3, hd3, ⟨g0, t0, cs0, f0, p0, q0, hg0, ht0, hv0, hd0, _, e0⟩, e3⟩, e2⟩, e1⟩, z6⟩, z5⟩, z4⟩, z3⟩, z2⟩, z1⟩, _, fz⟩ := h
 obtain rfl := Option.some.inj (gK.symm.trans hg1)
 obtain rfl := Option.some.inj (gS.symm.trans hg2)
 obtain rfl := Option.some.inj (gC.symm.trans hg3)
 obtain rfl := Option.some.inj (gB.symm.trans hg0)
 obtain rfl := Option.some.inj (tK.symm.trans ht1)
 obtain rfl := Option.some.inj (tS.symm.trans ht2)
 obtain rfl := Option.some.inj (tC.symm.trans ht3)
 obtain rfl := Option.some.inj (tB.symm.trans ht0)
 have fz' : ∀ b off, MemPlace.cell b off ∈ ps → ∃ C t, w.heap[b]? = some (.cells C t (0, 0)) := fun b off hm => (fz b off hm).1
 have up : ∀ x, x ∈ MemPlace.row ⟨1, 0, none⟩ cs1.size ++ p1 ∨ x ∈ MemPlace.row ⟨2, 0, none⟩ cs2.size ++ p2 ∨ x ∈ MemPlace.row ⟨3, 0, none⟩ cs3.size ++ p3 ∨ x ∈ MemPlace.row ⟨0, 0, none⟩ cs0.size ++ p0 → x ∈ ps := by
  intro x hx
  rw [z1]; refine List.mem_append_right _ ?_
  rw [z2]; refine List.mem_append_right _ ?_
  rw [z3]; refine List.mem_append_right _ ?_
  rw [z4]; refine List.mem_append_right _ ?_
  rw [z5]; refine List.mem_append_right _ ?_
  rw [z6]; refine List.mem_append_right _ ?_
  rw [e1]
  rcases hx with hx | hx | hx | hx
  ·exact List.mem_append_left _ hx
  ·refine List.mem_append_right _ ?_
   rw [e2]; exact List.mem_append_left _ hx
  ·refine List.mem_append_right _ ?_
   rw [e2]; refine List.mem_append_right _ ?_
   rw [e3]; exact List.mem_append_left _ hx
  ·refine List.mem_append_right _ ?_
   rw [e2]; refine List.mem_append_right _ ?_
   rw [e3]; refine List.mem_append_right _ ?_
   rw [e0]; exact List.mem_append_left _ hx
 obtain ⟨bK, oK, k1⟩ := strs_slab (s := sl1) fz' u22 u9 c9 hg1 hv1 hd1 (fun x hx => up x (.inl hx)) ⟨_, shK, lK, nK, allK⟩ (len_pos (by simp [sls]))
 obtain ⟨bS, oS, k2⟩ := strs_slab (s := sl2) fz' u22 u9 c9 hg2 hv2 hd2 (fun x hx => up x (.inr (.inl hx))) ⟨_, shS, lS, nS, allS⟩ (len_pos (by simp [sls]))
 obtain ⟨bC, oC, k3⟩ := strs_slab (s := sl3) fz' u22 u9 c9 hg3 hv3 hd3 (fun x hx => up x (.inr (.inr (.inl hx)))) ⟨_, shC, lC, nC, allC⟩ (len_pos (by simp [sls]))
 obtain ⟨bB, oB, k0⟩ := syms_slab (s := sl0) fz' u33 u72 u9 u3 c9 c3 c72 hg0 hv0 hd0 (fun x hx => up x (.inr (.inr (.inr hx)))) ⟨_, shB, lB, nB, allB⟩ (len_pos (by simp [sls]))
 refine ⟨fun s => if s.g = 0 then bB else if s.g = 1 then bK else if s.g = 2 then bS else bC, fun s => if s.g = 0 then oB else if s.g = 1 then oK else if s.g = 2 then oS else oC, fun s hs => ?_⟩
 simp only [sls, List.mem_cons, List.not_mem_nil, or_false] at hs
 rcases hs with rfl | rfl | rfl | rfl
 ·exact k0
 ·exact k1
 ·exact k2
 ·exact k3
end Go.Proofs.YtgljaemmheolfaaGreatDoor
