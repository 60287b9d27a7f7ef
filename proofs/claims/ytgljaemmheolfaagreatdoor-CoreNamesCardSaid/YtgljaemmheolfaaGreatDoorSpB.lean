/- What that machine finds good is what the evaluator says. -/
import Derived.Test.YtgljaemmheolfaaGreatDoorSpA
import Derived.Test.YtgljaemmheolfaaGreatDoorEvB
import Derived.Test.YtgljaemmheolfaaGreatDoorEvC
import Derived.Test.YtgljaemmheolfaaGreatDoorEvD
set_option linter.all false
namespace Go.Ev.Sp
open Go Go.Ev
noncomputable def encC1 (n : Nd V) : CS1 := fun K => K (fun k => k n.c0 n.c1 n.c2 n.c3 n.c4 n.c5 n.c6 n.c7) (fun k => k n.c8 n.c9 n.c10 n.c11 n.c12 n.c13 n.c14 n.c15) (fun k => k n.c16 n.c17 n.c18 n.c19 n.c20 n.c21 n.c22 n.c23) (fun k => k n.c24 n.c25 n.c26 n.c27 n.c28 n.c29 n.c30 n.c31)
theorem getV_enc (d : D) (n : Nd V) (k : V → R) : getV d (encC1 n) k = k (atV d n) := by cases d <;> rfl
theorem setV_enc (d : D) (v : V) (n : Nd V) (k : CS1 → R) : setV d v (encC1 n) k = k (encC1 (Go.Ev.setV d v n)) := by obtain ⟨n0, n1, n2, n3, n4, n5, n6, n7, n8, n9, n10, n11, n12, n13, n14, n15, n16, n17, n18, n19, n20, n21, n22, n23, n24, n25, n26, n27, n28, n29, n30, n31⟩ := n; cases d <;> rfl
noncomputable def encC2 (n : Nd C1) : CS2 := fun K => K (fun k => k (encC1 n.c0) (encC1 n.c1) (encC1 n.c2) (encC1 n.c3) (encC1 n.c4) (encC1 n.c5) (encC1 n.c6) (encC1 n.c7)) (fun k => k (encC1 n.c8) (encC1 n.c9) (encC1 n.c10) (encC1 n.c11) (encC1 n.c12) (encC1 n.c13) (encC1 n.c14) (encC1 n.c15)) (fun k => k (encC1 n.c16) (encC1 n.c17) (encC1 n.c18) (encC1 n.c19) (encC1 n.c20) (encC1 n.c21) (encC1 n.c22) (encC1 n.c23)) (fun k => k (encC1 n.c24) (encC1 n.c25) (encC1 n.c26) (encC1 n.c27) (encC1 n.c28) (encC1 n.c29) (encC1 n.c30) (encC1 n.c31))
theorem getC1_enc (d : D) (n : Nd C1) (k : CS1 → R) : getC1 d (encC2 n) k = k (encC1 (atC1 d n)) := by cases d <;> rfl
theorem setC1_enc (d : D) (v : C1) (n : Nd C1) (k : CS2 → R) : setC1 d (encC1 v) (encC2 n) k = k (encC2 (Go.Ev.setC1 d v n)) := by obtain ⟨n0, n1, n2, n3, n4, n5, n6, n7, n8, n9, n10, n11, n12, n13, n14, n15, n16, n17, n18, n19, n20, n21, n22, n23, n24, n25, n26, n27, n28, n29, n30, n31⟩ := n; cases d <;> rfl
theorem modC1_at (d : D) (g : CS1 → (CS1 → R) → R) (n : Nd C1) (k : CS2 → R) : modC1 d g (encC2 n) k = g (encC1 (atC1 d n)) (fun v => setC1 d v (encC2 n) k) := by cases d <;> rfl
theorem modC1_old (d : D) (g : C1 → C1) (n : Nd C1) : Go.Ev.modC1 d g n = Go.Ev.setC1 d (g (atC1 d n)) n := by obtain ⟨n0, n1, n2, n3, n4, n5, n6, n7, n8, n9, n10, n11, n12, n13, n14, n15, n16, n17, n18, n19, n20, n21, n22, n23, n24, n25, n26, n27, n28, n29, n30, n31⟩ := n; cases d <;> rfl
theorem modC1_enc {n : Nd C1} (d : D) (g : CS1 → (CS1 → R) → R) (g0 : C1 → C1) (hg : ∀ k, g (encC1 (atC1 d n)) k = k (encC1 (g0 (atC1 d n)))) (k : CS2 → R) : modC1 d g (encC2 n) k = k (encC2 (Go.Ev.modC1 d g0 n)) := by rw [modC1_at, hg, modC1_old, setC1_enc]
noncomputable def encC3 (n : Nd C2) : CS3 := fun K => K (fun k => k (encC2 n.c0) (encC2 n.c1) (encC2 n.c2) (encC2 n.c3) (encC2 n.c4) (encC2 n.c5) (encC2 n.c6) (encC2 n.c7)) (fun k => k (encC2 n.c8) (encC2 n.c9) (encC2 n.c10) (encC2 n.c11) (encC2 n.c12) (encC2 n.c13) (encC2 n.c14) (encC2 n.c15)) (fun k => k (encC2 n.c16) (encC2 n.c17) (encC2 n.c18) (encC2 n.c19) (encC2 n.c20) (encC2 n.c21) (encC2 n.c22) (encC2 n.c23)) (fun k => k (encC2 n.c24) (encC2 n.c25) (encC2 n.c26) (encC2 n.c27) (encC2 n.c28) (encC2 n.c29) (encC2 n.c30) (encC2 n.c31))
theorem getC2_enc (d : D) (n : Nd C2) (k : CS2 → R) : getC2 d (encC3 n) k = k (encC2 (atC2 d n)) := by cases d <;> rfl
theorem setC2_enc (d : D) (v : C2) (n : Nd C2) (k : CS3 → R) : setC2 d (encC2 v) (encC3 n) k = k (encC3 (Go.Ev.setC2 d v n)) := by obtain ⟨n0, n1, n2, n3, n4, n5, n6, n7, n8, n9, n10, n11, n12, n13, n14, n15, n16, n17, n18, n19, n20, n21, n22, n23, n24, n25, n26, n27, n28, n29, n30, n31⟩ := n; cases d <;> rfl
theorem modC2_at (d : D) (g : CS2 → (CS2 → R) → R) (n : Nd C2) (k : CS3 → R) : modC2 d g (encC3 n) k = g (encC2 (atC2 d n)) (fun v => setC2 d v (encC3 n) k) := by cases d <;> rfl
theorem modC2_old (d : D) (g : C2 → C2) (n : Nd C2) : Go.Ev.modC2 d g n = Go.Ev.setC2 d (g (atC2 d n)) n := by obtain ⟨n0, n1, n2, n3, n4, n5, n6, n7, n8, n9, n10, n11, n12, n13, n14, n15, n16, n17, n18, n19, n20, n21, n22, n23, n24, n25, n26, n27, n28, n29, n30, n31⟩ := n; cases d <;> rfl
theorem modC2_enc {n : Nd C2} (d : D) (g : CS2 → (CS2 → R) → R) (g0 : C2 → C2) (hg : ∀ k, g (encC2 (atC2 d n)) k = k (encC2 (g0 (atC2 d n)))) (k : CS3 → R) : modC2 d g (encC3 n) k = k (encC3 (Go.Ev.modC2 d g0 n)) := by rw [modC2_at, hg, modC2_old, setC2_enc]
noncomputable def encCells (c : Cells) : CellsS := @Cells.rec (fun _ => CellsS) (fun c => fun a _ _ => a (encC1 c)) (fun c => fun _ b _ => b (encC2 c)) (fun c => fun _ _ d => d (encC3 c)) c
noncomputable def encBlk (b : Blk) : BlkS := @Blk.rec (fun _ => BlkS) freeB staleS (fun c n x a => fun _ _ L _ _ _ => L (encCells c) n x a) (fun es cl => mapS es cl) (fun l b p => fun _ _ _ _ s _ => s l b p) (fun m s n p => iterS m s n p) b
noncomputable def encB1 (n : Nd Blk) : BS1 := fun K => K (fun k => k (encBlk n.c0) (encBlk n.c1) (encBlk n.c2) (encBlk n.c3) (encBlk n.c4) (encBlk n.c5) (encBlk n.c6) (encBlk n.c7)) (fun k => k (encBlk n.c8) (encBlk n.c9) (encBlk n.c10) (encBlk n.c11) (encBlk n.c12) (encBlk n.c13) (encBlk n.c14) (encBlk n.c15)) (fun k => k (encBlk n.c16) (encBlk n.c17) (encBlk n.c18) (encBlk n.c19) (encBlk n.c20) (encBlk n.c21) (encBlk n.c22) (encBlk n.c23)) (fun k => k (encBlk n.c24) (encBlk n.c25) (encBlk n.c26) (encBlk n.c27) (encBlk n.c28) (encBlk n.c29) (encBlk n.c30) (encBlk n.c31))
theorem getBlk_enc (d : D) (n : Nd Blk) (k : BlkS → R) : getBlk d (encB1 n) k = k (encBlk (atBlk d n)) := by cases d <;> rfl
theorem setBlk_enc (d : D) (v : Blk) (n : Nd Blk) (k : BS1 → R) : setBlk d (encBlk v) (encB1 n) k = k (encB1 (Go.Ev.setBlk d v n)) := by obtain ⟨n0, n1, n2, n3, n4, n5, n6, n7, n8, n9, n10, n11, n12, n13, n14, n15, n16, n17, n18, n19, n20, n21, n22, n23, n24, n25, n26, n27, n28, n29, n30, n31⟩ := n; cases d <;> rfl
theorem modBlk_at (d : D) (g : BlkS → (BlkS → R) → R) (n : Nd Blk) (k : BS1 → R) : modBlk d g (encB1 n) k = g (encBlk (atBlk d n)) (fun v => setBlk d v (encB1 n) k) := by cases d <;> rfl
noncomputable def encB2 (n : Nd B1) : BS2 := fun K => K (fun k => k (encB1 n.c0) (encB1 n.c1) (encB1 n.c2) (encB1 n.c3) (encB1 n.c4) (encB1 n.c5) (encB1 n.c6) (encB1 n.c7)) (fun k => k (encB1 n.c8) (encB1 n.c9) (encB1 n.c10) (encB1 n.c11) (encB1 n.c12) (encB1 n.c13) (encB1 n.c14) (encB1 n.c15)) (fun k => k (encB1 n.c16) (encB1 n.c17) (encB1 n.c18) (encB1 n.c19) (encB1 n.c20) (encB1 n.c21) (encB1 n.c22) (encB1 n.c23)) (fun k => k (encB1 n.c24) (encB1 n.c25) (encB1 n.c26) (encB1 n.c27) (encB1 n.c28) (encB1 n.c29) (encB1 n.c30) (encB1 n.c31))
theorem getB1_enc (d : D) (n : Nd B1) (k : BS1 → R) : getB1 d (encB2 n) k = k (encB1 (atB1 d n)) := by cases d <;> rfl
theorem setB1_enc (d : D) (v : B1) (n : Nd B1) (k : BS2 → R) : setB1 d (encB1 v) (encB2 n) k = k (encB2 (Go.Ev.setB1 d v n)) := by obtain ⟨n0, n1, n2, n3, n4, n5, n6, n7, n8, n9, n10, n11, n12, n13, n14, n15, n16, n17, n18, n19, n20, n21, n22, n23, n24, n25, n26, n27, n28, n29, n30, n31⟩ := n; cases d <;> rfl
theorem modB1_at (d : D) (g : BS1 → (BS1 → R) → R) (n : Nd B1) (k : BS2 → R) : modB1 d g (encB2 n) k = g (encB1 (atB1 d n)) (fun v => setB1 d v (encB2 n) k) := by cases d <;> rfl
theorem modB1_old (d : D) (g : B1 → B1) (n : Nd B1) : Go.Ev.modB1 d g n = Go.Ev.setB1 d (g (atB1 d n)) n := by obtain ⟨n0, n1, n2, n3, n4, n5, n6, n7, n8, n9, n10, n11, n12, n13, n14, n15, n16, n17, n18, n19, n20, n21, n22, n23, n24, n25, n26, n27, n28, n29, n30, n31⟩ := n; cases d <;> rfl
theorem modB1_enc {n : Nd B1} (d : D) (g : BS1 → (BS1 → R) → R) (g0 : B1 → B1) (hg : ∀ k, g (encB1 (atB1 d n)) k = k (encB1 (g0 (atB1 d n)))) (k : BS2 → R) : modB1 d g (encB2 n) k = k (encB2 (Go.Ev.modB1 d g0 n)) := by rw [modB1_at, hg, modB1_old, setB1_enc]
noncomputable def encB3 (n : Nd B2) : BS3 := fun K => K (fun k => k (encB2 n.c0) (encB2 n.c1) (encB2 n.c2) (encB2 n.c3) (encB2 n.c4) (encB2 n.c5) (encB2 n.c6) (encB2 n.c7)) (fun k => k (encB2 n.c8) (encB2 n.c9) (encB2 n.c10) (encB2 n.c11) (encB2 n.c12) (encB2 n.c13) (encB2 n.c14) (encB2 n.c15)) (fun k => k (encB2 n.c16) (encB2 n.c17) (encB2 n.c18) (encB2 n.c19) (encB2 n.c20) (encB2 n.c21) (encB2 n.c22) (encB2 n.c23)) (fun k => k (encB2 n.c24) (encB2 n.c25) (encB2 n.c26) (encB2 n.c27) (encB2 n.c28) (encB2 n.c29) (encB2 n.c30) (encB2 n.c31))
theorem getB2_enc (d : D) (n : Nd B2) (k : BS2 → R) : getB2 d (encB3 n) k = k (encB2 (atB2 d n)) := by cases d <;> rfl
theorem setB2_enc (d : D) (v : B2) (n : Nd B2) (k : BS3 → R) : setB2 d (encB2 v) (encB3 n) k = k (encB3 (Go.Ev.setB2 d v n)) := by obtain ⟨n0, n1, n2, n3, n4, n5, n6, n7, n8, n9, n10, n11, n12, n13, n14, n15, n16, n17, n18, n19, n20, n21, n22, n23, n24, n25, n26, n27, n28, n29, n30, n31⟩ := n; cases d <;> rfl
theorem modB2_at (d : D) (g : BS2 → (BS2 → R) → R) (n : Nd B2) (k : BS3 → R) : modB2 d g (encB3 n) k = g (encB2 (atB2 d n)) (fun v => setB2 d v (encB3 n) k) := by cases d <;> rfl
theorem modB2_old (d : D) (g : B2 → B2) (n : Nd B2) : Go.Ev.modB2 d g n = Go.Ev.setB2 d (g (atB2 d n)) n := by obtain ⟨n0, n1, n2, n3, n4, n5, n6, n7, n8, n9, n10, n11, n12, n13, n14, n15, n16, n17, n18, n19, n20, n21, n22, n23, n24, n25, n26, n27, n28, n29, n30, n31⟩ := n; cases d <;> rfl
theorem modB2_enc {n : Nd B2} (d : D) (g : BS2 → (BS2 → R) → R) (g0 : B2 → B2) (hg : ∀ k, g (encB2 (atB2 d n)) k = k (encB2 (g0 (atB2 d n)))) (k : BS3 → R) : modB2 d g (encB3 n) k = k (encB3 (Go.Ev.modB2 d g0 n)) := by rw [modB2_at, hg, modB2_old, setB2_enc]
noncomputable def encH (h : H) : HS := fun K => K (encB3 h.t) h.next
noncomputable def enc (e : Env) : ES := fun K => K (fun k => k e.a0 e.a1 e.a2 e.a3 e.a4 e.a5 e.a6 e.a7) (fun k => k e.a8 e.a9 e.a10 e.a11 e.a12 e.a13 e.a14 e.a15) (fun k => k e.a16 e.a17 e.a18 e.a19 e.a20 e.a21 e.a22 e.a23) (fun k => k e.a24 e.a25 e.a26 e.a27 e.a28 e.a29 e.a30 e.a31) (fun k => k e.b0 e.b1 e.b2 e.b3 e.b4 e.b5 e.b6 e.b7) (fun k => k e.b8 e.b9 e.b10 e.b11 e.b12 e.b13 e.b14 e.b15) (fun k => k e.b16 e.b17 e.b18 e.b19 e.b20 e.b21 e.b22 e.b23) (fun k => k e.b24 e.b25 e.b26 e.b27 e.b28 e.b29 e.b30 e.b31) (encC2 e.rest)
theorem encC2_e : encC2 c2e = c2eS := rfl
theorem encC3_e : encC3 c3e = c3eS := rfl
theorem encH_empty : encH H.empty = emptyHS := rfl
theorem getE0_le (d : D) (e : Env) (k : V → R) : (getE0 d).f (enc e) k = k (Env.at0 d e) := by cases d <;> rfl
theorem getE1_le (d : D) (e : Env) (k : V → R) : (getE1 d).f (enc e) k = k (Env.at1 d e) := by cases d <;> rfl
theorem setE0_le (d : D) (e : Env) (v : V) (k : ES → R) : (setE0 d).f (enc e) v k = k (enc (Env.set0 d v e)) := by cases e; cases d <;> rfl
theorem setE1_le (d : D) (e : Env) (v : V) (k : ES → R) : (setE1 d).f (enc e) v k = k (enc (Env.set1 d v e)) := by cases e; cases d <;> rfl
theorem restE_enc (e : Env) (k : CS2 → R) : restE (enc e) k = k (encC2 e.rest) := rfl
theorem modRE_enc (g : CS2 → (CS2 → R) → R) (g0 : C2 → C2) (e : Env) (hg : ∀ k, g (encC2 e.rest) k = k (encC2 (g0 e.rest))) (k : ES → R) : modRE g (enc e) k = k (enc (Env.modR g0 e)) := by
 cases e; exact hg _
theorem blkS_enc (h : H) (i : Id) (k : BlkS → R) : blkS (encH h) i k = k (encBlk (h.blk i)) := by
 obtain ⟨t, nx⟩ := h; obtain ⟨a, b, c⟩ := i
 show getB2 a (encB3 t) _ = _
 rw [getB2_enc, getB1_enc, getBlk_enc]; rfl
theorem putS_enc (h : H) (i : Id) (x : Blk) (k : HS → R) : putS (encH h) i (encBlk x) k = k (encH (h.put i x)) := by
 obtain ⟨t, nx⟩ := h; obtain ⟨a, b, c⟩ := i
 show modB2 a (modB1 b (setBlk c (encBlk x))) (encB3 t) _ = _
 rw [modB2_enc a _ (Go.Ev.modB1 b (Go.Ev.setBlk c x)) (fun k => by rw [modB1_enc b _ (Go.Ev.setBlk c x) (fun k => by rw [setBlk_enc])])]
 rfl
theorem newS_le {h : H} {x : Blk} {k' : Id → HS → R} {k : Id → H → Out} {G : Out → Prop} (hk : ∀ i h', k' i (encH h') = .good → G (k i h')) (hg : newS (encH h) (encBlk x) k' = .good) : G (H.new h x k) := by
 obtain ⟨t, nx⟩ := h; obtain ⟨a, b, c⟩ := nx
 unfold newS at hg
 unfold H.new
 have hg : modB2 a (modB1 b (modBlk c (isFree (encBlk x)))) (encB3 t) (fun t => k' ⟨a, b, c⟩ fun K => K t (Id.succ ⟨a, b, c⟩)) = .good := hg
 rw [modB2_at, modB1_at, modBlk_at] at hg
 dsimp only
 cases hb : atBlk c (atB1 b (atB2 a t)) with
 | free =>
  rw [hb] at hg
  have hg : setBlk c (encBlk x) (encB1 (atB1 b (atB2 a t))) (fun v => setB1 b v (encB2 (atB2 a t)) fun v => setB2 a v (encB3 t) (fun t => k' ⟨a, b, c⟩ fun K => K t (Id.succ ⟨a, b, c⟩))) = .good := hg
  rw [setBlk_enc, setB1_enc, setB2_enc] at hg
  refine hk _ ⟨Go.Ev.modB2 a (Go.Ev.modB1 b (Go.Ev.setBlk c x)) t, Id.succ ⟨a, b, c⟩⟩ ?_
  rw [modB2_old, modB1_old]
  exact hg
 | _ => rw [hb] at hg; exact nomatch hg
end Go.Ev.Sp
namespace Go.Ev.Sp
open Go Go.Ev
theorem force_eq (n : Nat) (k : Nat → R) : force n k = k n := rfl
theorem cellGet_enc (c : Cells) (o : Nat) (k : V → R) : cellGet (encCells c) o k = k (c.get o) := by
 cases c with
 | s1 c => show force o (fun o => getV (D.num o) (encC1 c) k) = _; rw [force_eq, getV_enc]; rfl
 | s2 c => show getC1 _ (encC2 c) _ = _; rw [getC1_enc, getV_enc]; rfl
 | s3 c => show getC2 _ (encC3 c) _ = _; rw [getC2_enc, getC1_enc, getV_enc]; rfl
theorem cellSet_enc (c : Cells) (o : Nat) (v : V) (k : CellsS → R) : cellSet (encCells c) o v k = k (encCells (c.set o v)) := by
 cases c with
 | s1 c => show force o (fun o => setV (D.num o) v (encC1 c) _) = _; rw [force_eq, setV_enc]; rfl
 | s2 c => show modC1 _ (setV _ v) (encC2 c) _ = _; rw [modC1_enc _ _ (Go.Ev.setV (D.num (Nat.mod o 32)) v) (fun k => by rw [setV_enc])]; rfl
 | s3 c =>
  show modC2 _ (modC1 _ (setV _ v)) (encC3 c) _ = _
  rw [modC2_enc _ _ (Go.Ev.modC1 (D.num (Nat.mod (Nat.div o 32) 32)) (Go.Ev.setV (D.num (Nat.mod o 32)) v)) (fun k => by rw [modC1_enc _ _ (Go.Ev.setV (D.num (Nat.mod o 32)) v) (fun k => by rw [setV_enc])])]
  rfl
theorem cellAdd_enc (c : Cells) (i : Nat) (v : V) (k : CellsS → R) : cellAdd (encCells c) i v k = (match c.add i v with | some c => k (encCells c) | none => .bad) := by
 cases c with
 | s1 c =>
  unfold Cells.add
  show (@Bool.rec (fun _ => CS1 → Nat → V → (CellsS → R) → R) _ _ (Nat.ble 32 i) (encC1 c) i v k) = _
  dsimp only
  cases Nat.ble 32 i with
  | false => dsimp only; rw [force_eq, setV_enc]; rfl
  | true =>
   dsimp only
   rw [← encC2_e, setC1_enc, modC1_enc _ _ (Go.Ev.setV (D.num (Nat.mod i 32)) v) (fun k => by rw [setV_enc])]; rfl
 | s2 c =>
  unfold Cells.add
  show (@Bool.rec (fun _ => CS2 → Nat → V → (CellsS → R) → R) _ _ (Nat.ble 1024 i) (encC2 c) i v k) = _
  dsimp only
  cases Nat.ble 1024 i with
  | false => dsimp only; rw [modC1_enc _ _ (Go.Ev.setV (D.num (Nat.mod i 32)) v) (fun k => by rw [setV_enc])]; rfl
  | true =>
   dsimp only
   rw [← encC3_e, setC2_enc, modC2_enc _ _ (Go.Ev.modC1 (D.num (Nat.mod (Nat.div i 32) 32)) (Go.Ev.setV (D.num (Nat.mod i 32)) v)) (fun k => by rw [modC1_enc _ _ (Go.Ev.setV (D.num (Nat.mod i 32)) v) (fun k => by rw [setV_enc])])]
   rfl
 | s3 c =>
  unfold Cells.add
  show (@Bool.rec (fun _ => CS3 → Nat → V → (CellsS → R) → R) _ _ (Nat.ble 32768 i) (encC3 c) i v k) = _
  dsimp only
  cases Nat.ble 32768 i with
  | false => dsimp only; rw [modC2_enc _ _ (Go.Ev.modC1 (D.num (Nat.mod (Nat.div i 32) 32)) (Go.Ev.setV (D.num (Nat.mod i 32)) v)) (fun k => by rw [modC1_enc _ _ (Go.Ev.setV (D.num (Nat.mod i 32)) v) (fun k => by rw [setV_enc])])]; rfl
  | true => rfl
theorem listS_enc (c : Cells) (n : Nat) : ∀ (o : Nat) (k : V → R), listS (encCells c) n o k = k (c.list n o) := by
 induction n with
 | zero => intro o k; rfl
 | succ n ih =>
  intro o k
  show cellGet (encCells c) o (fun v => listS (encCells c) n (Nat.succ o) fun l => k (.cons v l)) = _
  rw [cellGet_enc, ih]; rfl
theorem storeListS_enc (l : V) : ∀ (c : Cells) (o : Nat) (k : CellsS → R), storeListS (encCells c) l o k = k (encCells (c.storeList l o)) := by
 induction l with
 | cons v l _ ih =>
  intro c o k
  show cellSet (encCells c) o v (fun c => storeListS c l (Nat.succ o) k) = _
  rw [cellSet_enc, ih]; rfl
 | _ => intro c o k; rfl
theorem pushS_enc (l : V) : ∀ (c : Cells) (n : Nat) (k : CellsS → Nat → R), pushS (encCells c) l n k = (match c.push l n with | some p => k (encCells p.1) p.2 | none => .bad) := by
 induction l with
 | cons v l _ ih =>
  intro c n k
  show cellAdd (encCells c) n v (fun c => pushS c l (Nat.succ n) k) = _
  rw [cellAdd_enc]
  simp only [Cells.push]
  cases c.add n v with
  | none => rfl
  | some c => dsimp only; rw [ih]
 | _ => intro c n k; rfl
theorem pushAll_le {l : V} {k : CellsS → Nat → R} (h : pushAll l k = .good) : ∃ c n, emptyCells.push l 0 = some (c, n) ∧ k (encCells c) n = .good := by
 unfold pushAll at h
 have e := pushS_enc l emptyCells 0 k
 have h : pushS (encCells emptyCells) l 0 k = .good := h
 rw [e] at h
 cases hp : emptyCells.push l 0 with
 | none => rw [hp] at h; exact nomatch h
 | some p => rw [hp] at h; exact ⟨p.1, p.2, rfl, h⟩
theorem f8_8_le (v0 v1 v2 v3 v4 v5 v6 v7 : V) (l : V) (k : CellsS → Nat → R) (hg : f8_8 v0 v1 v2 v3 v4 v5 v6 v7 l (.cons v0 (.cons v1 (.cons v2 (.cons v3 (.cons v4 (.cons v5 (.cons v6 (.cons v7 l)))))))) k = .good) : ∃ c n, emptyCells.push (.cons v0 (.cons v1 (.cons v2 (.cons v3 (.cons v4 (.cons v5 (.cons v6 (.cons v7 l)))))))) 0 = some (c, n) ∧ k (encCells c) n = .good := by
 cases l with
 | nil => exact ⟨_, _, rfl, hg⟩
 | cons h t => exact pushAll_le hg
 | _ => exact nomatch hg
theorem f8_7_le (v0 v1 v2 v3 v4 v5 v6 : V) (l : V) (k : CellsS → Nat → R) (hg : f8_7 v0 v1 v2 v3 v4 v5 v6 l (.cons v0 (.cons v1 (.cons v2 (.cons v3 (.cons v4 (.cons v5 (.cons v6 l))))))) k = .good) : ∃ c n, emptyCells.push (.cons v0 (.cons v1 (.cons v2 (.cons v3 (.cons v4 (.cons v5 (.cons v6 l))))))) 0 = some (c, n) ∧ k (encCells c) n = .good := by
 cases l with
 | nil => exact ⟨_, _, rfl, hg⟩
 | cons h t => exact f8_8_le v0 v1 v2 v3 v4 v5 v6 h t k hg
 | _ => exact nomatch hg
theorem f8_6_le (v0 v1 v2 v3 v4 v5 : V) (l : V) (k : CellsS → Nat → R) (hg : f8_6 v0 v1 v2 v3 v4 v5 l (.cons v0 (.cons v1 (.cons v2 (.cons v3 (.cons v4 (.cons v5 l)))))) k = .good) : ∃ c n, emptyCells.push (.cons v0 (.cons v1 (.cons v2 (.cons v3 (.cons v4 (.cons v5 l)))))) 0 = some (c, n) ∧ k (encCells c) n = .good := by
 cases l with
 | nil => exact ⟨_, _, rfl, hg⟩
 | cons h t => exact f8_7_le v0 v1 v2 v3 v4 v5 h t k hg
 | _ => exact nomatch hg
theorem f8_5_le (v0 v1 v2 v3 v4 : V) (l : V) (k : CellsS → Nat → R) (hg : f8_5 v0 v1 v2 v3 v4 l (.cons v0 (.cons v1 (.cons v2 (.cons v3 (.cons v4 l))))) k = .good) : ∃ c n, emptyCells.push (.cons v0 (.cons v1 (.cons v2 (.cons v3 (.cons v4 l))))) 0 = some (c, n) ∧ k (encCells c) n = .good := by
 cases l with
 | nil => exact ⟨_, _, rfl, hg⟩
 | cons h t => exact f8_6_le v0 v1 v2 v3 v4 h t k hg
 | _ => exact nomatch hg
theorem f8_4_le (v0 v1 v2 v3 : V) (l : V) (k : CellsS → Nat → R) (hg : f8_4 v0 v1 v2 v3 l (.cons v0 (.cons v1 (.cons v2 (.cons v3 l)))) k = .good) : ∃ c n, emptyCells.push (.cons v0 (.cons v1 (.cons v2 (.cons v3 l)))) 0 = some (c, n) ∧ k (encCells c) n = .good := by
 cases l with
 | nil => exact ⟨_, _, rfl, hg⟩
 | cons h t => exact f8_5_le v0 v1 v2 v3 h t k hg
 | _ => exact nomatch hg
theorem f8_3_le (v0 v1 v2 : V) (l : V) (k : CellsS → Nat → R) (hg : f8_3 v0 v1 v2 l (.cons v0 (.cons v1 (.cons v2 l))) k = .good) : ∃ c n, emptyCells.push (.cons v0 (.cons v1 (.cons v2 l))) 0 = some (c, n) ∧ k (encCells c) n = .good := by
 cases l with
 | nil => exact ⟨_, _, rfl, hg⟩
 | cons h t => exact f8_4_le v0 v1 v2 h t k hg
 | _ => exact nomatch hg
theorem f8_2_le (v0 v1 : V) (l : V) (k : CellsS → Nat → R) (hg : f8_2 v0 v1 l (.cons v0 (.cons v1 l)) k = .good) : ∃ c n, emptyCells.push (.cons v0 (.cons v1 l)) 0 = some (c, n) ∧ k (encCells c) n = .good := by
 cases l with
 | nil => exact ⟨_, _, rfl, hg⟩
 | cons h t => exact f8_3_le v0 v1 h t k hg
 | _ => exact nomatch hg
theorem f8_1_le (v0 : V) (l : V) (k : CellsS → Nat → R) (hg : f8_1 v0 l (.cons v0 l) k = .good) : ∃ c n, emptyCells.push (.cons v0 l) 0 = some (c, n) ∧ k (encCells c) n = .good := by
 cases l with
 | nil => exact ⟨_, _, rfl, hg⟩
 | cons h t => exact f8_2_le v0 h t k hg
 | _ => exact nomatch hg
theorem f8_0_le (l : V) (k : CellsS → Nat → R) (hg : f8_0  l l k = .good) : ∃ c n, emptyCells.push l 0 = some (c, n) ∧ k (encCells c) n = .good := by
 cases l with
 | nil => exact ⟨_, _, rfl, hg⟩
 | cons h t => exact f8_1_le  h t k hg
 | _ => exact nomatch hg
theorem fromL_le {l : V} {k : CellsS → Nat → R} (h : fromL l k = .good) : ∃ c n, emptyCells.push l 0 = some (c, n) ∧ k (encCells c) n = .good := f8_0_le l k h
theorem newCellsS_le {h : H} {l : V} {k' : Id → HS → R} {k : Id → H → Out} {G : Out → Prop} (hk : ∀ i h', k' i (encH h') = .good → G (k i h')) (hg : newCellsS (encH h) l k' = .good) : G (newCells h l k) := by
 obtain ⟨c, n, hp, hg⟩ := fromL_le hg
 unfold newCells
 rw [hp]
 exact newS_le (x := .live c n false []) hk hg
theorem liveAt_enc (h : H) (i : Id) (k : CellsS → Nat → Bool → List Id → R) : liveAt (encH h) i k = (match h.blk i with | .live c n x a => k (encCells c) n x a | _ => .bad) := by
 unfold liveAt; rw [blkS_enc]; cases h.blk i <;> rfl
theorem mapAt_enc (h : H) (i : Id) (k : List (V × V × Nat) → Nat → R) : mapAt (encH h) i k = (match h.blk i with | .map es c => k es c | _ => .bad) := by
 unfold mapAt; rw [blkS_enc]; cases h.blk i <;> rfl
theorem iterAt_enc (h : H) (i : Id) (k : Option Id → Nat → List Nat → Nat → R) : iterAt (encH h) i k = (match h.blk i with | .mapIter m s n p => k m s n p | _ => .bad) := by
 unfold iterAt; rw [blkS_enc]; cases h.blk i <;> rfl
theorem liveAt_le {h : H} {i : Id} {k : CellsS → Nat → Bool → List Id → R} (hg : liveAt (encH h) i k = .good) : ∃ c n x a, h.blk i = .live c n x a ∧ k (encCells c) n x a = .good := by
 rw [liveAt_enc] at hg
 cases hb : h.blk i with
 | live c n x a => rw [hb] at hg; exact ⟨c, n, x, a, rfl, hg⟩
 | _ => rw [hb] at hg; exact nomatch hg
theorem mapAt_le {h : H} {i : Id} {k : List (V × V × Nat) → Nat → R} (hg : mapAt (encH h) i k = .good) : ∃ es c, h.blk i = .map es c ∧ k es c = .good := by
 rw [mapAt_enc] at hg
 cases hb : h.blk i with
 | map es c => rw [hb] at hg; exact ⟨es, c, rfl, hg⟩
 | _ => rw [hb] at hg; exact nomatch hg
theorem iterAt_le {h : H} {i : Id} {k : Option Id → Nat → List Nat → Nat → R} (hg : iterAt (encH h) i k = .good) : ∃ m s n p, h.blk i = .mapIter m s n p ∧ k m s n p = .good := by
 rw [iterAt_enc] at hg
 cases hb : h.blk i with
 | mapIter m s n p => rw [hb] at hg; exact ⟨m, s, n, p, rfl, hg⟩
 | _ => rw [hb] at hg; exact nomatch hg
theorem loadOneS_le {h : H} {i : Id} {o : Nat} {k' : V → R} {k : V → Out} {G : Out → Prop} (hk : ∀ v, k' v = .good → G (k v)) (hg : loadOneS (encH h) i o k' = .good) : G (loadOne h i o k) := by
 obtain ⟨c, n, x, a, hb, hg⟩ := liveAt_le hg
 unfold loadOne
 rw [hb]
 try dsimp only at hg ⊢
 cases hn : Nat.ble (Nat.succ o) n with
 | false => rw [hn] at hg; exact nomatch hg
 | true => rw [hn] at hg; dsimp only at hg ⊢; rw [cellGet_enc] at hg; exact hk _ hg
theorem loadAggS_le {m : Nat} {h : H} {i : Id} {o : Nat} {k' : V → R} {k : V → Out} {G : Out → Prop} (hk : ∀ v, k' v = .good → G (k v)) (hg : loadAggS m (encH h) i o k' = .good) : G (loadAgg m h i o k) := by
 obtain ⟨c, n, x, a, hb, hg⟩ := liveAt_le hg
 unfold loadAgg
 rw [hb]
 try dsimp only at hg ⊢
 cases hn : Nat.ble (Nat.add o m) n with
 | false => rw [hn] at hg; exact nomatch hg
 | true => rw [hn] at hg; dsimp only at hg ⊢; rw [listS_enc] at hg; exact hk _ hg
theorem killS_enc (l : List Id) : ∀ (h : H) (k : HS → R), killS l (encH h) k = k (encH (h.kill l)) := by
 induction l with
 | nil => intro h k; rfl
 | cons i l ih =>
  intro h k
  show putS (encH h) i (encBlk .stale) (fun h => killS l h k) = _
  rw [putS_enc, ih]; rfl
theorem writableS_le {h : H} {i : Id} {k' : CellsS → Nat → HS → R} {k : Cells → Nat → H → Out} {G : Out → Prop} (hk : ∀ c n h', k' (encCells c) n (encH h') = .good → G (k c n h')) (hg : writableS (encH h) i k' = .good) : G (H.writable h i k) := by
 obtain ⟨c, n, x, a, hb, hg⟩ := liveAt_le hg
 unfold H.writable
 rw [hb]
 try dsimp only at hg ⊢
 cases x with
 | true => exact nomatch hg
 | false =>
  try dsimp only at hg ⊢
  cases a with
  | nil => exact hk _ _ _ hg
  | cons j l => dsimp only at hg ⊢; rw [killS_enc] at hg; exact hk _ _ _ hg
theorem putLive_enc (h : H) (i : Id) (c : Cells) (n : Nat) (x : Bool) (a : List Id) (k : HS → R) : putS (encH h) i (fun _ _ L _ _ _ => L (encCells c) n x a) k = k (encH (h.put i (.live c n x a))) := putS_enc h i (.live c n x a) k
theorem storeOneS_le {h : H} {i : Id} {o : Nat} {v : V} {k' : HS → R} {k : H → Out} {G : Out → Prop} (hk : ∀ h', k' (encH h') = .good → G (k h')) (hg : storeOneS (encH h) i o v k' = .good) : G (storeOne h i o v k) := by
 unfold storeOne
 refine writableS_le (fun c n h' hg => ?_) hg
 try dsimp only at hg ⊢
 cases hn : Nat.ble (Nat.succ o) n with
 | false => rw [hn] at hg; exact nomatch hg
 | true => rw [hn] at hg; dsimp only at hg ⊢; rw [cellSet_enc, putLive_enc] at hg; exact hk _ hg
theorem storeAggS_le {m : Nat} {h : H} {i : Id} {o : Nat} {l : V} {k' : HS → R} {k : H → Out} {G : Out → Prop} (hk : ∀ h', k' (encH h') = .good → G (k h')) (hg : storeAggS m (encH h) i o l k' = .good) : G (storeAgg m h i o l k) := by
 unfold storeAggS at hg
 unfold storeAgg
 rw [V.lenF_eq] at hg
 try dsimp only at hg ⊢
 cases hm : Nat.beq (V.len l) m with
 | false => rw [hm] at hg; exact nomatch hg
 | true =>
  rw [hm] at hg; dsimp only at hg ⊢
  refine writableS_le (fun c n h' hg => ?_) hg
  try dsimp only at hg ⊢
  cases hn : Nat.ble (Nat.add o m) n with
  | false => rw [hn] at hg; exact nomatch hg
  | true => rw [hn] at hg; dsimp only at hg ⊢; rw [storeListS_enc, putLive_enc] at hg; exact hk _ hg
theorem storeVS_le {n : Nat} {v : V} {h : H} {i : Id} {o : Nat} {k' : HS → R} {k : H → Out} {G : Out → Prop} (hk : ∀ h', k' (encH h') = .good → G (k h')) (hg : storeVS n v (encH h) i o k' = .good) : G (storeVF n v h i o k) := by
 cases v with
 | agg l => unfold storeVF; rw [storeAggF_eq]; exact storeAggS_le hk hg
 | undef => exact nomatch hg
 | tup _ => exact nomatch hg
 | nil => exact nomatch hg
 | cons _ _ => exact nomatch hg
 | _ =>
  unfold storeVS at hg
  unfold storeVF
  try dsimp only at hg ⊢
  cases hn : Nat.beq n 1 with
  | false => rw [hn] at hg; exact nomatch hg
  | true => rw [hn] at hg; exact storeOneS_le hk hg
theorem boxVS_le {v : V} {h : H} {k' : Id → HS → R} {k : Id → H → Out} {G : Out → Prop} (hk : ∀ i h', k' i (encH h') = .good → G (k i h')) (hg : boxVS v (encH h) k' = .good) : G (boxVF v h k) := by
 unfold boxVF
 rw [newCellsF_eq]
 cases v with
 | undef => exact nomatch hg
 | tup _ => exact nomatch hg
 | nil => exact nomatch hg
 | cons _ _ => exact nomatch hg
 | _ => exact newCellsS_le hk hg
end Go.Ev.Sp
namespace Go.Ev.Sp
open Go Go.Ev
theorem bad_ne (h : R.bad = R.good) : False := nomatch h
def GLe (g' : GS) (g : G) : Prop := ∀ e k, g' (enc e) k = k (g e)
def SLe (s' : SS) (s : S) : Prop := ∀ e v k, s' (enc e) v k = k (enc (s e v))
theorem getTS_le (t : Nat) : GLe (getTS t).f (getT t).f := by
 intro e k
 unfold getTS getT
 cases Nat.ble 32 t with
 | false => exact (getE0_le _ e k).trans (by rw [show (get0 (D.num t)).f e = Env.at0 (D.num t) e from by cases D.num t <;> rfl])
 | true =>
  dsimp only
  cases Nat.ble 64 t with
  | false => exact (getE1_le _ e k).trans (by rw [show (get1 (D.num (t - 32))).f e = Env.at1 (D.num (t - 32)) e from by cases D.num (t - 32) <;> rfl])
  | true =>
   dsimp only
   rw [restE_enc, getC1_enc, getV_enc]
theorem setTS_le (t : Nat) : SLe (setTS t).f (setT t).f := by
 intro e v k
 unfold setTS setT
 cases Nat.ble 32 t with
 | false => exact (setE0_le _ e v k).trans (by rw [show (set0 (D.num t)).f e v = Env.set0 (D.num t) v e from by cases D.num t <;> rfl])
 | true =>
  dsimp only
  cases Nat.ble 64 t with
  | false => exact (setE1_le _ e v k).trans (by rw [show (set1 (D.num (t - 32))).f e v = Env.set1 (D.num (t - 32)) v e from by cases D.num (t - 32) <;> rfl])
  | true =>
   dsimp only
   rw [modRE_enc _ (Go.Ev.modC1 (D.num (t / 32)) (Go.Ev.setV (D.num (t % 32)) v)) e (fun k => by rw [modC1_enc _ _ (Go.Ev.setV (D.num (t % 32)) v) (fun k => by rw [setV_enc])])]
theorem topS_enc (e : Env) (k : V → R) : topS (enc e) k = k (topE e) := by
 unfold topS topE; rw [restE_enc, getC1_enc, getV_enc]
theorem setTopS_enc (v : V) (e : Env) (k : ES → R) : setTopS v (enc e) k = k (enc (setTop v e)) := by
 unfold setTopS setTop
 rw [modRE_enc _ (Go.Ev.modC1 .d31 (Go.Ev.setV .d31 v)) e (fun k => by rw [modC1_enc _ _ (Go.Ev.setV .d31 v) (fun k => by rw [setV_enc])])]
theorem opdG_le {gl : List Nat} {x : Operand} {g' : GS} (h : opdG gl x = .ok g') : ∃ g, GLe g' g ∧ ∀ (α : Type) (X : Cx) (k : G → Fn1 α) (d : Fn1 α), X.gl = gl → (∀ t, X.kn t = true) → opd X x k d = k g := by
 cases x with
 | tmp t =>
  have h : (@Bool.rec (fun _ => Nat → GR) (fun t => @Fn1.rec GS (fun _ => GR) (fun f => .ok f) (getTS t)) (fun _ => .no) (Nat.ble 992 t) t) = .ok g' := h
  cases hb : Nat.ble 992 t with
  | true => rw [hb] at h; exact nomatch h
  | false =>
   rw [hb] at h
   have h : GR.ok (getTS t).f = .ok g' := h
   cases h
   refine ⟨(getT t).f, getTS_le t, fun α X k d hgl hkn => ?_⟩
   unfold opd
   dsimp only
   rw [hkn t]; dsimp only
   rw [hb]
 | const v =>
  have h : (@Option.rec V (fun _ => GR) .no (fun x => .ok fun _ k => k x) (constOf v)) = .ok g' := h
  cases hc : constOf v with
  | none => rw [hc] at h; exact nomatch h
  | some x =>
   rw [hc] at h
   cases h
   refine ⟨fun _ => x, fun e k => rfl, fun α X k d hgl hkn => ?_⟩
   unfold opd
   dsimp only
   rw [hc]
 | global g =>
  have h : (@Bool.rec (fun _ => Nat → GR) (fun _ => .no) (fun g => .ok fun _ k => k (.ptr (Id.ofNat g) 0)) (gl.contains g) g) = .ok g' := h
  cases hc : gl.contains g with
  | false => rw [hc] at h; exact nomatch h
  | true =>
   rw [hc] at h
   cases h
   refine ⟨fun _ => .ptr (Id.ofNat g) 0, fun e k => rfl, fun α X k d hgl hkn => ?_⟩
   unfold opd
   dsimp only
   rw [hgl, hc, if_pos rfl]
 | func f =>
  cases h
  exact ⟨fun _ => .fn f .nil .nil, fun e k => rfl, fun α X k d hgl hkn => rfl⟩
theorem dstG_le {nt : Nat} {x : Option Tmp} {s' : SS} (h : dstG nt x = .ok s') : ∃ s, SLe s' s ∧ ∀ (α : Type) (X : Cx) (k : S → Fn1 α) (d : Fn1 α), X.nt = nt → dst X x k d = k s := by
 cases x with
 | none => cases h; exact ⟨fun e _ => e, fun e v k => rfl, fun α X k d hn => rfl⟩
 | some t =>
  have h : (@Bool.rec (fun _ => Nat → Nat → SR) (fun _ _ => .no) (fun t nt => @Bool.rec (fun _ => Nat → SR) (fun _ => .no) (fun t => @Fn1.rec SS (fun _ => SR) (fun f => .ok f) (setTS t)) (Nat.ble nt 992) t) (Nat.ble (Nat.succ t) nt) t nt) = .ok s' := h
  cases h1 : Nat.ble (Nat.succ t) nt with
  | false => rw [h1] at h; exact nomatch h
  | true =>
   rw [h1] at h
   dsimp only at h
   cases h2 : Nat.ble nt 992 with
   | false => rw [h2] at h; exact nomatch h
   | true =>
    rw [h2] at h
    have h : SR.ok (setTS t).f = .ok s' := h
    cases h
    refine ⟨(setT t).f, setTS_le t, fun α X k d hn => ?_⟩
    unfold dst
    dsimp only
    rw [hn, h1]; dsimp only
    rw [h2]
theorem opdsG_le {gl : List Nat} : ∀ {l : List Operand} {g' : GS}, opdsG gl l = .ok g' → ∃ g, GLe g' g ∧ ∀ (α : Type) (X : Cx) (k : G → Fn1 α) (d : Fn1 α), X.gl = gl → (∀ t, X.kn t = true) → opds X l k d = k g
 | [], g', h => by cases h; exact ⟨fun _ => .nil, fun e k => rfl, fun α X k d hgl hkn => rfl⟩
 | x :: l, g', h => by
  have h : (@GR.rec (fun _ => GR → GR) (fun g ih => @GR.rec (fun _ => GS → GR) (fun gs g => .ok fun e k => g e fun v => gs e fun l => k (.cons v l)) (fun _ => .no) ih g) (fun _ => .no) (opdG gl x) (opdsG gl l)) = .ok g' := h
  cases h1 : opdG gl x with
  | no => rw [h1] at h; exact nomatch h
  | ok g1 =>
   rw [h1] at h
   dsimp only at h
   cases h2 : opdsG gl l with
   | no => rw [h2] at h; exact nomatch h
   | ok g2 =>
    rw [h2] at h
    cases h
    obtain ⟨a, ha, ea⟩ := opdG_le h1
    obtain ⟨b, hb, eb⟩ := opdsG_le h2
    refine ⟨fun e => .cons (a e) (b e), fun e k => ?_, fun α X k d hgl hkn => ?_⟩
    ·dsimp only; rw [ha, hb]
    ·simp only [opds]; rw [ea _ _ _ _ hgl hkn, eb _ _ _ _ hgl hkn]
theorem opdOG_le {gl : List Nat} {x : Option Operand} {g' : ES → (Option V → R) → R} (h : opdOG gl x = .ok g') : ∃ g : Env → Option V, (∀ e k, g' (enc e) k = k (g e)) ∧ ∀ (α : Type) (X : Cx) (k : (Env → Option V) → Fn1 α) (d : Fn1 α), X.gl = gl → (∀ t, X.kn t = true) → opdO X x k d = k g := by
 cases x with
 | none => cases h; exact ⟨fun _ => none, fun e k => rfl, fun α X k d hgl hkn => rfl⟩
 | some x =>
  have h : (@GR.rec (fun _ => GOR) (fun g => .ok fun e k => g e fun v => k (some v)) .no (opdG gl x)) = .ok g' := h
  cases h1 : opdG gl x with
  | no => rw [h1] at h; exact nomatch h
  | ok g1 =>
   rw [h1] at h
   cases h
   obtain ⟨a, ha, ea⟩ := opdG_le h1
   refine ⟨fun e => some (a e), fun e k => ?_, fun α X k d hgl hkn => ?_⟩
   ·dsimp only; rw [ha]
   ·simp only [opdO]; rw [ea _ _ _ _ hgl hkn]
theorem intOpS_le (op : BinOp) {kd : IntKind} {a b : Nat} {k' : V → R} {k : V → Out} {G : Out → Prop} (hk : ∀ v, k' v = .good → G (k v)) (hg : (intOpS op).f kd a b k' = .good) : G ((intOp op).f kd a b k) := by
 cases op <;> first | exact hk _ hg | exact (bad_ne hg).elim | skip
 all_goals
  simp only [intOpS, intOp] at hg ⊢
  try
   cases h0 : Nat.beq b 0 <;> rw [h0] at hg <;> (try exact (bad_ne hg).elim)
   try dsimp only
  cases h1 : isNeg kd a <;> rw [h1] at hg <;> (try exact (bad_ne hg).elim)
  try dsimp only
  cases h2 : isNeg kd b <;> rw [h2] at hg <;> first | exact (bad_ne hg).elim | exact hk _ hg
theorem strOpS_le (op : BinOp) {la a lb b : Nat} {k' : V → R} {k : V → Out} {G : Out → Prop} (hk : ∀ v, k' v = .good → G (k v)) (hg : (strOpS op).f la a lb b k' = .good) : G ((strOp op).f la a lb b k) := by
 cases op <;> try exact (bad_ne hg).elim
 simp only [strOpS, strOp] at hg ⊢
 cases h0 : Nat.ble (Nat.add la lb) 1000000000 <;> rw [h0] at hg
 ·exact (bad_ne hg).elim
 ·exact hk _ hg
theorem ptrEqS_le {h : H} {i j : Id} {o p : Nat} {k : Bool → R} (hg : ptrEqS (encH h) i o j p k = .good) : ∃ b, ptrEq h i o j p = some b ∧ k b = .good := by
 unfold ptrEqS at hg
 unfold ptrEq
 cases h0 : Id.eqb i j with
 | true => rw [h0] at hg; exact ⟨_, rfl, hg⟩
 | false =>
  rw [h0] at hg
  obtain ⟨c, n, x, a, hb, hg⟩ := liveAt_le hg
  rw [hb]
  dsimp only at hg ⊢
  cases x with
  | true => exact (bad_ne hg).elim
  | false =>
   obtain ⟨c, n, x, a, hb, hg⟩ := liveAt_le hg
   dsimp only
   rw [hb]
   dsimp only at hg ⊢
   cases x with
   | true => exact (bad_ne hg).elim
   | false => exact ⟨_, rfl, hg⟩
theorem eqSKS_le {s : SK} {x y : V} {h : H} {k : Bool → R} (hg : eqSKS s x y (encH h) k = .good) : ∃ b, eqSK s x y h = some b ∧ k b = .good := by
 cases s with
 | int =>
  cases x <;> try exact (bad_ne hg).elim
  rename_i kd a
  cases y <;> try exact (bad_ne hg).elim
  rename_i j b
  have hg : (@Bool.rec (fun _ => Nat → Nat → (Bool → R) → R) (fun _ _ _ => .bad) (fun a b k => k (Nat.beq a b)) (keq kd j) a b k) = .good := hg
  simp only [eqSK]
  cases h0 : keq kd j <;> rw [h0] at hg
  ·exact (bad_ne hg).elim
  ·exact ⟨_, rfl, hg⟩
 | str =>
  cases x <;> try exact (bad_ne hg).elim
  cases y <;> try exact (bad_ne hg).elim
  exact ⟨_, rfl, hg⟩
 | bool =>
  cases x <;> try exact (bad_ne hg).elim
  rename_i a
  cases y <;> try exact (bad_ne hg).elim
  cases a <;> exact ⟨_, rfl, hg⟩
 | ptr =>
  cases x <;> try exact (bad_ne hg).elim
  ·cases y <;> try exact (bad_ne hg).elim
   ·exact ptrEqS_le hg
   ·exact ⟨_, rfl, hg⟩
  ·cases y <;> try exact (bad_ne hg).elim
   ·exact ⟨_, rfl, hg⟩
   ·exact ⟨_, rfl, hg⟩
theorem eqCellsS_le : ∀ {l : List (Nat × SK)} {x y : V} {h : H} {k : Bool → R}, eqCellsS l x y (encH h) k = .good → ∃ b, eqCells l x y h = some b ∧ k b = .good
 | [], x, y, h, k, hg => ⟨_, rfl, hg⟩
 | (o, s) :: l, x, y, h, k, hg => by
  have hg : eqSKS s (V.nthF x o) (V.nthF y o) (encH h) (fun b => @Bool.rec (fun _ => V → V → HS → (Bool → R) → R) (fun _ _ _ k => k false) (fun x y h k => eqCellsS l x y h k) b x y (encH h) k) = .good := hg
  rw [V.nthF_eq] at hg
  obtain ⟨b, hb, hg⟩ := eqSKS_le hg
  simp only [eqCells]
  rw [hb]
  cases b with
  | true => exact eqCellsS_le hg
  | false => exact ⟨_, rfl, hg⟩
theorem eqVS_le {ek : EK} {x y : V} {h : H} {k : Bool → R} (hg : eqVS ek x y (encH h) k = .good) : ∃ b, eqV ek x y h = some b ∧ k b = .good := by
 cases ek with
 | sk s => exact eqSKS_le hg
 | agg l =>
  cases x <;> try exact (bad_ne hg).elim
  cases y <;> try exact (bad_ne hg).elim
  exact eqCellsS_le hg
 | ifc => cases x <;> (try exact (bad_ne hg).elim) <;> cases y <;> (try exact (bad_ne hg).elim) <;> exact ⟨_, rfl, hg⟩
 | slice => cases x <;> (try exact (bad_ne hg).elim) <;> cases y <;> (try exact (bad_ne hg).elim) <;> exact ⟨_, rfl, hg⟩
 | bad => exact (bad_ne hg).elim
theorem boundOfS_le {v : V} {y : Nat} {k' : Nat → R} {k : Nat → Out} {G : Out → Prop} (hk : ∀ n, k' n = .good → G (k n)) (hg : boundOfS v y k' = .good) : G (boundOf v y k) := by
 cases v <;> try exact (bad_ne hg).elim
 rename_i kd n
 have hg : (@Bool.rec (fun _ => Nat → Nat → (Nat → R) → R) (fun n y k => @Bool.rec (fun _ => Nat → (Nat → R) → R) (fun _ _ => .bad) (fun n k => k n) (Nat.ble n y) n k) (fun _ _ _ => .bad) (isNeg kd n) n y k') = .good := hg
 show G (@Bool.rec (fun _ => Out) (@Bool.rec (fun _ => Out) _ (k n) (Nat.ble n y)) _ (isNeg kd n))
 cases h0 : isNeg kd n <;> rw [h0] at hg
 ·dsimp only at hg ⊢
  cases h1 : Nat.ble n y <;> rw [h1] at hg
  ·exact (bad_ne hg).elim
  ·exact hk _ hg
 ·exact (bad_ne hg).elim
theorem boundOS_le {v : Option V} {d y : Nat} {k' : Nat → R} {k : Nat → Out} {G : Out → Prop} (hk : ∀ n, k' n = .good → G (k n)) (hg : boundOS v d y k' = .good) : G (boundO v d y k) := by
 cases v with
 | none => exact hk _ hg
 | some v => exact boundOfS_le hk hg
theorem strSliceVS_le {x : V} {lo hi : Option V} {k' : V → R} {k : V → Out} {G : Out → Prop} (hk : ∀ v, k' v = .good → G (k v)) (hg : strSliceVS x lo hi k' = .good) : G (strSliceV x lo hi k) := by
 cases x <;> try exact (bad_ne hg).elim
 exact boundOS_le (fun n hg => boundOS_le (fun m hg => hk _ hg) hg) hg
theorem sliceVS_le {z : Nat} {x : V} {lo hi mx : Option V} {k' : V → R} {k : V → Out} {G : Out → Prop} (hk : ∀ v, k' v = .good → G (k v)) (hg : sliceVS z x lo hi mx k' = .good) : G (sliceV z x lo hi mx k) := by
 cases x <;> try exact (bad_ne hg).elim
 ·rename_i i eo sz len cap
  simp only [sliceV]
  have hg : (@Bool.rec (fun _ => Id → Nat → Nat → Nat → Cap → Option V → Option V → Option V → (V → R) → R) (fun _ _ _ _ _ _ _ _ _ => .bad) _ (Nat.beq z sz) i eo sz len cap lo hi mx k') = .good := hg
  cases h0 : Nat.beq z sz <;> rw [h0] at hg
  ·exact (bad_ne hg).elim
  ·cases mx with
   | none => exact boundOS_le (fun n hg => boundOS_le (fun m hg => hk _ hg) hg) hg
   | some v => exact boundOfS_le (fun q hg => boundOS_le (fun n hg => boundOS_le (fun m hg => hk _ hg) hg) hg) hg
 ·cases mx with
  | none => exact boundOS_le (fun n hg => boundOS_le (fun m hg => hk _ hg) hg) hg
  | some v => exact boundOfS_le (fun q hg => boundOS_le (fun n hg => boundOS_le (fun m hg => hk _ hg) hg) hg) hg
theorem sliceCellsS_le {h : H} {x : V} {sz : Nat} {k' : Nat → V → R} {k : Nat → V → Out} {G : Out → Prop} (hk : ∀ n l, k' n l = .good → G (k n l)) (hg : sliceCellsS (encH h) x sz k' = .good) : G (sliceCells h x sz k) := by
 cases x <;> try exact (bad_ne hg).elim
 ·rename_i i eo sz' len cap
  simp only [sliceCells]
  have hg : (@Bool.rec (fun _ => Id → Nat → Nat → HS → Nat → (Nat → V → R) → R) (fun _ _ _ _ _ _ => .bad) (fun i eo len h sz k => @Bool.rec (fun _ => Id → Nat → Nat → HS → Nat → (Nat → V → R) → R) (fun i eo len h sz k => liveAt h i fun c n _ _ => @Bool.rec (fun _ => CellsS → Nat → Nat → Nat → (Nat → V → R) → R) (fun _ _ _ _ _ => .bad) (fun c eo len sz k => listS c (Nat.mul len sz) (Nat.mul eo sz) fun l => k len l) (Nat.ble (Nat.mul (Nat.add eo len) sz) n) c eo len sz k) (fun _ _ _ _ _ k => k 0 .nil) (Nat.beq len 0) i eo len h sz k) (Nat.beq sz sz') i eo len (encH h) sz k') = .good := hg
  cases h0 : Nat.beq sz sz' <;> rw [h0] at hg
  ·exact (bad_ne hg).elim
  ·dsimp only at hg ⊢
   cases len with
   | zero => exact hk _ _ hg
   | succ len =>
    have hg : liveAt (encH h) i (fun c n _ _ => @Bool.rec (fun _ => CellsS → Nat → Nat → Nat → (Nat → V → R) → R) (fun _ _ _ _ _ => .bad) (fun c eo len sz k => listS c (Nat.mul len sz) (Nat.mul eo sz) fun l => k len l) (Nat.ble (Nat.mul (Nat.add eo (len + 1)) sz) n) c eo (len + 1) sz k') = .good := hg
    obtain ⟨c, n, x, a, hb, hg⟩ := liveAt_le hg
    rw [hb]
    dsimp only at hg ⊢
    cases h1 : Nat.ble (Nat.mul (Nat.add eo (len + 1)) sz) n <;> rw [h1] at hg
    ·exact (bad_ne hg).elim
    ·dsimp only at hg ⊢
     rw [listS_enc] at hg
     exact hk _ _ hg
 ·exact hk _ _ hg
end Go.Ev.Sp
namespace Go.Ev.Sp
open Go Go.Ev
theorem appendGrowS_le {h : H} {l : V} {need sz : Nat} {anc : List Id} {k' : V → HS → R} {k : V → H → Out} {G : Out → Prop} (hk : ∀ v h', k' v (encH h') = .good → G (k v h')) (hg : appendGrowS (encH h) l need sz anc k' = .good) : G (appendGrow h l need sz anc k) := by
 obtain ⟨c, n, hp, hg⟩ := fromL_le hg
 unfold appendGrow
 rw [hp]
 exact newS_le (x := .live c n false anc) (fun i h' hg => hk _ _ hg) hg
theorem appendMaybeS_le {sz : Nat} {i : Id} {eo len n : Nat} {l : V} {h : H} {k' : V → HS → R} {k : V → H → Out} {G : Out → Prop} (hk : ∀ v h', k' v (encH h') = .good → G (k v h')) (hg : appendMaybeS sz i eo len n l (encH h) k' = .good) : G (appendMaybe sz i eo len n l h k) := by
 obtain ⟨c, m, x, a, hb, hg⟩ := liveAt_le hg
 unfold appendMaybe
 rw [hb]
 (try dsimp only at hg ⊢)
 cases x with
 | true => exact (bad_ne hg).elim
 | false =>
  (try dsimp only at hg ⊢)
  cases h0 : Nat.ble (Nat.mul (Nat.add (Nat.add eo len) n) sz) m <;> rw [h0] at hg <;> (try dsimp only at hg ⊢)
  ·cases h1 : Nat.beq (Nat.mul (Nat.add eo len) sz) m <;> rw [h1] at hg <;> (try dsimp only at hg ⊢)
   ·exact (bad_ne hg).elim
   ·cases eo with
    | zero =>
     have hg : pushS (encCells c) l m (fun c' m' => putS (encH h) i (fun _ _ L _ _ _ => L (encCells c) m true a) fun h => newS h (fun _ _ L _ _ _ => L c' m' false (.cons i a)) fun j h => k' (.sl j 0 sz (Nat.add len n) .grown) h) = .good := hg
     rw [pushS_enc] at hg
     try dsimp only
     cases hp : c.push l m with
     | none => rw [hp] at hg; exact (bad_ne hg).elim
     | some p =>
      obtain ⟨c', m'⟩ := p
      rw [hp] at hg
      (try dsimp only at hg ⊢)
      rw [putLive_enc] at hg
      exact newS_le (x := .live c' m' false (i :: a)) (fun j h' hg => hk _ _ hg) hg
    | succ eo =>
     have hg : listS (encCells c) (Nat.mul len sz) (Nat.mul (eo + 1) sz) (fun l0 => fromL (V.appF l0 l) fun c' m' => putS (encH h) i (fun _ _ L _ _ _ => L (encCells c) m true a) fun h => newS h (fun _ _ L _ _ _ => L c' m' false (.cons i a)) fun j h => k' (.sl j 0 sz (Nat.add len n) .grown) h) = .good := hg
     rw [listS_enc, V.appF_eq] at hg
     obtain ⟨c', m', hp, hg⟩ := fromL_le hg
     try dsimp only
     rw [hp]
     try dsimp only
     rw [putLive_enc] at hg
     exact newS_le (x := .live c' m' false (i :: a)) (fun j h' hg => hk _ _ hg) hg
  ·refine writableS_le (fun c m h' hg => ?_) hg
   (try dsimp only at hg ⊢)
   rw [storeListS_enc, putLive_enc] at hg
   exact hk _ _ hg
theorem appendVS_le {sz : Nat} {s x : V} {h : H} {k' : V → HS → R} {k : V → H → Out} {G : Out → Prop} (hk : ∀ v h', k' v (encH h') = .good → G (k v h')) (hg : appendVS sz s x (encH h) k' = .good) : G (appendV sz s x h k) := by
 unfold appendV
 refine sliceCellsS_le (fun n l hg2 => ?_) hg
 clear hg; have hg := hg2; clear hg2
 cases s <;> try exact (bad_ne hg).elim
 ·rename_i i eo sz' len cap
  (try dsimp only at hg ⊢)
  cases h0 : Nat.beq sz sz' <;> rw [h0] at hg <;> (try dsimp only at hg ⊢)
  ·exact (bad_ne hg).elim
  ·cases n with
   | zero => exact hk _ _ hg
   | succ n =>
    have hb0 : Nat.beq (n + 1) 0 = false := rfl
    rw [hb0] at hg
    (try dsimp only at hg ⊢)
    cases cap with
    | exact c =>
     show G (match Nat.ble (Nat.add len (n + 1)) c with
      | true => H.writable h i fun c' m h => (match Nat.ble (Nat.mul (Nat.add (Nat.add eo len) (n + 1)) sz) m with
       | true => k (.sl i eo sz (Nat.add len (n + 1)) (.exact c)) (H.put h i (.live (Cells.storeList c' l (Nat.mul (Nat.add eo len) sz)) m false []))
       | false => .bad "append: room")
      | false => sliceCells h (.sl i eo sz' len (.exact c)) sz fun _ l0 => appendGrow h (V.app l0 l) (Nat.add len (n + 1)) sz [] k)
     (try dsimp only at hg ⊢)
     cases h1 : Nat.ble (Nat.add len (n + 1)) c <;> rw [h1] at hg <;> (try dsimp only at hg ⊢)
     ·refine sliceCellsS_le (fun n' l0 hg => ?_) hg
      rw [V.appF_eq] at hg
      exact appendGrowS_le hk hg
     ·refine writableS_le (fun c' m h' hg => ?_) hg
      (try dsimp only at hg ⊢)
      cases h2 : Nat.ble (Nat.mul (Nat.add (Nat.add eo len) (n + 1)) sz) m <;> rw [h2] at hg <;> (try dsimp only at hg ⊢)
      ·exact (bad_ne hg).elim
      ·rw [storeListS_enc, putLive_enc] at hg
       exact hk _ _ hg
    | grown => exact appendMaybeS_le hk hg
    | «open» => exact (bad_ne hg).elim
 ·cases n with
  | zero => exact hk _ _ hg
  | succ n => exact appendGrowS_le hk hg
theorem lenSS_le {x : V} {k' : V → R} {k : V → Out} {G : Out → Prop} (hk : ∀ v, k' v = .good → G (k v)) (hg : lenSS x k' = .good) : G (lenS x k) := by
 cases x <;> first | exact (bad_ne hg).elim | exact hk _ hg
theorem lenLS_le {x : V} {k' : V → R} {k : V → Out} {G : Out → Prop} (hk : ∀ v, k' v = .good → G (k v)) (hg : lenLS x k' = .good) : G (lenL x k) := by
 cases x <;> first | exact (bad_ne hg).elim | exact hk _ hg
theorem lenMS_le {x : V} {h : H} {k' : V → R} {k : V → Out} {G : Out → Prop} (hk : ∀ v, k' v = .good → G (k v)) (hg : lenMS x (encH h) k' = .good) : G (lenM x h k) := by
 cases x <;> try exact (bad_ne hg).elim
 ·obtain ⟨es, c, hb, hg⟩ := mapAt_le hg
  unfold lenM
  try dsimp only
  rw [hb]
  (try dsimp only at hg ⊢)
  cases h0 : Nat.ble es.length 1000000 <;> rw [h0] at hg
  ·exact (bad_ne hg).elim
  ·exact hk _ hg
 ·exact hk _ hg
theorem findKS_le {ek : EK} {h : H} {key : V} {kn : R} {ks : Nat → V → R} : ∀ {es : List (V × V × Nat)} {i : Nat}, findKS ek (encH h) key es i kn ks = .good → (findK ek h key es i = .none ∧ kn = .good) ∨ ∃ n v, findK ek h key es i = .some n v ∧ ks n v = .good
 | [], i, hg => .inl ⟨rfl, hg⟩
 | (k', v, b0) :: es, i, hg => by
  have hg : eqVS ek key k' (encH h) (fun b => @Bool.rec (fun _ => (V × V × Nat) → EK → HS → V → Nat → R → (Nat → V → R) → R) (fun p ek h key i kn ks => findKS ek h key es (Nat.succ i) kn ks) (fun p ek h key i kn ks => ks i p.2.1) b (k', v, b0) ek (encH h) key i kn ks) = .good := hg
  obtain ⟨r, hr, hg⟩ := eqVS_le hg
  simp only [findK]
  rw [hr]
  cases r with
  | true => exact .inr ⟨_, _, rfl, hg⟩
  | false => exact findKS_le (es := es) hg
theorem keyKindS_eq (P : Program) (X : Cx) (hP : X.P = P) (t : TypeId) : keyKindS P X.eqs t = keyKind X t := by
 unfold keyKindS keyKind; rw [hP]; cases ekOf P X.eqs t <;> rfl
theorem keyFitS_eq (ek : EK) (sz : Nat) (v : V) : keyFitS ek sz v = keyFit ek sz v := by
 unfold keyFitS keyFit
 rw [V.lenF_eq]
 cases ek <;> first | rfl | (cases v <;> rfl)
theorem lookupVS_le {ek : EK} {ksz : Nat} {zero : V} {ok : Bool} {m key : V} {h : H} {k' : V → R} {k : V → Out} {G : Out → Prop} (hk : ∀ v, k' v = .good → G (k v)) (hg : lookupVS ek ksz zero ok m key (encH h) k' = .good) : G (lookupV ek ksz zero ok m key h k) := by
 cases m <;> try exact (bad_ne hg).elim
 obtain ⟨es, c, hb, hg⟩ := mapAt_le hg
 simp only [lookupV]
 rw [hb]
 (try dsimp only at hg ⊢)
 rw [keyFitS_eq] at hg
 cases h0 : keyFit ek ksz key <;> rw [h0] at hg <;> (try dsimp only at hg ⊢)
 ·exact (bad_ne hg).elim
 ·rcases findKS_le hg with ⟨e, hg⟩ | ⟨n, v, e, hg⟩ <;> rw [e] <;> exact hk _ hg
theorem mapUpdVS_le {ek : EK} {ksz : Nat} {m key v : V} {h : H} {k' : HS → R} {k : H → Out} {G : Out → Prop} (hk : ∀ h', k' (encH h') = .good → G (k h')) (hg : mapUpdVS ek ksz m key v (encH h) k' = .good) : G (mapUpdV ek ksz m key v h k) := by
 cases m <;> try exact (bad_ne hg).elim
 rename_i i
 obtain ⟨es, c, hb, hg⟩ := mapAt_le hg
 simp only [mapUpdV]
 rw [hb]
 (try dsimp only at hg ⊢)
 rw [keyFitS_eq] at hg
 cases h0 : keyFit ek ksz key <;> rw [h0] at hg <;> (try dsimp only at hg ⊢)
 ·exact (bad_ne hg).elim
 ·rcases findKS_le hg with ⟨e, hg⟩ | ⟨n, w, e, hg⟩ <;> rw [e] <;> (try dsimp only at hg ⊢)
  ·have hg := hg; rw [show mapS (es ++ [(key, v, c)]) (c + 1) = encBlk (.map (es ++ [(key, v, c)]) (c + 1)) from rfl, putS_enc] at hg
   exact hk _ hg
  ·cases h1 : isSk ek <;> rw [h1] at hg <;> (try dsimp only at hg ⊢)
   ·exact (bad_ne hg).elim
   ·rw [show mapS (setVal es n v) c = encBlk (.map (setVal es n v) c) from rfl, putS_enc] at hg
    exact hk _ hg
theorem rangeVS_le {x : V} {h : H} {k' : V → HS → R} {k : V → H → Out} {G : Out → Prop} (hk : ∀ v h', k' v (encH h') = .good → G (k v h')) (hg : rangeVS x (encH h) k' = .good) : G (rangeV x h k) := by
 cases x <;> try exact (bad_ne hg).elim
 rename_i i
 obtain ⟨es, c, hb, hg⟩ := mapAt_le hg
 simp only [rangeV]
 rw [hb]
 exact newS_le (x := .mapIter (some i) c [] c) (fun i h' hg => hk _ _ hg) hg
theorem ptr0S_le {x : V} {k : Id → R} (hg : ptr0S x k = .good) : ∃ i, x = .ptr i 0 ∧ k i = .good := by
 cases x <;> try exact (bad_ne hg).elim
 rename_i i o
 have hg : (@Bool.rec (fun _ => Id → (Id → R) → R) (fun _ _ => .bad) (fun i k => k i) (Nat.beq o 0) i k) = .good := hg
 cases o with
 | zero => exact ⟨i, rfl, hg⟩
 | succ o => exact (bad_ne hg).elim
theorem nextVS_le {st : Bool} {x : V} {h : H} {k' : V → HS → R} {k : V → H → Out} {G : Out → Prop} (hk : ∀ v h', k' v (encH h') = .good → G (k v h')) (hg : nextVS st x (encH h) k' = .good) : G (nextV st x h k) := by
 cases st with
 | true => exact (bad_ne hg).elim
 | false =>
  obtain ⟨i, rfl, hg⟩ := ptr0S_le hg
  obtain ⟨m, since, seen, last, hb, hg⟩ := iterAt_le hg
  simp only [nextV]
  rw [hb]
  cases m with
  | none => exact (bad_ne hg).elim
  | some m =>
   obtain ⟨es, c, hb2, hg⟩ := mapAt_le hg
   try dsimp only
   rw [hb2]
   (try dsimp only at hg ⊢)
   cases h0 : allGone seen es last <;> rw [h0] at hg <;> (try dsimp only at hg ⊢)
   ·cases h1 : leftOf seen es with
    | nil => rw [h1] at hg; exact hk _ _ hg
    | cons e l =>
     rw [h1] at hg
     cases l with
     | cons _ _ => exact (bad_ne hg).elim
     | nil =>
      (try dsimp only at hg ⊢)
      cases h2 : Nat.ble since e.2.2 <;> rw [h2] at hg <;> (try dsimp only at hg ⊢)
      ·rw [show iterS (some m) since (e.2.2 :: seen) c = encBlk (.mapIter (some m) since (e.2.2 :: seen) c) from rfl, putS_enc] at hg
       exact hk _ _ hg
      ·exact (bad_ne hg).elim
   ·exact (bad_ne hg).elim
theorem entryVS_le {x : V} {h : H} {k' : V → R} {k : V → Out} {G : Out → Prop} (hk : ∀ v, k' v = .good → G (k v)) (hg : entryVS x (encH h) k' = .good) : G (entryV x h k) := by
 obtain ⟨i, rfl, hg⟩ := ptr0S_le hg
 obtain ⟨m, since, seen, stepped, hb, hg⟩ := iterAt_le hg
 simp only [entryV]
 rw [hb]
 cases m with
 | none => exact (bad_ne hg).elim
 | some m =>
  cases seen with
  | nil => exact (bad_ne hg).elim
  | cons s r =>
   obtain ⟨es, c, hb2, hg⟩ := mapAt_le hg
   try dsimp only
   rw [hb2]
   (try dsimp only at hg ⊢)
   cases h0 : Nat.beq c stepped <;> rw [h0] at hg <;> (try dsimp only at hg ⊢)
   ·exact (bad_ne hg).elim
   ·cases h1 : findEntry es s with
    | none => rw [h1] at hg; exact (bad_ne hg).elim
    | some p => rw [h1] at hg; exact hk _ hg
theorem typeAssertVS_le {t : TypeId} {ok : Bool} {x : V} {k' : V → R} {k : V → Out} {G : Out → Prop} (hk : ∀ v, k' v = .good → G (k v)) (hg : typeAssertVS t ok x k' = .good) : G (typeAssertV t ok x k) := by
 cases x <;> try exact (bad_ne hg).elim
 rename_i u v
 simp only [typeAssertV]
 have hg : (@Bool.rec (fun _ => V → Bool → (V → R) → R) (fun _ _ _ => .bad) (fun v ok k => k (okTup ok v true)) (Nat.beq u t) v ok k') = .good := hg
 cases h0 : Nat.beq u t <;> rw [h0] at hg
 ·exact (bad_ne hg).elim
 ·exact hk _ hg
theorem defdS_le {v : V} {k' : V → R} {k : V → Out} {G : Out → Prop} (hk : ∀ v, k' v = .good → G (k v)) (hg : defdS v k' = .good) : G (defd v k) := by
 cases v <;> first | exact (bad_ne hg).elim | exact hk _ hg
end Go.Ev.Sp
namespace Go.Ev.Sp
open Go Go.Ev
def CallLe (c' : CallS) (c : Go.Ev.Call) : Prop :=
 ∀ f args h kv kp, c' f args (encH h) kv kp = .good → (∃ v h', c f args h = .val v h' ∧ kv v (encH h') = .good) ∨ ∃ v h', c f args h = .pan v h' ∧ kp v (encH h') = .good
def ZOk (call : Go.Ev.Call) (z : ZS) (G : Out → Prop) : Prop :=
 ∃ c kn kx kr kp, z = (fun K => K c kn kx kr kp) ∧ CallLe c call ∧ (∀ e h, kn (enc e) (encH h) = .good → G (.nrm e h)) ∧ (∀ i e h, kx i (enc e) (encH h) = .good → G (.ext i e h)) ∧
  (∀ e h, kr (enc e) (encH h) = .good → G (.ret e h)) ∧ (∀ v e h, kp v (enc e) (encH h) = .good → G (.pan v e h))
def OpLe (o' : OpS) (o : OpM) : Prop :=
 ∀ call z (G : Out → Prop) e h k' k, ZOk call z G → (∀ e h, k' (enc e) (encH h) = .good → G (k e h)) → o' z (enc e) (encH h) k' = .good → G (o call e h k)
theorem OpLe.bad (o : OpM) : OpLe badS.f o := fun call z G e h k' k hz hk hg => (bad_ne hg).elim
theorem op1_le {X : Cx} (hkn : ∀ t, X.kn t = true) {s' : SS} {s : S} (hs : SLe s' s) {x : Operand} {f : V → HS → (V → HS → R) → R} {y : G → Fn1 OpM} {d : Fn1 OpM}
  (hf : ∀ (g : G) call e h k (GG : Out → Prop) (kk : V → HS → R), (∀ v h', kk v (encH h') = .good → GG (k (s e v) h')) → f (g e) (encH h) kk = .good → GG ((y g).f call e h k)) : OpLe (op1 X.gl s' x f).f (opd X x y d).f := by
 intro call z G e h k' k hz hk hg
 unfold op1 at hg
 cases hx : opdG X.gl x with
 | no => rw [hx] at hg; exact (bad_ne hg).elim
 | ok g' =>
  rw [hx] at hg
  obtain ⟨g, hg', e1⟩ := opdG_le hx
  rw [e1 _ _ _ _ rfl hkn]
  have hg : g' (enc e) (fun v => f v (encH h) fun v h => s' (enc e) v fun e => k' e h) = .good := hg
  rw [hg'] at hg
  refine hf g call e h k G _ (fun v h' hv => ?_) hg
  rw [hs] at hv
  exact hk _ _ hv
theorem op2_le {X : Cx} (hkn : ∀ t, X.kn t = true) {s' : SS} {s : S} (hs : SLe s' s) {x1 x2 : Operand} {f : V → V → HS → (V → HS → R) → R} {y : G → G → Fn1 OpM} {d1 d2 : Fn1 OpM}
  (hf : ∀ (g1 g2 : G) call e h k (GG : Out → Prop) (kk : V → HS → R), (∀ v h', kk v (encH h') = .good → GG (k (s e v) h')) → f (g1 e) (g2 e) (encH h) kk = .good → GG ((y g1 g2).f call e h k)) :
  OpLe (op2 X.gl s' x1 x2 f).f (opd X x1 (fun g1 => opd X x2 (fun g2 => y g1 g2) d2) d1).f := by
 intro call z G e h k' k hz hk hg
 unfold op2 at hg
 cases hx : opdG X.gl x1 with
 | no => rw [hx] at hg; exact (bad_ne hg).elim
 | ok g1' =>
  rw [hx] at hg
  obtain ⟨g1, hg1, e1⟩ := opdG_le hx
  rw [e1 _ _ _ _ rfl hkn]
  cases hx2 : opdG X.gl x2 with
  | no => dsimp only at hg; rw [hx2] at hg; exact (bad_ne hg).elim
  | ok g2' =>
   dsimp only at hg
   rw [hx2] at hg
   obtain ⟨g2, hg2, e2⟩ := opdG_le hx2
   rw [e2 _ _ _ _ rfl hkn]
   have hg : g1' (enc e) (fun x => g2' (enc e) fun y => f x y (encH h) fun v h => s' (enc e) v fun e => k' e h) = .good := hg
   rw [hg1, hg2] at hg
   refine hf g1 g2 call e h k G _ (fun v h' hv => ?_) hg
   rw [hs] at hv
   exact hk _ _ hv
theorem op3_le {X : Cx} (hkn : ∀ t, X.kn t = true) {s' : SS} {s : S} (hs : SLe s' s) {x1 x2 x3 : Operand} {f : V → V → V → HS → (V → HS → R) → R} {y : G → G → G → Fn1 OpM} {d1 d2 d3 : Fn1 OpM}
  (hf : ∀ (g1 g2 g3 : G) call e h k (GG : Out → Prop) (kk : V → HS → R), (∀ v h', kk v (encH h') = .good → GG (k (s e v) h')) → f (g1 e) (g2 e) (g3 e) (encH h) kk = .good → GG ((y g1 g2 g3).f call e h k)) :
  OpLe (op3 X.gl s' x1 x2 x3 f).f (opd X x1 (fun g1 => opd X x2 (fun g2 => opd X x3 (fun g3 => y g1 g2 g3) d3) d2) d1).f := by
 intro call z G e h k' k hz hk hg
 unfold op3 at hg
 cases hx : opdG X.gl x1 with
 | no => rw [hx] at hg; exact (bad_ne hg).elim
 | ok g1' =>
  rw [hx] at hg
  obtain ⟨g1, hg1, e1⟩ := opdG_le hx
  rw [e1 _ _ _ _ rfl hkn]
  cases hx2 : opdG X.gl x2 with
  | no => dsimp only at hg; rw [hx2] at hg; exact (bad_ne hg).elim
  | ok g2' =>
   dsimp only at hg
   rw [hx2] at hg
   obtain ⟨g2, hg2, e2⟩ := opdG_le hx2
   rw [e2 _ _ _ _ rfl hkn]
   cases hx3 : opdG X.gl x3 with
   | no => dsimp only at hg; rw [hx3] at hg; exact (bad_ne hg).elim
   | ok g3' =>
    dsimp only at hg
    rw [hx3] at hg
    obtain ⟨g3, hg3, e3⟩ := opdG_le hx3
    rw [e3 _ _ _ _ rfl hkn]
    have hg : g1' (enc e) (fun x => g2' (enc e) fun y => g3' (enc e) fun w => f x y w (encH h) fun v h => s' (enc e) v fun e => k' e h) = .good := hg
    rw [hg1, hg2, hg3] at hg
    refine hf g1 g2 g3 call e h k G _ (fun v h' hv => ?_) hg
    rw [hs] at hv
    exact hk _ _ hv
def All2 {α β : Type} (r : α → β → Prop) : List α → List β → Prop
 | [], [] => True
 | a :: l, b :: m => r a b ∧ All2 r l m
 | _, _ => False
theorem All2.len {α β : Type} {r : α → β → Prop} : ∀ {l : List α} {m : List β}, All2 r l m → l.length = m.length
 | [], [], _ => rfl
 | _ :: _, _ :: _, h => congrArg (· + 1) (All2.len h.2)
theorem All2.set {α β : Type} {r : α → β → Prop} {a : α} {b : β} (hab : r a b) : ∀ {l : List α} {m : List β} (i : Nat), All2 r l m → All2 r (l.set i a) (m.set i b)
 | [], [], _, _ => trivial
 | _ :: _, _ :: _, 0, h => ⟨hab, h.2⟩
 | _ :: _, _ :: _, i + 1, h => ⟨h.1, All2.set hab i h.2⟩
theorem All2.map {α β γ : Type} {r : β → γ → Prop} {f : α → β} {g : α → γ} (h : ∀ a, r (f a) (g a)) : ∀ l : List α, All2 r (l.map f) (l.map g)
 | [] => trivial
 | a :: l => ⟨h a, All2.map h l⟩
def SrcLe : SrcS → Src → Prop
 | .z v, .z w => v = w
 | .s x, .s y => GLe x y
 | .a x i, .a y j => GLe x y ∧ i = j
 | _, _ => False
def PartLe (p : GS × Option Nat) (q : G × Option Nat) : Prop := GLe p.1 q.1 ∧ p.2 = q.2
def PlanLe (p : PlanS) (q : Plan) : Prop := All2 SrcLe p.cells q.cells ∧ All2 PartLe p.parts q.parts
theorem planSetS_le {x' : GS} {x : G} (hx : GLe x' x) (agg : Bool) (off : Nat) : ∀ (n k : Nat) {l' : List SrcS} {l : List Src}, All2 SrcLe l' l → All2 SrcLe (planSetS x' agg n k off l') (planSet x agg n k off l)
 | 0, k, _, _, h => h
 | n + 1, k, l', l, h => by
  show All2 SrcLe (planSetS x' agg n (Nat.succ k) off (l'.set (off + k) (@Bool.rec (fun _ => SrcS) (.s x') (.a x' k) agg))) (planSet x agg n (k + 1) off (l.set (off + k) (if agg then .a x k else .s x)))
  refine planSetS_le hx agg off n (k + 1) (All2.set ?_ _ h)
  cases agg with
  | true => exact ⟨hx, rfl⟩
  | false => exact hx
theorem planFillS_le {X : Cx} (hkn : ∀ t, X.kn t = true) {place : Nat → Option (Nat × TypeId)} : ∀ {l : List (Nat × Operand)} {p : PlanS} {q : Plan} {r : PlanS}, PlanLe p q → planFillS X.P X.gl place l p = some r → ∃ r', planFill X place l q = ⟨some r'⟩ ∧ PlanLe r r'
 | [], p, q, r, h, e => by cases e; exact ⟨q, rfl, h⟩
 | (i, x) :: rest, p, q, r, h, e => by
  have e : (@Option.rec (Nat × TypeId) (fun _ => Option PlanS) none (fun ot => @Option.rec PlanS (fun _ => Option PlanS) none (fun pl => planFillS X.P X.gl place rest pl) (planStepS X.P X.gl x ot.1 ot.2 p)) (place i)) = some r := e
  simp only [planFill]
  cases hp : place i with
  | none => rw [hp] at e; exact nomatch e
  | some ot =>
   obtain ⟨off, t⟩ := ot
   rw [hp] at e
   dsimp only at e ⊢
   cases hst : planStepS X.P X.gl x off t p with
   | none => rw [hst] at e; exact nomatch e
   | some p1 =>
    rw [hst] at e
    have e : planFillS X.P X.gl place rest p1 = some r := e
    unfold planStepS at hst
    cases hsc : scalarT X.P t with
    | none => rw [hsc] at hst; exact nomatch hst
    | some sc =>
     rw [hsc] at hst
     dsimp only at hst ⊢
     cases hc : (decide (p.cells.length < off + X.P.cellsOf t) || (sc && !(Nat.beq (X.P.cellsOf t) 1))) with
     | true => rw [hc] at hst; exact nomatch hst
     | false =>
      rw [hc] at hst
      dsimp only at hst
      cases hx : opdG X.gl x with
      | no => rw [hx] at hst; exact nomatch hst
      | ok g' =>
       rw [hx] at hst
       cases hst
       obtain ⟨g, hg', e1⟩ := opdG_le hx
       rw [Bool.or_eq_false_iff] at hc
       have hc1 := of_decide_eq_false hc.1
       rw [h.1.len] at hc1
       rw [if_neg (by
        rintro (h1 | ⟨h1, h2⟩)
        ·exact hc1 h1
        ·have h3 := hc.2
         rw [h1] at h3
         have h4 : Nat.beq (X.P.cellsOf t) 1 = true := by simpa using h3
         exact h2 (Nat.eq_of_beq_eq_true h4)), e1 _ _ _ _ rfl hkn]
       refine planFillS_le hkn (p := ⟨planSetS g' (!sc) (X.P.cellsOf t) 0 off p.cells, (g', @Bool.rec (fun _ => Option Nat) (some (X.P.cellsOf t)) none sc) :: p.parts⟩) ⟨planSetS_le hg' _ _ _ _ h.1, ⟨hg', ?_⟩, h.2⟩ e
       cases sc <;> rfl
theorem runSrcS_le {e : Env} {s' : SrcS} {s : Src} (h : SrcLe s' s) {k : V → R} (hg : runSrcS (enc e) s' k = .good) : k (runSrc e s) = .good := by
 revert hg
 cases s' <;> cases s <;> intro hg <;> try exact h.elim
 ·cases h; exact hg
 ·rename_i x' x
  have hg : x' (enc e) (fun v => k v) = .good := hg
  rw [show x' (enc e) (fun v => k v) = k (x e) from h e _] at hg; exact hg
 ·rename_i x' i x j
  obtain ⟨h, rfl⟩ := h
  have hg : x' (enc e) (fun v => _) = .good := hg
  rw [h] at hg
  simp only [runSrc]
  cases hv : x e <;> rw [hv] at hg <;> try exact (bad_ne hg).elim
  rw [V.nthF_eq] at hg
  exact hg
theorem runPlanS_le {e : Env} : ∀ {l' : List SrcS} {l : List Src} {k : V → R}, All2 SrcLe l' l → runPlanS (enc e) l' k = .good → k (runPlan e l) = .good
 | [], [], k, _, hg => hg
 | s' :: l', s :: l, k, h, hg => by
  have hg : runSrcS (enc e) s' (fun v => runPlanS (enc e) l' fun l => k (.cons v l)) = .good := hg
  have h1 := runSrcS_le h.1 hg
  exact runPlanS_le (k := fun l => k (.cons (runSrc e s) l)) h.2 h1
theorem checkPartS_le {e : Env} {x' : GS} {x : G} {n : Option Nat} {k : R} (h : GLe x' x) (hg : checkPartS (enc e) x' n k = .good) : checkPart e x n = true ∧ k = .good := by
 unfold checkPartS at hg
 rw [h] at hg
 cases n with
 | none =>
  have hg : (@Bool.rec (fun _ => R → R) (fun _ => .bad) (fun k => k) (V.isScalarF (x e)) k) = .good := hg
  simp only [checkPart]
  rw [V.isScalarF_eq] at hg
  cases hb : (x e).isScalar <;> rw [hb] at hg
  ·exact (bad_ne hg).elim
  ·exact ⟨rfl, hg⟩
 | some n =>
  simp only [checkPart]
  cases hv : x e <;> rw [hv] at hg <;> try exact (bad_ne hg).elim
  rename_i l
  have hg : (@Bool.rec (fun _ => R → R) (fun _ => .bad) (fun k => k) (Nat.beq (V.lenF l) n) k) = .good := hg
  rw [V.lenF_eq] at hg
  dsimp only
  cases hb : Nat.beq (V.len l) n <;> rw [hb] at hg
  ·exact (bad_ne hg).elim
  ·exact ⟨rfl, hg⟩
theorem checkPartsS_le {e : Env} : ∀ {l' : List (GS × Option Nat)} {l : List (G × Option Nat)} {k : R}, All2 PartLe l' l → checkPartsS (enc e) l' k = .good → checkParts e l = true ∧ k = .good
 | [], [], k, _, hg => ⟨rfl, hg⟩
 | (x', n') :: l', (x, n) :: l, k, h, hg => by
  obtain ⟨⟨h1, h2⟩, h3⟩ := h
  dsimp only at h1 h2
  subst h2
  have hg : checkPartS (enc e) x' n' (checkPartsS (enc e) l' k) = .good := hg
  obtain ⟨a, hg⟩ := checkPartS_le h1 hg
  obtain ⟨b, hg⟩ := checkPartsS_le h3 hg
  refine ⟨?_, hg⟩
  simp only [checkParts]
  rw [a]; exact b
end Go.Ev.Sp
namespace Go.Ev.Sp
open Go Go.Ev
variable {X : Cx} {o : Oper} {s' : SS} {s : S}
theorem isConstS_eq (x : Operand) : isConstS x = isConst x := by cases x <;> rfl
theorem ekAtS_eq (t : TypeId) (c : Bool) : ekAtS X.P X.eqs t c = ekAt X t c := by
 unfold ekAtS ekAt
 cases ekOf X.P X.eqs t <;> cases c <;> rfl
theorem alloc_le (hs : SLe s' s) {t : TypeId} (ho : o.op = .alloc t) : OpLe (cop_alloc X.P s' t).f (Go.Ev.compOpS X o s).f := by
 unfold Go.Ev.compOpS; rw [ho]; dsimp only
 intro call z G e h k' k hz hk hg
 unfold cop_alloc at hg
 cases hz0 : zeroCellsV X.P t with
 | none => rw [hz0] at hg; exact (bad_ne hg).elim
 | some zs =>
  rw [hz0] at hg
  obtain ⟨c, n, hp, hg⟩ := fromL_le hg
  have hb : blkOfList zs = some (c, n) := hp
  simp only [Option.bind]
  rw [hb]
  refine newS_le (x := .live c n false []) (fun i h' hg => ?_) hg
  try dsimp only at hg
  rw [hs] at hg
  exact hk _ _ hg
theorem build_le (hkn : ∀ t, X.kn t = true) (hs : SLe s' s) {t : TypeId} {parts : Array (Nat × Operand)} (ho : o.op = .build t parts) : OpLe (cop_build X.P X.gl s' t parts).f (Go.Ev.compOpS X o s).f := by
 unfold Go.Ev.compOpS; rw [ho]; dsimp only
 unfold cop_build
 cases hz0 : zeroCellsV X.P t with
 | none => exact OpLe.bad _
 | some zs =>
  try dsimp only
  show OpLe _ (Fn1.f (match some zs, placeOf X.P t with | some z, some place => _ | _, _ => _))
  cases hp : placeOf X.P t with
  | none => exact OpLe.bad _
  | some place =>
   try dsimp only
   cases hpf : planFillS X.P X.gl place parts.toList ⟨zs.map .z, []⟩ with
   | none => exact OpLe.bad _
   | some pl' =>
    obtain ⟨pl, e1, hpl⟩ := planFillS_le hkn (p := ⟨zs.map .z, []⟩) (q := ⟨zs.map .z, []⟩) ⟨All2.map (r := SrcLe) (f := SrcS.z) (g := Src.z) (fun a => rfl) zs, trivial⟩ hpf
    rw [e1]
    try dsimp only
    intro call z G e h k' k hz hk hg
    obtain ⟨cells', parts'⟩ := pl'
    obtain ⟨cells, ps⟩ := pl
    obtain ⟨h1, h2⟩ := hpl
    dsimp only at h1 h2
    cases parts' with
    | nil =>
     cases ps with
     | cons _ _ => exact h2.elim
     | nil =>
      have hg : s' (enc e) (.agg (V.ofList zs)) (fun e => k' e (encH h)) = .good := hg
      rw [hs] at hg
      exact hk _ _ hg
    | cons p l =>
     cases ps with
     | nil => exact h2.elim
     | cons q m =>
      have hg : checkPartsS (enc e) (p :: l) (runPlanS (enc e) cells' fun v => s' (enc e) (.agg v) fun e => k' e (encH h)) = .good := hg
      obtain ⟨a, hg⟩ := checkPartsS_le h2 hg
      have hg := runPlanS_le (k := fun v => s' (enc e) (.agg v) fun e => k' e (encH h)) h1 hg
      dsimp only at hg ⊢
      rw [a]
      rw [hs] at hg
      exact hk _ _ hg
theorem buildSlice_le (hkn : ∀ t, X.kn t = true) (hs : SLe s' s) {t : TypeId} {len : Nat} {parts : Array (Nat × Operand)} (ho : o.op = .buildSlice t len parts) : OpLe (cop_buildSlice X.P X.gl s' t len parts).f (Go.Ev.compOpS X o s).f := by
 unfold Go.Ev.compOpS; rw [ho]; dsimp only
 unfold cop_buildSlice
 cases he : elemOfSlice X.P t with
 | none => exact OpLe.bad _
 | some el =>
  try dsimp only
  cases hz0 : zeroCellsV X.P el with
  | none => exact OpLe.bad _
  | some zs =>
   try dsimp only
   cases hc : (Nat.beq zs.length 0 || !(Nat.beq zs.length (X.P.cellsOf el)) || Nat.ble 16001 (len * X.P.cellsOf el)) with
   | true => exact OpLe.bad _
   | false =>
    simp only [Bool.or_eq_false_iff, Bool.not_eq_eq_eq_not, Bool.not_false] at hc
    obtain ⟨⟨c1, c2⟩, c3⟩ := hc
    have d1 : zs.length ≠ 0 := fun h => by rw [h] at c1; exact nomatch c1
    have d2 : zs.length = X.P.cellsOf el := Nat.eq_of_beq_eq_true c2
    have d3 : ¬ 16000 < len * X.P.cellsOf el := fun h => by rw [Nat.ble_eq_true_of_le h] at c3; exact nomatch c3
    rw [if_neg (by rintro (h | h | h); exact d1 h; exact h d2; exact d3 h)]
    try dsimp only
    cases hpf : planFillS X.P X.gl (fun i => some (i * X.P.cellsOf el, el)) parts.toList ⟨(repeatL len zs).map .z, []⟩ with
    | none => exact OpLe.bad _
    | some pl' =>
     obtain ⟨pl, e1, hpl⟩ := planFillS_le hkn (p := ⟨(repeatL len zs).map .z, []⟩) (q := ⟨(repeatL len zs).map .z, []⟩) ⟨All2.map (r := SrcLe) (f := SrcS.z) (g := Src.z) (fun a => rfl) _, trivial⟩ hpf
     rw [e1]
     try dsimp only
     intro call z G e h k' k hz hk hg
     obtain ⟨cells', parts'⟩ := pl'
     obtain ⟨cells, ps⟩ := pl
     obtain ⟨h1, h2⟩ := hpl
     dsimp only at h1 h2
     cases parts' with
     | nil =>
      cases ps with
      | cons _ _ => exact h2.elim
      | nil =>
       obtain ⟨c, n, hp, hg⟩ := fromL_le hg
       have hb : blkOfList (repeatL len zs) = some (c, n) := hp
       try dsimp only
       rw [hb]
       refine newS_le (x := .live c n false []) (fun i h' hg => ?_) hg
       try dsimp only at hg
       rw [hs] at hg
       exact hk _ _ hg
     | cons p l =>
      cases ps with
      | nil => exact h2.elim
      | cons q m =>
       have hg : checkPartsS (enc e) (p :: l) (runPlanS (enc e) cells' fun v => newCellsS (encH h) v fun i h => s' (enc e) (.sl i 0 (X.P.cellsOf el) len (.exact len)) fun e => k' e h) = .good := hg
       obtain ⟨a, hg⟩ := checkPartsS_le h2 hg
       have hg := runPlanS_le (k := fun v => newCellsS (encH h) v fun i h => s' (enc e) (.sl i 0 (X.P.cellsOf el) len (.exact len)) fun e => k' e h) h1 hg
       dsimp only at hg ⊢
       rw [a]
       refine newCellsS_le (fun i h' hg => ?_) hg
       try dsimp only at hg
       rw [hs] at hg
       exact hk _ _ hg
theorem load_le (hkn : ∀ t, X.kn t = true) (hs : SLe s' s) {t : TypeId} {a : Operand} (ho : o.op = .load t a) : OpLe (cop_load X.P X.gl s' t a).f (Go.Ev.compOpS X o s).f := by
 unfold Go.Ev.compOpS; rw [ho]; dsimp only
 unfold cop_load scF
 cases hsc : scalarT X.P t with
 | none =>
  try dsimp only
  intro call z G e h k' k hz hk hg
  unfold op1 at hg
  cases hx : opdG X.gl a with
  | no => rw [hx] at hg; exact (bad_ne hg).elim
  | ok g' =>
   rw [hx] at hg
   obtain ⟨g, hg', e1⟩ := opdG_le hx
   have hg : g' (enc e) (fun _ => .bad) = .good := hg
   rw [hg'] at hg; exact (bad_ne hg).elim
 | some b =>
  cases b with
  | true =>
   refine op1_le hkn hs (fun g call e h k GG kk hk hg => ?_)
   dsimp only at hg ⊢
   cases hv : g e <;> rw [hv] at hg <;> try exact (bad_ne hg).elim
   exact loadOneS_le (fun v hg => hk _ _ hg) hg
  | false =>
   refine op1_le hkn hs (fun g call e h k GG kk hk hg => ?_)
   dsimp only at hg ⊢
   cases hv : g e <;> rw [hv] at hg <;> try exact (bad_ne hg).elim
   exact loadAggS_le (fun v hg => hk _ _ hg) hg
theorem store_le (hkn : ∀ t, X.kn t = true) (hs : SLe s' s) {t : TypeId} {a x : Operand} (ho : o.op = .store t a x) : OpLe (cop_store X.P X.gl s' t a x).f (Go.Ev.compOpS X o s).f := by
 unfold Go.Ev.compOpS; rw [ho]; dsimp only
 unfold cop_store
 cases hc : Nat.beq (X.P.cellsOf t) 0 with
 | true => exact OpLe.bad _
 | false =>
  rw [if_neg (fun h => by rw [h] at hc; exact nomatch hc)]
  try dsimp only
  refine op2_le hkn hs (fun g1 g2 call e h k GG kk hk hg => ?_)
  dsimp only at hg ⊢
  cases hv : g1 e <;> rw [hv] at hg <;> try exact (bad_ne hg).elim
  rename_i i o
  have hg := storeVS_le (G := GG) (k := fun h => k (s e .undef) h) (fun h' hg => hk _ _ hg) hg
  rw [storeVF_eq] at hg
  exact hg
theorem box_le (hkn : ∀ t, X.kn t = true) (hs : SLe s' s) {t : TypeId} {x : Operand} (ho : o.op = .box t x) : OpLe (cop_box X.gl s' x).f (Go.Ev.compOpS X o s).f := by
 unfold Go.Ev.compOpS; rw [ho]; dsimp only
 refine op1_le hkn hs (fun g call e h k GG kk hk hg => ?_)
 have hg := boxVS_le (G := GG) (k := fun i h => k (s e (.ptr i 0)) h) (fun i h' hg => hk _ _ hg) hg
 rw [boxVF_eq] at hg
 exact hg
theorem move_le (hkn : ∀ t, X.kn t = true) (hs : SLe s' s) {x : Operand} {d : Fn1 OpM} : OpLe (cop_move X.gl s' x).f (opd X x (fun g => ⟨fun _ e h k => k (s e (g e)) h⟩) d).f := by
 intro call z G e h k' k hz hk hg
 unfold cop_move at hg
 cases hx : opdG X.gl x with
 | no => rw [hx] at hg; exact (bad_ne hg).elim
 | ok g' =>
  rw [hx] at hg
  obtain ⟨g, hg', e1⟩ := opdG_le hx
  rw [e1 _ _ _ _ rfl hkn]
  have hg : g' (enc e) (fun v => s' (enc e) v fun e => k' e (encH h)) = .good := hg
  rw [hg', hs] at hg
  exact hk _ _ hg
theorem pick_le (hkn : ∀ t, X.kn t = true) (hs : SLe s' s) {c a b : Operand} (ho : o.op = .pick c a b) : OpLe (cop_pick X.gl s' c a b).f (Go.Ev.compOpS X o s).f := by
 unfold Go.Ev.compOpS; rw [ho]; dsimp only
 refine op3_le hkn hs (fun g1 g2 g3 call e h k GG kk hk hg => ?_)
 dsimp only at hg ⊢
 cases hv : g1 e <;> rw [hv] at hg <;> try exact (bad_ne hg).elim
 rename_i b
 cases b <;> exact hk _ _ hg
theorem nilCheck_le (hkn : ∀ t, X.kn t = true) (hs : SLe s' s) {x : Operand} (ho : o.op = .nilCheck x) : OpLe (cop_nilCheck X.gl s' x).f (Go.Ev.compOpS X o s).f := by
 unfold Go.Ev.compOpS; rw [ho]; dsimp only
 refine op1_le hkn hs (fun g call e h k GG kk hk hg => ?_)
 dsimp only at hg ⊢
 cases hv : g e <;> rw [hv] at hg <;> first | exact (bad_ne hg).elim | exact hk _ _ hg
theorem eqlF_le {neg : Bool} {ek : EK} {x y : V} {h : H} {kk : V → HS → R} (hg : eqlF neg ek x y (encH h) kk = .good) :
  (∃ kd a yk b, x = .int kd a ∧ y = .int yk b ∧ keq kd yk = true ∧ kk (.bool (xor neg (Nat.beq a b))) (encH h) = .good) ∨
  (∃ la a lb b, x = .str la a ∧ y = .str lb b ∧ kk (.bool (xor neg (strEq la a lb b))) (encH h) = .good) ∨
  ((∀ kd a, x ≠ .int kd a) ∧ (∀ la a, x ≠ .str la a) ∧ ∃ b, eqV ek x y h = some b ∧ kk (.bool (xor neg b)) (encH h) = .good) := by
 cases x
 case int kd a =>
  cases y <;> try exact (bad_ne hg).elim
  rename_i yk b
  have hg : (@Bool.rec (fun _ => Bool → Nat → Nat → HS → (V → HS → R) → R) (fun _ _ _ _ _ => .bad) (fun neg a b h k => k (.bool (xor neg (Nat.beq a b))) h) (keq kd yk) neg a b (encH h) kk) = .good := hg
  cases h0 : keq kd yk <;> rw [h0] at hg
  ·exact (bad_ne hg).elim
  ·exact .inl ⟨_, _, _, _, rfl, rfl, h0, hg⟩
 case str la a =>
  cases y <;> try exact (bad_ne hg).elim
  exact .inr (.inl ⟨_, _, _, _, rfl, rfl, hg⟩)
 all_goals
  obtain ⟨b, h1, h2⟩ := eqVS_le hg
  exact .inr (.inr ⟨by simp, by simp, b, h1, h2⟩)
theorem binF_le {op : BinOp} {x y : V} {h : H} {kk : V → HS → R} (hg : binF (intOpS op).f (strOpS op).f x y (encH h) kk = .good) :
  (∃ kd a yk b, x = .int kd a ∧ y = .int yk b ∧ keq kd yk = true ∧ (intOpS op).f kd a b (fun v => kk v (encH h)) = .good) ∨
  (∃ la a lb b, x = .str la a ∧ y = .str lb b ∧ (strOpS op).f la a lb b (fun v => kk v (encH h)) = .good) := by
 cases x <;> try exact (bad_ne hg).elim
 case int kd a =>
  cases y <;> try exact (bad_ne hg).elim
  rename_i yk b
  have hg : (@Bool.rec (fun _ => (IntKind → Nat → Nat → (V → R) → R) → IntKind → Nat → Nat → HS → (V → HS → R) → R) (fun _ _ _ _ _ _ => .bad) (fun fi kd a b h k => fi kd a b fun v => k v h) (keq kd yk) (intOpS op).f kd a b (encH h) kk) = .good := hg
  cases h0 : keq kd yk <;> rw [h0] at hg
  ·exact (bad_ne hg).elim
  ·exact .inl ⟨_, _, _, _, rfl, rfl, h0, hg⟩
 case str la a =>
  cases y <;> try exact (bad_ne hg).elim
  exact .inr ⟨_, _, _, _, rfl, rfl, hg⟩
theorem remF_le {fi : IntKind → Nat → Nat → (V → R) → R} {fs : Nat → Nat → Nat → Nat → (V → R) → R} {x y : V} {h : HS} {k : V → HS → R} (hg : remF fi fs x y h k = .good) :
  (∃ kd m k2 r yk d, x = .cons (.int kd m) (.int k2 r) ∧ y = .int yk d ∧ keq kd yk = true ∧ Nat.beq m d = true ∧ Nat.beq m 0 = false ∧ Nat.beq (khalf kd) 0 = true ∧ k (.int kd r) h = .good) ∨ binF fi fs x y h k = .good := by
 unfold remF at hg
 split at hg
 ·split at hg
  ·unfold remModS at hg
   split at hg
   ·rename_i q1 q2 q3 q4
    exact .inl ⟨_, _, _, _, _, _, rfl, rfl, q1, q2, q3, q4, hg⟩
   ·exact (bad_ne hg).elim
  ·exact (bad_ne hg).elim
 ·exact .inr hg
theorem shlF_le {x y : V} {h : HS} {k : V → HS → R} (hg : shlF x y h k = .good) : ∃ kd a yk b, x = .int kd a ∧ y = .int yk b ∧ shOk kd yk b = true ∧ k (.int kd (Nat.mod (Nat.mul a (Nat.pow 2 b)) (kmod kd))) h = .good := by
 cases x <;> try exact (bad_ne hg).elim
 rename_i kd a
 cases y <;> try exact (bad_ne hg).elim
 rename_i yk b
 unfold shlF at hg
 (try dsimp only at hg)
 cases h0 : shOk kd yk b <;> rw [h0] at hg
 ·exact (bad_ne hg).elim
 ·exact ⟨_, _, _, _, rfl, rfl, h0, hg⟩
theorem shrF_le {x y : V} {h : HS} {k : V → HS → R} (hg : shrF x y h k = .good) : ∃ kd a yk b, x = .int kd a ∧ y = .int yk b ∧ shrOk kd a yk b = true ∧ k (.int kd (Nat.div a (Nat.pow 2 b))) h = .good := by
 cases x <;> try exact (bad_ne hg).elim
 rename_i kd a
 cases y <;> try exact (bad_ne hg).elim
 rename_i yk b
 unfold shrF at hg
 (try dsimp only at hg)
 cases h0 : shrOk kd a yk b <;> rw [h0] at hg
 ·exact (bad_ne hg).elim
 ·exact ⟨_, _, _, _, rfl, rfl, h0, hg⟩
theorem binOpM_le {op : BinOp} {ek : EK} {g1 g2 : G} {call : Go.Ev.Call} {e : Env} {h : H} {k : K} {GG : Out → Prop} {kk : V → HS → R} (hk : ∀ v h', kk v (encH h') = .good → GG (k (s e v) h'))
  (hg : (binFS op ek).f (g1 e) (g2 e) (encH h) kk = .good) : GG ((binOpM op ek g1 g2 s).f call e h k) := by
 have gen : ∀ op, (intOp op).f = (intOp op).f → (∀ (_ : binF (intOpS op).f (strOpS op).f (g1 e) (g2 e) (encH h) kk = .good), GG ((@V.rec (fun _ => Env → H → K → Out)
   (fun e h k => .bad "binOp") (fun _ e h k => .bad "binOp") (fun kd a e h k => @V.rec (fun _ => IntKind → Nat → Env → H → K → Out) (fun _ _ _ _ _ => .bad "binOp") (fun _ _ _ _ _ _ => .bad "binOp") (fun yk b kd a e h k => @Bool.rec (fun _ => IntKind → Nat → Nat → Env → H → K → Out) (fun _ _ _ _ _ _ => .bad "kinds") (fun kd a b e h k => (intOp op).f kd a b fun v => k (s e v) h) (keq kd yk) kd a b e h k) (fun _ _ _ _ _ _ _ => .bad "binOp") (fun _ _ _ _ _ _ _ => .bad "binOp") (fun _ _ _ _ _ => .bad "binOp") (fun _ _ _ _ _ _ _ _ _ _ => .bad "binOp") (fun _ _ _ _ _ => .bad "binOp") (fun _ _ _ _ _ _ => .bad "binOp") (fun _ _ _ _ _ => .bad "binOp") (fun _ _ _ _ _ _ _ _ _ _ => .bad "binOp") (fun _ _ _ _ _ => .bad "binOp") (fun _ _ _ _ _ _ _ _ => .bad "binOp") (fun _ _ _ _ _ => .bad "binOp") (fun _ _ _ _ _ _ _ => .bad "binOp") (fun _ _ _ _ _ _ _ => .bad "binOp") (fun _ _ _ _ _ => .bad "binOp") (fun _ _ _ _ _ _ _ _ _ => .bad "binOp") (g2 e) kd a e h k)
   (fun la a e h k => @V.rec (fun _ => Nat → Nat → Env → H → K → Out) (fun _ _ _ _ _ => .bad "binOp") (fun _ _ _ _ _ _ => .bad "binOp") (fun _ _ _ _ _ _ _ => .bad "binOp") (fun lb b la a e h k => (strOp op).f la a lb b fun v => k (s e v) h) (fun _ _ _ _ _ _ _ => .bad "binOp") (fun _ _ _ _ _ => .bad "binOp") (fun _ _ _ _ _ _ _ _ _ _ => .bad "binOp") (fun _ _ _ _ _ => .bad "binOp") (fun _ _ _ _ _ _ => .bad "binOp") (fun _ _ _ _ _ => .bad "binOp") (fun _ _ _ _ _ _ _ _ _ _ => .bad "binOp") (fun _ _ _ _ _ => .bad "binOp") (fun _ _ _ _ _ _ _ _ => .bad "binOp") (fun _ _ _ _ _ => .bad "binOp") (fun _ _ _ _ _ _ _ => .bad "binOp") (fun _ _ _ _ _ _ _ => .bad "binOp") (fun _ _ _ _ _ => .bad "binOp") (fun _ _ _ _ _ _ _ _ _ => .bad "binOp") (g2 e) la a e h k)
   (fun _ _ e h k => .bad "binOp") (fun e h k => .bad "binOp") (fun _ _ _ _ _ e h k => .bad "binOp") (fun e h k => .bad "binOp") (fun _ e h k => .bad "binOp") (fun e h k => .bad "binOp") (fun _ _ _ _ _ e h k => .bad "binOp") (fun e h k => .bad "binOp") (fun _ _ _ e h k => .bad "binOp") (fun e h k => .bad "binOp") (fun _ _ e h k => .bad "binOp") (fun _ _ e h k => .bad "binOp") (fun e h k => .bad "binOp") (fun a b _ _ e h k => remModV op a b (g2 e) fun v => k (s e v) h) (g1 e) e h k))) := by
  intro op _ hg
  rcases binF_le hg with ⟨kd, a, yk, b, e1, e2, e3, hg⟩ | ⟨la, a, lb, b, e1, e2, hg⟩ <;> rw [e1] <;> dsimp only <;> rw [e2] <;> dsimp only
  ·rw [e3]; exact intOpS_le op (fun v hg => hk _ _ hg) hg
  ·exact strOpS_le op (fun v hg => hk _ _ hg) hg
 have eqc : ∀ neg, eqlF neg ek (g1 e) (g2 e) (encH h) kk = .good → (∃ kd a yk b, g1 e = .int kd a ∧ g2 e = .int yk b ∧ keq kd yk = true ∧ GG (k (s e (.bool (xor neg (Nat.beq a b)))) h)) ∨
  (∃ la a lb b, g1 e = .str la a ∧ g2 e = .str lb b ∧ GG (k (s e (.bool (xor neg (strEq la a lb b)))) h)) ∨
  ((∀ kd a, g1 e ≠ .int kd a) ∧ (∀ la a, g1 e ≠ .str la a) ∧ ∃ b, eqV ek (g1 e) (g2 e) h = some b ∧ GG (k (s e (.bool (xor neg b))) h)) := by
  intro neg hg
  rcases eqlF_le hg with ⟨kd, a, yk, b, e1, e2, e3, hg⟩ | ⟨la, a, lb, b, e1, e2, hg⟩ | ⟨n1, n2, b, e1, hg⟩
  ·exact .inl ⟨kd, a, yk, b, e1, e2, e3, hk _ _ hg⟩
  ·exact .inr (.inl ⟨la, a, lb, b, e1, e2, hk _ _ hg⟩)
  ·exact .inr (.inr ⟨n1, n2, b, e1, hk _ _ hg⟩)
 have key := gen op rfl
 cases op
 case rem =>
  have hg : remF (intOpS .rem).f (strOpS .rem).f (g1 e) (g2 e) (encH h) kk = .good := hg
  rcases remF_le hg with ⟨kd, m, k2, r, yk, d, e1, e2, q1, q2, q3, q4, hg⟩ | hg
  ·unfold binOpM
   dsimp only [intOp, strOp]; rw [e1]; dsimp only [remModV]; rw [e2]; dsimp only; rw [q1, q2, q3, q4]; exact hk _ _ hg
  ·exact key hg
 case shl =>
  have hg : shlF (g1 e) (g2 e) (encH h) kk = .good := hg
  unfold binOpM
  obtain ⟨kd, a, yk, b, e1, e2, e3, hg⟩ := shlF_le hg
  dsimp only [intOp, strOp]; rw [e1]; dsimp only; rw [e2]; dsimp only; rw [e3]; exact hk _ _ hg
 case shr =>
  have hg : shrF (g1 e) (g2 e) (encH h) kk = .good := hg
  unfold binOpM
  obtain ⟨kd, a, yk, b, e1, e2, e3, hg⟩ := shrF_le hg
  dsimp only [intOp, strOp]; rw [e1]; dsimp only; rw [e2]; dsimp only; rw [e3]; exact hk _ _ hg
 case eql =>
  have hg : eqlF false ek (g1 e) (g2 e) (encH h) kk = .good := hg
  unfold binOpM
  rcases eqc false hg with ⟨kd, a, yk, b, e1, e2, e3, hg⟩ | ⟨la, a, lb, b, e1, e2, hg⟩ | ⟨n1, n2, b, e1, hg⟩
  ·dsimp only [intOp, strOp]; rw [e1]; dsimp only; rw [e2]; dsimp only; rw [e3]; simpa using hg
  ·dsimp only [intOp, strOp]; rw [e1]; dsimp only; rw [e2]; dsimp only; simpa using hg
  ·dsimp only [intOp, strOp]
   cases hx : g1 e <;> (try exact absurd hx (n1 _ _)) <;> (try exact absurd hx (n2 _ _)) <;> (dsimp only; rw [e1]; simpa using hg)
 case neq =>
  have hg : eqlF true ek (g1 e) (g2 e) (encH h) kk = .good := hg
  unfold binOpM
  rcases eqc true hg with ⟨kd, a, yk, b, e1, e2, e3, hg⟩ | ⟨la, a, lb, b, e1, e2, hg⟩ | ⟨n1, n2, b, e1, hg⟩
  ·dsimp only [intOp, strOp]; rw [e1]; dsimp only; rw [e2]; dsimp only; rw [e3]; simpa using hg
  ·dsimp only [intOp, strOp]; rw [e1]; dsimp only; rw [e2]; dsimp only; simpa using hg
  ·dsimp only [intOp, strOp]
   cases hx : g1 e <;> (try exact absurd hx (n1 _ _)) <;> (try exact absurd hx (n2 _ _)) <;> (dsimp only; rw [e1]; simpa using hg)
 all_goals exact key hg
end Go.Ev.Sp
namespace Go.Ev.Sp
open Go Go.Ev
variable {X : Cx} {o : Oper} {s' : SS} {s : S}
theorem binOp_le (hkn : ∀ t, X.kn t = true) (hs : SLe s' s) {op : BinOp} {t yt : TypeId} {x y : Operand} (ho : o.op = .binOp op t x y yt) : OpLe (cop_binOp X.P X.gl X.eqs s' op t x y).f (Go.Ev.compOpS X o s).f := by
 unfold Go.Ev.compOpS; rw [ho]; (try dsimp only)
 unfold cop_binOp
 rw [ekAtS_eq, isConstS_eq, isConstS_eq]
 cases hb : binFS op (ekAt X t (isConst x || isConst y)) with
 | mk f =>
  (try dsimp only)
  refine op2_le hkn hs (y := fun g1 g2 => binOpM op (ekAt X t (isConst x || isConst y)) g1 g2 s) (fun g1 g2 call e h k GG kk hk hg => ?_)
  have hg : (binFS op (ekAt X t (isConst x || isConst y))).f (g1 e) (g2 e) (encH h) kk = .good := by rw [hb]; exact hg
  exact binOpM_le hk hg
theorem unOp_le (hkn : ∀ t, X.kn t = true) (hs : SLe s' s) {op : UnOp} {t : TypeId} {x : Operand} (ho : o.op = .unOp op t x) : OpLe (cop_unOp X.gl s' op x).f (Go.Ev.compOpS X o s).f := by
 unfold Go.Ev.compOpS; rw [ho]; (try dsimp only)
 unfold cop_unOp
 cases op <;> try exact OpLe.bad _
 all_goals
  refine op1_le hkn hs (fun g call e h k GG kk hk hg => ?_)
  (try dsimp only at hg ⊢)
  cases hv : g e <;> rw [hv] at hg <;> first | exact (bad_ne hg).elim | exact hk _ _ hg
theorem convert_le (hkn : ∀ t, X.kn t = true) (hs : SLe s' s) {st dt : TypeId} {x : Operand} (ho : o.op = .convert st dt x) : OpLe (cop_convert X.P X.gl s' st dt x).f (Go.Ev.compOpS X o s).f := by
 unfold Go.Ev.compOpS; rw [ho]; (try dsimp only)
 unfold cop_convert
 split
 ·rename_i k1 kd h1 h2
  rw [h1, h2]; (try dsimp only)
  refine op1_le hkn hs (fun g call e h k GG kk hk hg => ?_)
  (try dsimp only at hg ⊢)
  cases hv : g e <;> rw [hv] at hg <;> try exact (bad_ne hg).elim
  rename_i k' n
  have hg : (@Bool.rec (fun _ => Nat → HS → (V → HS → R) → R) (fun n h k => k (.int kd (Nat.mod n (kmod kd))) h) (fun _ _ _ => .bad) (isNeg k' n) n (encH h) kk) = .good := hg
  (try dsimp only)
  cases h0 : isNeg k' n <;> rw [h0] at hg
  ·exact hk _ _ hg
  ·exact (bad_ne hg).elim
 ·exact OpLe.bad _
theorem makeInterface_le (hkn : ∀ t, X.kn t = true) (hs : SLe s' s) {t : TypeId} {x : Operand} (ho : o.op = .makeInterface t x) : OpLe (cop_makeInterface X.P X.gl s' t x).f (Go.Ev.compOpS X o s).f := by
 unfold Go.Ev.compOpS; rw [ho]; (try dsimp only)
 unfold cop_makeInterface
 cases h0 : isIface X.P t with
 | true => exact OpLe.bad _
 | false => exact op1_le hkn hs (fun g call e h k GG kk hk hg => hk _ _ hg)
theorem makeFunc_le (hkn : ∀ t, X.kn t = true) (hs : SLe s' s) {fn : Fn} {a c : Array Operand} (ho : o.op = .makeFunc fn a c) : OpLe (cop_makeFunc X.gl s' fn a c).f (Go.Ev.compOpS X o s).f := by
 unfold Go.Ev.compOpS; rw [ho]
 unfold cop_makeFunc
 cases fn <;> try exact OpLe.bad _
 (try dsimp only)
 intro call z G e h k' k hz hk hg
 cases h1 : opdsG X.gl a.toList with
 | no => rw [h1] at hg; exact (bad_ne hg).elim
 | ok g1' =>
  rw [h1] at hg
  obtain ⟨g1, hg1, e1⟩ := opdsG_le h1
  rw [e1 _ _ _ _ rfl hkn]
  (try dsimp only at hg)
  cases h2 : opdsG X.gl c.toList with
  | no => rw [h2] at hg; exact (bad_ne hg).elim
  | ok g2' =>
   rw [h2] at hg
   obtain ⟨g2, hg2, e2⟩ := opdsG_le h2
   rw [e2 _ _ _ _ rfl hkn]
   rename_i f
   have hg : g1' (enc e) (fun a => g2' (enc e) fun c => s' (enc e) (.fn f a c) fun e => k' e (encH h)) = .good := hg
   rw [hg1, hg2, hs] at hg
   exact hk _ _ hg
theorem makeMap_le (hs : SLe s' s) {t : TypeId} {r : Option Operand} (ho : o.op = .makeMap t r) : OpLe (cop_makeMap s' r).f (Go.Ev.compOpS X o s).f := by
 unfold Go.Ev.compOpS; rw [ho]; (try dsimp only)
 unfold cop_makeMap
 cases r with
 | some _ => exact OpLe.bad _
 | none =>
  intro call z G e h k' k hz hk hg
  have hg : newS (encH h) (encBlk (.map [] 0)) (fun i h => s' (enc e) (.map i) fun e => k' e h) = .good := hg
  refine newS_le (x := .map [] 0) (fun i h' hg => ?_) hg
  (try dsimp only at hg)
  rw [hs] at hg
  exact hk _ _ hg
theorem makeSlice_le (hkn : ∀ t, X.kn t = true) (hs : SLe s' s) {t : TypeId} {l c : Operand} (ho : o.op = .makeSlice t l c) : OpLe (cop_makeSlice X.P X.gl s' t l c).f (Go.Ev.compOpS X o s).f := by
 unfold Go.Ev.compOpS; rw [ho]; (try dsimp only)
 unfold cop_makeSlice
 cases he : elemOfSlice X.P t with
 | none => exact OpLe.bad _
 | some el =>
  (try dsimp only)
  cases hz0 : zeroCellsV X.P el with
  | none => exact OpLe.bad _
  | some zs =>
   (try dsimp only)
   cases hc : (Nat.beq zs.length 0 || !(Nat.beq zs.length (X.P.cellsOf el)) || Nat.ble 100000001 (bytesOf X.P el)) with
   | true => exact OpLe.bad _
   | false =>
    simp only [Bool.or_eq_false_iff, Bool.not_eq_eq_eq_not, Bool.not_false] at hc
    obtain ⟨⟨c1, c2⟩, c3⟩ := hc
    have d1 : zs.length ≠ 0 := fun h => by rw [h] at c1; exact nomatch c1
    have d2 : zs.length = X.P.cellsOf el := Nat.eq_of_beq_eq_true c2
    have d3 : ¬ 100000000 < bytesOf X.P el := fun h => by rw [Nat.ble_eq_true_of_le h] at c3; exact nomatch c3
    rw [if_neg (by rintro (h | h | h); exact d1 h; exact h d2; exact d3 h)]
    refine op2_le hkn hs (fun g1 g2 call e h k GG kk hk hg => ?_)
    (try dsimp only at hg ⊢)
    cases hv : g1 e <;> rw [hv] at hg <;> try exact (bad_ne hg).elim
    rename_i kd n
    cases kd <;> try exact (bad_ne hg).elim
    cases hw : g2 e <;> rw [hw] at hg <;> try exact (bad_ne hg).elim
    rename_i kd m
    cases kd <;> try exact (bad_ne hg).elim
    have hg : (@Bool.rec (fun _ => Nat → Nat → List V → Nat → HS → (V → HS → R) → R) (fun _ _ _ _ _ _ => .bad) (fun n m z sz h k => newCellsS h (V.ofList (repeatL m z)) fun i h => k (.sl i 0 sz n (.exact m)) h) (true && Nat.ble n m && Nat.ble m 4000) n m zs (X.P.cellsOf el) (encH h) kk) = .good := hg
    (try dsimp only)
    cases h1 : Nat.ble n m <;> rw [h1] at hg
    ·exact (bad_ne hg).elim
    ·dsimp only
     cases h2 : Nat.ble m 4000 <;> rw [h2] at hg
     ·exact (bad_ne hg).elim
     ·exact newCellsS_le (fun i h' hg => hk _ _ hg) hg
theorem sliceRun_le (hkn : ∀ t, X.kn t = true) (hs : SLe s' s) {x : Operand} {lo hi mx : Option Operand} {f : V → Option V → Option V → Option V → (V → R) → R} {y : G → (Env → Option V) → (Env → Option V) → (Env → Option V) → Fn1 OpM} {d1 d2 d3 d4 : Fn1 OpM}
  (hf : ∀ g a b c call e h k (GG : Out → Prop) (kk : V → R), (∀ v, kk v = .good → GG (k (s e v) h)) → f (g e) (a e) (b e) (c e) kk = .good → GG ((y g a b c).f call e h k)) :
  OpLe (sliceRun X.gl s' x lo hi mx f).f (opd X x (fun g => opdO X lo (fun a => opdO X hi (fun b => opdO X mx (fun c => y g a b c) d4) d3) d2) d1).f := by
 intro call z G e h k' k hz hk hg
 unfold sliceRun at hg
 cases hx : opdG X.gl x with
 | no => rw [hx] at hg; exact (bad_ne hg).elim
 | ok g' =>
  rw [hx] at hg; (try dsimp only at hg)
  obtain ⟨g, hg', e1⟩ := opdG_le hx
  rw [e1 _ _ _ _ rfl hkn]
  cases h1 : opdOG X.gl lo with
  | no => rw [h1] at hg; exact (bad_ne hg).elim
  | ok a' =>
   rw [h1] at hg; (try dsimp only at hg)
   obtain ⟨a, ha, e1⟩ := opdOG_le h1
   rw [e1 _ _ _ _ rfl hkn]
   cases h2 : opdOG X.gl hi with
   | no => rw [h2] at hg; exact (bad_ne hg).elim
   | ok b' =>
    rw [h2] at hg; (try dsimp only at hg)
    obtain ⟨b, hb, e1⟩ := opdOG_le h2
    rw [e1 _ _ _ _ rfl hkn]
    cases h3 : opdOG X.gl mx with
    | no => rw [h3] at hg; exact (bad_ne hg).elim
    | ok c' =>
     rw [h3] at hg; (try dsimp only at hg)
     obtain ⟨c, hc, e1⟩ := opdOG_le h3
     rw [e1 _ _ _ _ rfl hkn]
     rw [hg', ha, hb, hc] at hg
     refine hf g a b c call e h k G _ (fun v hv => ?_) hg
     try dsimp only at hv
     rw [hs] at hv
     exact hk _ _ hv
theorem slice_le (hkn : ∀ t, X.kn t = true) (hs : SLe s' s) {t : TypeId} {x : Operand} {lo hi mx : Option Operand} (ho : o.op = .slice t x lo hi mx) : OpLe (cop_slice X.P X.gl s' t x lo hi mx).f (Go.Ev.compOpS X o s).f := by
 unfold Go.Ev.compOpS; rw [ho]; (try dsimp only)
 unfold cop_slice
 cases h0 : (mx.isSome && hi.isNone) with
 | true => exact OpLe.bad _
 | false =>
  rw [if_neg (by rintro ⟨a, b⟩; rw [a, b] at h0; exact nomatch h0)]
  (try dsimp only)
  split
  ·rename_i hu
   rw [hu]; (try dsimp only)
   cases mx with
   | some _ => exact OpLe.bad _
   | none =>
    rw [if_neg (by simp)]
    exact sliceRun_le hkn hs (y := fun g lo hi _ => ⟨fun _ e h k => strSliceV (g e) (lo e) (hi e) fun v => k (s e v) h⟩) (d4 := badOp "slice") (fun g a b c call e h k GG kk hk hg => strSliceVS_le (fun v hg => hk _ hg) hg)
  ·rename_i el hu
   rw [hu]; (try dsimp only)
   cases hc : Nat.beq (X.P.cellsOf el) 0 with
   | true => exact OpLe.bad _
   | false =>
    rw [if_neg (fun h => by rw [h] at hc; exact nomatch hc)]
    exact sliceRun_le hkn hs (fun g a b c call e h k GG kk hk hg => sliceVS_le (fun v hg => hk _ hg) hg)
  ·exact OpLe.bad _
theorem fieldAddr_le (hkn : ∀ t, X.kn t = true) (hs : SLe s' s) {t : TypeId} {x : Operand} {j : Nat} (ho : o.op = .fieldAddr t x j) : OpLe (cop_fieldAddr X.P X.gl s' t x j).f (Go.Ev.compOpS X o s).f := by
 unfold Go.Ev.compOpS; rw [ho]; (try dsimp only)
 unfold cop_fieldAddr
 split
 ·rename_i fs hfs
  rw [hfs]; (try dsimp only)
  split
  ·rename_i f hf
   rw [hf]; (try dsimp only)
   cases hc : Nat.beq (X.P.cellsOf f.type) 0 with
   | true => exact OpLe.bad _
   | false =>
    rw [if_neg (fun h => by rw [h] at hc; exact nomatch hc)]
    refine op1_le hkn hs (fun g call e h k GG kk hk hg => ?_)
    (try dsimp only at hg ⊢)
    cases hv : g e <;> rw [hv] at hg <;> first | exact (bad_ne hg).elim | exact hk _ _ hg
  ·exact OpLe.bad _
 ·exact OpLe.bad _
theorem field_le (hkn : ∀ t, X.kn t = true) (hs : SLe s' s) {t : TypeId} {x : Operand} {j : Nat} (ho : o.op = .field t x j) : OpLe (cop_field X.P X.gl s' t x j).f (Go.Ev.compOpS X o s).f := by
 unfold Go.Ev.compOpS; rw [ho]; (try dsimp only)
 unfold cop_field
 split
 ·rename_i fs hfs
  rw [hfs]; (try dsimp only)
  split
  ·rename_i f hf
   rw [hf]; (try dsimp only)
   split
   ·rename_i hsc
    rw [hsc]; (try dsimp only)
    refine op1_le hkn hs (fun g call e h k GG kk hk hg => ?_)
    rw [V.nthF_eq] at hg
    (try dsimp only at hg ⊢)
    cases hv : g e <;> rw [hv] at hg <;> try exact (bad_ne hg).elim
    exact defdS_le (fun v hg => hk _ _ hg) hg
   ·rename_i hsc
    rw [hsc]; (try dsimp only)
    refine op1_le hkn hs (fun g call e h k GG kk hk hg => ?_)
    rw [V.takeF_eq, V.dropF_eq] at hg
    (try dsimp only at hg ⊢)
    cases hv : g e <;> rw [hv] at hg <;> try exact (bad_ne hg).elim
    exact hk _ _ hg
   ·exact OpLe.bad _
  ·exact OpLe.bad _
 ·exact OpLe.bad _
theorem indexAddr_le (hkn : ∀ t, X.kn t = true) (hs : SLe s' s) {t : TypeId} {x ix : Operand} (ho : o.op = .indexAddr t x ix) : OpLe (cop_indexAddr X.P X.gl s' t x ix).f (Go.Ev.compOpS X o s).f := by
 unfold Go.Ev.compOpS; rw [ho]; (try dsimp only)
 unfold cop_indexAddr
 split
 ·rename_i el hu
  rw [hu]; (try dsimp only)
  cases hc : Nat.beq (X.P.cellsOf el) 0 with
  | true => exact OpLe.bad _
  | false =>
   rw [if_neg (fun h => by rw [h] at hc; exact nomatch hc)]
   refine op2_le hkn hs (fun g1 g2 call e h k GG kk hk hg => ?_)
   (try dsimp only at hg ⊢)
   cases hv : g1 e <;> rw [hv] at hg <;> try exact (bad_ne hg).elim
   rename_i i eo sz' len cap
   (try dsimp only)
   cases hw : g2 e <;> rw [hw] at hg <;> try exact (bad_ne hg).elim
   rename_i kd n
   (try dsimp only)
   cases h0 : isNeg kd n with
   | true =>
    have hg : (@Bool.rec (fun _ => Nat → Nat → Id → Nat → Nat → Nat → HS → (V → HS → R) → R) _ (fun _ _ _ _ _ _ _ _ => .bad) (isNeg kd n) n (X.P.cellsOf el) i eo sz' len (encH h) kk) = .good := hg
    rw [h0] at hg; exact (bad_ne hg).elim
   | false =>
    have hg : (@Bool.rec (fun _ => Nat → Nat → Id → Nat → Nat → Nat → HS → (V → HS → R) → R) _ (fun _ _ _ _ _ _ _ _ => .bad) (isNeg kd n) n (X.P.cellsOf el) i eo sz' len (encH h) kk) = .good := hg
    rw [h0] at hg
    (try dsimp only at hg ⊢)
    cases h1 : Nat.ble (Nat.succ n) len <;> rw [h1] at hg
    ·exact (bad_ne hg).elim
    ·dsimp only at hg ⊢
     cases h2 : Nat.beq (X.P.cellsOf el) sz' <;> rw [h2] at hg
     ·exact (bad_ne hg).elim
     ·exact hk _ _ hg
 ·exact OpLe.bad _
theorem index_le (hkn : ∀ t, X.kn t = true) (hs : SLe s' s) {t : TypeId} {x ix : Operand} (ho : o.op = .index t x ix) : OpLe (cop_index X.P X.gl s' t x ix).f (Go.Ev.compOpS X o s).f := by
 unfold Go.Ev.compOpS; rw [ho]; (try dsimp only)
 unfold cop_index
 split
 ·rename_i hu
  rw [hu]; (try dsimp only)
  refine op2_le hkn hs (fun g1 g2 call e h k GG kk hk hg => ?_)
  unfold indexF at hg
  (try dsimp only at hg ⊢)
  cases hv : g1 e <;> rw [hv] at hg <;> try exact (bad_ne hg).elim
  rename_i len bits
  (try dsimp only at hg ⊢)
  cases hw : g2 e <;> rw [hw] at hg <;> try exact (bad_ne hg).elim
  rename_i kd n
  (try dsimp only at hg ⊢)
  cases h0 : isNeg kd n <;> rw [h0] at hg
  ·dsimp only at hg ⊢
   cases h1 : Nat.ble (Nat.succ n) len <;> rw [h1] at hg
   ·exact (bad_ne hg).elim
   ·exact hk _ _ hg
  ·exact (bad_ne hg).elim
 ·exact OpLe.bad _
theorem lookup_le (hkn : ∀ t, X.kn t = true) (hs : SLe s' s) {t : TypeId} {x ix : Operand} {ok : Bool} (ho : o.op = .lookup t x ix ok) : OpLe (cop_lookup X.P X.gl X.eqs s' t x ix ok).f (Go.Ev.compOpS X o s).f := by
 unfold Go.Ev.compOpS; rw [ho]; (try dsimp only)
 unfold cop_lookup
 split
 ·rename_i kt et hu
  rw [hu]; (try dsimp only)
  split
  ·rename_i zv hz0
   rw [hz0]; (try dsimp only)
   rw [keyKindS_eq X.P X rfl]
   exact op2_le hkn hs (fun g1 g2 call e h k GG kk hk hg => lookupVS_le (fun v hg => hk _ _ hg) hg)
  ·exact OpLe.bad _
 ·exact OpLe.bad _
theorem mapUpdate_le (hkn : ∀ t, X.kn t = true) (hs : SLe s' s) {t : TypeId} {m kx x : Operand} (ho : o.op = .mapUpdate t m kx x ∨ o.op = .insert t m kx x) : OpLe (cop_mapUpdate X.P X.gl X.eqs s' t m kx x).f (Go.Ev.compOpS X o s).f := by
 rcases ho with ho | ho
 all_goals
  unfold Go.Ev.compOpS; rw [ho]; (try dsimp only)
  unfold cop_mapUpdate
  split
  ·rename_i kt et hu
   rw [hu]; (try dsimp only)
   rw [keyKindS_eq X.P X rfl]
   exact op3_le hkn hs (fun g1 g2 g3 call e h k GG kk hk hg => mapUpdVS_le (fun h' hg => hk _ _ hg) hg)
  ·exact OpLe.bad _
theorem range_le (hkn : ∀ t, X.kn t = true) (hs : SLe s' s) {t : TypeId} {x : Operand} (ho : o.op = .range t x) : OpLe (cop_range X.P X.gl s' t x).f (Go.Ev.compOpS X o s).f := by
 unfold Go.Ev.compOpS; rw [ho]; (try dsimp only)
 unfold cop_range
 split
 ·rename_i kt et hu
  rw [hu]; (try dsimp only)
  exact op1_le hkn hs (fun g call e h k GG kk hk hg => rangeVS_le (fun v h' hg => hk v h' hg) hg)
 ·exact OpLe.bad _
theorem next_le (hkn : ∀ t, X.kn t = true) (hs : SLe s' s) {it : Operand} {st : Bool} (ho : o.op = .next it st) : OpLe (cop_next X.gl s' it st).f (Go.Ev.compOpS X o s).f := by
 unfold Go.Ev.compOpS; rw [ho]; (try dsimp only)
 exact op1_le hkn hs (fun g call e h k GG kk hk hg => nextVS_le (fun v h' hg => hk v h' hg) hg)
theorem entry_le (hkn : ∀ t, X.kn t = true) (hs : SLe s' s) {it : Operand} (ho : o.op = .entry it) : OpLe (cop_entry X.gl s' it).f (Go.Ev.compOpS X o s).f := by
 unfold Go.Ev.compOpS; rw [ho]; (try dsimp only)
 exact op1_le hkn hs (fun g call e h k GG kk hk hg => entryVS_le (fun v hg => hk _ _ hg) hg)
theorem typeAssert_le (hkn : ∀ t, X.kn t = true) (hs : SLe s' s) {x : Operand} {t a : TypeId} {ok : Bool} (ho : o.op = .typeAssert x t a ok) : OpLe (cop_typeAssert X.P X.gl s' x a ok).f (Go.Ev.compOpS X o s).f := by
 unfold Go.Ev.compOpS; rw [ho]; (try dsimp only)
 unfold cop_typeAssert
 cases h0 : isIface X.P a with
 | true => exact OpLe.bad _
 | false => exact op1_le hkn hs (fun g call e h k GG kk hk hg => typeAssertVS_le (fun v hg => hk _ _ hg) hg)
theorem extract_le (hkn : ∀ t, X.kn t = true) (hs : SLe s' s) {t : Operand} {ix : Nat} (ho : o.op = .extract t ix) : OpLe (cop_extract X.gl s' t ix).f (Go.Ev.compOpS X o s).f := by
 unfold Go.Ev.compOpS; rw [ho]; (try dsimp only)
 refine op1_le hkn hs (fun g call e h k GG kk hk hg => ?_)
 rw [V.nthF_eq] at hg
 (try dsimp only at hg ⊢)
 cases hv : g e <;> rw [hv] at hg <;> try exact (bad_ne hg).elim
 exact defdS_le (fun v hg => hk _ _ hg) hg
theorem callEnd {call : Go.Ev.Call} {c : CallS} (hc : CallLe c call) {f : FuncId} {a : V} {e : Env} {h : H} {k' : KS} {k : K} {kp : V → KS} {G : Out → Prop} (hs : SLe s' s) (hk : ∀ e h, k' (enc e) (encH h) = .good → G (k e h)) (hp : ∀ v e h, kp v (enc e) (encH h) = .good → G (.pan v e h))
  (hg : c f a (encH h) (fun v h => s' (enc e) v fun e => k' e h) (fun v h => kp v (enc e) h) = .good) :
  G (@OpR.rec (fun _ => Env → K → Out) (fun v h e k => k (s e v) h) (fun v h e k => .pan v e h) (fun w e k => .bad w) (call f a h) e k) := by
 rcases hc _ _ _ _ _ hg with ⟨v, h', e1, hg⟩ | ⟨v, h', e1, hg⟩ <;> rw [e1]
 ·rw [hs] at hg; exact hk _ _ hg
 ·exact hp _ _ _ hg
theorem builtin_le (hkn : ∀ t, X.kn t = true) (hs : SLe s' s) (b : Builtin) (args : List Operand) (ts : List TypeId) : OpLe (builtinS X.P X.gl b args ts s').f (builtinOp X b args ts s).f := by
 unfold builtinS
 split
 ·rename_i x t
  unfold builtinOp
  (try dsimp only)
  split
  ·rename_i d hu
   rw [hu]
   unfold lenB
   split
   ·exact op1_le hkn hs (fun g call e h k GG kk hk hg => lenSS_le (fun v hg => hk _ _ hg) hg)
   ·exact op1_le hkn hs (fun g call e h k GG kk hk hg => lenLS_le (fun v hg => hk _ _ hg) hg)
   ·exact op1_le hkn hs (fun g call e h k GG kk hk hg => lenMS_le (fun v hg => hk _ _ hg) hg)
   ·exact OpLe.bad _
  ·exact OpLe.bad _
 ·rename_i x y st xt
  unfold builtinOp
  (try dsimp only)
  split
  ·rename_i el _ h1 h2
   rw [h1, h2]; (try dsimp only)
   split
   ·rename_i zs hz0
    rw [hz0]; (try dsimp only)
    split
    ·exact OpLe.bad _
    ·exact op2_le hkn hs (fun g1 g2 call e h k GG kk hk hg => appendVS_le (fun v h' hg => hk v h' hg) hg)
   ·exact OpLe.bad _
  ·exact OpLe.bad _
 ·rename_i x y _
  unfold builtinOp
  (try dsimp only)
  refine op2_le hkn hs (fun g1 g2 call e h k GG kk hk hg => ?_)
  (try dsimp only at hg ⊢)
  unfold maxVS at hg
  cases hm : maxV true (g1 e) (g2 e) with
  | none => rw [hm] at hg; exact (bad_ne hg).elim
  | some v => rw [hm] at hg; exact hk _ _ hg
 ·rename_i x y _
  unfold builtinOp
  (try dsimp only)
  refine op2_le hkn hs (fun g1 g2 call e h k GG kk hk hg => ?_)
  (try dsimp only at hg ⊢)
  unfold maxVS at hg
  cases hm : maxV false (g1 e) (g2 e) with
  | none => rw [hm] at hg; exact (bad_ne hg).elim
  | some v => rw [hm] at hg; exact hk _ _ hg
 ·exact OpLe.bad _
theorem call_le (hkn : ∀ t, X.kn t = true) (hs : SLe s' s) {c : Go.Call} (ho : o.op = .call c) : OpLe (cop_call X.P X.gl s' c).f (Go.Ev.compOpS X o s).f := by
 unfold Go.Ev.compOpS; rw [ho]; (try dsimp only)
 unfold cop_call
 cases hc : c.callee with
 | builtin b => exact builtin_le hkn hs b _ _
 | invoke r m => exact OpLe.bad _
 | value x =>
  cases x with
  | func f =>
   (try dsimp only)
   intro call z G e h k' k hz hk hg
   obtain ⟨cc, kn, kx, kr, kp, rfl, hcall, _, _, _, hp⟩ := hz
   cases h1 : opdsG X.gl c.args.toList with
   | no => rw [h1] at hg; exact (bad_ne hg).elim
   | ok g1' =>
    rw [h1] at hg
    obtain ⟨g1, hg1, e1⟩ := opdsG_le h1
    rw [e1 _ _ _ _ rfl hkn]
    (try dsimp only at hg ⊢)
    rw [hg1] at hg
    exact callEnd hcall hs hk hp hg
  | _ =>
   (try dsimp only)
   intro call z G e h k' k hz hk hg
   obtain ⟨cc, kn, kx, kr, kp, rfl, hcall, _, _, _, hp⟩ := hz
   cases h0 : opdG X.gl _ with
   | no => rw [h0] at hg; exact (bad_ne hg).elim
   | ok g0' =>
    rw [h0] at hg
    obtain ⟨g0, hg0, e0⟩ := opdG_le h0
    rw [e0 _ _ _ _ rfl hkn]
    (try dsimp only at hg)
    cases h1 : opdsG X.gl c.args.toList with
    | no => rw [h1] at hg; exact (bad_ne hg).elim
    | ok g1' =>
     rw [h1] at hg
     obtain ⟨g1, hg1, e1⟩ := opdsG_le h1
     rw [e1 _ _ _ _ rfl hkn]
     (try dsimp only at hg ⊢)
     rw [hg0, hg1] at hg
     cases hv : g0 e <;> rw [hv] at hg <;> try exact (bad_ne hg).elim
     rename_i f a cap
     unfold callRun at hg
     rw [V.appF_eq] at hg
     exact callEnd hcall hs hk hp hg
theorem defer_le (hkn : ∀ t, X.kn t = true) (hs : SLe s' s) {c : Go.Call} (ho : o.op = .defer c) : OpLe (cop_defer X.gl s' c).f (Go.Ev.compOpS X o s).f := by
 unfold Go.Ev.compOpS; rw [ho]; (try dsimp only)
 unfold cop_defer
 cases hc : c.callee <;> try exact OpLe.bad _
 rename_i x
 (try dsimp only)
 intro call z G e h k' k hz hk hg
 cases h0 : opdG X.gl x with
 | no => rw [h0] at hg; exact (bad_ne hg).elim
 | ok g0' =>
  rw [h0] at hg
  obtain ⟨g0, hg0, e0⟩ := opdG_le h0
  rw [e0 _ _ _ _ rfl hkn]
  (try dsimp only at hg)
  cases h1 : opdsG X.gl c.args.toList with
  | no => rw [h1] at hg; exact (bad_ne hg).elim
  | ok g1' =>
   rw [h1] at hg
   obtain ⟨g1, hg1, e1⟩ := opdsG_le h1
   rw [e1 _ _ _ _ rfl hkn]
   (try dsimp only at hg ⊢)
   rw [hg0, hg1] at hg
   cases hv : g0 e <;> rw [hv] at hg <;> try exact (bad_ne hg).elim
   (try dsimp only at hg ⊢)
   rw [topS_enc, setTopS_enc, hs] at hg
   exact hk _ _ hg
theorem panic_le (hkn : ∀ t, X.kn t = true) {x : Operand} (ho : o.op = .panic x) : OpLe (cop_panic X.gl x).f (Go.Ev.compOpS X o s).f := by
 unfold Go.Ev.compOpS; rw [ho]; (try dsimp only)
 unfold cop_panic
 intro call z G e h k' k hz hk hg
 obtain ⟨cc, kn, kx, kr, kp, rfl, hcall, _, _, _, hp⟩ := hz
 cases h0 : opdG X.gl x with
 | no => rw [h0] at hg; exact (bad_ne hg).elim
 | ok g0' =>
  rw [h0] at hg
  obtain ⟨g0, hg0, e0⟩ := opdG_le h0
  rw [e0 _ _ _ _ rfl hkn]
  (try dsimp only at hg ⊢)
  rw [hg0] at hg
  cases hv : g0 e <;> rw [hv] at hg <;> try exact (bad_ne hg).elim
  exact hp _ _ _ hg
theorem compOp_le (hkn : ∀ t, X.kn t = true) (hs : SLe s' s) : OpLe (compOpS X.P X.gl X.eqs o.op s').f (compOp X o s).f := by
 rw [compOp_eq]
 cases ho : o.op
 case move x => unfold Go.Ev.compOpS; rw [ho]; exact move_le hkn hs
 case assign x => unfold Go.Ev.compOpS; rw [ho]; exact move_le hkn hs
 case pick c a b => exact pick_le hkn hs ho
 case alloc t => exact alloc_le hs ho
 case box t x => exact box_le hkn hs ho
 case build t p => exact build_le hkn hs ho
 case buildSlice t l p => exact buildSlice_le hkn hs ho
 case load t a => exact load_le hkn hs ho
 case store t a x => exact store_le hkn hs ho
 case nilCheck x => exact nilCheck_le hkn hs ho
 case binOp op t x y yt => exact binOp_le hkn hs ho
 case unOp op t x => exact unOp_le hkn hs ho
 case convert st dt x => exact convert_le hkn hs ho
 case makeInterface t x => exact makeInterface_le hkn hs ho
 case makeFunc fn fi ca => exact makeFunc_le hkn hs ho
 case makeMap t r => exact makeMap_le hs ho
 case makeSlice t l c => exact makeSlice_le hkn hs ho
 case slice t x lo hi mx => exact slice_le hkn hs ho
 case fieldAddr st x j => exact fieldAddr_le hkn hs ho
 case field t x j => exact field_le hkn hs ho
 case indexAddr t x i => exact indexAddr_le hkn hs ho
 case index t x i => exact index_le hkn hs ho
 case lookup t x i ok => exact lookup_le hkn hs ho
 case mapUpdate t m k x => exact mapUpdate_le hkn hs (.inl ho)
 case insert t m k x => exact mapUpdate_le hkn hs (.inr ho)
 case range t x => exact range_le hkn hs ho
 case next i st => exact next_le hkn hs ho
 case entry i => exact entry_le hkn hs ho
 case typeAssert x t u ok => exact typeAssert_le hkn hs ho
 case extract t i => exact extract_le hkn hs ho
 case call c => exact call_le hkn hs ho
 case defer c => exact defer_le hkn hs ho
 case panic x => exact panic_le hkn ho
 all_goals exact OpLe.bad _
end Go.Ev.Sp
namespace Go.Ev.Sp
open Go Go.Ev
variable {X : Cx}
def sxOf (X : Cx) : SX := ⟨X.P, X.gl, X.eqs, X.nt⟩
def MLe (m' : MS) (m : M) : Prop := ∀ call z (G : Out → Prop) e h, ZOk call z G → m' z (enc e) (encH h) = .good → G (m call e h)
theorem MLe.bad (m : M) : MLe badMS.f m := fun call z G e h hz hg => (bad_ne hg).elim
theorem guardS_le {want : Bool} {s' : SS} {s : S} (hs : SLe s' s) {g' : GS} {g : G} (hg' : GLe g' g) {m' : OpS} {m : OpM} (hm : OpLe m' m) : OpLe (guardS want s' g' m').f (match want with
    | true => (⟨fun c e h k => @V.rec (fun _ => Go.Ev.Call → Env → H → K → Out) (fun c e h k => k (s e .undef) h) (fun b c e h k => @Bool.rec (fun _ => Go.Ev.Call → Env → H → K → Out) (fun c e h k => k (s e .undef) h) (fun c e h k => m c e h k) b c e h k) (fun _ _ c e h k => .bad "guard") (fun _ _ c e h k => .bad "guard") (fun _ _ c e h k => .bad "guard") (fun c e h k => .bad "guard") (fun _ _ _ _ _ c e h k => .bad "guard") (fun c e h k => .bad "guard") (fun _ c e h k => .bad "guard") (fun c e h k => .bad "guard") (fun _ _ _ _ _ c e h k => .bad "guard") (fun c e h k => .bad "guard") (fun _ _ _ c e h k => .bad "guard") (fun c e h k => .bad "guard") (fun _ _ c e h k => .bad "guard") (fun _ _ c e h k => .bad "guard") (fun c e h k => .bad "guard") (fun _ _ _ _ c e h k => .bad "guard") (g e) c e h k⟩ : Fn1 OpM)
    | false => ⟨fun c e h k => @V.rec (fun _ => Go.Ev.Call → Env → H → K → Out) (fun c e h k => k (s e .undef) h) (fun b c e h k => @Bool.rec (fun _ => Go.Ev.Call → Env → H → K → Out) (fun c e h k => m c e h k) (fun c e h k => k (s e .undef) h) b c e h k) (fun _ _ c e h k => .bad "guard") (fun _ _ c e h k => .bad "guard") (fun _ _ c e h k => .bad "guard") (fun c e h k => .bad "guard") (fun _ _ _ _ _ c e h k => .bad "guard") (fun c e h k => .bad "guard") (fun _ c e h k => .bad "guard") (fun c e h k => .bad "guard") (fun _ _ _ _ _ c e h k => .bad "guard") (fun c e h k => .bad "guard") (fun _ _ _ c e h k => .bad "guard") (fun c e h k => .bad "guard") (fun _ _ c e h k => .bad "guard") (fun _ _ c e h k => .bad "guard") (fun c e h k => .bad "guard") (fun _ _ _ _ c e h k => .bad "guard") (g e) c e h k⟩).f := by
 intro call z G e h k' k hz hk hg
 unfold guardS at hg
 cases want
 all_goals
  (try dsimp only at hg ⊢)
  rw [hg'] at hg
  cases hv : g e <;> rw [hv] at hg <;> try exact (bad_ne hg).elim
  ·(try dsimp only at hg ⊢)
   rw [hs] at hg; exact hk _ _ hg
  ·rename_i b
   cases b <;> (try dsimp only at hg ⊢)
   ·first
     | exact hm _ _ _ _ _ _ _ hz hk hg
     | (rw [hs] at hg; exact hk _ _ hg)
   ·first
     | exact hm _ _ _ _ _ _ _ hz hk hg
     | (rw [hs] at hg; exact hk _ _ hg)
theorem compOperS_le (hkn : ∀ t, X.kn t = true) (ops : Array Oper) (o : Oper) : OpLe (compOperS (sxOf X) ops o).f (compOper X ops o).f := by
 unfold compOperS compOper
 show OpLe (Fn1.f (@SR.rec (fun _ => Fn1 OpS) _ _ (dstG X.nt o.dst))) _
 cases hd : dstG X.nt o.dst with
 | no => exact OpLe.bad _
 | ok s' =>
  obtain ⟨s, hs, e1⟩ := dstG_le hd
  rw [e1 _ _ _ _ rfl]
  dsimp only
  have hm := compOp_le (X := X) (o := o) hkn hs
  cases h1 : compOpS X.P X.gl X.eqs o.op s' with
  | mk m' =>
   cases h2 : compOp X o s with
   | mk m =>
    rw [h1, h2] at hm
    dsimp only at hm ⊢
    cases hgd : o.guard with
    | none => exact hm
    | some p =>
     obtain ⟨j, want⟩ := p
     dsimp only
     unfold guardedS
     dsimp only
     cases hb : (ops[j]?).bind (·.dst) with
     | none => exact OpLe.bad _
     | some t =>
      dsimp only
      cases hx : opdG X.gl (.tmp t) with
      | no => exact OpLe.bad _
      | ok g' =>
       obtain ⟨g, hg', e2⟩ := opdG_le hx
       rw [e2 _ _ _ _ rfl hkn]
       exact guardS_le hs hg' hm
theorem compOpersS_le (hkn : ∀ t, X.kn t = true) (ops : Array Oper) {nx' : MS} {nx : M} (hnx : MLe nx' nx) : ∀ l, MLe (compOpersS (sxOf X) ops l nx').f (compOpers X ops l nx).f
 | [] => hnx
 | o :: l => by
  have ih := compOpersS_le hkn ops hnx l
  show MLe (Fn1.f (@Fn1.rec OpS (fun _ => Fn1 MS) (fun m => @Fn1.rec MS (fun _ => Fn1 MS) (fun r => ⟨fun z e h => m z e h (r z)⟩) (compOpersS (sxOf X) ops l nx')) (compOperS (sxOf X) ops o))) (compOpers1 X ops o (compOpers X ops l nx)).f
  have hm := compOperS_le hkn ops o
  unfold compOpers1
  cases h1 : compOperS (sxOf X) ops o with
  | mk m' =>
   cases h2 : compOper X ops o with
   | mk m =>
    cases h3 : compOpersS (sxOf X) ops l nx' with
    | mk r' =>
     cases h4 : compOpers X ops l nx with
     | mk r =>
      rw [h1, h2] at hm
      rw [h3, h4] at ih
      intro call z G e h hz hg
      exact hm call z G e h (r' z) _ hz (fun e h hg => ih call z G e h hz hg) hg
noncomputable def encT (tr : Tr) : TrS := tr.map fun x => (enc x.1, encH x.2)
def DMLe (d' : DMS) (d : DM) : Prop := ∀ call z (G : Out → Prop) e h tr, ZOk call z G → d' z (enc e) (encH h) (encT tr) = .good → G (d call e h tr)
def CMLe (c' : CMS) (c : CM) : Prop := ∀ call z (G : Out → Prop) tr k' k, ZOk call z G → (k' = .good → G k) → c' z (encT tr) k' = .good → G (c call tr k)
theorem nthTrS_le : ∀ {tr : Tr} {n : Nat} {k' : ES → HS → R}, nthTrS (encT tr) n k' = .good → ∃ e h, (∀ k, nthTr tr n k = k e h) ∧ k' (enc e) (encH h) = .good
 | [], _, _, hg => (bad_ne hg).elim
 | x :: l, 0, k', hg => ⟨x.1, x.2, fun k => rfl, hg⟩
 | x :: l, n + 1, k', hg => by
  obtain ⟨e, h, e1, hg⟩ := nthTrS_le (tr := l) (n := n) (k' := k') hg
  exact ⟨e, h, fun k => e1 k, hg⟩
theorem dstGS_le (o : Oper) : GLe (dstGS o).f (Go.Ev.dstG o).f := by
 unfold dstGS Go.Ev.dstG
 cases o.dst with
 | none => exact fun e k => rfl
 | some t => exact getTS_le t
theorem aside_le {m' : OpS} {m : OpM} (hm : OpLe m' m) {call : Go.Ev.Call} {z : ZS} {G : Out → Prop} (hz : ZOk call z G) {e : Env} {h : H} {k' : KS} (hg : aside m' z (enc e) (encH h) k' = .good) :
  ∃ e' h', m call e h (fun e h => .nrm e h) = .nrm e' h' ∧ k' (enc e') (encH h') = .good := by
 obtain ⟨cc, kn, kx, kr, kp, rfl, hcall, _⟩ := hz
 exact hm call _ (fun o => ∃ e' h', o = .nrm e' h' ∧ k' (enc e') (encH h') = .good) e h k' (fun e h => .nrm e h)
  ⟨cc, _, _, _, _, rfl, hcall, fun e h hg => (bad_ne hg).elim, fun i e h hg => (bad_ne hg).elim, fun e h hg => (bad_ne hg).elim, fun v e h hg => (bad_ne hg).elim⟩ (fun e h hg => ⟨e, h, rfl, hg⟩) hg
theorem compChkS_le (hkn : ∀ t, X.kn t = true) (ops : Array Oper) (n : Nat) (p : Pr) : CMLe (compChkS (sxOf X) ops n p).f (compChk X ops n p).f := by
 obtain ⟨rd, i, hb, o⟩ := p
 unfold compChkS compChk
 dsimp only
 cases rd with
 | true =>
  dsimp only
  have hgl := dstGS_le o
  have hm := compOperS_le hkn ops o
  cases h1 : dstGS o with
  | mk g' =>
   cases h2 : Go.Ev.dstG o with
   | mk g =>
    cases h3 : compOperS (sxOf X) ops o with
    | mk m' =>
     cases h4 : compOper X ops o with
     | mk m =>
      rw [h1, h2] at hgl
      rw [h3, h4] at hm
      intro call z G tr k' k hz hk hg
      dsimp only at hg ⊢
      obtain ⟨e0, _, e1, hg⟩ := nthTrS_le hg
      rw [e1]
      obtain ⟨e2, _, e3, hg⟩ := nthTrS_le hg
      rw [e3]
      obtain ⟨_, h0, e4, hg⟩ := nthTrS_le hg
      rw [e4]
      obtain ⟨e', h', e5, hg⟩ := aside_le hm hz hg
      dsimp only at e5 hg hgl
      rw [e5]
      dsimp only
      rw [hgl, hgl] at hg
      cases hq : V.eqb (g e') (g e2) <;> rw [hq] at hg
      ·exact (bad_ne hg).elim
      ·exact hk hg
 | false =>
  intro call z G tr k' k hz hk hg
  dsimp only at hg ⊢
  obtain ⟨_, h0, e1, hg⟩ := nthTrS_le hg
  rw [e1]
  obtain ⟨_, h1, e2, hg⟩ := nthTrS_le hg
  rw [e2]
  have hg : blkS (encH h1) h0.next (fun b => b k' .bad (fun _ _ _ _ => .bad) (fun _ _ => .bad) (fun _ _ _ => .bad) (fun _ _ _ _ => .bad)) = .good := hg
  rw [blkS_enc] at hg
  cases hb2 : H.blk h1 h0.next <;> rw [hb2] at hg <;> try exact (bad_ne hg).elim
  exact hk hg
theorem compChksS_le (hkn : ∀ t, X.kn t = true) (ops : Array Oper) (n : Nat) : ∀ l, CMLe (compChksS (sxOf X) ops n l).f (compChks X ops n l).f
 | [] => fun call z G tr k' k hz hk hg => hk hg
 | p :: l => by
  have ih := compChksS_le hkn ops n l
  have hp := compChkS_le hkn ops n p
  show CMLe (Fn1.f (@Fn1.rec CMS (fun _ => Fn1 CMS) (fun f => @Fn1.rec CMS (fun _ => Fn1 CMS) (fun r => ⟨fun z tr k => f z tr (r z tr k)⟩) (compChksS (sxOf X) ops n l)) (compChkS (sxOf X) ops n p))) (compChks1 X ops n p (compChks X ops n l)).f
  unfold compChks1
  cases h1 : compChkS (sxOf X) ops n p with
  | mk f' =>
   cases h2 : compChk X ops n p with
   | mk f =>
    cases h3 : compChksS (sxOf X) ops n l with
    | mk r' =>
     cases h4 : compChks X ops n l with
     | mk r =>
      rw [h1, h2] at hp
      rw [h3, h4] at ih
      intro call z G tr k' k hz hk hg
      exact hp call z G tr _ _ hz (fun hg => ih call z G tr k' k hz hk hg) hg
theorem DMLe.bad (d : DM) : DMLe badDS.f d := fun call z G e h tr hz hg => (bad_ne hg).elim
theorem drStepS_le (cls : Nat) {s' : SS} {s : S} (hs : SLe s' s) {g' : GS} {g : G} (hgl : GLe g' g) {m' : OpS} {m : OpM} (hm : OpLe m' m) {pan' : V → HS → DMS} {pan : V → H → DM} (hp : ∀ v h, DMLe (pan' v (encH h)) (pan v h)) {r' : DMS} {r : DM} (hr : DMLe r' r) :
  DMLe (drStepS cls s' g' m' pan' r').f (drStep cls s g m pan r).f := by
 intro call z G e h tr hz hg
 have pure : aside m' z (enc e) emptyHS (fun e' _ => g' e' fun v => s' (enc e) v fun e2 => r' z e2 (encH h) ((enc e, encH h) :: encT tr)) = .good → G ((drPure s g m r).f call e h tr) := by
  intro hg
  rw [← encH_empty] at hg
  obtain ⟨e', h', e1, hg⟩ := aside_le hm hz hg
  unfold drPure
  dsimp only
  rw [e1]
  (try dsimp only at hg ⊢)
  rw [hgl, hs] at hg
  exact hr call _ G _ _ ((e, h) :: tr) hz hg
 rcases cls with _ | _ | _ | _ | n
 ·exact pure hg
 ·obtain ⟨e', h', e1, hg⟩ := aside_le hm hz hg
  show G ((drNew s g m r).f call e h tr)
  unfold drNew
  dsimp only
  rw [e1]
  (try dsimp only at hg ⊢)
  rw [hgl, hs] at hg
  exact hr call _ G _ _ ((e, h) :: tr) hz hg
 ·obtain ⟨e', h', e1, hg⟩ := aside_le hm hz hg
  show G ((drRead s g m r).f call e h tr)
  unfold drRead
  dsimp only
  rw [e1]
  (try dsimp only at hg ⊢)
  rw [hgl, hs] at hg
  exact hr call _ G _ _ ((e, h) :: tr) hz hg
 ·show G ((drAct s g m pan r).f call e h tr)
  unfold drAct
  dsimp only
  have hz0 := hz
  obtain ⟨cc, kn, kx, kr, kp, rfl, hcall, _⟩ := hz
  have key := hm call _ (fun o => (∃ e' h', o = .nrm e' h' ∧ (g' (enc e') fun v => s' (enc e) v fun e2 => r' (fun K => K cc kn kx kr kp) e2 (encH h') ((enc e, encH h) :: encT tr)) = .good) ∨ ∃ v e' h', o = .pan v e' h' ∧ pan' v (encH h') (fun K => K cc kn kx kr kp) (enc e) (encH h) (encT tr) = .good) e h _ (fun e h => .nrm e h)
   ⟨cc, _, _, _, _, rfl, hcall, fun e h hg => (bad_ne hg).elim, fun i e h hg => (bad_ne hg).elim, fun e h hg => (bad_ne hg).elim, fun v e' h' hg => .inr ⟨v, e', h', rfl, hg⟩⟩ (fun e h hg => .inl ⟨e, h, rfl, hg⟩) hg
  rcases key with ⟨e', h', e1, hg⟩ | ⟨v, e', h', e1, hg⟩ <;> rw [e1] <;> (try dsimp only)
  ·rw [hgl, hs] at hg
   exact hr call _ G _ _ ((e, h) :: tr) hz0 hg
  ·exact hp v h' call _ G e h tr hz0 hg
 ·exact pure hg
theorem compDrS_le (hkn : ∀ t, X.kn t = true) (ops : Array Oper) (alive : Nat → Bool) {pan' : Nat → V → HS → DMS} {pan : Nat → V → H → DM} (hp : ∀ i v h, DMLe (pan' i v (encH h)) (pan i v h)) {fin' : DMS} {fin : DM} (hf : DMLe fin' fin) :
  ∀ l, DMLe (compDrS (sxOf X) ops alive pan' fin' l).f (compDr X ops alive pan fin l).f
 | [] => hf
 | (o, i) :: l => by
  have ih := compDrS_le hkn ops alive hp hf l
  show DMLe (drOneS (sxOf X) ops alive pan' o i (compDrS (sxOf X) ops alive pan' fin' l)).f (drOne X ops alive pan o i (compDr X ops alive pan fin l)).f
  unfold drOneS drOne
  cases h1 : compDrS (sxOf X) ops alive pan' fin' l with
  | mk r' =>
   cases h2 : compDr X ops alive pan fin l with
   | mk r =>
    rw [h1, h2] at ih
    dsimp only
    cases ha : alive i with
    | false =>
     intro call z G e h tr hz hg
     exact ih call z G e h ((e, h) :: tr) hz hg
    | true =>
     dsimp only
     show DMLe (Fn1.f (@SR.rec (fun _ => Fn1 DMS) _ _ (dstG X.nt o.dst))) _
     cases hd : dstG X.nt o.dst with
     | no => exact DMLe.bad _
     | ok s' =>
      obtain ⟨s, hs, e1⟩ := dstG_le hd
      rw [e1 _ _ _ _ rfl]
      dsimp only
      have hgl := dstGS_le o
      have hm := compOperS_le hkn ops o
      cases h3 : dstGS o with
      | mk g' =>
       cases h4 : Go.Ev.dstG o with
       | mk g =>
        cases h5 : compOperS (sxOf X) ops o with
        | mk m' =>
         cases h6 : compOper X ops o with
         | mk m =>
          rw [h3, h4] at hgl
          rw [h5, h6] at hm
          exact drStepS_le _ hs hgl hm (fun v h => hp i v h) ih
theorem forgetS_enc : ∀ (l : List Oper) (e : Env) (k : ES → R), forgetS l (enc e) k = k (enc (forget l e))
 | [], e, k => rfl
 | o :: l, e, k => by
  show (@Option.rec Tmp (fun _ => ES → (ES → R) → R) (fun e k => forgetS l e k) (fun t e k => @Fn1.rec SS (fun _ => ES → (ES → R) → R) (fun s e k => s e .nil fun e => forgetS l e k) (setTS t) e k) o.dst (enc e) k) = _
  simp only [forget]
  cases hd : o.dst with
  | none => exact forgetS_enc l e k
  | some t =>
   dsimp only
   have h := setTS_le t
   cases h1 : setTS t with
   | mk s' =>
    rw [h1] at h
    rw [setT_eq] at h
    dsimp only at h ⊢
    rw [h]
    exact forgetS_enc l _ k
theorem runD_eq (x : Fn1 DMS) (z : ZS) (e : ES) (h : HS) (tr : TrS) : runD x z e h tr = x.f z e h tr := by cases x; rfl
theorem runC_eq (x : Fn1 CMS) (z : ZS) (tr : TrS) (k : R) : runC x z tr k = x.f z tr k := by cases x; rfl
theorem runM_eq (x : Fn1 MS) : runM x = x.f := by cases x; rfl
theorem panTailS_le (hkn : ∀ t, X.kn t = true) (ops : Array Oper) (b : Nat) (v : V) (h' : H) : DMLe (panTailS (sxOf X) ops b v (encH h')) (panTail X ops b v h') := by
 intro call z G e h tr hz hg
 unfold panTailS at hg
 replace hg := (runD_eq _ _ _ _ _).symm.trans hg
 unfold panTail
 refine compDrS_le hkn ops _ (fun i v h call z G e h tr hz hg => (bad_ne hg).elim) (fun call z G e2 h2 tr hz hg => ?_) _ call z G e h ((e, h) :: tr) hz hg
 replace hg := (runC_eq _ _ _ _).symm.trans hg
 refine compChksS_le hkn ops _ _ call z G ((e2, h2) :: tr) _ _ hz (fun hg => ?_) hg
 rw [forgetS_enc] at hg
 obtain ⟨cc, kn, kx, kr, kp, rfl, hcall, _, _, _, hp⟩ := hz
 exact hp _ _ _ hg
theorem compDrawnS_le (hkn : ∀ t, X.kn t = true) (ops : Array Oper) (l : List (Bool × Nat × Nat)) {nx' : MS} {nx : M} (hnx : MLe nx' nx) : MLe (compDrawnS (sxOf X) ops l nx').f (compDrawn X ops l nx).f := by
 unfold compDrawnS compDrawn
 have hc := compChksS_le (X := X) hkn ops ops.size (prsOf ops l)
 cases h1 : compChksS (sxOf X) ops ops.size (prsOf ops l) with
 | mk ck' =>
  cases h2 : compChks X ops ops.size (prsOf ops l) with
  | mk ck =>
   rw [h1, h2] at hc
   dsimp only
   have hd := compDrS_le (X := X) hkn ops (fun _ => true) (fun i v h => panTailS_le hkn ops i v h) (fin' := fun z e h tr => ck' z ((e, h) :: tr) (nx' z e h)) (fin := fun c e h tr => ck c ((e, h) :: tr) (nx c e h))
    (fun call z G e h tr hz hg => hc call z G ((e, h) :: tr) _ _ hz (fun hg => hnx call z G e h hz hg) hg) ops.toList.zipIdx
   cases h3 : compDrS (sxOf X) ops (fun _ => true) (panTailS (sxOf X) ops) (fun z e h tr => ck' z ((e, h) :: tr) (nx' z e h)) ops.toList.zipIdx with
   | mk r' =>
    cases h4 : compDr X ops (fun _ => true) (panTail X ops) (fun c e h tr => ck c ((e, h) :: tr) (nx c e h)) ops.toList.zipIdx with
    | mk r =>
     rw [h3, h4] at hd
     intro call z G e h hz hg
     exact hd call z G e h [] hz hg
end Go.Ev.Sp
namespace Go.Ev.Sp
open Go Go.Ev
variable {X : Cx}
theorem nrm_le : MLe nrmS nrmM := fun call z G e h hz hg => by
 obtain ⟨cc, kn, kx, kr, kp, rfl, hcall, hn, _⟩ := hz
 exact hn _ _ hg
theorem cond_le (hkn : ∀ t, X.kn t = true) {x : Operand} {ca' cb' : MS → Fn1 MS} {ca cb : M → Fn1 M} {nx' : MS} {nx : M} (ha : MLe (ca' nx').f (ca nx).f) (hb : MLe (cb' nx').f (cb nx).f) :
  MLe (compCondS (sxOf X) x ca' cb' nx').f (compCond X x ca cb nx).f := by
 unfold compCondS compCond
 show MLe (Fn1.f (@GR.rec (fun _ => Fn1 MS) _ _ (opdG X.gl x))) _
 cases hx : opdG X.gl x with
 | no => exact MLe.bad _
 | ok g' =>
  obtain ⟨g, hg', e1⟩ := opdG_le hx
  rw [e1 _ _ _ _ rfl hkn]
  intro call z G e h hz hg
  (try dsimp only at hg ⊢)
  rw [hg'] at hg
  cases hv : g e <;> rw [hv] at hg <;> try exact (bad_ne hg).elim
  rename_i b
  cases b
  ·have hg : runM (cb' nx') z (enc e) (encH h) = .good := hg
   rw [runM_eq] at hg
   exact hb call z G e h hz hg
  ·have hg : runM (ca' nx') z (enc e) (encH h) = .good := hg
   rw [runM_eq] at hg
   exact ha call z G e h hz hg
theorem block_le {id : Nat} {ca' : MS → Fn1 MS} {ca : M → Fn1 M} {nx' : MS} {nx : M} (ha : MLe (ca' nrmS).f (ca nrmM).f) (hnx : MLe nx' nx) : MLe (compBlockS id ca' nx').f (compBlock id ca nx).f := by
 unfold compBlock
 cases h1 : ca nrmM with
 | mk a =>
  intro call z G e h hz hg
  have hz0 := hz
  obtain ⟨cc, kn, kx, kr, kp, rfl, hcall, hn, hx, hr, hp⟩ := hz
  have hg : runM (ca' nrmS) (fun K => K cc (nx' (fun K => K cc kn kx kr kp)) (fun j e h => @Bool.rec (fun _ => Nat → ES → HS → ZS → (Nat → KS) → R) (fun j e h z kx => kx j e h) (fun j e h z kx => nx' z e h) (Nat.beq j id) j e h (fun K => K cc kn kx kr kp) kx) kr kp) (enc e) (encH h) = .good := hg
  rw [runM_eq] at hg
  rw [h1] at ha
  refine ha call _ (fun o => G (@Out.rec (fun _ => Go.Ev.Call → Out) (fun e h c => nx c e h) (fun j e h c => @Bool.rec (fun _ => Nat → Go.Ev.Call → Env → H → Out) (fun j c e h => .ext j e h) (fun j c e h => nx c e h) (Nat.beq j id) j c e h) (fun e h c => .ret e h) (fun v e h c => .pan v e h) (fun w c => .bad w) o call)) e h
   ⟨cc, _, _, _, _, rfl, hcall, fun e h hg => hnx call _ G e h hz0 hg, fun i e h hg => ?_, fun e h hg => hr _ _ hg, fun v e h hg => hp _ _ _ hg⟩ hg
  (try dsimp only at hg ⊢)
  cases hb : Nat.beq i id <;> rw [hb] at hg
  ·exact hx _ _ _ hg
  ·exact hnx call _ G e h hz0 hg
theorem loop_le {m' : MS} {m : M} (hm : MLe m' m) : ∀ n, MLe (loopS m' n) (fun c e h => loopN m c n e h)
 | 0 => fun call z G e h hz hg => (bad_ne hg).elim
 | n + 1 => fun call z G e h hz hg => by
  have ih := loop_le hm n
  have hz0 := hz
  obtain ⟨cc, kn, kx, kr, kp, rfl, hcall, hn, hx, hr, hp⟩ := hz
  have hg : m' (fun K => K cc (loopS m' n (fun K => K cc kn kx kr kp)) kx kr kp) (enc e) (encH h) = .good := hg
  show G (@Out.rec (fun _ => Out) (fun e h => loopN m call n e h) (fun i e h => .ext i e h) (fun e h => .ret e h) (fun v e h => .pan v e h) (fun w => .bad w) (m call e h))
  exact hm call _ (fun o => G (@Out.rec (fun _ => Out) (fun e h => loopN m call n e h) (fun i e h => .ext i e h) (fun e h => .ret e h) (fun v e h => .pan v e h) (fun w => .bad w) o)) e h
   ⟨cc, _, _, _, _, rfl, hcall, fun e h hg => ih call _ G e h hz0 hg, fun i e h hg => hx _ _ _ hg, fun e h hg => hr _ _ hg, fun v e h hg => hp _ _ _ hg⟩ hg
theorem compLoop_le {ca' : MS → Fn1 MS} {ca : M → Fn1 M} (ha : MLe (ca' nrmS).f (ca nrmM).f) : MLe (compLoopS ca').f (compLoop ca).f := by
 unfold compLoop
 cases h1 : ca nrmM with
 | mk a =>
  rw [h1] at ha
  rw [← runM_eq] at ha
  have h := fun n => loop_le ha n
  unfold compLoopS
  (try dsimp only)
  generalize 100000 = n
  exact h n
theorem backStartS_le {x : V} {k' : Nat → R} {k : Nat → Out} {G : Out → Prop} (hk : ∀ n, k' n = .good → G (k n)) (hg : backStartS x k' = .good) : G (backStart x k) := by
 cases x <;> first | exact (bad_ne hg).elim | exact hk _ hg
theorem backRoundsS_le {m' : MS} {m : M} (hm : MLe m' m) {sp' sq' : SS} {sp sq : S} (hsp : SLe sp' sp) (hsq : SLe sq' sq) {cc : CallS} {call : Go.Ev.Call} (hcall : CallLe cc call) {i : Id} {o : Nat} {e : Env} {k' : HS → R} {k : K} {G : Out → Prop} (hk : ∀ h, k' (encH h) = .good → G (k e h)) :
  ∀ (n : Nat) (h : H), backRoundsS m' sp' sq' cc i o (enc e) n (encH h) k' = .good → G (backRounds m (fun e v w => sq (sp e v) w) call i o e k n h)
 | 0, h, hg => hk _ hg
 | n + 1, h, hg => by
  have ih := backRoundsS_le hm hsp hsq hcall (i := i) (o := o) hk n
  simp only [backRounds]
  refine loadOneS_le (fun x hg => ?_) hg
  (try dsimp only at hg)
  cases x <;> try exact (bad_ne hg).elim
  rename_i j eo sz len cap
  (try dsimp only at hg ⊢)
  cases h1 : Nat.beq sz 1 <;> rw [h1] at hg
  ·exact (bad_ne hg).elim
  ·cases h2 : Nat.ble (n + 1) len <;> rw [h2] at hg
   ·exact (bad_ne hg).elim
   ·dsimp only [Bool.and_true] at hg ⊢
    refine loadOneS_le (fun v hg => ?_) hg
    (try dsimp only at hg)
    rw [hsp, hsq] at hg
    refine hm call _ (fun r => G (match r with | .nrm _ h => backRounds m (fun e v w => sq (sp e v) w) call i o e k n h | .bad w => .bad w | _ => .bad "rangeFunc: a round that leaves")) _ _
     ⟨cc, _, _, _, _, rfl, hcall, fun e h hg => ih h hg, fun i e h hg => (bad_ne hg).elim, fun e h hg => (bad_ne hg).elim, fun v e h hg => (bad_ne hg).elim⟩ hg
theorem captOf_le {x : V} {k : FuncId → Id → Nat → R} (hg : captOf x k = .good) : ∃ f i o, x = .fn f .nil (.cons (.ptr i o) .nil) ∧ k f i o = .good := by
 cases x <;> try exact (bad_ne hg).elim
 rename_i f a c
 cases a <;> try exact (bad_ne hg).elim
 cases c <;> try exact (bad_ne hg).elim
 rename_i p r
 cases r <;> try exact (bad_ne hg).elim
 cases p <;> try exact (bad_ne hg).elim
 exact ⟨f, _, _, rfl, hg⟩
theorem range_le' (hkn : ∀ t, X.kn t = true) {x : Operand} {params : Array Tmp} {a b : Code} {ca' cb' : MS → Fn1 MS} {ca cb : M → Fn1 M} {nx' : MS} {nx : M} (ha : ∀ {n' n}, MLe n' n → MLe (ca' n').f (ca n).f) (hb : ∀ {n' n}, MLe n' n → MLe (cb' n').f (cb n).f) (hnx : MLe nx' nx) :
  MLe (compRangeS (sxOf X) X.bw x params a b ca' cb' nx').f (compRange X x params a b ca cb nx).f := by
 unfold compRangeS
 split
 ·rename_i p q hpar
  unfold compRange
  rw [hpar]; dsimp only
  show MLe (Fn1.f (@GR.rec (fun _ => Fn1 MS) _ _ (opdG X.gl x))) _
  cases hx : opdG X.gl x with
  | no => exact MLe.bad _
  | ok g' =>
   obtain ⟨g, hg', e1⟩ := opdG_le hx
   rw [e1 _ _ _ _ rfl hkn]
   (try dsimp only)
   show MLe (Fn1.f (@SR.rec (fun _ => Fn1 MS) _ _ (dstG X.nt (some p)))) _
   cases hp : dstG X.nt (some p) with
   | no => exact MLe.bad _
   | ok sp' =>
    obtain ⟨sp, hsp, e1⟩ := dstG_le hp
    rw [e1 _ _ _ _ rfl]
    (try dsimp only)
    show MLe (Fn1.f (@SR.rec (fun _ => Fn1 MS) _ _ (dstG X.nt (some q)))) _
    cases hq : dstG X.nt (some q) with
    | no => exact MLe.bad _
    | ok sq' =>
     obtain ⟨sq, hsq, e1⟩ := dstG_le hq
     rw [e1 _ _ _ _ rfl]
     (try dsimp only)
     have hb1 := hb nrm_le
     cases h1 : cb nrmM with
     | mk b' =>
      rw [h1] at hb1
      (try dsimp only)
      rw [← runM_eq] at hb1
      have ha1 := ha hb1
      cases h2 : ca b' with
      | mk m =>
       rw [h2] at ha1
       (try dsimp only at ha1 ⊢)
       cases hc : (calm a && calm b) with
       | false => exact MLe.bad _
       | true =>
        (try dsimp only)
        intro call z G e h hz hg
        (try dsimp only at hg)
        rw [hg'] at hg
        obtain ⟨f, i, o, hv, hg⟩ := captOf_le hg
        (try dsimp only)
        rw [hv]
        (try dsimp only at hg ⊢)
        cases hw : X.bw.contains f <;> rw [hw] at hg
        ·exact (bad_ne hg).elim
        ·dsimp only at hg ⊢
         refine newS_le (x := .mapIter none 0 [] 0) (fun d h1 hg => ?_) hg
         (try dsimp only at hg)
         refine loadOneS_le (fun x hg => ?_) hg
         refine backStartS_le (fun n hg => ?_) hg
         (try dsimp only at hg)
         rw [setTopS_enc] at hg
         have hz0 := hz
         obtain ⟨cc, kn, kx, kr, kp, rfl, hcall, _⟩ := hz
         rw [← runM_eq] at ha1
         refine backRoundsS_le ha1 hsp hsq hcall (fun h2 hg => ?_) n h1 hg
         (try dsimp only at hg)
         have hg := (topS_enc _ _).symm.trans hg
         (try dsimp only at hg)
         rw [setTopS_enc] at hg
         exact hnx call _ G _ h2 hz0 hg
 ·exact MLe.bad _
theorem code_le (hkn : ∀ t, X.kn t = true) : ∀ (c : Code) {nx' : MS} {nx : M}, MLe nx' nx → MLe (compS (sxOf X) X.bw X.tab c nx').f (comp X c nx).f := by
 intro c
 induction c with
 | skip => intro nx' nx h; exact h
 | region id ops d =>
  intro nx' nx h
  cases d with
  | false => exact compOpersS_le hkn ops h ops.toList
  | true =>
   show MLe (@Bool.rec (fun _ => Fn1 MS) (compDrawnS (sxOf X) ops (tabFind X.tab id) nx') badMS (isBadR (tabFind X.tab id))).f (match isBadR (tabFind X.tab id) with | true => badM "region" | false => compDrawn X ops (tabFind X.tab id) nx).f
   cases isBadR (tabFind X.tab id) with
   | true => exact MLe.bad _
   | false => exact compDrawnS_le hkn ops _ h
 | seq a b iha ihb =>
  intro nx' nx h
  have h1 := ihb h
  rw [← runM_eq] at h1
  exact iha h1
 | cond x a b iha ihb => intro nx' nx h; exact cond_le hkn (iha h) (ihb h)
 | block id a ih => intro nx' nx h; exact block_le (ih nrm_le) h
 | loop a ih => intro nx' nx h; exact compLoop_le (ih nrm_le)
 | rangeFunc x ps a b iha ihb => intro nx' nx h; exact range_le' hkn (fun h => iha h) (fun h => ihb h) h
 | exit id =>
  intro nx' nx h call z G e h hz hg
  obtain ⟨cc, kn, kx, kr, kp, rfl, hcall, _, hx, _⟩ := hz
  exact hx _ _ _ hg
 | ret =>
  intro nx' nx h call z G e h hz hg
  obtain ⟨cc, kn, kx, kr, kp, rfl, hcall, _, _, hr, _⟩ := hz
  exact hr _ _ hg
 | _ => intro nx' nx h call z G e h hz hg; exact (bad_ne hg).elim
end Go.Ev.Sp
namespace Go.Ev.Sp
open Go Go.Ev
def RLe (f' : RS) (f : Env → H → (V → Out) → Out) : Prop := ∀ e h k' k (G : Out → Prop), (∀ v, k' v = .good → G (k v)) → f' (enc e) (encH h) k' = .good → G (f e h k)
theorem resultOfS_le {X : Cx} (hkn : ∀ t, X.kn t = true) {r : ResultVar} {f' : RS} (h : resultOfS (sxOf X) r = some f') : ∃ f, RLe f' f ∧ ∀ k d, resultOf X r k d = k f := by
 cases r with
 | tmp t =>
  have h : (@GR.rec (fun _ => Option RS) (fun g => some fun e _ k => g e k) none (opdG X.gl (.tmp t))) = some f' := h
  cases hx : opdG X.gl (.tmp t) with
  | no => rw [hx] at h; exact nomatch h
  | ok g' =>
   rw [hx] at h
   cases h
   obtain ⟨g, hg', e1⟩ := opdG_le hx
   refine ⟨fun e _ k => k (g e), fun e h k' k G hk hg => ?_, fun k d => ?_⟩
   ·have hg : g' (enc e) k' = .good := hg
    rw [hg'] at hg; exact hk _ hg
   ·unfold resultOf; exact e1 _ _ _ _ rfl hkn
 | cell a t =>
  have h : (@GR.rec (fun _ => Option RS) (fun g => @Option.rec Bool (fun _ => Option RS) none (fun b => @Bool.rec (fun _ => Option RS) (some fun e h k => g e fun v => _) (some fun e h k => g e fun v => _) b) (scalarT X.P t)) none (opdG X.gl (.tmp a))) = some f' := h
  cases hx : opdG X.gl (.tmp a) with
  | no => rw [hx] at h; exact nomatch h
  | ok g' =>
   rw [hx] at h
   dsimp only at h
   obtain ⟨g, hg', e1⟩ := opdG_le hx
   cases hsc : scalarT X.P t with
   | none => rw [hsc] at h; exact nomatch h
   | some b =>
    rw [hsc] at h
    cases b with
    | true =>
     cases h
     refine ⟨fun e h k => (@V.rec  (fun _ => Out) (.bad "result") (fun _ => .bad "result") (fun _ _ => .bad "result") (fun _ _ => .bad "result") (fun i o => loadOne h i o k) (.bad "result") (fun _ _ _ _ _ => .bad "result") (.bad "result") (fun _ => .bad "result") (.bad "result") (fun _ _ _ _ _ => .bad "result") (.bad "result") (fun _ _ _ => .bad "result") (.bad "result") (fun _ _ => .bad "result") (fun _ _ => .bad "result") (.bad "result") (fun _ _ _ _ => .bad "result") (g e)), fun e h k' k G hk hg => ?_, fun k d => ?_⟩
     rotate_left
     ·unfold resultOf
      dsimp only
      rw [e1 _ _ _ _ rfl hkn, hsc]
     ·dsimp only at hg ⊢
      rw [hg'] at hg
      cases hv : g e <;> rw [hv] at hg <;> try exact (bad_ne hg).elim
      exact loadOneS_le hk hg
    | false =>
     cases h
     refine ⟨fun e h k => (@V.rec  (fun _ => Out) (.bad "result") (fun _ => .bad "result") (fun _ _ => .bad "result") (fun _ _ => .bad "result") (fun i o => loadAgg (X.P.cellsOf t) h i o k) (.bad "result") (fun _ _ _ _ _ => .bad "result") (.bad "result") (fun _ => .bad "result") (.bad "result") (fun _ _ _ _ _ => .bad "result") (.bad "result") (fun _ _ _ => .bad "result") (.bad "result") (fun _ _ => .bad "result") (fun _ _ => .bad "result") (.bad "result") (fun _ _ _ _ => .bad "result") (g e)), fun e h k' k G hk hg => ?_, fun k d => ?_⟩
     rotate_left
     ·unfold resultOf
      dsimp only
      rw [e1 _ _ _ _ rfl hkn, hsc]
     ·dsimp only at hg ⊢
      rw [hg'] at hg
      cases hv : g e <;> rw [hv] at hg <;> try exact (bad_ne hg).elim
      exact loadAggS_le hk hg
theorem resultsLS_le {X : Cx} (hkn : ∀ t, X.kn t = true) : ∀ {l : List ResultVar} {f' : RS}, resultsLS (sxOf X) l = some f' → ∃ f, RLe f' f ∧ ∀ k d, resultsL X l k d = k f
 | [], f', h => by cases h; exact ⟨fun _ _ k => k .nil, fun e h k' k G hk hg => hk _ hg, fun k d => rfl⟩
 | r :: l, f', h => by
  have h : (@Option.rec RS (fun _ => Option RS) none (fun f => @Option.rec RS (fun _ => Option RS) none (fun g => some fun e h k => f e h fun v => g e h fun vs => k (.cons v vs)) (resultsLS (sxOf X) l)) (resultOfS (sxOf X) r)) = some f' := h
  cases h1 : resultOfS (sxOf X) r with
  | none => rw [h1] at h; exact nomatch h
  | some a' =>
   rw [h1] at h
   dsimp only at h
   cases h2 : resultsLS (sxOf X) l with
   | none => rw [h2] at h; exact nomatch h
   | some b' =>
    rw [h2] at h
    cases h
    obtain ⟨a, ha, ea⟩ := resultOfS_le hkn h1
    obtain ⟨b, hb, eb⟩ := resultsLS_le hkn h2
    refine ⟨fun e h k => a e h fun v => b e h fun vs => k (.cons v vs), fun e h k' k G hk hg => ?_, fun k d => ?_⟩
    ·exact ha e h _ _ G (fun v hg => hb e h _ _ G (fun vs hg => hk _ hg) hg) hg
    ·simp only [resultsL]; rw [ea, eb]
theorem resultsMulti {X : Cx} (hkn : ∀ t, X.kn t = true) {l : List ResultVar} (hM : resultsM X l = resultsL X l (fun f => ⟨fun _ e h => f e h fun v => retV (.tup v) h⟩) (badM "results"))
  (hS : resultsS (sxOf X) l = @Option.rec RS (fun _ => Fn1 RS) ⟨fun _ _ _ => .bad⟩ (fun f => ⟨fun e h k => f e h fun v => k (.tup v)⟩) (resultsLS (sxOf X) l))
  {call : Go.Ev.Call} {e : Env} {h : H} {k' : V → R} (hg : (resultsS (sxOf X) l).f (enc e) (encH h) k' = .good) : ∃ v, (resultsM X l).f call e h = .pan v e2e h ∧ k' v = .good := by
 rw [hS] at hg
 rw [hM]
 cases h1 : resultsLS (sxOf X) l with
 | none => rw [h1] at hg; exact (bad_ne hg).elim
 | some a' =>
  rw [h1] at hg
  obtain ⟨a, ha, ea⟩ := resultsLS_le hkn h1
  rw [ea]
  exact ha e h _ _ (fun o => ∃ v, o = .pan v e2e h ∧ k' v = .good) (fun v hg => ⟨_, rfl, hg⟩) hg
theorem resultsS_le {X : Cx} (hkn : ∀ t, X.kn t = true) {l : List ResultVar} {call : Go.Ev.Call} {e : Env} {h : H} {k' : V → R} (hg : (resultsS (sxOf X) l).f (enc e) (encH h) k' = .good) : ∃ v, (resultsM X l).f call e h = .pan v e2e h ∧ k' v = .good := by
 rcases l with _ | ⟨r, _ | ⟨r2, l⟩⟩
 ·exact resultsMulti hkn rfl rfl hg
 ·have hg : (@Option.rec RS (fun _ => Fn1 RS) ⟨fun _ _ _ => .bad⟩ (fun f => ⟨f⟩) (resultOfS (sxOf X) r)).f (enc e) (encH h) k' = .good := hg
  show ∃ v, (resultOf X r (fun f => ⟨fun _ e h => f e h fun v => retV v h⟩) (badM "results")).f call e h = .pan v e2e h ∧ k' v = .good
  cases h1 : resultOfS (sxOf X) r with
  | none => rw [h1] at hg; exact (bad_ne hg).elim
  | some a' =>
   rw [h1] at hg
   obtain ⟨a, ha, ea⟩ := resultOfS_le hkn h1
   rw [ea]
   exact ha e h k' _ (fun o => ∃ v, o = .pan v e2e h ∧ k' v = .good) (fun v hg => ⟨v, rfl, hg⟩) hg
 ·exact resultsMulti hkn rfl rfl hg
theorem fillS_enc : ∀ (l : V) (n : Nat) (e : Env) (k : ES → R), fillS l n (enc e) k = k (enc (fillArgsF l n e)) := by
 intro l
 induction l with
 | cons h t _ ih =>
  intro n e k
  show (@Fn1.rec SS (fun _ => V → Nat → ES → (ES → R) → (Nat → ES → (ES → R) → R) → R) (fun s h n e k ih => s e h fun e => ih (Nat.succ n) e k) (setE0 (D.num n)) h n (enc e) k (fun n e k => fillS t n e k)) = _
  have hs := setE0_le (D.num n) e h
  cases h1 : setE0 (D.num n) with
  | mk s' =>
   rw [h1] at hs
   dsimp only at hs ⊢
   rw [hs, ih]; rfl
 | _ => intro n e k; rfl
theorem envAll_le {all : V} {nt : Nat} {k : ES → R} (hg : envAll all nt k = .good) : argsFit all nt = true ∧ k (enc (env0 all)) = .good := by
 unfold envAll at hg
 rw [V.lenF_eq] at hg
 unfold argsFit
 cases h1 : Nat.ble (V.len all) 32 <;> rw [h1] at hg
 ·exact (bad_ne hg).elim
 ·cases h2 : Nat.ble (V.len all) nt <;> rw [h2] at hg
  ·exact (bad_ne hg).elim
  ·refine ⟨rfl, ?_⟩
   have hg : fillS all 0 (enc e2e) k = .good := hg
   rw [fillS_enc, fillArgsF_eq] at hg
   exact hg
theorem ev8_8_le (v0 v1 v2 v3 v4 v5 v6 v7 : V) (l : V) (nt : Nat) (k : ES → R) (hg : ev8_8 v0 v1 v2 v3 v4 v5 v6 v7 l (.cons v0 (.cons v1 (.cons v2 (.cons v3 (.cons v4 (.cons v5 (.cons v6 (.cons v7 l)))))))) nt k = .good) : argsFit (.cons v0 (.cons v1 (.cons v2 (.cons v3 (.cons v4 (.cons v5 (.cons v6 (.cons v7 l)))))))) nt = true ∧ k (enc (env0 (.cons v0 (.cons v1 (.cons v2 (.cons v3 (.cons v4 (.cons v5 (.cons v6 (.cons v7 l)))))))))) = .good := by
 cases l with
 | nil =>
  have hg : (@Bool.rec (fun _ => V → V → V → V → V → V → V → V → (ES → R) → R) _ _ (Nat.ble 8 nt) v0 v1 v2 v3 v4 v5 v6 v7 k) = .good := hg
  cases h1 : Nat.ble 8 nt <;> rw [h1] at hg
  ·exact (bad_ne hg).elim
  ·refine ⟨?_, hg⟩
   unfold argsFit
   show (match true with | true => Nat.ble 8 nt | false => false) = true
   rw [h1]
 | cons h t => exact envAll_le hg
 | _ => exact (bad_ne hg).elim
theorem ev8_7_le (v0 v1 v2 v3 v4 v5 v6 : V) (l : V) (nt : Nat) (k : ES → R) (hg : ev8_7 v0 v1 v2 v3 v4 v5 v6 l (.cons v0 (.cons v1 (.cons v2 (.cons v3 (.cons v4 (.cons v5 (.cons v6 l))))))) nt k = .good) : argsFit (.cons v0 (.cons v1 (.cons v2 (.cons v3 (.cons v4 (.cons v5 (.cons v6 l))))))) nt = true ∧ k (enc (env0 (.cons v0 (.cons v1 (.cons v2 (.cons v3 (.cons v4 (.cons v5 (.cons v6 l))))))))) = .good := by
 cases l with
 | nil =>
  have hg : (@Bool.rec (fun _ => V → V → V → V → V → V → V → (ES → R) → R) _ _ (Nat.ble 7 nt) v0 v1 v2 v3 v4 v5 v6 k) = .good := hg
  cases h1 : Nat.ble 7 nt <;> rw [h1] at hg
  ·exact (bad_ne hg).elim
  ·refine ⟨?_, hg⟩
   unfold argsFit
   show (match true with | true => Nat.ble 7 nt | false => false) = true
   rw [h1]
 | cons h t => exact ev8_8_le v0 v1 v2 v3 v4 v5 v6 h t nt k hg
 | _ => exact (bad_ne hg).elim
theorem ev8_6_le (v0 v1 v2 v3 v4 v5 : V) (l : V) (nt : Nat) (k : ES → R) (hg : ev8_6 v0 v1 v2 v3 v4 v5 l (.cons v0 (.cons v1 (.cons v2 (.cons v3 (.cons v4 (.cons v5 l)))))) nt k = .good) : argsFit (.cons v0 (.cons v1 (.cons v2 (.cons v3 (.cons v4 (.cons v5 l)))))) nt = true ∧ k (enc (env0 (.cons v0 (.cons v1 (.cons v2 (.cons v3 (.cons v4 (.cons v5 l)))))))) = .good := by
 cases l with
 | nil =>
  have hg : (@Bool.rec (fun _ => V → V → V → V → V → V → (ES → R) → R) _ _ (Nat.ble 6 nt) v0 v1 v2 v3 v4 v5 k) = .good := hg
  cases h1 : Nat.ble 6 nt <;> rw [h1] at hg
  ·exact (bad_ne hg).elim
  ·refine ⟨?_, hg⟩
   unfold argsFit
   show (match true with | true => Nat.ble 6 nt | false => false) = true
   rw [h1]
 | cons h t => exact ev8_7_le v0 v1 v2 v3 v4 v5 h t nt k hg
 | _ => exact (bad_ne hg).elim
theorem ev8_5_le (v0 v1 v2 v3 v4 : V) (l : V) (nt : Nat) (k : ES → R) (hg : ev8_5 v0 v1 v2 v3 v4 l (.cons v0 (.cons v1 (.cons v2 (.cons v3 (.cons v4 l))))) nt k = .good) : argsFit (.cons v0 (.cons v1 (.cons v2 (.cons v3 (.cons v4 l))))) nt = true ∧ k (enc (env0 (.cons v0 (.cons v1 (.cons v2 (.cons v3 (.cons v4 l))))))) = .good := by
 cases l with
 | nil =>
  have hg : (@Bool.rec (fun _ => V → V → V → V → V → (ES → R) → R) _ _ (Nat.ble 5 nt) v0 v1 v2 v3 v4 k) = .good := hg
  cases h1 : Nat.ble 5 nt <;> rw [h1] at hg
  ·exact (bad_ne hg).elim
  ·refine ⟨?_, hg⟩
   unfold argsFit
   show (match true with | true => Nat.ble 5 nt | false => false) = true
   rw [h1]
 | cons h t => exact ev8_6_le v0 v1 v2 v3 v4 h t nt k hg
 | _ => exact (bad_ne hg).elim
theorem ev8_4_le (v0 v1 v2 v3 : V) (l : V) (nt : Nat) (k : ES → R) (hg : ev8_4 v0 v1 v2 v3 l (.cons v0 (.cons v1 (.cons v2 (.cons v3 l)))) nt k = .good) : argsFit (.cons v0 (.cons v1 (.cons v2 (.cons v3 l)))) nt = true ∧ k (enc (env0 (.cons v0 (.cons v1 (.cons v2 (.cons v3 l)))))) = .good := by
 cases l with
 | nil =>
  have hg : (@Bool.rec (fun _ => V → V → V → V → (ES → R) → R) _ _ (Nat.ble 4 nt) v0 v1 v2 v3 k) = .good := hg
  cases h1 : Nat.ble 4 nt <;> rw [h1] at hg
  ·exact (bad_ne hg).elim
  ·refine ⟨?_, hg⟩
   unfold argsFit
   show (match true with | true => Nat.ble 4 nt | false => false) = true
   rw [h1]
 | cons h t => exact ev8_5_le v0 v1 v2 v3 h t nt k hg
 | _ => exact (bad_ne hg).elim
theorem ev8_3_le (v0 v1 v2 : V) (l : V) (nt : Nat) (k : ES → R) (hg : ev8_3 v0 v1 v2 l (.cons v0 (.cons v1 (.cons v2 l))) nt k = .good) : argsFit (.cons v0 (.cons v1 (.cons v2 l))) nt = true ∧ k (enc (env0 (.cons v0 (.cons v1 (.cons v2 l))))) = .good := by
 cases l with
 | nil =>
  have hg : (@Bool.rec (fun _ => V → V → V → (ES → R) → R) _ _ (Nat.ble 3 nt) v0 v1 v2 k) = .good := hg
  cases h1 : Nat.ble 3 nt <;> rw [h1] at hg
  ·exact (bad_ne hg).elim
  ·refine ⟨?_, hg⟩
   unfold argsFit
   show (match true with | true => Nat.ble 3 nt | false => false) = true
   rw [h1]
 | cons h t => exact ev8_4_le v0 v1 v2 h t nt k hg
 | _ => exact (bad_ne hg).elim
theorem ev8_2_le (v0 v1 : V) (l : V) (nt : Nat) (k : ES → R) (hg : ev8_2 v0 v1 l (.cons v0 (.cons v1 l)) nt k = .good) : argsFit (.cons v0 (.cons v1 l)) nt = true ∧ k (enc (env0 (.cons v0 (.cons v1 l)))) = .good := by
 cases l with
 | nil =>
  have hg : (@Bool.rec (fun _ => V → V → (ES → R) → R) _ _ (Nat.ble 2 nt) v0 v1 k) = .good := hg
  cases h1 : Nat.ble 2 nt <;> rw [h1] at hg
  ·exact (bad_ne hg).elim
  ·refine ⟨?_, hg⟩
   unfold argsFit
   show (match true with | true => Nat.ble 2 nt | false => false) = true
   rw [h1]
 | cons h t => exact ev8_3_le v0 v1 h t nt k hg
 | _ => exact (bad_ne hg).elim
theorem ev8_1_le (v0 : V) (l : V) (nt : Nat) (k : ES → R) (hg : ev8_1 v0 l (.cons v0 l) nt k = .good) : argsFit (.cons v0 l) nt = true ∧ k (enc (env0 (.cons v0 l))) = .good := by
 cases l with
 | nil =>
  have hg : (@Bool.rec (fun _ => V → (ES → R) → R) _ _ (Nat.ble 1 nt) v0 k) = .good := hg
  cases h1 : Nat.ble 1 nt <;> rw [h1] at hg
  ·exact (bad_ne hg).elim
  ·refine ⟨?_, hg⟩
   unfold argsFit
   show (match true with | true => Nat.ble 1 nt | false => false) = true
   rw [h1]
 | cons h t => exact ev8_2_le v0 h t nt k hg
 | _ => exact (bad_ne hg).elim
theorem ev8_0_le (l : V) (nt : Nat) (k : ES → R) (hg : ev8_0  l l nt k = .good) : argsFit l nt = true ∧ k (enc (env0 l)) = .good := by
 cases l with
 | nil => exact ⟨by unfold argsFit; show (match true with | true => Nat.ble 0 nt | false => false) = true; cases nt <;> rfl, hg⟩
 | cons h t => exact ev8_1_le  h t nt k hg
 | _ => exact (bad_ne hg).elim
theorem env0S_le {args : V} {nt : Nat} {k : ES → R} (hg : env0S args nt k = .good) : argsFit args nt = true ∧ k (enc (env0 args)) = .good := ev8_0_le args nt k hg
def DLe (d' : DS) (d : Go.Ev.MS) : Prop := ∀ (cc : CallS) (call : Go.Ev.Call) p e h kn kr, CallLe cc call → d' cc p (enc e) (encH h) kn kr = .good →
 (∃ e' h' p', d call p e h = (.nrm e' h', p') ∧ kn p' (enc e') (encH h') = .good) ∨ ∃ e' h' p', d call p e h = (.ret e' h', p') ∧ kr p' (enc e') (encH h') = .good
theorem DLe.bad (d : Go.Ev.MS) : DLe badDF.f d := fun cc call p e h kn kr hc hg => (bad_ne hg).elim
theorem seqD_le {a' b' : DS} {a b : Go.Ev.MS} (ha : DLe a' a) (hb : DLe b' b) : DLe (seqD a' b') (seqS a b) := by
 intro cc call p e h kn kr hc hg
 unfold seqS
 rcases ha cc call p e h _ kr hc hg with ⟨e', h', p', e1, hg⟩ | ⟨e', h', p', e1, hg⟩ <;> rw [e1]
 ·exact hb cc call p' e' h' kn kr hc hg
 ·exact .inr ⟨e', h', p', rfl, hg⟩
theorem operD_le {X : Cx} (hkn : ∀ t, X.kn t = true) (ops : Array Oper) (o : Oper) : DLe (operD (sxOf X) ops o).f (Go.Ev.compOperS X ops o).f := by
 unfold operD
 cases hr : isRecover o.op with
 | true =>
  dsimp only
  unfold Go.Ev.compOperS
  unfold isRecover at hr
  split at hr
  ·rename_i a t ho
   rw [ho]
   dsimp only
   show DLe (Fn1.f (@SR.rec (fun _ => Fn1 DS) _ _ (dstG X.nt o.dst))) _
   cases hd : dstG X.nt o.dst with
   | no => exact DLe.bad _
   | ok s' =>
    obtain ⟨s, hs, e1⟩ := dstG_le hd
    rw [e1 _ _ _ _ rfl]
    dsimp only
    cases hgd : o.guard with
    | some _ => exact DLe.bad _
    | none =>
     intro cc call p e h kn kr hc hg
     dsimp only at hg ⊢
     rcases p with _ | ⟨v, _ | _⟩ <;> dsimp only at hg ⊢ <;> rw [hs] at hg <;> exact .inl ⟨_, _, _, rfl, hg⟩
  ·exact nomatch hr
 | false =>
  have e0 : Go.Ev.compOperS X ops o = @Fn1.rec OpM (fun _ => Fn1 Go.Ev.MS) (fun m => ⟨fun c p e h => (m c e h fun e h => .nrm e h, p)⟩) (compOper X ops o) := by
   unfold Go.Ev.compOperS
   split
   ·rename_i ho; unfold isRecover at hr; rw [ho] at hr; exact nomatch hr
   ·rfl
  rw [e0]
  have hm := compOperS_le (X := X) hkn ops o
  cases h1 : compOperS (sxOf X) ops o with
  | mk m' =>
   cases h2 : compOper X ops o with
   | mk m =>
    rw [h1, h2] at hm
    intro cc call p e h kn kr hc hg
    dsimp only at hg hm ⊢
    obtain ⟨e', h', e1, hg⟩ := hm call _ (fun o => ∃ e' h', o = .nrm e' h' ∧ kn p (enc e') (encH h') = .good) e h _ (fun e h => .nrm e h)
     ⟨cc, _, _, _, _, rfl, hc, fun e h hg => (bad_ne hg).elim, fun i e h hg => (bad_ne hg).elim, fun e h hg => (bad_ne hg).elim, fun v e' h' hg => (bad_ne hg).elim⟩ (fun e h hg => ⟨e, h, rfl, hg⟩) hg
    rw [e1]
    exact .inl ⟨_, _, _, rfl, hg⟩
theorem opersD_le {X : Cx} (hkn : ∀ t, X.kn t = true) (ops : Array Oper) : ∀ l, DLe (opersD (sxOf X) ops l).f (Go.Ev.compOpersS X ops l).f
 | [] => fun cc call p e h kn kr hc hg => .inl ⟨_, _, _, rfl, hg⟩
 | o :: l => by
  have ih := opersD_le hkn ops l
  have hm := operD_le (X := X) hkn ops o
  show DLe (Fn1.f (@Fn1.rec DS (fun _ => Fn1 DS) (fun m => @Fn1.rec DS (fun _ => Fn1 DS) (fun r => ⟨seqD m r⟩) (opersD (sxOf X) ops l)) (operD (sxOf X) ops o))) _
  simp only [Go.Ev.compOpersS]
  cases h1 : operD (sxOf X) ops o with
  | mk m' =>
   cases h2 : Go.Ev.compOperS X ops o with
   | mk m =>
    cases h3 : opersD (sxOf X) ops l with
    | mk r' =>
     cases h4 : Go.Ev.compOpersS X ops l with
     | mk r =>
      rw [h1, h2] at hm
      rw [h3, h4] at ih
      exact seqD_le hm ih
theorem otherD_le {X : Cx} (hkn : ∀ t, X.kn t = true) (c : Code) : DLe (otherD (sxOf X) X.bw X.tab c).f (Fn1.f (@Fn1.rec M (fun _ => Fn1 Go.Ev.MS) (fun m => ⟨fun cl p e h => (m cl e h, p)⟩) (comp X c (fun _ e h => .nrm e h)))) := by
 have hm := code_le hkn c (nx' := nrmS) (nx := fun _ e h => .nrm e h) nrm_le
 unfold otherD
 cases h1 : compS (sxOf X) X.bw X.tab c nrmS with
 | mk m' =>
  cases h2 : comp X c (fun _ e h => .nrm e h) with
  | mk m =>
   rw [h1, h2] at hm
   intro cc call p e h kn kr hc hg
   dsimp only at hg hm ⊢
   have key := hm call _ (fun o => (∃ e' h', o = .nrm e' h' ∧ kn p (enc e') (encH h') = .good) ∨ ∃ e' h', o = .ret e' h' ∧ kr p (enc e') (encH h') = .good) e h
     ⟨cc, _, _, _, _, rfl, hc, fun e h hg => .inl ⟨_, _, rfl, hg⟩, fun i e h hg => (bad_ne hg).elim, fun e h hg => .inr ⟨_, _, rfl, hg⟩, fun v e' h' hg => (bad_ne hg).elim⟩ hg
   rcases key with ⟨e', h', e1, hg⟩ | ⟨e', h', e1, hg⟩ <;> rw [e1]
   ·exact .inl ⟨_, _, _, rfl, hg⟩
   ·exact .inr ⟨_, _, _, rfl, hg⟩
theorem codeD_le {X : Cx} (hkn : ∀ t, X.kn t = true) : ∀ c, DLe (codeD (sxOf X) X.bw X.tab c).f (Go.Ev.compS X c).f := by
 intro c
 induction c with
 | region id ops d =>
  cases d with
  | false => exact opersD_le hkn ops ops.toList
  | true => exact otherD_le hkn _
 | seq a b iha ihb =>
  simp only [codeD, Go.Ev.compS]
  cases h1 : codeD (sxOf X) X.bw X.tab a with
  | mk m' =>
   cases h2 : Go.Ev.compS X a with
   | mk m =>
    cases h3 : codeD (sxOf X) X.bw X.tab b with
    | mk r' =>
     cases h4 : Go.Ev.compS X b with
     | mk r =>
      rw [h1, h2] at iha
      rw [h3, h4] at ihb
      exact seqD_le iha ihb
 | cond x a b iha ihb =>
  simp only [codeD, Go.Ev.compS]
  show DLe (Fn1.f (@GR.rec (fun _ => Fn1 DS) _ _ (opdG X.gl x))) _
  cases hx : opdG X.gl x with
  | no => exact DLe.bad _
  | ok g' =>
   obtain ⟨g, hg', e1⟩ := opdG_le hx
   rw [e1 _ _ _ _ rfl hkn]
   dsimp only
   cases h1 : codeD (sxOf X) X.bw X.tab a with
   | mk m' =>
    cases h2 : Go.Ev.compS X a with
    | mk m =>
     cases h3 : codeD (sxOf X) X.bw X.tab b with
     | mk r' =>
      cases h4 : Go.Ev.compS X b with
      | mk r =>
       rw [h1, h2] at iha
       rw [h3, h4] at ihb
       intro cc call p e h kn kr hc hg
       dsimp only at hg ⊢
       rw [hg'] at hg
       cases hv : g e <;> rw [hv] at hg <;> try exact (bad_ne hg).elim
       rename_i t
       cases t
       ·exact ihb cc call p e h kn kr hc hg
       ·exact iha cc call p e h kn kr hc hg
 | _ => exact otherD_le hkn _
end Go.Ev.Sp
namespace Go.Ev.Sp
open Go Go.Ev
def NamesOk (F : Cf) : Prop := ∀ f fn, F.P.funcs[f]? = some fn → F.ok f = true → fn.ntmps ≤ 992 ∧ ¬ fn.name = "runtime.NumGoroutine"
theorem deferFn_le {F : Cf} (hn : NamesOk F) {f : FuncId} {cc : CallS} {call : Go.Ev.Call} (hc : CallLe cc call) {p : PSt} {e : Env} {h : H} {kn kr : PKS} (hg : (deferFn F f).f cc p (enc e) (encH h) kn kr = .good) :
  ∃ fn c, F.P.funcs[f]? = some fn ∧ fn.body = some c ∧ ntOf F f = fn.ntmps ∧ ¬ (fn.name = "runtime.NumGoroutine" ∨ 32 < fn.ntmps ∨ fn.results.size ≠ 0 ∨ F.ok f = false) ∧
   ((∃ e' h' p', (Go.Ev.compS (F.cx fn.ntmps f) c).f call p e h = (.nrm e' h', p') ∧ kn p' (enc e') (encH h') = .good) ∨ ∃ e' h' p', (Go.Ev.compS (F.cx fn.ntmps f) c).f call p e h = (.ret e' h', p') ∧ kr p' (enc e') (encH h') = .good) := by
 unfold deferFn at hg
 split at hg
 ·rename_i fn hf
  split at hg
  ·rename_i c hb
   unfold deferBody at hg
   cases hq : (Nat.ble fn.ntmps 32 && Nat.beq fn.results.size 0 && F.ok f) with
   | false => rw [hq] at hg; exact (bad_ne hg).elim
   | true =>
    rw [hq] at hg
    simp only [Bool.and_eq_true] at hq
    obtain ⟨⟨q1, q2⟩, q3⟩ := hq
    refine ⟨fn, c, hf, hb, ?_, ?_, ?_⟩
    ·unfold ntOf; rw [hf]
    ·rintro (h | h | h | h)
     ·exact (hn f fn hf q3).2 h
     ·exact absurd (Nat.le_of_ble_eq_true q1) (by omega)
     ·exact h (Nat.eq_of_beq_eq_true q2)
     ·rw [q3] at h; exact nomatch h
    ·exact codeD_le (X := F.cx fn.ntmps f) (fun _ => rfl) c cc call p e h kn kr hc hg
  ·exact (bad_ne hg).elim
 ·exact (bad_ne hg).elim
theorem runDefersS_le {F : Cf} (hn : NamesOk F) {cc : CallS} {call : Go.Ev.Call} (hc : CallLe cc call) {res' : RS} {res : Env → H → OpR} (hres : ∀ e h k', res' (enc e) (encH h) k' = .good → ∃ v, res e h = .val v h ∧ k' v = .good) {e : Env} {kv kp : V → HS → R} :
  ∀ (n : Nat) (ds : V) (p : PSt) (h : H), runDefersS F n cc res' (enc e) ds p (encH h) kv kp = .good →
   (∃ v h', runDefers F call res e n ds p h = .val v h' ∧ kv v (encH h') = .good) ∨ ∃ v h', runDefers F call res e n ds p h = .pan v h' ∧ kp v (encH h') = .good
 | 0, ds, p, h, hg => (bad_ne hg).elim
 | n + 1, ds, p, h, hg => by
  have ih := runDefersS_le hn hc hres (e := e) (kv := kv) (kp := kp) n
  cases ds <;> try exact (bad_ne hg).elim
  ·cases p with
   | none =>
    have hg : res' (enc e) (encH h) (fun v => kv v (encH h)) = .good := hg
    obtain ⟨v, e1, hg⟩ := hres _ _ _ hg
    exact .inl ⟨v, h, e1, hg⟩
   | some q => exact .inr ⟨q.1, h, rfl, hg⟩
  ·rename_i x l
   cases x <;> try exact (bad_ne hg).elim
   ·rename_i i o
    cases o with
    | succ o => exact (bad_ne hg).elim
    | zero =>
     obtain ⟨m, since, s1, s2, hb, hg⟩ := iterAt_le hg
     cases m with
     | some _ => exact (bad_ne hg).elim
     | none =>
      cases since with
      | succ s => exact (bad_ne hg).elim
      | zero =>
       have hg : putS (encH h) i (iterS none 1 [] 0) (fun h => runDefersS F n cc res' (enc e) l p h kv kp) = .good := hg
       rw [show iterS none 1 [] 0 = encBlk (.mapIter none 1 [] 0) from rfl, putS_enc] at hg
       have key := ih l p _ hg
       simp only [runDefers]
       rw [hb]
       exact key
   ·rename_i f a cap
    cases l <;> try exact (bad_ne hg).elim
    rename_i args ds
    have hg : (@Fn1.rec DS (fun _ => FuncId → V → V → V → V → PSt → HS → R) (fun m f a cap args ds p h => env0S (V.appF a (V.appF args cap)) (ntOf F f) fun e0 =>
     m cc p e0 h (fun p e' h => topS e' fun t => (@V.rec  (fun _ => (V) → (PSt) → (HS) → R) (fun ds p h => runDefersS F n cc res' (enc e) ds (settleP p) h kv kp) (fun _ ds p h => .bad) (fun _ _ ds p h => .bad) (fun _ _ ds p h => .bad) (fun _ _ ds p h => .bad) (fun ds p h => .bad) (fun _ _ _ _ _ ds p h => .bad) (fun ds p h => .bad) (fun _ ds p h => .bad) (fun ds p h => .bad) (fun _ _ _ _ _ ds p h => .bad) (fun ds p h => .bad) (fun _ _ _ ds p h => .bad) (fun ds p h => .bad) (fun _ _ ds p h => .bad) (fun _ _ ds p h => .bad) (fun ds p h => .bad) (fun _ _ _ _ ds p h => .bad) (t) ds p h)) (fun p e' h => topS e' fun t => (@V.rec  (fun _ => (V) → (PSt) → (HS) → R) (fun ds p h => runDefersS F n cc res' (enc e) ds (settleP p) h kv kp) (fun _ ds p h => .bad) (fun _ _ ds p h => .bad) (fun _ _ ds p h => .bad) (fun _ _ ds p h => .bad) (fun ds p h => .bad) (fun _ _ _ _ _ ds p h => .bad) (fun ds p h => .bad) (fun _ ds p h => .bad) (fun ds p h => .bad) (fun _ _ _ _ _ ds p h => .bad) (fun ds p h => .bad) (fun _ _ _ ds p h => .bad) (fun ds p h => .bad) (fun _ _ ds p h => .bad) (fun _ _ ds p h => .bad) (fun ds p h => .bad) (fun _ _ _ _ ds p h => .bad) (t) ds p h))) (deferFn F f) f a cap args ds p (encH h)) = .good := hg
    have hd := fun e0 h1 kn kr => deferFn_le (e := e0) (h := h1) hn (f := f) hc (p := p) (kn := kn) (kr := kr)
    cases h1 : deferFn F f with
    | mk m =>
     rw [h1] at hg
     rw [V.appF_eq] at hg
     obtain ⟨hfit, hg⟩ := env0S_le hg
     have hd := hd (env0 (V.app a (V.app args cap))) h _ _ (by rw [h1]; exact hg)
     obtain ⟨fn, c, hf, hb, hnt, hcond, hd⟩ := hd
     rw [hnt] at hfit
     simp only [runDefers]
     rw [hf]; dsimp only
     rw [hb]; dsimp only
     rw [if_neg hcond, hfit]
     dsimp only
     rcases hd with ⟨e', h', p', e1, hg⟩ | ⟨e', h', p', e1, hg⟩
     all_goals
      rw [e1]
      dsimp only
      replace hg := (topS_enc _ _).symm.trans hg
      cases ht : topE e' <;> rw [ht] at hg <;> try exact (bad_ne hg).elim
      exact ih ds _ _ hg
theorem fnS_le {F : Cf} (hn : NamesOk F) {cc : CallS} {call : Go.Ev.Call} (hc : CallLe cc call) {f : FuncId} {args : V} {h : H} {kv kp : V → HS → R} (hg : (fnS F f).f cc args (encH h) kv kp = .good) :
  (∃ v h', (fnC F f).f call args h = .val v h' ∧ kv v (encH h') = .good) ∨ ∃ v h', (fnC F f).f call args h = .pan v h' ∧ kp v (encH h') = .good := by
 unfold fnS at hg
 cases hok : F.ok f with
 | false => rw [hok] at hg; exact (bad_ne hg).elim
 | true =>
  rw [hok] at hg
  dsimp only at hg
  unfold fnC
  cases hf : F.P.funcs[f]? with
  | none => rw [hf] at hg; exact (bad_ne hg).elim
  | some fn =>
   rw [hf] at hg
   dsimp only at hg ⊢
   cases hb : fn.body with
   | none => rw [hb] at hg; exact (bad_ne hg).elim
   | some c =>
    rw [hb] at hg
    dsimp only at hg ⊢
    rw [if_pos ⟨(hn f fn hf hok).1, (hn f fn hf hok).2, hok⟩]
    unfold fnBody at hg
    have hres := fun e h k' => resultsS_le (X := F.cx fn.ntmps f) (fun _ => rfl) (l := fn.results.toList) (call := fun _ _ _ => .bad "") (e := e) (h := h) (k' := k')
    have hm := code_le (X := F.cx fn.ntmps f) (fun _ => rfl) c (nx' := fun z e h => z fun _ _ _ kr _ => kr e h) (nx := fun _ e h => .ret e h) (fun call z G e h hz hg => by
     obtain ⟨cc, kn, kx, kr, kp, rfl, hcall, _, _, hr, _⟩ := hz
     exact hr _ _ hg)
    have e1 : sxOf (F.cx fn.ntmps f) = Cf.sx F fn.ntmps := rfl
    rw [e1] at hres hm
    have e2 : (F.cx fn.ntmps f).bw = F.bw := rfl
    have e3 : (F.cx fn.ntmps f).tab = F.tab f := rfl
    rw [e2, e3] at hm
    cases h1 : resultsS (Cf.sx F fn.ntmps) fn.results.toList with
    | mk res' =>
     cases h2 : compS (Cf.sx F fn.ntmps) F.bw (F.tab f) c (fun z e h => z fun _ _ _ kr _ => kr e h) with
     | mk m' =>
      cases h3 : resultsM (F.cx fn.ntmps f) fn.results.toList with
      | mk res =>
       cases h4 : comp (F.cx fn.ntmps f) c (fun _ e h => .ret e h) with
       | mk m =>
        rw [h1, h2] at hg
        rw [h2, h4] at hm
        rw [h1, h3] at hres
        obtain ⟨hfit, hg⟩ := env0S_le hg
        dsimp only at hres hm ⊢
        rw [hfit, env0F_eq]
        dsimp only
        have hfin : ∀ e h k', res' (enc e) (encH h) k' = .good → ∃ v, @Out.rec (fun _ => OpR) (fun e h => .bad "results") (fun _ _ _ => .bad "results") (fun e h => .bad "results") (fun v _ h => .val v h) (fun w => .bad w) (res (fun _ _ _ => .bad "") e h) = .val v h ∧ k' v = .good := by
         intro e h k' hg
         obtain ⟨v, e1, hg⟩ := hres e h k' hg
         rw [e1]
         exact ⟨v, rfl, hg⟩
        have key := hm call _ (fun o =>
         (∃ e' h', o = .ret e' h' ∧ (@V.rec (fun _ => V → CallS → ES → HS → (V → HS → R) → (V → HS → R) → R) (fun t call e h kv kp => res' e h fun v => kv v h) (fun _ t call e h kv kp => runDefersS F 100 call res' e t none h kv kp) (fun _ _ t call e h kv kp => runDefersS F 100 call res' e t none h kv kp) (fun _ _ t call e h kv kp => runDefersS F 100 call res' e t none h kv kp) (fun _ _ t call e h kv kp => runDefersS F 100 call res' e t none h kv kp) (fun t call e h kv kp => runDefersS F 100 call res' e t none h kv kp) (fun _ _ _ _ _ t call e h kv kp => runDefersS F 100 call res' e t none h kv kp) (fun t call e h kv kp => runDefersS F 100 call res' e t none h kv kp) (fun _ t call e h kv kp => runDefersS F 100 call res' e t none h kv kp) (fun t call e h kv kp => runDefersS F 100 call res' e t none h kv kp) (fun _ _ _ _ _ t call e h kv kp => runDefersS F 100 call res' e t none h kv kp) (fun t call e h kv kp => runDefersS F 100 call res' e t none h kv kp) (fun _ _ _ t call e h kv kp => runDefersS F 100 call res' e t none h kv kp) (fun t call e h kv kp => runDefersS F 100 call res' e t none h kv kp) (fun _ _ t call e h kv kp => runDefersS F 100 call res' e t none h kv kp) (fun _ _ t call e h kv kp => runDefersS F 100 call res' e t none h kv kp) (fun t call e h kv kp => runDefersS F 100 call res' e t none h kv kp) (fun _ _ _ _ t call e h kv kp => runDefersS F 100 call res' e t none h kv kp) (topE e') (topE e') cc (enc e') (encH h') kv kp) = .good) ∨
         (∃ v e' h', o = .pan v e' h' ∧ (@V.rec (fun _ => V → CallS → V → ES → HS → (V → HS → R) → (V → HS → R) → R) (fun t call v e h kv kp => kp v h) (fun _ t call v e h kv kp => runDefersS F 100 call res' e t (some (v, false)) h kv kp) (fun _ _ t call v e h kv kp => runDefersS F 100 call res' e t (some (v, false)) h kv kp) (fun _ _ t call v e h kv kp => runDefersS F 100 call res' e t (some (v, false)) h kv kp) (fun _ _ t call v e h kv kp => runDefersS F 100 call res' e t (some (v, false)) h kv kp) (fun t call v e h kv kp => runDefersS F 100 call res' e t (some (v, false)) h kv kp) (fun _ _ _ _ _ t call v e h kv kp => runDefersS F 100 call res' e t (some (v, false)) h kv kp) (fun t call v e h kv kp => runDefersS F 100 call res' e t (some (v, false)) h kv kp) (fun _ t call v e h kv kp => runDefersS F 100 call res' e t (some (v, false)) h kv kp) (fun t call v e h kv kp => runDefersS F 100 call res' e t (some (v, false)) h kv kp) (fun _ _ _ _ _ t call v e h kv kp => runDefersS F 100 call res' e t (some (v, false)) h kv kp) (fun t call v e h kv kp => runDefersS F 100 call res' e t (some (v, false)) h kv kp) (fun _ _ _ t call v e h kv kp => runDefersS F 100 call res' e t (some (v, false)) h kv kp) (fun t call v e h kv kp => runDefersS F 100 call res' e t (some (v, false)) h kv kp) (fun _ _ t call v e h kv kp => runDefersS F 100 call res' e t (some (v, false)) h kv kp) (fun _ _ t call v e h kv kp => runDefersS F 100 call res' e t (some (v, false)) h kv kp) (fun t call v e h kv kp => runDefersS F 100 call res' e t (some (v, false)) h kv kp) (fun _ _ _ _ t call v e h kv kp => runDefersS F 100 call res' e t (some (v, false)) h kv kp) (topE e') (topE e') cc v (enc e') (encH h') kv kp) = .good)) (env0 args) h
         ⟨cc, _, _, _, _, rfl, hc, fun e h hg => (bad_ne hg).elim, fun i e h hg => (bad_ne hg).elim, fun e h hg => .inl ⟨e, h, rfl, by rw [topS_enc] at hg; exact hg⟩, fun v e h hg => .inr ⟨v, e, h, rfl, by rw [topS_enc] at hg; exact hg⟩⟩ hg
        rcases key with ⟨e', h', e1, hg⟩ | ⟨v, e', h', e1, hg⟩
        ·rw [e1]
         dsimp only
         cases ht : topE e' <;> rw [ht] at hg <;> dsimp only at hg ⊢
         ·obtain ⟨v, e2, hg⟩ := hfin _ _ _ hg
          exact .inl ⟨v, h', e2, hg⟩
         all_goals exact runDefersS_le hn hc hfin _ _ _ _ hg
        ·rw [e1]
         dsimp only
         cases ht : topE e' <;> rw [ht] at hg <;> dsimp only at hg ⊢
         ·exact .inr ⟨v, h', rfl, hg⟩
         all_goals exact runDefersS_le hn hc hfin _ _ _ _ hg
end Go.Ev.Sp
namespace Go.Ev
open Go
structure Sl where mk ::
 (g r : Nat) (l : List V) (sz len : Nat)
def plainV : V → Bool
 | .int _ _ | .str _ _ | .bool _ => true
 | _ => false
noncomputable section
theorem Rel.plain {E F : Emb} {v : V} {x : Value} (hp : plainV v = true) (h : Rel E v x) : Rel F v x := by
 cases v <;> (try cases hp) <;> simpa only [Rel] using h
theorem plain_scalar {v : V} (hp : plainV v = true) : v.isScalar = true := by cases v <;> first | rfl | cases hp
def putSl (h : H) (s : Sl) : H :=
 match blkOfList [.sl (Id.ofNat s.r) 0 s.sz s.len (.exact s.len)], blkOfList s.l with
 | some (c, n), some (d, m) => (h.put (Id.ofNat s.g) (.live c n true [])).put (Id.ofNat s.r) (.live d m true [])
 | _, _ => h
def heapOf (nx : Nat) (ss : List Sl) : H := ⟨(ss.foldl putSl H.empty).t, Id.ofNat nx⟩
def slOk (s : Sl) : Bool := Nat.beq s.l.length (s.len * s.sz) && Nat.ble 1 s.len && Nat.ble s.len 32768 && Nat.ble 1 s.sz && s.l.all plainV && (blkOfList s.l).isSome && Nat.ble s.g 32767 && Nat.ble s.r 32767
def idsOk : List Nat → Bool
 | [] => true
 | a :: l => !(l.contains a) && idsOk l
def slsOk (ss : List Sl) : Bool := ss.all slOk && idsOk (ss.flatMap fun s => [s.g, s.r])
def Laid (ss : List Sl) (rb off : Sl → Nat) (w : World) : Prop :=
 ∀ s ∈ ss, (∃ C el, w.heap[s.g]? = some (.cells C el (0, 0)) ∧ C[0]? = some (.slice (some ⟨rb s, off s, none⟩) s.len s.len)) ∧
  ∃ C el, w.heap[rb s]? = some (.cells C el (0, 0)) ∧ off s + s.l.length ≤ C.size ∧ ∀ o v, s.l[o]? = some v → ∃ x, C[off s + o]? = some x ∧ Rel (fun _ => none) v x
theorem Id.ofNat_inj {a b : Nat} (ha : a ≤ 32767) (hb : b ≤ 32767) (h : Id.ofNat a = Id.ofNat b) : a = b := by
 unfold Id.ofNat at h
 simp only [Id.mk.injEq] at h
 obtain ⟨h1, h2, h3⟩ := h
 have e1 := D.num_inj (by omega) (by omega) h1
 have e2 := D.num_inj (by omega) (by omega) h2
 have e3 := D.num_inj (by omega) (by omega) h3
 omega
def embOf (rb off : Sl → Nat) : List Sl → Emb
 | [] => fun _ => none
 | s :: ss => fun i => open Classical in if i = Id.ofNat s.g then some ⟨s.g, 0, 0, 0⟩ else if i = Id.ofNat s.r then some ⟨rb s, off s, 0, 0⟩ else embOf rb off ss i
def blkAt : List Sl → Id → Blk
 | [] => fun _ => .free
 | s :: ss => fun i => open Classical in
  if i = Id.ofNat s.g then (match blkOfList [.sl (Id.ofNat s.r) 0 s.sz s.len (.exact s.len)] with | some (c, n) => .live c n true [] | none => .free)
  else if i = Id.ofNat s.r then (match blkOfList s.l with | some (d, m) => .live d m true [] | none => .free)
  else blkAt ss i
theorem one_cell (v : V) : ∃ c, blkOfList [v] = some (c, 1) := ⟨_, rfl⟩
theorem slOk_out {s : Sl} (h : slOk s = true) : s.l.length = s.len * s.sz ∧ 1 ≤ s.len ∧ s.len ≤ 32768 ∧ 1 ≤ s.sz ∧ (∀ v ∈ s.l, plainV v = true) ∧ (∃ d m, blkOfList s.l = some (d, m)) ∧ s.g ≤ 32767 ∧ s.r ≤ 32767 := by
 unfold slOk at h
 simp only [Bool.and_eq_true] at h
 obtain ⟨⟨⟨⟨⟨⟨⟨h1, h2⟩, h3⟩, h4⟩, h5⟩, h6⟩, h7⟩, h8⟩ := h
 refine ⟨Nat.eq_of_beq_eq_true h1, Nat.le_of_ble_eq_true h2, Nat.le_of_ble_eq_true h3, Nat.le_of_ble_eq_true h4, fun v hv => List.all_eq_true.1 h5 v hv, ?_, Nat.le_of_ble_eq_true h7, Nat.le_of_ble_eq_true h8⟩
 cases hb : blkOfList s.l with
 | none => rw [hb] at h6; exact nomatch h6
 | some p => exact ⟨p.1, p.2, rfl⟩
theorem ofList_nth : ∀ (l : List V) (o : Nat) (v : V), l[o]? = some v → V.nth (V.ofList l) o = v
 | [], o, v, h => by simp at h
 | a :: l, 0, v, h => by simp at h; exact h
 | a :: l, o + 1, v, h => ofList_nth l o v (by simpa using h)
theorem blk_cells {l : List V} {d : Cells} {m : Nat} (h : blkOfList l = some (d, m)) : m = l.length ∧ m ≤ d.cap ∧ ∀ o v, l[o]? = some v → d.get o = v := by
 obtain ⟨a, b, _, c⟩ := push_spec h (Nat.zero_le _)
 rw [ofList_len, Nat.zero_add] at a
 refine ⟨a, b, fun o v ho => ?_⟩
 have hl := (List.getElem?_eq_some_iff.1 ho).1
 have := c o (by rw [ofList_len]; exact hl)
 rw [Nat.zero_add] at this
 rw [this, ofList_nth l o v ho]
theorem idsOk_nodup : ∀ {l : List Nat}, idsOk l = true → l.Nodup
 | [], _ => List.nodup_nil
 | a :: l, h => by
  simp only [idsOk, Bool.and_eq_true, Bool.not_eq_eq_eq_not, Bool.not_true] at h
  exact List.nodup_cons.2 ⟨fun hm => by have := List.contains_iff_mem.2 hm; rw [h.1] at this; exact (nomatch this), idsOk_nodup h.2⟩
theorem ids_ne {ss : List Sl} {s t : Sl} (h : slsOk (s :: ss) = true) (ht : t ∈ ss) : Id.ofNat s.g ≠ Id.ofNat t.g ∧ Id.ofNat s.g ≠ Id.ofNat t.r ∧ Id.ofNat s.r ≠ Id.ofNat t.g ∧ Id.ofNat s.r ≠ Id.ofNat t.r := by
 unfold slsOk at h
 rw [Bool.and_eq_true] at h
 have hall := List.all_eq_true.1 h.1
 have hs := slOk_out (hall s (List.mem_cons_self ..))
 have htk := slOk_out (hall t (List.mem_cons_of_mem _ ht))
 have hn := idsOk_nodup h.2
 simp only [List.flatMap_cons, List.cons_append, List.nil_append, List.nodup_cons, List.mem_cons, not_or, List.mem_flatMap, not_exists, not_and] at hn
 obtain ⟨⟨n1, n2⟩, n3, _⟩ := hn
 have a := n2 t ht
 have b := n3 t ht
 simp only [List.mem_cons, List.not_mem_nil, or_false, not_or] at a b
 refine ⟨fun e => a.1 (Id.ofNat_inj hs.2.2.2.2.2.2.1 htk.2.2.2.2.2.2.1 e), fun e => a.2.1 (Id.ofNat_inj hs.2.2.2.2.2.2.1 htk.2.2.2.2.2.2.2 e), fun e => b.1 (Id.ofNat_inj hs.2.2.2.2.2.2.2 htk.2.2.2.2.2.2.1 e), fun e => b.2.1 (Id.ofNat_inj hs.2.2.2.2.2.2.2 htk.2.2.2.2.2.2.2 e)⟩
theorem own_ne {ss : List Sl} {s : Sl} (h : slsOk (s :: ss) = true) : Id.ofNat s.r ≠ Id.ofNat s.g := by
 unfold slsOk at h
 rw [Bool.and_eq_true] at h
 have hs := slOk_out (List.all_eq_true.1 h.1 s (List.mem_cons_self ..))
 have hn := idsOk_nodup h.2
 simp only [List.flatMap_cons, List.cons_append, List.nil_append, List.nodup_cons, List.mem_cons, not_or] at hn
 exact fun e => hn.1.1 (Id.ofNat_inj hs.2.2.2.2.2.2.1 hs.2.2.2.2.2.2.2 e.symm)
theorem slsOk_tail {ss : List Sl} {s : Sl} (h : slsOk (s :: ss) = true) : slsOk ss = true := by
 unfold slsOk at h ⊢
 simp only [Bool.and_eq_true, List.all_cons, List.flatMap_cons, List.cons_append, List.nil_append, idsOk] at h ⊢
 exact ⟨h.1.2, h.2.2.2⟩
theorem slsOk_head {ss : List Sl} {s : Sl} (h : slsOk (s :: ss) = true) : slOk s = true := by
 unfold slsOk at h
 simp only [Bool.and_eq_true, List.all_cons] at h
 exact h.1.1
theorem putSl_blk {s : Sl} (hs : slOk s = true) (hne : Id.ofNat s.r ≠ Id.ofNat s.g) (h : H) (i : Id) : (putSl h s).blk i =
  (open Classical in if i = Id.ofNat s.g then (match blkOfList [.sl (Id.ofNat s.r) 0 s.sz s.len (.exact s.len)] with | some (c, n) => .live c n true [] | none => .free)
  else if i = Id.ofNat s.r then (match blkOfList s.l with | some (d, m) => .live d m true [] | none => .free) else h.blk i) := by
 obtain ⟨d, m, hd⟩ := (slOk_out hs).2.2.2.2.2.1
 obtain ⟨c, hc⟩ := one_cell (.sl (Id.ofNat s.r) 0 s.sz s.len (.exact s.len))
 unfold putSl
 rw [hc, hd]
 dsimp only
 by_cases e1 : i = Id.ofNat s.g
 ·rw [if_pos e1, e1, blk_put_ne _ hne, blk_put_same]
 ·rw [if_neg e1]
  by_cases e2 : i = Id.ofNat s.r
  ·rw [if_pos e2, e2, blk_put_same]
  ·rw [if_neg e2, blk_put_ne _ (fun e => e2 e.symm), blk_put_ne _ (fun e => e1 e.symm)]
theorem fold_blk : ∀ (ss : List Sl), slsOk ss = true → ∀ (h : H), (∀ s ∈ ss, h.blk (Id.ofNat s.g) = .free ∧ h.blk (Id.ofNat s.r) = .free) → ∀ i, (ss.foldl putSl h).blk i = (match blkAt ss i with | .free => h.blk i | b => b)
 | [], _, h, _, i => rfl
 | s :: ss, hok, h, hf, i => by
  have hs := slsOk_head hok
  have hne := own_ne hok
  rw [List.foldl_cons, fold_blk ss (slsOk_tail hok) _ (fun t ht => by
   obtain ⟨a, b, c, d⟩ := ids_ne hok ht
   have hft := hf t (List.mem_cons_of_mem _ ht)
   rw [putSl_blk hs hne, putSl_blk hs hne, if_neg (fun e => a e.symm), if_neg (fun e => c e.symm), if_neg (fun e => b e.symm), if_neg (fun e => d e.symm)]
   exact hft) i, putSl_blk hs hne]
  obtain ⟨d, m, hd⟩ := (slOk_out hs).2.2.2.2.2.1
  obtain ⟨c, hc⟩ := one_cell (.sl (Id.ofNat s.r) 0 s.sz s.len (.exact s.len))
  have other : ∀ j, (j = Id.ofNat s.g ∨ j = Id.ofNat s.r) → blkAt ss j = .free := by
   intro j hj
   have gen : ∀ tt, (∀ t ∈ tt, t ∈ ss) → blkAt tt j = .free := by
    intro tt
    induction tt with
    | nil => intro _; rfl
    | cons t tt ih =>
     intro hsub
     obtain ⟨a, b, c, d⟩ := ids_ne hok (hsub t (List.mem_cons_self ..))
     show (open Classical in if j = Id.ofNat t.g then _ else if j = Id.ofNat t.r then _ else blkAt tt j) = _
     rw [if_neg (by rcases hj with rfl | rfl; exact a; exact c), if_neg (by rcases hj with rfl | rfl; exact b; exact d)]
     exact ih fun t ht => hsub t (List.mem_cons_of_mem _ ht)
   exact gen ss fun t ht => ht
  show _ = (match (open Classical in if i = Id.ofNat s.g then (match blkOfList [.sl (Id.ofNat s.r) 0 s.sz s.len (.exact s.len)] with | some (c, n) => Blk.live c n true [] | none => .free)
   else if i = Id.ofNat s.r then (match blkOfList s.l with | some (d, m) => .live d m true [] | none => .free) else blkAt ss i) with | .free => h.blk i | b => b)
  rw [hc, hd]
  dsimp only
  by_cases e1 : i = Id.ofNat s.g
  ·rw [other i (.inl e1), if_pos e1, if_pos e1]
  ·rw [if_neg e1, if_neg e1]
   by_cases e2 : i = Id.ofNat s.r
   ·rw [other i (.inr e2), if_pos e2, if_pos e2]
   ·rw [if_neg e2, if_neg e2]
theorem empty_blk (i : Id) : H.empty.blk i = .free := by
 obtain ⟨a, b, c⟩ := i
 show atBlk c (atB1 b (atB2 a (Nd.fill b2e))) = .free
 rw [show atB2 a (Nd.fill b2e) = b2e from by cases a <;> rfl, show atB1 b b2e = b1e from by cases b <;> rfl]
 cases c <;> rfl
theorem heapOf_blk {ss : List Sl} (h : slsOk ss = true) (nx : Nat) (i : Id) : (heapOf nx ss).blk i = blkAt ss i := by
 have e : (heapOf nx ss).blk i = (ss.foldl putSl H.empty).blk i := rfl
 rw [e, fold_blk ss h H.empty (fun s _ => ⟨empty_blk _, empty_blk _⟩) i, empty_blk]
 cases blkAt ss i <;> rfl
theorem blkAt_cases {ss : List Sl} (h : slsOk ss = true) (rb off : Sl → Nat) (i : Id) :
  (blkAt ss i = .free ∧ embOf rb off ss i = none) ∨
  (∃ s ∈ ss, ∃ c, blkAt ss i = .live c 1 true [] ∧ c.get 0 = .sl (Id.ofNat s.r) 0 s.sz s.len (.exact s.len) ∧ 1 ≤ c.cap ∧ embOf rb off ss i = some ⟨s.g, 0, 0, 0⟩) ∨
  (∃ s ∈ ss, ∃ d, blkAt ss i = .live d s.l.length true [] ∧ s.l.length ≤ d.cap ∧ (∀ o v, s.l[o]? = some v → d.get o = v) ∧ embOf rb off ss i = some ⟨rb s, off s, 0, 0⟩) := by
 induction ss with
 | nil => exact .inl ⟨rfl, rfl⟩
 | cons s ss ih =>
  have hs := slsOk_head h
  obtain ⟨d, m, hd⟩ := (slOk_out hs).2.2.2.2.2.1
  obtain ⟨c, hc⟩ := one_cell (.sl (Id.ofNat s.r) 0 s.sz s.len (.exact s.len))
  have e1 : blkAt (s :: ss) i = (open Classical in if i = Id.ofNat s.g then .live c 1 true [] else if i = Id.ofNat s.r then .live d m true [] else blkAt ss i) := by
   show (open Classical in if i = Id.ofNat s.g then (match blkOfList [.sl (Id.ofNat s.r) 0 s.sz s.len (.exact s.len)] with | some (c, n) => Blk.live c n true [] | none => .free)
    else if i = Id.ofNat s.r then (match blkOfList s.l with | some (d, m) => .live d m true [] | none => .free) else blkAt ss i) = _
   rw [hc, hd]
  have e2 : embOf rb off (s :: ss) i = (open Classical in if i = Id.ofNat s.g then some ⟨s.g, 0, 0, 0⟩ else if i = Id.ofNat s.r then some ⟨rb s, off s, 0, 0⟩ else embOf rb off ss i) := rfl
  rw [e1, e2]
  by_cases h1 : i = Id.ofNat s.g
  ·rw [if_pos h1, if_pos h1]
   obtain ⟨b1, b2, b3⟩ := blk_cells hc
   exact .inr (.inl ⟨s, List.mem_cons_self .., c, rfl, b3 0 _ rfl, b2, rfl⟩)
  ·rw [if_neg h1, if_neg h1]
   by_cases h2 : i = Id.ofNat s.r
   ·rw [if_pos h2, if_pos h2]
    obtain ⟨b1, b2, b3⟩ := blk_cells hd
    subst b1
    exact .inr (.inr ⟨s, List.mem_cons_self .., d, rfl, b2, b3, rfl⟩)
   ·rw [if_neg h2, if_neg h2]
    rcases ih (slsOk_tail h) with k | ⟨t, ht, k⟩ | ⟨t, ht, k⟩
    ·exact .inl k
    ·exact .inr (.inl ⟨t, List.mem_cons_of_mem _ ht, k⟩)
    ·exact .inr (.inr ⟨t, List.mem_cons_of_mem _ ht, k⟩)
theorem emb_row {rb off : Sl → Nat} : ∀ {ss : List Sl}, slsOk ss = true → ∀ {s : Sl}, s ∈ ss → embOf rb off ss (Id.ofNat s.r) = some ⟨rb s, off s, 0, 0⟩ ∧ embOf rb off ss (Id.ofNat s.g) = some ⟨s.g, 0, 0, 0⟩
 | t :: ss, h, s, hm => by
  have e2 : ∀ i, embOf rb off (t :: ss) i = (open Classical in if i = Id.ofNat t.g then some ⟨t.g, 0, 0, 0⟩ else if i = Id.ofNat t.r then some ⟨rb t, off t, 0, 0⟩ else embOf rb off ss i) := fun _ => rfl
  rw [e2, e2]
  rcases List.mem_cons.1 hm with rfl | hm
  ·exact ⟨by rw [if_neg (own_ne h), if_pos rfl], if_pos rfl⟩
  ·obtain ⟨a, b, c, d⟩ := ids_ne h hm
   obtain ⟨k1, k2⟩ := emb_row (slsOk_tail h) hm
   exact ⟨by rw [if_neg (fun e => b e.symm), if_neg (fun e => d e.symm)]; exact k1, by rw [if_neg (fun e => a e.symm), if_neg (fun e => c e.symm)]; exact k2⟩
theorem laid_HRel {ss : List Sl} (h : slsOk ss = true) (nx : Nat) {rb off : Sl → Nat} {w : World} (hl : Laid ss rb off w) : HRel (embOf rb off ss) (heapOf nx ss) w := by
 have hsl : ∀ s ∈ ss, slOk s = true := by
  intro s hs; unfold slsOk at h; rw [Bool.and_eq_true] at h; exact List.all_eq_true.1 h.1 s hs
 have noWr : ∀ i, ¬ Wr (heapOf nx ss) i := by
  intro i hw
  unfold Wr at hw
  rw [heapOf_blk h] at hw
  rcases blkAt_cases h rb off i with ⟨e, _⟩ | ⟨s, _, c, e, _⟩ | ⟨s, _, d, e, _⟩ <;> rw [e] at hw <;> exact (by simpa using hw)
 have noLink : ∀ i j, ¬ Linked (heapOf nx ss) i j := by
  rintro i j ⟨c, n, x, a, e, hm⟩
  rw [heapOf_blk h] at e
  rcases blkAt_cases h rb off j with ⟨e', _⟩ | ⟨s, _, c', e', _⟩ | ⟨s, _, d, e', _⟩ <;> rw [e'] at e <;> cases e <;> simp at hm
 refine ⟨fun i => ?_, fun i L e => ?_, fun i L e => ?_, fun i j Li Lj _ _ _ _ _ _ hw => absurd hw (noWr i), fun i j hk => absurd hk (noLink i j), fun i j hk => absurd hk (noLink i j), fun i j Li Lj ci ni xi ai cj nj xj aj _ _ _ hj hm => absurd ⟨cj, nj, xj, aj, hj, hm⟩ (noLink i j)⟩
 ·rw [heapOf_blk h]
  rcases blkAt_cases h rb off i with ⟨e, e'⟩ | ⟨s, _, c, e, _, _, e'⟩ | ⟨s, _, d, e, _, _, e'⟩ <;> rw [e, e'] <;> simp
 ·rcases blkAt_cases h rb off i with ⟨_, e'⟩ | ⟨s, hs, c, _, _, _, e'⟩ | ⟨s, hs, d, _, _, _, e'⟩ <;> rw [e'] at e <;> cases e
  ·obtain ⟨⟨C, el, h1, _⟩, _⟩ := hl s hs
   exact (Array.getElem?_eq_some_iff.1 h1).1
  ·obtain ⟨_, C, el, h1, _⟩ := hl s hs
   exact (Array.getElem?_eq_some_iff.1 h1).1
 ·rw [heapOf_blk h]
  rcases blkAt_cases h rb off i with ⟨_, e'⟩ | ⟨s, hs, c, eb, hget, hcap, e'⟩ | ⟨s, hs, d, eb, hcap, hget, e'⟩ <;> rw [e'] at e <;> cases e <;> rw [eb]
  ·obtain ⟨⟨C, el, h1, h2⟩, _⟩ := hl s hs
   have hsz := (Array.getElem?_eq_some_iff.1 h2).1
   have ok := slOk_out (hsl s hs)
   refine ⟨hcap, C, el, h1, by simp only; omega, ⟨by simp, .inl rfl⟩, fun o ho => ?_⟩
   have : o = 0 := by omega
   subst this
   rw [hget]
   refine ⟨rfl, _, by simpa using h2, ?_⟩
   simp only [Rel]
   refine ⟨⟨rb s, off s, 0, 0⟩, ⟨rb s, off s, none⟩, s.len, (emb_row h hs).1, rfl, .inr (by simp), Nat.le_refl _, ok.2.2.1, rfl⟩
  ·obtain ⟨_, C, el, h1, h2, h3⟩ := hl s hs
   have ok := slOk_out (hsl s hs)
   refine ⟨hcap, C, el, h1, h2, ⟨by simp only; omega, .inl rfl⟩, fun o ho => ?_⟩
   have ho' : s.l[o]? = some (s.l[o]) := List.getElem?_eq_getElem ho
   rw [hget o _ ho']
   obtain ⟨x, hx, hr⟩ := h3 o _ ho'
   have hp := ok.2.2.2.2.1 _ (List.getElem_mem ho)
   exact ⟨plain_scalar hp, x, hx, hr.plain hp⟩
structure KeepsW (w w' : World) : Prop where
 size : w.heap.size ≤ w'.heap.size
 old : ∀ b, b < w.heap.size → w'.heap[b]? = w.heap[b]?
 os : w'.os = w.os
 out : w'.output = w.output
 tape : w'.tape = w.tape
theorem noWr_keeps {E E' : Emb} {h h' : H} {w w' : World} (hn : ∀ i, ¬ Wr h i) (hR : Run E h w E' h' w') : KeepsW w w' :=
 ⟨hR.size, fun b hb => hR.frame b hb fun i L _ hw _ => absurd hw (hn i), hR.os, hR.out, hR.tape⟩
theorem heapOf_noWr {ss : List Sl} (h : slsOk ss = true) (nx : Nat) (i : Id) : ¬ Wr (heapOf nx ss) i := by
 intro hw
 unfold Wr at hw
 rw [heapOf_blk h] at hw
 rcases blkAt_cases h (fun _ => 0) (fun _ => 0) i with ⟨e, _⟩ | ⟨s, _, c, e, _⟩ | ⟨s, _, d, e, _⟩ <;> rw [e] at hw <;> exact (by simpa using hw)
theorem KeepsW.hrel {E : Emb} {h : H} {w w' : World} (hk : KeepsW w w') (hr : HRel E h w) : HRel E h w' where
 dom := hr.dom
 lt := fun i L e => Nat.lt_of_lt_of_le (hr.lt i L e) hk.size
 rel := fun i L e => (hr.rel i L e).world (hk.old _ (hr.lt i L e))
 inj := hr.inj
 ancs := hr.ancs
 ext := hr.ext
 ends := hr.ends
theorem KeepsW.run {E : Emb} {h : H} {w w' : World} (hk : KeepsW w w') (hr : HRel E h w) : Run E h w E h w' where
 le := Emb.le_refl _
 rel := hk.hrel hr
 size := hk.size
 frame := fun b hb _ => hk.old b hb
 wrs := fun i L e hw _ => ⟨i, L, e, hw, rfl⟩
 old := fun i L e _ => ⟨i, L, e, rfl⟩
 os := hk.os
 out := hk.out
 tape := hk.tape
end
end Go.Ev
namespace Go.Ev.Sp
open Go Go.Ev
noncomputable def putSlS (s : Sl) (h : HS) (k : HS → R) : R :=
 fromL (.cons (.sl (Id.ofNat s.r) 0 s.sz s.len (.exact s.len)) .nil) fun c n => fromL (V.ofList s.l) fun d m => putS h (Id.ofNat s.g) (fun _ _ L _ _ _ => L c n true []) fun h => putS h (Id.ofNat s.r) (fun _ _ L _ _ _ => L d m true []) k
noncomputable def goSl (ss : List Sl) (h : HS) (k : HS → R) : R := @List.rec Sl (fun _ => HS → (HS → R) → R) (fun h k => k h) (fun s _ ih h k => putSlS s h fun h => ih h k) ss h k
noncomputable def initS (nx : Nat) (ss : List Sl) (k : HS → R) : R := goSl ss emptyHS fun h => h fun t _ => k fun K => K t (Id.ofNat nx)
theorem putSlS_le {s : Sl} {h : H} {k : HS → R} (hg : putSlS s (encH h) k = .good) : k (encH (putSl h s)) = .good := by
 obtain ⟨c, n, h1, hg⟩ := fromL_le hg
 obtain ⟨d, m, h2, hg⟩ := fromL_le hg
 rw [putLive_enc, putLive_enc] at hg
 have e1 : blkOfList [.sl (Id.ofNat s.r) 0 s.sz s.len (.exact s.len)] = some (c, n) := h1
 have e2 : blkOfList s.l = some (d, m) := h2
 unfold putSl
 rw [e1, e2]
 exact hg
theorem goSl_le : ∀ {ss : List Sl} {h : H} {k : HS → R}, goSl ss (encH h) k = .good → k (encH (ss.foldl putSl h)) = .good
 | [], h, k, hg => hg
 | s :: ss, h, k, hg => by
  have hg : putSlS s (encH h) (fun h => goSl ss h k) = .good := hg
  exact goSl_le (ss := ss) (putSlS_le (k := fun h => goSl ss h k) hg)
theorem initS_le {nx : Nat} {ss : List Sl} {k : HS → R} (hg : initS nx ss k = .good) : k (encH (heapOf nx ss)) = .good := by
 unfold initS at hg
 rw [← encH_empty] at hg
 exact goSl_le hg
theorem none_le (E : Emb) : Emb.le (fun _ => none) E := fun i L h => nomatch h
def plainL : V → Bool
 | .nil => true
 | .cons v l => plainV v && plainL l
 | _ => false
theorem RelL.plain {E F : Emb} : ∀ {l : V} {xs : List Value}, plainL l = true → RelL E l xs → RelL F l xs := by
 intro l
 induction l with
 | nil => intro xs _ h; simpa only [RelL] using h
 | cons v l _ ih =>
  intro xs hp h
  simp only [plainL, Bool.and_eq_true] at hp
  simp only [RelL] at h ⊢
  obtain ⟨x, r, h1, h2, e⟩ := h
  exact ⟨x, r, h1.plain hp.1, ih hp.2 h2, e⟩
 | _ => intro xs hp; simp [plainL] at hp
noncomputable def isTrueS (v : V) : R := (@Bool.rec  (fun _ => R) (.bad) (.good) (V.eqb v (.bool true)))
theorem isTrueS_le {v : V} {E : Emb} {x : Value} (h : isTrueS v = .good) (hr : Rel E v x) : x = .bool true := by
 unfold isTrueS at h
 cases hq : V.eqb v (.bool true) <;> rw [hq] at h
 ·exact (bad_ne h).elim
 ·rw [V.eqb_eq hq] at hr
  simpa only [Rel] using hr
end Go.Ev.Sp
