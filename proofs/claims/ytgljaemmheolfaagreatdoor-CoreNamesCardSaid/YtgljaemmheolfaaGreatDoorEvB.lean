/- The evaluator, second part: operations, code, functions. -/
import Derived.Test.YtgljaemmheolfaaGreatDoorEvA
set_option linter.all false
namespace Go.Ev
noncomputable section
def get1 (d : D) : Fn1 (Env → V) :=
 @D.rec (fun _ => Fn1 (Env → V)) (⟨fun e => e.b0⟩) (⟨fun e => e.b1⟩) (⟨fun e => e.b2⟩) (⟨fun e => e.b3⟩) (⟨fun e => e.b4⟩) (⟨fun e => e.b5⟩) (⟨fun e => e.b6⟩) (⟨fun e => e.b7⟩) (⟨fun e => e.b8⟩) (⟨fun e => e.b9⟩) (⟨fun e => e.b10⟩) (⟨fun e => e.b11⟩) (⟨fun e => e.b12⟩) (⟨fun e => e.b13⟩) (⟨fun e => e.b14⟩) (⟨fun e => e.b15⟩) (⟨fun e => e.b16⟩) (⟨fun e => e.b17⟩) (⟨fun e => e.b18⟩) (⟨fun e => e.b19⟩) (⟨fun e => e.b20⟩) (⟨fun e => e.b21⟩) (⟨fun e => e.b22⟩) (⟨fun e => e.b23⟩) (⟨fun e => e.b24⟩) (⟨fun e => e.b25⟩) (⟨fun e => e.b26⟩) (⟨fun e => e.b27⟩) (⟨fun e => e.b28⟩) (⟨fun e => e.b29⟩) (⟨fun e => e.b30⟩) (⟨fun e => e.b31⟩) d
def set1 (d : D) : Fn1 (Env → V → Env) :=
 @D.rec (fun _ => Fn1 (Env → V → Env)) (⟨fun e v => (@Env.rec (fun _ => V → Env) (fun a0 a1 a2 a3 a4 a5 a6 a7 a8 a9 a10 a11 a12 a13 a14 a15 a16 a17 a18 a19 a20 a21 a22 a23 a24 a25 a26 a27 a28 a29 a30 a31 b0 b1 b2 b3 b4 b5 b6 b7 b8 b9 b10 b11 b12 b13 b14 b15 b16 b17 b18 b19 b20 b21 b22 b23 b24 b25 b26 b27 b28 b29 b30 b31 rest v => ⟨a0, a1, a2, a3, a4, a5, a6, a7, a8, a9, a10, a11, a12, a13, a14, a15, a16, a17, a18, a19, a20, a21, a22, a23, a24, a25, a26, a27, a28, a29, a30, a31, v, b1, b2, b3, b4, b5, b6, b7, b8, b9, b10, b11, b12, b13, b14, b15, b16, b17, b18, b19, b20, b21, b22, b23, b24, b25, b26, b27, b28, b29, b30, b31, rest⟩) e v)⟩) (⟨fun e v => (@Env.rec (fun _ => V → Env) (fun a0 a1 a2 a3 a4 a5 a6 a7 a8 a9 a10 a11 a12 a13 a14 a15 a16 a17 a18 a19 a20 a21 a22 a23 a24 a25 a26 a27 a28 a29 a30 a31 b0 b1 b2 b3 b4 b5 b6 b7 b8 b9 b10 b11 b12 b13 b14 b15 b16 b17 b18 b19 b20 b21 b22 b23 b24 b25 b26 b27 b28 b29 b30 b31 rest v => ⟨a0, a1, a2, a3, a4, a5, a6, a7, a8, a9, a10, a11, a12, a13, a14, a15, a16, a17, a18, a19, a20, a21, a22, a23, a24, a25, a26, a27, a28, a29, a30, a31, b0, v, b2, b3, b4, b5, b6, b7, b8, b9, b10, b11, b12, b13, b14, b15, b16, b17, b18, b19, b20, b21, b22, b23, b24, b25, b26, b27, b28, b29, b30, b31, rest⟩) e v)⟩) (⟨fun e v => (@Env.rec (fun _ => V → Env) (fun a0 a1 a2 a3 a4 a5 a6 a7 a8 a9 a10 a11 a12 a13 a14 a15 a16 a17 a18 a19 a20 a21 a22 a23 a24 a25 a26 a27 a28 a29 a30 a31 b0 b1 b2 b3 b4 b5 b6 b7 b8 b9 b10 b11 b12 b13 b14 b15 b16 b17 b18 b19 b20 b21 b22 b23 b24 b25 b26 b27 b28 b29 b30 b31 rest v => ⟨a0, a1, a2, a3, a4, a5, a6, a7, a8, a9, a10, a11, a12, a13, a14, a15, a16, a17, a18, a19, a20, a21, a22, a23, a24, a25, a26, a27, a28, a29, a30, a31, b0, b1, v, b3, b4, b5, b6, b7, b8, b9, b10, b11, b12, b13, b14, b15, b16, b17, b18, b19, b20, b21, b22, b23, b24, b25, b26, b27, b28, b29, b30, b31, rest⟩) e v)⟩) (⟨fun e v => (@Env.rec (fun _ => V → Env) (fun a0 a1 a2 a3 a4 a5 a6 a7 a8 a9 a10 a11 a12 a13 a14 a15 a16 a17 a18 a19 a20 a21 a22 a23 a24 a25 a26 a27 a28 a29 a30 a31 b0 b1 b2 b3 b4 b5 b6 b7 b8 b9 b10 b11 b12 b13 b14 b15 b16 b17 b18 b19 b20 b21 b22 b23 b24 b25 b26 b27 b28 b29 b30 b31 rest v => ⟨a0, a1, a2, a3, a4, a5, a6, a7, a8, a9, a10, a11, a12, a13, a14, a15, a16, a17, a18, a19, a20, a21, a22, a23, a24, a25, a26, a27, a28, a29, a30, a31, b0, b1, b2, v, b4, b5, b6, b7, b8, b9, b10, b11, b12, b13, b14, b15, b16, b17, b18, b19, b20, b21, b22, b23, b24, b25, b26, b27, b28, b29, b30, b31, rest⟩) e v)⟩) (⟨fun e v => (@Env.rec (fun _ => V → Env) (fun a0 a1 a2 a3 a4 a5 a6 a7 a8 a9 a10 a11 a12 a13 a14 a15 a16 a17 a18 a19 a20 a21 a22 a23 a24 a25 a26 a27 a28 a29 a30 a31 b0 b1 b2 b3 b4 b5 b6 b7 b8 b9 b10 b11 b12 b13 b14 b15 b16 b17 b18 b19 b20 b21 b22 b23 b24 b25 b26 b27 b28 b29 b30 b31 rest v => ⟨a0, a1, a2, a3, a4, a5, a6, a7, a8, a9, a10, a11, a12, a13, a14, a15, a16, a17, a18, a19, a20, a21, a22, a23, a24, a25, a26, a27, a28, a29, a30, a31, b0, b1, b2, b3, v, b5, b6, b7, b8, b9, b10, b11, b12, b13, b14, b15, b16, b17, b18, b19, b20, b21, b22, b23, b24, b25, b26, b27, b28, b29, b30, b31, rest⟩) e v)⟩) (⟨fun e v => (@Env.rec (fun _ => V → Env) (fun a0 a1 a2 a3 a4 a5 a6 a7 a8 a9 a10 a11 a12 a13 a14 a15 a16 a17 a18 a19 a20 a21 a22 a23 a24 a25 a26 a27 a28 a29 a30 a31 b0 b1 b2 b3 b4 b5 b6 b7 b8 b9 b10 b11 b12 b13 b14 b15 b16 b17 b18 b19 b20 b21 b22 b23 b24 b25 b26 b27 b28 b29 b30 b31 rest v => ⟨a0, a1, a2, a3, a4, a5, a6, a7, a8, a9, a10, a11, a12, a13, a14, a15, a16, a17, a18, a19, a20, a21, a22, a23, a24, a25, a26, a27, a28, a29, a30, a31, b0, b1, b2, b3, b4, v, b6, b7, b8, b9, b10, b11, b12, b13, b14, b15, b16, b17, b18, b19, b20, b21, b22, b23, b24, b25, b26, b27, b28, b29, b30, b31, rest⟩) e v)⟩) (⟨fun e v => (@Env.rec (fun _ => V → Env) (fun a0 a1 a2 a3 a4 a5 a6 a7 a8 a9 a10 a11 a12 a13 a14 a15 a16 a17 a18 a19 a20 a21 a22 a23 a24 a25 a26 a27 a28 a29 a30 a31 b0 b1 b2 b3 b4 b5 b6 b7 b8 b9 b10 b11 b12 b13 b14 b15 b16 b17 b18 b19 b20 b21 b22 b23 b24 b25 b26 b27 b28 b29 b30 b31 rest v => ⟨a0, a1, a2, a3, a4, a5, a6, a7, a8, a9, a10, a11, a12, a13, a14, a15, a16, a17, a18, a19, a20, a21, a22, a23, a24, a25, a26, a27, a28, a29, a30, a31, b0, b1, b2, b3, b4, b5, v, b7, b8, b9, b10, b11, b12, b13, b14, b15, b16, b17, b18, b19, b20, b21, b22, b23, b24, b25, b26, b27, b28, b29, b30, b31, rest⟩) e v)⟩) (⟨fun e v => (@Env.rec (fun _ => V → Env) (fun a0 a1 a2 a3 a4 a5 a6 a7 a8 a9 a10 a11 a12 a13 a14 a15 a16 a17 a18 a19 a20 a21 a22 a23 a24 a25 a26 a27 a28 a29 a30 a31 b0 b1 b2 b3 b4 b5 b6 b7 b8 b9 b10 b11 b12 b13 b14 b15 b16 b17 b18 b19 b20 b21 b22 b23 b24 b25 b26 b27 b28 b29 b30 b31 rest v => ⟨a0, a1, a2, a3, a4, a5, a6, a7, a8, a9, a10, a11, a12, a13, a14, a15, a16, a17, a18, a19, a20, a21, a22, a23, a24, a25, a26, a27, a28, a29, a30, a31, b0, b1, b2, b3, b4, b5, b6, v, b8, b9, b10, b11, b12, b13, b14, b15, b16, b17, b18, b19, b20, b21, b22, b23, b24, b25, b26, b27, b28, b29, b30, b31, rest⟩) e v)⟩) (⟨fun e v => (@Env.rec (fun _ => V → Env) (fun a0 a1 a2 a3 a4 a5 a6 a7 a8 a9 a10 a11 a12 a13 a14 a15 a16 a17 a18 a19 a20 a21 a22 a23 a24 a25 a26 a27 a28 a29 a30 a31 b0 b1 b2 b3 b4 b5 b6 b7 b8 b9 b10 b11 b12 b13 b14 b15 b16 b17 b18 b19 b20 b21 b22 b23 b24 b25 b26 b27 b28 b29 b30 b31 rest v => ⟨a0, a1, a2, a3, a4, a5, a6, a7, a8, a9, a10, a11, a12, a13, a14, a15, a16, a17, a18, a19, a20, a21, a22, a23, a24, a25, a26, a27, a28, a29, a30, a31, b0, b1, b2, b3, b4, b5, b6, b7, v, b9, b10, b11, b12, b13, b14, b15, b16, b17, b18, b19, b20, b21, b22, b23, b24, b25, b26, b27, b28, b29, b30, b31, rest⟩) e v)⟩) (⟨fun e v => (@Env.rec (fun _ => V → Env) (fun a0 a1 a2 a3 a4 a5 a6 a7 a8 a9 a10 a11 a12 a13 a14 a15 a16 a17 a18 a19 a20 a21 a22 a23 a24 a25 a26 a27 a28 a29 a30 a31 b0 b1 b2 b3 b4 b5 b6 b7 b8 b9 b10 b11 b12 b13 b14 b15 b16 b17 b18 b19 b20 b21 b22 b23 b24 b25 b26 b27 b28 b29 b30 b31 rest v => ⟨a0, a1, a2, a3, a4, a5, a6, a7, a8, a9, a10, a11, a12, a13, a14, a15, a16, a17, a18, a19, a20, a21, a22, a23, a24, a25, a26, a27, a28, a29, a30, a31, b0, b1, b2, b3, b4, b5, b6, b7, b8, v, b10, b11, b12, b13, b14, b15, b16, b17, b18, b19, b20, b21, b22, b23, b24, b25, b26, b27, b28, b29, b30, b31, rest⟩) e v)⟩) (⟨fun e v => (@Env.rec (fun _ => V → Env) (fun a0 a1 a2 a3 a4 a5 a6 a7 a8 a9 a10 a11 a12 a13 a14 a15 a16 a17 a18 a19 a20 a21 a22 a23 a24 a25 a26 a27 a28 a29 a30 a31 b0 b1 b2 b3 b4 b5 b6 b7 b8 b9 b10 b11 b12 b13 b14 b15 b16 b17 b18 b19 b20 b21 b22 b23 b24 b25 b26 b27 b28 b29 b30 b31 rest v => ⟨a0, a1, a2, a3, a4, a5, a6, a7, a8, a9, a10, a11, a12, a13, a14, a15, a16, a17, a18, a19, a20, a21, a22, a23, a24, a25, a26, a27, a28, a29, a30, a31, b0, b1, b2, b3, b4, b5, b6, b7, b8, b9, v, b11, b12, b13, b14, b15, b16, b17, b18, b19, b20, b21, b22, b23, b24, b25, b26, b27, b28, b29, b30, b31, rest⟩) e v)⟩) (⟨fun e v => (@Env.rec (fun _ => V → Env) (fun a0 a1 a2 a3 a4 a5 a6 a7 a8 a9 a10 a11 a12 a13 a14 a15 a16 a17 a18 a19 a20 a21 a22 a23 a24 a25 a26 a27 a28 a29 a30 a31 b0 b1 b2 b3 b4 b5 b6 b7 b8 b9 b10 b11 b12 b13 b14 b15 b16 b17 b18 b19 b20 b21 b22 b23 b24 b25 b26 b27 b28 b29 b30 b31 rest v => ⟨a0, a1, a2, a3, a4, a5, a6, a7, a8, a9, a10, a11, a12, a13, a14, a15, a16, a17, a18, a19, a20, a21, a22, a23, a24, a25, a26, a27, a28, a29, a30, a31, b0, b1, b2, b3, b4, b5, b6, b7, b8, b9, b10, v, b12, b13, b14, b15, b16, b17, b18, b19, b20, b21, b22, b23, b24, b25, b26, b27, b28, b29, b30, b31, rest⟩) e v)⟩) (⟨fun e v => (@Env.rec (fun _ => V → Env) (fun a0 a1 a2 a3 a4 a5 a6 a7 a8 a9 a10 a11 a12 a13 a14 a15 a16 a17 a18 a19 a20 a21 a22 a23 a24 a25 a26 a27 a28 a29 a30 a31 b0 b1 b2 b3 b4 b5 b6 b7 b8 b9 b10 b11 b12 b13 b14 b15 b16 b17 b18 b19 b20 b21 b22 b23 b24 b25 b26 b27 b28 b29 b30 b31 rest v => ⟨a0, a1, a2, a3, a4, a5, a6, a7, a8, a9, a10, a11, a12, a13, a14, a15, a16, a17, a18, a19, a20, a21, a22, a23, a24, a25, a26, a27, a28, a29, a30, a31, b0, b1, b2, b3, b4, b5, b6, b7, b8, b9, b10, b11, v, b13, b14, b15, b16, b17, b18, b19, b20, b21, b22, b23, b24, b25, b26, b27, b28, b29, b30, b31, rest⟩) e v)⟩) (⟨fun e v => (@Env.rec (fun _ => V → Env) (fun a0 a1 a2 a3 a4 a5 a6 a7 a8 a9 a10 a11 a12 a13 a14 a15 a16 a17 a18 a19 a20 a21 a22 a23 a24 a25 a26 a27 a28 a29 a30 a31 b0 b1 b2 b3 b4 b5 b6 b7 b8 b9 b10 b11 b12 b13 b14 b15 b16 b17 b18 b19 b20 b21 b22 b23 b24 b25 b26 b27 b28 b29 b30 b31 rest v => ⟨a0, a1, a2, a3, a4, a5, a6, a7, a8, a9, a10, a11, a12, a13, a14, a15, a16, a17, a18, a19, a20, a21, a22, a23, a24, a25, a26, a27, a28, a29, a30, a31, b0, b1, b2, b3, b4, b5, b6, b7, b8, b9, b10, b11, b12, v, b14, b15, b16, b17, b18, b19, b20, b21, b22, b23, b24, b25, b26, b27, b28, b29, b30, b31, rest⟩) e v)⟩) (⟨fun e v => (@Env.rec (fun _ => V → Env) (fun a0 a1 a2 a3 a4 a5 a6 a7 a8 a9 a10 a11 a12 a13 a14 a15 a16 a17 a18 a19 a20 a21 a22 a23 a24 a25 a26 a27 a28 a29 a30 a31 b0 b1 b2 b3 b4 b5 b6 b7 b8 b9 b10 b11 b12 b13 b14 b15 b16 b17 b18 b19 b20 b21 b22 b23 b24 b25 b26 b27 b28 b29 b30 b31 rest v => ⟨a0, a1, a2, a3, a4, a5, a6, a7, a8, a9, a10, a11, a12, a13, a14, a15, a16, a17, a18, a19, a20, a21, a22, a23, a24, a25, a26, a27, a28, a29, a30, a31, b0, b1, b2, b3, b4, b5, b6, b7, b8, b9, b10, b11, b12, b13, v, b15, b16, b17, b18, b19, b20, b21, b22, b23, b24, b25, b26, b27, b28, b29, b30, b31, rest⟩) e v)⟩) (⟨fun e v => (@Env.rec (fun _ => V → Env) (fun a0 a1 a2 a3 a4 a5 a6 a7 a8 a9 a10 a11 a12 a13 a14 a15 a16 a17 a18 a19 a20 a21 a22 a23 a24 a25 a26 a27 a28 a29 a30 a31 b0 b1 b2 b3 b4 b5 b6 b7 b8 b9 b10 b11 b12 b13 b14 b15 b16 b17 b18 b19 b20 b21 b22 b23 b24 b25 b26 b27 b28 b29 b30 b31 rest v => ⟨a0, a1, a2, a3, a4, a5, a6, a7, a8, a9, a10, a11, a12, a13, a14, a15, a16, a17, a18, a19, a20, a21, a22, a23, a24, a25, a26, a27, a28, a29, a30, a31, b0, b1, b2, b3, b4, b5, b6, b7, b8, b9, b10, b11, b12, b13, b14, v, b16, b17, b18, b19, b20, b21, b22, b23, b24, b25, b26, b27, b28, b29, b30, b31, rest⟩) e v)⟩) (⟨fun e v => (@Env.rec (fun _ => V → Env) (fun a0 a1 a2 a3 a4 a5 a6 a7 a8 a9 a10 a11 a12 a13 a14 a15 a16 a17 a18 a19 a20 a21 a22 a23 a24 a25 a26 a27 a28 a29 a30 a31 b0 b1 b2 b3 b4 b5 b6 b7 b8 b9 b10 b11 b12 b13 b14 b15 b16 b17 b18 b19 b20 b21 b22 b23 b24 b25 b26 b27 b28 b29 b30 b31 rest v => ⟨a0, a1, a2, a3, a4, a5, a6, a7, a8, a9, a10, a11, a12, a13, a14, a15, a16, a17, a18, a19, a20, a21, a22, a23, a24, a25, a26, a27, a28, a29, a30, a31, b0, b1, b2, b3, b4, b5, b6, b7, b8, b9, b10, b11, b12, b13, b14, b15, v, b17, b18, b19, b20, b21, b22, b23, b24, b25, b26, b27, b28, b29, b30, b31, rest⟩) e v)⟩) (⟨fun e v => (@Env.rec (fun _ => V → Env) (fun a0 a1 a2 a3 a4 a5 a6 a7 a8 a9 a10 a11 a12 a13 a14 a15 a16 a17 a18 a19 a20 a21 a22 a23 a24 a25 a26 a27 a28 a29 a30 a31 b0 b1 b2 b3 b4 b5 b6 b7 b8 b9 b10 b11 b12 b13 b14 b15 b16 b17 b18 b19 b20 b21 b22 b23 b24 b25 b26 b27 b28 b29 b30 b31 rest v => ⟨a0, a1, a2, a3, a4, a5, a6, a7, a8, a9, a10, a11, a12, a13, a14, a15, a16, a17, a18, a19, a20, a21, a22, a23, a24, a25, a26, a27, a28, a29, a30, a31, b0, b1, b2, b3, b4, b5, b6, b7, b8, b9, b10, b11, b12, b13, b14, b15, b16, v, b18, b19, b20, b21, b22, b23, b24, b25, b26, b27, b28, b29, b30, b31, rest⟩) e v)⟩) (⟨fun e v => (@Env.rec (fun _ => V → Env) (fun a0 a1 a2 a3 a4 a5 a6 a7 a8 a9 a10 a11 a12 a13 a14 a15 a16 a17 a18 a19 a20 a21 a22 a23 a24 a25 a26 a27 a28 a29 a30 a31 b0 b1 b2 b3 b4 b5 b6 b7 b8 b9 b10 b11 b12 b13 b14 b15 b16 b17 b18 b19 b20 b21 b22 b23 b24 b25 b26 b27 b28 b29 b30 b31 rest v => ⟨a0, a1, a2, a3, a4, a5, a6, a7, a8, a9, a10, a11, a12, a13, a14, a15, a16, a17, a18, a19, a20, a21, a22, a23, a24, a25, a26, a27, a28, a29, a30, a31, b0, b1, b2, b3, b4, b5, b6, b7, b8, b9, b10, b11, b12, b13, b14, b15, b16, b17, v, b19, b20, b21, b22, b23, b24, b25, b26, b27, b28, b29, b30, b31, rest⟩) e v)⟩) (⟨fun e v => (@Env.rec (fun _ => V → Env) (fun a0 a1 a2 a3 a4 a5 a6 a7 a8 a9 a10 a11 a12 a13 a14 a15 a16 a17 a18 a19 a20 a21 a22 a23 a24 a25 a26 a27 a28 a29 a30 a31 b0 b1 b2 b3 b4 b5 b6 b7 b8 b9 b10 b11 b12 b13 b14 b15 b16 b17 b18 b19 b20 b21 b22 b23 b24 b25 b26 b27 b28 b29 b30 b31 rest v => ⟨a0, a1, a2, a3, a4, a5, a6, a7, a8, a9, a10, a11, a12, a13, a14, a15, a16, a17, a18, a19, a20, a21, a22, a23, a24, a25, a26, a27, a28, a29, a30, a31, b0, b1, b2, b3, b4, b5, b6, b7, b8, b9, b10, b11, b12, b13, b14, b15, b16, b17, b18, v, b20, b21, b22, b23, b24, b25, b26, b27, b28, b29, b30, b31, rest⟩) e v)⟩) (⟨fun e v => (@Env.rec (fun _ => V → Env) (fun a0 a1 a2 a3 a4 a5 a6 a7 a8 a9 a10 a11 a12 a13 a14 a15 a16 a17 a18 a19 a20 a21 a22 a23 a24 a25 a26 a27 a28 a29 a30 a31 b0 b1 b2 b3 b4 b5 b6 b7 b8 b9 b10 b11 b12 b13 b14 b15 b16 b17 b18 b19 b20 b21 b22 b23 b24 b25 b26 b27 b28 b29 b30 b31 rest v => ⟨a0, a1, a2, a3, a4, a5, a6, a7, a8, a9, a10, a11, a12, a13, a14, a15, a16, a17, a18, a19, a20, a21, a22, a23, a24, a25, a26, a27, a28, a29, a30, a31, b0, b1, b2, b3, b4, b5, b6, b7, b8, b9, b10, b11, b12, b13, b14, b15, b16, b17, b18, b19, v, b21, b22, b23, b24, b25, b26, b27, b28, b29, b30, b31, rest⟩) e v)⟩) (⟨fun e v => (@Env.rec (fun _ => V → Env) (fun a0 a1 a2 a3 a4 a5 a6 a7 a8 a9 a10 a11 a12 a13 a14 a15 a16 a17 a18 a19 a20 a21 a22 a23 a24 a25 a26 a27 a28 a29 a30 a31 b0 b1 b2 b3 b4 b5 b6 b7 b8 b9 b10 b11 b12 b13 b14 b15 b16 b17 b18 b19 b20 b21 b22 b23 b24 b25 b26 b27 b28 b29 b30 b31 rest v => ⟨a0, a1, a2, a3, a4, a5, a6, a7, a8, a9, a10, a11, a12, a13, a14, a15, a16, a17, a18, a19, a20, a21, a22, a23, a24, a25, a26, a27, a28, a29, a30, a31, b0, b1, b2, b3, b4, b5, b6, b7, b8, b9, b10, b11, b12, b13, b14, b15, b16, b17, b18, b19, b20, v, b22, b23, b24, b25, b26, b27, b28, b29, b30, b31, rest⟩) e v)⟩) (⟨fun e v => (@Env.rec (fun _ => V → Env) (fun a0 a1 a2 a3 a4 a5 a6 a7 a8 a9 a10 a11 a12 a13 a14 a15 a16 a17 a18 a19 a20 a21 a22 a23 a24 a25 a26 a27 a28 a29 a30 a31 b0 b1 b2 b3 b4 b5 b6 b7 b8 b9 b10 b11 b12 b13 b14 b15 b16 b17 b18 b19 b20 b21 b22 b23 b24 b25 b26 b27 b28 b29 b30 b31 rest v => ⟨a0, a1, a2, a3, a4, a5, a6, a7, a8, a9, a10, a11, a12, a13, a14, a15, a16, a17, a18, a19, a20, a21, a22, a23, a24, a25, a26, a27, a28, a29, a30, a31, b0, b1, b2, b3, b4, b5, b6, b7, b8, b9, b10, b11, b12, b13, b14, b15, b16, b17, b18, b19, b20, b21, v, b23, b24, b25, b26, b27, b28, b29, b30, b31, rest⟩) e v)⟩) (⟨fun e v => (@Env.rec (fun _ => V → Env) (fun a0 a1 a2 a3 a4 a5 a6 a7 a8 a9 a10 a11 a12 a13 a14 a15 a16 a17 a18 a19 a20 a21 a22 a23 a24 a25 a26 a27 a28 a29 a30 a31 b0 b1 b2 b3 b4 b5 b6 b7 b8 b9 b10 b11 b12 b13 b14 b15 b16 b17 b18 b19 b20 b21 b22 b23 b24 b25 b26 b27 b28 b29 b30 b31 rest v => ⟨a0, a1, a2, a3, a4, a5, a6, a7, a8, a9, a10, a11, a12, a13, a14, a15, a16, a17, a18, a19, a20, a21, a22, a23, a24, a25, a26, a27, a28, a29, a30, a31, b0, b1, b2, b3, b4, b5, b6, b7, b8, b9, b10, b11, b12, b13, b14, b15, b16, b17, b18, b19, b20, b21, b22, v, b24, b25, b26, b27, b28, b29, b30, b31, rest⟩) e v)⟩) (⟨fun e v => (@Env.rec (fun _ => V → Env) (fun a0 a1 a2 a3 a4 a5 a6 a7 a8 a9 a10 a11 a12 a13 a14 a15 a16 a17 a18 a19 a20 a21 a22 a23 a24 a25 a26 a27 a28 a29 a30 a31 b0 b1 b2 b3 b4 b5 b6 b7 b8 b9 b10 b11 b12 b13 b14 b15 b16 b17 b18 b19 b20 b21 b22 b23 b24 b25 b26 b27 b28 b29 b30 b31 rest v => ⟨a0, a1, a2, a3, a4, a5, a6, a7, a8, a9, a10, a11, a12, a13, a14, a15, a16, a17, a18, a19, a20, a21, a22, a23, a24, a25, a26, a27, a28, a29, a30, a31, b0, b1, b2, b3, b4, b5, b6, b7, b8, b9, b10, b11, b12, b13, b14, b15, b16, b17, b18, b19, b20, b21, b22, b23, v, b25, b26, b27, b28, b29, b30, b31, rest⟩) e v)⟩) (⟨fun e v => (@Env.rec (fun _ => V → Env) (fun a0 a1 a2 a3 a4 a5 a6 a7 a8 a9 a10 a11 a12 a13 a14 a15 a16 a17 a18 a19 a20 a21 a22 a23 a24 a25 a26 a27 a28 a29 a30 a31 b0 b1 b2 b3 b4 b5 b6 b7 b8 b9 b10 b11 b12 b13 b14 b15 b16 b17 b18 b19 b20 b21 b22 b23 b24 b25 b26 b27 b28 b29 b30 b31 rest v => ⟨a0, a1, a2, a3, a4, a5, a6, a7, a8, a9, a10, a11, a12, a13, a14, a15, a16, a17, a18, a19, a20, a21, a22, a23, a24, a25, a26, a27, a28, a29, a30, a31, b0, b1, b2, b3, b4, b5, b6, b7, b8, b9, b10, b11, b12, b13, b14, b15, b16, b17, b18, b19, b20, b21, b22, b23, b24, v, b26, b27, b28, b29, b30, b31, rest⟩) e v)⟩) (⟨fun e v => (@Env.rec (fun _ => V → Env) (fun a0 a1 a2 a3 a4 a5 a6 a7 a8 a9 a10 a11 a12 a13 a14 a15 a16 a17 a18 a19 a20 a21 a22 a23 a24 a25 a26 a27 a28 a29 a30 a31 b0 b1 b2 b3 b4 b5 b6 b7 b8 b9 b10 b11 b12 b13 b14 b15 b16 b17 b18 b19 b20 b21 b22 b23 b24 b25 b26 b27 b28 b29 b30 b31 rest v => ⟨a0, a1, a2, a3, a4, a5, a6, a7, a8, a9, a10, a11, a12, a13, a14, a15, a16, a17, a18, a19, a20, a21, a22, a23, a24, a25, a26, a27, a28, a29, a30, a31, b0, b1, b2, b3, b4, b5, b6, b7, b8, b9, b10, b11, b12, b13, b14, b15, b16, b17, b18, b19, b20, b21, b22, b23, b24, b25, v, b27, b28, b29, b30, b31, rest⟩) e v)⟩) (⟨fun e v => (@Env.rec (fun _ => V → Env) (fun a0 a1 a2 a3 a4 a5 a6 a7 a8 a9 a10 a11 a12 a13 a14 a15 a16 a17 a18 a19 a20 a21 a22 a23 a24 a25 a26 a27 a28 a29 a30 a31 b0 b1 b2 b3 b4 b5 b6 b7 b8 b9 b10 b11 b12 b13 b14 b15 b16 b17 b18 b19 b20 b21 b22 b23 b24 b25 b26 b27 b28 b29 b30 b31 rest v => ⟨a0, a1, a2, a3, a4, a5, a6, a7, a8, a9, a10, a11, a12, a13, a14, a15, a16, a17, a18, a19, a20, a21, a22, a23, a24, a25, a26, a27, a28, a29, a30, a31, b0, b1, b2, b3, b4, b5, b6, b7, b8, b9, b10, b11, b12, b13, b14, b15, b16, b17, b18, b19, b20, b21, b22, b23, b24, b25, b26, v, b28, b29, b30, b31, rest⟩) e v)⟩) (⟨fun e v => (@Env.rec (fun _ => V → Env) (fun a0 a1 a2 a3 a4 a5 a6 a7 a8 a9 a10 a11 a12 a13 a14 a15 a16 a17 a18 a19 a20 a21 a22 a23 a24 a25 a26 a27 a28 a29 a30 a31 b0 b1 b2 b3 b4 b5 b6 b7 b8 b9 b10 b11 b12 b13 b14 b15 b16 b17 b18 b19 b20 b21 b22 b23 b24 b25 b26 b27 b28 b29 b30 b31 rest v => ⟨a0, a1, a2, a3, a4, a5, a6, a7, a8, a9, a10, a11, a12, a13, a14, a15, a16, a17, a18, a19, a20, a21, a22, a23, a24, a25, a26, a27, a28, a29, a30, a31, b0, b1, b2, b3, b4, b5, b6, b7, b8, b9, b10, b11, b12, b13, b14, b15, b16, b17, b18, b19, b20, b21, b22, b23, b24, b25, b26, b27, v, b29, b30, b31, rest⟩) e v)⟩) (⟨fun e v => (@Env.rec (fun _ => V → Env) (fun a0 a1 a2 a3 a4 a5 a6 a7 a8 a9 a10 a11 a12 a13 a14 a15 a16 a17 a18 a19 a20 a21 a22 a23 a24 a25 a26 a27 a28 a29 a30 a31 b0 b1 b2 b3 b4 b5 b6 b7 b8 b9 b10 b11 b12 b13 b14 b15 b16 b17 b18 b19 b20 b21 b22 b23 b24 b25 b26 b27 b28 b29 b30 b31 rest v => ⟨a0, a1, a2, a3, a4, a5, a6, a7, a8, a9, a10, a11, a12, a13, a14, a15, a16, a17, a18, a19, a20, a21, a22, a23, a24, a25, a26, a27, a28, a29, a30, a31, b0, b1, b2, b3, b4, b5, b6, b7, b8, b9, b10, b11, b12, b13, b14, b15, b16, b17, b18, b19, b20, b21, b22, b23, b24, b25, b26, b27, b28, v, b30, b31, rest⟩) e v)⟩) (⟨fun e v => (@Env.rec (fun _ => V → Env) (fun a0 a1 a2 a3 a4 a5 a6 a7 a8 a9 a10 a11 a12 a13 a14 a15 a16 a17 a18 a19 a20 a21 a22 a23 a24 a25 a26 a27 a28 a29 a30 a31 b0 b1 b2 b3 b4 b5 b6 b7 b8 b9 b10 b11 b12 b13 b14 b15 b16 b17 b18 b19 b20 b21 b22 b23 b24 b25 b26 b27 b28 b29 b30 b31 rest v => ⟨a0, a1, a2, a3, a4, a5, a6, a7, a8, a9, a10, a11, a12, a13, a14, a15, a16, a17, a18, a19, a20, a21, a22, a23, a24, a25, a26, a27, a28, a29, a30, a31, b0, b1, b2, b3, b4, b5, b6, b7, b8, b9, b10, b11, b12, b13, b14, b15, b16, b17, b18, b19, b20, b21, b22, b23, b24, b25, b26, b27, b28, b29, v, b31, rest⟩) e v)⟩) (⟨fun e v => (@Env.rec (fun _ => V → Env) (fun a0 a1 a2 a3 a4 a5 a6 a7 a8 a9 a10 a11 a12 a13 a14 a15 a16 a17 a18 a19 a20 a21 a22 a23 a24 a25 a26 a27 a28 a29 a30 a31 b0 b1 b2 b3 b4 b5 b6 b7 b8 b9 b10 b11 b12 b13 b14 b15 b16 b17 b18 b19 b20 b21 b22 b23 b24 b25 b26 b27 b28 b29 b30 b31 rest v => ⟨a0, a1, a2, a3, a4, a5, a6, a7, a8, a9, a10, a11, a12, a13, a14, a15, a16, a17, a18, a19, a20, a21, a22, a23, a24, a25, a26, a27, a28, a29, a30, a31, b0, b1, b2, b3, b4, b5, b6, b7, b8, b9, b10, b11, b12, b13, b14, b15, b16, b17, b18, b19, b20, b21, b22, b23, b24, b25, b26, b27, b28, b29, b30, v, rest⟩) e v)⟩) d
def Env.modR (g : C2 → C2) (e : Env) : Env :=
 (@Env.rec (fun _ => (C2 → C2) → Env) (fun a0 a1 a2 a3 a4 a5 a6 a7 a8 a9 a10 a11 a12 a13 a14 a15 a16 a17 a18 a19 a20 a21 a22 a23 a24 a25 a26 a27 a28 a29 a30 a31 b0 b1 b2 b3 b4 b5 b6 b7 b8 b9 b10 b11 b12 b13 b14 b15 b16 b17 b18 b19 b20 b21 b22 b23 b24 b25 b26 b27 b28 b29 b30 b31 rest g => ⟨a0, a1, a2, a3, a4, a5, a6, a7, a8, a9, a10, a11, a12, a13, a14, a15, a16, a17, a18, a19, a20, a21, a22, a23, a24, a25, a26, a27, a28, a29, a30, a31, b0, b1, b2, b3, b4, b5, b6, b7, b8, b9, b10, b11, b12, b13, b14, b15, b16, b17, b18, b19, b20, b21, b22, b23, b24, b25, b26, b27, b28, b29, b30, b31, (g rest)⟩) e g)
def e2e : Env := ⟨.undef, .undef, .undef, .undef, .undef, .undef, .undef, .undef, .undef, .undef, .undef, .undef, .undef, .undef, .undef, .undef, .undef, .undef, .undef, .undef, .undef, .undef, .undef, .undef, .undef, .undef, .undef, .undef, .undef, .undef, .undef, .undef, .undef, .undef, .undef, .undef, .undef, .undef, .undef, .undef, .undef, .undef, .undef, .undef, .undef, .undef, .undef, .undef, .undef, .undef, .undef, .undef, .undef, .undef, .undef, .undef, .undef, .undef, .undef, .undef, .undef, .undef, .undef, .undef, Nd.fill c1e⟩
inductive OpR where
 | val (v : V) (h : H)
 | pan (v : V) (h : H)
 | bad (why : String)
inductive Out where
 | nrm (e : Env) (h : H)
 | ext (id : Nat) (e : Env) (h : H)
 | ret (e : Env) (h : H)
 | pan (v : V) (e : Env) (h : H)
 | bad (why : String)
abbrev Call := FuncId → V → H → OpR
abbrev K := Env → H → Out
abbrev M := Call → Env → H → Out
abbrev OpM := Call → Env → H → K → Out
abbrev G := Env → V
abbrev S := Env → V → Env
def H.new (h : H) (x : Blk) (k : Id → H → Out) : Out :=
 (@H.rec  (fun _ => (Blk) → (Id → H → Out) → Out) (fun t nx x k => (@Id.rec  (fun _ => (B3) → (Blk) → (Id → H → Out) → Out) (fun a b c t x k => (@Blk.rec  (fun _ => (D) → (D) → (D) → (B3) → (Blk) → (Id → H → Out) → Out) (fun a b c t x k => k ⟨a, b, c⟩ ⟨modB2 a (modB1 b (setBlk c x)) t, Id.succ ⟨a, b, c⟩⟩) (fun a b c t x k => .bad "no free block") (fun _ _ _ _ a b c t x k => .bad "no free block") (fun _ _ a b c t x k => .bad "no free block") (fun _ _ _ a b c t x k => .bad "no free block") (fun _ _ _ _ a b c t x k => .bad "no free block") (atBlk c (atB1 b (atB2 a t))) a b c t x k)) (nx) t x k)) (h) x k)
def slot (e : Env) (t : Nat) : V := if t < 32 then Env.at0 (D.num t) e else if t < 64 then Env.at1 (D.num (t - 32)) e else atV (D.num (t % 32)) (atC1 (D.num (t / 32)) e.rest)
def put (e : Env) (t : Nat) (v : V) : Env := if t < 32 then Env.set0 (D.num t) v e else if t < 64 then Env.set1 (D.num (t - 32)) v e else Env.modR (modC1 (D.num (t / 32)) (setV (D.num (t % 32)) v)) e
def topE (e : Env) : V := atV .d31 (atC1 .d31 e.rest)
def setTop (v : V) (e : Env) : Env := Env.modR (modC1 .d31 (setV .d31 v)) e
def getT (t : Nat) : Fn1 G :=
 (@Bool.rec  (fun _ => Fn1 G) (get0 (D.num t)) ((@Bool.rec  (fun _ => Fn1 G) (get1 (D.num (t - 32))) (⟨fun e => atV (D.num (t % 32)) (atC1 (D.num (t / 32)) e.rest)⟩) (Nat.ble 64 t))) (Nat.ble 32 t))
def setT (t : Nat) : Fn1 S :=
 (@Bool.rec  (fun _ => Fn1 S) (set0 (D.num t)) ((@Bool.rec  (fun _ => Fn1 S) (set1 (D.num (t - 32))) (⟨fun e v => Env.modR (modC1 (D.num (t / 32)) (setV (D.num (t % 32)) v)) e⟩) (Nat.ble 64 t))) (Nat.ble 32 t))
def V.ofList : List V → V
 | [] => .nil
 | v :: l => .cons v (V.ofList l)
def strBits : List UInt8 → Nat
 | [] => 0
 | b :: l => b.toNat + 256 * strBits l
def kmod (k : IntKind) : Nat := (@IntKind.rec  (fun _ => Nat) (256) (65536) (4294967296) (18446744073709551616) (256) (65536) (4294967296) (18446744073709551616) (k))
def khalf (k : IntKind) : Nat := (@IntKind.rec  (fun _ => Nat) (128) (32768) (2147483648) (9223372036854775808) (0) (0) (0) (0) (k))
def toInt (k : IntKind) (n : Nat) : Int := if khalf k ≠ 0 ∧ khalf k ≤ n then (n : Int) - kmod k else n
def scalarOf : Value → Option V
 | .bool b => some (.bool b)
 | .int k n => let m := (n % (kmod k : Int)).toNat; if m < kmod k ∧ toInt k m = n then some (.int k m) else none
 | .string s => if s.size ≤ 1000000000 then some (.str s.size (strBits s.data.toList)) else none
 | .pointer none => some .nilp
 | .slice none 0 0 => some .nils
 | .map none => some .nilm
 | .nilFunc => some .nilf
 | .nilIface => some .nili
 | .func (.func f) first captured => if first.isEmpty && captured.isEmpty then some (.fn f .nil .nil) else none
 | _ => none
def scalarsOf : List Value → Option (List V)
 | [] => some []
 | v :: l => (scalarOf v).bind fun x => (scalarsOf l).map (x :: ·)
def constOf : Value → Option V
 | .agg cs => (scalarsOf cs.toList).map fun l => .agg (V.ofList l)
 | .tuple vs => if vs.isEmpty then some .undef else none
 | v => scalarOf v
structure Cx where mk ::
 (P : Program) (nt : Nat) (gl : List Nat) (bw : List FuncId) (eqs : List TypeId) (kn : Nat → Bool) (tab : List (Nat × List (Bool × Nat × Nat)))
def opd {α : Type} (X : Cx) (x : Operand) (k : G → Fn1 α) (d : Fn1 α) : Fn1 α :=
 match x with
 | .tmp t => match X.kn t with
  | true => match Nat.ble 992 t with | true => d | false => (@Fn1.rec G (fun _ => Fn1 α) (fun f => k f) (getT t))
  | false => d
 | .const v => match constOf v with | some x => k (fun _ => x) | none => d
 | .global g => if X.gl.contains g then k (fun _ => .ptr (Id.ofNat g) 0) else d
 | .func f => k (fun _ => .fn f .nil .nil)
def dst {α : Type} (X : Cx) (x : Option Tmp) (k : S → Fn1 α) (d : Fn1 α) : Fn1 α :=
 match x with
 | some t => match Nat.ble (Nat.succ t) X.nt with | false => d | true => match Nat.ble X.nt 992 with | false => d | true => (@Fn1.rec S (fun _ => Fn1 α) (fun f => k f) (setT t))
 | none => k (fun e _ => e)
def Cells.list (c : Cells) : (n o : Nat) → V
 | 0, _ => .nil
 | n + 1, o => .cons (c.get o) (c.list n (o + 1))
def Cells.storeList (c : Cells) : (l : V) → (o : Nat) → Cells
 | .cons v l, o => Cells.storeList (c.set o v) l (o + 1)
 | _, _ => c
def Cells.push (c : Cells) : (l : V) → (n : Nat) → Option (Cells × Nat)
 | .cons v l, n => match c.add n v with
  | some c => Cells.push c l (n + 1)
  | none => none
 | _, n => some (c, n)
def V.len : V → Nat
 | .cons _ l => V.len l + 1
 | _ => 0
def V.nth : V → Nat → V
 | .cons v _, 0 => v
 | .cons _ l, n + 1 => V.nth l n
 | _, _ => .undef
def V.drop : V → Nat → V
 | l, 0 => l
 | .cons _ l, n + 1 => V.drop l n
 | l, _ => l
def V.take : V → Nat → V
 | .cons v l, n + 1 => .cons v (V.take l n)
 | _, _ => .nil
def V.app : V → V → V
 | .cons v l, m => .cons v (V.app l m)
 | _, m => m
def emptyCells : Cells := .s1 c1e
def loadOne (h : H) (i : Id) (o : Nat) (k : V → Out) : Out :=
 (@Blk.rec  (fun _ => (Nat) → (V → Out) → Out) (fun o k => .bad "load: no live block") (fun o k => .bad "load: no live block") (fun c n x a o k => (@Bool.rec  (fun _ => (Cells) → (Nat) → (V → Out) → Out) (fun c o k => .bad "load: out of block") (fun c o k => k (Cells.get c o)) (Nat.ble (Nat.succ o) n) c o k)) (fun _ _ o k => .bad "load: no live block") (fun _ _ _ o k => .bad "load: no live block") (fun _ _ _ _ o k => .bad "load: no live block") (H.blk h i) o k)
def loadAgg (m : Nat) (h : H) (i : Id) (o : Nat) (k : V → Out) : Out :=
 (@Blk.rec  (fun _ => (Nat) → (Nat) → (V → Out) → Out) (fun m o k => .bad "load: no live block") (fun m o k => .bad "load: no live block") (fun c n x a m o k => (@Bool.rec  (fun _ => (Cells) → (Nat) → (Nat) → (V → Out) → Out) (fun c m o k => .bad "load: out of block") (fun c m o k => k (.agg (Cells.list c m o))) (Nat.ble (Nat.add o m) n) c m o k)) (fun _ _ m o k => .bad "load: no live block") (fun _ _ _ m o k => .bad "load: no live block") (fun _ _ _ _ m o k => .bad "load: no live block") (H.blk h i) m o k)
def H.kill (h : H) : List Id → H
 | [] => h
 | i :: l => H.kill (h.put i .stale) l
def H.writable (h : H) (i : Id) (k : Cells → Nat → H → Out) : Out :=
 (@Blk.rec  (fun _ => (H) → (Cells → Nat → H → Out) → Out) (fun h k => .bad "store: no live block") (fun h k => .bad "store: no live block") (fun c n x a h k => (@Bool.rec  (fun _ => (Cells) → (Nat) → (List Id) → (H) → (Cells → Nat → H → Out) → Out) (fun c n a h k => (@List.rec Id (fun _ => (Cells) → (Nat) → (List Id) → (H) → (Cells → Nat → H → Out) → Out) (fun c n a h k => k c n h) (fun _ _ _ c n a h k => k c n (H.kill h a)) (a) c n a h k)) (fun c n a h k => .bad "store: a newer slice may share these cells") (x) c n a h k)) (fun _ _ h k => .bad "store: no live block") (fun _ _ _ h k => .bad "store: no live block") (fun _ _ _ _ h k => .bad "store: no live block") (H.blk h i) h k)
def storeOne (h : H) (i : Id) (o : Nat) (v : V) (k : H → Out) : Out :=
 H.writable h i fun c n h => (@Bool.rec  (fun _ => Out) (.bad "store: out of block") (k (H.put h i (.live (Cells.set c o v) n false []))) (Nat.ble (Nat.succ o) n))
def storeAgg (m : Nat) (h : H) (i : Id) (o : Nat) (l : V) (k : H → Out) : Out :=
 (@Bool.rec  (fun _ => Out) (.bad "store: size") (H.writable h i fun c n h => (@Bool.rec  (fun _ => Out) (.bad "store: out of block") (k (H.put h i (.live (Cells.storeList c l o) n false []))) (Nat.ble (Nat.add o m) n))) (Nat.beq (V.len l) m))
def V.isScalar : V → Bool
 | .agg _ | .tup _ | .nil | .cons _ _ | .undef => false
 | _ => true
def newCells (h : H) (l : V) (k : Id → H → Out) : Out :=
 match emptyCells.push l 0 with
 | some (c, n) => H.new h (.live c n false []) k
 | none => .bad "too many cells"
def V.lenF : V → Nat := @V.rec (fun _ => Nat) (0) (fun _ => (0)) (fun _ _ => (0)) (fun _ _ => (0)) (fun _ _ => (0)) (0) (fun _ _ _ _ _ => (0)) (0) (fun _ => (0)) (0) (fun _ _ _ _ _ => (0)) (0) (fun _ _ _ => (0)) (0) (fun _ _ => (0)) (fun _ _ => (0)) (0) (fun _ _ _ ih => Nat.succ ih)
def V.nthF : V → Nat → V := @V.rec (fun _ => Nat → V) (fun _ => .undef) (fun _ => (fun _ => .undef)) (fun _ _ => (fun _ => .undef)) (fun _ _ => (fun _ => .undef)) (fun _ _ => (fun _ => .undef)) (fun _ => .undef) (fun _ _ _ _ _ => (fun _ => .undef)) (fun _ => .undef) (fun _ => (fun _ => .undef)) (fun _ => .undef) (fun _ _ _ _ _ => (fun _ => .undef)) (fun _ => .undef) (fun _ _ _ => (fun _ => .undef)) (fun _ => .undef) (fun _ _ => (fun _ => .undef)) (fun _ _ => (fun _ => .undef)) (fun _ => .undef) (fun h _ _ ih n => @Nat.rec (fun _ => V) h (fun m _ => ih m) n)
def V.takeF : V → Nat → V := @V.rec (fun _ => Nat → V) (fun _ => .nil) (fun _ => (fun _ => .nil)) (fun _ _ => (fun _ => .nil)) (fun _ _ => (fun _ => .nil)) (fun _ _ => (fun _ => .nil)) (fun _ => .nil) (fun _ _ _ _ _ => (fun _ => .nil)) (fun _ => .nil) (fun _ => (fun _ => .nil)) (fun _ => .nil) (fun _ _ _ _ _ => (fun _ => .nil)) (fun _ => .nil) (fun _ _ _ => (fun _ => .nil)) (fun _ => .nil) (fun _ _ => (fun _ => .nil)) (fun _ _ => (fun _ => .nil)) (fun _ => .nil) (fun h _ _ ih n => @Nat.rec (fun _ => V) .nil (fun m _ => .cons h (ih m)) n)
def V.appF : V → V → V := @V.rec (fun _ => V → V) (fun m => m) (fun _ => (fun m => m)) (fun _ _ => (fun m => m)) (fun _ _ => (fun m => m)) (fun _ _ => (fun m => m)) (fun m => m) (fun _ _ _ _ _ => (fun m => m)) (fun m => m) (fun _ => (fun m => m)) (fun m => m) (fun _ _ _ _ _ => (fun m => m)) (fun m => m) (fun _ _ _ => (fun m => m)) (fun m => m) (fun _ _ => (fun m => m)) (fun _ _ => (fun m => m)) (fun m => m) (fun h _ _ ih m => .cons h (ih m))
def V.tlF (l : V) : V := @V.rec (fun _ => V) .undef (fun b => .bool b) (fun k n => .int k n) (fun k n => .str k n) (fun k n => .ptr k n) .nilp (fun a b c d e => .sl a b c d e) .nils (fun i => .map i) .nilm (fun f a b _ _ => .fn f a b) .nilf (fun t v _ => .ifc t v) .nili (fun l _ => .agg l) (fun l _ => .tup l) .nil (fun _ t _ _ => t) l
def V.dropF (l : V) (n : Nat) : V := @Nat.rec (fun _ => V → V) (fun l => l) (fun _ ih l => ih (V.tlF l)) n l
def Cells.listF (c : Cells) (n o : Nat) : V := @Nat.rec (fun _ => Nat → V) (fun _ => .nil) (fun _ ih o => .cons (c.get o) (ih (Nat.succ o))) n o
def Cells.storeListF (c : Cells) (l : V) (o : Nat) : Cells := @V.rec (fun _ => Cells → Nat → Cells) (fun c _ => c) (fun _ => (fun c _ => c)) (fun _ _ => (fun c _ => c)) (fun _ _ => (fun c _ => c)) (fun _ _ => (fun c _ => c)) (fun c _ => c) (fun _ _ _ _ _ => (fun c _ => c)) (fun c _ => c) (fun _ => (fun c _ => c)) (fun c _ => c) (fun _ _ _ _ _ => (fun c _ => c)) (fun c _ => c) (fun _ _ _ => (fun c _ => c)) (fun c _ => c) (fun _ _ => (fun c _ => c)) (fun _ _ => (fun c _ => c)) (fun c _ => c) (fun h _ _ ih c o => ih (c.set o h) (Nat.succ o)) l c o
def Cells.pushF (c : Cells) (l : V) (n : Nat) : Option (Cells × Nat) := @V.rec (fun _ => Cells → Nat → Option (Cells × Nat)) (fun c n => some (c, n)) (fun _ => (fun c n => some (c, n))) (fun _ _ => (fun c n => some (c, n))) (fun _ _ => (fun c n => some (c, n))) (fun _ _ => (fun c n => some (c, n))) (fun c n => some (c, n)) (fun _ _ _ _ _ => (fun c n => some (c, n))) (fun c n => some (c, n)) (fun _ => (fun c n => some (c, n))) (fun c n => some (c, n)) (fun _ _ _ _ _ => (fun c n => some (c, n))) (fun c n => some (c, n)) (fun _ _ _ => (fun c n => some (c, n))) (fun c n => some (c, n)) (fun _ _ => (fun c n => some (c, n))) (fun _ _ => (fun c n => some (c, n))) (fun c n => some (c, n)) (fun h _ _ ih c n => @Option.rec Cells (fun _ => Option (Cells × Nat)) none (fun c => ih c (Nat.succ n)) (c.add n h)) l c n
def V.isScalarF (v : V) : Bool := (@V.rec  (fun _ => Bool) (false) (fun _ => true) (fun _ _ => true) (fun _ _ => true) (fun _ _ => true) (true) (fun _ _ _ _ _ => true) (true) (fun _ => true) (true) (fun _ _ _ _ _ => true) (true) (fun _ _ _ => true) (true) (fun l _ => false) (fun l _ => false) (false) (fun a b _ _ => false) (v))
def loadAggF (m : Nat) (h : H) (i : Id) (o : Nat) (k : V → Out) : Out :=
 (@Blk.rec  (fun _ => (Nat) → (Nat) → (V → Out) → Out) (fun m o k => .bad "load: no live block") (fun m o k => .bad "load: no live block") (fun c n x a m o k => (@Bool.rec  (fun _ => (Cells) → (Nat) → (Nat) → (V → Out) → Out) (fun c m o k => .bad "load: out of block") (fun c m o k => k (.agg (Cells.listF c m o))) (Nat.ble (Nat.add o m) n) c m o k)) (fun _ _ m o k => .bad "load: no live block") (fun _ _ _ m o k => .bad "load: no live block") (fun _ _ _ _ m o k => .bad "load: no live block") (H.blk h i) m o k)
def storeAggF (m : Nat) (h : H) (i : Id) (o : Nat) (l : V) (k : H → Out) : Out :=
 (@Bool.rec  (fun _ => (Nat) → (H) → (Id) → (Nat) → (V) → (H → Out) → Out) (fun m h i o l k => .bad "store: size") (fun m h i o l k => H.writable h i fun c n h => (@Bool.rec  (fun _ => (Cells) → (Nat) → (H) → (Id) → (Nat) → (V) → (H → Out) → Out) (fun c n h i o l k => .bad "store: out of block") (fun c n h i o l k => k (H.put h i (.live (Cells.storeListF c l o) n false []))) (Nat.ble (Nat.add o m) n) c n h i o l k)) (Nat.beq (V.lenF l) m) m h i o l k)
def newPair (h : H) (k : Id → H → Out) (p : Cells × Nat) : Out := H.new h (.live p.1 p.2 false []) k
def newCellsF (h : H) (l : V) (k : Id → H → Out) : Out :=
 (@Option.rec (Cells × Nat) (fun _ => (H) → (Id → H → Out) → Out) (fun h k => .bad "too many cells") (fun p h k => newPair h k p) (emptyCells.pushF l 0) h k)
def storeVF (n : Nat) (v : V) (h : H) (i : Id) (o : Nat) (k : H → Out) : Out :=
 (@V.rec  (fun _ => (Nat) → (V) → (H) → (Id) → (Nat) → (H → Out) → Out) (fun n v h i o k => .bad "store: no scalar") (fun _ n v h i o k => (@Bool.rec  (fun _ => (V) → (H) → (Id) → (Nat) → (H → Out) → Out) (fun v h i o k => .bad "store: size") (fun v h i o k => storeOne h i o v k) (Nat.beq n 1) v h i o k)) (fun _ _ n v h i o k => (@Bool.rec  (fun _ => (V) → (H) → (Id) → (Nat) → (H → Out) → Out) (fun v h i o k => .bad "store: size") (fun v h i o k => storeOne h i o v k) (Nat.beq n 1) v h i o k)) (fun _ _ n v h i o k => (@Bool.rec  (fun _ => (V) → (H) → (Id) → (Nat) → (H → Out) → Out) (fun v h i o k => .bad "store: size") (fun v h i o k => storeOne h i o v k) (Nat.beq n 1) v h i o k)) (fun _ _ n v h i o k => (@Bool.rec  (fun _ => (V) → (H) → (Id) → (Nat) → (H → Out) → Out) (fun v h i o k => .bad "store: size") (fun v h i o k => storeOne h i o v k) (Nat.beq n 1) v h i o k)) (fun n v h i o k => (@Bool.rec  (fun _ => (V) → (H) → (Id) → (Nat) → (H → Out) → Out) (fun v h i o k => .bad "store: size") (fun v h i o k => storeOne h i o v k) (Nat.beq n 1) v h i o k)) (fun _ _ _ _ _ n v h i o k => (@Bool.rec  (fun _ => (V) → (H) → (Id) → (Nat) → (H → Out) → Out) (fun v h i o k => .bad "store: size") (fun v h i o k => storeOne h i o v k) (Nat.beq n 1) v h i o k)) (fun n v h i o k => (@Bool.rec  (fun _ => (V) → (H) → (Id) → (Nat) → (H → Out) → Out) (fun v h i o k => .bad "store: size") (fun v h i o k => storeOne h i o v k) (Nat.beq n 1) v h i o k)) (fun _ n v h i o k => (@Bool.rec  (fun _ => (V) → (H) → (Id) → (Nat) → (H → Out) → Out) (fun v h i o k => .bad "store: size") (fun v h i o k => storeOne h i o v k) (Nat.beq n 1) v h i o k)) (fun n v h i o k => (@Bool.rec  (fun _ => (V) → (H) → (Id) → (Nat) → (H → Out) → Out) (fun v h i o k => .bad "store: size") (fun v h i o k => storeOne h i o v k) (Nat.beq n 1) v h i o k)) (fun _ _ _ _ _ n v h i o k => (@Bool.rec  (fun _ => (V) → (H) → (Id) → (Nat) → (H → Out) → Out) (fun v h i o k => .bad "store: size") (fun v h i o k => storeOne h i o v k) (Nat.beq n 1) v h i o k)) (fun n v h i o k => (@Bool.rec  (fun _ => (V) → (H) → (Id) → (Nat) → (H → Out) → Out) (fun v h i o k => .bad "store: size") (fun v h i o k => storeOne h i o v k) (Nat.beq n 1) v h i o k)) (fun _ _ _ n v h i o k => (@Bool.rec  (fun _ => (V) → (H) → (Id) → (Nat) → (H → Out) → Out) (fun v h i o k => .bad "store: size") (fun v h i o k => storeOne h i o v k) (Nat.beq n 1) v h i o k)) (fun n v h i o k => (@Bool.rec  (fun _ => (V) → (H) → (Id) → (Nat) → (H → Out) → Out) (fun v h i o k => .bad "store: size") (fun v h i o k => storeOne h i o v k) (Nat.beq n 1) v h i o k)) (fun l _ n v h i o k => storeAggF n h i o l k) (fun l _ n v h i o k => .bad "store: no scalar") (fun n v h i o k => .bad "store: no scalar") (fun a b _ _ n v h i o k => .bad "store: no scalar") (v) n v h i o k)
def boxVF (v : V) (h : H) (k : Id → H → Out) : Out :=
 (@V.rec  (fun _ => (V) → (H) → (Id → H → Out) → Out) (fun v h k => .bad "box") (fun _ v h k => newCellsF h (.cons v .nil) k) (fun _ _ v h k => newCellsF h (.cons v .nil) k) (fun _ _ v h k => newCellsF h (.cons v .nil) k) (fun _ _ v h k => newCellsF h (.cons v .nil) k) (fun v h k => newCellsF h (.cons v .nil) k) (fun _ _ _ _ _ v h k => newCellsF h (.cons v .nil) k) (fun v h k => newCellsF h (.cons v .nil) k) (fun _ v h k => newCellsF h (.cons v .nil) k) (fun v h k => newCellsF h (.cons v .nil) k) (fun _ _ _ _ _ v h k => newCellsF h (.cons v .nil) k) (fun v h k => newCellsF h (.cons v .nil) k) (fun _ _ _ v h k => newCellsF h (.cons v .nil) k) (fun v h k => newCellsF h (.cons v .nil) k) (fun l _ v h k => newCellsF h l k) (fun l _ v h k => .bad "box") (fun v h k => .bad "box") (fun a b _ _ v h k => .bad "box") (v) v h k)
def knum (k : IntKind) : Nat := (@IntKind.rec  (fun _ => Nat) (0) (1) (2) (3) (4) (5) (6) (7) (k))
def keq (k j : IntKind) : Bool := Nat.beq (knum k) (knum j)
def bias (k : IntKind) (n : Nat) : Nat := Nat.mod (Nat.add n (khalf k)) (kmod k)
def isNeg (k : IntKind) (n : Nat) : Bool := (@Bool.rec  (fun _ => Bool) (Nat.ble (khalf k) n) (false) (Nat.beq (khalf k) 0))
def negate (k : IntKind) (n : Nat) : Nat := Nat.mod (Nat.sub (kmod k) n) (kmod k)
def intOp (op : BinOp) : Fn1 (IntKind → Nat → Nat → (V → Out) → Out) :=
 match op with
 | .add => ⟨fun k a b c => c (.int k (Nat.mod (Nat.add a b) (kmod k)))⟩
 | .sub => ⟨fun k a b c => c (.int k (Nat.mod (Nat.sub (Nat.add a (kmod k)) b) (kmod k)))⟩
 | .mul => ⟨fun k a b c => c (.int k (Nat.mod (Nat.mul a b) (kmod k)))⟩
 | .lss => ⟨fun k a b c => c (.bool (Nat.ble (Nat.succ (bias k a)) (bias k b)))⟩
 | .leq => ⟨fun k a b c => c (.bool (Nat.ble (bias k a) (bias k b)))⟩
 | .gtr => ⟨fun k a b c => c (.bool (Nat.ble (Nat.succ (bias k b)) (bias k a)))⟩
 | .geq => ⟨fun k a b c => c (.bool (Nat.ble (bias k b) (bias k a)))⟩
 | .quo => ⟨fun k a b c => match Nat.beq b 0 with
  | true => .bad "division by zero"
  | false => match isNeg k a with
   | true => .bad "division of a negative number"
   | false => match isNeg k b with
    | true => .bad "division by a negative number"
    | false => c (.int k (Nat.div a b))⟩
 | .rem => ⟨fun k a b c => match Nat.beq b 0 with
  | true => .bad "division by zero"
  | false => match isNeg k a with
   | true => .bad "division of a negative number"
   | false => match isNeg k b with
    | true => .bad "division by a negative number"
    | false => c (.int k (Nat.mod a b))⟩
 | .and => ⟨fun k a b c => match isNeg k a with
  | true => .bad "and of a negative number"
  | false => match isNeg k b with
   | true => .bad "and of a negative number"
   | false => c (.int k (Nat.land a b))⟩
 | _ => ⟨fun _ _ _ _ => .bad "intOp"⟩
def p256 (n : Nat) : Nat := Nat.pow 2 (Nat.mul 8 n)
def strEq (la a lb b : Nat) : Bool := (@Bool.rec  (fun _ => (Nat) → (Nat) → Bool) (fun a b => false) (fun a b => Nat.beq a b) (Nat.beq la lb) a b)
def strSub (bits lo n : Nat) : Nat := Nat.mod (Nat.div bits (p256 lo)) (p256 n)
def strOp (op : BinOp) : Fn1 (Nat → Nat → Nat → Nat → (V → Out) → Out) :=
 match op with
 | .add => ⟨fun la a lb b c => (@Bool.rec  (fun _ => Out) (.bad "long string") (c (.str (Nat.add la lb) (Nat.add a (Nat.mul b (p256 la))))) (Nat.ble (Nat.add la lb) 1000000000))⟩
 | _ => ⟨fun _ _ _ _ _ => .bad "strOp"⟩
def ptrEq (h : H) (i : Id) (o : Nat) (j : Id) (p : Nat) : Option Bool :=
 (@Bool.rec  (fun _ => Option Bool) ((@Blk.rec  (fun _ => Option Bool) (none) (none) (fun _ _ x _ => (@Bool.rec  (fun _ => Option Bool) ((@Blk.rec  (fun _ => Option Bool) (none) (none) (fun _ _ y _ => (@Bool.rec  (fun _ => Option Bool) (some false) (none) (y))) (fun _ _ => none) (fun _ _ _ => none) (fun _ _ _ _ => none) (H.blk h j))) (none) (x))) (fun _ _ => none) (fun _ _ _ => none) (fun _ _ _ _ => none) (H.blk h i))) (some (Nat.beq o p)) (Id.eqb i j))
inductive SK where
 | int | str | bool | ptr
def eqSK (s : SK) (x y : V) (h : H) : Option Bool :=
 match s, x, y with
 | .int, .int k a, .int j b => match keq k j with | true => some (Nat.beq a b) | false => none
 | .str, .str la a, .str lb b => some (strEq la a lb b)
 | .bool, .bool a, .bool b => some (match a with | true => b | false => not b)
 | .ptr, .nilp, .nilp => some true
 | .ptr, .nilp, .ptr _ _ => some false
 | .ptr, .ptr _ _, .nilp => some false
 | .ptr, .ptr i o, .ptr j p => ptrEq h i o j p
 | _, _, _ => none
def eqCells : List (Nat × SK) → V → V → H → Option Bool
 | [], _, _, _ => some true
 | (o, s) :: l, x, y, h => match eqSK s (x.nth o) (y.nth o) h with
  | some true => eqCells l x y h
  | some false => some false
  | none => none
inductive EK where
 | sk (s : SK) | agg (l : List (Nat × SK)) | ifc | slice | bad
def skT (P : Program) (t : TypeId) : Option SK :=
 match P.underlying t with
 | some (.int _) => some .int
 | some .string => some .str
 | some .bool => some .bool
 | some (.pointer e) => if P.cellsOf e = 0 then none else some .ptr
 | _ => none
def flatF (P : Program) (rec : TypeId → Nat → Option (List (Nat × SK))) (sz off : Nat) : List Field → Option (List (Nat × SK))
 | [] => some []
 | f :: l => if f.name = "_" ∨ sz < f.offset + P.cellsOf f.type then none else (rec f.type (off + f.offset)).bind fun a => (flatF P rec sz off l).map (a ++ ·)
def flatA (rec : TypeId → Nat → Option (List (Nat × SK))) (el sz off : Nat) : List Nat → Option (List (Nat × SK))
 | [] => some []
 | i :: l => (rec el (off + i * sz)).bind fun a => (flatA rec el sz off l).map (a ++ ·)
def flatT (P : Program) (eqs : List TypeId) : Nat → TypeId → Nat → Option (List (Nat × SK))
 | 0, _, _ => none
 | n + 1, t, off =>
  match P.underlying t with
  | some (.struct fs) => if eqs.contains t then flatF P (flatT P eqs n) (P.cellsOf t) off fs.toList else none
  | some (.array len el) => if eqs.contains t = true ∧ len * P.cellsOf el ≤ P.cellsOf t ∧ 0 < P.cellsOf el then flatA (flatT P eqs n) el (P.cellsOf el) off (List.range len) else none
  | _ => if P.cellsOf t = 1 then (skT P t).map fun s => [(off, s)] else none
def ekOf (P : Program) (eqs : List TypeId) (t : TypeId) : EK :=
 match P.underlying t with
 | some (.struct _) | some (.array _ _) => if eqs.contains t then (match flatT P eqs 3 t 0 with | some l => .agg l | none => .bad) else .bad
 | some (.interface _) => .ifc
 | some (.slice _) => .slice
 | _ => match skT P t with | some s => .sk s | none => .bad
def eqV (k : EK) (x y : V) (h : H) : Option Bool :=
 match k with
 | .sk s => eqSK s x y h
 | .agg l => match x, y with | .agg a, .agg b => eqCells l a b h | _, _ => none
 | .ifc => match x, y with
  | .nili, .nili => some true
  | .nili, .ifc _ _ => some false
  | .ifc _ _, .nili => some false
  | _, _ => none
 | .slice => match x, y with
  | .nils, .nils => some true
  | .nils, .sl _ _ _ _ _ => some false
  | .sl _ _ _ _ _, .nils => some false
  | _, _ => none
 | .bad => none
def scalarT (P : Program) (t : TypeId) : Option Bool :=
 match P.underlying t with
 | some (.struct _) | some (.array _ _) => some false
 | some _ => some true
 | none => none
def zeroCellsV (P : Program) (t : TypeId) : Option (List V) :=
 (P.info? t).bind fun i => i.zero.bind fun z => scalarsOf z.cells.toList
def zeroV (P : Program) (t : TypeId) : Option V :=
 (P.info? t).bind fun i => i.zero.bind constOf
def blkOfList (l : List V) : Option (Cells × Nat) := emptyCells.push (V.ofList l) 0
def fieldsOf (P : Program) (t : TypeId) : Option (List Field) :=
 match P.underlying t with | some (.struct fs) => some fs.toList | _ => none
def elemOfSlice (P : Program) (t : TypeId) : Option TypeId :=
 match P.underlying t with | some (.slice e) => some e | _ => none
def bytesOf (P : Program) (t : TypeId) : Nat := match P.info? t with | some i => i.bytes | none => 0
def repeatL (n : Nat) (z : List V) : List V := match n with | 0 => [] | n + 1 => z ++ repeatL n z
inductive Src where
 | z (v : V) | s (x : G) | a (x : G) (k : Nat)
structure Plan where mk ::
 (cells : List Src) (parts : List (G × Option Nat))
def planSet (x : G) (agg : Bool) : (size k : Nat) → (off : Nat) → List Src → List Src
 | 0, _, _, l => l
 | n + 1, k, off, l => planSet x agg n (k + 1) off (l.set (off + k) (if agg then .a x k else .s x))
def planFill (X : Cx) (place : Nat → Option (Nat × TypeId)) : List (Nat × Operand) → Plan → Fn1 (Option Plan)
 | [], l => ⟨some l⟩
 | (i, x) :: rest, l =>
  match place i with
  | some (off, t) => match scalarT X.P t with
   | some sc =>
    if l.cells.length < off + X.P.cellsOf t ∨ (sc = true ∧ X.P.cellsOf t ≠ 1) then ⟨none⟩
    else opd X x (fun x => planFill X place rest ⟨planSet x (!sc) (X.P.cellsOf t) 0 off l.cells, (x, if sc then none else some (X.P.cellsOf t)) :: l.parts⟩) ⟨none⟩
   | none => ⟨none⟩
  | none => ⟨none⟩
def runSrc (e : Env) : Src → V
 | .z v => v
 | .s x => x e
 | .a x k => match x e with | .agg l => l.nth k | _ => .undef
def runPlan (e : Env) : List Src → V
 | [] => .nil
 | s :: l => .cons (runSrc e s) (runPlan e l)
def checkPart (e : Env) (x : G) (n : Option Nat) : Bool :=
 match n with
 | none => (x e).isScalar
 | some n => match x e with | .agg v => Nat.beq (V.len v) n | _ => false
def checkParts (e : Env) : List (G × Option Nat) → Bool
 | [] => true
 | (x, n) :: l => match checkPart e x n with | true => checkParts e l | false => false
def runSrcF (e : Env) (s : Src) : V :=
 @Src.rec (fun _ => Env → V) (fun v _ => v) (fun x e => x e) (fun x k e => (@V.rec  (fun _ => (Nat) → V) (fun k => .undef) (fun _ k => .undef) (fun _ _ k => .undef) (fun _ _ k => .undef) (fun _ _ k => .undef) (fun k => .undef) (fun _ _ _ _ _ k => .undef) (fun k => .undef) (fun _ k => .undef) (fun k => .undef) (fun _ _ _ _ _ k => .undef) (fun k => .undef) (fun _ _ _ k => .undef) (fun k => .undef) (fun l _ k => V.nthF l k) (fun _ _ k => .undef) (fun k => .undef) (fun _ _ _ _ k => .undef) (x e) k)) s e
def runPlanF (e : Env) (l : List Src) : V := @List.rec Src (fun _ => V) .nil (fun s _ ih => .cons (runSrcF e s) ih) l
def checkPartF (e : Env) (x : G) (n : Option Nat) : Bool :=
 @Option.rec Nat (fun _ => Env → G → Bool) (fun e x => V.isScalarF (x e)) (fun n e x => (@V.rec  (fun _ => (Nat) → Bool) (fun n => false) (fun _ n => false) (fun _ _ n => false) (fun _ _ n => false) (fun _ _ n => false) (fun n => false) (fun _ _ _ _ _ n => false) (fun n => false) (fun _ n => false) (fun n => false) (fun _ _ _ _ _ n => false) (fun n => false) (fun _ _ _ n => false) (fun n => false) (fun v _ n => Nat.beq (V.lenF v) n) (fun _ _ n => false) (fun n => false) (fun _ _ _ _ n => false) (x e) n)) n e x
def checkPartsF (e : Env) (l : List (G × Option Nat)) : Bool := @List.rec (G × Option Nat) (fun _ => Bool) true (fun x _ ih => (@Bool.rec  (fun _ => Bool) (false) (ih) (checkPartF e x.1 x.2))) l
def boundOf (v : V) (y : Nat) (k : Nat → Out) : Out :=
 (@V.rec  (fun _ => Out) (.bad "slice bounds") (fun _ => .bad "slice bounds") (fun kd n => (@Bool.rec  (fun _ => Out) ((@Bool.rec  (fun _ => Out) (.bad "slice bounds") (k n) (Nat.ble n y))) (.bad "slice bounds") (isNeg kd n))) (fun _ _ => .bad "slice bounds") (fun _ _ => .bad "slice bounds") (.bad "slice bounds") (fun _ _ _ _ _ => .bad "slice bounds") (.bad "slice bounds") (fun _ => .bad "slice bounds") (.bad "slice bounds") (fun _ _ _ _ _ => .bad "slice bounds") (.bad "slice bounds") (fun _ _ _ => .bad "slice bounds") (.bad "slice bounds") (fun _ _ => .bad "slice bounds") (fun _ _ => .bad "slice bounds") (.bad "slice bounds") (fun _ _ _ _ => .bad "slice bounds") (v))
def boundO (v : Option V) (d y : Nat) (k : Nat → Out) : Out :=
 match v with | none => k d | some v => boundOf v y k
def capSub (c : Cap) (lb : Nat) : Cap := match c with | .exact c => .exact (Nat.sub c lb) | c => c
def strSliceV (x : V) (lo hi : Option V) (k : V → Out) : Out :=
 match x with
 | .str len bits => boundO hi len len fun hb => boundO lo 0 hb fun lb => k (.str (Nat.sub hb lb) (strSub bits lb (Nat.sub hb lb)))
 | _ => .bad "slice"
def sliceV (z : Nat) (x : V) (lo hi mx : Option V) (k : V → Out) : Out :=
 match x with
 | .nils => match mx with
  | none => boundO hi 0 0 fun hb => boundO lo 0 hb fun _ => k .nils
  | some v => boundOf v 0 fun m => boundO hi 0 m fun hb => boundO lo 0 hb fun _ => k .nils
 | .sl i eo sz len cap => match Nat.beq z sz with
  | false => .bad "element size"
  | true => match mx with
   | none => boundO hi len len fun hb => boundO lo 0 hb fun lb => k (.sl i (Nat.add eo lb) sz (Nat.sub hb lb) (capSub cap lb))
   | some v => boundOf v len fun m => boundO hi len m fun hb => boundO lo 0 hb fun lb => k (.sl i (Nat.add eo lb) sz (Nat.sub hb lb) (.exact (Nat.sub m lb)))
 | _ => .bad "slice"
def sliceCells (h : H) (x : V) (sz : Nat) (k : Nat → V → Out) : Out :=
 match x with
 | .nils => k 0 .nil
 | .sl i eo sz' len _ => match Nat.beq sz sz' with
  | false => .bad "element size"
  | true => match len with
   | 0 => k 0 .nil
   | _ => match H.blk h i with
    | .live c n _ _ => match Nat.ble (Nat.mul (Nat.add eo len) sz) n with
     | true => k len (Cells.list c (Nat.mul len sz) (Nat.mul eo sz))
     | false => .bad "slice: cells"
    | _ => .bad "slice: no live block"
 | _ => .bad "no slice"
def appendGrow (h : H) (l : V) (need sz : Nat) (anc : List Id) (k : V → H → Out) : Out :=
 match emptyCells.push l 0 with
 | some (c, n) => H.new h (.live c n false anc) fun j h => k (.sl j 0 sz need .grown) h
 | none => .bad "append: too many cells"
def appendMaybe (sz : Nat) (i : Id) (eo len n : Nat) (l : V) (h : H) (k : V → H → Out) : Out :=
 match H.blk h i with
 | .live c m x a => match x with
  | true => .bad "append: a second time to one slice"
  | false => match Nat.ble (Nat.mul (Nat.add (Nat.add eo len) n) sz) m with
   | true => H.writable h i fun c m h => k (.sl i eo sz (Nat.add len n) .grown) (H.put h i (.live (Cells.storeList c l (Nat.mul (Nat.add eo len) sz)) m false []))
   | false => match Nat.beq (Nat.mul (Nat.add eo len) sz) m with
    | true => match (match eo with | 0 => c.push l m | _ => emptyCells.push (V.app (Cells.list c (Nat.mul len sz) (Nat.mul eo sz)) l) 0) with
     | some (c', m') => H.new (H.put h i (.live c m true a)) (.live c' m' false (i :: a)) fun j h => k (.sl j 0 sz (Nat.add len n) .grown) h
     | none => .bad "append: too many cells"
    | false => .bad "append: cells"
 | _ => .bad "append: no live block"
def appendV (sz : Nat) (s x : V) (h : H) (k : V → H → Out) : Out :=
 sliceCells h x sz fun n l =>
  match s with
  | .nils => match n with
   | 0 => k .nils h
   | n => appendGrow h l n sz [] k
  | .sl i eo sz' len cap => match Nat.beq sz sz' with
   | false => .bad "append: size"
   | true => match n with
    | 0 => k (.sl i eo sz len cap) h
    | n => match cap with
     | .exact c => match Nat.ble (Nat.add len n) c with
      | true => H.writable h i fun c m h => match Nat.ble (Nat.mul (Nat.add (Nat.add eo len) n) sz) m with
       | true => k (.sl i eo sz (Nat.add len n) cap) (H.put h i (.live (Cells.storeList c l (Nat.mul (Nat.add eo len) sz)) m false []))
       | false => .bad "append: room"
      | false => sliceCells h s sz fun _ l0 => appendGrow h (V.app l0 l) (Nat.add len n) sz [] k
     | .open => .bad "append: open capacity"
     | .grown => appendMaybe sz i eo len n l h k
  | _ => .bad "append"
def lenS (x : V) (k : V → Out) : Out :=
 (@V.rec  (fun _ => (V → Out) → Out) (fun k => .bad "len") (fun _ k => .bad "len") (fun _ _ k => .bad "len") (fun n _ k => k (.int .i64 n)) (fun _ _ k => .bad "len") (fun k => .bad "len") (fun _ _ _ _ _ k => .bad "len") (fun k => .bad "len") (fun _ k => .bad "len") (fun k => .bad "len") (fun _ _ _ _ _ k => .bad "len") (fun k => .bad "len") (fun _ _ _ k => .bad "len") (fun k => .bad "len") (fun _ _ k => .bad "len") (fun _ _ k => .bad "len") (fun k => .bad "len") (fun _ _ _ _ k => .bad "len") (x) k)
def lenL (x : V) (k : V → Out) : Out :=
 (@V.rec  (fun _ => (V → Out) → Out) (fun k => .bad "len") (fun _ k => .bad "len") (fun _ _ k => .bad "len") (fun _ _ k => .bad "len") (fun _ _ k => .bad "len") (fun k => .bad "len") (fun _ _ _ n _ k => k (.int .i64 n)) (fun k => k (.int .i64 0)) (fun _ k => .bad "len") (fun k => .bad "len") (fun _ _ _ _ _ k => .bad "len") (fun k => .bad "len") (fun _ _ _ k => .bad "len") (fun k => .bad "len") (fun _ _ k => .bad "len") (fun _ _ k => .bad "len") (fun k => .bad "len") (fun _ _ _ _ k => .bad "len") (x) k)
def lenM (x : V) (h : H) (k : V → Out) : Out :=
 (@V.rec  (fun _ => (H) → (V → Out) → Out) (fun h k => .bad "len") (fun _ h k => .bad "len") (fun _ _ h k => .bad "len") (fun _ _ h k => .bad "len") (fun _ _ h k => .bad "len") (fun h k => .bad "len") (fun _ _ _ _ _ h k => .bad "len") (fun h k => .bad "len") (fun i h k => (@Blk.rec  (fun _ => (V → Out) → Out) (fun k => .bad "len") (fun k => .bad "len") (fun _ _ _ _ k => .bad "len") (fun es _ k => (@Bool.rec  (fun _ => Out) (.bad "len") (k (.int .i64 es.length)) (Nat.ble es.length 1000000))) (fun _ _ _ k => .bad "len") (fun _ _ _ _ k => .bad "len") (H.blk h i) k)) (fun h k => k (.int .i64 0)) (fun _ _ _ _ _ h k => .bad "len") (fun h k => .bad "len") (fun _ _ _ h k => .bad "len") (fun h k => .bad "len") (fun _ _ h k => .bad "len") (fun _ _ h k => .bad "len") (fun h k => .bad "len") (fun _ _ _ _ h k => .bad "len") (x) h k)
inductive Found where
 | none | some (i : Nat) (v : V) | bad
def findK (ek : EK) (h : H) (k : V) : List (V × V × Nat) → Nat → Found
 | [], _ => .none
 | (k', v, _) :: es, i => match eqV ek k k' h with
  | some true => .some i v
  | some false => findK ek h k es (i + 1)
  | none => .bad
def keyKind (X : Cx) (t : TypeId) : EK :=
 match ekOf X.P X.eqs t with
 | .sk s => .sk s
 | .agg l => .agg l
 | _ => .bad
def okTup (ok : Bool) (v : V) (b : Bool) : V :=
 match ok with | true => .tup (.cons v (.cons (.bool b) .nil)) | false => v
def keyFit (ek : EK) (sz : Nat) (v : V) : Bool :=
 match ek with
 | .agg _ => (match v with | .agg l => Nat.beq (V.len l) sz | _ => false)
 | .sk _ => true
 | _ => false
def lookupV (ek : EK) (ksz : Nat) (zero : V) (ok : Bool) (m key : V) (h : H) (k : V → Out) : Out :=
 match m with
 | .map i => match H.blk h i with
  | .map es _ => match keyFit ek ksz key with
   | false => .bad "lookup: key"
   | true => match findK ek h key es 0 with
    | .none => k (okTup ok zero false)
    | .some _ v => k (okTup ok v true)
    | .bad => .bad "lookup: key"
  | _ => .bad "lookup: no map"
 | _ => .bad "lookup"
def setVal : List (V × V × Nat) → Nat → V → List (V × V × Nat)
 | [], _, _ => []
 | (k, _, b) :: es, 0, v => (k, v, b) :: es
 | e :: es, n + 1, v => e :: setVal es n v
def isSk (ek : EK) : Bool := match ek with | .sk _ => true | _ => false
def mapUpdV (ek : EK) (ksz : Nat) (m key v : V) (h : H) (k : H → Out) : Out :=
 match m with
 | .map i => match H.blk h i with
  | .map es clock => match keyFit ek ksz key with
   | false => .bad "update: key"
   | true => match findK ek h key es 0 with
    | .none => k (H.put h i (.map (es ++ [(key, v, clock)]) (clock + 1)))
    | .some n _ => match isSk ek with
     | true => k (H.put h i (.map (setVal es n v) clock))
     | false => .bad "update: an old key"
    | .bad => .bad "update: key"
  | _ => .bad "update: no map"
 | _ => .bad "update"
def rangeV (x : V) (h : H) (k : V → H → Out) : Out :=
 match x with
 | .map m => match H.blk h m with
  | .map _ clock => H.new h (.mapIter (some m) clock [] clock) fun i h => k (.ptr i 0) h
  | _ => .bad "range"
 | _ => .bad "range"
def memN : List Nat → Nat → Bool
 | [], _ => false
 | a :: l, n => match Nat.beq a n with | true => true | false => memN l n
def allBorn (n : Nat) : List (V × V × Nat) → Bool
 | [] => true
 | (_, _, b) :: es => match Nat.ble n b with | true => allBorn n es | false => false
def allGone (seen : List Nat) (es : List (V × V × Nat)) (last : Nat) : Bool :=
 match seen with
 | [] => false
 | _ => match es with
  | [] => false
  | _ => allBorn last es
def leftOf (seen : List Nat) : List (V × V × Nat) → List (V × V × Nat)
 | [] => []
 | e :: es => match memN seen e.2.2 with | true => leftOf seen es | false => e :: leftOf seen es
def nextV (isString : Bool) (x : V) (h : H) (k : V → H → Out) : Out :=
 match x with
 | .ptr i 0 => match H.blk h i, isString with
  | .mapIter (some m) since seen last, false => match H.blk h m with
   | .map es clock => match allGone seen es last with
    | true => .bad "next: all gone"
    | false => match leftOf seen es with
     | [] => k (.tup (.cons (.bool false) .nil)) h
     | [e] => match Nat.ble since e.2.2 with
      | true => .bad "next: a new entry"
      | false => k (.tup (.cons (.bool true) (.cons e.1 (.cons e.2.1 .nil)))) (H.put h i (.mapIter (some m) since (e.2.2 :: seen) clock))
     | _ => .bad "next: the map's order"
   | _ => .bad "next: no map"
  | _, _ => .bad "next"
 | _ => .bad "next"
def findEntry : List (V × V × Nat) → Nat → Option (V × V)
 | [], _ => none
 | (k, v, b) :: es, n => match Nat.beq b n with | true => some (k, v) | false => findEntry es n
def entryV (x : V) (h : H) (k : V → Out) : Out :=
 match x with
 | .ptr i 0 => match H.blk h i with
  | .mapIter (some m) _ (s :: _) stepped => match H.blk h m with
   | .map es clock => match Nat.beq clock stepped with
    | false => .bad "entry: an insertion"
    | true => match findEntry es s with
     | some (key, v) => k (.tup (.cons key (.cons v .nil)))
     | none => .bad "entry: gone"
   | _ => .bad "entry"
  | _ => .bad "entry"
 | _ => .bad "entry"
def isIface (P : Program) (t : TypeId) : Bool :=
 match P.underlying t with | some (.interface _) => true | none => true | _ => false
def typeAssertV (asserted : TypeId) (ok : Bool) (x : V) (k : V → Out) : Out :=
 match x with
 | .ifc t v => match Nat.beq t asserted with
  | true => k (okTup ok v true)
  | false => .bad "type assertion"
 | _ => .bad "type assertion"
def opds {α : Type} (X : Cx) : List Operand → (G → Fn1 α) → Fn1 α → Fn1 α
 | [], k, _ => k (fun _ => .nil)
 | x :: l, k, d => opd X x (fun g => opds X l (fun gl => k (fun e => .cons (g e) (gl e))) d) d
def opdO {α : Type} (X : Cx) (x : Option Operand) (k : (Env → Option V) → Fn1 α) (d : Fn1 α) : Fn1 α :=
 match x with
 | none => k (fun _ => none)
 | some x => opd X x (fun g => k (fun e => some (g e))) d
def maxV (isMax : Bool) (x y : V) : Option V :=
 match x, y with
 | .int k a, .int k' b => match keq k k' with
  | true => match isMax with
   | true => (match Nat.ble (bias k b) (bias k a) with | true => some (.int k a) | false => some (.int k b))
   | false => (match Nat.ble (bias k a) (bias k b) with | true => some (.int k a) | false => some (.int k b))
  | false => none
 | _, _ => none
def defd (v : V) (k : V → Out) : Out := (@V.rec  (fun _ => (V) → (V → Out) → Out) (fun v k => .bad "no such part") (fun _ v k => k v) (fun _ _ v k => k v) (fun _ _ v k => k v) (fun _ _ v k => k v) (fun v k => k v) (fun _ _ _ _ _ v k => k v) (fun v k => k v) (fun _ v k => k v) (fun v k => k v) (fun _ _ _ _ _ v k => k v) (fun v k => k v) (fun _ _ _ v k => k v) (fun v k => k v) (fun _ _ v k => k v) (fun _ _ v k => k v) (fun v k => k v) (fun _ _ _ _ v k => k v) (v) v k)
def badOp (s : String) : Fn1 OpM := ⟨fun _ _ _ _ => .bad s⟩
def badM (s : String) : Fn1 M := ⟨fun _ _ _ => .bad s⟩
def builtinOp (X : Cx) (b : Builtin) (args : List Operand) (argTypes : List TypeId) (s : S) : Fn1 OpM :=
 match b, args, argTypes with
 | .len, [x], [t] => match X.P.underlying t with
  | some .string => opd X x (fun g => ⟨fun _ e h k => lenS (g e) fun v => k (s e v) h⟩) (badOp "len")
  | some (.slice _) => opd X x (fun g => ⟨fun _ e h k => lenL (g e) fun v => k (s e v) h⟩) (badOp "len")
  | some (.map _ _) => opd X x (fun g => ⟨fun _ e h k => lenM (g e) h fun v => k (s e v) h⟩) (badOp "len")
  | _ => badOp "len"
 | .append, [x, y], [st, xt] => match elemOfSlice X.P st, elemOfSlice X.P xt with
  | some el, some _ => match zeroCellsV X.P el with
   | some z => if z.length = 0 ∨ z.length ≠ X.P.cellsOf el ∨ 1000000000 < bytesOf X.P el then badOp "append: size" else
    opd X x (fun gx => opd X y (fun gy => let sz := X.P.cellsOf el; ⟨fun _ e h k => appendV sz (gx e) (gy e) h fun v h => k (s e v) h⟩) (badOp "append")) (badOp "append")
   | none => badOp "append"
  | _, _ => badOp "append"
 | .max, [x, y], _ => opd X x (fun gx => opd X y (fun gy => ⟨fun _ e h k => match maxV true (gx e) (gy e) with | some v => k (s e v) h | none => .bad "max"⟩) (badOp "max")) (badOp "max")
 | .min, [x, y], _ => opd X x (fun gx => opd X y (fun gy => ⟨fun _ e h k => match maxV false (gx e) (gy e) with | some v => k (s e v) h | none => .bad "min"⟩) (badOp "min")) (badOp "min")
 | _, _, _ => badOp "builtin"
def isConst (x : Operand) : Bool := match x with | .const _ => true | _ => false
def ekAt (X : Cx) (t : TypeId) (cst : Bool) : EK :=
 match ekOf X.P X.eqs t with
 | .ifc => if cst then .ifc else .bad
 | k => k
def shOk (k yk : IntKind) (n : Nat) : Bool := match isNeg yk n with | true => false | false => Nat.ble n k.bits
def shrOk (k : IntKind) (a : Nat) (yk : IntKind) (n : Nat) : Bool := match isNeg k a with | true => false | false => shOk k yk n
def remModV (op : BinOp) (a b y : V) (k : V → Out) : Out :=
 match op with
 | .rem => match a, b, y with
  | .int kd m, .int _ r, .int yk d => match keq kd yk, Nat.beq m d, Nat.beq m 0, Nat.beq (khalf kd) 0 with
   | true, true, false, true => k (.int kd r)
   | _, _, _, _ => .bad "rem of a rest"
  | _, _, _ => .bad "rem of a rest"
 | _ => .bad "binOp"
def binOpM (op : BinOp) (ek : EK) (gx gy : G) (s : S) : Fn1 OpM :=
 (@Fn1.rec (IntKind → Nat → Nat → (V → Out) → Out) (fun _ => Fn1 OpM) (fun fi => (@Fn1.rec (Nat → Nat → Nat → Nat → (V → Out) → Out) (fun _ => Fn1 OpM) (fun fs => match op with
  | .shl => ⟨fun _ e h k => (@V.rec  (fun _ => (Env) → (H) → (K) → Out) (fun e h k => .bad "shift") (fun _ e h k => .bad "shift") (fun kd a e h k => (@V.rec  (fun _ => (IntKind) → (Nat) → (Env) → (H) → (K) → Out) (fun kd a e h k => .bad "shift") (fun _ kd a e h k => .bad "shift") (fun yk b kd a e h k => (@Bool.rec  (fun _ => (IntKind) → (Nat) → (Nat) → (Env) → (H) → (K) → Out) (fun kd a b e h k => .bad "shift") (fun kd a b e h k => k (s e (.int kd (Nat.mod (Nat.mul a (Nat.pow 2 b)) (kmod kd)))) h) (shOk kd yk b) kd a b e h k)) (fun _ _ kd a e h k => .bad "shift") (fun _ _ kd a e h k => .bad "shift") (fun kd a e h k => .bad "shift") (fun _ _ _ _ _ kd a e h k => .bad "shift") (fun kd a e h k => .bad "shift") (fun _ kd a e h k => .bad "shift") (fun kd a e h k => .bad "shift") (fun _ _ _ _ _ kd a e h k => .bad "shift") (fun kd a e h k => .bad "shift") (fun _ _ _ kd a e h k => .bad "shift") (fun kd a e h k => .bad "shift") (fun _ _ kd a e h k => .bad "shift") (fun _ _ kd a e h k => .bad "shift") (fun kd a e h k => .bad "shift") (fun _ _ _ _ kd a e h k => .bad "shift") (gy e) kd a e h k)) (fun _ _ e h k => .bad "shift") (fun _ _ e h k => .bad "shift") (fun e h k => .bad "shift") (fun _ _ _ _ _ e h k => .bad "shift") (fun e h k => .bad "shift") (fun _ e h k => .bad "shift") (fun e h k => .bad "shift") (fun _ _ _ _ _ e h k => .bad "shift") (fun e h k => .bad "shift") (fun _ _ _ e h k => .bad "shift") (fun e h k => .bad "shift") (fun _ _ e h k => .bad "shift") (fun _ _ e h k => .bad "shift") (fun e h k => .bad "shift") (fun _ _ _ _ e h k => .bad "shift") (gx e) e h k)⟩
  | .shr => ⟨fun _ e h k => (@V.rec  (fun _ => (Env) → (H) → (K) → Out) (fun e h k => .bad "shift") (fun _ e h k => .bad "shift") (fun kd a e h k => (@V.rec  (fun _ => (IntKind) → (Nat) → (Env) → (H) → (K) → Out) (fun kd a e h k => .bad "shift") (fun _ kd a e h k => .bad "shift") (fun yk b kd a e h k => (@Bool.rec  (fun _ => (IntKind) → (Nat) → (Nat) → (Env) → (H) → (K) → Out) (fun kd a b e h k => .bad "shift") (fun kd a b e h k => k (s e (.int kd (Nat.div a (Nat.pow 2 b)))) h) (shrOk kd a yk b) kd a b e h k)) (fun _ _ kd a e h k => .bad "shift") (fun _ _ kd a e h k => .bad "shift") (fun kd a e h k => .bad "shift") (fun _ _ _ _ _ kd a e h k => .bad "shift") (fun kd a e h k => .bad "shift") (fun _ kd a e h k => .bad "shift") (fun kd a e h k => .bad "shift") (fun _ _ _ _ _ kd a e h k => .bad "shift") (fun kd a e h k => .bad "shift") (fun _ _ _ kd a e h k => .bad "shift") (fun kd a e h k => .bad "shift") (fun _ _ kd a e h k => .bad "shift") (fun _ _ kd a e h k => .bad "shift") (fun kd a e h k => .bad "shift") (fun _ _ _ _ kd a e h k => .bad "shift") (gy e) kd a e h k)) (fun _ _ e h k => .bad "shift") (fun _ _ e h k => .bad "shift") (fun e h k => .bad "shift") (fun _ _ _ _ _ e h k => .bad "shift") (fun e h k => .bad "shift") (fun _ e h k => .bad "shift") (fun e h k => .bad "shift") (fun _ _ _ _ _ e h k => .bad "shift") (fun e h k => .bad "shift") (fun _ _ _ e h k => .bad "shift") (fun e h k => .bad "shift") (fun _ _ e h k => .bad "shift") (fun _ _ e h k => .bad "shift") (fun e h k => .bad "shift") (fun _ _ _ _ e h k => .bad "shift") (gx e) e h k)⟩
  | .eql => ⟨fun _ e h k => (@V.rec  (fun _ => (Env) → (H) → (K) → Out) (fun e h k => match eqV ek (gx e) (gy e) h with | some b => k (s e (.bool b)) h | none => .bad "==") (fun _ e h k => match eqV ek (gx e) (gy e) h with | some b => k (s e (.bool b)) h | none => .bad "==") (fun kd a e h k => (@V.rec  (fun _ => (IntKind) → (Nat) → (Env) → (H) → (K) → Out) (fun kd a e h k => .bad "==") (fun _ kd a e h k => .bad "==") (fun yk b kd a e h k => (@Bool.rec  (fun _ => (IntKind) → (Nat) → (Nat) → (Env) → (H) → (K) → Out) (fun kd a b e h k => .bad "kinds") (fun kd a b e h k => k (s e (.bool (Nat.beq a b))) h) (keq kd yk) kd a b e h k)) (fun _ _ kd a e h k => .bad "==") (fun _ _ kd a e h k => .bad "==") (fun kd a e h k => .bad "==") (fun _ _ _ _ _ kd a e h k => .bad "==") (fun kd a e h k => .bad "==") (fun _ kd a e h k => .bad "==") (fun kd a e h k => .bad "==") (fun _ _ _ _ _ kd a e h k => .bad "==") (fun kd a e h k => .bad "==") (fun _ _ _ kd a e h k => .bad "==") (fun kd a e h k => .bad "==") (fun _ _ kd a e h k => .bad "==") (fun _ _ kd a e h k => .bad "==") (fun kd a e h k => .bad "==") (fun _ _ _ _ kd a e h k => .bad "==") (gy e) kd a e h k)) (fun la a e h k => (@V.rec  (fun _ => (Nat) → (Nat) → (Env) → (H) → (K) → Out) (fun la a e h k => .bad "==") (fun _ la a e h k => .bad "==") (fun _ _ la a e h k => .bad "==") (fun lb b la a e h k => k (s e (.bool (strEq la a lb b))) h) (fun _ _ la a e h k => .bad "==") (fun la a e h k => .bad "==") (fun _ _ _ _ _ la a e h k => .bad "==") (fun la a e h k => .bad "==") (fun _ la a e h k => .bad "==") (fun la a e h k => .bad "==") (fun _ _ _ _ _ la a e h k => .bad "==") (fun la a e h k => .bad "==") (fun _ _ _ la a e h k => .bad "==") (fun la a e h k => .bad "==") (fun _ _ la a e h k => .bad "==") (fun _ _ la a e h k => .bad "==") (fun la a e h k => .bad "==") (fun _ _ _ _ la a e h k => .bad "==") (gy e) la a e h k)) (fun _ _ e h k => match eqV ek (gx e) (gy e) h with | some b => k (s e (.bool b)) h | none => .bad "==") (fun e h k => match eqV ek (gx e) (gy e) h with | some b => k (s e (.bool b)) h | none => .bad "==") (fun _ _ _ _ _ e h k => match eqV ek (gx e) (gy e) h with | some b => k (s e (.bool b)) h | none => .bad "==") (fun e h k => match eqV ek (gx e) (gy e) h with | some b => k (s e (.bool b)) h | none => .bad "==") (fun _ e h k => match eqV ek (gx e) (gy e) h with | some b => k (s e (.bool b)) h | none => .bad "==") (fun e h k => match eqV ek (gx e) (gy e) h with | some b => k (s e (.bool b)) h | none => .bad "==") (fun _ _ _ _ _ e h k => match eqV ek (gx e) (gy e) h with | some b => k (s e (.bool b)) h | none => .bad "==") (fun e h k => match eqV ek (gx e) (gy e) h with | some b => k (s e (.bool b)) h | none => .bad "==") (fun _ _ _ e h k => match eqV ek (gx e) (gy e) h with | some b => k (s e (.bool b)) h | none => .bad "==") (fun e h k => match eqV ek (gx e) (gy e) h with | some b => k (s e (.bool b)) h | none => .bad "==") (fun _ _ e h k => match eqV ek (gx e) (gy e) h with | some b => k (s e (.bool b)) h | none => .bad "==") (fun _ _ e h k => match eqV ek (gx e) (gy e) h with | some b => k (s e (.bool b)) h | none => .bad "==") (fun e h k => match eqV ek (gx e) (gy e) h with | some b => k (s e (.bool b)) h | none => .bad "==") (fun _ _ _ _ e h k => match eqV ek (gx e) (gy e) h with | some b => k (s e (.bool b)) h | none => .bad "==") (gx e) e h k)⟩
  | .neq => ⟨fun _ e h k => (@V.rec  (fun _ => (Env) → (H) → (K) → Out) (fun e h k => match eqV ek (gx e) (gy e) h with | some b => k (s e (.bool (not b))) h | none => .bad "!=") (fun _ e h k => match eqV ek (gx e) (gy e) h with | some b => k (s e (.bool (not b))) h | none => .bad "!=") (fun kd a e h k => (@V.rec  (fun _ => (IntKind) → (Nat) → (Env) → (H) → (K) → Out) (fun kd a e h k => .bad "!=") (fun _ kd a e h k => .bad "!=") (fun yk b kd a e h k => (@Bool.rec  (fun _ => (IntKind) → (Nat) → (Nat) → (Env) → (H) → (K) → Out) (fun kd a b e h k => .bad "kinds") (fun kd a b e h k => k (s e (.bool (not (Nat.beq a b)))) h) (keq kd yk) kd a b e h k)) (fun _ _ kd a e h k => .bad "!=") (fun _ _ kd a e h k => .bad "!=") (fun kd a e h k => .bad "!=") (fun _ _ _ _ _ kd a e h k => .bad "!=") (fun kd a e h k => .bad "!=") (fun _ kd a e h k => .bad "!=") (fun kd a e h k => .bad "!=") (fun _ _ _ _ _ kd a e h k => .bad "!=") (fun kd a e h k => .bad "!=") (fun _ _ _ kd a e h k => .bad "!=") (fun kd a e h k => .bad "!=") (fun _ _ kd a e h k => .bad "!=") (fun _ _ kd a e h k => .bad "!=") (fun kd a e h k => .bad "!=") (fun _ _ _ _ kd a e h k => .bad "!=") (gy e) kd a e h k)) (fun la a e h k => (@V.rec  (fun _ => (Nat) → (Nat) → (Env) → (H) → (K) → Out) (fun la a e h k => .bad "!=") (fun _ la a e h k => .bad "!=") (fun _ _ la a e h k => .bad "!=") (fun lb b la a e h k => k (s e (.bool (not (strEq la a lb b)))) h) (fun _ _ la a e h k => .bad "!=") (fun la a e h k => .bad "!=") (fun _ _ _ _ _ la a e h k => .bad "!=") (fun la a e h k => .bad "!=") (fun _ la a e h k => .bad "!=") (fun la a e h k => .bad "!=") (fun _ _ _ _ _ la a e h k => .bad "!=") (fun la a e h k => .bad "!=") (fun _ _ _ la a e h k => .bad "!=") (fun la a e h k => .bad "!=") (fun _ _ la a e h k => .bad "!=") (fun _ _ la a e h k => .bad "!=") (fun la a e h k => .bad "!=") (fun _ _ _ _ la a e h k => .bad "!=") (gy e) la a e h k)) (fun _ _ e h k => match eqV ek (gx e) (gy e) h with | some b => k (s e (.bool (not b))) h | none => .bad "!=") (fun e h k => match eqV ek (gx e) (gy e) h with | some b => k (s e (.bool (not b))) h | none => .bad "!=") (fun _ _ _ _ _ e h k => match eqV ek (gx e) (gy e) h with | some b => k (s e (.bool (not b))) h | none => .bad "!=") (fun e h k => match eqV ek (gx e) (gy e) h with | some b => k (s e (.bool (not b))) h | none => .bad "!=") (fun _ e h k => match eqV ek (gx e) (gy e) h with | some b => k (s e (.bool (not b))) h | none => .bad "!=") (fun e h k => match eqV ek (gx e) (gy e) h with | some b => k (s e (.bool (not b))) h | none => .bad "!=") (fun _ _ _ _ _ e h k => match eqV ek (gx e) (gy e) h with | some b => k (s e (.bool (not b))) h | none => .bad "!=") (fun e h k => match eqV ek (gx e) (gy e) h with | some b => k (s e (.bool (not b))) h | none => .bad "!=") (fun _ _ _ e h k => match eqV ek (gx e) (gy e) h with | some b => k (s e (.bool (not b))) h | none => .bad "!=") (fun e h k => match eqV ek (gx e) (gy e) h with | some b => k (s e (.bool (not b))) h | none => .bad "!=") (fun _ _ e h k => match eqV ek (gx e) (gy e) h with | some b => k (s e (.bool (not b))) h | none => .bad "!=") (fun _ _ e h k => match eqV ek (gx e) (gy e) h with | some b => k (s e (.bool (not b))) h | none => .bad "!=") (fun e h k => match eqV ek (gx e) (gy e) h with | some b => k (s e (.bool (not b))) h | none => .bad "!=") (fun _ _ _ _ e h k => match eqV ek (gx e) (gy e) h with | some b => k (s e (.bool (not b))) h | none => .bad "!=") (gx e) e h k)⟩
  | _ => ⟨fun _ e h k => (@V.rec  (fun _ => (Env) → (H) → (K) → Out) (fun e h k => .bad "binOp") (fun _ e h k => .bad "binOp") (fun kd a e h k => (@V.rec  (fun _ => (IntKind) → (Nat) → (Env) → (H) → (K) → Out) (fun kd a e h k => .bad "binOp") (fun _ kd a e h k => .bad "binOp") (fun yk b kd a e h k => (@Bool.rec  (fun _ => (IntKind) → (Nat) → (Nat) → (Env) → (H) → (K) → Out) (fun kd a b e h k => .bad "kinds") (fun kd a b e h k => fi kd a b fun v => k (s e v) h) (keq kd yk) kd a b e h k)) (fun _ _ kd a e h k => .bad "binOp") (fun _ _ kd a e h k => .bad "binOp") (fun kd a e h k => .bad "binOp") (fun _ _ _ _ _ kd a e h k => .bad "binOp") (fun kd a e h k => .bad "binOp") (fun _ kd a e h k => .bad "binOp") (fun kd a e h k => .bad "binOp") (fun _ _ _ _ _ kd a e h k => .bad "binOp") (fun kd a e h k => .bad "binOp") (fun _ _ _ kd a e h k => .bad "binOp") (fun kd a e h k => .bad "binOp") (fun _ _ kd a e h k => .bad "binOp") (fun _ _ kd a e h k => .bad "binOp") (fun kd a e h k => .bad "binOp") (fun _ _ _ _ kd a e h k => .bad "binOp") (gy e) kd a e h k)) (fun la a e h k => (@V.rec  (fun _ => (Nat) → (Nat) → (Env) → (H) → (K) → Out) (fun la a e h k => .bad "binOp") (fun _ la a e h k => .bad "binOp") (fun _ _ la a e h k => .bad "binOp") (fun lb b la a e h k => fs la a lb b fun v => k (s e v) h) (fun _ _ la a e h k => .bad "binOp") (fun la a e h k => .bad "binOp") (fun _ _ _ _ _ la a e h k => .bad "binOp") (fun la a e h k => .bad "binOp") (fun _ la a e h k => .bad "binOp") (fun la a e h k => .bad "binOp") (fun _ _ _ _ _ la a e h k => .bad "binOp") (fun la a e h k => .bad "binOp") (fun _ _ _ la a e h k => .bad "binOp") (fun la a e h k => .bad "binOp") (fun _ _ la a e h k => .bad "binOp") (fun _ _ la a e h k => .bad "binOp") (fun la a e h k => .bad "binOp") (fun _ _ _ _ la a e h k => .bad "binOp") (gy e) la a e h k)) (fun _ _ e h k => .bad "binOp") (fun e h k => .bad "binOp") (fun _ _ _ _ _ e h k => .bad "binOp") (fun e h k => .bad "binOp") (fun _ e h k => .bad "binOp") (fun e h k => .bad "binOp") (fun _ _ _ _ _ e h k => .bad "binOp") (fun e h k => .bad "binOp") (fun _ _ _ e h k => .bad "binOp") (fun e h k => .bad "binOp") (fun _ _ e h k => .bad "binOp") (fun _ _ e h k => .bad "binOp") (fun e h k => .bad "binOp") (fun a b _ _ e h k => remModV op a b (gy e) fun v => k (s e v) h) (gx e) e h k)⟩) (strOp op))) (intOp op))
def cop_move (X : Cx) (s : S) (x : Operand) : Fn1 OpM :=
 opd X x (fun g => ⟨fun _ e h k => k (s e (g e)) h⟩) (badOp "operand")
def cop_pick (X : Cx) (s : S) (c : Operand) (a : Operand) (b : Operand) : Fn1 OpM :=
 opd X c (fun c => opd X a (fun a => opd X b (fun b => ⟨fun _ e h k => (@V.rec  (fun _ => (Env) → (H) → (K) → Out) (fun e h k => .bad "pick") (fun t e h k => (@Bool.rec  (fun _ => (Env) → (H) → (K) → Out) (fun e h k => k (s e (b e)) h) (fun e h k => k (s e (a e)) h) (t) e h k)) (fun _ _ e h k => .bad "pick") (fun _ _ e h k => .bad "pick") (fun _ _ e h k => .bad "pick") (fun e h k => .bad "pick") (fun _ _ _ _ _ e h k => .bad "pick") (fun e h k => .bad "pick") (fun _ e h k => .bad "pick") (fun e h k => .bad "pick") (fun _ _ _ _ _ e h k => .bad "pick") (fun e h k => .bad "pick") (fun _ _ _ e h k => .bad "pick") (fun e h k => .bad "pick") (fun _ _ e h k => .bad "pick") (fun _ _ e h k => .bad "pick") (fun e h k => .bad "pick") (fun _ _ _ _ e h k => .bad "pick") (c e) e h k)⟩) (badOp "operand")) (badOp "operand")) (badOp "operand")
def cop_alloc (X : Cx) (s : S) (t : TypeId) : Fn1 OpM :=
 match (zeroCellsV X.P t).bind blkOfList with
  | some (c, n) => ⟨fun _ e h k => H.new h (.live c n false []) fun i h => k (s e (.ptr i 0)) h⟩
  | none => badOp "alloc"
def cop_box (X : Cx) (s : S) (t : TypeId) (x : Operand) : Fn1 OpM :=
 opd X x (fun g => ⟨fun _ e h k => boxVF (g e) h fun i h => k (s e (.ptr i 0)) h⟩) (badOp "box")
def cop_build (X : Cx) (s : S) (t : TypeId) (parts : Array (Nat × Operand)) : Fn1 OpM :=
 match zeroCellsV X.P t, (match fieldsOf X.P t with
   | some fs => if fs.all (fun f => (X.P.info? f.type).isSome) then some (fun i => (fs[i]?).map fun f => (f.offset, f.type)) else none
   | none => match X.P.underlying t with
    | some (.array _ el) => if (X.P.info? el).isSome = true then some fun i => some (i * X.P.cellsOf el, el) else none
    | _ => none : Option (Nat → Option (Nat × TypeId))) with
  | some z, some place => match (planFill X place parts.toList ⟨z.map .z, []⟩).f with
   | some pl => match pl.parts with
    | [] => let v := V.agg (V.ofList z); ⟨fun _ e h k => k (s e v) h⟩
    | ag => let c := pl.cells; ⟨fun _ e h k => match checkPartsF e ag with
     | true => k (s e (.agg (runPlanF e c))) h
     | false => .bad "build: part"⟩
   | none => badOp "build"
  | _, _ => badOp "build"
def cop_buildSlice (X : Cx) (s : S) (t : TypeId) (len : Nat) (parts : Array (Nat × Operand)) : Fn1 OpM :=
 match elemOfSlice X.P t with
  | some el => match zeroCellsV X.P el with
   | some z => if z.length = 0 ∨ z.length ≠ X.P.cellsOf el ∨ 16000 < len * X.P.cellsOf el then badOp "buildSlice: size" else
    let sz := X.P.cellsOf el
    match (planFill X (fun i => some (i * sz, el)) parts.toList ⟨(repeatL len z).map .z, []⟩).f with
    | some pl => match pl.parts with
     | [] => match blkOfList (repeatL len z) with
      | some (c, n) => ⟨fun _ e h k => H.new h (.live c n false []) fun i h => k (s e (.sl i 0 sz len (.exact len))) h⟩
      | none => badOp "buildSlice"
     | ag => let c := pl.cells; ⟨fun _ e h k => match checkPartsF e ag with
      | true => newCellsF h (runPlanF e c) fun i h => k (s e (.sl i 0 sz len (.exact len))) h
      | false => .bad "buildSlice: part"⟩
    | none => badOp "buildSlice"
   | none => badOp "buildSlice"
  | none => badOp "buildSlice"
def cop_load (X : Cx) (s : S) (t : TypeId) (a : Operand) : Fn1 OpM :=
 match scalarT X.P t with
  | some true => opd X a (fun g => ⟨fun _ e h k => (@V.rec  (fun _ => (Env) → (H) → (K) → Out) (fun e h k => .bad "load: no pointer") (fun _ e h k => .bad "load: no pointer") (fun _ _ e h k => .bad "load: no pointer") (fun _ _ e h k => .bad "load: no pointer") (fun i o e h k => loadOne h i o fun v => k (s e v) h) (fun e h k => .bad "load: no pointer") (fun _ _ _ _ _ e h k => .bad "load: no pointer") (fun e h k => .bad "load: no pointer") (fun _ e h k => .bad "load: no pointer") (fun e h k => .bad "load: no pointer") (fun _ _ _ _ _ e h k => .bad "load: no pointer") (fun e h k => .bad "load: no pointer") (fun _ _ _ e h k => .bad "load: no pointer") (fun e h k => .bad "load: no pointer") (fun _ _ e h k => .bad "load: no pointer") (fun _ _ e h k => .bad "load: no pointer") (fun e h k => .bad "load: no pointer") (fun _ _ _ _ e h k => .bad "load: no pointer") (g e) e h k)⟩) (badOp "load")
  | some false => opd X a (fun g => let n := X.P.cellsOf t; ⟨fun _ e h k => (@V.rec  (fun _ => (Env) → (H) → (K) → Out) (fun e h k => .bad "load: no pointer") (fun _ e h k => .bad "load: no pointer") (fun _ _ e h k => .bad "load: no pointer") (fun _ _ e h k => .bad "load: no pointer") (fun i o e h k => loadAggF n h i o fun v => k (s e v) h) (fun e h k => .bad "load: no pointer") (fun _ _ _ _ _ e h k => .bad "load: no pointer") (fun e h k => .bad "load: no pointer") (fun _ e h k => .bad "load: no pointer") (fun e h k => .bad "load: no pointer") (fun _ _ _ _ _ e h k => .bad "load: no pointer") (fun e h k => .bad "load: no pointer") (fun _ _ _ e h k => .bad "load: no pointer") (fun e h k => .bad "load: no pointer") (fun _ _ e h k => .bad "load: no pointer") (fun _ _ e h k => .bad "load: no pointer") (fun e h k => .bad "load: no pointer") (fun _ _ _ _ e h k => .bad "load: no pointer") (g e) e h k)⟩) (badOp "load")
  | none => badOp "load"
def cop_store (X : Cx) (s : S) (t : TypeId) (a : Operand) (x : Operand) : Fn1 OpM :=
 if X.P.cellsOf t = 0 then badOp "store" else opd X a (fun g => opd X x (fun gx => let n := X.P.cellsOf t
   ⟨fun _ e h k => (@V.rec  (fun _ => (Env) → (H) → (K) → Out) (fun e h k => .bad "store: no pointer") (fun _ e h k => .bad "store: no pointer") (fun _ _ e h k => .bad "store: no pointer") (fun _ _ e h k => .bad "store: no pointer") (fun i o e h k => storeVF n (gx e) h i o fun h => k (s e .undef) h) (fun e h k => .bad "store: no pointer") (fun _ _ _ _ _ e h k => .bad "store: no pointer") (fun e h k => .bad "store: no pointer") (fun _ e h k => .bad "store: no pointer") (fun e h k => .bad "store: no pointer") (fun _ _ _ _ _ e h k => .bad "store: no pointer") (fun e h k => .bad "store: no pointer") (fun _ _ _ e h k => .bad "store: no pointer") (fun e h k => .bad "store: no pointer") (fun _ _ e h k => .bad "store: no pointer") (fun _ _ e h k => .bad "store: no pointer") (fun e h k => .bad "store: no pointer") (fun _ _ _ _ e h k => .bad "store: no pointer") (g e) e h k)⟩) (badOp "store")) (badOp "store")
def cop_nilCheck (X : Cx) (s : S) (x : Operand) : Fn1 OpM :=
 opd X x (fun g => ⟨fun _ e h k => (@V.rec  (fun _ => (Env) → (H) → (K) → Out) (fun e h k => .bad "nilCheck") (fun _ e h k => .bad "nilCheck") (fun _ _ e h k => .bad "nilCheck") (fun _ _ e h k => .bad "nilCheck") (fun i o e h k => k (s e (.ptr i o)) h) (fun e h k => .bad "nilCheck") (fun _ _ _ _ _ e h k => .bad "nilCheck") (fun e h k => .bad "nilCheck") (fun _ e h k => .bad "nilCheck") (fun e h k => .bad "nilCheck") (fun f a c _ _ e h k => k (s e (.fn f a c)) h) (fun e h k => .bad "nilCheck") (fun _ _ _ e h k => .bad "nilCheck") (fun e h k => .bad "nilCheck") (fun _ _ e h k => .bad "nilCheck") (fun _ _ e h k => .bad "nilCheck") (fun e h k => .bad "nilCheck") (fun _ _ _ _ e h k => .bad "nilCheck") (g e) e h k)⟩) (badOp "nilCheck")
def cop_binOp (X : Cx) (s : S) (op : BinOp) (t : TypeId) (x : Operand) (y : Operand) (_u4 : TypeId) : Fn1 OpM :=
 opd X x (fun gx => opd X y (fun gy => binOpM op (ekAt X t (isConst x || isConst y)) gx gy s) (badOp "binOp")) (badOp "binOp")
def cop_unOp (X : Cx) (s : S) (op : UnOp) (_u1 : TypeId) (x : Operand) : Fn1 OpM :=
 opd X x (fun g => match op with
   | .not => ⟨fun _ e h k => (@V.rec  (fun _ => (Env) → (H) → (K) → Out) (fun e h k => .bad "not") (fun b e h k => k (s e (.bool (not b))) h) (fun _ _ e h k => .bad "not") (fun _ _ e h k => .bad "not") (fun _ _ e h k => .bad "not") (fun e h k => .bad "not") (fun _ _ _ _ _ e h k => .bad "not") (fun e h k => .bad "not") (fun _ e h k => .bad "not") (fun e h k => .bad "not") (fun _ _ _ _ _ e h k => .bad "not") (fun e h k => .bad "not") (fun _ _ _ e h k => .bad "not") (fun e h k => .bad "not") (fun _ _ e h k => .bad "not") (fun _ _ e h k => .bad "not") (fun e h k => .bad "not") (fun _ _ _ _ e h k => .bad "not") (g e) e h k)⟩
   | .neg => ⟨fun _ e h k => (@V.rec  (fun _ => (Env) → (H) → (K) → Out) (fun e h k => .bad "neg") (fun _ e h k => .bad "neg") (fun kd n e h k => k (s e (.int kd (negate kd n))) h) (fun _ _ e h k => .bad "neg") (fun _ _ e h k => .bad "neg") (fun e h k => .bad "neg") (fun _ _ _ _ _ e h k => .bad "neg") (fun e h k => .bad "neg") (fun _ e h k => .bad "neg") (fun e h k => .bad "neg") (fun _ _ _ _ _ e h k => .bad "neg") (fun e h k => .bad "neg") (fun _ _ _ e h k => .bad "neg") (fun e h k => .bad "neg") (fun _ _ e h k => .bad "neg") (fun _ _ e h k => .bad "neg") (fun e h k => .bad "neg") (fun _ _ _ _ e h k => .bad "neg") (g e) e h k)⟩
   | _ => badOp "unOp") (badOp "unOp")
def cop_convert (X : Cx) (s : S) (st : TypeId) (dt : TypeId) (x : Operand) : Fn1 OpM :=
 match X.P.underlying st, X.P.underlying dt with
  | some (.int _), some (.int kd) => opd X x (fun g => ⟨fun _ e h k => match g e with
   | .int k' n => match isNeg k' n with
    | false => k (s e (.int kd (Nat.mod n (kmod kd)))) h
    | true => .bad "convert a negative number"
   | _ => .bad "convert"⟩) (badOp "convert")
  | _, _ => badOp "convert"
def cop_makeInterface (X : Cx) (s : S) (t : TypeId) (x : Operand) : Fn1 OpM :=
 match isIface X.P t with
  | false => opd X x (fun g => ⟨fun _ e h k => k (s e (.ifc t (g e))) h⟩) (badOp "makeInterface")
  | true => badOp "makeInterface"
def cop_makeFunc (X : Cx) (s : S) (fn : Fn) (first captured : Array Operand) : Fn1 OpM :=
 match fn with
 | .func f => opds X first.toList (fun gf => opds X captured.toList (fun gl => ⟨fun _ e h k => k (s e (.fn f (gf e) (gl e))) h⟩) (badOp "makeFunc")) (badOp "makeFunc")
 | _ => badOp "operation"
def cop_makeMap (X : Cx) (s : S) (_u0 : TypeId) (r : Option Operand) : Fn1 OpM :=
 match r with
  | none => ⟨fun _ e h k => H.new h (.map [] 0) fun i h => k (s e (.map i)) h⟩
  | some _ => badOp "makeMap with a hint"
def cop_makeSlice (X : Cx) (s : S) (t : TypeId) (l : Operand) (c : Operand) : Fn1 OpM :=
 match elemOfSlice X.P t with
  | some el => match zeroCellsV X.P el with
   | some z => if z.length = 0 ∨ z.length ≠ X.P.cellsOf el ∨ 100000000 < bytesOf X.P el then badOp "makeSlice" else opd X l (fun gl => opd X c (fun gc => let sz := X.P.cellsOf el
    ⟨fun _ e h k => match gl e, gc e with
     | .int .i64 n, .int .i64 m => match Nat.ble n m with
      | true => match Nat.ble m 4000 with
       | true => newCellsF h (V.ofList (repeatL m z)) fun i h => k (s e (.sl i 0 sz n (.exact m))) h
       | false => .bad "makeSlice: great"
      | false => .bad "makeSlice: len"
     | _, _ => .bad "makeSlice"⟩) (badOp "makeSlice")) (badOp "makeSlice")
   | none => badOp "makeSlice"
  | none => badOp "makeSlice"
def cop_slice (X : Cx) (s : S) (t : TypeId) (x : Operand) (lo : Option Operand) (hi : Option Operand) (mx : Option Operand) : Fn1 OpM :=
 if mx.isSome = true ∧ hi.isNone = true then badOp "slice" else match X.P.underlying t with
  | some .string => if mx.isSome = true then badOp "slice" else opd X x (fun g => opdO X lo (fun lo => opdO X hi (fun hi =>
    ⟨fun _ e h k => strSliceV (g e) (lo e) (hi e) fun v => k (s e v) h⟩) (badOp "slice")) (badOp "slice")) (badOp "slice")
  | some (.slice el) => if X.P.cellsOf el = 0 then badOp "slice" else let z := X.P.cellsOf el
   opd X x (fun g => opdO X lo (fun lo => opdO X hi (fun hi => opdO X mx (fun mx =>
    ⟨fun _ e h k => sliceV z (g e) (lo e) (hi e) (mx e) fun v => k (s e v) h⟩) (badOp "slice")) (badOp "slice")) (badOp "slice")) (badOp "slice")
  | _ => badOp "slice"
def cop_fieldAddr (X : Cx) (s : S) (st : TypeId) (x : Operand) (j : Nat) : Fn1 OpM :=
 match fieldsOf X.P st with
  | some fs => match fs[j]? with
   | some f => if X.P.cellsOf f.type = 0 then badOp "fieldAddr" else opd X x (fun g => let off := f.offset
    ⟨fun _ e h k => (@V.rec  (fun _ => (Env) → (H) → (K) → Out) (fun e h k => .bad "fieldAddr") (fun _ e h k => .bad "fieldAddr") (fun _ _ e h k => .bad "fieldAddr") (fun _ _ e h k => .bad "fieldAddr") (fun i o e h k => k (s e (.ptr i (Nat.add o off))) h) (fun e h k => .bad "fieldAddr") (fun _ _ _ _ _ e h k => .bad "fieldAddr") (fun e h k => .bad "fieldAddr") (fun _ e h k => .bad "fieldAddr") (fun e h k => .bad "fieldAddr") (fun _ _ _ _ _ e h k => .bad "fieldAddr") (fun e h k => .bad "fieldAddr") (fun _ _ _ e h k => .bad "fieldAddr") (fun e h k => .bad "fieldAddr") (fun _ _ e h k => .bad "fieldAddr") (fun _ _ e h k => .bad "fieldAddr") (fun e h k => .bad "fieldAddr") (fun _ _ _ _ e h k => .bad "fieldAddr") (g e) e h k)⟩) (badOp "fieldAddr")
   | none => badOp "fieldAddr"
  | none => badOp "fieldAddr"
def cop_field (X : Cx) (s : S) (t : TypeId) (x : Operand) (j : Nat) : Fn1 OpM :=
 match fieldsOf X.P t with
  | some fs => match fs[j]? with
   | some f => match scalarT X.P f.type with
    | some true => opd X x (fun g => let off := f.offset
     ⟨fun _ e h k => (@V.rec  (fun _ => (Env) → (H) → (K) → Out) (fun e h k => .bad "field") (fun _ e h k => .bad "field") (fun _ _ e h k => .bad "field") (fun _ _ e h k => .bad "field") (fun _ _ e h k => .bad "field") (fun e h k => .bad "field") (fun _ _ _ _ _ e h k => .bad "field") (fun e h k => .bad "field") (fun _ e h k => .bad "field") (fun e h k => .bad "field") (fun _ _ _ _ _ e h k => .bad "field") (fun e h k => .bad "field") (fun _ _ _ e h k => .bad "field") (fun e h k => .bad "field") (fun l _ e h k => defd (V.nthF l off) fun v => k (s e v) h) (fun _ _ e h k => .bad "field") (fun e h k => .bad "field") (fun _ _ _ _ e h k => .bad "field") (g e) e h k)⟩) (badOp "field")
    | some false => opd X x (fun g => let off := f.offset; let n := X.P.cellsOf f.type
     ⟨fun _ e h k => (@V.rec  (fun _ => (Env) → (H) → (K) → Out) (fun e h k => .bad "field") (fun _ e h k => .bad "field") (fun _ _ e h k => .bad "field") (fun _ _ e h k => .bad "field") (fun _ _ e h k => .bad "field") (fun e h k => .bad "field") (fun _ _ _ _ _ e h k => .bad "field") (fun e h k => .bad "field") (fun _ e h k => .bad "field") (fun e h k => .bad "field") (fun _ _ _ _ _ e h k => .bad "field") (fun e h k => .bad "field") (fun _ _ _ e h k => .bad "field") (fun e h k => .bad "field") (fun l _ e h k => k (s e (.agg (V.takeF (V.dropF l off) n))) h) (fun _ _ e h k => .bad "field") (fun e h k => .bad "field") (fun _ _ _ _ e h k => .bad "field") (g e) e h k)⟩) (badOp "field")
    | none => badOp "field"
   | none => badOp "field"
  | none => badOp "field"
def cop_indexAddr (X : Cx) (s : S) (t : TypeId) (x : Operand) (ix : Operand) : Fn1 OpM :=
 match X.P.underlying t with
  | some (.slice el) => if X.P.cellsOf el = 0 then badOp "indexAddr" else opd X x (fun g => opd X ix (fun gi => let sz := X.P.cellsOf el
   ⟨fun _ e h k => (@V.rec  (fun _ => (Env) → (H) → (K) → Out) (fun e h k => .bad "indexAddr") (fun _ e h k => .bad "indexAddr") (fun _ _ e h k => .bad "indexAddr") (fun _ _ e h k => .bad "indexAddr") (fun _ _ e h k => .bad "indexAddr") (fun e h k => .bad "indexAddr") (fun i eo sz' len _ e h k => (@V.rec  (fun _ => (Id) → (Nat) → (Nat) → (Nat) → (Env) → (H) → (K) → Out) (fun i eo sz' len e h k => .bad "index") (fun _ i eo sz' len e h k => .bad "index") (fun kd n i eo sz' len e h k => (@Bool.rec  (fun _ => (Nat) → (Id) → (Nat) → (Nat) → (Nat) → (Env) → (H) → (K) → Out) (fun n i eo sz' len e h k => (@Bool.rec  (fun _ => (Nat) → (Id) → (Nat) → (Nat) → (Env) → (H) → (K) → Out) (fun n i eo sz' e h k => .bad "index out of range") (fun n i eo sz' e h k => (@Bool.rec  (fun _ => (Nat) → (Id) → (Nat) → (Env) → (H) → (K) → Out) (fun n i eo e h k => .bad "element size") (fun n i eo e h k => k (s e (.ptr i (Nat.mul (Nat.add eo n) sz))) h) (Nat.beq sz sz') n i eo e h k)) (Nat.ble (Nat.succ n) len) n i eo sz' e h k)) (fun n i eo sz' len e h k => .bad "index") (isNeg kd n) n i eo sz' len e h k)) (fun _ _ i eo sz' len e h k => .bad "index") (fun _ _ i eo sz' len e h k => .bad "index") (fun i eo sz' len e h k => .bad "index") (fun _ _ _ _ _ i eo sz' len e h k => .bad "index") (fun i eo sz' len e h k => .bad "index") (fun _ i eo sz' len e h k => .bad "index") (fun i eo sz' len e h k => .bad "index") (fun _ _ _ _ _ i eo sz' len e h k => .bad "index") (fun i eo sz' len e h k => .bad "index") (fun _ _ _ i eo sz' len e h k => .bad "index") (fun i eo sz' len e h k => .bad "index") (fun _ _ i eo sz' len e h k => .bad "index") (fun _ _ i eo sz' len e h k => .bad "index") (fun i eo sz' len e h k => .bad "index") (fun _ _ _ _ i eo sz' len e h k => .bad "index") (gi e) i eo sz' len e h k)) (fun e h k => .bad "indexAddr") (fun _ e h k => .bad "indexAddr") (fun e h k => .bad "indexAddr") (fun _ _ _ _ _ e h k => .bad "indexAddr") (fun e h k => .bad "indexAddr") (fun _ _ _ e h k => .bad "indexAddr") (fun e h k => .bad "indexAddr") (fun _ _ e h k => .bad "indexAddr") (fun _ _ e h k => .bad "indexAddr") (fun e h k => .bad "indexAddr") (fun _ _ _ _ e h k => .bad "indexAddr") (g e) e h k)⟩) (badOp "indexAddr")) (badOp "indexAddr")
  | _ => badOp "indexAddr"
def cop_index (X : Cx) (s : S) (t : TypeId) (x : Operand) (ix : Operand) : Fn1 OpM :=
 match X.P.underlying t with
  | some .string => opd X x (fun g => opd X ix (fun gi =>
   ⟨fun _ e h k => (@V.rec  (fun _ => (Env) → (H) → (K) → Out) (fun e h k => .bad "index") (fun _ e h k => .bad "index") (fun _ _ e h k => .bad "index") (fun len bits e h k => (@V.rec  (fun _ => (Nat) → (Nat) → (Env) → (H) → (K) → Out) (fun len bits e h k => .bad "index") (fun _ len bits e h k => .bad "index") (fun kd n len bits e h k => (@Bool.rec  (fun _ => (Nat) → (Nat) → (Nat) → (Env) → (H) → (K) → Out) (fun n len bits e h k => (@Bool.rec  (fun _ => (Nat) → (Nat) → (Env) → (H) → (K) → Out) (fun n bits e h k => .bad "index out of range") (fun n bits e h k => k (s e (.int .u8 (Nat.mod (Nat.div bits (p256 n)) 256))) h) (Nat.ble (Nat.succ n) len) n bits e h k)) (fun n len bits e h k => .bad "index") (isNeg kd n) n len bits e h k)) (fun _ _ len bits e h k => .bad "index") (fun _ _ len bits e h k => .bad "index") (fun len bits e h k => .bad "index") (fun _ _ _ _ _ len bits e h k => .bad "index") (fun len bits e h k => .bad "index") (fun _ len bits e h k => .bad "index") (fun len bits e h k => .bad "index") (fun _ _ _ _ _ len bits e h k => .bad "index") (fun len bits e h k => .bad "index") (fun _ _ _ len bits e h k => .bad "index") (fun len bits e h k => .bad "index") (fun _ _ len bits e h k => .bad "index") (fun _ _ len bits e h k => .bad "index") (fun len bits e h k => .bad "index") (fun _ _ _ _ len bits e h k => .bad "index") (gi e) len bits e h k)) (fun _ _ e h k => .bad "index") (fun e h k => .bad "index") (fun _ _ _ _ _ e h k => .bad "index") (fun e h k => .bad "index") (fun _ e h k => .bad "index") (fun e h k => .bad "index") (fun _ _ _ _ _ e h k => .bad "index") (fun e h k => .bad "index") (fun _ _ _ e h k => .bad "index") (fun e h k => .bad "index") (fun _ _ e h k => .bad "index") (fun _ _ e h k => .bad "index") (fun e h k => .bad "index") (fun _ _ _ _ e h k => .bad "index") (g e) e h k)⟩) (badOp "index")) (badOp "index")
  | _ => badOp "index"
def cop_lookup (X : Cx) (s : S) (t : TypeId) (x : Operand) (ix : Operand) (ok : Bool) : Fn1 OpM :=
 match X.P.underlying t with
  | some (.map kt et) => match zeroV X.P et with
   | some z => opd X x (fun g => opd X ix (fun gi => let ek := keyKind X kt
    ⟨fun _ e h k => lookupV ek (X.P.cellsOf kt) z ok (g e) (gi e) h fun v => k (s e v) h⟩) (badOp "lookup")) (badOp "lookup")
   | none => badOp "lookup"
  | _ => badOp "lookup"
def cop_mapUpdate (X : Cx) (s : S) (t : TypeId) (m : Operand) (kx : Operand) (x : Operand) : Fn1 OpM :=
 match X.P.underlying t with
  | some (.map kt _) => opd X m (fun gm => opd X kx (fun gk => opd X x (fun gx => let ek := keyKind X kt
   ⟨fun _ e h k => mapUpdV ek (X.P.cellsOf kt) (gm e) (gk e) (gx e) h fun h => k (s e .undef) h⟩) (badOp "mapUpdate")) (badOp "mapUpdate")) (badOp "mapUpdate")
  | _ => badOp "mapUpdate"
def cop_range (X : Cx) (s : S) (t : TypeId) (x : Operand) : Fn1 OpM :=
 match X.P.underlying t with
  | some (.map _ _) => opd X x (fun g => ⟨fun _ e h k => rangeV (g e) h fun v h => k (s e v) h⟩) (badOp "range")
  | _ => badOp "range"
def cop_next (X : Cx) (s : S) (it : Operand) (st : Bool) : Fn1 OpM :=
 opd X it (fun g => ⟨fun _ e h k => nextV st (g e) h fun v h => k (s e v) h⟩) (badOp "next")
def cop_entry (X : Cx) (s : S) (it : Operand) : Fn1 OpM :=
 opd X it (fun g => ⟨fun _ e h k => entryV (g e) h fun v => k (s e v) h⟩) (badOp "entry")
def cop_typeAssert (X : Cx) (s : S) (x : Operand) (_u1 : TypeId) (a : TypeId) (ok : Bool) : Fn1 OpM :=
 match isIface X.P a with
  | false => opd X x (fun g => ⟨fun _ e h k => typeAssertV a ok (g e) fun v => k (s e v) h⟩) (badOp "typeAssert")
  | true => badOp "typeAssert"
def cop_extract (X : Cx) (s : S) (t : Operand) (ix : Nat) : Fn1 OpM :=
 opd X t (fun g => ⟨fun _ e h k => (@V.rec  (fun _ => (Env) → (H) → (K) → Out) (fun e h k => .bad "extract") (fun _ e h k => .bad "extract") (fun _ _ e h k => .bad "extract") (fun _ _ e h k => .bad "extract") (fun _ _ e h k => .bad "extract") (fun e h k => .bad "extract") (fun _ _ _ _ _ e h k => .bad "extract") (fun e h k => .bad "extract") (fun _ e h k => .bad "extract") (fun e h k => .bad "extract") (fun _ _ _ _ _ e h k => .bad "extract") (fun e h k => .bad "extract") (fun _ _ _ e h k => .bad "extract") (fun e h k => .bad "extract") (fun _ _ e h k => .bad "extract") (fun l _ e h k => defd (V.nthF l ix) fun v => k (s e v) h) (fun e h k => .bad "extract") (fun _ _ _ _ e h k => .bad "extract") (g e) e h k)⟩) (badOp "extract")
def cop_call (X : Cx) (s : S) (c : Go.Call) : Fn1 OpM :=
 match c.callee with
  | .builtin b => builtinOp X b c.args.toList c.argTypes.toList s
  | .value (.func f) => opds X c.args.toList (fun gl => ⟨fun call e h k => (@OpR.rec  (fun _ => (Env) → (K) → Out) (fun v h e k => k (s e v) h) (fun v h e k => .pan v e h) (fun w e k => .bad w) (call f (gl e) h) e k)⟩) (badOp "call")
  | .value x => opd X x (fun g => opds X c.args.toList (fun gl => ⟨fun call e h k => (@V.rec  (fun _ => (Call) → (Env) → (H) → (K) → Out) (fun call e h k => .bad "call: no function") (fun _ call e h k => .bad "call: no function") (fun _ _ call e h k => .bad "call: no function") (fun _ _ call e h k => .bad "call: no function") (fun _ _ call e h k => .bad "call: no function") (fun call e h k => .bad "call: no function") (fun _ _ _ _ _ call e h k => .bad "call: no function") (fun call e h k => .bad "call: no function") (fun _ call e h k => .bad "call: no function") (fun call e h k => .bad "call: no function") (fun f a cap _ _ call e h k => (@OpR.rec  (fun _ => (Env) → (K) → Out) (fun v h e k => k (s e v) h) (fun v h e k => .pan v e h) (fun w e k => .bad w) (call f (V.appF a (V.appF (gl e) cap)) h) e k)) (fun call e h k => .bad "call: no function") (fun _ _ _ call e h k => .bad "call: no function") (fun call e h k => .bad "call: no function") (fun _ _ call e h k => .bad "call: no function") (fun _ _ call e h k => .bad "call: no function") (fun call e h k => .bad "call: no function") (fun _ _ _ _ call e h k => .bad "call: no function") (g e) call e h k)⟩) (badOp "call")) (badOp "call")
  | .invoke .. => badOp "invoke"
def cop_defer (X : Cx) (s : S) (c : Go.Call) : Fn1 OpM :=
 match c.callee with
  | .value x => opd X x (fun g => opds X c.args.toList (fun gl => ⟨fun _ e h k =>
    match g e with
    | .fn f a c => k (s (setTop (.cons (.fn f a c) (.cons (gl e) (topE e))) e) .undef) h
    | _ => .bad "defer"⟩) (badOp "defer")) (badOp "defer")
  | _ => badOp "defer"
def cop_panic (X : Cx) (s : S) (x : Operand) : Fn1 OpM :=
 opd X x (fun g => ⟨fun _ e h k => match g e with | .ifc t v => .pan (.ifc t v) e h | _ => .bad "panic"⟩) (badOp "panic")
def compOp (X : Cx) (o : Oper) (s : S) : Fn1 OpM :=
 (@Op.rec  (fun _ => (Cx) → (S) → Fn1 OpM) (fun a0 X s => cop_move X s a0) (fun a0 X s => cop_move X s a0) (fun a0 a1 a2 X s => cop_pick X s a0 a1 a2) (fun a0 X s => cop_alloc X s a0) (fun a0 a1 X s => cop_box X s a0 a1) (fun a0 a1 X s => cop_build X s a0 a1) (fun a0 a1 a2 X s => cop_buildSlice X s a0 a1 a2) (fun a0 a1 a2 a3 X s => cop_mapUpdate X s a0 a1 a2 a3) (fun a0 a1 X s => cop_load X s a0 a1) (fun a0 a1 a2 X s => cop_store X s a0 a1 a2) (fun _ X s => badOp "operation") (fun _ X s => badOp "operation") (fun a0 X s => cop_nilCheck X s a0) (fun a0 a1 a2 a3 a4 X s => cop_binOp X s a0 a1 a2 a3 a4) (fun a0 a1 a2 X s => cop_unOp X s a0 a1 a2) (fun a0 a1 a2 X s => cop_convert X s a0 a1 a2) (fun _ _ X s => badOp "operation") (fun a0 a1 X s => cop_makeInterface X s a0 a1) (fun fn first captured X s => cop_makeFunc X s fn first captured) (fun a0 a1 X s => cop_makeMap X s a0 a1) (fun _ _ X s => badOp "operation") (fun a0 a1 a2 X s => cop_makeSlice X s a0 a1 a2) (fun a0 a1 a2 a3 a4 X s => cop_slice X s a0 a1 a2 a3 a4) (fun a0 a1 a2 X s => cop_fieldAddr X s a0 a1 a2) (fun a0 a1 a2 X s => cop_field X s a0 a1 a2) (fun a0 a1 a2 X s => cop_indexAddr X s a0 a1 a2) (fun a0 a1 a2 X s => cop_index X s a0 a1 a2) (fun a0 a1 a2 a3 X s => cop_lookup X s a0 a1 a2 a3) (fun a0 a1 a2 a3 X s => cop_mapUpdate X s a0 a1 a2 a3) (fun _ _ _ X s => badOp "operation") (fun _ _ _ _ X s => badOp "operation") (fun a0 a1 X s => cop_range X s a0 a1) (fun a0 a1 X s => cop_next X s a0 a1) (fun a0 X s => cop_entry X s a0) (fun a0 a1 a2 a3 X s => cop_typeAssert X s a0 a1 a2 a3) (fun a0 a1 X s => cop_extract X s a0 a1) (fun a0 X s => cop_call X s a0) (fun _ X s => badOp "operation") (fun a0 X s => cop_defer X s a0) (fun a0 X s => cop_panic X s a0) (fun _ _ X s => badOp "operation") (fun _ _ _ X s => badOp "operation") (fun _ _ X s => badOp "operation") (o.op) X s)
def compOper (X : Cx) (ops : Array Oper) (o : Oper) : Fn1 OpM :=
 dst X o.dst (fun s => (@Fn1.rec OpM (fun _ => Fn1 OpM) (fun m => match o.guard with
  | none => ⟨m⟩
  | some (j, want) => match (ops[j]?).bind (·.dst) with
   | some t => opd X (.tmp t) (fun g => match want with
    | true => ⟨fun c e h k => (@V.rec  (fun _ => (Call) → (Env) → (H) → (K) → Out) (fun c e h k => k (s e .undef) h) (fun b c e h k => (@Bool.rec  (fun _ => (Call) → (Env) → (H) → (K) → Out) (fun c e h k => k (s e .undef) h) (fun c e h k => m c e h k) (b) c e h k)) (fun _ _ c e h k => .bad "guard") (fun _ _ c e h k => .bad "guard") (fun _ _ c e h k => .bad "guard") (fun c e h k => .bad "guard") (fun _ _ _ _ _ c e h k => .bad "guard") (fun c e h k => .bad "guard") (fun _ c e h k => .bad "guard") (fun c e h k => .bad "guard") (fun _ _ _ _ _ c e h k => .bad "guard") (fun c e h k => .bad "guard") (fun _ _ _ c e h k => .bad "guard") (fun c e h k => .bad "guard") (fun _ _ c e h k => .bad "guard") (fun _ _ c e h k => .bad "guard") (fun c e h k => .bad "guard") (fun _ _ _ _ c e h k => .bad "guard") (g e) c e h k)⟩
    | false => ⟨fun c e h k => (@V.rec  (fun _ => (Call) → (Env) → (H) → (K) → Out) (fun c e h k => k (s e .undef) h) (fun b c e h k => (@Bool.rec  (fun _ => (Call) → (Env) → (H) → (K) → Out) (fun c e h k => m c e h k) (fun c e h k => k (s e .undef) h) (b) c e h k)) (fun _ _ c e h k => .bad "guard") (fun _ _ c e h k => .bad "guard") (fun _ _ c e h k => .bad "guard") (fun c e h k => .bad "guard") (fun _ _ _ _ _ c e h k => .bad "guard") (fun c e h k => .bad "guard") (fun _ c e h k => .bad "guard") (fun c e h k => .bad "guard") (fun _ _ _ _ _ c e h k => .bad "guard") (fun c e h k => .bad "guard") (fun _ _ _ c e h k => .bad "guard") (fun c e h k => .bad "guard") (fun _ _ c e h k => .bad "guard") (fun _ _ c e h k => .bad "guard") (fun c e h k => .bad "guard") (fun _ _ _ _ c e h k => .bad "guard") (g e) c e h k)⟩) (badOp "guard")
   | none => badOp "guard") (compOp X o s))) (badOp "slot")
def compOpers1 (X : Cx) (ops : Array Oper) (o : Oper) (ih : Fn1 M) : Fn1 M :=
 (@Fn1.rec OpM (fun _ => Fn1 M) (fun m => (@Fn1.rec M (fun _ => Fn1 M) (fun r => ⟨fun c e h => m c e h (fun e h => r c e h)⟩) (ih))) (compOper X ops o))
def compOpers (X : Cx) (ops : Array Oper) (l : List Oper) (nx : M) : Fn1 M :=
 @List.rec Oper (fun _ => Fn1 M) ⟨nx⟩ (fun o _ ih => compOpers1 X ops o ih) l
def opClass (P : Program) (o : Op) : Nat :=
 match o with
 | .move _ | .assign _ | .pick .. | .build .. | .nilCheck _ | .unOp .. | .convert .. | .makeInterface .. | .makeFunc .. | .slice .. | .fieldAddr .. | .field .. | .indexAddr .. | .index .. | .typeAssert .. | .extract .. => 0
 | .binOp op .. => match op with | .eql | .neq => 2 | _ => 0
 | .alloc _ | .box .. | .buildSlice .. | .makeMap .. | .makeSlice .. => 1
 | .load .. | .lookup .. => 2
 | .call c => match c.callee, c.args.toList, c.argTypes.toList with
  | .builtin .len, [_], [t] => match P.underlying t with | some .string | some (.slice _) => 0 | _ => 2
  | .builtin .max, [_, _], _ | .builtin .min, [_, _], _ => 0
  | _, _, _ => 3
 | _ => 3
def ordB (bs : Array Nat) (i j : Nat) : Bool := (bs.getD j 0).testBit i || (bs.getD i 0).testBit j
def looks (ops : Array Oper) (o : Oper) : List Tmp :=
 (o.op.operands.toList.filterMap fun | .tmp t => some t | _ => none) ++
 (match o.guard with
  | some (g, _) => match (ops[g]?).bind (·.dst) with | some t => [t] | none => []
  | none => [])
def backOK (ops : Array Oper) : Bool :=
 (List.range ops.size).all fun j => match ops[j]? with
  | some o => o.after.toList.all fun e => !(Region.binds .any e) || Nat.blt e.on j
  | none => true
def actOK (P : Program) (ops : Array Oper) (bs : Array Nat) : Bool :=
 (List.range ops.size).all fun j => match ops[j]? with
  | some o => match opClass P o.op with
   | 3 => (List.range j).all fun i => match ops[i]? with
    | some p => match opClass P p.op with
     | 3 | 1 => (bs.getD j 0).testBit i
     | _ => true
    | none => true
   | _ => true
  | none => true
def depOK (ops : Array Oper) (bs : Array Nat) : Bool :=
 (List.range ops.size).all fun j => match ops[j]? with
  | some o => (match o.op with | .defer _ => false | _ => true) && (List.range ops.size).all fun i => match ops[i]? with
   | some p => match p.dst with
    | some t => (Nat.beq i j || (o.dst != some t && (!(looks ops o).contains t || ordB bs i j)))
    | none => true
   | none => true
  | none => true
def dstOK (ops : Array Oper) : Bool := ops.toList.all fun o => match o.dst with | some t => Nat.blt t 992 | none => true
structure Pr where mk ::
 (rd : Bool) (i hb : Nat) (o : Oper)
def pairsOf (P : Program) (ops : Array Oper) (bs : Array Nat) (alive act : Nat → Bool) : List Pr :=
 (List.range ops.size).flatMap fun i => match ops[i]? with
  | some o => match opClass P o.op with
   | 2 => (List.range ops.size).flatMap fun b => match ops[b]? with
    | some p => match opClass P p.op with
     | 3 => if alive i && act b && !ordB bs i b then [⟨true, i, if Nat.blt b i then b else b + 1, o⟩] else []
     | _ => []
    | none => []
   | 1 => (List.range ops.size).flatMap fun b => match ops[b]? with
    | some p => match opClass P p.op with
     | 3 => if alive i && act b && Nat.blt b i && !ordB bs i b then [⟨false, i, b, o⟩] else []
     | _ => []
    | none => []
   | _ => []
  | none => []
def V.eqb : V → V → Bool
 | .undef, .undef => true
 | .bool a, .bool b => match a with | true => b | false => not b
 | .int k a, .int j b => match keq k j with | true => Nat.beq a b | false => false
 | .str n a, .str m b => strEq n a m b
 | .ptr i o, .ptr j p => match Id.eqb i j with | true => Nat.beq o p | false => false
 | .nilp, .nilp => true
 | .sl i a b c d, .sl i' a' b' c' d' => match Id.eqb i i' with
  | true => Nat.beq a a' && Nat.beq b b' && Nat.beq c c' && (match d, d' with | .exact n, .exact m => Nat.beq n m | .grown, .grown => true | .open, .open => true | _, _ => false)
  | false => false
 | .nils, .nils => true
 | .map i, .map j => Id.eqb i j
 | .nilm, .nilm => true
 | .fn f a b, .fn g c d => Nat.beq f g && V.eqb a c && V.eqb b d
 | .nilf, .nilf => true
 | .ifc t v, .ifc u w => Nat.beq t u && V.eqb v w
 | .nili, .nili => true
 | .agg l, .agg m => V.eqb l m
 | .tup l, .tup m => V.eqb l m
 | .nil, .nil => true
 | .cons a l, .cons b m => V.eqb a b && V.eqb l m
 | _, _ => false
abbrev Tr := List (Env × H)
abbrev DM := Call → Env → H → Tr → Out
abbrev CM := Call → Tr → Out → Out
def nthTr : Tr → Nat → (Env → H → Out) → Out
 | [], _, _ => .bad "trace"
 | x :: _, 0, k => k x.1 x.2
 | _ :: l, n + 1, k => nthTr l n k
def dstG (o : Oper) : Fn1 G := match o.dst with | some t => getT t | none => ⟨fun _ => .undef⟩
def compChk (X : Cx) (ops : Array Oper) (n : Nat) (p : Pr) : Fn1 CM :=
 match p.rd with
 | true => (@Fn1.rec G (fun _ => Fn1 CM) (fun g => (@Fn1.rec OpM (fun _ => Fn1 CM) (fun m => let i0 := n - p.i; let i1 := n - (p.i + 1); let i2 := n - p.hb
   ⟨fun c tr k => nthTr tr i0 fun e _ => nthTr tr i1 fun e1 _ => nthTr tr i2 fun _ h =>
    (@Out.rec  (fun _ => (Env) → (Out) → Out) (fun e' _ e1 k => (@Bool.rec  (fun _ => (Out) → Out) (fun k => .bad "a read that hangs on the order") (fun k => k) (V.eqb (g e') (g e1)) k)) (fun _ _ _ e1 k => .bad "a read that hangs on the order") (fun _ _ e1 k => .bad "a read that hangs on the order") (fun _ _ _ e1 k => .bad "a read that hangs on the order") (fun _ e1 k => .bad "a read that hangs on the order") (m c e h (fun e h => .nrm e h)) e1 k)⟩) (compOper X ops p.o))) (dstG p.o))
 | false => let i0 := n - p.i; let i2 := n - p.hb
   ⟨fun _ tr k => nthTr tr i0 fun _ h0 => nthTr tr i2 fun _ h => (@Blk.rec  (fun _ => (Out) → Out) (fun k => k) (fun k => .bad "a new block that is not free") (fun _ _ _ _ k => .bad "a new block that is not free") (fun _ _ k => .bad "a new block that is not free") (fun _ _ _ k => .bad "a new block that is not free") (fun _ _ _ _ k => .bad "a new block that is not free") (H.blk h (H.next h0)) k)⟩
def compChks1 (X : Cx) (ops : Array Oper) (n : Nat) (p : Pr) (ih : Fn1 CM) : Fn1 CM :=
 (@Fn1.rec CM (fun _ => Fn1 CM) (fun f => (@Fn1.rec CM (fun _ => Fn1 CM) (fun r => ⟨fun c tr k => f c tr (r c tr k)⟩) (ih))) (compChk X ops n p))
def compChks (X : Cx) (ops : Array Oper) (n : Nat) (l : List Pr) : Fn1 CM :=
 @List.rec Pr (fun _ => Fn1 CM) ⟨fun _ _ k => k⟩ (fun p _ ih => compChks1 X ops n p ih) l
def badDM (s : String) : Fn1 DM := ⟨fun _ _ _ _ => .bad s⟩
def drSkip (r : DM) : Fn1 DM := ⟨fun c e h tr => r c e h ((e, h) :: tr)⟩
def drAct (s : S) (g : G) (m : OpM) (pan : V → H → DM) (r : DM) : Fn1 DM :=
 ⟨fun c e h tr => (@Out.rec  (fun _ => (Call) → (Env) → (H) → (Tr) → Out) (fun e' h' c e h tr => r c (s e (g e')) h' ((e, h) :: tr)) (fun _ _ _ c e h tr => .bad "region") (fun _ _ c e h tr => .bad "region") (fun v _ h' c e h tr => pan v h' c e h tr) (fun w c e h tr => .bad w) (m c e h (fun e h => .nrm e h)) c e h tr)⟩
def drNew (s : S) (g : G) (m : OpM) (r : DM) : Fn1 DM :=
 ⟨fun c e h tr => (@Out.rec  (fun _ => (Call) → (Env) → (H) → (Tr) → Out) (fun e' h' c e h tr => r c (s e (g e')) h' ((e, h) :: tr)) (fun _ _ _ c e h tr => .bad "region") (fun _ _ c e h tr => .bad "region") (fun _ _ _ c e h tr => .bad "region") (fun w c e h tr => .bad w) (m c e h (fun e h => .nrm e h)) c e h tr)⟩
def drRead (s : S) (g : G) (m : OpM) (r : DM) : Fn1 DM :=
 ⟨fun c e h tr => (@Out.rec  (fun _ => (Call) → (Env) → (H) → (Tr) → Out) (fun e' _ c e h tr => r c (s e (g e')) h ((e, h) :: tr)) (fun _ _ _ c e h tr => .bad "region") (fun _ _ c e h tr => .bad "region") (fun _ _ _ c e h tr => .bad "region") (fun w c e h tr => .bad w) (m c e h (fun e h => .nrm e h)) c e h tr)⟩
def drPure (s : S) (g : G) (m : OpM) (r : DM) : Fn1 DM :=
 ⟨fun c e h tr => (@Out.rec  (fun _ => (Call) → (Env) → (H) → (Tr) → Out) (fun e' _ c e h tr => r c (s e (g e')) h ((e, h) :: tr)) (fun _ _ _ c e h tr => .bad "region") (fun _ _ c e h tr => .bad "region") (fun _ _ _ c e h tr => .bad "region") (fun w c e h tr => .bad w) (m c e H.empty (fun e h => .nrm e h)) c e h tr)⟩
def drStep (cls : Nat) (s : S) (g : G) (m : OpM) (pan : V → H → DM) (r : DM) : Fn1 DM :=
 match cls with
 | 3 => drAct s g m pan r
 | 1 => drNew s g m r
 | 2 => drRead s g m r
 | _ => drPure s g m r
def drOne (X : Cx) (ops : Array Oper) (alive : Nat → Bool) (pan : Nat → V → H → DM) (o : Oper) (i : Nat) (ih : Fn1 DM) : Fn1 DM :=
 (@Fn1.rec DM (fun _ => Fn1 DM) (fun r => (@Bool.rec  (fun _ => Fn1 DM) (drSkip r) (dst X o.dst (fun s => (@Fn1.rec G (fun _ => Fn1 DM) (fun g => (@Fn1.rec OpM (fun _ => Fn1 DM) (fun m => drStep (opClass X.P o.op) s g m (pan i) r) (compOper X ops o))) (dstG o))) (badDM "slot")) (alive i))) (ih))
def compDr (X : Cx) (ops : Array Oper) (alive : Nat → Bool) (pan : Nat → V → H → DM) (fin : DM) (l : List (Oper × Nat)) : Fn1 DM :=
 @List.rec (Oper × Nat) (fun _ => Fn1 DM) ⟨fin⟩ (fun x _ ih => drOne X ops alive pan x.1 x.2 ih) l
def forget (l : List Oper) (e : Env) : Env :=
 match l with
 | [] => e
 | o :: l => match o.dst with
  | some t => forget l (put e t .nil)
  | none => forget l e
def aliveAt (bs : Array Nat) (b i : Nat) : Bool := Nat.blt i b || (!(Nat.beq i b) && !((bs.getD i 0).testBit b))
def panTail (X : Cx) (ops : Array Oper) (b : Nat) (v : V) (h' : H) : DM := fun c e h tr =>
 (compDr X ops (aliveAt (Region.before ops) b) (fun _ _ _ _ _ _ _ => .bad "region: a second panic")
  (fun c e2 h2 tr => (compChks X ops ops.size (pairsOf X.P ops (Region.before ops) (aliveAt (Region.before ops) b) (fun i => Nat.ble i b))).f c ((e2, h2) :: tr) (.pan v (forget ops.toList e2) h'))
  (ops.toList.zipIdx.drop (b + 1))).f c e h ((e, h) :: tr)
def tabFind (tab : List (Nat × List (Bool × Nat × Nat))) (id : Nat) : List (Bool × Nat × Nat) :=
 @List.rec (Nat × List (Bool × Nat × Nat)) (fun _ => List (Bool × Nat × Nat)) [] (fun x _ ih => (@Bool.rec  (fun _ => List (Bool × Nat × Nat)) (ih) (x.2) (Nat.beq x.1 id))) tab
def prsOf (ops : Array Oper) (l : List (Bool × Nat × Nat)) : List Pr := l.filterMap fun k => (ops[k.2.1]?).map fun o => ⟨k.1, k.2.1, k.2.2, o⟩
def compDrawn (X : Cx) (ops : Array Oper) (l : List (Bool × Nat × Nat)) (nx : M) : Fn1 M :=
 (@Fn1.rec CM (fun _ => Fn1 M) (fun ck => (@Fn1.rec DM (fun _ => Fn1 M) (fun r => ⟨fun c e h => r c e h []⟩) (compDr X ops (fun _ => true) (panTail X ops) (fun c e h tr => ck c ((e, h) :: tr) (nx c e h)) ops.toList.zipIdx))) (compChks X ops ops.size (prsOf ops l)))
def isBadR (l : List (Bool × Nat × Nat)) : Bool := (@List.rec (Bool × Nat × Nat) (fun _ => Bool) (false) (fun k r _ => Nat.beq k.2.1 1000000) (l))
def compRegion (X : Cx) (id : Nat) (ops : Array Oper) (draw : Bool) (nx : M) : Fn1 M :=
 match draw with
 | false => compOpers X ops ops.toList nx
 | true => match isBadR (tabFind X.tab id) with
  | true => badM "region"
  | false => compDrawn X ops (tabFind X.tab id) nx
def eqKeys : List (Bool × Nat × Nat) → List Pr → Bool
 | [], [] => true
 | k :: l, p :: m => (match k.1 with | true => p.rd | false => not p.rd) && Nat.beq k.2.1 p.i && Nat.beq k.2.2 p.hb && eqKeys l m
 | _, _ => false
def okRegion (P : Program) (tab : List (Nat × List (Bool × Nat × Nat))) (id : Nat) (ops : Array Oper) : Bool :=
 isBadR (tabFind tab id) || backOK ops && actOK P ops (Region.before ops) && depOK ops (Region.before ops) && dstOK ops && eqKeys (tabFind tab id) (pairsOf P ops (Region.before ops) (fun _ => true) (fun _ => true))
def okCode (P : Program) (tab : List (Nat × List (Bool × Nat × Nat))) : Code → Bool
 | .region id ops d => match d with | true => okRegion P tab id ops | false => true
 | .seq a b => okCode P tab a && okCode P tab b
 | .cond _ a b => okCode P tab a && okCode P tab b
 | .block _ a => okCode P tab a
 | .loop a => okCode P tab a
 | .rangeFunc _ _ a b => okCode P tab a && okCode P tab b
 | _ => true
def loopN (m : M) (c : Call) (n : Nat) : Env → H → Out :=
 @Nat.rec (fun _ => Env → H → Out) (fun _ _ => .bad "loop: fuel") (fun _ ih => fun e h => (@Out.rec  (fun _ => Out) (fun e h => ih e h) (fun i e h => .ext i e h) (fun e h => .ret e h) (fun v e h => .pan v e h) (fun w => .bad w) (m c e h))) n
def backRounds (m : M) (sp : Env → V → V → Env) (c : Call) (i : Id) (o : Nat) (e : Env) (k : K) : Nat → H → Out
 | 0, h => k e h
 | n + 1, h => loadOne h i o fun x => match x with
  | .sl j eo sz len _ => match Nat.beq sz 1, Nat.ble (n + 1) len with
   | true, true => loadOne h j (eo + n) fun v => match m c (sp e (.int .i64 n) v) h with
     | .nrm _ h => backRounds m sp c i o e k n h
     | .bad w => .bad w
     | _ => .bad "rangeFunc: a round that leaves"
   | _, _ => .bad "rangeFunc"
  | _ => .bad "rangeFunc"
def backStart (x : V) (k : Nat → Out) : Out :=
 match x with
 | .nils => k 0
 | .sl _ _ _ len _ => k len
 | _ => .bad "rangeFunc"
def calmOps (ops : Array Oper) : Bool := ops.toList.all fun o => match o.op with | .defer _ => false | _ => true
def calm : Code → Bool
 | .skip | .exit _ | .ret => true
 | .region _ ops _ => calmOps ops
 | .seq a b => calm a && calm b
 | .cond _ a b => calm a && calm b
 | .block _ a => calm a
 | .loop a => calm a
 | _ => false
def markE (e : Env) (d : Id) : Env := setTop (.cons (.ptr d 0) (topE e)) e
def clearE (e : Env) : Env := setTop .undef e
def compSeq (ca cb : M → Fn1 M) (nx : M) : Fn1 M := ca (cb nx).f
def compCond (X : Cx) (x : Operand) (ca cb : M → Fn1 M) (nx : M) : Fn1 M :=
 opd X x (fun g => ⟨fun c e h => (@V.rec  (fun _ => (Call) → (Env) → (H) → Out) (fun c e h => .bad "cond") (fun t c e h => (@Bool.rec  (fun _ => (Call) → (Env) → (H) → Out) (fun c e h => (cb nx).f c e h) (fun c e h => (ca nx).f c e h) (t) c e h)) (fun _ _ c e h => .bad "cond") (fun _ _ c e h => .bad "cond") (fun _ _ c e h => .bad "cond") (fun c e h => .bad "cond") (fun _ _ _ _ _ c e h => .bad "cond") (fun c e h => .bad "cond") (fun _ c e h => .bad "cond") (fun c e h => .bad "cond") (fun _ _ _ _ _ c e h => .bad "cond") (fun c e h => .bad "cond") (fun _ _ _ c e h => .bad "cond") (fun c e h => .bad "cond") (fun _ _ c e h => .bad "cond") (fun _ _ c e h => .bad "cond") (fun c e h => .bad "cond") (fun _ _ _ _ c e h => .bad "cond") (g e) c e h)⟩) (badM "cond")
def nrmM : M := fun _ e h => .nrm e h
def compBlock (id : Nat) (ca : M → Fn1 M) (nx : M) : Fn1 M :=
 (@Fn1.rec M (fun _ => Fn1 M) (fun a => ⟨fun c e h => (@Out.rec  (fun _ => (Call) → Out) (fun e h c => nx c e h) (fun j e h c => (@Bool.rec  (fun _ => (Nat) → (Call) → (Env) → (H) → Out) (fun j c e h => .ext j e h) (fun j c e h => nx c e h) (Nat.beq j id) j c e h)) (fun e h c => .ret e h) (fun v e h c => .pan v e h) (fun w c => .bad w) (a c e h) c)⟩) (ca nrmM))
def compLoop (ca : M → Fn1 M) : Fn1 M := (@Fn1.rec M (fun _ => Fn1 M) (fun m => ⟨fun c e h => loopN m c 100000 e h⟩) (ca nrmM))
def compRange (X : Cx) (x : Operand) (params : Array Tmp) (a b : Code) (ca cb : M → Fn1 M) (nx : M) : Fn1 M :=
 match params.toList with
  | [p, q] => opd X x (fun g => dst X (some p) (fun sp => dst X (some q) (fun sq =>
    (@Fn1.rec M (fun _ => Fn1 M) (fun b' => (@Fn1.rec M (fun _ => Fn1 M) (fun m => match calm a && calm b with
    | false => badM "rangeFunc: calm"
    | true => ⟨fun c e h => match g e with
     | .fn f .nil (.cons (.ptr i o) .nil) => match X.bw.contains f with
      | true => H.new h (.mapIter none 0 [] 0) fun d h => loadOne h i o fun x => backStart x fun n => backRounds m (fun e v w => sq (sp e v) w) c i o (clearE e) (fun _ h => nx c (markE e d) h) n h
      | false => .bad "rangeFunc: what iterator"
     | _ => .bad "rangeFunc"⟩) (ca b'))) (cb nrmM))) (badM "rangeFunc")) (badM "rangeFunc")) (badM "rangeFunc")
  | _ => badM "rangeFunc"
def extM (id : Nat) : Fn1 M := ⟨fun _ e h => .ext id e h⟩
def retM : Fn1 M := ⟨fun _ e h => .ret e h⟩
def comp (X : Cx) (c : Code) : M → Fn1 M :=
 @Code.rec (fun _ => Cx → M → Fn1 M) (fun X nx => ⟨nx⟩) (fun id ops draw X nx => compRegion X id ops draw nx) (fun _ _ ca cb X nx => compSeq (ca X) (cb X) nx) (fun x _ _ ca cb X nx => compCond X x (ca X) (cb X) nx)
  (fun id _ ca X nx => compBlock id (ca X) nx) (fun _ ca X _ => compLoop (ca X)) (fun x params a b ca cb X nx => compRange X x params a b (ca X) (cb X) nx) (fun id _ _ => extM id) (fun _ _ _ _ => badM "code") (fun _ _ _ => badM "code") (fun _ _ _ => badM "code") (fun _ _ => retM) (fun _ _ _ => badM "code") c X
def fillArgs : V → Nat → Env → Env
 | .cons v l, n, e => fillArgs l (n + 1) (Env.set0 (D.num n) v e)
 | _, _, e => e
def fillArgsF (l : V) (n : Nat) (e : Env) : Env := @V.rec (fun _ => Nat → Env → Env) (fun _ e => e) (fun _ => (fun _ e => e)) (fun _ _ => (fun _ e => e)) (fun _ _ => (fun _ e => e)) (fun _ _ => (fun _ e => e)) (fun _ e => e) (fun _ _ _ _ _ => (fun _ e => e)) (fun _ e => e) (fun _ => (fun _ e => e)) (fun _ e => e) (fun _ _ _ _ _ => (fun _ e => e)) (fun _ e => e) (fun _ _ _ => (fun _ e => e)) (fun _ e => e) (fun _ _ => (fun _ e => e)) (fun _ _ => (fun _ e => e)) (fun _ e => e) (fun h _ _ ih n e => ih (Nat.succ n) (Env.set0 (D.num n) h e)) l n e
def argsFit (args : V) (nt : Nat) : Bool := match Nat.ble (V.len args) 32 with | true => Nat.ble (V.len args) nt | false => false
def env0 (args : V) : Env := fillArgs args 0 e2e
def env0g (args : V) : Env := fillArgsF args 0 e2e
def env0_4 (v0 : V) (v1 : V) (v2 : V) (v3 : V) (l all : V) : Env := @V.rec (fun _ => V → V → V → V → V → Env) (fun v0 v1 v2 v3 all => env0g all) (fun _ v0 v1 v2 v3 all => env0g all) (fun _ _ v0 v1 v2 v3 all => env0g all) (fun _ _ v0 v1 v2 v3 all => env0g all) (fun _ _ v0 v1 v2 v3 all => env0g all) (fun v0 v1 v2 v3 all => env0g all) (fun _ _ _ _ _ v0 v1 v2 v3 all => env0g all) (fun v0 v1 v2 v3 all => env0g all) (fun _ v0 v1 v2 v3 all => env0g all) (fun v0 v1 v2 v3 all => env0g all) (fun _ _ _ _ _ v0 v1 v2 v3 all => env0g all) (fun v0 v1 v2 v3 all => env0g all) (fun _ _ _ v0 v1 v2 v3 all => env0g all) (fun v0 v1 v2 v3 all => env0g all) (fun _ _ v0 v1 v2 v3 all => env0g all) (fun _ _ v0 v1 v2 v3 all => env0g all) (fun v0 v1 v2 v3 all => ⟨v0, v1, v2, v3, .undef, .undef, .undef, .undef, .undef, .undef, .undef, .undef, .undef, .undef, .undef, .undef, .undef, .undef, .undef, .undef, .undef, .undef, .undef, .undef, .undef, .undef, .undef, .undef, .undef, .undef, .undef, .undef, .undef, .undef, .undef, .undef, .undef, .undef, .undef, .undef, .undef, .undef, .undef, .undef, .undef, .undef, .undef, .undef, .undef, .undef, .undef, .undef, .undef, .undef, .undef, .undef, .undef, .undef, .undef, .undef, .undef, .undef, .undef, .undef, Nd.fill c1e⟩) (fun h t _ _ v0 v1 v2 v3 all => env0g all) (l) v0 v1 v2 v3 all
def env0_3 (v0 : V) (v1 : V) (v2 : V) (l all : V) : Env := @V.rec (fun _ => V → V → V → V → Env) (fun v0 v1 v2 all => env0g all) (fun _ v0 v1 v2 all => env0g all) (fun _ _ v0 v1 v2 all => env0g all) (fun _ _ v0 v1 v2 all => env0g all) (fun _ _ v0 v1 v2 all => env0g all) (fun v0 v1 v2 all => env0g all) (fun _ _ _ _ _ v0 v1 v2 all => env0g all) (fun v0 v1 v2 all => env0g all) (fun _ v0 v1 v2 all => env0g all) (fun v0 v1 v2 all => env0g all) (fun _ _ _ _ _ v0 v1 v2 all => env0g all) (fun v0 v1 v2 all => env0g all) (fun _ _ _ v0 v1 v2 all => env0g all) (fun v0 v1 v2 all => env0g all) (fun _ _ v0 v1 v2 all => env0g all) (fun _ _ v0 v1 v2 all => env0g all) (fun v0 v1 v2 all => ⟨v0, v1, v2, .undef, .undef, .undef, .undef, .undef, .undef, .undef, .undef, .undef, .undef, .undef, .undef, .undef, .undef, .undef, .undef, .undef, .undef, .undef, .undef, .undef, .undef, .undef, .undef, .undef, .undef, .undef, .undef, .undef, .undef, .undef, .undef, .undef, .undef, .undef, .undef, .undef, .undef, .undef, .undef, .undef, .undef, .undef, .undef, .undef, .undef, .undef, .undef, .undef, .undef, .undef, .undef, .undef, .undef, .undef, .undef, .undef, .undef, .undef, .undef, .undef, Nd.fill c1e⟩) (fun h t _ _ v0 v1 v2 all => env0_4 v0 v1 v2 h t all) (l) v0 v1 v2 all
def env0_2 (v0 : V) (v1 : V) (l all : V) : Env := @V.rec (fun _ => V → V → V → Env) (fun v0 v1 all => env0g all) (fun _ v0 v1 all => env0g all) (fun _ _ v0 v1 all => env0g all) (fun _ _ v0 v1 all => env0g all) (fun _ _ v0 v1 all => env0g all) (fun v0 v1 all => env0g all) (fun _ _ _ _ _ v0 v1 all => env0g all) (fun v0 v1 all => env0g all) (fun _ v0 v1 all => env0g all) (fun v0 v1 all => env0g all) (fun _ _ _ _ _ v0 v1 all => env0g all) (fun v0 v1 all => env0g all) (fun _ _ _ v0 v1 all => env0g all) (fun v0 v1 all => env0g all) (fun _ _ v0 v1 all => env0g all) (fun _ _ v0 v1 all => env0g all) (fun v0 v1 all => ⟨v0, v1, .undef, .undef, .undef, .undef, .undef, .undef, .undef, .undef, .undef, .undef, .undef, .undef, .undef, .undef, .undef, .undef, .undef, .undef, .undef, .undef, .undef, .undef, .undef, .undef, .undef, .undef, .undef, .undef, .undef, .undef, .undef, .undef, .undef, .undef, .undef, .undef, .undef, .undef, .undef, .undef, .undef, .undef, .undef, .undef, .undef, .undef, .undef, .undef, .undef, .undef, .undef, .undef, .undef, .undef, .undef, .undef, .undef, .undef, .undef, .undef, .undef, .undef, Nd.fill c1e⟩) (fun h t _ _ v0 v1 all => env0_3 v0 v1 h t all) (l) v0 v1 all
def env0_1 (v0 : V) (l all : V) : Env := @V.rec (fun _ => V → V → Env) (fun v0 all => env0g all) (fun _ v0 all => env0g all) (fun _ _ v0 all => env0g all) (fun _ _ v0 all => env0g all) (fun _ _ v0 all => env0g all) (fun v0 all => env0g all) (fun _ _ _ _ _ v0 all => env0g all) (fun v0 all => env0g all) (fun _ v0 all => env0g all) (fun v0 all => env0g all) (fun _ _ _ _ _ v0 all => env0g all) (fun v0 all => env0g all) (fun _ _ _ v0 all => env0g all) (fun v0 all => env0g all) (fun _ _ v0 all => env0g all) (fun _ _ v0 all => env0g all) (fun v0 all => ⟨v0, .undef, .undef, .undef, .undef, .undef, .undef, .undef, .undef, .undef, .undef, .undef, .undef, .undef, .undef, .undef, .undef, .undef, .undef, .undef, .undef, .undef, .undef, .undef, .undef, .undef, .undef, .undef, .undef, .undef, .undef, .undef, .undef, .undef, .undef, .undef, .undef, .undef, .undef, .undef, .undef, .undef, .undef, .undef, .undef, .undef, .undef, .undef, .undef, .undef, .undef, .undef, .undef, .undef, .undef, .undef, .undef, .undef, .undef, .undef, .undef, .undef, .undef, .undef, Nd.fill c1e⟩) (fun h t _ _ v0 all => env0_2 v0 h t all) (l) v0 all
def env0_0 (l all : V) : Env := @V.rec (fun _ => V → Env) (fun all => env0g all) (fun _ all => env0g all) (fun _ _ all => env0g all) (fun _ _ all => env0g all) (fun _ _ all => env0g all) (fun all => env0g all) (fun _ _ _ _ _ all => env0g all) (fun all => env0g all) (fun _ all => env0g all) (fun all => env0g all) (fun _ _ _ _ _ all => env0g all) (fun all => env0g all) (fun _ _ _ all => env0g all) (fun all => env0g all) (fun _ _ all => env0g all) (fun _ _ all => env0g all) (fun all => ⟨.undef, .undef, .undef, .undef, .undef, .undef, .undef, .undef, .undef, .undef, .undef, .undef, .undef, .undef, .undef, .undef, .undef, .undef, .undef, .undef, .undef, .undef, .undef, .undef, .undef, .undef, .undef, .undef, .undef, .undef, .undef, .undef, .undef, .undef, .undef, .undef, .undef, .undef, .undef, .undef, .undef, .undef, .undef, .undef, .undef, .undef, .undef, .undef, .undef, .undef, .undef, .undef, .undef, .undef, .undef, .undef, .undef, .undef, .undef, .undef, .undef, .undef, .undef, .undef, Nd.fill c1e⟩) (fun h t _ _ all => env0_1 h t all) (l) all
def env0F (args : V) : Env := env0_0 args args
def resultOf (X : Cx) (r : ResultVar) (k : (Env → H → (V → Out) → Out) → Fn1 M) (d : Fn1 M) : Fn1 M :=
 match r with
 | .tmp t => opd X (.tmp t) (fun g => k (fun e _ k => k (g e))) d
 | .cell a t => opd X (.tmp a) (fun g => match scalarT X.P t with
   | some true => k (fun e h k => (@V.rec  (fun _ => Out) (.bad "result") (fun _ => .bad "result") (fun _ _ => .bad "result") (fun _ _ => .bad "result") (fun i o => loadOne h i o k) (.bad "result") (fun _ _ _ _ _ => .bad "result") (.bad "result") (fun _ => .bad "result") (.bad "result") (fun _ _ _ _ _ => .bad "result") (.bad "result") (fun _ _ _ => .bad "result") (.bad "result") (fun _ _ => .bad "result") (fun _ _ => .bad "result") (.bad "result") (fun _ _ _ _ => .bad "result") (g e)))
   | some false => let n := X.P.cellsOf t; k (fun e h k => (@V.rec  (fun _ => Out) (.bad "result") (fun _ => .bad "result") (fun _ _ => .bad "result") (fun _ _ => .bad "result") (fun i o => loadAgg n h i o k) (.bad "result") (fun _ _ _ _ _ => .bad "result") (.bad "result") (fun _ => .bad "result") (.bad "result") (fun _ _ _ _ _ => .bad "result") (.bad "result") (fun _ _ _ => .bad "result") (.bad "result") (fun _ _ => .bad "result") (fun _ _ => .bad "result") (.bad "result") (fun _ _ _ _ => .bad "result") (g e)))
   | none => d) d
def resultsL (X : Cx) : List ResultVar → ((Env → H → (V → Out) → Out) → Fn1 M) → Fn1 M → Fn1 M
 | [], k, _ => k (fun _ _ k => k .nil)
 | r :: l, k, d => resultOf X r (fun f => resultsL X l (fun g => k (fun e h k => f e h fun v => g e h fun vs => k (.cons v vs))) d) d
def retV (v : V) (h : H) : Out := .pan v e2e h
def resultsM (X : Cx) (l : List ResultVar) : Fn1 M :=
 match l with
 | [r] => resultOf X r (fun f => ⟨fun _ e h => f e h fun v => retV v h⟩) (badM "results")
 | l => resultsL X l (fun f => ⟨fun _ e h => f e h fun v => retV (.tup v) h⟩) (badM "results")
abbrev PSt := Option (V × Bool)
abbrev MS := Call → PSt → Env → H → Out × PSt
def compOperS (X : Cx) (ops : Array Oper) (o : Oper) : Fn1 MS :=
 match o.op with
 | .call { callee := .builtin .recover, .. } => dst X o.dst (fun s => match o.guard with
  | none => ⟨fun _ p e h => match p with
   | some (v, false) => (.nrm (s e v) h, some (v, true))
   | _ => (.nrm (s e .nili) h, p)⟩
  | _ => ⟨fun _ p _ _ => (.bad "recover", p)⟩) ⟨fun _ p _ _ => (.bad "recover", p)⟩
 | _ => (@Fn1.rec OpM (fun _ => Fn1 MS) (fun m => ⟨fun c p e h => (m c e h fun e h => .nrm e h, p)⟩) (compOper X ops o))
def seqS (a b : MS) : MS := fun c p e h => match a c p e h with | (.nrm e h, p) => b c p e h | r => r
def compOpersS (X : Cx) (ops : Array Oper) : List Oper → Fn1 MS
 | [] => ⟨fun _ p e h => (.nrm e h, p)⟩
 | o :: l => (@Fn1.rec MS (fun _ => Fn1 MS) (fun m => (@Fn1.rec MS (fun _ => Fn1 MS) (fun r => ⟨seqS m r⟩) (compOpersS X ops l))) (compOperS X ops o))
def compS (X : Cx) : Code → Fn1 MS
 | .region _ ops false => compOpersS X ops ops.toList
 | .seq a b => (@Fn1.rec MS (fun _ => Fn1 MS) (fun m => (@Fn1.rec MS (fun _ => Fn1 MS) (fun r => ⟨seqS m r⟩) (compS X b))) (compS X a))
 | .cond x a b => opd X x (fun g => (@Fn1.rec MS (fun _ => Fn1 MS) (fun a => (@Fn1.rec MS (fun _ => Fn1 MS) (fun b => ⟨fun c p e h => match g e with | .bool true => a c p e h | .bool false => b c p e h | _ => (.bad "cond", p)⟩) (compS X b))) (compS X a))) ⟨fun _ p _ _ => (.bad "cond", p)⟩
 | c => (@Fn1.rec M (fun _ => Fn1 MS) (fun m => ⟨fun cl p e h => (m cl e h, p)⟩) (comp X c (fun _ e h => .nrm e h)))
structure Cf where mk ::
 (P : Program) (gl : List Nat) (bw : List FuncId) (eqs : List TypeId) (ok : FuncId → Bool) (tab : FuncId → List (Nat × List (Bool × Nat × Nat)))
def Cf.cx (F : Cf) (nt : Nat) (f : FuncId) : Cx := ⟨F.P, nt, F.gl, F.bw, F.eqs, fun _ => true, F.tab f⟩
def settleP (p : PSt) : PSt := match p with | some (_, true) => none | p => p
def runDefers (F : Cf) (call : Call) (res : Env → H → OpR) (e : Env) : Nat → V → PSt → H → OpR
 | 0, _, _, _ => .bad "defers"
 | n + 1, ds, p, h => match ds with
  | .cons (.fn f a cap) (.cons args ds) =>
   match F.P.funcs[f]? with
   | some fn => match fn.body with
    | some c => if fn.name = "runtime.NumGoroutine" ∨ 32 < fn.ntmps ∨ fn.results.size ≠ 0 ∨ F.ok f = false then .bad "deferred" else
     match argsFit (V.app a (V.app args cap)) fn.ntmps with
     | false => .bad "deferred: arguments"
     | true => match (compS (F.cx fn.ntmps f) c).f call p (env0 (V.app a (V.app args cap))) h with
     | (.nrm e' h, p') | (.ret e' h, p') => match topE e' with
      | .undef => runDefers F call res e n ds (settleP p') h
      | _ => .bad "defer in a deferred function"
     | (.bad w, _) => .bad w
     | _ => .bad "deferred function"
    | none => .bad "deferred"
   | none => .bad "deferred"
  | .cons (.ptr i 0) ds => match H.blk h i with
   | .mapIter none 0 _ _ => runDefers F call res e n ds p (H.put h i (.mapIter none 1 [] 0))
   | _ => .bad "a mark"
  | .undef => match p with
   | none => res e h
   | some (v, _) => .pan v h
  | _ => .bad "deferred: no function"
abbrev FnM := Call → V → H → OpR
def fnC (F : Cf) (f : FuncId) : Fn1 FnM :=
 match F.P.funcs[f]? with
 | some fn => match fn.body with
  | some c => if fn.ntmps ≤ 992 ∧ ¬ fn.name = "runtime.NumGoroutine" ∧ F.ok f = true then
    (@Fn1.rec M (fun _ => Fn1 FnM) (fun res => (@Fn1.rec M (fun _ => Fn1 FnM) (fun m => let fin : Env → H → OpR := fun e h => (@Out.rec  (fun _ => OpR) (fun _ _ => .bad "results") (fun _ _ _ => .bad "results") (fun _ _ => .bad "results") (fun v _ h => .val v h) (fun w => .bad w) (res (fun _ _ _ => .bad "") e h))
     let nt := fn.ntmps
     ⟨fun call args h => (@Bool.rec  (fun _ => OpR) (.bad "arguments") ((@Out.rec  (fun _ => OpR) (fun e h => .bad "end") (fun _ _ _ => .bad "exit") (fun e h => (@V.rec  (fun _ => OpR) (fin e h) (fun _ => runDefers F call fin e 100 (topE e) none h) (fun _ _ => runDefers F call fin e 100 (topE e) none h) (fun _ _ => runDefers F call fin e 100 (topE e) none h) (fun _ _ => runDefers F call fin e 100 (topE e) none h) (runDefers F call fin e 100 (topE e) none h) (fun _ _ _ _ _ => runDefers F call fin e 100 (topE e) none h) (runDefers F call fin e 100 (topE e) none h) (fun _ => runDefers F call fin e 100 (topE e) none h) (runDefers F call fin e 100 (topE e) none h) (fun _ _ _ _ _ => runDefers F call fin e 100 (topE e) none h) (runDefers F call fin e 100 (topE e) none h) (fun _ _ _ => runDefers F call fin e 100 (topE e) none h) (runDefers F call fin e 100 (topE e) none h) (fun _ _ => runDefers F call fin e 100 (topE e) none h) (fun _ _ => runDefers F call fin e 100 (topE e) none h) (runDefers F call fin e 100 (topE e) none h) (fun _ _ _ _ => runDefers F call fin e 100 (topE e) none h) (topE e))) (fun v e h => (@V.rec  (fun _ => OpR) (.pan v h) (fun _ => runDefers F call fin e 100 (topE e) (some (v, false)) h) (fun _ _ => runDefers F call fin e 100 (topE e) (some (v, false)) h) (fun _ _ => runDefers F call fin e 100 (topE e) (some (v, false)) h) (fun _ _ => runDefers F call fin e 100 (topE e) (some (v, false)) h) (runDefers F call fin e 100 (topE e) (some (v, false)) h) (fun _ _ _ _ _ => runDefers F call fin e 100 (topE e) (some (v, false)) h) (runDefers F call fin e 100 (topE e) (some (v, false)) h) (fun _ => runDefers F call fin e 100 (topE e) (some (v, false)) h) (runDefers F call fin e 100 (topE e) (some (v, false)) h) (fun _ _ _ _ _ => runDefers F call fin e 100 (topE e) (some (v, false)) h) (runDefers F call fin e 100 (topE e) (some (v, false)) h) (fun _ _ _ => runDefers F call fin e 100 (topE e) (some (v, false)) h) (runDefers F call fin e 100 (topE e) (some (v, false)) h) (fun _ _ => runDefers F call fin e 100 (topE e) (some (v, false)) h) (fun _ _ => runDefers F call fin e 100 (topE e) (some (v, false)) h) (runDefers F call fin e 100 (topE e) (some (v, false)) h) (fun _ _ _ _ => runDefers F call fin e 100 (topE e) (some (v, false)) h) (topE e))) (fun w => .bad (w ++ " < " ++ fn.name)) (m call (env0F args) h))) (argsFit args nt))⟩) (comp (F.cx fn.ntmps f) c (fun _ e h => .ret e h)))) (resultsM (F.cx fn.ntmps f) fn.results.toList))
   else ⟨fun _ _ _ => .bad ("too many slots: " ++ fn.name)⟩
  | none => ⟨fun _ _ _ => .bad ("no body: " ++ fn.name)⟩
 | none => ⟨fun _ _ _ => .bad "no such function"⟩
end
end Go.Ev
namespace Go.Ev
noncomputable section
theorem V.lenF_eq : V.lenF = V.len := by
 funext l
 induction l with
 | cons h t _ ih => exact congrArg Nat.succ ih
 | _ => rfl
theorem V.nthF_eq : V.nthF = V.nth := by
 funext l
 induction l with
 | cons h t _ ih =>
  funext n
  cases n with
  | zero => rfl
  | succ n => exact congrFun ih n
 | _ => funext n; cases n <;> rfl
theorem V.takeF_eq : V.takeF = V.take := by
 funext l
 induction l with
 | cons h t _ ih =>
  funext n
  cases n with
  | zero => rfl
  | succ n => exact congrArg (V.cons h) (congrFun ih n)
 | _ => funext n; cases n <;> rfl
theorem V.appF_eq : V.appF = V.app := by
 funext l
 induction l with
 | cons h t _ ih => funext m; exact congrArg (V.cons h) (congrFun ih m)
 | _ => rfl
theorem V.dropF_eq : V.dropF = V.drop := by
 funext l n
 induction n generalizing l with
 | zero => cases l <;> rfl
 | succ n ih =>
  show V.dropF (V.tlF l) n = _
  rw [ih]
  cases l <;> first | rfl | (cases n <;> rfl)
theorem Cells.listF_eq : Cells.listF = Cells.list := by
 funext c n
 induction n with
 | zero => rfl
 | succ n ih => funext o; exact congrArg (V.cons (c.get o)) (congrFun ih (o + 1))
theorem Cells.storeListF_eq : Cells.storeListF = Cells.storeList := by
 funext c l
 induction l generalizing c with
 | cons h t _ ih => funext o; exact congrFun (ih (c.set o h)) (o + 1)
 | _ => rfl
theorem Cells.pushF_eq : Cells.pushF = Cells.push := by
 funext c l
 induction l generalizing c with
 | cons h t _ ih =>
  funext n
  simp only [Cells.push]
  show @Option.rec Cells (fun _ => Option (Cells × Nat)) none (fun c => Cells.pushF c t (n + 1)) (c.add n h) = _
  cases c.add n h with
  | none => rfl
  | some c' => exact congrFun (ih c') (n + 1)
 | _ => rfl
theorem V.isScalarF_eq : V.isScalarF = V.isScalar := by funext v; cases v <;> rfl
theorem loadAggF_eq : loadAggF = loadAgg := by
 funext m h i o k
 unfold loadAggF loadAgg
 rw [Cells.listF_eq]
theorem storeAggF_eq : storeAggF = storeAgg := by
 funext m h i o l k
 unfold storeAggF storeAgg
 rw [V.lenF_eq, Cells.storeListF_eq]
 cases Nat.beq l.len m
 ·rfl
 ·exact congrArg (H.writable h i) (funext fun c => funext fun n => funext fun h => by cases Nat.ble (Nat.add o m) n <;> rfl)
theorem newCellsF_eq : newCellsF = newCells := by
 funext h l k
 unfold newCellsF newCells
 rw [Cells.pushF_eq]
 cases emptyCells.push l 0 <;> rfl
theorem storeVF_eq (n : Nat) (v : V) (h : H) (i : Id) (o : Nat) (k : H → Out) : storeVF n v h i o k = (match v with
  | .agg l => storeAgg n h i o l k
  | v => match v.isScalar with
   | true => match Nat.beq n 1 with | true => storeOne h i o v k | false => .bad "store: size"
   | false => .bad "store: no scalar") := by
 unfold storeVF
 rw [storeAggF_eq]
 cases v <;> first | rfl | (dsimp only [V.isScalar]; cases Nat.beq n 1 <;> rfl)
theorem boxVF_eq (v : V) (h : H) (k : Id → H → Out) : boxVF v h k = (match v with
   | .agg l => newCells h l k
   | v => match v.isScalar with | true => newCells h (.cons v .nil) k | false => .bad "box") := by
 unfold boxVF
 rw [newCellsF_eq]
 cases v <;> rfl
theorem runSrcF_eq : runSrcF = runSrc := by
 funext e s
 cases s with
 | a x k => 
  show (@V.rec (fun _ => Nat → V) _ _ _ _ _ _ _ _ _ _ _ _ _ _ _ _ _ _ (x e) k) = _
  rw [V.nthF_eq]
  simp only [runSrc]
  cases x e <;> rfl
 | _ => rfl
theorem runPlanF_eq : runPlanF = runPlan := by
 funext e l
 induction l with
 | nil => rfl
 | cons s l ih =>
  simp only [runPlan]
  rw [← ih, ← runSrcF_eq]; rfl
theorem checkPartF_eq : checkPartF = checkPart := by
 funext e x n
 cases n with
 | none => exact congrFun V.isScalarF_eq _
 | some n =>
  show (@V.rec (fun _ => Nat → Bool) _ _ _ _ _ _ _ _ _ _ _ _ _ _ _ _ _ _ (x e) n) = _
  rw [V.lenF_eq]
  simp only [checkPart]
  cases x e <;> rfl
theorem checkPartsF_eq : checkPartsF = checkParts := by
 funext e l
 induction l with
 | nil => rfl
 | cons p l ih =>
  obtain ⟨x, n⟩ := p
  simp only [checkParts]
  rw [← ih, ← checkPartF_eq]
  show (@Bool.rec (fun _ => Bool) false (checkPartsF e l) (checkPartF e x n)) = _
  cases checkPartF e x n <;> rfl
theorem fillArgsF_eq : fillArgsF = fillArgs := by
 funext l
 induction l with
 | cons h t _ ih => funext n e; exact congrFun (congrFun ih (n + 1)) _
 | _ => rfl
theorem env0g_eq (args : V) : env0g args = env0 args := by unfold env0g env0; rw [fillArgsF_eq]
theorem env0F_eq : env0F = env0 := by
 funext a
 rw [← env0g_eq]
 unfold env0F env0_0
 cases a with
 | cons h0 t0 =>
  show env0_1 h0 t0 _ = _
  unfold env0_1
  cases t0 with
  | cons h1 t1 =>
   show env0_2 h0 h1 t1 _ = _
   unfold env0_2
   cases t1 with
   | cons h2 t2 =>
    show env0_3 h0 h1 h2 t2 _ = _
    unfold env0_3
    cases t2 with
    | cons h3 t3 =>
     show env0_4 h0 h1 h2 h3 t3 _ = _
     unfold env0_4
     cases t3 <;> rfl
    | _ => rfl
   | _ => rfl
  | _ => rfl
 | _ => rfl
def compOpS (X : Cx) (o : Oper) (s : S) : Fn1 OpM :=
 match o.op with
 | .move x | .assign x => opd X x (fun g => ⟨fun _ e h k => k (s e (g e)) h⟩) (badOp "operand")
 | .pick c a b => opd X c (fun c => opd X a (fun a => opd X b (fun b => ⟨fun _ e h k => (@V.rec  (fun _ => (Env) → (H) → (K) → Out) (fun e h k => .bad "pick") (fun t e h k => (@Bool.rec  (fun _ => (Env) → (H) → (K) → Out) (fun e h k => k (s e (b e)) h) (fun e h k => k (s e (a e)) h) (t) e h k)) (fun _ _ e h k => .bad "pick") (fun _ _ e h k => .bad "pick") (fun _ _ e h k => .bad "pick") (fun e h k => .bad "pick") (fun _ _ _ _ _ e h k => .bad "pick") (fun e h k => .bad "pick") (fun _ e h k => .bad "pick") (fun e h k => .bad "pick") (fun _ _ _ _ _ e h k => .bad "pick") (fun e h k => .bad "pick") (fun _ _ _ e h k => .bad "pick") (fun e h k => .bad "pick") (fun _ _ e h k => .bad "pick") (fun _ _ e h k => .bad "pick") (fun e h k => .bad "pick") (fun _ _ _ _ e h k => .bad "pick") (c e) e h k)⟩) (badOp "operand")) (badOp "operand")) (badOp "operand")
 | .alloc t => match (zeroCellsV X.P t).bind blkOfList with
  | some (c, n) => ⟨fun _ e h k => H.new h (.live c n false []) fun i h => k (s e (.ptr i 0)) h⟩
  | none => badOp "alloc"
 | .box _ x => opd X x (fun g => ⟨fun _ e h k => match g e with
   | .agg l => newCells h l fun i h => k (s e (.ptr i 0)) h
   | v => match v.isScalar with | true => newCells h (.cons v .nil) fun i h => k (s e (.ptr i 0)) h | false => .bad "box"⟩) (badOp "box")
 | .build t parts => match zeroCellsV X.P t, (match fieldsOf X.P t with
   | some fs => if fs.all (fun f => (X.P.info? f.type).isSome) then some (fun i => (fs[i]?).map fun f => (f.offset, f.type)) else none
   | none => match X.P.underlying t with
    | some (.array _ el) => if (X.P.info? el).isSome = true then some fun i => some (i * X.P.cellsOf el, el) else none
    | _ => none : Option (Nat → Option (Nat × TypeId))) with
  | some z, some place => match (planFill X place parts.toList ⟨z.map .z, []⟩).f with
   | some pl => match pl.parts with
    | [] => let v := V.agg (V.ofList z); ⟨fun _ e h k => k (s e v) h⟩
    | ag => let c := pl.cells; ⟨fun _ e h k => match checkParts e ag with
     | true => k (s e (.agg (runPlan e c))) h
     | false => .bad "build: part"⟩
   | none => badOp "build"
  | _, _ => badOp "build"
 | .buildSlice t len parts => match elemOfSlice X.P t with
  | some el => match zeroCellsV X.P el with
   | some z => if z.length = 0 ∨ z.length ≠ X.P.cellsOf el ∨ 16000 < len * X.P.cellsOf el then badOp "buildSlice: size" else
    let sz := X.P.cellsOf el
    match (planFill X (fun i => some (i * sz, el)) parts.toList ⟨(repeatL len z).map .z, []⟩).f with
    | some pl => match pl.parts with
     | [] => match blkOfList (repeatL len z) with
      | some (c, n) => ⟨fun _ e h k => H.new h (.live c n false []) fun i h => k (s e (.sl i 0 sz len (.exact len))) h⟩
      | none => badOp "buildSlice"
     | ag => let c := pl.cells; ⟨fun _ e h k => match checkParts e ag with
      | true => newCells h (runPlan e c) fun i h => k (s e (.sl i 0 sz len (.exact len))) h
      | false => .bad "buildSlice: part"⟩
    | none => badOp "buildSlice"
   | none => badOp "buildSlice"
  | none => badOp "buildSlice"
 | .load t a => match scalarT X.P t with
  | some true => opd X a (fun g => ⟨fun _ e h k => (@V.rec  (fun _ => (Env) → (H) → (K) → Out) (fun e h k => .bad "load: no pointer") (fun _ e h k => .bad "load: no pointer") (fun _ _ e h k => .bad "load: no pointer") (fun _ _ e h k => .bad "load: no pointer") (fun i o e h k => loadOne h i o fun v => k (s e v) h) (fun e h k => .bad "load: no pointer") (fun _ _ _ _ _ e h k => .bad "load: no pointer") (fun e h k => .bad "load: no pointer") (fun _ e h k => .bad "load: no pointer") (fun e h k => .bad "load: no pointer") (fun _ _ _ _ _ e h k => .bad "load: no pointer") (fun e h k => .bad "load: no pointer") (fun _ _ _ e h k => .bad "load: no pointer") (fun e h k => .bad "load: no pointer") (fun _ _ e h k => .bad "load: no pointer") (fun _ _ e h k => .bad "load: no pointer") (fun e h k => .bad "load: no pointer") (fun _ _ _ _ e h k => .bad "load: no pointer") (g e) e h k)⟩) (badOp "load")
  | some false => opd X a (fun g => let n := X.P.cellsOf t; ⟨fun _ e h k => (@V.rec  (fun _ => (Env) → (H) → (K) → Out) (fun e h k => .bad "load: no pointer") (fun _ e h k => .bad "load: no pointer") (fun _ _ e h k => .bad "load: no pointer") (fun _ _ e h k => .bad "load: no pointer") (fun i o e h k => loadAgg n h i o fun v => k (s e v) h) (fun e h k => .bad "load: no pointer") (fun _ _ _ _ _ e h k => .bad "load: no pointer") (fun e h k => .bad "load: no pointer") (fun _ e h k => .bad "load: no pointer") (fun e h k => .bad "load: no pointer") (fun _ _ _ _ _ e h k => .bad "load: no pointer") (fun e h k => .bad "load: no pointer") (fun _ _ _ e h k => .bad "load: no pointer") (fun e h k => .bad "load: no pointer") (fun _ _ e h k => .bad "load: no pointer") (fun _ _ e h k => .bad "load: no pointer") (fun e h k => .bad "load: no pointer") (fun _ _ _ _ e h k => .bad "load: no pointer") (g e) e h k)⟩) (badOp "load")
  | none => badOp "load"
 | .store t a x => if X.P.cellsOf t = 0 then badOp "store" else opd X a (fun g => opd X x (fun gx => let n := X.P.cellsOf t
   ⟨fun _ e h k => (@V.rec  (fun _ => (Env) → (H) → (K) → Out) (fun e h k => .bad "store: no pointer") (fun _ e h k => .bad "store: no pointer") (fun _ _ e h k => .bad "store: no pointer") (fun _ _ e h k => .bad "store: no pointer") (fun i o e h k => match gx e with
     | .agg l => storeAgg n h i o l fun h => k (s e .undef) h
     | v => match v.isScalar with
      | true => match Nat.beq n 1 with | true => storeOne h i o v fun h => k (s e .undef) h | false => .bad "store: size"
      | false => .bad "store: no scalar") (fun e h k => .bad "store: no pointer") (fun _ _ _ _ _ e h k => .bad "store: no pointer") (fun e h k => .bad "store: no pointer") (fun _ e h k => .bad "store: no pointer") (fun e h k => .bad "store: no pointer") (fun _ _ _ _ _ e h k => .bad "store: no pointer") (fun e h k => .bad "store: no pointer") (fun _ _ _ e h k => .bad "store: no pointer") (fun e h k => .bad "store: no pointer") (fun _ _ e h k => .bad "store: no pointer") (fun _ _ e h k => .bad "store: no pointer") (fun e h k => .bad "store: no pointer") (fun _ _ _ _ e h k => .bad "store: no pointer") (g e) e h k)⟩) (badOp "store")) (badOp "store")
 | .nilCheck x => opd X x (fun g => ⟨fun _ e h k => (@V.rec  (fun _ => (Env) → (H) → (K) → Out) (fun e h k => .bad "nilCheck") (fun _ e h k => .bad "nilCheck") (fun _ _ e h k => .bad "nilCheck") (fun _ _ e h k => .bad "nilCheck") (fun i o e h k => k (s e (.ptr i o)) h) (fun e h k => .bad "nilCheck") (fun _ _ _ _ _ e h k => .bad "nilCheck") (fun e h k => .bad "nilCheck") (fun _ e h k => .bad "nilCheck") (fun e h k => .bad "nilCheck") (fun f a c _ _ e h k => k (s e (.fn f a c)) h) (fun e h k => .bad "nilCheck") (fun _ _ _ e h k => .bad "nilCheck") (fun e h k => .bad "nilCheck") (fun _ _ e h k => .bad "nilCheck") (fun _ _ e h k => .bad "nilCheck") (fun e h k => .bad "nilCheck") (fun _ _ _ _ e h k => .bad "nilCheck") (g e) e h k)⟩) (badOp "nilCheck")
 | .binOp op t x y _ => opd X x (fun gx => opd X y (fun gy => binOpM op (ekAt X t (isConst x || isConst y)) gx gy s) (badOp "binOp")) (badOp "binOp")
 | .unOp op _ x => opd X x (fun g => match op with
   | .not => ⟨fun _ e h k => (@V.rec  (fun _ => (Env) → (H) → (K) → Out) (fun e h k => .bad "not") (fun b e h k => k (s e (.bool (not b))) h) (fun _ _ e h k => .bad "not") (fun _ _ e h k => .bad "not") (fun _ _ e h k => .bad "not") (fun e h k => .bad "not") (fun _ _ _ _ _ e h k => .bad "not") (fun e h k => .bad "not") (fun _ e h k => .bad "not") (fun e h k => .bad "not") (fun _ _ _ _ _ e h k => .bad "not") (fun e h k => .bad "not") (fun _ _ _ e h k => .bad "not") (fun e h k => .bad "not") (fun _ _ e h k => .bad "not") (fun _ _ e h k => .bad "not") (fun e h k => .bad "not") (fun _ _ _ _ e h k => .bad "not") (g e) e h k)⟩
   | .neg => ⟨fun _ e h k => (@V.rec  (fun _ => (Env) → (H) → (K) → Out) (fun e h k => .bad "neg") (fun _ e h k => .bad "neg") (fun kd n e h k => k (s e (.int kd (negate kd n))) h) (fun _ _ e h k => .bad "neg") (fun _ _ e h k => .bad "neg") (fun e h k => .bad "neg") (fun _ _ _ _ _ e h k => .bad "neg") (fun e h k => .bad "neg") (fun _ e h k => .bad "neg") (fun e h k => .bad "neg") (fun _ _ _ _ _ e h k => .bad "neg") (fun e h k => .bad "neg") (fun _ _ _ e h k => .bad "neg") (fun e h k => .bad "neg") (fun _ _ e h k => .bad "neg") (fun _ _ e h k => .bad "neg") (fun e h k => .bad "neg") (fun _ _ _ _ e h k => .bad "neg") (g e) e h k)⟩
   | _ => badOp "unOp") (badOp "unOp")
 | .convert st dt x => match X.P.underlying st, X.P.underlying dt with
  | some (.int _), some (.int kd) => opd X x (fun g => ⟨fun _ e h k => match g e with
   | .int k' n => match isNeg k' n with
    | false => k (s e (.int kd (Nat.mod n (kmod kd)))) h
    | true => .bad "convert a negative number"
   | _ => .bad "convert"⟩) (badOp "convert")
  | _, _ => badOp "convert"
 | .makeInterface t x => match isIface X.P t with
  | false => opd X x (fun g => ⟨fun _ e h k => k (s e (.ifc t (g e))) h⟩) (badOp "makeInterface")
  | true => badOp "makeInterface"
 | .makeFunc (.func f) first captured => opds X first.toList (fun gf => opds X captured.toList (fun gl => ⟨fun _ e h k => k (s e (.fn f (gf e) (gl e))) h⟩) (badOp "makeFunc")) (badOp "makeFunc")
 | .makeMap _ r => match r with
  | none => ⟨fun _ e h k => H.new h (.map [] 0) fun i h => k (s e (.map i)) h⟩
  | some _ => badOp "makeMap with a hint"
 | .makeSlice t l c => match elemOfSlice X.P t with
  | some el => match zeroCellsV X.P el with
   | some z => if z.length = 0 ∨ z.length ≠ X.P.cellsOf el ∨ 100000000 < bytesOf X.P el then badOp "makeSlice" else opd X l (fun gl => opd X c (fun gc => let sz := X.P.cellsOf el
    ⟨fun _ e h k => match gl e, gc e with
     | .int .i64 n, .int .i64 m => match Nat.ble n m with
      | true => match Nat.ble m 4000 with
       | true => newCells h (V.ofList (repeatL m z)) fun i h => k (s e (.sl i 0 sz n (.exact m))) h
       | false => .bad "makeSlice: great"
      | false => .bad "makeSlice: len"
     | _, _ => .bad "makeSlice"⟩) (badOp "makeSlice")) (badOp "makeSlice")
   | none => badOp "makeSlice"
  | none => badOp "makeSlice"
 | .slice t x lo hi mx => if mx.isSome = true ∧ hi.isNone = true then badOp "slice" else match X.P.underlying t with
  | some .string => if mx.isSome = true then badOp "slice" else opd X x (fun g => opdO X lo (fun lo => opdO X hi (fun hi =>
    ⟨fun _ e h k => strSliceV (g e) (lo e) (hi e) fun v => k (s e v) h⟩) (badOp "slice")) (badOp "slice")) (badOp "slice")
  | some (.slice el) => if X.P.cellsOf el = 0 then badOp "slice" else let z := X.P.cellsOf el
   opd X x (fun g => opdO X lo (fun lo => opdO X hi (fun hi => opdO X mx (fun mx =>
    ⟨fun _ e h k => sliceV z (g e) (lo e) (hi e) (mx e) fun v => k (s e v) h⟩) (badOp "slice")) (badOp "slice")) (badOp "slice")) (badOp "slice")
  | _ => badOp "slice"
 | .fieldAddr st x j => match fieldsOf X.P st with
  | some fs => match fs[j]? with
   | some f => if X.P.cellsOf f.type = 0 then badOp "fieldAddr" else opd X x (fun g => let off := f.offset
    ⟨fun _ e h k => (@V.rec  (fun _ => (Env) → (H) → (K) → Out) (fun e h k => .bad "fieldAddr") (fun _ e h k => .bad "fieldAddr") (fun _ _ e h k => .bad "fieldAddr") (fun _ _ e h k => .bad "fieldAddr") (fun i o e h k => k (s e (.ptr i (Nat.add o off))) h) (fun e h k => .bad "fieldAddr") (fun _ _ _ _ _ e h k => .bad "fieldAddr") (fun e h k => .bad "fieldAddr") (fun _ e h k => .bad "fieldAddr") (fun e h k => .bad "fieldAddr") (fun _ _ _ _ _ e h k => .bad "fieldAddr") (fun e h k => .bad "fieldAddr") (fun _ _ _ e h k => .bad "fieldAddr") (fun e h k => .bad "fieldAddr") (fun _ _ e h k => .bad "fieldAddr") (fun _ _ e h k => .bad "fieldAddr") (fun e h k => .bad "fieldAddr") (fun _ _ _ _ e h k => .bad "fieldAddr") (g e) e h k)⟩) (badOp "fieldAddr")
   | none => badOp "fieldAddr"
  | none => badOp "fieldAddr"
 | .field t x j => match fieldsOf X.P t with
  | some fs => match fs[j]? with
   | some f => match scalarT X.P f.type with
    | some true => opd X x (fun g => let off := f.offset
     ⟨fun _ e h k => (@V.rec  (fun _ => (Env) → (H) → (K) → Out) (fun e h k => .bad "field") (fun _ e h k => .bad "field") (fun _ _ e h k => .bad "field") (fun _ _ e h k => .bad "field") (fun _ _ e h k => .bad "field") (fun e h k => .bad "field") (fun _ _ _ _ _ e h k => .bad "field") (fun e h k => .bad "field") (fun _ e h k => .bad "field") (fun e h k => .bad "field") (fun _ _ _ _ _ e h k => .bad "field") (fun e h k => .bad "field") (fun _ _ _ e h k => .bad "field") (fun e h k => .bad "field") (fun l _ e h k => defd (V.nth l off) fun v => k (s e v) h) (fun _ _ e h k => .bad "field") (fun e h k => .bad "field") (fun _ _ _ _ e h k => .bad "field") (g e) e h k)⟩) (badOp "field")
    | some false => opd X x (fun g => let off := f.offset; let n := X.P.cellsOf f.type
     ⟨fun _ e h k => (@V.rec  (fun _ => (Env) → (H) → (K) → Out) (fun e h k => .bad "field") (fun _ e h k => .bad "field") (fun _ _ e h k => .bad "field") (fun _ _ e h k => .bad "field") (fun _ _ e h k => .bad "field") (fun e h k => .bad "field") (fun _ _ _ _ _ e h k => .bad "field") (fun e h k => .bad "field") (fun _ e h k => .bad "field") (fun e h k => .bad "field") (fun _ _ _ _ _ e h k => .bad "field") (fun e h k => .bad "field") (fun _ _ _ e h k => .bad "field") (fun e h k => .bad "field") (fun l _ e h k => k (s e (.agg (V.take (V.drop l off) n))) h) (fun _ _ e h k => .bad "field") (fun e h k => .bad "field") (fun _ _ _ _ e h k => .bad "field") (g e) e h k)⟩) (badOp "field")
    | none => badOp "field"
   | none => badOp "field"
  | none => badOp "field"
 | .indexAddr t x ix => match X.P.underlying t with
  | some (.slice el) => if X.P.cellsOf el = 0 then badOp "indexAddr" else opd X x (fun g => opd X ix (fun gi => let sz := X.P.cellsOf el
   ⟨fun _ e h k => (@V.rec  (fun _ => (Env) → (H) → (K) → Out) (fun e h k => .bad "indexAddr") (fun _ e h k => .bad "indexAddr") (fun _ _ e h k => .bad "indexAddr") (fun _ _ e h k => .bad "indexAddr") (fun _ _ e h k => .bad "indexAddr") (fun e h k => .bad "indexAddr") (fun i eo sz' len _ e h k => (@V.rec  (fun _ => (Id) → (Nat) → (Nat) → (Nat) → (Env) → (H) → (K) → Out) (fun i eo sz' len e h k => .bad "index") (fun _ i eo sz' len e h k => .bad "index") (fun kd n i eo sz' len e h k => (@Bool.rec  (fun _ => (Nat) → (Id) → (Nat) → (Nat) → (Nat) → (Env) → (H) → (K) → Out) (fun n i eo sz' len e h k => (@Bool.rec  (fun _ => (Nat) → (Id) → (Nat) → (Nat) → (Env) → (H) → (K) → Out) (fun n i eo sz' e h k => .bad "index out of range") (fun n i eo sz' e h k => (@Bool.rec  (fun _ => (Nat) → (Id) → (Nat) → (Env) → (H) → (K) → Out) (fun n i eo e h k => .bad "element size") (fun n i eo e h k => k (s e (.ptr i (Nat.mul (Nat.add eo n) sz))) h) (Nat.beq sz sz') n i eo e h k)) (Nat.ble (Nat.succ n) len) n i eo sz' e h k)) (fun n i eo sz' len e h k => .bad "index") (isNeg kd n) n i eo sz' len e h k)) (fun _ _ i eo sz' len e h k => .bad "index") (fun _ _ i eo sz' len e h k => .bad "index") (fun i eo sz' len e h k => .bad "index") (fun _ _ _ _ _ i eo sz' len e h k => .bad "index") (fun i eo sz' len e h k => .bad "index") (fun _ i eo sz' len e h k => .bad "index") (fun i eo sz' len e h k => .bad "index") (fun _ _ _ _ _ i eo sz' len e h k => .bad "index") (fun i eo sz' len e h k => .bad "index") (fun _ _ _ i eo sz' len e h k => .bad "index") (fun i eo sz' len e h k => .bad "index") (fun _ _ i eo sz' len e h k => .bad "index") (fun _ _ i eo sz' len e h k => .bad "index") (fun i eo sz' len e h k => .bad "index") (fun _ _ _ _ i eo sz' len e h k => .bad "index") (gi e) i eo sz' len e h k)) (fun e h k => .bad "indexAddr") (fun _ e h k => .bad "indexAddr") (fun e h k => .bad "indexAddr") (fun _ _ _ _ _ e h k => .bad "indexAddr") (fun e h k => .bad "indexAddr") (fun _ _ _ e h k => .bad "indexAddr") (fun e h k => .bad "indexAddr") (fun _ _ e h k => .bad "indexAddr") (fun _ _ e h k => .bad "indexAddr") (fun e h k => .bad "indexAddr") (fun _ _ _ _ e h k => .bad "indexAddr") (g e) e h k)⟩) (badOp "indexAddr")) (badOp "indexAddr")
  | _ => badOp "indexAddr"
 | .index t x ix => match X.P.underlying t with
  | some .string => opd X x (fun g => opd X ix (fun gi =>
   ⟨fun _ e h k => (@V.rec  (fun _ => (Env) → (H) → (K) → Out) (fun e h k => .bad "index") (fun _ e h k => .bad "index") (fun _ _ e h k => .bad "index") (fun len bits e h k => (@V.rec  (fun _ => (Nat) → (Nat) → (Env) → (H) → (K) → Out) (fun len bits e h k => .bad "index") (fun _ len bits e h k => .bad "index") (fun kd n len bits e h k => (@Bool.rec  (fun _ => (Nat) → (Nat) → (Nat) → (Env) → (H) → (K) → Out) (fun n len bits e h k => (@Bool.rec  (fun _ => (Nat) → (Nat) → (Env) → (H) → (K) → Out) (fun n bits e h k => .bad "index out of range") (fun n bits e h k => k (s e (.int .u8 (Nat.mod (Nat.div bits (p256 n)) 256))) h) (Nat.ble (Nat.succ n) len) n bits e h k)) (fun n len bits e h k => .bad "index") (isNeg kd n) n len bits e h k)) (fun _ _ len bits e h k => .bad "index") (fun _ _ len bits e h k => .bad "index") (fun len bits e h k => .bad "index") (fun _ _ _ _ _ len bits e h k => .bad "index") (fun len bits e h k => .bad "index") (fun _ len bits e h k => .bad "index") (fun len bits e h k => .bad "index") (fun _ _ _ _ _ len bits e h k => .bad "index") (fun len bits e h k => .bad "index") (fun _ _ _ len bits e h k => .bad "index") (fun len bits e h k => .bad "index") (fun _ _ len bits e h k => .bad "index") (fun _ _ len bits e h k => .bad "index") (fun len bits e h k => .bad "index") (fun _ _ _ _ len bits e h k => .bad "index") (gi e) len bits e h k)) (fun _ _ e h k => .bad "index") (fun e h k => .bad "index") (fun _ _ _ _ _ e h k => .bad "index") (fun e h k => .bad "index") (fun _ e h k => .bad "index") (fun e h k => .bad "index") (fun _ _ _ _ _ e h k => .bad "index") (fun e h k => .bad "index") (fun _ _ _ e h k => .bad "index") (fun e h k => .bad "index") (fun _ _ e h k => .bad "index") (fun _ _ e h k => .bad "index") (fun e h k => .bad "index") (fun _ _ _ _ e h k => .bad "index") (g e) e h k)⟩) (badOp "index")) (badOp "index")
  | _ => badOp "index"
 | .lookup t x ix ok => match X.P.underlying t with
  | some (.map kt et) => match zeroV X.P et with
   | some z => opd X x (fun g => opd X ix (fun gi => let ek := keyKind X kt
    ⟨fun _ e h k => lookupV ek (X.P.cellsOf kt) z ok (g e) (gi e) h fun v => k (s e v) h⟩) (badOp "lookup")) (badOp "lookup")
   | none => badOp "lookup"
  | _ => badOp "lookup"
 | .mapUpdate t m kx x | .insert t m kx x => match X.P.underlying t with
  | some (.map kt _) => opd X m (fun gm => opd X kx (fun gk => opd X x (fun gx => let ek := keyKind X kt
   ⟨fun _ e h k => mapUpdV ek (X.P.cellsOf kt) (gm e) (gk e) (gx e) h fun h => k (s e .undef) h⟩) (badOp "mapUpdate")) (badOp "mapUpdate")) (badOp "mapUpdate")
  | _ => badOp "mapUpdate"
 | .range t x => match X.P.underlying t with
  | some (.map _ _) => opd X x (fun g => ⟨fun _ e h k => rangeV (g e) h fun v h => k (s e v) h⟩) (badOp "range")
  | _ => badOp "range"
 | .next it st => opd X it (fun g => ⟨fun _ e h k => nextV st (g e) h fun v h => k (s e v) h⟩) (badOp "next")
 | .entry it => opd X it (fun g => ⟨fun _ e h k => entryV (g e) h fun v => k (s e v) h⟩) (badOp "entry")
 | .typeAssert x _ a ok => match isIface X.P a with
  | false => opd X x (fun g => ⟨fun _ e h k => typeAssertV a ok (g e) fun v => k (s e v) h⟩) (badOp "typeAssert")
  | true => badOp "typeAssert"
 | .extract t ix => opd X t (fun g => ⟨fun _ e h k => (@V.rec  (fun _ => (Env) → (H) → (K) → Out) (fun e h k => .bad "extract") (fun _ e h k => .bad "extract") (fun _ _ e h k => .bad "extract") (fun _ _ e h k => .bad "extract") (fun _ _ e h k => .bad "extract") (fun e h k => .bad "extract") (fun _ _ _ _ _ e h k => .bad "extract") (fun e h k => .bad "extract") (fun _ e h k => .bad "extract") (fun e h k => .bad "extract") (fun _ _ _ _ _ e h k => .bad "extract") (fun e h k => .bad "extract") (fun _ _ _ e h k => .bad "extract") (fun e h k => .bad "extract") (fun _ _ e h k => .bad "extract") (fun l _ e h k => defd (V.nth l ix) fun v => k (s e v) h) (fun e h k => .bad "extract") (fun _ _ _ _ e h k => .bad "extract") (g e) e h k)⟩) (badOp "extract")
 | .call c => match c.callee with
  | .builtin b => builtinOp X b c.args.toList c.argTypes.toList s
  | .value (.func f) => opds X c.args.toList (fun gl => ⟨fun call e h k => (@OpR.rec  (fun _ => (Env) → (K) → Out) (fun v h e k => k (s e v) h) (fun v h e k => .pan v e h) (fun w e k => .bad w) (call f (gl e) h) e k)⟩) (badOp "call")
  | .value x => opd X x (fun g => opds X c.args.toList (fun gl => ⟨fun call e h k => (@V.rec  (fun _ => (Call) → (Env) → (H) → (K) → Out) (fun call e h k => .bad "call: no function") (fun _ call e h k => .bad "call: no function") (fun _ _ call e h k => .bad "call: no function") (fun _ _ call e h k => .bad "call: no function") (fun _ _ call e h k => .bad "call: no function") (fun call e h k => .bad "call: no function") (fun _ _ _ _ _ call e h k => .bad "call: no function") (fun call e h k => .bad "call: no function") (fun _ call e h k => .bad "call: no function") (fun call e h k => .bad "call: no function") (fun f a cap _ _ call e h k => (@OpR.rec  (fun _ => (Env) → (K) → Out) (fun v h e k => k (s e v) h) (fun v h e k => .pan v e h) (fun w e k => .bad w) (call f (V.app a (V.app (gl e) cap)) h) e k)) (fun call e h k => .bad "call: no function") (fun _ _ _ call e h k => .bad "call: no function") (fun call e h k => .bad "call: no function") (fun _ _ call e h k => .bad "call: no function") (fun _ _ call e h k => .bad "call: no function") (fun call e h k => .bad "call: no function") (fun _ _ _ _ call e h k => .bad "call: no function") (g e) call e h k)⟩) (badOp "call")) (badOp "call")
  | .invoke .. => badOp "invoke"
 | .defer c => match c.callee with
  | .value x => opd X x (fun g => opds X c.args.toList (fun gl => ⟨fun _ e h k =>
    match g e with
    | .fn f a c => k (s (setTop (.cons (.fn f a c) (.cons (gl e) (topE e))) e) .undef) h
    | _ => .bad "defer"⟩) (badOp "defer")) (badOp "defer")
  | _ => badOp "defer"
 | .panic x => opd X x (fun g => ⟨fun _ e h k => match g e with | .ifc t v => .pan (.ifc t v) e h | _ => .bad "panic"⟩) (badOp "panic")
 | _ => badOp "operation"
theorem compOp_eq (X : Cx) (o : Oper) (s : S) : compOp X o s = compOpS X o s := by
 obtain ⟨dst, op, type, pos, after, guard⟩ := o
 cases op with
 | makeFunc fn a b => cases fn <;> rfl
 | store t a x => show cop_store X s t a x = _; unfold cop_store; simp only [storeVF_eq]; rfl
 | box t x => show cop_box X s t x = _; unfold cop_box; simp only [boxVF_eq]; rfl
 | build t parts => show cop_build X s t parts = _; unfold cop_build; rw [checkPartsF_eq, runPlanF_eq]; rfl
 | buildSlice t l parts => show cop_buildSlice X s t l parts = _; unfold cop_buildSlice; rw [checkPartsF_eq, runPlanF_eq, newCellsF_eq]; rfl
 | load t a => show cop_load X s t a = _; unfold cop_load; rw [loadAggF_eq]; rfl
 | makeSlice t l c => show cop_makeSlice X s t l c = _; unfold cop_makeSlice; rw [newCellsF_eq]; rfl
 | field t x j => show cop_field X s t x j = _; unfold cop_field; rw [V.nthF_eq, V.takeF_eq, V.dropF_eq]; rfl
 | extract t ix => show cop_extract X s t ix = _; unfold cop_extract; rw [V.nthF_eq]; rfl
 | call c => show cop_call X s c = _; unfold cop_call; rw [V.appF_eq]; rfl
 | _ => rfl
end
end Go.Ev
