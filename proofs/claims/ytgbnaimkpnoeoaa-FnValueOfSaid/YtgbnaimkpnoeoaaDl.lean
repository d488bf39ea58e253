/- The walk of the draw of a value: it returns some numbers, and moves nothing old but the reader. Conditions: the reader lies in memory. -/
import Derived.Test.YtgbnaimkpnoeoaaDr
import Derived.Test.YtgbnaimkpnoeoaaIv
import Derived.Deep.DeepCutAuto
namespace Go.Proofs.Ytgbnaimkpnoeoaa
open Go.RowKit

/-- What the draw of a value leaves. -/
def ValPost (w : World) (R K : Nat) (e : Ending) (w' : World) : Prop :=
  ∃ b d t : Int, e = .returned (.agg #[.int .i64 b, .int .i64 d, .int .i64 t]) ∧ Dr w w' R K
/-- The draw under way: the reader, and the result's block that is still zero. -/
def St (w W : World) (R K : Nat) (T : TypeId) : Prop := Dr w W R K ∧ Blk W w.heap.size T #[.int .i64 0, .int .i64 0, .int .i64 0]
theorem St.rd {w W : World} {R K : Nat} {T : TypeId} (h : St w W R K T) : RdOk W R K := h.1.rd
theorem St.alloc {w W : World} {R K : Nat} {T : TypeId} (h : St w W R K T) (o : Obj) : St w (W.alloc o) R K T := ⟨h.1.alloc o, h.2.alloc o⟩
theorem St.drew {w W : World} {R K : Nat} {T : TypeId} (h : St w W R K T) : St w W.drew R K T := ⟨h.1.drew, h.2⟩
theorem St.pick {w W w1 : World} {R K K' : Nat} {T : TypeId} (h : St w W R K T) (hg : W.grownBy w1 (some R)) (hr : RdOk w1 R K') : St w w1 R K' T :=
  ⟨h.1.pick hg hr, h.2.grown hg (fun e => by have := h.1.2.2; injection e; omega)⟩
theorem St.size {w W : World} {R K : Nat} {T : TypeId} (h : St w W R K T) : w.heap.size < W.heap.size := h.2.lt
/-- A value that is being drawn. -/
def DQ (w W : World) (R K g : Nat) (T : TypeId) : Prop :=
  ∃ s a o : Int, Blk W g T #[.int .i64 s, .int .i64 a, .int .i64 o] ∧ w.heap.size < g ∧ St w W R K T
theorem DQ.rd {w W : World} {R K g : Nat} {T : TypeId} (h : DQ w W R K g T) : RdOk W R K := by
  obtain ⟨s, a, o, h1, h2, h3⟩ := h
  exact h3.rd
theorem DQ.pick {w W w1 : World} {R K K' g : Nat} {T : TypeId} (h : DQ w W R K g T) (hg : W.grownBy w1 (some R)) (hr : RdOk w1 R K') : DQ w w1 R K' g T := by
  obtain ⟨s, a, o, h1, h2, h3⟩ := h
  have hR := h3.1.2.2
  exact ⟨s, a, o, h1.grown hg (fun e => by injection e; omega), h2, h3.pick hg hr⟩
theorem DQ.alloc {w W : World} {R K g : Nat} {T : TypeId} (h : DQ w W R K g T) (ob : Obj) : DQ w (W.alloc ob) R K g T := by
  obtain ⟨s, a, o, h1, h2, h3⟩ := h
  exact ⟨s, a, o, h1.alloc ob, h2, h3.alloc ob⟩
theorem DQ.mono {w W : World} {R K K' g : Nat} {T : TypeId} (h : DQ w W R K g T) (hK : K ≤ K') : DQ w W R K' g T := by
  obtain ⟨s, a, o, h1, h2, h3⟩ := h
  exact ⟨s, a, o, h1, h2, h3.1.mono hK, h3.2⟩
theorem DQ.set0 {w W : World} {R K g : Nat} {T : TypeId} (h : DQ w W R K g T) (x : Int) : DQ w (W.setCell ⟨g, 0, none⟩ (.int .i64 x)) R K g T := by
  obtain ⟨s, a, o, h1, h2, h3⟩ := h
  exact ⟨x, a, o, h1.set_ 0 _, h2, h3.1.set_ (by show w.heap.size ≤ g; omega) _, h3.2.ne (by omega) _⟩
theorem DQ.set1 {w W : World} {R K g : Nat} {T : TypeId} (h : DQ w W R K g T) (x : Int) : DQ w (W.setCell ⟨g, 1, none⟩ (.int .i64 x)) R K g T := by
  obtain ⟨s, a, o, h1, h2, h3⟩ := h
  exact ⟨s, x, o, h1.set_ 1 _, h2, h3.1.set_ (by show w.heap.size ≤ g; omega) _, h3.2.ne (by omega) _⟩
theorem DQ.set2 {w W : World} {R K g : Nat} {T : TypeId} (h : DQ w W R K g T) (x : Int) : DQ w (W.setCell ⟨g, 2, none⟩ (.int .i64 x)) R K g T := by
  obtain ⟨s, a, o, h1, h2, h3⟩ := h
  exact ⟨s, a, x, h1.set_ 2 _, h2, h3.1.set_ (by show w.heap.size ≤ g; omega) _, h3.2.ne (by omega) _⟩
theorem DQ.cells {w W : World} {R K g : Nat} {T : TypeId} (h : DQ w W R K g T) :
    ∃ x y z : Value, W.cell? ⟨g, 0, none⟩ = some x ∧ W.cell? ⟨g, 1, none⟩ = some y ∧ W.cell? ⟨g, 2, none⟩ = some z ∧ W.frozen? ⟨g, 0, none⟩ = false ∧ W.frozen? ⟨g, 1, none⟩ = false ∧ W.frozen? ⟨g, 2, none⟩ = false ∧ g < W.heap.size := by
  obtain ⟨s, a, o, h1, h2, h3⟩ := h
  exact ⟨_, _, _, h1.get rfl, h1.get rfl, h1.get rfl, h1.frozen 0, h1.frozen 1, h1.frozen 2, h1.lt⟩
theorem ne_of {g R : Nat} (h : R < g) : some g ≠ some R := fun e => by
  injection e
  omega
theorem four_at (j : Nat) (h : (j : Int) < 4) : ∃ y : Int, (#[.int .i64 0, .int .i64 0, .int .i64 1, .int .i64 2] : Array Value)[j]? = some (.int .i64 y) := by
  obtain rfl | rfl | rfl | rfl : j = 0 ∨ j = 1 ∨ j = 2 ∨ j = 3 := by omega
  all_goals exact ⟨_, rfl⟩
theorem three_at (j : Nat) (h : (j : Int) < 3) : ∃ y : Int, (#[.int .i64 1, .int .i64 1, .int .i64 3] : Array Value)[j]? = some (.int .i64 y) := by
  obtain rfl | rfl | rfl : j = 0 ∨ j = 1 ∨ j = 2 := by omega
  all_goals exact ⟨_, rfl⟩
theorem new_at2 (T : TypeId) {j : Nat} {y : Int} {c : Array Value} (h : c[j]? = some (.int .i64 y)) (W : World) (o : Obj) : ((W.alloc o).alloc (.cells c T)).cell? ⟨W.heap.size + 1, j, none⟩ = some (.int .i64 y) := by
  have h1 := Blk.get (Blk.new (W.alloc o) T c) h
  rwa [World.size_alloc] at h1
theorem new_at (T : TypeId) {j : Nat} {y : Int} {c : Array Value} (h : c[j]? = some (.int .i64 y)) : ∀ W : World, (W.alloc (.cells c T)).cell? ⟨W.heap.size, j, none⟩ = some (.int .i64 y) := fun W => Blk.get (Blk.new W T c) h

/-- A block of the draw: it holds cs, and lies behind the reader. -/
def NB (W : World) (R g : Nat) (T : TypeId) (cs : Array Value) : Prop := Blk W g T cs ∧ R < g
theorem NB.alloc {W : World} {R g : Nat} {T : TypeId} {cs : Array Value} (h : NB W R g T cs) (o : Obj) : NB (W.alloc o) R g T cs := ⟨h.1.alloc o, h.2⟩
theorem NB.pick {W w1 : World} {R g : Nat} {T : TypeId} {cs : Array Value} (h : NB W R g T cs) (hg : W.grownBy w1 (some R)) : NB w1 R g T cs := ⟨h.1.grown hg (ne_of h.2), h.2⟩
/-- The frame of the draw's first statement: the slots of what has come up hold their values. -/
def VF (R : Nat) (n : Int) (V : Nat) (D : Nat → Bool) (v b y x s1 s2 s3 : Int) (j i gA gB gV pA pj pB pi : Nat) : Act := ⟨#[.pointer (some ⟨R, 0, none⟩), .int .i64 n, undef, undef, .pointer (some ⟨V, 0, none⟩), sl D 14 (.pointer (some ⟨gV, 0, none⟩)), sl D 0 (.pointer (some ⟨R, 0, none⟩)), sl D 1 (.int .i64 v), sl D 2 (.int .i64 b), sl D 3 (.slice (some ⟨gA, 0, none⟩) 4 4), sl D 4 (.pointer (some ⟨R, 0, none⟩)), sl D 5 (.int .i64 (j : Int)), sl D 6 (.pointer (some ⟨pA, pj, none⟩)), sl D 7 (.int .i64 y), sl D 8 (.slice (some ⟨gB, 0, none⟩) 3 3), sl D 9 (.pointer (some ⟨R, 0, none⟩)), sl D 10 (.int .i64 (i : Int)), sl D 11 (.pointer (some ⟨pB, pi, none⟩)), sl D 12 (.int .i64 x), sl D 13 (.agg #[.int .i64 s1, .int .i64 s2, .int .i64 s3]), undef, undef, undef, undef, undef, undef, undef, undef, undef, undef, undef, undef, undef, undef, undef, undef, undef, undef, undef, undef, undef, undef, undef, undef, undef, undef, undef, undef], []⟩
/-- The blocks of the draw's first statement. -/
def WF (w : World) (R : Nat) (D : Nat → Bool) (gA pA gB pB gV : Nat) (W : World) : Prop :=
  (D 15 = false → (D 3 = true → NB W R gA 3 #[.int .i64 0, .int .i64 0, .int .i64 1, .int .i64 2]) ∧ (D 6 = true → NB W R pA 3 #[.int .i64 0, .int .i64 0, .int .i64 1, .int .i64 2]) ∧ (D 8 = true → NB W R gB 3 #[.int .i64 1, .int .i64 1, .int .i64 3]) ∧ (D 11 = true → NB W R pB 3 #[.int .i64 1, .int .i64 1, .int .i64 3])) ∧
  (D 14 = true → (∃ s a o : Int, NB W R gV 26 #[.int .i64 s, .int .i64 a, .int .i64 o]) ∧ w.heap.size < gV)
theorem WF.alloc {w W : World} {R : Nat} {D : Nat → Bool} {gA pA gB pB gV : Nat} (h : WF w R D gA pA gB pB gV W) (o : Obj) : WF w R D gA pA gB pB gV (W.alloc o) := by
  obtain ⟨h1, h2⟩ := h
  refine ⟨fun e => ?_, fun e => ?_⟩
  · obtain ⟨a, b, c, d⟩ := h1 e
    exact ⟨fun e => (a e).alloc o, fun e => (b e).alloc o, fun e => (c e).alloc o, fun e => (d e).alloc o⟩
  · obtain ⟨⟨s, a, q, b⟩, z⟩ := h2 e
    exact ⟨⟨s, a, q, b.alloc o⟩, z⟩
theorem WF.pick {w W w1 : World} {R : Nat} {D : Nat → Bool} {gA pA gB pB gV : Nat} (h : WF w R D gA pA gB pB gV W) (hg : W.grownBy w1 (some R)) : WF w R D gA pA gB pB gV w1 := by
  obtain ⟨h1, h2⟩ := h
  refine ⟨fun e => ?_, fun e => ?_⟩
  · obtain ⟨a, b, c, d⟩ := h1 e
    exact ⟨fun e => (a e).pick hg, fun e => (b e).pick hg, fun e => (c e).pick hg, fun e => (d e).pick hg⟩
  · obtain ⟨⟨s, a, q, b⟩, z⟩ := h2 e
    exact ⟨⟨s, a, q, b.pick hg⟩, z⟩
/-- The numbers of the draw's first statement. -/
def NF (D : Nat → Bool) (v : Int) (j pj i pi : Nat) : Prop :=
  (D 1 = true → 0 ≤ v ∧ v < 5) ∧ (D 5 = true → (j : Int) < 4) ∧ (D 6 = true → (pj : Int) < 4) ∧ (D 10 = true → (i : Int) < 3) ∧ (D 11 = true → (pi : Int) < 3)
/-- The reader and the result's block, and how many picks there may have been. -/
def SF (w : World) (R K : Nat) (D : Nat → Bool) (W : World) : Prop := ∃ k : Nat, k ≤ K + (D 1).toNat + (D 5).toNat + (D 10).toNat ∧ St w W R k 26
theorem SF.alloc {w W : World} {R K : Nat} {D : Nat → Bool} (h : SF w R K D W) (o : Obj) : SF w R K D (W.alloc o) := by
  obtain ⟨k, h1, h2⟩ := h
  exact ⟨k, h1, h2.alloc o⟩
theorem SF.set_ {w W : World} {R K : Nat} {D : Nat → Bool} (h : SF w R K D W) {g : Nat} (hg : w.heap.size < g) (i : Nat) (u : Value) : SF w R K D (W.setCell ⟨g, i, none⟩ u) := by
  obtain ⟨k, h1, h2⟩ := h
  exact ⟨k, h1, h2.1.set_ (by show w.heap.size ≤ g; omega) u, h2.2.ne (by omega) u⟩
theorem SF.lt {w W : World} {R K : Nat} {D : Nat → Bool} (h : SF w R K D W) : R < W.heap.size := by
  obtain ⟨k, h1, h2⟩ := h
  exact h2.rd.lt
theorem SF.size {w W : World} {R K : Nat} {D : Nat → Bool} (h : SF w R K D W) : w.heap.size < W.heap.size := by
  obtain ⟨k, h1, h2⟩ := h
  exact St.size h2
/-- The store comes up last. -/
def CL (D : Nat → Bool) : Prop := D 15 = true → D 7 = true ∧ D 12 = true
theorem CL.not7 {D : Nat → Bool} (h : CL D) (h7 : D 7 = false) : D 15 = false := by
  cases e : D 15
  · rfl
  · rw [(h e).1] at h7
    cases h7
theorem CL.not12 {D : Nat → Bool} (h : CL D) (h7 : D 12 = false) : D 15 = false := by
  cases e : D 15
  · rfl
  · rw [(h e).2] at h7
    cases h7
theorem toNat_le (b : Bool) : b.toNat ≤ 1 := by cases b <;> simp
def VI (w : World) (R K : Nat) (n : Int) (V : Nat) (D : Nat → Bool) (a : Act) (W : World) : Prop :=
  ∃ (v b y x s1 s2 s3 : Int) (j i gA gB gV pA pj pB pi : Nat), CL D ∧ NF D v j pj i pi ∧ WF w R D gA pA gB pB gV W ∧ SF w R K D W ∧ a = VF R n V D v b y x s1 s2 s3 j i gA gB gV pA pj pB pi

theorem VF_0 (R : Nat) (n : Int) (V : Nat) (D : Nat → Bool) (v b y x s1 s2 s3 : Int) (j i gA gB gV pA pj pB pi : Nat) : VF R n V (fun j => j == 0 || D j) v b y x s1 s2 s3 j i gA gB gV pA pj pB pi = (VF R n V D v b y x s1 s2 s3 j i gA gB gV pA pj pB pi).put (some 6) (.pointer (some ⟨R, 0, none⟩)) := rfl
theorem VF_1 (R : Nat) (n : Int) (V : Nat) (D : Nat → Bool) (v b y x s1 s2 s3 : Int) (j i gA gB gV pA pj pB pi : Nat) : VF R n V (fun j => j == 1 || D j) v b y x s1 s2 s3 j i gA gB gV pA pj pB pi = (VF R n V D v b y x s1 s2 s3 j i gA gB gV pA pj pB pi).put (some 7) (.int .i64 v) := rfl
theorem VF_2 (R : Nat) (n : Int) (V : Nat) (D : Nat → Bool) (v b y x s1 s2 s3 : Int) (j i gA gB gV pA pj pB pi : Nat) : VF R n V (fun j => j == 2 || D j) v b y x s1 s2 s3 j i gA gB gV pA pj pB pi = (VF R n V D v b y x s1 s2 s3 j i gA gB gV pA pj pB pi).put (some 8) (.int .i64 b) := rfl
theorem VF_3 (R : Nat) (n : Int) (V : Nat) (D : Nat → Bool) (v b y x s1 s2 s3 : Int) (j i gA gB gV pA pj pB pi : Nat) : VF R n V (fun j => j == 3 || D j) v b y x s1 s2 s3 j i gA gB gV pA pj pB pi = (VF R n V D v b y x s1 s2 s3 j i gA gB gV pA pj pB pi).put (some 9) (.slice (some ⟨gA, 0, none⟩) 4 4) := rfl
theorem VF_4 (R : Nat) (n : Int) (V : Nat) (D : Nat → Bool) (v b y x s1 s2 s3 : Int) (j i gA gB gV pA pj pB pi : Nat) : VF R n V (fun j => j == 4 || D j) v b y x s1 s2 s3 j i gA gB gV pA pj pB pi = (VF R n V D v b y x s1 s2 s3 j i gA gB gV pA pj pB pi).put (some 10) (.pointer (some ⟨R, 0, none⟩)) := rfl
theorem VF_5 (R : Nat) (n : Int) (V : Nat) (D : Nat → Bool) (v b y x s1 s2 s3 : Int) (j i gA gB gV pA pj pB pi : Nat) : VF R n V (fun j => j == 5 || D j) v b y x s1 s2 s3 j i gA gB gV pA pj pB pi = (VF R n V D v b y x s1 s2 s3 j i gA gB gV pA pj pB pi).put (some 11) (.int .i64 (j : Int)) := rfl
theorem VF_6 (R : Nat) (n : Int) (V : Nat) (D : Nat → Bool) (v b y x s1 s2 s3 : Int) (j i gA gB gV pA pj pB pi : Nat) : VF R n V (fun j => j == 6 || D j) v b y x s1 s2 s3 j i gA gB gV pA pj pB pi = (VF R n V D v b y x s1 s2 s3 j i gA gB gV pA pj pB pi).put (some 12) (.pointer (some ⟨pA, pj, none⟩)) := rfl
theorem VF_7 (R : Nat) (n : Int) (V : Nat) (D : Nat → Bool) (v b y x s1 s2 s3 : Int) (j i gA gB gV pA pj pB pi : Nat) : VF R n V (fun j => j == 7 || D j) v b y x s1 s2 s3 j i gA gB gV pA pj pB pi = (VF R n V D v b y x s1 s2 s3 j i gA gB gV pA pj pB pi).put (some 13) (.int .i64 y) := rfl
theorem VF_8 (R : Nat) (n : Int) (V : Nat) (D : Nat → Bool) (v b y x s1 s2 s3 : Int) (j i gA gB gV pA pj pB pi : Nat) : VF R n V (fun j => j == 8 || D j) v b y x s1 s2 s3 j i gA gB gV pA pj pB pi = (VF R n V D v b y x s1 s2 s3 j i gA gB gV pA pj pB pi).put (some 14) (.slice (some ⟨gB, 0, none⟩) 3 3) := rfl
theorem VF_9 (R : Nat) (n : Int) (V : Nat) (D : Nat → Bool) (v b y x s1 s2 s3 : Int) (j i gA gB gV pA pj pB pi : Nat) : VF R n V (fun j => j == 9 || D j) v b y x s1 s2 s3 j i gA gB gV pA pj pB pi = (VF R n V D v b y x s1 s2 s3 j i gA gB gV pA pj pB pi).put (some 15) (.pointer (some ⟨R, 0, none⟩)) := rfl
theorem VF_10 (R : Nat) (n : Int) (V : Nat) (D : Nat → Bool) (v b y x s1 s2 s3 : Int) (j i gA gB gV pA pj pB pi : Nat) : VF R n V (fun j => j == 10 || D j) v b y x s1 s2 s3 j i gA gB gV pA pj pB pi = (VF R n V D v b y x s1 s2 s3 j i gA gB gV pA pj pB pi).put (some 16) (.int .i64 (i : Int)) := rfl
theorem VF_11 (R : Nat) (n : Int) (V : Nat) (D : Nat → Bool) (v b y x s1 s2 s3 : Int) (j i gA gB gV pA pj pB pi : Nat) : VF R n V (fun j => j == 11 || D j) v b y x s1 s2 s3 j i gA gB gV pA pj pB pi = (VF R n V D v b y x s1 s2 s3 j i gA gB gV pA pj pB pi).put (some 17) (.pointer (some ⟨pB, pi, none⟩)) := rfl
theorem VF_12 (R : Nat) (n : Int) (V : Nat) (D : Nat → Bool) (v b y x s1 s2 s3 : Int) (j i gA gB gV pA pj pB pi : Nat) : VF R n V (fun j => j == 12 || D j) v b y x s1 s2 s3 j i gA gB gV pA pj pB pi = (VF R n V D v b y x s1 s2 s3 j i gA gB gV pA pj pB pi).put (some 18) (.int .i64 x) := rfl
theorem VF_13 (R : Nat) (n : Int) (V : Nat) (D : Nat → Bool) (v b y x s1 s2 s3 : Int) (j i gA gB gV pA pj pB pi : Nat) : VF R n V (fun j => j == 13 || D j) v b y x s1 s2 s3 j i gA gB gV pA pj pB pi = (VF R n V D v b y x s1 s2 s3 j i gA gB gV pA pj pB pi).put (some 19) (.agg #[.int .i64 s1, .int .i64 s2, .int .i64 s3]) := rfl
theorem VF_14 (R : Nat) (n : Int) (V : Nat) (D : Nat → Bool) (v b y x s1 s2 s3 : Int) (j i gA gB gV pA pj pB pi : Nat) : VF R n V (fun j => j == 14 || D j) v b y x s1 s2 s3 j i gA gB gV pA pj pB pi = (VF R n V D v b y x s1 s2 s3 j i gA gB gV pA pj pB pi).put (some 5) (.pointer (some ⟨gV, 0, none⟩)) := rfl
theorem VF_15 (R : Nat) (n : Int) (V : Nat) (D : Nat → Bool) (v b y x s1 s2 s3 : Int) (j i gA gB gV pA pj pB pi : Nat) : VF R n V (fun j => j == 15 || D j) v b y x s1 s2 s3 j i gA gB gV pA pj pB pi = VF R n V D v b y x s1 s2 s3 j i gA gB gV pA pj pB pi := rfl

set_option maxHeartbeats 8000000 in
set_option maxRecDepth 100000 in
theorem l20Value_any (R K : Nat) (n : Int) (w : World) (h : RdOk w R K) (hK : K ≤ 50000) (hn : 0 ≤ n) (hn' : n ≤ 1000) :
    Calls Try.prog 39 #[.pointer (some ⟨R, 0, none⟩), .int .i64 n] w (ValPost w R (K + 20)) := by
  have hR := h.lt
  go_enter Try.func39, Try.ntmps39
  go_upto_region 1 with fail
  have S0 : St w (w.alloc (.cells #[.int .i64 0, .int .i64 0, .int .i64 0] 26)) R K 26 := ⟨(Dr.start h).alloc _, Blk.new w _ _⟩
  generalize w.alloc (.cells #[.int .i64 0, .int .i64 0, .int .i64 0] 26) = c at *
  have hs0 := S0.size
  clear h
  go_cut [5] (fun v wc => ∃ g, v = .pointer (some ⟨g, 0, none⟩) ∧ DQ w wc R (K + 3) g 26)
  case first =>
    refine wp_region_from (fun _ _ D a W => VI w R K n w.heap.size D a W) (by kernel_rfl) (by kernel_rfl) ?_ ?_ ?_
    · exact ⟨0, 0, 0, 0, 0, 0, 0, 0, 0, 0, 0, 0, 0, 0, 0, 0, nofun, ⟨nofun, nofun, nofun, nofun, nofun⟩, ⟨fun _ => ⟨nofun, nofun, nofun, nofun⟩, nofun⟩, ⟨K, by simp, S0.drew⟩, rfl⟩
    · refine AllSteps.cons (k' := 1) rfl rfl ?_ (AllSteps.cons (k' := 2) rfl rfl ?_ (AllSteps.cons (k' := 3) rfl rfl ?_ (AllSteps.cons (k' := 4) rfl rfl ?_ (AllSteps.cons (k' := 5) rfl rfl ?_ (AllSteps.cons (k' := 6) rfl rfl ?_ (AllSteps.cons (k' := 7) rfl rfl ?_ (AllSteps.cons (k' := 8) rfl rfl ?_ (AllSteps.cons (k' := 9) rfl rfl ?_ (AllSteps.cons (k' := 10) rfl rfl ?_ (AllSteps.cons (k' := 11) rfl rfl ?_ (AllSteps.cons (k' := 12) rfl rfl ?_ (AllSteps.cons (k' := 13) rfl rfl ?_ (AllSteps.cons (k' := 14) rfl rfl ?_ (AllSteps.cons (k' := 15) rfl rfl ?_ (AllSteps.cons (k' := 16) rfl rfl ?_ (AllSteps.nil))))))))))))))))
      · intro D a W hD hA hI K' hK'
        obtain ⟨v, b, y, x, s1, s2, s3, j, i, gA, gB, gV, pA, pj, pB, pi, hC, hN, hW, hS, rfl⟩ := hI
        clear hA
        simp only [VF]
        go_simp
        exact hK' _ _ ⟨v, b, y, x, s1, s2, s3, j, i, gA, gB, gV, pA, pj, pB, pi, hC, hN, hW, hS, by rw [VF_0]; rfl⟩
      · intro D a W hD hA hI K' hK'
        obtain ⟨v, b, y, x, s1, s2, s3, j, i, gA, gB, gV, pA, pj, pB, pi, hC, hN, hW, hS, rfl⟩ := hI
        have d0 : D 0 = true := dn hA 0 rfl rfl
        clear hA
        simp only [VF, sl_done d0]
        go_simp
        obtain ⟨kk, hk, hs⟩ := hS
        have t1 := toNat_le (D 1)
        have t5 := toNat_le (D 5)
        have t10 := toNat_le (D 10)
        refine (pick_any R kk 5 W hs.rd (by omega) (by omega) (by omega)).mono ?_
        rintro e W1 ⟨u, rfl, u0, u1, -, hg, hr⟩
        have u2 := u1 (by omega)
        have hk2 : kk + 1 ≤ K + 1 + (D 5).toNat + (D 10).toNat := by rw [hD] at hk; simp only [Bool.toNat_false] at hk; omega
        exact hK' _ _ ⟨u, b, y, x, s1, s2, s3, j, i, gA, gB, gV, pA, pj, pB, pi, hC, ⟨fun _ => ⟨u0, u2⟩, hN.2⟩, hW.pick hg, ⟨kk + 1, hk2, hs.pick hg hr⟩, by rw [VF_1]; simp only [VF, sl_done d0]; rfl⟩
      · intro D a W hD hA hI K' hK'
        obtain ⟨v, b, y, x, s1, s2, s3, j, i, gA, gB, gV, pA, pj, pB, pi, hC, hN, hW, hS, rfl⟩ := hI
        have d1 : D 1 = true := dn hA 0 rfl rfl
        clear hA
        have v0 := (hN.1 d1).1
        have v1 := (hN.1 d1).2
        simp only [VF, sl_done d1]
        go_simp
        refine hK' _ _ ⟨v, ?bb, y, x, s1, s2, s3, j, i, gA, gB, gV, pA, pj, pB, pi, hC, hN, hW, hS, ?f⟩
        case f => rw [VF_2]; simp only [VF, sl_done d1]; rfl
      · intro D a W hD hA hI K' hK'
        obtain ⟨v, b, y, x, s1, s2, s3, j, i, gA, gB, gV, pA, pj, pB, pi, hC, hN, hW, hS, rfl⟩ := hI
        clear hA
        simp only [VF]
        go_simp
        have hRW := hS.lt
        obtain ⟨h1, h2⟩ := hW.alloc (.cells #[.int .i64 0, .int .i64 0, .int .i64 1, .int .i64 2] 3)
        exact hK' _ _ ⟨v, b, y, x, s1, s2, s3, j, i, W.heap.size, gB, gV, pA, pj, pB, pi, hC, hN, ⟨fun e => ⟨fun _ => ⟨Blk.new _ _ _, hRW⟩, (h1 e).2⟩, h2⟩, hS.alloc _, by rw [VF_3]; rfl⟩
      · intro D a W hD hA hI K' hK'
        obtain ⟨v, b, y, x, s1, s2, s3, j, i, gA, gB, gV, pA, pj, pB, pi, hC, hN, hW, hS, rfl⟩ := hI
        clear hA
        simp only [VF]
        go_simp
        exact hK' _ _ ⟨v, b, y, x, s1, s2, s3, j, i, gA, gB, gV, pA, pj, pB, pi, hC, hN, hW, hS, by rw [VF_4]; rfl⟩
      · intro D a W hD hA hI K' hK'
        obtain ⟨v, b, y, x, s1, s2, s3, j, i, gA, gB, gV, pA, pj, pB, pi, hC, hN, hW, hS, rfl⟩ := hI
        have d4 : D 4 = true := dn hA 0 rfl rfl
        have d1 : D 1 = true := dn hA 1 rfl rfl
        clear hA
        simp only [VF, sl_done d4, sl_done d1]
        go_simp
        obtain ⟨kk, hk, hs⟩ := hS
        have t1 := toNat_le (D 1)
        have t5 := toNat_le (D 5)
        have t10 := toNat_le (D 10)
        refine (pick_any R kk 4 W hs.rd (by omega) (by omega) (by omega)).mono ?_
        rintro e W1 ⟨u, rfl, u0, u1, -, hg, hr⟩
        have u2 := u1 (by omega)
        obtain ⟨q, rfl⟩ := Int.eq_ofNat_of_zero_le u0
        have hk2 : kk + 1 ≤ K + (D 1).toNat + 1 + (D 10).toNat := by rw [hD] at hk; simp only [Bool.toNat_false] at hk; omega
        exact hK' _ _ ⟨v, b, y, x, s1, s2, s3, q, i, gA, gB, gV, pA, pj, pB, pi, hC, ⟨hN.1, fun _ => u2, hN.2.2⟩, hW.pick hg, ⟨kk + 1, hk2, hs.pick hg hr⟩, by rw [VF_5]; simp only [VF, sl_done d4, sl_done d1]; rfl⟩
      · intro D a W hD hA hI K' hK'
        obtain ⟨v, b, y, x, s1, s2, s3, j, i, gA, gB, gV, pA, pj, pB, pi, hC, hN, hW, hS, rfl⟩ := hI
        have d3 : D 3 = true := dn hA 0 rfl rfl
        have d5 : D 5 = true := dn hA 1 rfl rfl
        clear hA
        have j1 := hN.2.1 d5
        simp only [VF, sl_done d3, sl_done d5]
        go_simp
        obtain ⟨h1, h2⟩ := hW
        exact hK' _ _ ⟨v, b, y, x, s1, s2, s3, j, i, gA, gB, gV, gA, j, pB, pi, hC, ⟨hN.1, hN.2.1, fun _ => j1, hN.2.2.2⟩, ⟨fun e => ⟨(h1 e).1, fun _ => (h1 e).1 d3, (h1 e).2.2⟩, h2⟩, hS, by rw [VF_6]; simp only [VF, sl_done d3, sl_done d5]; rfl⟩
      · intro D a W hD hA hI K' hK'
        obtain ⟨v, b, y, x, s1, s2, s3, j, i, gA, gB, gV, pA, pj, pB, pi, hC, hN, hW, hS, rfl⟩ := hI
        have d6 : D 6 = true := dn hA 0 rfl rfl
        clear hA
        have e15 := hC.not7 hD
        obtain ⟨hb, -⟩ := (hW.1 e15).2.1 d6
        obtain ⟨q, hy⟩ := four_at pj (hN.2.2.1 d6)
        have hc := Blk.get hb hy
        clear hb hy
        simp only [VF, sl_done d6]
        go_simp
        exact hK' _ _ ⟨v, b, q, x, s1, s2, s3, j, i, gA, gB, gV, pA, pj, pB, pi, fun e => ⟨rfl, (hC e).2⟩, hN, hW, hS, by rw [VF_7]; simp only [VF, sl_done d6]; rfl⟩
      · intro D a W hD hA hI K' hK'
        obtain ⟨v, b, y, x, s1, s2, s3, j, i, gA, gB, gV, pA, pj, pB, pi, hC, hN, hW, hS, rfl⟩ := hI
        clear hA
        simp only [VF]
        go_simp
        have hRW := hS.lt
        obtain ⟨h1, h2⟩ := hW.alloc (.cells #[.int .i64 1, .int .i64 1, .int .i64 3] 3)
        exact hK' _ _ ⟨v, b, y, x, s1, s2, s3, j, i, gA, W.heap.size, gV, pA, pj, pB, pi, hC, hN, ⟨fun e => ⟨(h1 e).1, (h1 e).2.1, fun _ => ⟨Blk.new _ _ _, hRW⟩, (h1 e).2.2.2⟩, h2⟩, hS.alloc _, by rw [VF_8]; rfl⟩
      · intro D a W hD hA hI K' hK'
        obtain ⟨v, b, y, x, s1, s2, s3, j, i, gA, gB, gV, pA, pj, pB, pi, hC, hN, hW, hS, rfl⟩ := hI
        clear hA
        simp only [VF]
        go_simp
        exact hK' _ _ ⟨v, b, y, x, s1, s2, s3, j, i, gA, gB, gV, pA, pj, pB, pi, hC, hN, hW, hS, by rw [VF_9]; rfl⟩
      · intro D a W hD hA hI K' hK'
        obtain ⟨v, b, y, x, s1, s2, s3, j, i, gA, gB, gV, pA, pj, pB, pi, hC, hN, hW, hS, rfl⟩ := hI
        have d9 : D 9 = true := dn hA 0 rfl rfl
        have d5 : D 5 = true := dn hA 1 rfl rfl
        clear hA
        simp only [VF, sl_done d9, sl_done d5]
        go_simp
        obtain ⟨kk, hk, hs⟩ := hS
        have t1 := toNat_le (D 1)
        have t5 := toNat_le (D 5)
        have t10 := toNat_le (D 10)
        refine (pick_any R kk 3 W hs.rd (by omega) (by omega) (by omega)).mono ?_
        rintro e W1 ⟨u, rfl, u0, u1, -, hg, hr⟩
        have u2 := u1 (by omega)
        obtain ⟨q, rfl⟩ := Int.eq_ofNat_of_zero_le u0
        have hk2 : kk + 1 ≤ K + (D 1).toNat + (D 5).toNat + 1 := by rw [hD] at hk; simp only [Bool.toNat_false] at hk; omega
        exact hK' _ _ ⟨v, b, y, x, s1, s2, s3, j, q, gA, gB, gV, pA, pj, pB, pi, hC, ⟨hN.1, hN.2.1, hN.2.2.1, fun _ => u2, hN.2.2.2.2⟩, hW.pick hg, ⟨kk + 1, hk2, hs.pick hg hr⟩, by rw [VF_10]; simp only [VF, sl_done d9, sl_done d5]; rfl⟩
      · intro D a W hD hA hI K' hK'
        obtain ⟨v, b, y, x, s1, s2, s3, j, i, gA, gB, gV, pA, pj, pB, pi, hC, hN, hW, hS, rfl⟩ := hI
        have d8 : D 8 = true := dn hA 0 rfl rfl
        have d10 : D 10 = true := dn hA 1 rfl rfl
        clear hA
        have j1 := hN.2.2.2.1 d10
        simp only [VF, sl_done d8, sl_done d10]
        go_simp
        obtain ⟨h1, h2⟩ := hW
        exact hK' _ _ ⟨v, b, y, x, s1, s2, s3, j, i, gA, gB, gV, pA, pj, gB, i, hC, ⟨hN.1, hN.2.1, hN.2.2.1, hN.2.2.2.1, fun _ => j1⟩, ⟨fun e => ⟨(h1 e).1, (h1 e).2.1, (h1 e).2.2.1, fun _ => (h1 e).2.2.1 d8⟩, h2⟩, hS, by rw [VF_11]; simp only [VF, sl_done d8, sl_done d10]; rfl⟩
      · intro D a W hD hA hI K' hK'
        obtain ⟨v, b, y, x, s1, s2, s3, j, i, gA, gB, gV, pA, pj, pB, pi, hC, hN, hW, hS, rfl⟩ := hI
        have d11 : D 11 = true := dn hA 0 rfl rfl
        clear hA
        have e15 := hC.not12 hD
        obtain ⟨hb, -⟩ := (hW.1 e15).2.2.2 d11
        obtain ⟨q, hy⟩ := three_at pi (hN.2.2.2.2 d11)
        have hc := Blk.get hb hy
        clear hb hy
        simp only [VF, sl_done d11]
        go_simp
        exact hK' _ _ ⟨v, b, y, q, s1, s2, s3, j, i, gA, gB, gV, pA, pj, pB, pi, fun e => ⟨(hC e).1, rfl⟩, hN, hW, hS, by rw [VF_12]; simp only [VF, sl_done d11]; rfl⟩
      · intro D a W hD hA hI K' hK'
        obtain ⟨v, b, y, x, s1, s2, s3, j, i, gA, gB, gV, pA, pj, pB, pi, hC, hN, hW, hS, rfl⟩ := hI
        have d2 : D 2 = true := dn hA 0 rfl rfl
        have d7 : D 7 = true := dn hA 1 rfl rfl
        have d12 : D 12 = true := dn hA 2 rfl rfl
        clear hA
        simp only [VF, sl_done d2, sl_done d7, sl_done d12]
        go_simp
        exact hK' _ _ ⟨v, b, y, x, b, y, x, j, i, gA, gB, gV, pA, pj, pB, pi, hC, hN, hW, hS, by rw [VF_13]; simp only [VF, sl_done d2, sl_done d7, sl_done d12]; rfl⟩
      · intro D a W hD hA hI K' hK'
        obtain ⟨v, b, y, x, s1, s2, s3, j, i, gA, gB, gV, pA, pj, pB, pi, hC, hN, hW, hS, rfl⟩ := hI
        clear hA
        simp only [VF]
        go_simp
        have hRW := hS.lt
        have hSZ := hS.size
        obtain ⟨h1, h2⟩ := hW.alloc (.cells #[.int .i64 0, .int .i64 0, .int .i64 0] 26)
        exact hK' _ _ ⟨v, b, y, x, s1, s2, s3, j, i, gA, gB, W.heap.size, pA, pj, pB, pi, hC, hN, ⟨h1, fun _ => ⟨⟨0, 0, 0, Blk.new _ _ _, hRW⟩, hSZ⟩⟩, hS.alloc _, by rw [VF_14]; rfl⟩
      · intro D a W hD hA hI K' hK'
        obtain ⟨v, b, y, x, s1, s2, s3, j, i, gA, gB, gV, pA, pj, pB, pi, hC, hN, hW, hS, rfl⟩ := hI
        have d14 : D 14 = true := dn hA 0 rfl rfl
        have d13 : D 13 = true := dn hA 1 rfl rfl
        have d7 : D 7 = true := dn hA 10 rfl rfl
        have d12 : D 12 = true := dn hA 15 rfl rfl
        clear hA
        obtain ⟨h1, h2⟩ := hW
        obtain ⟨⟨x1, x2, x3, hb, hRV⟩, hz⟩ := h2 d14
        have c0 := Blk.get (i := 0) hb rfl
        have c1 := Blk.get (i := 1) hb rfl
        have c2 := Blk.get (i := 2) hb rfl
        have f0 := Blk.frozen hb 0
        have f1 := Blk.frozen hb 1
        have f2 := Blk.frozen hb 2
        simp only [VF, sl_done d14, sl_done d13]
        go_simp
        exact hK' _ _ ⟨v, b, y, x, s1, s2, s3, j, i, gA, gB, gV, pA, pj, pB, pi, fun _ => ⟨d7, d12⟩, hN, ⟨nofun, fun _ => ⟨⟨s1, s2, s3, Blk.put3 hb, hRV⟩, hz⟩⟩, ((hS.set_ hz _ _).set_ hz _ _).set_ hz _ _, by rw [VF_15]; simp only [VF, sl_done d14, sl_done d13]⟩
    · intro D a' w' hd hI
      obtain ⟨v, b, y, x, s1, s2, s3, j, i, gA, gB, gV, pA, pj, pB, pi, hC, hN, ⟨-, h2⟩, ⟨k, hk, hs⟩, rfl⟩ := hI
      have t1 := toNat_le (D 1)
      have t5 := toNat_le (D 5)
      have t10 := toNat_le (D 10)
      obtain ⟨⟨x1, x2, x3, hb, hRV⟩, hz⟩ := h2 (hd 14 (by decide))
      simp only [VF, sl_done (hd 0 (by decide)), sl_done (hd 1 (by decide)), sl_done (hd 2 (by decide)), sl_done (hd 3 (by decide)), sl_done (hd 4 (by decide)), sl_done (hd 5 (by decide)), sl_done (hd 6 (by decide)), sl_done (hd 7 (by decide)), sl_done (hd 8 (by decide)), sl_done (hd 9 (by decide)), sl_done (hd 10 (by decide)), sl_done (hd 11 (by decide)), sl_done (hd 12 (by decide)), sl_done (hd 13 (by decide)), sl_done (hd 14 (by decide))]
      go_wp2_with fail
      go_meet
      exact ⟨gV, rfl, x1, x2, x3, hb, hz, hs.1.mono (by omega), hs.2⟩
  case rest =>
    obtain ⟨g, rfl, P0⟩ := hcut
    clear S0 hs0
    go_wp2_with fail
    refine (odd_any R (K + 3) n _ P0.rd (by omega) (by omega) (by omega)).mono ?_
    rintro e c' ⟨b, rfl, -, hg, hr⟩
    replace P0 := P0.pick hg hr
    clear hg hr
    go_upto_if 22 with fail
    go_cut [] (fun wc => DQ w wc R (K + 6) g 26)
    case first =>
      cases b
      · go_wp2_with fail
        go_meet
        exact P0.mono (by omega)
      go_wp2_with fail
      refine (pick_any R (K + 4) 3 _ (P0.rd) (by omega) (by omega) (by omega)).mono ?_
      rintro e cb ⟨v, rfl, v0, v1, -, hg, hr⟩
      replace v1 := v1 (by omega)
      replace P0 := P0.pick hg hr
      clear hg hr
      obtain ⟨x, y, z, c0, c1, c2, f0, f1, f2, zz⟩ := P0.cells
      have hv3 : v = 0 ∨ v = 1 ∨ v = 2 := by omega
      rcases hv3 with rfl | rfl | rfl
      · skip
        go_wp2_with fail
        refine (pick_any R (K + 5) 3 _ (RdOk.alloc P0.rd _) (by omega) (by omega) (by omega)).mono ?_
        rintro e ca ⟨v, rfl, v0, v1, -, hg, hr⟩
        replace v1 := v1 (by omega)
        have Q := (P0.alloc _).pick hg hr
        have B := (Blk.new _ _ _).grown hg (fun e => by have := P0.rd.lt; injection e; omega)
        have b0 := Blk.get (i := 0) B rfl
        have b1 := Blk.get (i := 1) B rfl
        have b2 := Blk.get (i := 2) B rfl
        clear hg hr B
        obtain ⟨x', y', z', c0', c1', c2', f0', f1', f2', zz'⟩ := Q.cells
        have hv : v = 0 ∨ v = 1 ∨ v = 2 := by omega
        rcases hv with rfl | rfl | rfl
        all_goals
          go_wp2_with fail
          go_meet
          exact (Q.set0 _).mono (by omega)
      · skip
        go_wp2_with fail
        refine (pick_any R (K + 5) 2 _ (RdOk.alloc P0.rd _) (by omega) (by omega) (by omega)).mono ?_
        rintro e ca ⟨v, rfl, v0, v1, -, hg, hr⟩
        replace v1 := v1 (by omega)
        have Q := (P0.alloc _).pick hg hr
        have B := (Blk.new _ _ _).grown hg (fun e => by have := P0.rd.lt; injection e; omega)
        have b0 := Blk.get (i := 0) B rfl
        have b1 := Blk.get (i := 1) B rfl
        clear hg hr B
        obtain ⟨x', y', z', c0', c1', c2', f0', f1', f2', zz'⟩ := Q.cells
        have hv : v = 0 ∨ v = 1 := by omega
        rcases hv with rfl | rfl
        all_goals
          go_wp2_with fail
          go_meet
          exact (Q.set1 _).mono (by omega)
      · skip
        go_wp2_with fail
        refine (pick_any R (K + 5) 2 _ (RdOk.alloc P0.rd _) (by omega) (by omega) (by omega)).mono ?_
        rintro e ca ⟨v, rfl, v0, v1, -, hg, hr⟩
        replace v1 := v1 (by omega)
        have Q := (P0.alloc _).pick hg hr
        have B := (Blk.new _ _ _).grown hg (fun e => by have := P0.rd.lt; injection e; omega)
        have b0 := Blk.get (i := 0) B rfl
        have b1 := Blk.get (i := 1) B rfl
        clear hg hr B
        obtain ⟨x', y', z', c0', c1', c2', f0', f1', f2', zz'⟩ := Q.cells
        have hv : v = 0 ∨ v = 1 := by omega
        rcases hv with rfl | rfl
        all_goals
          go_wp2_with fail
          go_meet
          exact (Q.set2 _).mono (by omega)
    case rest =>
      clear P0
      obtain ⟨s, a, o, B, hg, D, Z⟩ := hcut
      have b0 := Blk.get (i := 0) B rfl
      have b1 := Blk.get (i := 1) B rfl
      have b2 := Blk.get (i := 2) B rfl
      have z0 := Blk.get (i := 0) Z rfl
      have y0 := Blk.frozen Z 0
      have z1 := Blk.get (i := 1) Z rfl
      have y1 := Blk.frozen Z 1
      have z2 := Blk.get (i := 2) Z rfl
      have y2 := Blk.frozen Z 2
      have zl := Z.lt
      clear Z B
      go_wp2_with fail
      refine bodyPost_ret (v := .agg #[.int .i64 s, .int .i64 a, .int .i64 o]) (by simp [results, Try.results39, go_sem, *]) rfl ⟨s, a, o, rfl, ?_⟩
      exact (((D.set_ (Nat.le_refl _) _).set_ (Nat.le_refl _) _).set_ (Nat.le_refl _) _).mono (by omega)

end Go.Proofs.Ytgbnaimkpnoeoaa
