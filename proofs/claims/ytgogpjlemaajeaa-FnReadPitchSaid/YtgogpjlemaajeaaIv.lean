/- A law of regions that draw their order: what each operation keeps, in whatever state it comes up, stands at the end. No condition but that each operation waits for earlier ones alone. -/
import Derived.RegionTactic
import Derived.NoCompiler
namespace Go.Proofs.Ytgogpjlemaajeaa

theorem countP_less {p q : Nat → Bool} {l : List Nat} (h : ∀ x, p x = true → q x = true) (y : Nat) (hy : y ∈ l) (hp : p y = false) (hq : q y = true) : l.countP p < l.countP q := by
  induction l with
  | nil => cases hy
  | cons x l ih =>
    have hm : l.countP p ≤ l.countP q := List.countP_mono_left fun x _ hx => h x hx
    rcases List.mem_cons.1 hy with rfl | hy
    · rw [List.countP_cons, List.countP_cons, hp, hq]
      simp
      omega
    · have := ih hy
      rw [List.countP_cons, List.countP_cons]
      have hx := h x
      cases hpx : p x
      · simp
        omega
      · rw [hx hpx]
        simp
        omega

/-- Each operation waits for earlier ones alone. -/
def waitsBack (md : Region.Mode) (ops : Array Oper) : Bool :=
  (List.range ops.size).all fun i => ((ops[i]?).map fun o => o.after.all fun e => !Region.binds md e || decide (e.on < i)).getD true

theorem waitsBack_at {md : Region.Mode} {ops : Array Oper} (h : waitsBack md ops = true) (i : Nat) (o : Oper) (ho : ops[i]? = some o) :
    ∀ e ∈ o.after, Region.binds md e = true → e.on < i := by
  intro e he hb
  have hlt : i < ops.size := (Array.getElem?_eq_some_iff.1 ho).1
  unfold waitsBack at h
  rw [List.all_eq_true] at h
  have h1 := h i (List.mem_range.2 hlt)
  rw [ho] at h1
  simp only [Option.map_some, Option.getD_some, Array.all_eq_true_iff_forall_mem] at h1
  have h2 := h1 e he
  rw [hb] at h2
  simpa using h2

def undone (ops : Array Oper) (listed : Array Bool) : Nat := (List.range ops.size).countP fun j => !listed.getD j true

section
variable {P : Program} {ops : Array Oper} {Q : Exit → Act → World → Prop} {md : Region.Mode}

theorem all_done (hb : waitsBack md ops = true) {listed : Array Bool} (hs : listed.size = ops.size) (h : Region.ready md ops listed = []) : ∀ j, j < ops.size → listed.getD j false = true := by
  intro j
  induction j using Nat.strongRecOn with
  | ind j ih =>
    intro hj
    cases hd : listed.getD j false with
    | true => rfl
    | false =>
      exfalso
      have ho : ops[j]? = some ops[j] := Array.getElem?_eq_getElem hj
      have hm : j ∈ Region.ready md ops listed := by
        refine mem_ready.2 ⟨?_, _, ho, fun e he hbd => ?_⟩
        · have hj' : j < listed.size := by omega
          simpa [hj'] using hd
        · have := waitsBack_at hb j _ ho e he hbd
          exact ih _ this (by omega)
      rw [h] at hm
      cases hm

theorem wpAny_inv_go {I : (Nat → Bool) → Act → World → Prop} (hb : waitsBack md ops = true)
    (step : ∀ (i : Nat) (o : Oper), ops[i]? = some o → ∀ (D : Nat → Bool) (a : Act) (w : World), D i = false → (∀ e ∈ o.after, Region.binds md e = true → D e.on = true) → I D a w →
      wpOp P ops Q i (I fun j => j == i || D j) a w)
    (done : ∀ (D : Nat → Bool) (a : Act) (w : World), (∀ j, j < ops.size → D j = true) → I D a w → Q .normal a w) :
    ∀ (fuel : Nat) (listed : Array Bool) (a : Act) (w : World), listed.size = ops.size → undone ops listed ≤ fuel → I (fun j => listed.getD j false) a w → wpAny P md ops Q fuel listed a w := by
  intro fuel
  induction fuel with
  | zero =>
    intro listed a w hs hu hI
    have hz : ∀ j, j < ops.size → listed.getD j true = true := by
      intro j hj
      unfold undone at hu
      have := List.countP_eq_zero.1 (Nat.le_zero.1 hu) j (List.mem_range.2 hj)
      simpa using this
    have hr : Region.ready md ops listed = [] := by
      rw [List.eq_nil_iff_forall_not_mem]
      intro j hj
      obtain ⟨h1, o, ho, -⟩ := mem_ready.1 hj
      have hlt : j < ops.size := (Array.getElem?_eq_some_iff.1 ho).1
      rw [hz j hlt] at h1
      cases h1
    exact ⟨hr, done _ a w (all_done hb hs hr) hI⟩
  | succ fuel ih =>
    intro listed a w hs hu hI
    refine ⟨fun hr => done _ a w (all_done hb hs hr) hI, fun i hi => ?_⟩
    obtain ⟨h1, o, ho, hall⟩ := mem_ready.1 hi
    have hlt : i < ops.size := (Array.getElem?_eq_some_iff.1 ho).1
    have hlt' : i < listed.size := by omega
    have h1' : listed.getD i false = false := by simpa [hlt'] using h1
    refine wpOp_mono (fun a' w' hI' => ih _ a' w' (by simpa using hs) ?_ ?_) (step i o ho _ a w h1' hall hI)
    · have : undone ops (listed.setIfInBounds i true) < undone ops listed := by
        unfold undone
        refine countP_less (fun x hx => ?_) i (List.mem_range.2 hlt) ?_ ?_
        · by_cases hix : i = x
          · subst hix
            rw [h1]
            rfl
          · rwa [getD_set_ne true hix] at hx
        · simp [hlt']
        · rw [h1]
          rfl
      omega
    · have e : (fun j => (listed.setIfInBounds i true).getD j false) = fun j => j == i || listed.getD j false := by
        funext j
        by_cases hij : i = j
        · subst hij
          simp [hlt']
        · rw [getD_set_ne false hij]
          have : (j == i) = false := by simpa using fun e : j = i => hij e.symm
          rw [this]
          rfl
      rw [e]
      exact hI'

/-- A region that draws its order, by what its operations keep. -/
theorem wp_region_inv {id : Nat} {a : Act} {w : World} (I : (Nat → Bool) → Act → World → Prop) (hm : P.follows .mixedOrders = true) (hb : waitsBack .any ops = true)
    (step : ∀ (i : Nat) (o : Oper), ops[i]? = some o → ∀ (D : Nat → Bool) (a : Act) (w : World), D i = false → (∀ e ∈ o.after, Region.binds .any e = true → D e.on = true) → I D a w →
      wpOp P ops Q i (I fun j => j == i || D j) a w)
    (done : ∀ (D : Nat → Bool) (a : Act) (w : World), (∀ j, j < ops.size → D j = true) → I D a w → Q .normal a w)
    (h : I (fun _ => false) a w.drew) : (Code.region id ops true).wp P Q a w := by
  refine wp_region_any hm (wpAny_inv_go hb step done _ _ _ _ (by simp) ?_ ?_)
  · unfold undone
    refine Nat.le_trans List.countP_le_length ?_
    simp
  · have e : (fun j => (Array.replicate ops.size false).getD j false) = fun _ => false := by
      funext j
      by_cases hj : j < ops.size
      · simp [hj]
      · simp [hj]
    rw [e]
    exact h

/-- The steps, operation by operation. -/
def AllSteps (P : Program) (ops : Array Oper) (Q : Exit → Act → World → Prop) (I : (Nat → Bool) → Act → World → Prop) (k : Nat) (l : List Oper) : Prop :=
  ∀ (i : Nat) (o : Oper), l[i]? = some o → ∀ (D : Nat → Bool) (a : Act) (w : World), D (k + i) = false → (∀ e ∈ o.after, Region.binds .any e = true → D e.on = true) → I D a w →
    wpOp P ops Q (k + i) (I fun j => j == k + i || D j) a w
theorem AllSteps.nil {I : (Nat → Bool) → Act → World → Prop} {k : Nat} : AllSteps P ops Q I k [] := fun i o h => by simp at h
theorem AllSteps.cons {I : (Nat → Bool) → Act → World → Prop} {k k' : Nat} {o : Oper} {l : List Oper} (ho : ops[k]? = some o) (hk : k' = k + 1)
    (h : ∀ (D : Nat → Bool) (a : Act) (w : World), D k = false → (∀ e ∈ o.after, Region.binds .any e = true → D e.on = true) → I D a w →
      ∀ K' : Act → World → Prop, (∀ a w, I (fun j => j == k || D j) a w → K' a w) → if Region.wanted o (yielded ops a.tmps) = true then Oper.wp P o a w K' Q else K' (a.put o.dst undef) w)
    (hs : AllSteps P ops Q I k' l) : AllSteps P ops Q I k (o :: l) := by
  subst hk
  intro i o' hi D a w hD ha hI
  cases i with
  | zero =>
    obtain rfl : o = o' := by simpa using hi
    exact wpOp_step ho (h D a w hD ha hI)
  | succ i =>
    have e : k + (i + 1) = k + 1 + i := by omega
    rw [e] at hD ⊢
    exact hs i o' (by simpa using hi) D a w hD ha hI
theorem wp_region_steps {id : Nat} {a : Act} {w : World} {l : List Oper} (I : (Nat → Bool) → Act → World → Prop) (hm : P.follows .mixedOrders = true) (hb : waitsBack .any l.toArray = true)
    (step : AllSteps P l.toArray Q I 0 l)
    (done : ∀ (D : Nat → Bool) (a : Act) (w : World), (∀ j, j < l.length → D j = true) → I D a w → Q .normal a w)
    (h : I (fun _ => false) a w.drew) : (Code.region id l.toArray true).wp P Q a w := by
  refine wp_region_inv I hm hb (fun i o ho D a w hD ha hI => ?_) (fun D a w hD hI => done D a w (fun j hj => hD j (by simpa using hj)) hI) h
  have := step i o (by simpa using ho) D a w (by simpa using hD) ha hI
  simpa using this
/-- The same, with what is kept said of the state that the region begins in. -/
theorem wp_region_from {id : Nat} {a : Act} {w : World} {l : List Oper} (I : Act → World → (Nat → Bool) → Act → World → Prop) (hm : P.follows .mixedOrders = true) (hb : waitsBack .any l.toArray = true)
    (h : I a w.drew (fun _ => false) a w.drew)
    (step : AllSteps P l.toArray Q (I a w.drew) 0 l)
    (done : ∀ (D : Nat → Bool) (a' : Act) (w' : World), (∀ j, j < l.length → D j = true) → I a w.drew D a' w' → Q .normal a' w') : (Code.region id l.toArray true).wp P Q a w :=
  wp_region_steps (I a w.drew) hm hb step done h
/-- What is still to come in a slot. -/
def sl (D : Nat → Bool) (k : Nat) (v : Value) : Value := if D k = true then v else undef
theorem sl_done {D : Nat → Bool} {k : Nat} {v : Value} (h : D k = true) : sl D k v = v := if_pos h
theorem sl_not {D : Nat → Bool} {k : Nat} {v : Value} (h : D k = false) : sl D k v = undef := if_neg (by rw [h]; exact Bool.false_ne_true)
/-- What an operation waits for has come up. -/
theorem dn {D : Nat → Bool} {l : List Edge} (h : ∀ e ∈ l.toArray, Region.binds .any e = true → D e.on = true) (i : Nat) {e : Edge} (he : l[i]? = some e) (hb : Region.binds .any e = true) : D e.on = true :=
  h e (by simpa using List.mem_of_getElem? he) hb
theorem sl_same {D : Nat → Bool} {k i : Nat} {v : Value} (h : (k == i) = false) : sl (fun j => j == i || D j) k v = sl D k v := by
  show (if ((k == i) || D k) = true then v else undef) = _
  rw [h]
  rfl
theorem sl_now {D : Nat → Bool} {k : Nat} {v : Value} : sl (fun j => j == k || D j) k v = v := by
  show (if ((k == k) || D k) = true then v else undef) = _
  rw [show (k == k) = true from by simp]
  rfl
end
end Go.Proofs.Ytgogpjlemaajeaa
