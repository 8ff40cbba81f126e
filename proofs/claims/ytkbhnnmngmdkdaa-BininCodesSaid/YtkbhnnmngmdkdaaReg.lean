import Derived.OrdersHeld
import Derived.RegionTactic
import Derived.Below
namespace Go.Proofs.Ytkbhnnmngmdkdaa.Reg
open Go Go.RowKit
section
variable {P : Program} {ops : Array Oper} {Q : Exit → Act → World → Prop}
def putAll : Act → List (Tmp × Value) → Act
  | a, [] => a
  | a, (n, v) :: r => putAll (a.put (some n) v) r
/-- Every operation of the region has a slot of its own, no guard, and waits for earlier ones alone. -/
def okB (ops : Array Oper) (m : Nat) : Bool :=
  (List.range ops.size).all (fun i => match ops[i]? with
    | some o => o.guard.isNone && (match o.dst with | some n => decide (n < m) | none => false) && o.after.all (fun e => !Region.binds .any e || decide (e.on < i)) &&
        (List.range ops.size).all (fun j => decide (j = i) || match ops[j]? with | some p => decide (p.dst ≠ o.dst) | none => true)
    | none => true)
theorem okB_at {m : Nat} (h : okB ops m = true) {i : Nat} {o : Oper} (hi : ops[i]? = some o) :
    o.guard = none ∧ (∃ n, o.dst = some n ∧ n < m) ∧ (∀ e ∈ o.after, Region.binds .any e = true → e.on < i) ∧ ∀ j p, j ≠ i → ops[j]? = some p → p.dst ≠ o.dst := by
  have hlt : i < ops.size := (Array.getElem?_eq_some_iff.1 hi).1
  have h1 := List.all_eq_true.1 h i (List.mem_range.2 hlt)
  simp only [hi, Bool.and_eq_true] at h1
  obtain ⟨⟨⟨h1, h2⟩, h3⟩, h4⟩ := h1
  refine ⟨by simpa using h1, ?_, ?_, ?_⟩
  · cases hd : o.dst with
    | none => rw [hd] at h2; cases h2
    | some n => rw [hd] at h2; exact ⟨n, rfl, by simpa using h2⟩
  · intro e he
    intro hbd
    have := Array.all_eq_true_iff_forall_mem.1 h3 e he
    simpa [hbd] using this
  · intro j p hji hj
    have hjlt : j < ops.size := (Array.getElem?_eq_some_iff.1 hj).1
    have := List.all_eq_true.1 h4 j (List.mem_range.2 hjlt)
    simpa [hj, hji] using this
theorem putAll_size : ∀ (L : List (Tmp × Value)) (a : Act), (putAll a L).tmps.size = a.tmps.size
  | [], _ => rfl
  | (n, v) :: r, a => by rw [putAll, putAll_size r]; simp [Act.put]
theorem putAll_defers : ∀ (L : List (Tmp × Value)) (a : Act), (putAll a L).defers = a.defers
  | [], _ => rfl
  | (n, v) :: r, a => by rw [putAll, putAll_defers r]; simp [Act.put]
theorem putAll_get (f : Tmp → Value) (t : Nat) : ∀ (D : List Tmp) (a : Act), t < a.tmps.size → (putAll a (D.map fun n => (n, f n))).tmps.getD t undef = if t ∈ D then f t else a.tmps.getD t undef
  | [], a, _ => by simp [putAll]
  | n :: r, a, h => by
    rw [List.map_cons, putAll, putAll_get f t r _ (by simpa [Act.put] using h)]
    by_cases hr : t ∈ r
    · simp [hr]
    · by_cases hn : t = n
      · subst hn
        simp [hr, Act.put, h]
      · have : ¬ n = t := fun e => hn e.symm
        simp [hr, hn, Act.put, this]
theorem act_ext {a b : Act} (h1 : a.defers = b.defers) (h2 : a.tmps.size = b.tmps.size) (h3 : ∀ t, t < a.tmps.size → a.tmps.getD t undef = b.tmps.getD t undef) : a = b := by
  cases a with
  | mk ta da =>
    cases b with
    | mk tb db =>
      have : ta = tb := by
        refine Array.ext h2 fun i hi hj => ?_
        have := h3 i hi
        simpa [hi, hj, show i < ta.size from hi, show i < tb.size from hj] using this
      subst this
      have : da = db := h1
      subst this
      rfl
structure Known (ops : Array Oper) (φ : Nat → Value → World → Prop) (a0 a : Act) (w : World) (listed : Array Bool) : Prop where
  defers : a.defers = a0.defers
  size : a.tmps.size = a0.tmps.size
  old : ∀ t, (∀ (j : Nat) (oj : Oper), ops[j]? = some oj → oj.dst ≠ some t) → a.tmps.getD t undef = a0.tmps.getD t undef
  val : ∀ (j : Nat) (oj : Oper) (n : Tmp), ops[j]? = some oj → oj.dst = some n → listed.getD j false = true → φ j (a.tmps.getD n undef) w
/-- What is shown of one operation. -/
def StepOk (P : Program) (ops : Array Oper) (Q : Exit → Act → World → Prop) (φ : Nat → Value → World → Prop) (a0 : Act) (w0 : World) (i : Nat) (o : Oper) : Prop :=
  ∀ (a : Act) (w : World), Below w0.heap.size w0 w → (∀ t, (∀ (j : Nat) (oj : Oper), ops[j]? = some oj → oj.dst ≠ some t) → a.tmps.getD t undef = a0.tmps.getD t undef) →
    (∀ (j : Nat) (oj : Oper) (n : Tmp), ops[j]? = some oj → oj.dst = some n → o.after.any (fun e => Region.binds .any e && e.on == j) = true → φ j (a.tmps.getD n undef) w) →
    Oper.wp P o a w (fun a' w' => ∃ v, a' = a.put o.dst v ∧ φ i v w' ∧ Below w.heap.size w w') Q
def StepsFrom (P : Program) (ops : Array Oper) (Q : Exit → Act → World → Prop) (φ : Nat → Value → World → Prop) (a0 : Act) (w0 : World) : Nat → List Oper → Prop
  | _, [] => True
  | k, o :: l => StepOk P ops Q φ a0 w0 k o ∧ StepsFrom P ops Q φ a0 w0 (k + 1) l
theorem stepsFrom_at {φ : Nat → Value → World → Prop} {a0 : Act} {w0 : World} : ∀ (l : List Oper) (k : Nat), StepsFrom P ops Q φ a0 w0 k l → ∀ i o, l[i]? = some o → StepOk P ops Q φ a0 w0 (k + i) o
  | [], _, _, _, _, h => by simp at h
  | o :: l, k, h, 0, o', h' => by
    obtain rfl : o = o' := by simpa using h'
    exact h.1
  | o :: l, k, h, i + 1, o', h' => by
    have := stepsFrom_at l (k + 1) h.2 i o' (by simpa using h')
    rwa [Nat.add_assoc, Nat.add_comm 1 i] at this
theorem filter_lt {α : Type} {p q : α → Bool} {x : α} : ∀ {l : List α}, (∀ y, q y = true → p y = true) → x ∈ l → p x = true → q x = false → (l.filter q).length < (l.filter p).length
  | [], _, h, _, _ => by cases h
  | y :: l, hpq, hx, hp, hq => by
    have hle : ∀ l : List α, (l.filter q).length ≤ (l.filter p).length := fun l => by
      induction l with
      | nil => simp
      | cons z l ih =>
        rw [List.filter_cons, List.filter_cons]
        by_cases hz : q z = true
        · rw [if_pos hz, if_pos (hpq z hz)]; simpa using ih
        · rw [if_neg hz]; split
          · rw [List.length_cons]; omega
          · exact ih
    rw [List.filter_cons, List.filter_cons]
    rcases List.mem_cons.1 hx with rfl | hx
    · rw [if_pos hp, if_neg (by simp [hq]), List.length_cons]
      have := hle l
      omega
    · have ih := filter_lt hpq hx hp hq
      by_cases hz : q y = true
      · rw [if_pos hz, if_pos (hpq y hz), List.length_cons, List.length_cons]; omega
      · rw [if_neg hz]; split
        · rw [List.length_cons]; omega
        · exact ih
def unl (n : Nat) (listed : Array Bool) : Nat := ((List.range n).filter fun i => !listed.getD i true).length
theorem all_of_ready {m : Nat} (hok : okB ops m = true) {listed : Array Bool} (hls : listed.size = ops.size) (hr : Region.ready .any ops listed = []) : ∀ i, i < ops.size → listed.getD i false = true := by
  intro i
  induction i using Nat.strongRecOn with
  | _ i ih =>
    intro hi
    cases hl : listed.getD i false with
    | true => rfl
    | false =>
      exfalso
      have hi2 : listed.getD i true = false := by
        have hlt : i < listed.size := by omega
        simp [hlt] at hl ⊢
        exact hl
      have hmem : i ∈ Region.ready .any ops listed := by
        refine mem_ready.2 ⟨hi2, ops[i], Array.getElem?_eq_getElem hi, fun e he hbd => ?_⟩
        have := (okB_at hok (Array.getElem?_eq_getElem hi)).2.2.1 e he hbd
        exact ih e.on this (by omega)
      rw [hr] at hmem
      cases hmem
theorem any_go {φ : Nat → Value → World → Prop} {a0 : Act} {w0 : World} (hok : okB ops a0.tmps.size = true) (hstay : ∀ i v w w1, Below w.heap.size w w1 → φ i v w → φ i v w1)
    (hstep : ∀ i o, ops[i]? = some o → StepOk P ops Q φ a0 w0 i o)
    (hend : ∀ a w, Below w0.heap.size w0 w → (∃ listed : Array Bool, Known ops φ a0 a w listed ∧ ∀ i, i < ops.size → listed.getD i false = true) → Q .normal a w) :
    ∀ (fuel : Nat) (listed : Array Bool) (a : Act) (w : World), listed.size = ops.size → unl ops.size listed ≤ fuel → Known ops φ a0 a w listed → Below w0.heap.size w0 w → wpAny P .any ops Q fuel listed a w := by
  intro fuel
  induction fuel with
  | zero =>
    intro listed a w hls hu hk hb
    have hr : Region.ready .any ops listed = [] := by
      cases hr : Region.ready .any ops listed with
      | nil => rfl
      | cons i r =>
        exfalso
        have hi : i ∈ Region.ready .any ops listed := by rw [hr]; simp
        obtain ⟨h1, o, ho, _⟩ := mem_ready.1 hi
        have hlt : i < ops.size := (Array.getElem?_eq_some_iff.1 ho).1
        have : i ∈ (List.range ops.size).filter fun i => !listed.getD i true := List.mem_filter.2 ⟨List.mem_range.2 hlt, by rw [h1]; rfl⟩
        have := List.length_pos_of_mem this
        unfold unl at hu
        omega
    exact ⟨hr, hend a w hb ⟨listed, hk, all_of_ready hok hls hr⟩⟩
  | succ fuel ih =>
    intro listed a w hls hu hk hb
    refine ⟨fun hr => hend a w hb ⟨listed, hk, all_of_ready hok hls hr⟩, fun i hi => ?_⟩
    obtain ⟨h1, o, ho, hall⟩ := mem_ready.1 hi
    have hlt : i < ops.size := (Array.getElem?_eq_some_iff.1 ho).1
    obtain ⟨hg, ⟨n, hn, hnm⟩, hearly, hdist⟩ := okB_at hok ho
    refine wpOp_step ho fun K hK => ?_
    have hw : Region.wanted o (yielded ops a.tmps) = true := by simp [Region.wanted, hg]
    rw [if_pos hw]
    refine Oper.wp_mono ?_ (hstep i o ho a w hb hk.old (fun j oj nj hj hnj hany => ?_))
    · rintro a' w' ⟨v, rfl, hv, hbw⟩
      refine hK _ _ (ih (listed.setIfInBounds i true) _ _ (by simpa using hls) ?_ ?_ (hb.trans (hbw.mono hb.size)))
      · have : unl ops.size (listed.setIfInBounds i true) < unl ops.size listed := by
          refine filter_lt (x := i) (fun y hy => ?_) (List.mem_range.2 hlt) (by rw [h1]; rfl) ?_
          · by_cases hyi : i = y
            · subst hyi; rw [h1]; rfl
            · rw [getD_set_ne true hyi] at hy; exact hy
          · have : i < listed.size := by omega
            simp [this]
        omega
      · refine ⟨?_, ?_, ?_, ?_⟩
        · rw [← hk.defers]; simp [Act.put]; split <;> rfl
        · rw [← hk.size]; rw [hn]; simp [Act.put]
        · intro t ht
          rw [← hk.old t ht, hn]
          have : n ≠ t := fun e => ht i o ho (by rw [hn, e])
          simp [Act.put, this]
        · intro j oj nj hj hnj hl
          by_cases hij : i = j
          · subst hij
            obtain rfl : o = oj := Option.some.inj (ho.symm.trans hj)
            rw [hn] at hnj
            obtain rfl : n = nj := Option.some.inj hnj
            rw [hn]
            have : n < a.tmps.size := by rw [hk.size]; exact hnm
            simpa [Act.put, this] using hv
          · rw [getD_set_ne false hij] at hl
            have hne : n ≠ nj := fun e => hdist j oj (fun e => hij e.symm) hj (by rw [hnj, hn, e])
            have := hstay _ _ _ _ hbw (hk.val j oj nj hj hnj hl)
            rw [hn]
            simpa [Act.put, Array.getElem?_setIfInBounds, hne] using this
    · obtain ⟨e, he, hb2⟩ := Array.any_eq_true'.1 hany
      simp only [Bool.and_eq_true, beq_iff_eq] at hb2
      exact hk.val j oj nj hj hnj (by rw [← hb2.2]; exact hall e he hb2.1)
/-- A REGION THAT DRAWS ITS ORDER, WHATEVER THE ORDER: each operation is shown once, over what it waits for; a fact of a slot stays while what was there stays. -/
theorem region_any {id : Nat} {a0 : Act} {w0 : World} (m : Nat) (hm : P.follows .mixedOrders = true) (hsz : a0.tmps.size = m) (hok : okB ops m = true) (φ : Nat → Value → World → Prop)
    (hstay : ∀ i v w w1, Below w.heap.size w w1 → φ i v w → φ i v w1)
    (hsteps : StepsFrom P ops Q φ a0 w0 0 ops.toList)
    (hend : ∀ (f : Tmp → Value) (w : World), Below w0.heap.size w0 w → (∀ (j : Nat) (oj : Oper) (n : Tmp), ops[j]? = some oj → oj.dst = some n → φ j (f n) w) → Q .normal (putAll a0 ((ops.toList.filterMap (·.dst)).map fun n => (n, f n))) w) :
    (Code.region id ops true).wp P Q a0 w0 := by
  subst hsz
  refine wp_region_any hm ?_
  refine any_go (w0 := w0) hok hstay (fun i o hi => ?_) (fun a w hb hk => ?_) _ _ _ _ (by simp) ?_ ?_ ?_
  · have := stepsFrom_at ops.toList 0 hsteps i o (by simpa using hi)
    rwa [Nat.zero_add] at this
  · obtain ⟨listed, hk, hall⟩ := hk
    have := hend (fun n => a.tmps.getD n undef) w hb (fun j oj n hj hn => hk.val j oj n hj hn (hall j (Array.getElem?_eq_some_iff.1 hj).1))
    refine Eq.mp (congrArg (fun x => Q .normal x w) (act_ext ?_ ?_ ?_)) this
    · rw [putAll_defers]; exact hk.defers.symm
    · rw [putAll_size]; exact hk.size.symm
    · intro t ht
      rw [putAll_size] at ht
      rw [putAll_get _ _ _ _ ht]
      by_cases hd : t ∈ ops.toList.filterMap (·.dst)
      · rw [if_pos hd]
      · rw [if_neg hd]
        refine (hk.old t (fun j oj hj e => hd ?_)).symm
        exact List.mem_filterMap.2 ⟨oj, List.mem_of_getElem? (by simpa using hj), e⟩
  · unfold unl
    refine Nat.le_trans (List.length_filter_le _ _) ?_
    simp
  · refine ⟨rfl, rfl, fun _ _ => rfl, fun j oj n hj hn hl => ?_⟩
    simp at hl
    by_cases h : j < ops.size
    · simp [h] at hl
    · simp [h] at hl
  · exact ⟨rfl, rfl, rfl, Nat.le_refl _, fun _ _ => rfl⟩
/-- What an operation's value says; it stays while what was there stays. -/
structure Fact where
  p : Value → World → Prop
  stay : ∀ v w w1, Below w.heap.size w w1 → p v w → p v w1
def Fact.eq (x : Value) : Fact := ⟨fun v _ => v = x, fun _ _ _ _ h => h⟩
def Fact.tt : Fact := ⟨fun _ _ => True, fun _ _ _ _ h => h⟩
def factAt (Φ : List Fact) (i : Nat) (v : Value) (w : World) : Prop := (Φ.getD i Fact.tt).p v w
def noDst (ops : Array Oper) (t : Tmp) : Bool := ops.all fun o => o.dst != some t
/-- One operation, over what it waits for. -/
def Step (P : Program) (ops : Array Oper) (Q : Exit → Act → World → Prop) (Φ : List Fact) (a0 : Act) (w0 : World) (i : Nat) (o : Oper) : Prop :=
  ∀ (a : Act) (w : World), Below w0.heap.size w0 w → (∀ t, noDst ops t = true → a.tmps.getD t undef = a0.tmps.getD t undef) →
    (∀ (j : Nat) (oj : Oper) (n : Tmp), ops[j]? = some oj → oj.dst = some n → o.after.any (fun e => Region.binds .any e && e.on == j) = true → (Φ.getD j Fact.tt).p (a.tmps.getD n undef) w) →
    ∀ K : Act → World → Prop, (∀ v w', (Φ.getD i Fact.tt).p v w' → Below w.heap.size w w' → K (a.put o.dst v) w') → Oper.wp P o a w K Q
def Steps (P : Program) (ops : Array Oper) (Q : Exit → Act → World → Prop) (Φ : List Fact) (a0 : Act) (w0 : World) : Nat → List Oper → Prop
  | _, [] => True
  | k, o :: l => Step P ops Q Φ a0 w0 k o ∧ Steps P ops Q Φ a0 w0 (k + 1) l
theorem steps_from {Φ : List Fact} {a0 : Act} {w0 : World} : ∀ (l : List Oper) (k : Nat), Steps P ops Q Φ a0 w0 k l → StepsFrom P ops Q (factAt Φ) a0 w0 k l
  | [], _, _ => trivial
  | o :: l, k, h => by
    refine ⟨fun a w hB hfr hd => ?_, steps_from l (k + 1) h.2⟩
    refine h.1 a w hB (fun t ht => hfr t (fun j oj hj e => ?_)) hd _ (fun v w' hv hb => ⟨v, rfl, hv, hb⟩)
    have hlt : j < ops.size := (Array.getElem?_eq_some_iff.1 hj).1
    have he : ops[j] = oj := (Array.getElem?_eq_some_iff.1 hj).2
    have := Array.all_eq_true.1 ht j hlt
    rw [he, e] at this
    simp at this
theorem region_facts {id : Nat} {a0 : Act} {w0 : World} (m : Nat) (Φ : List Fact) (hm : P.follows .mixedOrders = true) (hsz : a0.tmps.size = m) (hok : okB ops m = true)
    (hsteps : Steps P ops Q Φ a0 w0 0 ops.toList)
    (hend : ∀ (f : Tmp → Value) (w : World), Below w0.heap.size w0 w → (∀ (j : Nat) (oj : Oper) (n : Tmp), ops[j]? = some oj → oj.dst = some n → (Φ.getD j Fact.tt).p (f n) w) → Q .normal (putAll a0 ((ops.toList.filterMap (·.dst)).map fun n => (n, f n))) w) :
    (Code.region id ops true).wp P Q a0 w0 :=
  region_any m hm hsz hok (factAt Φ) (fun i v w w1 hb h => (Φ.getD i Fact.tt).stay v w w1 hb h) (steps_from _ _ hsteps) hend
/-- An operation that yields. -/
theorem step_value {o : Oper} {a : Act} {w w1 : World} {v : Value} {K : Act → World → Prop} (hrun : (execOp a.eval o).run P w = .ok (.value v) w1) (h : K (a.put o.dst v) w1) : Oper.wp P o a w K Q := by
  unfold Oper.wp
  rw [hrun]
  exact h
/-- A call by its contract. -/
theorem step_call {o : Oper} {a : Act} {w : World} {K : Act → World → Prop} {f : FuncId} {fn : Func} {as : Array Operand} {ts : Array TypeId} (hf : P.funcs[f]? = some fn) (hname : (fn.name == "runtime.NumGoroutine") = false) (hb : fn.body.isSome = true) (args : Array Value)
    (hop : o.op = .call { callee := .value (.func f), args := as, argTypes := ts }) (hargs : as.map a.eval = args)
    (h : Calls P f args w fun e w' => ∃ v, e = .returned v ∧ K (a.put o.dst v) w') : Oper.wp P o a w K Q := by
  have he : (callFunc f args).run P w = .ok (.enter f args) w := by
    have h1 : fn.name ≠ "runtime.NumGoroutine" := by simpa using hname
    obtain ⟨c, hc⟩ := Option.isSome_iff_exists.1 hb
    simp [callFunc, hf, h1, hc]
  have hrun : (execOp a.eval o).run P w = .ok (.enter f args) w := by
    unfold execOp
    simp [hop, resolve, Deferred.ofValue, invoke, Act.eval, hargs, he]
  unfold Oper.wp
  rw [hrun, Oper.upon_enter]
  refine h.mono fun e w'' hh => ?_
  obtain ⟨v, rfl, hk⟩ := hh
  exact hk
end
end Go.Proofs.Ytkbhnnmngmdkdaa.Reg
