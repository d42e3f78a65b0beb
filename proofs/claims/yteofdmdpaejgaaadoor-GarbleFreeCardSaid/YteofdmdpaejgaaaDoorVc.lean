/- A small calculus over the model's weakest preconditions: frames as functions, one step an operation. No program in sight. -/
import Derived.Calls
import Derived.Tactics
import Derived.Orders
import Derived.Below
namespace Go.Proofs.YteofdmdpaejgaaaDoor.Vc
open Go

/-- A frame's temporaries as a function. -/
abbrev Env := Nat → Value

/-- The frame with one temporary set. -/
def upd (ρ : Env) (d : Nat) (v : Value) : Env := fun i => bif Nat.beq i d then v else ρ i

/-- The frame as the model has it: n temporaries, nothing deferred. -/
def St (n : Nat) (ρ : Env) : Act := { tmps := Array.ofFn (n := n) fun i => ρ i.val, defers := [] }

/-- What an operand is in a frame. -/
def ev (n : Nat) (ρ : Env) : Operand → Value
  | .tmp t => bif Nat.blt t n then ρ t else undef
  | .const v => v
  | .global g => .pointer (some ⟨g, 0, none⟩)
  | .func f => .func (.func f) #[] #[]

def updo (ρ : Env) : Option Nat → Value → Env
  | some d, v => upd ρ d v
  | none, _ => ρ

theorem upd_same (ρ : Env) (d : Nat) (v : Value) : upd ρ d v d = v := by simp [upd]
theorem upd_ne (ρ : Env) {d i : Nat} (v : Value) (h : i ≠ d) : upd ρ d v i = ρ i := by
  simp only [upd]
  have : Nat.beq i d = false := by
    cases hb : Nat.beq i d
    · rfl
    · exact absurd (Nat.eq_of_beq_eq_true hb) h
  rw [this]; rfl

theorem St_eval (n : Nat) (ρ : Env) : (St n ρ).eval = ev n ρ := by
  funext x
  cases x with
  | tmp t =>
    simp only [Act.eval, St, ev]
    by_cases h : t < n
    · have hb : Nat.blt t n = true := by simpa [Nat.blt_eq] using h
      rw [hb]
      simp [h]
    · have hb : Nat.blt t n = false := by
        cases hb : Nat.blt t n
        · rfl
        · exact absurd (by simpa [Nat.blt_eq] using hb) h
      rw [hb]
      simp [h]
  | _ => rfl

theorem St_put (n : Nat) (ρ : Env) (d : Option Nat) (v : Value) : (St n ρ).put d v = St n (updo ρ d v) := by
  cases d with
  | none => rfl
  | some d =>
    simp only [Act.put, St, updo]
    congr 1
    apply Array.ext
    · simp
    · intro i h1 h2
      have h3 : i < n := by simpa using h2
      rw [Array.getElem_setIfInBounds (by simpa using h3)]
      simp only [Array.getElem_ofFn]
      by_cases hd : d = i
      · subst hd; simp [upd_same]
      · rw [if_neg hd, upd_ne _ _ (fun h => hd h.symm)]

theorem St_eq {n : Nat} {ρ ρ' : Env} (h : ∀ i, i < n → ρ i = ρ' i) : St n ρ = St n ρ' := by
  simp only [St]
  congr 1
  apply Array.ext
  · simp
  · intro i h1 h2
    simp only [Array.getElem_ofFn]
    exact h i (by simpa using h1)

/-- The frame at a call's beginning: the arguments, then nothing. -/
def args (l : List Value) : Env := fun i => l.getD i undef

theorem enter {P : Program} {f : FuncId} {fn : Func} {c : Code} {l : List Value} {n : Nat} {w : World} {R : Ending → World → Prop}
    (hf : P.funcs[f]? = some fn) (hb : fn.body = some c) (hn : fn.ntmps = n) (hl : l.length ≤ n)
    (h : c.wp P (bodyPost P fn R) (St n (args l)) w) : Calls P f l.toArray w R := by
  refine calls_of_wp hf hb ?_
  have : ({ tmps := l.toArray ++ Array.replicate (fn.ntmps - l.toArray.size) undef, defers := [] } : Act) = St n (args l) := by
    subst hn
    simp only [St]
    congr 1
    apply Array.ext
    · simp; omega
    · intro i h1 h2
      simp only [Array.getElem_ofFn, args]
      rw [Array.getElem_append]
      split
      · rename_i hi
        simp at hi
        simp [hi]
      · rename_i hi
        simp at hi
        simp [hi]
  rw [this]
  exact h

section
variable {P : Program} {n : Nat} {ops : Array Oper} {Q : Exit → Act → World → Prop} {ρ : Env} {w : World}

/-- A list of operations that is carried out one by one. -/
structure W (P : Program) (n : Nat) (ops : Array Oper) (Q : Exit → Act → World → Prop) (l : List Oper) (ρ : Env) (w : World) : Prop where
  out : wpList P ops Q l (St n ρ) w

/-- An operation runs in a frame: its value, the world behind it. -/
def Runs (P : Program) (n : Nat) (ρ : Env) (o : Oper) (w : World) (v : Value) (w' : World) : Prop :=
  (execOp (ev n ρ) o).run P w = .ok (.value v) w'
/-- An operation runs that has no value. -/
def Does (P : Program) (n : Nat) (ρ : Env) (o : Oper) (w : World) (w' : World) : Prop :=
  (execOp (ev n ρ) o).run P w = .ok .skip w'
/-- An operation enters a function. -/
def Enters (P : Program) (n : Nat) (ρ : Env) (o : Oper) (w : World) (f : FuncId) (as : Array Value) : Prop :=
  (execOp (ev n ρ) o).run P w = .ok (.enter f as) w

theorem wnil (h : Q .normal (St n ρ) w) : W P n ops Q [] ρ w := ⟨wpList_nil h⟩

/-- at a region's end in a row of code -/
theorem wend {K : Act → World → Prop} (h : K (St n ρ) w) : W P n ops (Exit.then K Q) [] ρ w := ⟨wpList_nil h⟩

theorem wantedNone {o : Oper} (hg : o.guard = none) (ops : Array Oper) (a : Act) : Region.wanted o (yielded ops a.tmps) = true := by
  simp [Region.wanted, hg]

theorem sqAny {o : Oper} {rest : List Oper} {v : Value} {w' : World} (hw : Region.wanted o (yielded ops (St n ρ).tmps) = true)
    (hr : Runs P n ρ o w v w') (h : W P n ops Q rest (updo ρ o.dst v) w') : W P n ops Q (o :: rest) ρ w := by
  refine ⟨wpList_step fun K hK => ?_⟩
  rw [if_pos hw]
  unfold Oper.wp
  rw [St_eval, hr, Oper.upon_value, St_put]
  exact hK _ _ h.out

theorem doAny {o : Oper} {rest : List Oper} {w' : World} (hw : Region.wanted o (yielded ops (St n ρ).tmps) = true)
    (hr : Does P n ρ o w w') (h : W P n ops Q rest (updo ρ o.dst undef) w') : W P n ops Q (o :: rest) ρ w := by
  refine ⟨wpList_step fun K hK => ?_⟩
  rw [if_pos hw]
  unfold Oper.wp
  rw [St_eval, hr, Oper.upon_skip, St_put]
  exact hK _ _ h.out

theorem skAny {o : Oper} {rest : List Oper} (hw : Region.wanted o (yielded ops (St n ρ).tmps) = false)
    (h : W P n ops Q rest (updo ρ o.dst undef) w) : W P n ops Q (o :: rest) ρ w := by
  refine ⟨wpList_step fun K hK => ?_⟩
  rw [if_neg (by simp [hw]), St_put]
  exact hK _ _ h.out

theorem caAny {o : Oper} {rest : List Oper} {f : FuncId} {as : Array Value} {R : Value → World → Prop} (hw : Region.wanted o (yielded ops (St n ρ).tmps) = true)
    (hr : Enters P n ρ o w f as) (hc : Calls P f as w fun e w' => ∃ v, e = .returned v ∧ R v w')
    (h : ∀ v w', R v w' → W P n ops Q rest (updo ρ o.dst v) w') : W P n ops Q (o :: rest) ρ w := by
  refine ⟨wpList_step fun K hK => ?_⟩
  rw [if_pos hw]
  unfold Oper.wp
  rw [St_eval, hr, Oper.upon_enter]
  refine hc.mono fun e w' he => ?_
  obtain ⟨v, rfl, hv⟩ := he
  show K ((St n ρ).put o.dst v) w'
  rw [St_put]
  exact hK _ _ (h v w' hv).out

/-- an operation with a value -/
theorem sq {d : Option Nat} {op : Op} {t : TypeId} {pos : String} {after : Array Edge} {rest : List Oper} {v : Value} {w' : World}
    (hr : Runs P n ρ ⟨d, op, t, pos, after, none⟩ w v w') (h : W P n ops Q rest (updo ρ d v) w') : W P n ops Q (⟨d, op, t, pos, after, none⟩ :: rest) ρ w :=
  sqAny (wantedNone rfl _ _) hr h
/-- an operation without a value -/
theorem sd {d : Option Nat} {op : Op} {t : TypeId} {pos : String} {after : Array Edge} {rest : List Oper} {w' : World}
    (hr : Does P n ρ ⟨d, op, t, pos, after, none⟩ w w') (h : W P n ops Q rest (updo ρ d undef) w') : W P n ops Q (⟨d, op, t, pos, after, none⟩ :: rest) ρ w :=
  doAny (wantedNone rfl _ _) hr h
/-- a call -/
theorem sc {d : Option Nat} {op : Op} {t : TypeId} {pos : String} {after : Array Edge} {rest : List Oper} {f : FuncId} {as : Array Value} {R : Value → World → Prop}
    (hr : Enters P n ρ ⟨d, op, t, pos, after, none⟩ w f as) (hc : Calls P f as w fun e w' => ∃ v, e = .returned v ∧ R v w')
    (h : ∀ v w', R v w' → W P n ops Q rest (updo ρ d v) w') : W P n ops Q (⟨d, op, t, pos, after, none⟩ :: rest) ρ w :=
  caAny (wantedNone rfl _ _) hr hc h

/-- what a guard finds -/
theorem wantedSome {d : Option Nat} {op : Op} {t : TypeId} {pos : String} {after : Array Edge} {j d' : Nat} {want b : Bool}
    (hj : (ops[j]?).bind (·.dst) = some d') (hd : Nat.blt d' n = true) (hb : ρ d' = .bool b) :
    Region.wanted ⟨d, op, t, pos, after, some (j, want)⟩ (yielded ops (St n ρ).tmps) = (b == want) := by
  have hd' : d' < n := by simpa [Nat.blt_eq] using hd
  have hy : yielded ops (St n ρ).tmps j = some b := by
    simp only [yielded, hj, Option.bind_some]
    simp [St, hd', hb]
  show (yielded ops (St n ρ).tmps j == some want) = (b == want)
  rw [hy]
  cases b <;> cases want <;> rfl

/-! ### code -/
theorem seqRegion {id : Nat} {l : List Oper} {y : Code} (h : W P n l.toArray (Exit.then (y.wp P Q) Q) l ρ w) :
    (Code.seq (.region id l.toArray false) y).wp P Q (St n ρ) w := wp_seq (wp_region_lit h.out)
theorem oneRegion {id : Nat} {l : List Oper} (h : W P n l.toArray Q l ρ w) : (Code.region id l.toArray false).wp P Q (St n ρ) w := wp_region_lit h.out
theorem seqAny {x y : Code} (h : x.wp P (Exit.then (y.wp P Q) Q) (St n ρ) w) : (Code.seq x y).wp P Q (St n ρ) w := wp_seq h
theorem blockAny {id : Nat} {c : Code} (h : c.wp P (Exit.inBlock id Q) (St n ρ) w) : (Code.block id c).wp P Q (St n ρ) w := wp_block h
theorem skipAny (h : Q .normal (St n ρ) w) : Code.skip.wp P Q (St n ρ) w := wp_skip h
theorem exitAny {id : Nat} (h : Q (.exit id) (St n ρ) w) : (Code.exit id).wp P Q (St n ρ) w := wp_exit h
theorem retAny (h : Q .ret (St n ρ) w) : Code.ret.wp P Q (St n ρ) w := wp_ret h
theorem condTrue {c : Operand} {x y : Code} (hc : ev n ρ c = .bool true) (h : x.wp P Q (St n ρ) w) : (Code.cond c x y).wp P Q (St n ρ) w :=
  wp_cond_true (by rw [St_eval]; exact hc) h
theorem condFalse {c : Operand} {x y : Code} (hc : ev n ρ c = .bool false) (h : y.wp P Q (St n ρ) w) : (Code.cond c x y).wp P Q (St n ρ) w :=
  wp_cond_false (by rw [St_eval]; exact hc) h
theorem condProp {c : Operand} {x y : Code} (p : Prop) [Decidable p] (hc : ev n ρ c = .bool (decide p)) (ht : p → x.wp P Q (St n ρ) w) (hf : ¬ p → y.wp P Q (St n ρ) w) :
    (Code.cond c x y).wp P Q (St n ρ) w := by
  by_cases hp : p
  · exact condTrue (by rw [hc]; simp [hp]) (ht hp)
  · exact condFalse (by rw [hc]; simp [hp]) (hf hp)
theorem condBool {c : Operand} {x y : Code} (b : Bool) (hc : ev n ρ c = .bool b) (ht : b = true → x.wp P Q (St n ρ) w) (hf : b = false → y.wp P Q (St n ρ) w) :
    (Code.cond c x y).wp P Q (St n ρ) w := by
  cases b
  · exact condFalse hc (hf rfl)
  · exact condTrue hc (ht rfl)

/-! ### leaving -/
theorem thenNormal {K : Act → World → Prop} {a : Act} (h : K a w) : Exit.then K Q .normal a w := h
theorem thenExit {K : Act → World → Prop} {a : Act} {i : Nat} (h : Q (.exit i) a w) : Exit.then K Q (.exit i) a w := h
theorem thenRet {K : Act → World → Prop} {a : Act} (h : Q .ret a w) : Exit.then K Q .ret a w := h
theorem blockNormal {i : Nat} {a : Act} (h : Q .normal a w) : Exit.inBlock i Q .normal a w := h
theorem blockRet {i : Nat} {a : Act} (h : Q .ret a w) : Exit.inBlock i Q .ret a w := h
theorem blockHere {i : Nat} {a : Act} (h : Q .normal a w) : Exit.inBlock i Q (.exit i) a w := by simpa [Exit.inBlock] using h
theorem blockOut {i j : Nat} {a : Act} (hne : Nat.beq j i = false) (h : Q (.exit j) a w) : Exit.inBlock i Q (.exit j) a w := by
  have : j ≠ i := fun e => by subst e; simp at hne
  simpa [Exit.inBlock, this] using h

/-! ### a loop: the slots that it keeps, as a function of what is known -/
def setAll (ρ : Env) : List (Nat × Value) → Env
  | [] => ρ
  | (d, v) :: r => upd (setAll ρ r) d v
def Keeps (ρ : Env) : List (Nat × Value) → Prop
  | [] => True
  | (d, v) :: r => ρ d = v ∧ Keeps ρ r
theorem upd_self (ρ : Env) (d : Nat) (v : Value) (h : ρ d = v) : upd ρ d v = ρ := by
  funext i
  by_cases e : i = d
  · subst e; rw [upd_same, h]
  · rw [upd_ne _ _ e]
theorem setAll_keeps {ρ : Env} : ∀ {l : List (Nat × Value)}, Keeps ρ l → setAll ρ l = ρ
  | [], _ => rfl
  | (d, v) :: r, h => by rw [setAll, setAll_keeps h.2, upd_self _ _ _ h.1]

/-- 'what a loop's head knows' -/
def Head {σ : Type} (n : Nat) (slots : σ → List (Nat × Value)) (J : σ → World → Prop) (m : σ → Nat) (x : σ) (a : Act) (w : World) : Prop :=
  ∃ x' ρ', a = St n ρ' ∧ Keeps ρ' (slots x') ∧ J x' w ∧ m x' < m x

theorem loopAny {σ : Type} (slots : σ → List (Nat × Value)) (J : σ → World → Prop) (m : σ → Nat) (x₀ : σ) {c : Code}
    (hs : Keeps ρ (slots x₀)) (hJ : J x₀ w)
    (round : ∀ x ρ w, J x w → c.wp P (Exit.then (Head n slots J m x) Q) (St n (setAll ρ (slots x))) w) : (Code.loop c).wp P Q (St n ρ) w := by
  intro b k cs
  have key : ∀ N x ρ w, m x = N → J x w →
      ∃ e a' w', Q e a' w' ∧ Arrives P (lone (b.at (St n (setAll ρ (slots x))) (.code c :: .inLoop c :: k)) cs w) b k cs e a' w' := by
    intro N
    induction N using Nat.strongRecOn with
    | _ N ih =>
      intro x ρ w hn hJ
      obtain ⟨e, a₁, w₁, hq, harr⟩ := round x ρ w hJ b (.inLoop c :: k) cs
      cases e with
      | normal =>
        obtain ⟨x', ρ', rfl, hk, hJ', hlt⟩ := hq
        obtain ⟨e₂, a₂, w₂, hq₂, harr₂⟩ := ih (m x') (hn ▸ hlt) x' ρ' w₁ rfl hJ'
        rw [setAll_keeps hk] at harr₂
        exact ⟨e₂, a₂, w₂, hq₂, .of_steps (Steps.trans harr (.one step_inLoop)) harr₂⟩
      | exit id => exact ⟨_, a₁, w₁, hq, .pass (x := .inLoop c) rfl (fun _ _ => .inl (by simp)) harr⟩
      | goto l => exact ⟨_, a₁, w₁, hq, .pass (x := .inLoop c) rfl (fun _ _ => .inl (by simp)) harr⟩
      | ret => exact ⟨_, a₁, w₁, hq, .pass (x := .inLoop c) rfl (fun _ _ => .inl (by simp)) harr⟩
      | panic ch => exact ⟨_, a₁, w₁, hq, .pass (x := .inLoop c) rfl (fun _ _ => .inl (by simp)) harr⟩
      | outgrown => exact ⟨_, a₁, w₁, hq, .pass (x := .inLoop c) rfl (fun _ _ => .inl (by simp)) harr⟩
  obtain ⟨e, a', w', hq, harr⟩ := key _ x₀ ρ w rfl hJ
  rw [setAll_keeps hs] at harr
  exact ⟨e, a', w', hq, .of_steps (.one step_loop) harr⟩

/-! ### a function's end -/
theorem ret0 {fn : Func} {R : Ending → World → Prop} (hr : fn.results = #[]) (h : R (.returned (.tuple #[])) w) :
    bodyPost P fn R .ret (St n ρ) w := bodyPost_ret (results_none hr _ _ _) rfl h
theorem end0 {fn : Func} {R : Ending → World → Prop} (hr : fn.results = #[]) (h : R (.returned (.tuple #[])) w) :
    bodyPost P fn R .normal (St n ρ) w := bodyPost_end (results_none hr _ _ _) rfl h
theorem St_getD {t : Nat} (ht : Nat.blt t n = true) : (St n ρ).tmps.getD t undef = ρ t := by
  have : t < n := by simpa [Nat.blt_eq] using ht
  simp [St, this]
theorem ret1 {fn : Func} {R : Ending → World → Prop} {t : Nat} {v : Value} (hr : fn.results = #[.tmp t]) (ht : Nat.blt t n = true) (hv : ρ t = v) (h : R (.returned v) w) :
    bodyPost P fn R .ret (St n ρ) w := bodyPost_ret (results_tmp hr _ _ _) rfl (by rw [St_getD ht, hv]; exact h)
theorem ret2 {fn : Func} {R : Ending → World → Prop} {t u : Nat} {v x : Value} (hr : fn.results = #[.tmp t, .tmp u]) (ht : Nat.blt t n = true) (hu : Nat.blt u n = true)
    (hv : ρ t = v) (hx : ρ u = x) (h : R (.returned (.tuple #[v, x])) w) :
    bodyPost P fn R .ret (St n ρ) w := bodyPost_ret (results_tmp2 hr _ _ _) rfl (by rw [St_getD ht, St_getD hu, hv, hx]; exact h)
end
end Go.Proofs.YteofdmdpaejgaaaDoor.Vc
