/- The calculus' law for a region whose order the model leaves open: one walk in the order of the text, whatever order is drawn. -/
import Derived.Test.YteofdmdpaejgaaaDoorVcOps
namespace Go.Proofs.YteofdmdpaejgaaaDoor.Vc
open Go

def anc (mask : List Nat) (i j : Nat) : Bool := (mask.getD i 0).testBit j

/-- What a result gives. -/
def Out (P : Program) (S : Value → World → Prop) : Result Next → Prop
  | .ok (.value v) w' => S v w'
  | .ok .skip w' => S undef w'
  | .ok (.enter f as) w' => Calls P f as w' fun e w'' => ∃ v, e = .returned v ∧ S v w''
  | .ok (.row row as) w' => Rows P row as w' S
  | _ => False
theorem Out.mono {P : Program} {S S' : Value → World → Prop} {r : Result Next} (h : Out P S r) (hs : ∀ v w', S v w' → S' v w') : Out P S' r := by
  cases r with
  | ok x w' =>
    cases x with
    | value v => exact hs _ _ h
    | skip => exact hs _ _ h
    | enter f as => exact Calls.mono h fun e w' ⟨v, he, hv⟩ => ⟨v, he, hs _ _ hv⟩
    | row r as => exact Rows.mono h hs
    | _ => exact h.elim
  | halt x w' => exact h.elim
/-- What an operation gives in a world, whether its guard lets it run or not. -/
def Gives (P : Program) (n : Nat) (ops : Array Oper) (ρ : Env) (o : Oper) (w : World) (S : Value → World → Prop) : Prop :=
  (Region.wanted o (yielded ops (St n ρ).tmps) = true ∧ Out P S ((execOp (ev n ρ) o).run P w)) ∨
  (Region.wanted o (yielded ops (St n ρ).tmps) = false ∧ S undef w)

section
variable {P : Program} {n : Nat} {ops : Array Oper} {Q : Exit → Act → World → Prop} {ρ ρ' : Env} {o : Oper} {w : World} {S S' : Value → World → Prop}

theorem Gives.wpOp {i : Nat} {K : Act → World → Prop} (hi : ops[i]? = some o) (h : Gives P n ops ρ o w S)
    (hK : ∀ v w', S v w' → K (St n (updo ρ o.dst v)) w') : wpOp P ops Q i K (St n ρ) w := by
  unfold Go.wpOp
  simp only [hi]
  rcases h with ⟨hw, h⟩ | ⟨hw, h⟩
  · simp only [hw, if_true]
    refine .inl ?_
    unfold Oper.wp
    rw [St_eval]
    generalize (execOp (ev n ρ) o).run P w = r at h
    cases r with
    | ok x w' =>
      cases x with
      | value v => rw [Oper.upon_value, St_put]; exact hK _ _ h
      | skip => rw [Oper.upon_skip, St_put]; exact hK _ _ h
      | enter f as =>
        rw [Oper.upon_enter]
        refine Calls.mono h fun e w' he => ?_
        obtain ⟨v, rfl, hv⟩ := he
        show K ((St n ρ).put o.dst v) w'
        rw [St_put]
        exact hK _ _ hv
      | row r as =>
        rw [Oper.upon_row]
        refine Rows.mono h fun v w'' hv => ?_
        rw [St_put]; exact hK _ _ hv
      | _ => exact h.elim
    | halt x w' => exact h.elim
  · simp only [hw, Bool.false_eq_true, if_false, St_put]
    exact hK _ _ h

theorem Gives.mono (h : Gives P n ops ρ o w S) (hs : ∀ v w', S v w' → S' v w') : Gives P n ops ρ o w S' := by
  rcases h with ⟨hw, h⟩ | ⟨hw, h⟩
  · exact .inl ⟨hw, h.mono hs⟩
  · exact .inr ⟨hw, hs _ _ h⟩
theorem yielded_congr (g : Nat) (h : ∀ t, (ops[g]?).bind (·.dst) = some t → ρ t = ρ' t) : yielded ops (St n ρ).tmps g = yielded ops (St n ρ').tmps g := by
  unfold yielded
  cases ht : (ops[g]?).bind (·.dst) with
  | none => rfl
  | some t =>
    have := h t ht
    simp only [Option.bind_some]
    have e : (St n ρ).tmps[t]? = (St n ρ').tmps[t]? := by
      simp only [St, Array.getElem?_ofFn]
      split
      · simp [this]
      · rfl
    rw [e]

theorem wanted_congr (h : ∀ t, t ∈ o.looksAt ops → ρ t = ρ' t) : Region.wanted o (yielded ops (St n ρ).tmps) = Region.wanted o (yielded ops (St n ρ').tmps) := by
  unfold Region.wanted
  cases hg : o.guard with
  | none => rfl
  | some gw =>
    obtain ⟨g, want⟩ := gw
    simp only
    rw [yielded_congr g fun t ht => h t (by simp [Oper.looksAt, hg, ht])]

theorem exec_congr (hs : ∀ cs b, o.op ≠ .select cs b) (h : ∀ t, t ∈ o.looksAt ops → ρ t = ρ' t) : execOp (ev n ρ) o = execOp (ev n ρ') o :=
  execOp_congr o hs fun x hx => by
    cases x with
    | tmp t =>
      have := h t (List.mem_append_left _ (List.mem_filterMap.2 ⟨.tmp t, by simpa using hx, rfl⟩))
      simp only [ev, this]
    | _ => rfl

theorem Gives.congr (hs : ∀ cs b, o.op ≠ .select cs b) (h : ∀ t, t ∈ o.looksAt ops → ρ t = ρ' t) (hg : Gives P n ops ρ o w S) : Gives P n ops ρ' o w S := by
  have e1 := wanted_congr (n := n) h
  have e2 := exec_congr (n := n) hs h
  unfold Gives at *
  rw [← e1, ← e2]
  exact hg

theorem Gives.runW {v : Value} {w' : World} (hg : Region.wanted o (yielded ops (St n ρ).tmps) = true) (hr : Runs P n ρ o w v w') (h : S v w') : Gives P n ops ρ o w S :=
  .inl ⟨hg, by rw [show (execOp (ev n ρ) o).run P w = _ from hr]; exact h⟩
theorem Gives.callW {f : FuncId} {as : Array Value} (hg : Region.wanted o (yielded ops (St n ρ).tmps) = true) (hr : Enters P n ρ o w f as) (hc : Calls P f as w fun e w' => ∃ v, e = .returned v ∧ S v w') : Gives P n ops ρ o w S :=
  .inl ⟨hg, by rw [show (execOp (ev n ρ) o).run P w = _ from hr]; exact hc⟩
theorem Gives.doesW {w' : World} (hg : Region.wanted o (yielded ops (St n ρ).tmps) = true) (hr : Does P n ρ o w w') (h : S undef w') : Gives P n ops ρ o w S :=
  .inl ⟨hg, by rw [show (execOp (ev n ρ) o).run P w = _ from hr]; exact h⟩
theorem Gives.run {v : Value} {w' : World} (hg : o.guard = none) (hr : Runs P n ρ o w v w') (h : S v w') : Gives P n ops ρ o w S := Gives.runW (wantedNone hg _ _) hr h
theorem Gives.call {f : FuncId} {as : Array Value} (hg : o.guard = none) (hr : Enters P n ρ o w f as) (hc : Calls P f as w fun e w' => ∃ v, e = .returned v ∧ S v w') : Gives P n ops ρ o w S :=
  Gives.callW (wantedNone hg _ _) hr hc
theorem updo_inj {d : Nat} (hd : Nat.blt d n = true) {u v : Value} (h : St n (updo ρ (some d) u) = St n (updo ρ (some d) v)) : u = v := by
  have h1 := St_getD (n := n) (ρ := updo ρ (some d) u) hd
  rw [h, St_getD hd] at h1
  simpa [updo, upd_same] using h1.symm
/-- out of a step of a walk, whatever comes behind it -/
theorem Gives.ofW {d : Nat} (hd : o.dst = some d) (hn : Nat.blt d n = true) (h : ∀ Q' : Exit → Act → World → Prop, (∀ u w', S u w' → W P n ops Q' [] (updo ρ (some d) u) w') → W P n ops Q' [o] ρ w) : Gives P n ops ρ o w S := by
  have h1 := (h (fun e a w' => e = .normal ∧ ∃ u, a = St n (updo ρ (some d) u) ∧ S u w') fun u w' hs => wnil ⟨rfl, u, rfl, hs⟩).out
  have hno : ∀ e, e ≠ .normal → ∀ a w', ¬ (e = Exit.normal ∧ ∃ u, a = St n (updo ρ (some d) u) ∧ S u w') := fun e he a w' h => he h.1
  have key : ∀ {v w'}, wpList P ops (fun e a w' => e = .normal ∧ ∃ u, a = St n (updo ρ (some d) u) ∧ S u w') [] ((St n ρ).put o.dst v) w' → S v w' := by
    rintro v w' ⟨_, u, hu, hs⟩
    rw [St_put, hd] at hu
    rw [updo_inj hn hu]; exact hs
  unfold wpList at h1
  split at h1
  · rename_i hw
    refine .inl ⟨hw, ?_⟩
    rcases h1 with h1 | ⟨_, a, w', h1⟩
    · unfold Oper.wp at h1
      rw [St_eval] at h1
      generalize (execOp (ev n ρ) o).run P w = r at h1
      cases r with
      | ok x w' =>
        cases x with
        | value v => exact key h1
        | skip => exact key h1
        | enter f as =>
          refine Calls.mono h1 fun e w'' he => ?_
          cases e with
          | returned v => exact ⟨v, rfl, key he⟩
          | panicked c => exact (by cases he.1)
          | outgrown => obtain ⟨_, _, h2, _⟩ := he; cases h2
        | row r as => exact Rows.mono h1 fun v w'' hv => key hv
        | defer x =>
          obtain ⟨_, u, hu, _⟩ := h1
          have h2 := congrArg Act.defers hu
          rw [hd] at h2
          simp [Act.put, St] at h2
        | _ => exact h1
      | halt x w' =>
        cases x with
        | panic v => have h2 := h1.1; cases h2
        | _ => exact h1
    · exact (by cases h1.1)
  · rename_i hw
    exact .inr ⟨by simpa using hw, key h1⟩
/-- .. and where its value is nobody's -/
theorem Gives.ofW0 (hd : o.dst = none) (h : ∀ Q' : Exit → Act → World → Prop, (∀ w', (∀ u, S u w') → W P n ops Q' [] ρ w') → W P n ops Q' [o] ρ w) : Gives P n ops ρ o w S := by
  have h1 := (h (fun e a w' => e = .normal ∧ a.defers = [] ∧ ∀ u, S u w') fun w' hs => wnil ⟨rfl, rfl, hs⟩).out
  have key : ∀ {a w'} (v : Value), wpList P ops (fun e a w' => e = .normal ∧ a.defers = [] ∧ ∀ u, S u w') [] a w' → S v w' := fun v h => h.2.2 v
  unfold wpList at h1
  split at h1
  · rename_i hw
    refine .inl ⟨hw, ?_⟩
    rcases h1 with h1 | ⟨_, a, w', h1⟩
    · unfold Oper.wp at h1
      rw [St_eval] at h1
      generalize (execOp (ev n ρ) o).run P w = r at h1
      cases r with
      | ok x w' =>
        cases x with
        | value v => exact key _ h1
        | skip => exact key _ h1
        | enter f as =>
          refine Calls.mono h1 fun e w'' he => ?_
          cases e with
          | returned v => exact ⟨v, rfl, key _ he⟩
          | panicked c => exact (by cases he.1)
          | outgrown => obtain ⟨_, _, h2, _⟩ := he; cases h2
        | row r as => exact Rows.mono h1 fun v w'' hv => key _ hv
        | defer x =>
          have h2 := h1.2.1
          rw [hd] at h2
          simp [Act.put] at h2
        | _ => exact h1
      | halt x w' =>
        cases x with
        | panic v => have h2 := h1.1; cases h2
        | _ => exact h1
    · exact (by cases h1.1)
  · rename_i hw
    exact .inr ⟨by simpa using hw, key _ h1⟩
theorem Gives.off (hg : Region.wanted o (yielded ops (St n ρ).tmps) = false) (h : S undef w) : Gives P n ops ρ o w S := .inr ⟨hg, h⟩
end

/-- What is told of an operation whose value isn't the same in all worlds. -/
abbrev Rel := Env → Value → World → Prop

def Facts (mask : List Nat) (K : List (Option Rel)) (r : Env) (i : Nat) (w : World) : Prop :=
  ∀ (j : Nat) (T : Rel), K[j]? = some (some T) → anc mask i j = true → T r (r j) w
def AllFacts (K : List (Option Rel)) (r : Env) (w : World) : Prop := ∀ (j : Nat) (T : Rel), K[j]? = some (some T) → T r (r j) w

/-- The walk in the order of the text. -/
def Walk (P : Program) (n : Nat) (ops : Array Oper) (C : World → Prop) (R : World → World → Prop) (mask : List Nat) (K : List (Option Rel)) (Fin : (Env → Env) → Prop) :
    Nat → List (Option Rel) → List Oper → (Env → Env) → Prop
  | _, [], _, ρ => Fin ρ
  | i, none :: ks, o :: l, ρ => ∃ v, (∀ r w, C w → Facts mask K r i w → Gives P n ops (ρ r) o w fun u w' => u = v ∧ R w w') ∧ Walk P n ops C R mask K Fin (i + 1) ks l fun r => updo (ρ r) o.dst v
  | i, some T :: ks, o :: l, ρ => (∀ r w, C w → Facts mask K r i w → Gives P n ops (ρ r) o w fun u w' => T r u w' ∧ R w w') ∧ Walk P n ops C R mask K Fin (i + 1) ks l fun r => updo (ρ r) o.dst (r i)
  | _, _ :: _, [], _ => False

/-- The frame with the values of the first k operations. -/
def lexFr (ops : Array Oper) (ρ : Env) (V : Nat → Value) : Nat → Env
  | 0 => ρ
  | k + 1 => updo (lexFr ops ρ V k) ((ops[k]?).bind (·.dst)) (V k)

def valOf (K : List (Option Rel)) (e : Nat → Value) (r : Env) (j : Nat) : Value := match K[j]? with
  | some (some _) => r j
  | _ => e j

section
variable {P : Program} {n : Nat} {ops : Array Oper} {C : World → Prop} {R : World → World → Prop} {mask : List Nat} {K : List (Option Rel)} {Fin : (Env → Env) → Prop} {ρ : Env}

theorem lex_eq (e₁ e₂ : Nat → Value) (r : Env) : ∀ m : Nat, (∀ j, j < m → e₁ j = e₂ j) → lexFr ops ρ (valOf K e₁ r) m = lexFr ops ρ (valOf K e₂ r) m
  | 0, _ => rfl
  | m + 1, hm => by
    simp only [lexFr]
    rw [lex_eq e₁ e₂ r m fun j hj => hm j (by omega)]
    have : valOf K e₁ r m = valOf K e₂ r m := by
      unfold valOf
      split
      · rfl
      · exact hm m (by omega)
    rw [this]
def Ob (P : Program) (n : Nat) (ops : Array Oper) (C : World → Prop) (R : World → World → Prop) (mask : List Nat) (K : List (Option Rel)) (ρ : Env) (e : Nat → Value) (j : Nat) (o : Oper) : Prop :=
  ∀ r w, C w → Facts mask K r j w → Gives P n ops (lexFr ops ρ (valOf K e r) j) o w fun u w' => (∀ T : Rel, K[j]? = some (some T) → T r u w') ∧ (K[j]? = some none → u = e j) ∧ R w w'
theorem Walk.out : ∀ (ks : List (Option Rel)) (l : List Oper) (i : Nat) (ρ' : Env → Env) (e : Nat → Value),
    (∀ j : Nat, ks[j]? = K[i + j]?) → (∀ j : Nat, l[j]? = ops[i + j]?) → (∀ r, ρ' r = lexFr ops ρ (valOf K e r) i) →
    Walk P n ops C R mask K Fin i ks l ρ' →
    ∃ e' : Nat → Value, (∀ j, j < i → e' j = e j) ∧
      (∀ (j : Nat) (o : Oper), i ≤ j → j < i + ks.length → ops[j]? = some o → Ob P n ops C R mask K ρ e' j o) ∧
      (∀ j : Nat, i ≤ j → j < i + ks.length → (ops[j]?).isSome) ∧
      Fin fun r => lexFr ops ρ (valOf K e' r) (i + ks.length)
  | [], l, i, ρ', e, hk, hl, hρ, h => by
    refine ⟨e, fun _ _ => rfl, fun j o h1 h2 => by simp at h2; omega, fun j h1 h2 => by simp at h2; omega, ?_⟩
    have : (fun r => lexFr ops ρ (valOf K e r) (i + ([] : List (Option Rel)).length)) = ρ' := by funext r; rw [hρ r]; rfl
    rw [this]
    cases l <;> exact h
  | k :: ks, [], i, ρ', e, hk, hl, hρ, h => by cases k <;> exact h.elim
  | k :: ks, o :: l, i, ρ', e, hk, hl, hρ, h => by
    have hki : K[i]? = some k := by simpa using (hk 0).symm
    have hoi : ops[i]? = some o := by simpa using (hl 0).symm
    have hk' : ∀ j : Nat, ks[j]? = K[i + 1 + j]? := fun j => by have := hk (j + 1); simpa [Nat.add_assoc, Nat.add_comm 1 j] using this
    have hl' : ∀ j : Nat, l[j]? = ops[i + 1 + j]? := fun j => by have := hl (j + 1); simpa [Nat.add_assoc, Nat.add_comm 1 j] using this
    cases k with
    | none =>
      obtain ⟨v, h1, h2⟩ := h
      let e₁ : Nat → Value := fun j => if j = i then v else e j
      have hbe : ∀ j, j < i → e₁ j = e j := fun j hj => if_neg (by omega)
      have hi : e₁ i = v := if_pos rfl
      obtain ⟨e', h3, h4, h5, h6⟩ := Walk.out ks l (i + 1) (fun r => updo (ρ' r) o.dst v) e₁ hk' hl' (fun r => by
        simp only [lexFr, hoi, Option.bind_some]
        rw [hρ r, lex_eq e₁ e r i hbe]
        have : valOf K e₁ r i = v := by simp [valOf, hki, hi]
        rw [this]) h2
      refine ⟨e', fun j hj => (h3 j (by omega)).trans (hbe j hj), ?_, ?_, ?_⟩
      · intro j o' hj1 hj2 hoj r w hC hF
        rcases Nat.eq_or_lt_of_le hj1 with rfl | hlt
        · rw [hoi] at hoj; cases hoj
          have := h1 r w hC hF
          rw [hρ r, lex_eq e e' r i (fun j hj => ((h3 j (by omega)).trans (hbe j hj)).symm)] at this
          refine this.mono fun u w' ⟨hu, hr⟩ => ⟨fun T hT => ?_, fun _ => ?_, hr⟩
          · rw [hki] at hT; cases hT
          · rw [h3 i (by omega), hi]; exact hu
        · exact h4 j o' (by omega) (by simp at hj2; omega) hoj r w hC hF
      · intro j hj1 hj2
        rcases Nat.eq_or_lt_of_le hj1 with rfl | hlt
        · simp [hoi]
        · exact h5 j (by omega) (by simp at hj2; omega)
      · simpa [Nat.add_assoc, Nat.add_comm 1] using h6
    | some T =>
      obtain ⟨h1, h2⟩ := h
      obtain ⟨e', h3, h4, h5, h6⟩ := Walk.out ks l (i + 1) (fun r => updo (ρ' r) o.dst (r i)) e hk' hl' (fun r => by
        simp only [lexFr, hoi, Option.bind_some]
        rw [hρ r]
        have : valOf K e r i = r i := by simp [valOf, hki]
        rw [this]) h2
      refine ⟨e', fun j hj => h3 j (by omega), ?_, ?_, ?_⟩
      · intro j o' hj1 hj2 hoj r w hC hF
        rcases Nat.eq_or_lt_of_le hj1 with rfl | hlt
        · rw [hoi] at hoj; cases hoj
          have := h1 r w hC hF
          rw [hρ r, lex_eq e e' r i (fun j hj => (h3 j (by omega)).symm)] at this
          refine this.mono fun u w' ⟨hu, hr⟩ => ⟨fun T' hT => ?_, fun hT => ?_, hr⟩
          · rw [hki] at hT; cases hT; exact hu
          · rw [hki] at hT; cases hT
        · exact h4 j o' (by omega) (by simp at hj2; omega) hoj r w hC hF
      · intro j hj1 hj2
        rcases Nat.eq_or_lt_of_le hj1 with rfl | hlt
        · simp [hoi]
        · exact h5 j (by omega) (by simp at hj2; omega)
      · simpa [Nat.add_assoc, Nat.add_comm 1] using h6
end

/-- who writes a slot among the first m -/
def writer (ops : Array Oper) (m t : Nat) : Option Nat := (List.range m).find? fun j => (ops[j]?).bind (·.dst) == some t

/-- THE CHECK, over the region's text alone: the mask holds only what comes ahead; no two of the first m write one slot; who reads a slot that one of them writes comes behind it or ahead of it; what stands behind the first m waits for them all, and for one another. -/
def drawB (ops : Array Oper) (mask : List Nat) (m : Nat) : Bool :=
  Region.noSelect ops && decide (m ≤ ops.size) &&
  ((List.range ops.size).all fun i => (List.range ops.size).all fun j => !anc mask i j ||
    ((j < i) && (match ops[i]? with | some o => o.after.any fun e => Region.binds .any e && (e.on == j || anc mask e.on j) | none => false))) &&
  ((List.range ops.size).all fun i => match ops[i]? with | some o => o.after.all fun e => !Region.binds .any e || decide (e.on < i) | none => false) &&
  ((List.range m).all fun i => (List.range m).all fun j => i == j || (match (ops[i]?).bind (·.dst) with | some t => (ops[j]?).bind (·.dst) != some t | none => true)) &&
  ((List.range m).all fun i => match ops[i]? with
    | some o => (o.looksAt ops).all fun t => match writer ops m t with
      | some j => i == j || (if j < i then anc mask i j else anc mask j i)
      | none => true
    | none => false) &&
  ((List.range ops.size).all fun i => i < m || (List.range i).all fun j => anc mask i j)

structure DrawOk (ops : Array Oper) (mask : List Nat) (m : Nat) : Prop where
  nosel : Region.noSelect ops = true
  hm : m ≤ ops.size
  up : ∀ i j, i < ops.size → j < ops.size → anc mask i j = true → j < i ∧ ∃ o, ops[i]? = some o ∧ ∃ e ∈ o.after, Region.binds .any e = true ∧ (e.on = j ∨ anc mask e.on j = true)
  edges : ∀ (i : Nat) (o : Oper), ops[i]? = some o → ∀ e ∈ o.after, Region.binds .any e = true → e.on < i
  dist : ∀ i j, i < m → j < m → i ≠ j → ∀ t, (ops[i]?).bind (·.dst) = some t → (ops[j]?).bind (·.dst) ≠ some t
  reads : ∀ (i : Nat) (o : Oper), i < m → ops[i]? = some o → ∀ t ∈ o.looksAt ops, ∀ j, writer ops m t = some j → i = j ∨ (j < i ∧ anc mask i j = true) ∨ (i < j ∧ anc mask j i = true)
  tail : ∀ i j, m ≤ i → i < ops.size → j < i → anc mask i j = true

theorem DrawOk.of {ops : Array Oper} {mask : List Nat} {m : Nat} (h : drawB ops mask m = true) : DrawOk ops mask m := by
  simp only [drawB, Bool.and_eq_true, decide_eq_true_eq] at h
  obtain ⟨⟨⟨⟨⟨⟨h1, h2⟩, h3⟩, h4⟩, h5⟩, h6⟩, h7⟩ := h
  refine ⟨h1, h2, ?_, ?_, ?_, ?_, ?_⟩
  · intro i j hi hj ha
    have h := List.all_eq_true.1 (List.all_eq_true.1 h3 i (List.mem_range.2 hi)) j (List.mem_range.2 hj)
    rw [ha] at h
    simp only [Bool.not_true, Bool.false_or, Bool.and_eq_true, decide_eq_true_eq] at h
    refine ⟨h.1, ?_⟩
    have h := h.2
    split at h
    · rename_i o ho
      obtain ⟨e, he, h'⟩ := Array.any_eq_true'.1 h
      simp only [Bool.and_eq_true, Bool.or_eq_true, beq_iff_eq] at h'
      exact ⟨o, ho, e, he, h'⟩
    · cases h
  · intro i o ho e he hb
    have hi : i < ops.size := (Array.getElem?_eq_some_iff.1 ho).1
    have h := List.all_eq_true.1 h4 i (List.mem_range.2 hi)
    rw [ho] at h
    have h := Array.all_eq_true_iff_forall_mem.1 h e he
    simpa [hb] using h
  · intro i j hi hj hne t ht
    have h := List.all_eq_true.1 (List.all_eq_true.1 h5 i (List.mem_range.2 hi)) j (List.mem_range.2 hj)
    simp only [Bool.or_eq_true, beq_iff_eq, hne, false_or] at h
    rw [ht] at h
    simpa using h
  · intro i o hi ho t ht j hj
    have h := List.all_eq_true.1 h6 i (List.mem_range.2 hi)
    rw [ho] at h
    have h := List.all_eq_true.1 h t ht
    rw [hj] at h
    simp only [Bool.or_eq_true, beq_iff_eq] at h
    rcases h with h | h
    · exact .inl h
    · by_cases hij : j < i
      · rw [if_pos hij] at h; exact .inr (.inl ⟨hij, h⟩)
      · rw [if_neg hij] at h
        by_cases e : i = j
        · exact .inl e
        · exact .inr (.inr ⟨by omega, h⟩)
  · intro i j hm hi hj
    have h := List.all_eq_true.1 h7 i (List.mem_range.2 hi)
    simp only [Bool.or_eq_true, decide_eq_true_eq] at h
    rcases h with h | h
    · omega
    · exact List.all_eq_true.1 h j (List.mem_range.2 hj)

theorem writer_some {ops : Array Oper} {m t j : Nat} (h : writer ops m t = some j) : j < m ∧ (ops[j]?).bind (·.dst) = some t := by
  unfold writer at h
  have h1 := List.find?_some h
  have h2 := List.mem_of_find?_eq_some h
  exact ⟨List.mem_range.1 h2, by simpa using h1⟩
theorem writer_of {ops : Array Oper} {mask : List Nat} {m t j : Nat} (D : DrawOk ops mask m) (hj : j < m) (h : (ops[j]?).bind (·.dst) = some t) : writer ops m t = some j := by
  cases hw : writer ops m t with
  | none =>
    unfold writer at hw
    have := List.find?_eq_none.1 hw j (List.mem_range.2 hj)
    simp [h] at this
  | some k =>
    obtain ⟨hk, hk'⟩ := writer_some hw
    by_cases e : k = j
    · rw [e]
    · exact absurd h (D.dist k j hk hj e t hk')

/-- the frame, with the values of those that have been carried out -/
def listFr (ops : Array Oper) (m : Nat) (ρ : Env) (V : Nat → Value) (listed : Array Bool) : Env := fun t => match writer ops m t with
  | some j => if listed.getD j false = true then V j else ρ t
  | none => ρ t

theorem lexFr_eq {ops : Array Oper} {mask : List Nat} {m : Nat} (D : DrawOk ops mask m) (ρ : Env) (V : Nat → Value) (t : Nat) : ∀ k, k ≤ m →
    lexFr ops ρ V k t = match writer ops m t with
      | some j => if j < k then V j else ρ t
      | none => ρ t
  | 0, _ => by
    simp only [lexFr]
    split <;> simp
  | k + 1, hk => by
    simp only [lexFr]
    have ih := lexFr_eq D ρ V t k (by omega)
    cases hd : (ops[k]?).bind (·.dst) with
    | none =>
      simp only [updo, ih]
      split
      · rename_i j hj
        have := (writer_some hj).2
        have hne : j ≠ k := fun e => by rw [e, hd] at this; cases this
        by_cases h1 : j < k
        · rw [if_pos h1, if_pos (by omega)]
        · rw [if_neg h1, if_neg (by omega)]
      · rfl
    | some d =>
      simp only [updo]
      by_cases ht : t = d
      · subst ht
        rw [upd_same, writer_of D (by omega) hd]
        simp
      · rw [upd_ne _ _ ht, ih]
        split
        · rename_i j hj
          have := (writer_some hj).2
          have hne : j ≠ k := fun e => by rw [e, hd] at this; exact ht (Option.some.inj this).symm
          by_cases h1 : j < k
          · rw [if_pos h1, if_pos (by omega)]
          · rw [if_neg h1, if_neg (by omega)]
        · rfl

theorem getD_set_self {listed : Array Bool} {i : Nat} (h : i < listed.size) : (listed.setIfInBounds i true).getD i false = true := by simp [h]
theorem getD_lt {listed : Array Bool} {i : Nat} (h : listed.getD i false = true) : i < listed.size := by
  rcases Nat.lt_or_ge i listed.size with h' | h'
  · exact h'
  · simp [h'] at h
theorem getD_eq {listed : Array Bool} {i : Nat} (h : i < listed.size) : listed.getD i true = listed.getD i false := by simp [h]

theorem count_set : ∀ (l : List Bool) (i : Nat), l[i]? = some false → (l.set i true).count false + 1 = l.count false
  | [], i, h => by simp at h
  | x :: l, 0, h => by simp at h; subst h; simp
  | x :: l, i + 1, h => by
    simp only [List.getElem?_cons_succ] at h
    have := count_set l i h
    simp only [List.set_cons_succ, List.count_cons]
    omega

section
variable {P : Program} {n : Nat} {ops : Array Oper} {Q : Exit → Act → World → Prop} {C : World → Prop} {R : World → World → Prop} {mask : List Nat} {K : List (Option Rel)} {ρ : Env} {m : Nat}

def ClosedL (ops : Array Oper) (mask : List Nat) (listed : Array Bool) : Prop := ∀ j, listed.getD j false = true → ∀ k, k < ops.size → anc mask j k = true → listed.getD k false = true

theorem ready_anc (D : DrawOk ops mask m) {listed : Array Bool} (hc : ClosedL ops mask listed) {i : Nat} (hr : i ∈ Region.ready .any ops listed) :
    i < ops.size ∧ listed.getD i true = false ∧ ∀ k, k < ops.size → anc mask i k = true → listed.getD k false = true := by
  obtain ⟨h0, o, ho, h1⟩ := mem_ready.1 hr
  have hi : i < ops.size := (Array.getElem?_eq_some_iff.1 ho).1
  refine ⟨hi, h0, fun k hk ha => ?_⟩
  obtain ⟨_, o', ho', e, he, hb, h⟩ := D.up i k hi hk ha
  rw [ho] at ho'; cases ho'
  have hl := h1 e he hb
  rcases h with rfl | h
  · exact hl
  · exact hc _ hl k hk h

theorem closed_set (D : DrawOk ops mask m) {listed : Array Bool} (hc : ClosedL ops mask listed) {i : Nat} (hr : i ∈ Region.ready .any ops listed) : ClosedL ops mask (listed.setIfInBounds i true) := by
  intro j hj k hk ha
  obtain ⟨_, _, h⟩ := ready_anc D hc hr
  by_cases e : i = j
  · subst e; exact getD_set_true (h k hk ha)
  · rw [getD_set_ne false e] at hj
    exact getD_set_true (hc j hj k hk ha)

/-- what stands behind the first ones goes in the order of the text -/
theorem any_tail (D : DrawOk ops mask m) : ∀ (l : List Oper) (k : Nat) (listed : Array Bool) (a : Act) (w : World), m ≤ k → (∀ j : Nat, l[j]? = ops[k + j]?) → listed.size = ops.size → ClosedL ops mask listed →
    (∀ j, j < ops.size → (listed.getD j false = true ↔ j < k)) → wpList P ops Q l a w → wpAny P .any ops Q l.length listed a w
  | [], k, listed, a, w, hk, hl, hs, hc, hL, h => by
    have hn : ops.size ≤ k := by
      have := hl 0
      simp only [List.getElem?_nil, Nat.add_zero] at this
      rcases Nat.lt_or_ge k ops.size with h' | h'
      · rw [Array.getElem?_eq_getElem h'] at this; cases this
      · exact h'
    refine ⟨?_, h⟩
    cases hr : Region.ready .any ops listed with
    | nil => rfl
    | cons i r =>
      have hi : i ∈ Region.ready .any ops listed := by rw [hr]; simp
      obtain ⟨h1, h2, _⟩ := ready_anc D hc hi
      have := (hL i h1).2 (by omega)
      rw [getD_eq (by omega)] at h2
      rw [this] at h2; cases h2
  | o :: l, k, listed, a, w, hk, hl, hs, hc, hL, h => by
    have hok : ops[k]? = some o := by simpa using (hl 0).symm
    have hkn : k < ops.size := (Array.getElem?_eq_some_iff.1 hok).1
    have only : ∀ i, i ∈ Region.ready .any ops listed → i = k := by
      intro i hi
      obtain ⟨h1, h2, h3⟩ := ready_anc D hc hi
      rcases Nat.lt_trichotomy i k with e | e | e
      · have := (hL i h1).2 e
        rw [getD_eq (by omega), this] at h2; cases h2
      · exact e
      · have := h3 k hkn (D.tail i k (by omega) h1 e)
        have := (hL k hkn).1 this
        omega
    have hin : k ∈ Region.ready .any ops listed := by
      refine mem_ready.2 ⟨?_, o, hok, fun e he hb => ?_⟩
      · rw [getD_eq (by omega)]
        cases hx : listed.getD k false with
        | false => rfl
        | true => have := (hL k hkn).1 hx; omega
      · have := D.edges k o hok e he hb
        exact (hL e.on (by omega)).2 this
    refine ⟨fun h0 => (by rw [h0] at hin; cases hin), fun i hi => ?_⟩
    obtain rfl := only i hi
    have hstep : wpOp P ops Q i (wpList P ops Q l) a w := by
      unfold wpOp; simp only [hok]
      unfold wpList at h
      exact h
    refine wpOp_mono (fun a' w' h' => ?_) hstep
    refine any_tail D l (i + 1) _ a' w' (by omega) (fun j => by have := hl (j + 1); simpa [Nat.add_assoc, Nat.add_comm 1 j] using this) (by simpa using hs) (closed_set D hc hi) ?_ h'
    intro j hj
    by_cases e : i = j
    · subst e; simp only [getD_set_self (show i < listed.size by omega)]; simp
    · rw [getD_set_ne false e, hL j hj]; omega

theorem any_fam (D : DrawOk ops mask m) (hK : K.length = m) (e : Nat → Value)
    (hCR : ∀ w w', C w → R w w' → C w')
    (hT : ∀ (i : Nat) (T : Rel), K[i]? = some (some T) → (∀ r u w w', C w → R w w' → T r u w → T r u w') ∧ ∀ r r' u w, (∀ j, j < m → anc mask i j = true → r j = r' j) → T r u w → T r' u w)
    (hob : ∀ (j : Nat) (o : Oper), j < m → ops[j]? = some o → Ob P n ops C R mask K ρ e j o)
    (hfin : ∀ r w', C w' → AllFacts K r w' → wpList P ops Q (ops.toList.drop m) (St n (lexFr ops ρ (valOf K e r) m)) w') :
    ∀ (fuel : Nat) (listed : Array Bool) (w : World) (r : Env), listed.size = ops.size → listed.toList.count false = fuel → ClosedL ops mask listed →
      (∀ j, m ≤ j → listed.getD j false = false) → C w → (∀ (j : Nat) (T : Rel), K[j]? = some (some T) → listed.getD j false = true → T r (r j) w) →
      wpAny P .any ops Q fuel listed (St n (listFr ops m ρ (valOf K e r) listed)) w := by
  have hsel := Region.noSelect_spec D.nosel
  intro fuel
  induction fuel with
  | zero =>
    intro listed w r hs hcnt hcl hm hC hF
    -- all are listed: then there is nothing behind the first ones
    have hall : ∀ j, j < ops.size → listed.getD j false = true := by
      intro j hj
      cases hx : listed.getD j false with
      | true => rfl
      | false =>
        have : false ∈ listed.toList := by
          have hj' : j < listed.size := by omega
          have : listed[j] = false := by simpa [hj'] using hx
          rw [← this]; simp
        have := List.count_pos_iff.2 this
        omega
    have hmn : m = ops.size := by
      have h1 := D.hm
      rcases Nat.eq_or_lt_of_le h1 with h | h
      · exact h
      · have := hall m h; rw [hm m (Nat.le_refl _)] at this; cases this
    have hfr : St n (listFr ops m ρ (valOf K e r) listed) = St n (lexFr ops ρ (valOf K e r) m) := St_eq fun t _ => by
      rw [lexFr_eq D ρ _ t m (Nat.le_refl _)]
      unfold listFr
      split
      · rename_i j hj
        have := (writer_some hj).1
        rw [if_pos (hall j (by omega)), if_pos this]
      · rfl
    rw [hfr]
    have h := hfin r w hC fun j T hj => hF j T hj (hall j (by
      have : j < K.length := (List.getElem?_eq_some_iff.1 hj).1
      omega))
    have : ops.toList.drop m = [] := by rw [List.drop_eq_nil_iff]; simp; omega
    rw [this] at h
    refine ⟨?_, h⟩
    cases hr : Region.ready .any ops listed with
    | nil => rfl
    | cons i _ =>
      have hi : i ∈ Region.ready .any ops listed := by rw [hr]; simp
      obtain ⟨h1, h2, _⟩ := ready_anc D hcl hi
      rw [getD_eq (by omega), hall i h1] at h2; cases h2
  | succ fuel ih =>
    intro listed w r hs hcnt hcl hm hC hF
    by_cases hpre : ∀ j, j < m → listed.getD j false = true
    · -- all the first ones are there: the rest, in the order of the text
      have hfr : St n (listFr ops m ρ (valOf K e r) listed) = St n (lexFr ops ρ (valOf K e r) m) := St_eq fun t _ => by
        rw [lexFr_eq D ρ _ t m (Nat.le_refl _)]
        unfold listFr
        split
        · rename_i j hj
          have := (writer_some hj).1
          rw [if_pos (hpre j this), if_pos this]
        · rfl
      rw [hfr]
      have h := hfin r w hC fun j T hj => hF j T hj (hpre j (by
        have : j < K.length := (List.getElem?_eq_some_iff.1 hj).1
        omega))
      have hlen : (ops.toList.drop m).length = fuel + 1 := by
        have hl : listed.toList = List.replicate m true ++ List.replicate (ops.size - m) false := by
          have hm' := D.hm
          apply List.ext_getElem?
          intro j
          rcases Nat.lt_or_ge j m with h1 | h1
          · rw [List.getElem?_append_left (by simpa using h1)]
            have := hpre j h1
            have hj' : j < listed.size := by omega
            simp [hj', h1] at this ⊢; exact this
          · rw [List.getElem?_append_right (by simpa using h1)]
            rcases Nat.lt_or_ge j ops.size with h2 | h2
            · have := hm j h1
              have hj' : j < listed.size := by omega
              have h3 : j - m < ops.size - m := by omega
              simp [hj', h3] at this ⊢; exact this
            · rw [List.getElem?_eq_none (by simp; omega), List.getElem?_eq_none (by simp; omega)]
        rw [hl] at hcnt
        simp [List.count_append, List.count_replicate] at hcnt
        simp; omega
      rw [← hlen]
      exact any_tail D _ m listed _ w (Nat.le_refl _) (fun j => by simp) hs hcl (fun j hj => ⟨fun hx => Nat.lt_of_not_le fun h1 => (by rw [hm j h1] at hx; cases hx), hpre j⟩) h
    · -- one of the first ones comes next
      have only : ∀ i, i ∈ Region.ready .any ops listed → i < m := by
        intro i hi
        obtain ⟨h1, _, h3⟩ := ready_anc D hcl hi
        rcases Nat.lt_or_ge i m with h | h
        · exact h
        · exact absurd (fun j hj => h3 j (by have := D.hm; omega) (D.tail i j h h1 (by omega))) hpre
      have some' : ∃ i, i ∈ Region.ready .any ops listed := by
        have hex : ∃ j, j < m ∧ listed.getD j false = false := by
          rcases Classical.em (∃ j, j < m ∧ listed.getD j false = false) with h | h
          · exact h
          · exact absurd (fun j hj => by
              cases hx : listed.getD j false with
              | true => rfl
              | false => exact absurd ⟨j, hj, hx⟩ h) hpre
        -- the least one
        have least : ∀ j, j < m → listed.getD j false = false → ∃ i, i < m ∧ listed.getD i false = false ∧ ∀ k, k < i → listed.getD k false = true := by
          intro j
          induction j using Nat.strongRecOn with
          | _ j ihj =>
            intro h1 h2
            rcases Classical.em (∃ k, k < j ∧ listed.getD k false = false) with ⟨k, hk, hk'⟩ | h
            · exact ihj k hk (by omega) hk'
            · exact ⟨j, h1, h2, fun k hk => by
                cases hx : listed.getD k false with
                | true => rfl
                | false => exact absurd ⟨k, hk, hx⟩ h⟩
        obtain ⟨j, h1, h2⟩ := hex
        obtain ⟨i, h3, h4, h5⟩ := least j h1 h2
        have hi : i < ops.size := by have := D.hm; omega
        refine ⟨i, mem_ready.2 ⟨by rw [getD_eq (by omega)]; exact h4, ops[i], Array.getElem?_eq_getElem hi, fun e he hb => h5 e.on (D.edges i _ (Array.getElem?_eq_getElem hi) e he hb)⟩⟩
      refine ⟨fun h0 => (by obtain ⟨i, hi⟩ := some'; rw [h0] at hi; cases hi), fun i hi => ?_⟩
      have him := only i hi
      obtain ⟨hin, hun, hanc⟩ := ready_anc D hcl hi
      have hun' : listed.getD i false = false := by rw [← getD_eq (by omega)]; exact hun
      have hoi : ops[i]? = some ops[i] := Array.getElem?_eq_getElem hin
      have hil : i < listed.size := by omega
      have facts : Facts mask K r i w := fun j T hj ha => hF j T hj (hanc j (by
        have h1 : j < K.length := (List.getElem?_eq_some_iff.1 hj).1
        have := D.hm; omega) ha)
      have hg := hob i _ him hoi r w hC facts
      have hg' : Gives P n ops (listFr ops m ρ (valOf K e r) listed) ops[i] w fun u w' => (∀ T : Rel, K[i]? = some (some T) → T r u w') ∧ (K[i]? = some none → u = e i) ∧ R w w' := by
        refine hg.congr (fun cs b => hsel i _ cs b hoi) fun t ht => ?_
        rw [lexFr_eq D ρ _ t i (by omega)]
        unfold listFr
        split
        · rename_i j hj
          rcases D.reads i _ him hoi t ht j hj with rfl | ⟨h1, h2⟩ | ⟨h1, h2⟩
          · rw [if_neg (by omega), if_neg (by rw [hun']; simp)]
          · rw [if_pos h1, if_pos (hanc j (by omega) h2)]
          · rw [if_neg (by omega)]
            rw [if_neg]
            intro hx
            have := hcl j hx i hin h2
            rw [hun'] at this; cases this
        · rfl
      refine hg'.wpOp hoi fun u w' ⟨h1, h2, h3⟩ => ?_
      -- the values behind this operation
      let r' : Env := fun j => if j = i then u else r j
      have hr' : ∀ j, j ≠ i → r' j = r j := fun j hj => if_neg hj
      have hri : r' i = u := if_pos rfl
      have hKi : ∃ x, K[i]? = some x := ⟨_, List.getElem?_eq_getElem (by omega)⟩
      have hval : ∀ j, j ≠ i → valOf K e r' j = valOf K e r j := by
        intro j hj
        unfold valOf
        split
        · exact hr' j hj
        · rfl
      have hvi : valOf K e r' i = u := by
        obtain ⟨x, hx⟩ := hKi
        cases x with
        | none => simp only [valOf, hx]; exact (h2 hx).symm
        | some T => simp only [valOf, hx]; exact hri
      have hframe : St n (updo (listFr ops m ρ (valOf K e r) listed) (ops[i]).dst u) = St n (listFr ops m ρ (valOf K e r') (listed.setIfInBounds i true)) := by
        refine St_eq fun t _ => ?_
        have hbind : (ops[i]?).bind (·.dst) = (ops[i]).dst := by rw [hoi]; rfl
        cases hd : (ops[i]).dst with
        | none =>
          simp only [updo]
          unfold listFr
          split
          · rename_i j hj
            have hne : j ≠ i := fun e => by have := (writer_some hj).2; rw [e, hbind, hd] at this; cases this
            rw [getD_set_ne false (Ne.symm hne), hval j hne]
          · rfl
        | some dd =>
          simp only [updo]
          by_cases ht : t = dd
          · subst ht
            rw [upd_same]
            unfold listFr
            rw [writer_of D him (by rw [hbind, hd])]
            simp only [getD_set_self hil, if_true, hvi]
          · rw [upd_ne _ _ ht]
            unfold listFr
            split
            · rename_i j hj
              have hne : j ≠ i := fun e => by have := (writer_some hj).2; rw [e, hbind, hd] at this; exact ht (Option.some.inj this).symm
              rw [getD_set_ne false (Ne.symm hne), hval j hne]
            · rfl
      rw [hframe]
      refine ih _ w' r' (by simpa using hs) ?_ (closed_set D hcl hi) ?_ (hCR w w' hC h3) ?_
      · rw [Array.toList_setIfInBounds]
        have := count_set listed.toList i (by
          have : listed[i] = false := by simpa [hil] using hun'
          simp [hil, this])
        omega
      · intro j hj
        rw [getD_set_ne false (by omega)]; exact hm j hj
      · intro j T hj hx
        by_cases hji : j = i
        · subst hji
          have h := (hT j T hj).2 r r' u w' (fun k hk ha => (hr' k (fun e => by
            have := (D.up j k hin (by have := D.hm; omega) ha).1; omega)).symm) (h1 T hj)
          rw [hri]; exact h
        · rw [getD_set_ne false (fun e => hji e.symm)] at hx
          have h := (hT j T hj).1 r (r j) w w' hC h3 (hF j T hj hx)
          have h := (hT j T hj).2 r r' (r j) w' (fun k hk ha => (hr' k (fun ek => by
            subst ek
            have := hcl j hx k hin ha
            rw [hun'] at this; cases this)).symm) h
          rw [hr' j hji]; exact h

/-- THE LAW. 'K': of each of the first operations whether its value is the same in all worlds of the class ('none'), or what is told of it. -/
theorem drawAny {id : Nat} {l : List Oper} {w : World} (K : List (Option Rel)) (mask : List Nat) (C : World → Prop) (R : World → World → Prop) (hmix : P.follows .mixedOrders = true) (hB : drawB l.toArray mask K.length = true)
    (hC : C { w with drawn := w.drawn + 1 }) (hCR : ∀ w w', C w → R w w' → C w')
    (hT : ∀ (i : Nat) (T : Rel), K[i]? = some (some T) → (∀ r u w w', C w → R w w' → T r u w → T r u w') ∧ ∀ r r' u w, (∀ j, j < K.length → anc mask i j = true → r j = r' j) → T r u w → T r' u w)
    (h : Walk P n l.toArray C R mask K (fun ρ' => ∀ r w', C w' → AllFacts K r w' → W P n l.toArray Q (l.drop K.length) (ρ' r) w') 0 K l fun _ => ρ) :
    (Code.region id l.toArray true).wp P Q (St n ρ) w := by
  have D := DrawOk.of hB
  obtain ⟨e, _, h2, _, h4⟩ := Walk.out (ops := l.toArray) (ρ := ρ) K l 0 (fun _ => ρ) (fun _ => undef) (fun j => by simp) (fun j => by simp) (fun r => rfl) h
  simp only [Nat.zero_add] at h2 h4
  refine wp_region_any hmix ?_
  have hrep : ∀ j, (Array.replicate l.toArray.size false).getD j false = false := fun j => by
    simp only [Array.getD_eq_getD_getElem?, Array.getElem?_replicate]
    split <;> rfl
  have h := any_fam (Q := Q) (ρ := ρ) (C := C) D rfl e hCR hT (fun j o hj ho => h2 j o (Nat.zero_le _) hj ho) (fun r w' hC' hF => (h4 r w' hC' hF).out)
    l.toArray.size (Array.replicate l.toArray.size false) { w with drawn := w.drawn + 1 } (fun _ => undef) (by simp) (by simp) (fun j hj => by rw [hrep] at hj; cases hj) (fun j _ => hrep j) hC (fun j T _ hj => by rw [hrep] at hj; cases hj)
  have hf : St n (listFr l.toArray K.length ρ (valOf K e fun _ => undef) (Array.replicate l.toArray.size false)) = St n ρ := St_eq fun t _ => by
    unfold listFr
    split
    · rw [hrep]; simp
    · rfl
  rw [hf] at h
  exact h
end
end Go.Proofs.YteofdmdpaejgaaaDoor.Vc
