/- The calculus' entries of the model, methods, interface values. -/
import Derived.Test.YteofdmdpaejgaaaDoorVcStr
import Derived.Stop.Asserts
import Derived.LaidEql
import Derived.Laws.Externs
namespace Go.Proofs.YteofdmdpaejgaaaDoor.Vc
open Go

/-- a call of an entry of the model's own -/
def Xc (P : Program) (f : FuncId) (as : List Value) (w : World) (R : Value → World → Prop) : Prop :=
  ∃ v w', (callFunc f as.toArray).run P w = .ok (.value v) w' ∧ R v w'
/-- what method a name means -/
def Mth (P : Program) (T : TypeId) (name : String) (x : Value) (f : FuncId) (y : Value) : Prop :=
  ∀ w, (method (P.types.size + Made.depth) T x name).run P w = .ok (f, y) w
section
variable {P : Program} {n : Nat} {ops : Array Oper} {Q : Exit → Act → World → Prop} {rest : List Oper} {ρ : Env} {w : World} {d : Option Nat} {t T T' S : TypeId} {pos : String} {after : Array Edge}
  {g : Option (Nat × Bool)} {x y : Operand} {f : FuncId} {as : List Operand} {ats : Array TypeId} {vs : List Value} {R : Value → World → Prop} {xv yv : Value} {recv : Operand} {name : String}
theorem Xc.of {fn : Func} {e : Array Value → Sem Value} {l : List Value} {v : Value} {w' : World} (hf : P.funcs[f]? = some fn) (hname : (fn.name == "runtime.NumGoroutine") = false) (hb : fn.body.isNone = true)
    (hn : Extern.findNext fn = none) (he : Extern.find fn = some e) (h : (e l.toArray).run P w = .ok v w') (hR : R v w') : Xc P f l w R :=
  ⟨v, w', by rw [run_callFunc_extern hf hname hb hn he, h]; rfl, hR⟩
theorem r_ext (ha : as.map (ev n ρ) = vs) (hc : Xc P f vs w R) :
    ∃ v w', Runs P n ρ ⟨d, .call ⟨.value (.func f), as.toArray, ats⟩, t, pos, after, g⟩ w v w' ∧ R v w' := by
  obtain ⟨v, w', h1, h2⟩ := hc
  subst ha
  have e : ev n ρ (.func f) = .func (.func f) #[] #[] := rfl
  exact ⟨v, w', by simp only [List.map_toArray.symm] at h1; simpa [Runs, execOp, resolve, e, Deferred.ofValue, invoke] using h1, h2⟩
theorem inv_run (hr : ev n ρ recv = .iface T xv) (hm : Mth P T name xv f yv) (ha : as.map (ev n ρ) = vs) :
    (execOp (ev n ρ) ⟨d, .call ⟨.invoke recv name, as.toArray, ats⟩, t, pos, after, g⟩).run P w = (callFunc f (yv :: vs).toArray).run P w := by
  subst ha
  simp only [execOp, resolve, hr, Sem.run_bind, Sem.run_pure, Result.andThen_ok, invoke, callMethod]
  simp [hm w, Result.andThen_ok, List.take_of_length_le]
theorem r_invX (hr : ev n ρ recv = .iface T xv) (hm : Mth P T name xv f yv) (ha : as.map (ev n ρ) = vs) (hc : Xc P f (yv :: vs) w R) :
    ∃ v w', Runs P n ρ ⟨d, .call ⟨.invoke recv name, as.toArray, ats⟩, t, pos, after, g⟩ w v w' ∧ R v w' := by
  obtain ⟨v, w', h1, h2⟩ := hc
  exact ⟨v, w', by rw [Runs, inv_run hr hm ha]; exact h1, h2⟩
theorem Enters.inv (hf : callable P f = true) (hr : ev n ρ recv = .iface T xv) (hm : Mth P T name xv f yv) (ha : as.map (ev n ρ) = vs) :
    Enters P n ρ ⟨d, .call ⟨.invoke recv name, as.toArray, ats⟩, t, pos, after, g⟩ w f (yv :: vs).toArray := by
  rw [Enters, inv_run hr hm ha]; exact run_callFunc hf
/-- a step whose value and world are told by a relation -/
theorem sqR {o : Oper} (hw : Region.wanted o (yielded ops (St n ρ).tmps) = true) (h : ∃ v w', Runs P n ρ o w v w' ∧ R v w') (hK : ∀ v w', R v w' → W P n ops Q rest (updo ρ o.dst v) w') : W P n ops Q (o :: rest) ρ w := by
  obtain ⟨v, w', h1, h2⟩ := h
  exact sqAny hw h1 (hK v w' h2)
theorem r_mkI {k : IntKind} (hT : P.underlying S = some (.int k)) (hx : ev n ρ x = xv) : Runs P n ρ ⟨d, .makeInterface S x, t, pos, after, g⟩ w (.iface S xv) w := by
  simp [Runs, execOp, hx, Instr.makeInterface, run_underlying hT]
theorem r_mkIP {e : TypeId} (hT : P.underlying S = some (.pointer e)) (hx : ev n ρ x = xv) : Runs P n ρ ⟨d, .makeInterface S x, t, pos, after, g⟩ w (.iface S xv) w := by
  simp [Runs, execOp, hx, Instr.makeInterface, run_underlying hT]
def lacksI (P : Program) (t asserted : TypeId) : Bool := match P.underlying asserted, P.info? t, P.info? asserted with
  | some (.interface want), some i, some j => !(lacking want i.methods).isEmpty && (match j.zero with | some .nilIface => true | _ => false)
  | _, _, _ => false
def hasI (P : Program) (t asserted : TypeId) : Bool := match P.underlying asserted, P.info? t with
  | some (.interface want), some i => (lacking want i.methods).isEmpty
  | _, _ => false
theorem r_lacks {a : TypeId} (h : lacksI P T a = true) (hx : ev n ρ x = .iface T xv) : Runs P n ρ ⟨d, .typeAssert x S a true, t, pos, after, g⟩ w (.tuple #[.nilIface, .bool false]) w := by
  unfold lacksI at h
  split at h
  · rename_i want i j h1 h2 h3
    rw [Bool.and_eq_true] at h
    obtain ⟨h4, h5⟩ := h
    split at h5
    · rename_i h6
      have := run_typeAssert_lacks (P := P) (w := w) (xT := S) (v := xv) h1 h2 h3 h6 (fun e => by rw [e] at h4; cases h4)
      simp [Runs, execOp, hx, this]
    · cases h5
  · cases h
theorem r_has {a : TypeId} (h : hasI P T a = true) (hx : ev n ρ x = .iface T xv) : Runs P n ρ ⟨d, .typeAssert x S a true, t, pos, after, g⟩ w (.tuple #[.iface T xv, .bool true]) w := by
  unfold hasI at h
  split at h
  · rename_i want i h1 h2
    have := run_typeAssert_has (P := P) (w := w) (xT := S) (v := xv) h1 h2 (List.isEmpty_iff.1 h)
    simp [Runs, execOp, hx, this]
  · cases h
/-! ### equality at an interface type -/
def isI (P : Program) (T : TypeId) : Bool := match P.underlying T with | some (.interface _) => true | _ => false
theorem isI_out (h : isI P T = true) : ∃ ms, P.underlying T = some (.interface ms) := by
  unfold isI at h; split at h
  · rename_i ms hm; exact ⟨ms, hm⟩
  · cases h
theorem run_eqII (hT : isI P T = true) (hne : S ≠ T') (w : World) : (binOp .eql T (.iface S xv) (.iface T' yv)).run P w = .ok (.bool false) w := by
  obtain ⟨ms, hm⟩ := isI_out hT
  exact Go.run_eql_iface_types _ _ _ _ hm hne w
theorem r_eqlII (hT : isI P T = true) (hne : Nat.beq S T' = false) (hx : ev n ρ x = .iface S xv) (hy : ev n ρ y = .iface T' yv) : Runs P n ρ ⟨d, .binOp .eql T x y T, t, pos, after, g⟩ w (.bool false) w := by
  have h := run_eqII (P := P) (xv := xv) (yv := yv) hT (fun e : S = T' => by subst e; simp at hne) w
  simp [Runs, execOp, hx, hy, eqGuard, h]
theorem r_eqlIN (hT : isI P T = true) (hx : ev n ρ x = .iface S xv) (hy : ev n ρ y = .nilIface) : Runs P n ρ ⟨d, .binOp .eql T x y T', t, pos, after, g⟩ w (.bool false) w := by
  obtain ⟨ms, hm⟩ := isI_out hT
  have h : ∀ d : Nat, (Op.equalIn (d + 1) T (.iface S xv) .nilIface).run P w = .ok false w := fun d => by simp [Op.equalIn, run_underlying hm]
  have h2 : (binOp .eql T (.iface S xv) .nilIface).run P w = .ok (.bool false) w := by simp only [binOp]; simp [Op.equal, Op.maxDepth, h 9999]
  simp [Runs, execOp, hx, hy, eqGuard, h2]
theorem r_neqIN (hT : isI P T = true) (hx : ev n ρ x = .iface S xv) (hy : ev n ρ y = .nilIface) : Runs P n ρ ⟨d, .binOp .neq T x y T', t, pos, after, g⟩ w (.bool true) w := by
  obtain ⟨ms, hm⟩ := isI_out hT
  have h : ∀ d : Nat, (Op.equalIn (d + 1) T (.iface S xv) .nilIface).run P w = .ok false w := fun d => by simp [Op.equalIn, run_underlying hm]
  have h2 : (binOp .neq T (.iface S xv) .nilIface).run P w = .ok (.bool true) w := by simp only [binOp]; simp [Op.equal, Op.maxDepth, h 9999]
  simp [Runs, execOp, hx, hy, eqGuard, h2]
theorem r_eqlNN {c : Value} (hT : isI P T = true) (hx : ev n ρ x = .nilIface) (hy : ev n ρ (.const c) = .nilIface) : Runs P n ρ ⟨d, .binOp .eql T x (.const c) T', t, pos, after, g⟩ w (.bool true) w := by
  obtain ⟨ms, hm⟩ := isI_out hT
  have h : ∀ d : Nat, (Op.equalIn (d + 1) T .nilIface .nilIface).run P w = .ok true w := fun d => by simp [Op.equalIn, run_underlying hm]
  have h2 : (binOp .eql T .nilIface .nilIface).run P w = .ok (.bool true) w := by simp only [binOp]; simp [Op.equal, Op.maxDepth, h 9999]
  simp [Runs, execOp, hx, hy, eqGuard, h2]
theorem r_neqNN {c : Value} (hT : isI P T = true) (hx : ev n ρ x = .nilIface) (hy : ev n ρ (.const c) = .nilIface) : Runs P n ρ ⟨d, .binOp .neq T x (.const c) T', t, pos, after, g⟩ w (.bool false) w := by
  obtain ⟨ms, hm⟩ := isI_out hT
  have h : ∀ d : Nat, (Op.equalIn (d + 1) T .nilIface .nilIface).run P w = .ok true w := fun d => by simp [Op.equalIn, run_underlying hm]
  have h2 : (binOp .neq T .nilIface .nilIface).run P w = .ok (.bool false) w := by simp only [binOp]; simp [Op.equal, Op.maxDepth, h 9999]
  simp [Runs, execOp, hx, hy, eqGuard, h2]
def cmpI (P : Program) (S : TypeId) : Bool := match P.underlying S, P.info? S with
  | some (.int .i64), some i => i.comparable
  | _, _ => false
theorem r_eqlIE {a b : Int} (hT : isI P T = true) (hS : cmpI P S = true) (hx : ev n ρ x = .iface S (i64 a)) (hy : ev n ρ y = .iface S (i64 b)) : Runs P n ρ ⟨d, .binOp .eql T x y T', t, pos, after, g⟩ w (.bool (decide (a = b))) w := by
  obtain ⟨ms, hm⟩ := isI_out hT
  unfold cmpI at hS
  split at hS
  · rename_i i h1 h3
    have e : ∀ d : Nat, (Op.equalIn (d + 1) S (i64 a) (i64 b)).run P w = .ok (a == b) w := fun d => by simp [Op.equalIn, run_underlying h1, i64]
    have h : ∀ d : Nat, (Op.equalIn (d + 2) T (.iface S (i64 a)) (.iface S (i64 b))).run P w = .ok (a == b) w := fun d => by
      rw [Op.equalIn]; simp [run_underlying hm, typeInfo, h3, hS, e]
    have h2 : (binOp .eql T (.iface S (i64 a)) (.iface S (i64 b))).run P w = .ok (.bool (a == b)) w := by simp only [binOp]; simp [Op.equal, Op.maxDepth, h 9998]
    have e2 : (a == b) = decide (a = b) := by by_cases h : a = b <;> simp [h]
    rw [← e2]
    simp [Runs, execOp, hx, hy, eqGuard, h2]
  · cases hS
/-! ### against nil -/
theorem r_eqlSN {e : TypeId} {a : Option Addr} {m c m' c' : Nat} (hT : P.underlying T = some (.slice e)) (hx : ev n ρ x = .slice a m c) (hy : ev n ρ y = .slice none m' c') : Runs P n ρ ⟨d, .binOp .eql T x y T', t, pos, after, g⟩ w (.bool a.isNone) w := by
  have h : ∀ d : Nat, (Op.equalIn (d + 1) T (.slice a m c) (.slice none m' c')).run P w = .ok a.isNone w := fun d => by cases a <;> simp [Op.equalIn, run_underlying hT]
  have h2 : (binOp .eql T (.slice a m c) (.slice none m' c')).run P w = .ok (.bool a.isNone) w := by simp only [binOp]; simp [Op.equal, Op.maxDepth, h 9999]
  simp [Runs, execOp, hx, hy, eqGuard, h2]
theorem r_neqSN {e : TypeId} {a : Option Addr} {m c m' c' : Nat} (hT : P.underlying T = some (.slice e)) (hx : ev n ρ x = .slice a m c) (hy : ev n ρ y = .slice none m' c') : Runs P n ρ ⟨d, .binOp .neq T x y T', t, pos, after, g⟩ w (.bool (!a.isNone)) w := by
  have h : ∀ d : Nat, (Op.equalIn (d + 1) T (.slice a m c) (.slice none m' c')).run P w = .ok a.isNone w := fun d => by cases a <;> simp [Op.equalIn, run_underlying hT]
  have h2 : (binOp .neq T (.slice a m c) (.slice none m' c')).run P w = .ok (.bool (!a.isNone)) w := by simp only [binOp]; simp [Op.equal, Op.maxDepth, h 9999]
  simp [Runs, execOp, hx, hy, eqGuard, h2]
theorem r_eqlPO {e : TypeId} (hT : P.underlying T = some (.pointer e)) (hx : ev n ρ x = .pointer none) (hy : ev n ρ y = .pointer none) : Runs P n ρ ⟨d, .binOp .eql T x y T', t, pos, after, g⟩ w (.bool true) w := by
  have h : ∀ d : Nat, (Op.equalIn (d + 1) T (.pointer none) (.pointer none)).run P w = .ok true w := fun d => by simp [Op.equalIn, run_underlying hT]
  have h2 : (binOp .eql T (.pointer none) (.pointer none)).run P w = .ok (.bool true) w := by simp only [binOp]; simp [Op.equal, Op.maxDepth, h 9999]
  simp [Runs, execOp, hx, hy, eqGuard, h2]
theorem r_neqPO {e : TypeId} (hT : P.underlying T = some (.pointer e)) (hx : ev n ρ x = .pointer none) (hy : ev n ρ y = .pointer none) : Runs P n ρ ⟨d, .binOp .neq T x y T', t, pos, after, g⟩ w (.bool false) w := by
  have h : ∀ d : Nat, (Op.equalIn (d + 1) T (.pointer none) (.pointer none)).run P w = .ok true w := fun d => by simp [Op.equalIn, run_underlying hT]
  have h2 : (binOp .neq T (.pointer none) (.pointer none)).run P w = .ok (.bool false) w := by simp only [binOp]; simp [Op.equal, Op.maxDepth, h 9999]
  simp [Runs, execOp, hx, hy, eqGuard, h2]
end
/-! ### rows that lie still under a change elsewhere -/
section
variable {α : Type} {E : Enc α} {M : Nat → Prop} {w₀ w : World} {L : List (Option Nat × Obj)} {l : List α} {a : Option Addr}
theorem nilOfRd (h : Rd E w a l) (ha : a.isNone = true) : l = [] := by
  rcases h with h | ⟨b, off, cs, X, fr, h1, _⟩
  · exact h
  · rw [h1] at ha; cases ha
theorem rdChg {N : Nat → Prop} {w' : World} (h : Rd E w a l) (hC : Chg N w w') (hn : ∀ x, a = some x → ¬ N x.block) : Rd E w' a l := by
  rcases h with h | ⟨b, off, cs, X, fr, h1, h2, h3⟩
  · exact .inl h
  · exact .inr ⟨b, off, cs, X, fr, h1, hC.blk _ _ (hn _ h1) h2, h3⟩
theorem hpRdSt {i j b c : Nat} {o : Obj} {key : Option Nat} {X : TypeId} {sp : List Value} (H : Hp M w₀ w L) (hi : L[i]? = some (some b, o)) (hj : L[j]? = some (key, sob E X l sp)) (hij : Nat.beq i j = false) (hS : Sl E key l c sp) :
    ∀ w', Chg (· = b) w w' → Rd E w' (ownA key) l := fun w' hC => rdChg (H.rd hj hS) hC fun x hx e => by
  cases key with
  | none => cases hx
  | some g =>
    simp only [ownA, Option.map_some, Option.some.injEq] at hx
    subst hx
    have := H.apart i j _ _ b hi hj rfl (by simp at e; rw [e])
    simp [this] at hij
theorem hpOf {w' : World} (h : Chg M w₀ w') : Hp M w₀ w' [] := ⟨h, fun _ h => (by cases h), fun _ _ _ _ _ h => (by simp at h), fun _ h => (by cases h)⟩
theorem rdSt {i b : Nat} {o : Obj} (h : Rd E w₀ a l) (H : Hp No w₀ w L) (hi : L[i]? = some (some b, o)) : ∀ w', Chg (· = b) w w' → Rd E w' a l := fun w' hC => by
  rcases h with h | ⟨b', off, cs, X, fr, h1, h2, h3⟩
  · exact .inl h
  · refine .inr ⟨b', off, cs, X, fr, h1, hC.blk _ _ (fun e => ?_) (H.keepE h2), h3⟩
    have h4 := (H.own _ (List.mem_of_getElem? hi) b rfl).resolve_left fun x => x
    have h5 := lt_of_some h2
    have e' : b' = b := e
    omega
end
end Go.Proofs.YteofdmdpaejgaaaDoor.Vc
