/- The calculus: small laws that a written walk leans on. -/
import Derived.Test.YteofdmdpaejgaaaDoorVcDraw
import Derived.KernelRfl
namespace Go.Proofs.YteofdmdpaejgaaaDoor.Vc
open Go

/-- a call's end: it returns -/
abbrev Ret (R : Value → World → Prop) : Ending → World → Prop := fun e w' => ∃ v, e = .returned v ∧ R v w'

theorem relNone {m : Nat} {mask : List Nat} {K : List (Option Rel)} {C : World → Prop} {R : World → World → Prop} (h : (K.all fun x => x.isNone) = true) :
    ∀ (i : Nat) (T : Rel), K[i]? = some (some T) → (∀ r u w w', C w → R w w' → T r u w → T r u w') ∧ ∀ r r' u w, (∀ j, j < m → anc mask i j = true → r j = r' j) → T r u w → T r' u w := by
  intro i T hi
  have := List.all_eq_true.1 h _ (List.mem_of_getElem? hi)
  cases this

section
variable {α : Type} {E : Enc α}
theorem f1 (hE : E.s = 1) (a : α) : E.f a = [(E.f a).getD 0 undef] := by
  have := E.len a
  rw [hE] at this
  match h : E.f a, this with
  | [x], _ => rfl
theorem cel1 (hE : E.s = 1) (l : List α) : cel E l = l.map fun a => (E.f a).getD 0 undef := by
  induction l with
  | nil => rfl
  | cons a l ih => rw [cel_cons, ih, f1 hE a]; rfl
theorem put1 (hE : E.s = 1) (l : List α) (j : Nat) (a : α) : putR (cel E l).toArray j (E.val a).cells.toList = (cel E (l.set j a)).toArray := by
  have h1 := f1 hE a
  rw [show (E.val a).cells.toList = E.f a from rfl, h1]
  simp only [putR, List.setIfInBounds_toArray]
  rw [cel1 hE, cel1 hE, List.map_set]
theorem putAll {l m : List α} (h : l.length = m.length) : putR (cel E l).toArray 0 (Value.agg (cel E m).toArray).cells.toList = (cel E m).toArray := by
  have := putR_append [] (cel E l) (cel E m) [] (by rw [cel_length, cel_length, h])
  simpa [Value.cells] using this
theorem celSize {l : List α} {k : Nat} (h : l.length * E.s = k) : (Value.agg (cel E l).toArray).cells.size = k := by
  show (cel E l).toArray.size = k
  rw [List.size_toArray, cel_length, h]
theorem celOne (l : List α) : ∀ u ∈ (Value.agg (cel E l).toArray).cells.toList, u.oneCell' = true := by
  intro u hu
  simp only [Value.cells, cel, List.mem_flatMap] at hu
  obtain ⟨a, _, ha⟩ := hu
  exact E.one a u ha
theorem ext_all {l : List α} {k : Nat} (h : (cel E l).length = k) : (cel E l).toArray.extract 0 (0 + k) = (cel E l).toArray := by
  subst h; simp
theorem ext_mid (l : List α) (off k : Nat) (hE : E.s = 1) : (cel E l).toArray.extract off (off + k) = (cel E ((l.drop off).take k)).toArray := by
  rw [cel1 hE, cel1 hE]
  simp only [List.extract_toArray, List.map_take, List.map_drop]
  congr 1
  simp [List.extract, Nat.add_sub_cancel_left]
theorem at_getD {l : List α} {j : Nat} {d : α} (h : j < l.length) : l[j]? = some (l.getD j d) := by simp [h]
end
section
variable {P : Program} {n : Nat} {ρ : Env} {w : World} {d : Option Nat} {t T : TypeId} {pos : String} {after : Array Edge} {g : Option (Nat × Bool)} {x : Operand} {b : Nat} {X : TypeId} {fr : Nat × Nat}
theorem Enters.callL {f : FuncId} {as : List Operand} {ats : Array TypeId} {vs : List Value} (hf : callable P f = true) (ha : as.map (ev n ρ) = vs) :
    Enters P n ρ ⟨d, .call ⟨.value (.func f), as.toArray, ats⟩, t, pos, after, g⟩ w f vs.toArray := Enters.call hf (by simp [ha])
theorem r_idxE {α : Type} {E : Enc α} {l : List α} {j m : Nat} {a : α} {e : TypeId} {kk : IntKind} {i : Int} {y : Operand} (hE : E.s = 1) (hu : P.underlying T = some (.array m e)) (h1 : isOne P e = true) (hz : siz P e = some 1)
    (hx : ev n ρ x = .agg (cel E l).toArray) (hy : ev n ρ y = .int kk i) (hi : i = (j : Int)) (hj : j < m) (ha : l[j]? = some a) (hv : ∀ a, (E.val a).cells = #[E.val a]) :
    Runs P n ρ ⟨d, .index T x y, t, pos, after, g⟩ w (E.val a) w :=
  r_index1 hu h1 hz hx hy hi hj (by
    have := cel_get (E := E) l j 0 a ha (by omega)
    rw [hE] at this
    simp only [List.getElem?_toArray]
    rw [show j * 1 = j * 1 + 0 from rfl, this]
    simp [Enc.f, hv])
theorem r_sliceA {m z l h l' h' off : Nat} {kl kh : IntKind} {a b' : Int} {lo hi : Operand} (ha : arr P T = some (m, z)) (hx : ev n ρ x = .pointer (some ⟨b, off, none⟩)) (hl : ev n ρ lo = .int kl a) (hh : ev n ρ hi = .int kh b')
    (el : a = (l : Int)) (eh : b' = (h : Int)) (h1 : l ≤ h) (h2 : h ≤ m) (h3 : l < m) (e1 : off + l * z = l') (e2 : h - l = h') :
    Runs P n ρ ⟨d, .slice T x (some lo) (some hi) none, t, pos, after, g⟩ w (.slice (some ⟨b, l', none⟩) h' (m - l)) w := by
  subst el eh e1 e2
  unfold arr at ha
  split at ha
  · rename_i m' e hu
    simp only [Option.map_eq_some_iff, Prod.mk.injEq] at ha
    obtain ⟨z', hz, rfl, rfl⟩ := ha
    have c1 : (0 : Int) ≤ (h : Int) ∧ (h : Int) ≤ (m' : Int) := by omega
    have c2 : (0 : Int) ≤ (l : Int) ∧ (l : Int) ≤ (h : Int) := by omega
    have b1 : (Instr.sliceBounds false m' m' (some (.int kl l)) (some (.int kh h)) none).run P w = .ok (l, h, m') w := by
      simp [Instr.sliceBounds, Instr.sliceBound, asIntOf, c1, c2, h2, h1]
    simp only [Runs, execOp, hx, hl, hh, Option.map_some, Option.map_none, Instr.sliceAt, Sem.run_bind, run_underlying hu, Result.andThen_ok, Instr.sureAddr, Sem.run_pure, b1, run_siz hz, Addr.add_lit]
    rw [if_neg (by omega)]
  · cases ha
theorem r_arrPtr {m z len cap : Nat} {a : Addr} (ha : arr P T = some (m, z)) (hx : ev n ρ x = .slice (some a) len cap) (h : m ≤ len) :
    Runs P n ρ ⟨d, .sliceToArrayPointer T x, t, pos, after, g⟩ w (.pointer (some a)) w := by
  unfold arr at ha
  split at ha
  · rename_i m' e hu
    simp only [Option.map_eq_some_iff, Prod.mk.injEq] at ha
    obtain ⟨z', hz, rfl, rfl⟩ := ha
    have : ¬ len < m' := by omega
    simp [Runs, execOp, hx, Instr.arrayAt, run_underlying hu, this]
  · cases ha
theorem r_ld1 {α : Type} {E : Enc α} {l : List α} {j : Nat} {a : α} (hF : Fits P T E) (h : w.heap[b]? = some (.cells (cel E l).toArray X fr)) (hj : l[j]? = some a) (hE : E.s = 1)
    (hx : ev n ρ x = .pointer (some ⟨b, j, none⟩)) : Runs P n ρ ⟨d, .load T x, t, pos, after, g⟩ w (E.val a) w :=
  r_load hF h hx fun i hi => by
    have := cel_get (E := E) l j i a hj hi
    rw [hE, Nat.mul_one] at this
    simpa using this
end

theorem put0 {α : Type} {E : Enc α} {l m : List α} (h : m.length ≤ l.length) : putR (cel E l).toArray 0 (Value.agg (cel E m).toArray).cells.toList = (cel E (m ++ l.drop m.length)).toArray := by
  have e : cel E l = [] ++ cel E (l.take m.length) ++ cel E (l.drop m.length) := by rw [List.nil_append, ← cel_append, List.take_append_drop]
  have := putR_append [] (cel E (l.take m.length)) (cel E m) (cel E (l.drop m.length)) (by rw [cel_length, cel_length, List.length_take, Nat.min_eq_left h])
  rw [e]
  simpa [Value.cells, cel_append] using this
/-- one place whose value isn't the same in all worlds -/
theorem relOne {m : Nat} {mask : List Nat} {K : List (Option Rel)} {C : World → Prop} {R : World → World → Prop} (i₀ : Nat) (T₀ : Rel) (h0 : K[i₀]? = some (some T₀)) (h : ((K.set i₀ none).all fun x => x.isNone) = true)
    (h1 : ∀ r u w w', C w → R w w' → T₀ r u w → T₀ r u w') (h2 : ∀ r r' u w, (∀ j, j < m → anc mask i₀ j = true → r j = r' j) → T₀ r u w → T₀ r' u w) :
    ∀ (i : Nat) (T : Rel), K[i]? = some (some T) → (∀ r u w w', C w → R w w' → T r u w → T r u w') ∧ ∀ r r' u w, (∀ j, j < m → anc mask i j = true → r j = r' j) → T r u w → T r' u w := by
  intro i T hi
  by_cases e : i₀ = i
  · subst e; rw [h0] at hi; cases hi; exact ⟨h1, h2⟩
  · have hi' : (K.set i₀ none)[i]? = some (some T) := by rw [List.getElem?_set_ne e]; exact hi
    have := List.all_eq_true.1 h _ (List.mem_of_getElem? hi')
    cases this
def allocRel (w₀ : World) (o : Obj) : Rel := fun _ u w' => ∃ b, u = .pointer (some ⟨b, 0, none⟩) ∧ w₀.heap.size ≤ b ∧ w'.heap[b]? = some o
/-- what several places tell -/
def RelsOk (m : Nat) (mask : List Nat) (C : World → Prop) (R : World → World → Prop) : Nat → List (Option Rel) → Prop
  | _, [] => True
  | i, none :: ks => RelsOk m mask C R (i + 1) ks
  | i, some T :: ks => ((∀ r u w w', C w → R w w' → T r u w → T r u w') ∧ ∀ r r' u w, (∀ j, j < m → anc mask i j = true → r j = r' j) → T r u w → T r' u w) ∧ RelsOk m mask C R (i + 1) ks
theorem relAll' {m : Nat} {mask : List Nat} {C : World → Prop} {R : World → World → Prop} : ∀ (K : List (Option Rel)) (k : Nat), RelsOk m mask C R k K →
    ∀ (i : Nat) (T : Rel), K[i]? = some (some T) → (∀ r u w w', C w → R w w' → T r u w → T r u w') ∧ ∀ r r' u w, (∀ j, j < m → anc mask (k + i) j = true → r j = r' j) → T r u w → T r' u w
  | [], _, _, i, T, h => by simp at h
  | none :: ks, k, h, 0, T, hi => by simp at hi
  | some T' :: ks, k, h, 0, T, hi => by simp at hi; subst hi; exact h.1
  | none :: ks, k, h, i + 1, T, hi => by
    have := relAll' ks (k + 1) h i T (by simpa using hi)
    rwa [show k + 1 + i = k + (i + 1) by omega] at this
  | some _ :: ks, k, h, i + 1, T, hi => by
    have := relAll' ks (k + 1) h.2 i T (by simpa using hi)
    rwa [show k + 1 + i = k + (i + 1) by omega] at this
theorem relAll {m : Nat} {mask : List Nat} {K : List (Option Rel)} {C : World → Prop} {R : World → World → Prop} (h : RelsOk m mask C R 0 K) :
    ∀ (i : Nat) (T : Rel), K[i]? = some (some T) → (∀ r u w w', C w → R w w' → T r u w → T r u w') ∧ ∀ r r' u w, (∀ j, j < m → anc mask i j = true → r j = r' j) → T r u w → T r' u w := by
  intro i T hi
  have := relAll' K 0 h i T hi
  rwa [Nat.zero_add] at this
theorem allocRel_congr {w₀ : World} {o : Obj} {m i : Nat} {mask : List Nat} : ∀ (r r' : Env) u w, (∀ j, j < m → anc mask i j = true → r j = r' j) → allocRel w₀ o r u w → allocRel w₀ o r' u w := fun _ _ _ _ _ h => h
theorem allocRel_stable {w₀ : World} {o : Obj} {C : World → Prop} : ∀ r u w w', C w → Ext w w' → allocRel w₀ o r u w → allocRel w₀ o r u w' :=
  fun _ _ _ _ _ h ⟨b, h1, h2, h3⟩ => ⟨b, h1, h2, h.get h3⟩
theorem allocGives {P : Program} {n : Nat} {ops : Array Oper} {ρ : Env} {w₀ w' : World} {d : Option Nat} {t T : TypeId} {pos : String} {after : Array Edge} {z : Value} {o : Obj} {r : Env}
    (hz : zer P T = some z) (hc : Obj.cells z.cells T (0, 0) = o) (hC : Ext w₀ w') :
    Gives P n ops ρ ⟨d, .alloc T, t, pos, after, none⟩ w' fun u w'' => allocRel w₀ o r u w'' ∧ Ext w' w'' := by
  subst hc
  exact Gives.run rfl (Runs.alloc hz) ⟨⟨_, rfl, hC.size, alloc_new _ _⟩, Ext.alloc _ _⟩

/-! ### results, out of slots and out of memory -/
def loadOp (T a : Nat) : Oper := ⟨none, .load T (.tmp a), 0, "", #[], none⟩
def ResOK (P : Program) (n : Nat) (ρ : Env) (w : World) : List ResultVar → List Value → Prop
  | [], [] => True
  | .tmp t :: rs, v :: vs => (Nat.blt t n = true ∧ ρ t = v) ∧ ResOK P n ρ w rs vs
  | .cell a T :: rs, v :: vs => Runs P n ρ (loadOp T a) w v w ∧ ResOK P n ρ w rs vs
  | _, _ => False
def resV : List Value → Value
  | [v] => v
  | vs => .tuple vs.toArray
section
variable {P : Program} {n : Nat} {ρ : Env} {w : World}
theorem run_res : ∀ (rs : List ResultVar) (vs : List Value), ResOK P n ρ w rs vs →
    (rs.mapM (fun (x : ResultVar) => match x with
      | .tmp t => (pure ((St n ρ).tmps.getD t undef) : Sem Value)
      | .cell a t => do loadVar t (← asAddr ((St n ρ).tmps.getD a undef)))).run P w = .ok vs w
  | [], [], _ => rfl
  | .tmp t :: rs, v :: vs, h => by
    simp only [List.mapM_cons, Sem.run_bind, Sem.run_pure, Result.andThen_ok, run_res rs vs h.2, St_getD h.1.1, h.1.2]
  | .cell a T :: rs, v :: vs, h => by
    have h1 := h.1
    have e : (St n ρ).tmps.getD a undef = ev n ρ (.tmp a) := by
      have := congrFun (St_eval n ρ) (.tmp a)
      exact this
    simp only [Runs, loadOp, execOp, Instr.loadAt, Sem.run_bind] at h1
    have h2 : ((asAddr (ev n ρ (.tmp a))).run P w).andThen (fun ad w' => (loadVar T ad).run P w') = .ok v w := by
      cases hv : ev n ρ (.tmp a) with
      | pointer p =>
        cases p with
        | none => rw [hv] at h1; simp [Instr.sureAddr] at h1
        | some ad =>
          rw [hv] at h1
          simp only [Instr.sureAddr, Sem.run_pure, Result.andThen_ok] at h1
          simp only [asAddr, Sem.run_pure, Result.andThen_ok]
          cases hr : (loadVar T ad).run P w with
          | ok x w' => rw [hr] at h1; simp only [Result.andThen_ok] at h1; cases h1; rfl
          | halt x w' => rw [hr] at h1; cases h1
      | _ => rw [hv] at h1; simp [Instr.sureAddr] at h1
    simp only [List.mapM_cons, Sem.run_bind, e, h2, Result.andThen_ok, run_res rs vs h.2, Sem.run_pure]
  | [], _ :: _, h => h.elim
  | .tmp _ :: _, [], h => h.elim
  | .cell _ _ :: _, [], h => h.elim
theorem run_results {fn : Func} {rs : List ResultVar} {vs : List Value} (hr : fn.results = rs.toArray) (h : ResOK P n ρ w rs vs) : (results fn (St n ρ).tmps).run P w = .ok (resV vs) w := by
  have hm := run_res rs vs h
  have e : (results fn (St n ρ).tmps).run P w = ((rs.mapM (fun (x : ResultVar) => match x with
      | .tmp t => (pure ((St n ρ).tmps.getD t undef) : Sem Value)
      | .cell a t => do loadVar t (← asAddr ((St n ρ).tmps.getD a undef)))).run P w).andThen fun l w' => .ok (resV l) w' := by
    unfold results
    rw [hr, Array.mapM_eq_mapM_toList]
    simp only [Sem.run_bind, Sem.run_map]
    generalize (List.mapM _ _ : Sem (List Value)).run P w = r
    cases r with
    | halt x w' => rfl
    | ok l w' =>
      simp only [Result.andThen_ok, Sem.run_pure]
      match l with
      | [] => rfl
      | [v] => rfl
      | _ :: _ :: _ => simp [resV]
  rw [e, hm]; rfl
variable {fn : Func} {R : Ending → World → Prop} {rs : List ResultVar} {vs : List Value}
theorem retG (hr : fn.results = rs.toArray) (h : ResOK P n ρ w rs vs) (hR : R (.returned (resV vs)) w) : bodyPost P fn R .ret (St n ρ) w :=
  bodyPost_ret (run_results hr h) rfl hR
theorem endG (hr : fn.results = rs.toArray) (h : ResOK P n ρ w rs vs) (hR : R (.returned (resV vs)) w) : bodyPost P fn R .normal (St n ρ) w :=
  bodyPost_end (run_results hr h) rfl hR
end
end Go.Proofs.YteofdmdpaejgaaaDoor.Vc
