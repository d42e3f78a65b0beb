/- The calculus: arrays and labels that are held against each other. -/
import Derived.Test.YteofdmdpaejgaaaDoorVcMore
namespace Go.Proofs.YteofdmdpaejgaaaDoor.Vc
open Go

section
variable {α : Type} {E : Enc α} {P : Program} {w : World} {e T : TypeId}
theorem run_part {cs : Array Value} {off : Nat} {a : α} (hF : Fits P e E) (hc : ∀ i, i < E.s → cs[off + i]? = (E.f a)[i]?) : (part e cs off).run P w = .ok (E.val a) w := by
  obtain ⟨h1, ⟨h2, h3⟩ | ⟨h2, h3⟩⟩ := hF
  · have hs : E.s = 1 := by have := E.hs a; rw [h3 a] at this; simpa using this.symm
    have := hc 0 (by omega)
    rw [Nat.add_zero, Enc.f, h3 a] at this
    simp only [part, Sem.run_bind, run_one h2, Result.andThen_ok, Bool.false_eq_true, if_false, this]
    rfl
  · have h0 := E.pos
    have hl := E.len a
    have hsz : off + E.s ≤ cs.size := by
      have := hc (E.s - 1) (by omega)
      rw [List.getElem?_eq_getElem (by omega)] at this
      have := (Array.getElem?_eq_some_iff.1 this).1
      omega
    simp only [part, Sem.run_bind, run_agg h2, Result.andThen_ok, if_true, run_siz h1, Sem.run_pure]
    rw [h3 a]
    congr 2
    apply Array.ext
    · simp; have := E.hs a; omega
    · intro i hi1 hi2
      simp at hi1
      have hi : i < E.s := by omega
      have := hc i hi
      rw [Array.getElem?_eq_getElem (by omega), List.getElem?_eq_getElem (by omega)] at this
      simp only [Option.some.injEq] at this
      simp only [Array.getElem_extract]
      rw [this]
      simp [Enc.f]

/-- values of a kind are held against each other at a type -/
def EqAt (P : Program) (d : Nat) (T : TypeId) (E : Enc α) : Prop := ∀ (a b : α) (w : World) (_ : Decidable (a = b)), (Op.equalIn d T (E.val a) (E.val b)).run P w = .ok (decide (a = b)) w

theorem eqAt8 {d : Nat} (hu : P.underlying T = some (.int .u8)) : EqAt P (d + 1) T E8 := fun a b w h => by
  show (Op.equalIn (d + 1) T (u8 a) (u8 b)).run P w = _
  rw [u8, u8, run_equalIn_int w d T _ _ _ _ hu]
  congr 1
  rw [ibeq, decide_eq_decide]
  constructor
  · intro h; exact BitVec.eq_of_toNat_eq (by omega)
  · intro h; rw [h]
theorem eqAt64 {d : Nat} (hu : P.underlying T = some (.int .u64)) : EqAt P (d + 1) T E64 := fun a b w h => by
  show (Op.equalIn (d + 1) T (u64 a) (u64 b)).run P w = _
  rw [u64, u64, run_equalIn_int w d T _ _ _ _ hu]
  congr 1
  rw [ibeq, decide_eq_decide]
  constructor
  · intro h; exact BitVec.eq_of_toNat_eq (by omega)
  · intro h; rw [h]

theorem run_equalArr {d m : Nat} (hu : P.underlying T = some (.array m e)) (hF : Fits P e E) (hE : EqAt P d e E) [DecidableEq α] (l l' : List α) (hl : l.length = m) (hl' : l'.length = m) (w : World) :
    (Op.equalIn (d + 1) T (.agg (cel E l).toArray) (.agg (cel E l').toArray)).run P w = .ok (decide (l = l')) w := by
  have step : ∀ (n i : Nat), i + n = m → ((forIn (List.range' i n) ((none, ()) : Option Bool × PUnit) fun i r => do
      let x ← part e (cel E l).toArray (i * E.s)
      let y ← part e (cel E l').toArray (i * E.s)
      let z ← Op.equalIn d e x y
      if (!z) = true then pure (ForInStep.done (some false, ())) else pure (ForInStep.yield (none, ()))) : Sem (Option Bool × PUnit)).run P w = .ok (if l.drop i = l'.drop i then none else some false, ()) w := by
    intro n
    induction n with
    | zero =>
      intro i hi
      have e1 : l.drop i = [] := List.drop_eq_nil_iff.2 (by omega)
      have e2 : l'.drop i = [] := List.drop_eq_nil_iff.2 (by omega)
      simp [e1, e2]
    | succ n ih =>
      intro i hi
      have h1 : i < l.length := by omega
      have h2 : i < l'.length := by omega
      have p1 := run_part (w := w) (off := i * E.s) (a := l[i]) hF (cs := (cel E l).toArray) fun j hj => by simpa using cel_get l i j l[i] (by simp) hj
      have p2 := run_part (w := w) (off := i * E.s) (a := l'[i]) hF (cs := (cel E l').toArray) fun j hj => by simpa using cel_get l' i j l'[i] (by simp) hj
      simp only [List.range'_succ, List.forIn_cons, Sem.run_bind, p1, p2, Result.andThen_ok, hE l[i] l'[i] w inferInstance]
      have d1 : l.drop i = l[i] :: l.drop (i + 1) := (List.getElem_cons_drop h1).symm
      have d2 : l'.drop i = l'[i] :: l'.drop (i + 1) := (List.getElem_cons_drop h2).symm
      by_cases hx : l[i] = l'[i]
      · have c : (!decide (l[i] = l'[i])) = false := by simp [hx]
        simp only [c, Bool.false_eq_true, if_false, Sem.run_pure, Result.andThen_ok]
        rw [ih (i + 1) (by omega)]
        have e : (l.drop i = l'.drop i) = (l.drop (i + 1) = l'.drop (i + 1)) := by
          rw [d1, d2, hx]
          exact propext ⟨fun h => (List.cons.inj h).2, fun h => by rw [h]⟩
        simp only [e]
      · have c : (!decide (l[i] = l'[i])) = true := by simp [hx]
        simp only [c, if_true, Sem.run_pure, Result.andThen_ok]
        rw [if_neg (fun h => hx (by rw [d1, d2] at h; exact (List.cons.inj h).1))]
  have hs := step m 0 (by omega)
  simp only [Op.equalIn, Sem.run_bind, run_underlying hu, Result.andThen_ok, run_siz hF.1]
  rw [Std.Legacy.Range.forIn_eq_forIn_range']
  have e0 : (List.range' ([:m] : Std.Legacy.Range).start ([:m] : Std.Legacy.Range).size ([:m] : Std.Legacy.Range).step) = List.range' 0 m := by simp [Std.Legacy.Range.size]
  rw [e0, hs]
  by_cases h : l = l'
  · simp [h]
  · simp [h]
end

section
variable {α : Type} {E : Enc α} {P : Program} {n : Nat} {ρ : Env} {w : World} {d : Option Nat} {t e T T' : TypeId} {pos : String} {after : Array Edge} {g : Option (Nat × Bool)} {x y : Operand}
theorem r_eqlA {m : Nat} [DecidableEq α] {l l' : List α} (hg : P.eqGuardType P.depth T = false) (hu : P.underlying T = some (.array m e)) (hF : Fits P e E) (hE : EqAt P 9999 e E) (hl : l.length = m) (hl' : l'.length = m)
    (hx : ev n ρ x = .agg (cel E l).toArray) (hy : ev n ρ y = .agg (cel E l').toArray) : Runs P n ρ ⟨d, .binOp .eql T x y T', t, pos, after, g⟩ w (.bool (decide (l = l'))) w := by
  have h1 := run_eqGuard_agg (P := P) w .eql T x y (cel E l).toArray (cel E l').toArray hg
  have h2 : (binOp .eql T (.agg (cel E l).toArray) (.agg (cel E l').toArray)).run P w = .ok (.bool (decide (l = l'))) w := by
    rw [run_eql_struct, run_equalArr (d := 9999) hu hF hE l l' hl hl' w]; rfl
  simp only [Runs, execOp, hx, hy, Sem.run_bind, h1, Result.andThen_ok, h2, Sem.run_pure]
theorem r_neqA {m : Nat} [DecidableEq α] {l l' : List α} (hg : P.eqGuardType P.depth T = false) (hu : P.underlying T = some (.array m e)) (hF : Fits P e E) (hE : EqAt P 9999 e E) (hl : l.length = m) (hl' : l'.length = m)
    (hx : ev n ρ x = .agg (cel E l).toArray) (hy : ev n ρ y = .agg (cel E l').toArray) : Runs P n ρ ⟨d, .binOp .neq T x y T', t, pos, after, g⟩ w (.bool (!decide (l = l'))) w := by
  have h1 := run_eqGuard_agg (P := P) w .neq T x y (cel E l).toArray (cel E l').toArray hg
  have h2 : (binOp .neq T (.agg (cel E l).toArray) (.agg (cel E l').toArray)).run P w = .ok (.bool (!decide (l = l'))) w := by
    rw [run_neq_struct, run_equalArr (d := 9999) hu hF hE l l' hl hl' w]; rfl
  simp only [Runs, execOp, hx, hy, Sem.run_bind, h1, Result.andThen_ok, h2, Sem.run_pure]
theorem run_eqPtrNil {a : Addr} (d : Nat) (hu : P.underlying T = some (.pointer e)) (w : World) : (Op.equalIn (d + 1) T (.pointer (some a)) (.pointer none)).run P w = .ok false w := by
  simp [Op.equalIn, run_underlying hu]
theorem r_eqlPN {a : Addr} (hu : P.underlying T = some (.pointer e)) (hx : ev n ρ x = .pointer (some a)) (hy : ev n ρ y = .pointer none) : Runs P n ρ ⟨d, .binOp .eql T x y T', t, pos, after, g⟩ w (.bool false) w := by
  have h : (binOp .eql T (.pointer (some a)) (.pointer none)).run P w = .ok (.bool false) w := by
    simp only [binOp, Op.equal, Op.maxDepth, Sem.run_bind, run_eqPtrNil 9999 hu w, Result.andThen_ok, Sem.run_pure]
  simp only [Runs, execOp, hx, hy, Sem.run_bind, eqGuard_at_pointer, Sem.run_pure, Result.andThen_ok, h]
theorem r_neqPN {a : Addr} (hu : P.underlying T = some (.pointer e)) (hx : ev n ρ x = .pointer (some a)) (hy : ev n ρ y = .pointer none) : Runs P n ρ ⟨d, .binOp .neq T x y T', t, pos, after, g⟩ w (.bool true) w := by
  have h : (binOp .neq T (.pointer (some a)) (.pointer none)).run P w = .ok (.bool true) w := by
    simp only [binOp, Op.equal, Op.maxDepth, Sem.run_bind, run_eqPtrNil 9999 hu w, Result.andThen_ok, Sem.run_pure]; rfl
  simp only [Runs, execOp, hx, hy, Sem.run_bind, eqGuard_at_pointer, Sem.run_pure, Result.andThen_ok, h]
end
end Go.Proofs.YteofdmdpaejgaaaDoor.Vc
