/- The calculus: rows of structs of words, cut at their front. -/
import Derived.Test.YteofdmdpaejgaaaDoorVcCut
import Derived.Test.YteofdmdpaejgaaaDoorVcNet
import Derived.Test.YteofdmdpaejgaaaDoorVcStruct
namespace Go.Proofs.YteofdmdpaejgaaaDoor.Vc
open Go

/-- a struct of three words -/
structure Tr where
  a : BitVec 64
  b : BitVec 64
  c : BitVec 64
def tr0 : Tr := ⟨0#64, 0#64, 0#64⟩
def ETr : Enc Tr := ⟨fun t => .agg #[u64 t.a, u64 t.b, u64 t.c], 3, by decide, fun _ => rfl, fun a u h => by
  simp [Value.cells] at h
  rcases h with rfl | rfl | rfl <;> rfl⟩
theorem fitsTr {P : Program} {T : TypeId} (h1 : siz P T = some 3) (h2 : isAgg' P T = true) : Fits P T ETr := ⟨h1, .inr ⟨h2, fun _ => rfl⟩⟩
/-- two pairs of words and a bit -/
structure Ot where
  p : BitVec 64
  q : BitVec 64
  r : BitVec 64
  s : BitVec 64
  ch : Bool
def ot0 : Ot := ⟨0#64, 0#64, 0#64, 0#64, false⟩
def EOt : Enc Ot := ⟨fun o => .agg #[u64 o.p, u64 o.q, u64 o.r, u64 o.s, .bool o.ch], 5, by decide, fun _ => rfl, fun a u h => by
  simp [Value.cells] at h
  rcases h with rfl | rfl | rfl | rfl | rfl <;> rfl⟩
theorem fitsOt {P : Program} {T : TypeId} (h1 : siz P T = some 5) (h2 : isAgg' P T = true) : Fits P T EOt := ⟨h1, .inr ⟨h2, fun _ => rfl⟩⟩

/-- a label -/
def ELb : Enc (BitVec 64 × BitVec 64) := ⟨fun l => .agg #[u64 l.1, u64 l.2], 2, by decide, fun _ => rfl, fun a u h => by
  simp [Value.cells] at h
  rcases h with rfl | rfl <;> rfl⟩
theorem fitsLb {P : Program} {T : TypeId} (h1 : siz P T = some 2) (h2 : isAgg' P T = true) : Fits P T ELb := ⟨h1, .inr ⟨h2, fun _ => rfl⟩⟩
/-- a row that is cut at its front -/
structure Cp (α : Type) where
  key : Option Nat
  a : Option Addr
  pre : List Value
  c : Nat
  sp : List Value
  l : List α
def Cp.ok {α : Type} (E : Enc α) (x : Cp α) : Prop := SlP E x.key x.a x.pre x.l x.c x.sp
def Cp.row {α : Type} (E : Enc α) (T : TypeId) (x : Cp α) : Option Nat × Obj := (x.key, sobP E T x.pre x.l x.sp)
def cp0 {α : Type} : Cp α := ⟨none, none, [], 0, [], []⟩
theorem cp0_ok {α : Type} (E : Enc α) : (cp0 (α := α)).ok E := SlP.nil
def Cp.cut {α : Type} (E : Enc α) (x : Cp α) : Cp α := ⟨x.key, if x.c = 1 then x.a else adr x.a (1 * E.s), x.pre ++ cel E (x.l.take 1), x.c - 1, x.sp, x.l.drop 1⟩
theorem Cp.cut_ok {α : Type} {E : Enc α} {x : Cp α} (h : x.ok E) (hl : 0 < x.l.length) : (x.cut E).ok E := by
  obtain ⟨f, r, hf⟩ : ∃ f r, x.l = f :: r := by
    cases hx : x.l with
    | nil => rw [hx] at hl; simp at hl
    | cons f r => exact ⟨f, r, rfl⟩
  have h1 : SlP E x.key x.a x.pre x.l x.c x.sp := h
  rw [hf] at h1
  have h2 := SlP.cut1 (E := E) (x := f) (l := r) h1
  simp only [Cp.ok, Cp.cut, hf]
  have e1 : cel E (List.take 1 (f :: r)) = E.f f := by simp [cel]
  rw [e1]; exact h2
theorem Cp.cut_row {α : Type} {E : Enc α} {x : Cp α} (hl : 0 < x.l.length) (T : TypeId) : (x.cut E).row E T = x.row E T := by
  obtain ⟨f, r, hf⟩ : ∃ f r, x.l = f :: r := by
    cases hx : x.l with
    | nil => rw [hx] at hl; simp at hl
    | cons f r => exact ⟨f, r, rfl⟩
  have e1 : cel E (List.take 1 (f :: r)) = E.f f := by simp [cel]
  simp only [Cp.row, Cp.cut, hf, e1]
  exact congrArg (Prod.mk x.key) (sobP_cut (E := E) (l := r) f)
/-- a party's stock -/
structure Sk where
  t : Cp Tr
  b : Cp Tr
  o : Cp Ot
structure Sk.ok (s : Sk) : Prop where
  t : s.t.ok ETr
  b : s.b.ok ETr
  o : s.o.ok EOt
def Sk.ob (T : TypeId) (s : Sk) : Obj := .cells #[.slice s.t.a s.t.l.length s.t.c, .slice s.b.a s.b.l.length s.b.c, .slice s.o.a s.o.l.length s.o.c] T (0, 0)
def skR (TT TO TS : TypeId) (b : Nat) (s : Sk) : List (Option Nat × Obj) := [(some b, s.ob TS), s.t.row ETr TT, s.b.row ETr TT, s.o.row EOt TO]
/-- fresh rows -/
def cpOf {α : Type} (key : Option Nat) (c : Nat) (sp : List Value) (l : List α) : Cp α := ⟨key, ownA key, [], c, sp, l⟩
theorem cpOf_ok {α : Type} {E : Enc α} {key : Option Nat} {c : Nat} {sp : List Value} {l : List α} (h : Sl E key l c sp) : (cpOf key c sp l).ok E := SlP.of h
theorem cpOf_row {α : Type} {E : Enc α} {key : Option Nat} {c : Nat} {sp : List Value} {l : List α} (T : TypeId) : (cpOf key c sp l).row E T = (key, sob E T l sp) := rfl
section
variable {M : Nat → Prop} {w₀ w : World}
theorem perm_midQ {α : Type} (X A Y : List α) : (X ++ (A ++ Y)).Perm (A ++ (X ++ Y)) := by
  rw [← List.append_assoc, ← List.append_assoc]; exact List.perm_append_comm.append_right Y
theorem Hp.midQ {X A Y : List (Option Nat × Obj)} (H : Hp M w₀ w (X ++ (A ++ Y))) : Hp M w₀ w (A ++ (X ++ Y)) := H.perm (perm_midQ X A Y)
/-- the second one of two comes to the front, and goes back -/
theorem Hp.midQB {R A B F : List (Option Nat × Obj)} (H : Hp M w₀ w (R ++ (A ++ (B ++ F)))) : Hp M w₀ w (B ++ (R ++ (A ++ F))) := by
  refine H.perm ?_
  have h := perm_midQ (R ++ A) B F
  simpa [List.append_assoc] using h
theorem Hp.backQB {R A B F : List (Option Nat × Obj)} (H : Hp M w₀ w (B ++ (R ++ (A ++ F)))) : Hp M w₀ w (R ++ (A ++ (B ++ F))) := by
  refine H.perm ?_
  have h := perm_midQ B (R ++ A) F
  simpa [List.append_assoc] using h
end
end Go.Proofs.YteofdmdpaejgaaaDoor.Vc
