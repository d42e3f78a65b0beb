/- Garbled circuits, in plain Lean. -/
import Derived.Test.YteofdmdpaejgaaaDoorCircSpec
import Derived.Test.YteofdmdpaejgaaaDoorVcTri
namespace Go.Proofs.YteofdmdpaejgaaaDoor.Gb
open Go Go.Proofs.YteofdmdpaejgaaaDoor.Vc Go.Proofs.YteofdmdpaejgaaaDoor.Circ

abbrev Lb := BitVec 64 × BitVec 64
def lb0 : Lb := (0#64, 0#64)
def lx (a b : Lb) : Lb := (a.1 ^^^ b.1, a.2 ^^^ b.2)
def col (a : Lb) : Bool := decide (a.1 &&& 1#64 = 1#64)
def lw (c : Bool) (a : Lb) : Lb := if c = true then a else lb0
def lsum (l : List Lb) : Lb := l.foldl lx lb0
theorem lx_zero (a : Lb) : lx lb0 a = a := by simp [lx, lb0]
theorem lx_zero_r (a : Lb) : lx a lb0 = a := by simp [lx, lb0]
theorem lx_comm (a b : Lb) : lx a b = lx b a := by simp [lx, BitVec.xor_comm]
theorem lx_assoc (a b c : Lb) : lx (lx a b) c = lx a (lx b c) := by simp [lx, BitVec.xor_assoc]
theorem lx_self (a : Lb) : lx a a = lb0 := by simp [lx, lb0]
theorem lsum_take {l : List Lb} {q : Nat} (h : q < l.length) : lsum (l.take (q + 1)) = lx (lsum (l.take q)) (l.getD q lb0) := by
  rw [List.take_succ_eq_append_getElem h, lsum, List.foldl_append]
  simp only [List.foldl_cons, List.foldl_nil]
  have : l.getD q lb0 = l[q] := by simp [h]
  rw [this]; rfl
section
variable (h : Lb → BitVec 64 → Lb) (δ : Lb) (first : BitVec 64)
def tabX (a b : Lb) (s : BitVec 64) : Lb := lsum [h a s, h (lx a δ) s, lw (col b) δ]
def tabY (a b : Lb) (s : BitVec 64) : Lb := lsum [h b (s + 1#64), h (lx b δ) (s + 1#64), a]
def outG (a b x y : Lb) (s : BitVec 64) : Lb := lsum [h a s, lw (col a) x, h b (s + 1#64), lw (col b) (lx y a)]
def gstep (g : Gt) (p : List Lb × List Lb) : List Lb × List Lb :=
  if g.k = 3 then (p.1 ++ [lx (p.1.getD g.a.toNat lb0) δ], p.2)
  else if g.k = 1 then (p.1 ++ [lx (p.1.getD g.a.toNat lb0) (p.1.getD g.b.toNat lb0)], p.2)
  else
    (p.1 ++ [outG h (p.1.getD g.a.toNat lb0) (p.1.getD g.b.toNat lb0) (tabX h δ (p.1.getD g.a.toNat lb0) (p.1.getD g.b.toNat lb0) (first + BitVec.ofInt 64 (p.2.length : Int))) (tabY h δ (p.1.getD g.a.toNat lb0) (p.1.getD g.b.toNat lb0) (first + BitVec.ofInt 64 (p.2.length : Int))) (first + BitVec.ofInt 64 (p.2.length : Int))],
      p.2 ++ [tabX h δ (p.1.getD g.a.toNat lb0) (p.1.getD g.b.toNat lb0) (first + BitVec.ofInt 64 (p.2.length : Int)), tabY h δ (p.1.getD g.a.toNat lb0) (p.1.getD g.b.toNat lb0) (first + BitVec.ofInt 64 (p.2.length : Int))])
def gS (gs : List Gt) (zs : List Lb) : Nat → List Lb × List Lb
  | 0 => (zs, [])
  | i + 1 => gstep h δ first (gs.getD i g0) (gS gs zs i)
def estep (tb : List Lb) (g : Gt) (p : List Lb × Nat) : List Lb × Nat :=
  if g.k = 1 then (p.1 ++ [lx (p.1.getD g.a.toNat lb0) (p.1.getD g.b.toNat lb0)], p.2)
  else if g.k = 2 then (p.1 ++ [outG h (p.1.getD g.a.toNat lb0) (p.1.getD g.b.toNat lb0) (tb.getD p.2 lb0) (tb.getD (p.2 + 1) lb0) (first + BitVec.ofInt 64 (p.2 : Int))], p.2 + 2)
  else (p.1 ++ [p.1.getD g.a.toNat lb0], p.2)
def eS (gs : List Gt) (tb ls : List Lb) : Nat → List Lb × Nat
  | 0 => (ls, 0)
  | i + 1 => estep h first tb (gs.getD i g0) (eS gs tb ls i)
end
def oL (w : List Lb) (os : List Int) : Nat → List Lb
  | 0 => []
  | i + 1 => oL w os i ++ [w.getD (os.getD i 0).toNat lb0]
theorem oL_len (w : List Lb) (os : List Int) (i : Nat) : (oL w os i).length = i := by
  induction i with
  | zero => rfl
  | succ i ih => simp [oL, ih]
section
variable {h : Lb → BitVec 64 → Lb} {δ : Lb} {first : BitVec 64} {gs : List Gt} {zs tb ls : List Lb}
theorem gstep_len (g : Gt) (p : List Lb × List Lb) : (gstep h δ first g p).1.length = p.1.length + 1 ∧ (gstep h δ first g p).2.length = (if g.k = 3 then p.2.length else if g.k = 1 then p.2.length else p.2.length + 2) := by
  unfold gstep
  split
  · simp
  · split <;> simp
theorem gS_len (i : Nat) : (gS h δ first gs zs i).1.length = zs.length + i := by
  induction i with
  | zero => rfl
  | succ i ih => rw [gS, (gstep_len _ _).1, ih]; omega
theorem gS_tab (i : Nat) : (gS h δ first gs zs i).2.length ≤ 2 * i := by
  induction i with
  | zero => exact Nat.le_refl _
  | succ i ih => rw [gS, (gstep_len _ _).2]; split <;> (try split) <;> omega
/-- two tables for each And -/
theorem gS_ands (hk : ∀ i, i < gs.length → (gs.getD i g0).k = 1 ∨ (gs.getD i g0).k = 2 ∨ (gs.getD i g0).k = 3) (i : Nat) (hi : i ≤ gs.length) : (gS h δ first gs zs i).2.length = 2 * andsS gs i := by
  induction i with
  | zero => rfl
  | succ i ih =>
    have := hk i (by omega)
    rw [gS, (gstep_len _ _).2, ih (by omega), andsS]
    rcases this with h | h | h <;> rw [h]
    · rfl
    · show 2 * andsS gs i + 2 = 2 * (andsS gs i + 1); omega
    · rfl
theorem eS_len (i : Nat) : (eS h first gs tb ls i).1.length = ls.length + i := by
  induction i with
  | zero => rfl
  | succ i ih =>
    rw [eS]
    unfold estep
    split
    · simp [ih]; omega
    · split <;> (simp [ih]; omega)
theorem eS_next (i : Nat) : (eS h first gs tb ls i).2 = 2 * andsS gs i := by
  induction i with
  | zero => rfl
  | succ i ih =>
    rw [eS, andsS]
    unfold estep
    split
    · rename_i h1; rw [if_neg (by rw [h1]; decide)]; exact ih
    · split
      · show _ + 2 = _; rw [ih]; omega
      · exact ih
end
end Go.Proofs.YteofdmdpaejgaaaDoor.Gb
