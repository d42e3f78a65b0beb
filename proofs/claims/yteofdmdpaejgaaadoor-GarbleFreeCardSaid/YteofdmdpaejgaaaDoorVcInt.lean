/- The calculus' operations on integers, bools and moves: what each yields, in terms of bit vectors and integers. -/
import Derived.Test.YteofdmdpaejgaaaDoorVc
import Derived.WalkKit
namespace Go.Proofs.YteofdmdpaejgaaaDoor.Vc
open Go

def u8 (x : BitVec 8) : Value := .int .u8 (x.toNat : Int)
def u32 (x : BitVec 32) : Value := .int .u32 (x.toNat : Int)
def u64 (x : BitVec 64) : Value := .int .u64 (x.toNat : Int)
def i64 (x : Int) : Value := .int .i64 x

theorem i64_lit (x : Int) : Value.int .i64 x = i64 x := rfl

theorem wrapU8 (x : Int) : IntKind.u8.wrap x = x % 256 := by simp [IntKind.wrap, IntKind.signed, IntKind.bits]
theorem wrapU32 (x : Int) : IntKind.u32.wrap x = x % 4294967296 := by simp [IntKind.wrap, IntKind.signed, IntKind.bits]
theorem wrapU64 (x : Int) : IntKind.u64.wrap x = x % 18446744073709551616 := by simp [IntKind.wrap, IntKind.signed, IntKind.bits]
theorem wrapI64 {x : Int} (h1 : -9223372036854775808 ≤ x) (h2 : x < 9223372036854775808) : IntKind.i64.wrap x = x := by
  simp only [IntKind.wrap, IntKind.signed, IntKind.bits]
  simp
  omega

section
variable {P : Program} {n : Nat} {ρ : Env} {w : World} {d : Option Nat} {t T T' : TypeId} {pos : String} {after : Array Edge} {g : Option (Nat × Bool)} {x y : Operand}

theorem r_move {v : Value} (hx : ev n ρ x = v) : Runs P n ρ ⟨d, .move x, t, pos, after, g⟩ w v w := by
  simp [Runs, execOp, hx]
theorem r_assign {v : Value} (hx : ev n ρ x = v) : Runs P n ρ ⟨d, .assign x, t, pos, after, g⟩ w v w := by
  simp [Runs, execOp, hx]
theorem r_pick {c : Operand} {b : Bool} {u v : Value} (hc : ev n ρ c = .bool b) (hx : ev n ρ x = u) (hy : ev n ρ y = v) :
    Runs P n ρ ⟨d, .pick c x y, t, pos, after, g⟩ w (if b then u else v) w := by
  simp [Runs, execOp, hc, hx, hy, asBool]
theorem r_pickT {c : Operand} {u : Value} (hc : ev n ρ c = .bool true) (hx : ev n ρ x = u) :
    Runs P n ρ ⟨d, .pick c x y, t, pos, after, g⟩ w u w := by
  simp [Runs, execOp, hc, hx, asBool]
theorem r_pickF {c : Operand} {v : Value} (hc : ev n ρ c = .bool false) (hy : ev n ρ y = v) :
    Runs P n ρ ⟨d, .pick c x y, t, pos, after, g⟩ w v w := by
  simp [Runs, execOp, hc, hy, asBool]
theorem r_not {b : Bool} (hx : ev n ρ x = .bool b) : Runs P n ρ ⟨d, .unOp .not T x, t, pos, after, g⟩ w (.bool !b) w := by
  simp [Runs, execOp, hx, Op.unary]

theorem r_notT (hx : ev n ρ x = .bool true) : Runs P n ρ ⟨d, .unOp .not T x, t, pos, after, g⟩ w (.bool false) w := r_not hx
theorem r_notF (hx : ev n ρ x = .bool false) : Runs P n ρ ⟨d, .unOp .not T x, t, pos, after, g⟩ w (.bool true) w := r_not hx
theorem guard_int (o : BinOp) (k k' : IntKind) (a b : Int) : (eqGuard o T x y (.int k a) (.int k' b)).run P w = .ok () w := by
  cases o <;> simp [eqGuard]

theorem r_int {o : BinOp} {k : IntKind} {a b : Int} {v : Value} (hx : ev n ρ x = .int k a) (hy : ev n ρ y = .int k b)
    (h : (binOp o T (.int k a) (.int k b)).run P w = .ok v w) : Runs P n ρ ⟨d, .binOp o T x y T', t, pos, after, g⟩ w v w := by
  simp [Runs, execOp, hx, hy, guard_int, h]
theorem r_shift {o : BinOp} {k k' : IntKind} {a b : Int} {v : Value} (hx : ev n ρ x = .int k a) (hy : ev n ρ y = .int k' b)
    (h : (binOp o T (.int k a) (.int k' b)).run P w = .ok v w) : Runs P n ρ ⟨d, .binOp o T x y T', t, pos, after, g⟩ w v w := by
  simp [Runs, execOp, hx, hy, guard_int, h]

theorem ibeq (a b : Int) : (a == b) = decide (a = b) := by rw [Bool.eq_iff_iff]; simp
/-! ### unsigned, W bits -/
section
variable {a b : BitVec 8}
theorem r_add8 (hx : ev n ρ x = u8 a) (hy : ev n ρ y = u8 b) : Runs P n ρ ⟨d, .binOp .add T x y T', t, pos, after, g⟩ w (u8 (a + b)) w :=
  r_int hx hy (by simp [binOp, Op.intArith, u8, wrapU8, BitVec.toNat_add])
theorem r_sub8 (hx : ev n ρ x = u8 a) (hy : ev n ρ y = u8 b) : Runs P n ρ ⟨d, .binOp .sub T x y T', t, pos, after, g⟩ w (u8 (a - b)) w :=
  r_int hx hy (by
    simp only [binOp, Op.intArith, u8, wrapU8, ne_eq, not_true_eq_false, if_false, Sem.run_pure]
    have h1 := a.isLt
    have h2 := b.isLt
    have e : ((a - b).toNat : Int) = ((a.toNat : Int) - b.toNat) % 256 := by
      rw [BitVec.toNat_sub]
      omega
    rw [e])
theorem r_mul8 (hx : ev n ρ x = u8 a) (hy : ev n ρ y = u8 b) : Runs P n ρ ⟨d, .binOp .mul T x y T', t, pos, after, g⟩ w (u8 (a * b)) w :=
  r_int hx hy (by simp [binOp, Op.intArith, u8, wrapU8, BitVec.toNat_mul])
theorem nz8 (hb : b ≠ 0#8) : ((b.toNat : Int) = 0) ↔ False := by
  constructor
  · intro h; exact hb (BitVec.eq_of_toNat_eq (by simpa using h))
  · exact False.elim
theorem r_quo8 (hx : ev n ρ x = u8 a) (hy : ev n ρ y = u8 b) (hb : b ≠ 0#8) : Runs P n ρ ⟨d, .binOp .quo T x y T', t, pos, after, g⟩ w (u8 (a / b)) w :=
  r_int hx hy (by
    have h1 : a.toNat / b.toNat < 256 := Nat.lt_of_le_of_lt (Nat.div_le_self _ _) a.isLt
    have h2 : ((a.toNat / b.toNat : Nat) : Int) < 256 := by omega
    have h3 : (0 : Int) ≤ ((a.toNat / b.toNat : Nat) : Int) := Int.natCast_nonneg _
    rw [Int.natCast_ediv] at h2 h3
    simp only [binOp, Op.intDiv, u8, nz8 hb, wrapU8]
    simp [BitVec.toNat_udiv]
    omega)
theorem r_rem8 (hx : ev n ρ x = u8 a) (hy : ev n ρ y = u8 b) (hb : b ≠ 0#8) : Runs P n ρ ⟨d, .binOp .rem T x y T', t, pos, after, g⟩ w (u8 (a % b)) w :=
  r_int hx hy (by
    simp only [binOp, Op.intDiv, u8, nz8 hb]
    simp [BitVec.toNat_umod]
    rw [Int.tmod_eq_emod_of_nonneg (by omega)])
theorem bits8 (o : BinOp) (r : BitVec 8) (h : r = match o with | .and => a &&& b | .or => a ||| b | .xor => a ^^^ b | _ => a &&& ~~~b) (ho : o = .and ∨ o = .or ∨ o = .xor ∨ o = .andNot) :
    (binOp o T (u8 a) (u8 b)).run P w = .ok (u8 r) w := by
  have e1 : BitVec.ofInt 8 (a.toNat : Int) = a := by simp
  have e2 : BitVec.ofInt 8 (b.toNat : Int) = b := by simp
  have hw : ∀ r : BitVec 8, IntKind.u8.wrap (r.toNat : Int) = r.toNat := fun r => by rw [wrapU8]; have := r.isLt; omega
  rcases ho with rfl | rfl | rfl | rfl <;> subst h <;>
    simp only [binOp, Op.intBits, u8, IntKind.bits, e1, e2, hw, ne_eq, not_true_eq_false, if_false, Sem.run_pure] <;> rfl
theorem r_and8 (hx : ev n ρ x = u8 a) (hy : ev n ρ y = u8 b) : Runs P n ρ ⟨d, .binOp .and T x y T', t, pos, after, g⟩ w (u8 (a &&& b)) w :=
  r_int hx hy (bits8 .and _ rfl (by simp))
theorem r_or8 (hx : ev n ρ x = u8 a) (hy : ev n ρ y = u8 b) : Runs P n ρ ⟨d, .binOp .or T x y T', t, pos, after, g⟩ w (u8 (a ||| b)) w :=
  r_int hx hy (bits8 .or _ rfl (by simp))
theorem r_xor8 (hx : ev n ρ x = u8 a) (hy : ev n ρ y = u8 b) : Runs P n ρ ⟨d, .binOp .xor T x y T', t, pos, after, g⟩ w (u8 (a ^^^ b)) w :=
  r_int hx hy (bits8 .xor _ rfl (by simp))
theorem deq8 : decide (a.toNat = b.toNat) = decide (a = b) := by simp [BitVec.toNat_inj]
theorem r_eql8 (hx : ev n ρ x = u8 a) (hy : ev n ρ y = u8 b) : Runs P n ρ ⟨d, .binOp .eql T x y T', t, pos, after, g⟩ w (.bool (decide (a = b))) w :=
  r_int hx hy (by simp [binOp, Op.intCmp, ← deq8, ibeq]; omega)
theorem r_neq8 (hx : ev n ρ x = u8 a) (hy : ev n ρ y = u8 b) : Runs P n ρ ⟨d, .binOp .neq T x y T', t, pos, after, g⟩ w (.bool (decide (a ≠ b))) w :=
  r_int hx hy (by simp [binOp, Op.intCmp, ← deq8, bne, ibeq]; omega)
theorem r_lss8 (hx : ev n ρ x = u8 a) (hy : ev n ρ y = u8 b) : Runs P n ρ ⟨d, .binOp .lss T x y T', t, pos, after, g⟩ w (.bool (decide (a.toNat < b.toNat))) w :=
  r_int hx hy (by simp [binOp, Op.intCmp])
theorem r_leq8 (hx : ev n ρ x = u8 a) (hy : ev n ρ y = u8 b) : Runs P n ρ ⟨d, .binOp .leq T x y T', t, pos, after, g⟩ w (.bool (decide (a.toNat ≤ b.toNat))) w :=
  r_int hx hy (by simp [binOp, Op.intCmp])
theorem r_gtr8 (hx : ev n ρ x = u8 a) (hy : ev n ρ y = u8 b) : Runs P n ρ ⟨d, .binOp .gtr T x y T', t, pos, after, g⟩ w (.bool (decide (b.toNat < a.toNat))) w :=
  r_int hx hy (by simp [binOp, Op.intCmp])
theorem r_geq8 (hx : ev n ρ x = u8 a) (hy : ev n ρ y = u8 b) : Runs P n ρ ⟨d, .binOp .geq T x y T', t, pos, after, g⟩ w (.bool (decide (b.toNat ≤ a.toNat))) w :=
  r_int hx hy (by simp [binOp, Op.intCmp])
theorem r_shl8 {k : IntKind} {c : Nat} (hx : ev n ρ x = u8 a) (hy : ev n ρ y = .int k (c : Int)) : Runs P n ρ ⟨d, .binOp .shl T x y T', t, pos, after, g⟩ w (u8 (a <<< c)) w :=
  r_shift hx hy (by
    have h0 : ¬ ((c : Int) < 0) := by omega
    simp only [binOp, Op.shift, u8, h0, if_false, Int.toNat_natCast, IntKind.bits, wrapU8, Sem.run_pure]
    congr 2
    rw [BitVec.toNat_shiftLeft, Nat.shiftLeft_eq]
    by_cases hc : c ≤ 8
    · rw [Nat.min_eq_left hc, Int.natCast_emod, Int.natCast_mul, Int.natCast_pow]; rfl
    · rw [Nat.min_eq_right (by omega)]
      have e1 : a.toNat * 2 ^ c % 2 ^ 8 = 0 := Nat.mod_eq_zero_of_dvd (Nat.dvd_trans (Nat.pow_dvd_pow 2 (by omega)) (Nat.dvd_mul_left _ _))
      rw [e1]
      omega)
theorem r_shr8 {k : IntKind} {c : Nat} (hx : ev n ρ x = u8 a) (hy : ev n ρ y = .int k (c : Int)) : Runs P n ρ ⟨d, .binOp .shr T x y T', t, pos, after, g⟩ w (u8 (a >>> c)) w :=
  r_shift hx hy (by
    have h0 : ¬ ((c : Int) < 0) := by omega
    simp only [binOp, Op.shift, u8, h0, if_false, Int.toNat_natCast, IntKind.bits, Sem.run_pure]
    congr 2
    rw [BitVec.toNat_ushiftRight, Nat.shiftRight_eq_div_pow, Int.fdiv_eq_ediv_of_nonneg _ (by exact Int.le_of_lt (Int.pow_pos (by omega)))]
    by_cases hc : c ≤ 8
    · rw [Nat.min_eq_left hc]; push_cast; rfl
    · rw [Nat.min_eq_right (by omega)]
      have h1 : a.toNat < 2 ^ c := Nat.lt_of_lt_of_le a.isLt (Nat.pow_le_pow_right (by omega) (by omega))
      rw [Nat.div_eq_of_lt h1]
      have := a.isLt
      omega)
end
/-! ### unsigned, W bits -/
section
variable {a b : BitVec 32}
theorem r_add32 (hx : ev n ρ x = u32 a) (hy : ev n ρ y = u32 b) : Runs P n ρ ⟨d, .binOp .add T x y T', t, pos, after, g⟩ w (u32 (a + b)) w :=
  r_int hx hy (by simp [binOp, Op.intArith, u32, wrapU32, BitVec.toNat_add])
theorem r_sub32 (hx : ev n ρ x = u32 a) (hy : ev n ρ y = u32 b) : Runs P n ρ ⟨d, .binOp .sub T x y T', t, pos, after, g⟩ w (u32 (a - b)) w :=
  r_int hx hy (by
    simp only [binOp, Op.intArith, u32, wrapU32, ne_eq, not_true_eq_false, if_false, Sem.run_pure]
    have h1 := a.isLt
    have h2 := b.isLt
    have e : ((a - b).toNat : Int) = ((a.toNat : Int) - b.toNat) % 4294967296 := by
      rw [BitVec.toNat_sub]
      omega
    rw [e])
theorem r_mul32 (hx : ev n ρ x = u32 a) (hy : ev n ρ y = u32 b) : Runs P n ρ ⟨d, .binOp .mul T x y T', t, pos, after, g⟩ w (u32 (a * b)) w :=
  r_int hx hy (by simp [binOp, Op.intArith, u32, wrapU32, BitVec.toNat_mul])
theorem nz32 (hb : b ≠ 0#32) : ((b.toNat : Int) = 0) ↔ False := by
  constructor
  · intro h; exact hb (BitVec.eq_of_toNat_eq (by simpa using h))
  · exact False.elim
theorem r_quo32 (hx : ev n ρ x = u32 a) (hy : ev n ρ y = u32 b) (hb : b ≠ 0#32) : Runs P n ρ ⟨d, .binOp .quo T x y T', t, pos, after, g⟩ w (u32 (a / b)) w :=
  r_int hx hy (by
    have h1 : a.toNat / b.toNat < 4294967296 := Nat.lt_of_le_of_lt (Nat.div_le_self _ _) a.isLt
    have h2 : ((a.toNat / b.toNat : Nat) : Int) < 4294967296 := by omega
    have h3 : (0 : Int) ≤ ((a.toNat / b.toNat : Nat) : Int) := Int.natCast_nonneg _
    rw [Int.natCast_ediv] at h2 h3
    simp only [binOp, Op.intDiv, u32, nz32 hb, wrapU32]
    simp [BitVec.toNat_udiv]
    omega)
theorem r_rem32 (hx : ev n ρ x = u32 a) (hy : ev n ρ y = u32 b) (hb : b ≠ 0#32) : Runs P n ρ ⟨d, .binOp .rem T x y T', t, pos, after, g⟩ w (u32 (a % b)) w :=
  r_int hx hy (by
    simp only [binOp, Op.intDiv, u32, nz32 hb]
    simp [BitVec.toNat_umod]
    rw [Int.tmod_eq_emod_of_nonneg (by omega)])
theorem bits32 (o : BinOp) (r : BitVec 32) (h : r = match o with | .and => a &&& b | .or => a ||| b | .xor => a ^^^ b | _ => a &&& ~~~b) (ho : o = .and ∨ o = .or ∨ o = .xor ∨ o = .andNot) :
    (binOp o T (u32 a) (u32 b)).run P w = .ok (u32 r) w := by
  have e1 : BitVec.ofInt 32 (a.toNat : Int) = a := by simp
  have e2 : BitVec.ofInt 32 (b.toNat : Int) = b := by simp
  have hw : ∀ r : BitVec 32, IntKind.u32.wrap (r.toNat : Int) = r.toNat := fun r => by rw [wrapU32]; have := r.isLt; omega
  rcases ho with rfl | rfl | rfl | rfl <;> subst h <;>
    simp only [binOp, Op.intBits, u32, IntKind.bits, e1, e2, hw, ne_eq, not_true_eq_false, if_false, Sem.run_pure] <;> rfl
theorem r_and32 (hx : ev n ρ x = u32 a) (hy : ev n ρ y = u32 b) : Runs P n ρ ⟨d, .binOp .and T x y T', t, pos, after, g⟩ w (u32 (a &&& b)) w :=
  r_int hx hy (bits32 .and _ rfl (by simp))
theorem r_or32 (hx : ev n ρ x = u32 a) (hy : ev n ρ y = u32 b) : Runs P n ρ ⟨d, .binOp .or T x y T', t, pos, after, g⟩ w (u32 (a ||| b)) w :=
  r_int hx hy (bits32 .or _ rfl (by simp))
theorem r_xor32 (hx : ev n ρ x = u32 a) (hy : ev n ρ y = u32 b) : Runs P n ρ ⟨d, .binOp .xor T x y T', t, pos, after, g⟩ w (u32 (a ^^^ b)) w :=
  r_int hx hy (bits32 .xor _ rfl (by simp))
theorem deq32 : decide (a.toNat = b.toNat) = decide (a = b) := by simp [BitVec.toNat_inj]
theorem r_eql32 (hx : ev n ρ x = u32 a) (hy : ev n ρ y = u32 b) : Runs P n ρ ⟨d, .binOp .eql T x y T', t, pos, after, g⟩ w (.bool (decide (a = b))) w :=
  r_int hx hy (by simp [binOp, Op.intCmp, ← deq32, ibeq]; omega)
theorem r_neq32 (hx : ev n ρ x = u32 a) (hy : ev n ρ y = u32 b) : Runs P n ρ ⟨d, .binOp .neq T x y T', t, pos, after, g⟩ w (.bool (decide (a ≠ b))) w :=
  r_int hx hy (by simp [binOp, Op.intCmp, ← deq32, bne, ibeq]; omega)
theorem r_lss32 (hx : ev n ρ x = u32 a) (hy : ev n ρ y = u32 b) : Runs P n ρ ⟨d, .binOp .lss T x y T', t, pos, after, g⟩ w (.bool (decide (a.toNat < b.toNat))) w :=
  r_int hx hy (by simp [binOp, Op.intCmp])
theorem r_leq32 (hx : ev n ρ x = u32 a) (hy : ev n ρ y = u32 b) : Runs P n ρ ⟨d, .binOp .leq T x y T', t, pos, after, g⟩ w (.bool (decide (a.toNat ≤ b.toNat))) w :=
  r_int hx hy (by simp [binOp, Op.intCmp])
theorem r_gtr32 (hx : ev n ρ x = u32 a) (hy : ev n ρ y = u32 b) : Runs P n ρ ⟨d, .binOp .gtr T x y T', t, pos, after, g⟩ w (.bool (decide (b.toNat < a.toNat))) w :=
  r_int hx hy (by simp [binOp, Op.intCmp])
theorem r_geq32 (hx : ev n ρ x = u32 a) (hy : ev n ρ y = u32 b) : Runs P n ρ ⟨d, .binOp .geq T x y T', t, pos, after, g⟩ w (.bool (decide (b.toNat ≤ a.toNat))) w :=
  r_int hx hy (by simp [binOp, Op.intCmp])
theorem r_shl32 {k : IntKind} {c : Nat} (hx : ev n ρ x = u32 a) (hy : ev n ρ y = .int k (c : Int)) : Runs P n ρ ⟨d, .binOp .shl T x y T', t, pos, after, g⟩ w (u32 (a <<< c)) w :=
  r_shift hx hy (by
    have h0 : ¬ ((c : Int) < 0) := by omega
    simp only [binOp, Op.shift, u32, h0, if_false, Int.toNat_natCast, IntKind.bits, wrapU32, Sem.run_pure]
    congr 2
    rw [BitVec.toNat_shiftLeft, Nat.shiftLeft_eq]
    by_cases hc : c ≤ 32
    · rw [Nat.min_eq_left hc, Int.natCast_emod, Int.natCast_mul, Int.natCast_pow]; rfl
    · rw [Nat.min_eq_right (by omega)]
      have e1 : a.toNat * 2 ^ c % 2 ^ 32 = 0 := Nat.mod_eq_zero_of_dvd (Nat.dvd_trans (Nat.pow_dvd_pow 2 (by omega)) (Nat.dvd_mul_left _ _))
      rw [e1]
      omega)
theorem r_shr32 {k : IntKind} {c : Nat} (hx : ev n ρ x = u32 a) (hy : ev n ρ y = .int k (c : Int)) : Runs P n ρ ⟨d, .binOp .shr T x y T', t, pos, after, g⟩ w (u32 (a >>> c)) w :=
  r_shift hx hy (by
    have h0 : ¬ ((c : Int) < 0) := by omega
    simp only [binOp, Op.shift, u32, h0, if_false, Int.toNat_natCast, IntKind.bits, Sem.run_pure]
    congr 2
    rw [BitVec.toNat_ushiftRight, Nat.shiftRight_eq_div_pow, Int.fdiv_eq_ediv_of_nonneg _ (by exact Int.le_of_lt (Int.pow_pos (by omega)))]
    by_cases hc : c ≤ 32
    · rw [Nat.min_eq_left hc]; push_cast; rfl
    · rw [Nat.min_eq_right (by omega)]
      have h1 : a.toNat < 2 ^ c := Nat.lt_of_lt_of_le a.isLt (Nat.pow_le_pow_right (by omega) (by omega))
      rw [Nat.div_eq_of_lt h1]
      have := a.isLt
      omega)
end
/-! ### unsigned, W bits -/
section
variable {a b : BitVec 64}
theorem r_add64 (hx : ev n ρ x = u64 a) (hy : ev n ρ y = u64 b) : Runs P n ρ ⟨d, .binOp .add T x y T', t, pos, after, g⟩ w (u64 (a + b)) w :=
  r_int hx hy (by simp [binOp, Op.intArith, u64, wrapU64, BitVec.toNat_add])
theorem r_sub64 (hx : ev n ρ x = u64 a) (hy : ev n ρ y = u64 b) : Runs P n ρ ⟨d, .binOp .sub T x y T', t, pos, after, g⟩ w (u64 (a - b)) w :=
  r_int hx hy (by
    simp only [binOp, Op.intArith, u64, wrapU64, ne_eq, not_true_eq_false, if_false, Sem.run_pure]
    have h1 := a.isLt
    have h2 := b.isLt
    have e : ((a - b).toNat : Int) = ((a.toNat : Int) - b.toNat) % 18446744073709551616 := by
      rw [BitVec.toNat_sub]
      omega
    rw [e])
theorem r_mul64 (hx : ev n ρ x = u64 a) (hy : ev n ρ y = u64 b) : Runs P n ρ ⟨d, .binOp .mul T x y T', t, pos, after, g⟩ w (u64 (a * b)) w :=
  r_int hx hy (by simp [binOp, Op.intArith, u64, wrapU64, BitVec.toNat_mul])
theorem nz64 (hb : b ≠ 0#64) : ((b.toNat : Int) = 0) ↔ False := by
  constructor
  · intro h; exact hb (BitVec.eq_of_toNat_eq (by simpa using h))
  · exact False.elim
theorem r_quo64 (hx : ev n ρ x = u64 a) (hy : ev n ρ y = u64 b) (hb : b ≠ 0#64) : Runs P n ρ ⟨d, .binOp .quo T x y T', t, pos, after, g⟩ w (u64 (a / b)) w :=
  r_int hx hy (by
    have h1 : a.toNat / b.toNat < 18446744073709551616 := Nat.lt_of_le_of_lt (Nat.div_le_self _ _) a.isLt
    have h2 : ((a.toNat / b.toNat : Nat) : Int) < 18446744073709551616 := by omega
    have h3 : (0 : Int) ≤ ((a.toNat / b.toNat : Nat) : Int) := Int.natCast_nonneg _
    rw [Int.natCast_ediv] at h2 h3
    simp only [binOp, Op.intDiv, u64, nz64 hb, wrapU64]
    simp [BitVec.toNat_udiv]
    omega)
theorem r_rem64 (hx : ev n ρ x = u64 a) (hy : ev n ρ y = u64 b) (hb : b ≠ 0#64) : Runs P n ρ ⟨d, .binOp .rem T x y T', t, pos, after, g⟩ w (u64 (a % b)) w :=
  r_int hx hy (by
    simp only [binOp, Op.intDiv, u64, nz64 hb]
    simp [BitVec.toNat_umod]
    rw [Int.tmod_eq_emod_of_nonneg (by omega)])
theorem bits64 (o : BinOp) (r : BitVec 64) (h : r = match o with | .and => a &&& b | .or => a ||| b | .xor => a ^^^ b | _ => a &&& ~~~b) (ho : o = .and ∨ o = .or ∨ o = .xor ∨ o = .andNot) :
    (binOp o T (u64 a) (u64 b)).run P w = .ok (u64 r) w := by
  have e1 : BitVec.ofInt 64 (a.toNat : Int) = a := by simp
  have e2 : BitVec.ofInt 64 (b.toNat : Int) = b := by simp
  have hw : ∀ r : BitVec 64, IntKind.u64.wrap (r.toNat : Int) = r.toNat := fun r => by rw [wrapU64]; have := r.isLt; omega
  rcases ho with rfl | rfl | rfl | rfl <;> subst h <;>
    simp only [binOp, Op.intBits, u64, IntKind.bits, e1, e2, hw, ne_eq, not_true_eq_false, if_false, Sem.run_pure] <;> rfl
theorem r_and64 (hx : ev n ρ x = u64 a) (hy : ev n ρ y = u64 b) : Runs P n ρ ⟨d, .binOp .and T x y T', t, pos, after, g⟩ w (u64 (a &&& b)) w :=
  r_int hx hy (bits64 .and _ rfl (by simp))
theorem r_or64 (hx : ev n ρ x = u64 a) (hy : ev n ρ y = u64 b) : Runs P n ρ ⟨d, .binOp .or T x y T', t, pos, after, g⟩ w (u64 (a ||| b)) w :=
  r_int hx hy (bits64 .or _ rfl (by simp))
theorem r_xor64 (hx : ev n ρ x = u64 a) (hy : ev n ρ y = u64 b) : Runs P n ρ ⟨d, .binOp .xor T x y T', t, pos, after, g⟩ w (u64 (a ^^^ b)) w :=
  r_int hx hy (bits64 .xor _ rfl (by simp))
theorem deq64 : decide (a.toNat = b.toNat) = decide (a = b) := by simp [BitVec.toNat_inj]
theorem r_eql64 (hx : ev n ρ x = u64 a) (hy : ev n ρ y = u64 b) : Runs P n ρ ⟨d, .binOp .eql T x y T', t, pos, after, g⟩ w (.bool (decide (a = b))) w :=
  r_int hx hy (by simp [binOp, Op.intCmp, ← deq64, ibeq]; omega)
theorem r_neq64 (hx : ev n ρ x = u64 a) (hy : ev n ρ y = u64 b) : Runs P n ρ ⟨d, .binOp .neq T x y T', t, pos, after, g⟩ w (.bool (decide (a ≠ b))) w :=
  r_int hx hy (by simp [binOp, Op.intCmp, ← deq64, bne, ibeq]; omega)
theorem r_lss64 (hx : ev n ρ x = u64 a) (hy : ev n ρ y = u64 b) : Runs P n ρ ⟨d, .binOp .lss T x y T', t, pos, after, g⟩ w (.bool (decide (a.toNat < b.toNat))) w :=
  r_int hx hy (by simp [binOp, Op.intCmp])
theorem r_leq64 (hx : ev n ρ x = u64 a) (hy : ev n ρ y = u64 b) : Runs P n ρ ⟨d, .binOp .leq T x y T', t, pos, after, g⟩ w (.bool (decide (a.toNat ≤ b.toNat))) w :=
  r_int hx hy (by simp [binOp, Op.intCmp])
theorem r_gtr64 (hx : ev n ρ x = u64 a) (hy : ev n ρ y = u64 b) : Runs P n ρ ⟨d, .binOp .gtr T x y T', t, pos, after, g⟩ w (.bool (decide (b.toNat < a.toNat))) w :=
  r_int hx hy (by simp [binOp, Op.intCmp])
theorem r_geq64 (hx : ev n ρ x = u64 a) (hy : ev n ρ y = u64 b) : Runs P n ρ ⟨d, .binOp .geq T x y T', t, pos, after, g⟩ w (.bool (decide (b.toNat ≤ a.toNat))) w :=
  r_int hx hy (by simp [binOp, Op.intCmp])
theorem r_shl64 {k : IntKind} {c : Nat} (hx : ev n ρ x = u64 a) (hy : ev n ρ y = .int k (c : Int)) : Runs P n ρ ⟨d, .binOp .shl T x y T', t, pos, after, g⟩ w (u64 (a <<< c)) w :=
  r_shift hx hy (by
    have h0 : ¬ ((c : Int) < 0) := by omega
    simp only [binOp, Op.shift, u64, h0, if_false, Int.toNat_natCast, IntKind.bits, wrapU64, Sem.run_pure]
    congr 2
    rw [BitVec.toNat_shiftLeft, Nat.shiftLeft_eq]
    by_cases hc : c ≤ 64
    · rw [Nat.min_eq_left hc, Int.natCast_emod, Int.natCast_mul, Int.natCast_pow]; rfl
    · rw [Nat.min_eq_right (by omega)]
      have e1 : a.toNat * 2 ^ c % 2 ^ 64 = 0 := Nat.mod_eq_zero_of_dvd (Nat.dvd_trans (Nat.pow_dvd_pow 2 (by omega)) (Nat.dvd_mul_left _ _))
      rw [e1]
      omega)
theorem r_shr64 {k : IntKind} {c : Nat} (hx : ev n ρ x = u64 a) (hy : ev n ρ y = .int k (c : Int)) : Runs P n ρ ⟨d, .binOp .shr T x y T', t, pos, after, g⟩ w (u64 (a >>> c)) w :=
  r_shift hx hy (by
    have h0 : ¬ ((c : Int) < 0) := by omega
    simp only [binOp, Op.shift, u64, h0, if_false, Int.toNat_natCast, IntKind.bits, Sem.run_pure]
    congr 2
    rw [BitVec.toNat_ushiftRight, Nat.shiftRight_eq_div_pow, Int.fdiv_eq_ediv_of_nonneg _ (by exact Int.le_of_lt (Int.pow_pos (by omega)))]
    by_cases hc : c ≤ 64
    · rw [Nat.min_eq_left hc]; push_cast; rfl
    · rw [Nat.min_eq_right (by omega)]
      have h1 : a.toNat < 2 ^ c := Nat.lt_of_lt_of_le a.isLt (Nat.pow_le_pow_right (by omega) (by omega))
      rw [Nat.div_eq_of_lt h1]
      have := a.isLt
      omega)
end
/-! ### int -/
section
variable {a b : Int}
theorem r_addI (hx : ev n ρ x = i64 a) (hy : ev n ρ y = i64 b) (h : -9223372036854775808 ≤ a + b ∧ a + b < 9223372036854775808) :
    Runs P n ρ ⟨d, .binOp .add T x y T', t, pos, after, g⟩ w (i64 (a + b)) w :=
  r_int hx hy (by simp [binOp, Op.intArith, i64, wrapI64 h.1 h.2])
theorem r_subI (hx : ev n ρ x = i64 a) (hy : ev n ρ y = i64 b) (h : -9223372036854775808 ≤ a - b ∧ a - b < 9223372036854775808) :
    Runs P n ρ ⟨d, .binOp .sub T x y T', t, pos, after, g⟩ w (i64 (a - b)) w :=
  r_int hx hy (by simp [binOp, Op.intArith, i64, wrapI64 h.1 h.2])
theorem r_mulI (hx : ev n ρ x = i64 a) (hy : ev n ρ y = i64 b) (h : -9223372036854775808 ≤ a * b ∧ a * b < 9223372036854775808) :
    Runs P n ρ ⟨d, .binOp .mul T x y T', t, pos, after, g⟩ w (i64 (a * b)) w :=
  r_int hx hy (by simp [binOp, Op.intArith, i64, wrapI64 h.1 h.2])
/-- of numbers that aren't below 0 -/
theorem r_quoI (hx : ev n ρ x = i64 a) (hy : ev n ρ y = i64 b) (h : 0 ≤ a ∧ a < 9223372036854775808 ∧ 0 < b) :
    Runs P n ρ ⟨d, .binOp .quo T x y T', t, pos, after, g⟩ w (i64 (a / b)) w :=
  r_int hx hy (by
    have h0 : ¬ b = 0 := by omega
    have h1 : 0 ≤ a / b := Int.ediv_nonneg h.1 (by omega)
    have h2 : a / b ≤ a := Int.ediv_le_self _ h.1
    simp only [binOp, Op.intDiv, i64, h0, if_false, ne_eq, not_true_eq_false, Sem.run_pure]
    rw [Int.tdiv_eq_ediv_of_nonneg h.1, wrapI64 (by omega) (by omega)])
theorem r_remI (hx : ev n ρ x = i64 a) (hy : ev n ρ y = i64 b) (h : 0 ≤ a ∧ 0 < b) :
    Runs P n ρ ⟨d, .binOp .rem T x y T', t, pos, after, g⟩ w (i64 (a % b)) w :=
  r_int hx hy (by
    have h0 : ¬ b = 0 := by omega
    simp only [binOp, Op.intDiv, i64, h0, if_false, ne_eq, not_true_eq_false, Sem.run_pure]
    rw [Int.tmod_eq_emod_of_nonneg h.1])
/-- of any numbers -/
theorem r_quoT (hx : ev n ρ x = i64 a) (hy : ev n ρ y = i64 b) (h : b ≠ 0) (hr : -9223372036854775808 ≤ a.tdiv b ∧ a.tdiv b < 9223372036854775808) :
    Runs P n ρ ⟨d, .binOp .quo T x y T', t, pos, after, g⟩ w (i64 (a.tdiv b)) w :=
  r_int hx hy (by simp [binOp, Op.intDiv, i64, h, wrapI64 hr.1 hr.2])
theorem r_remT (hx : ev n ρ x = i64 a) (hy : ev n ρ y = i64 b) (h : b ≠ 0) :
    Runs P n ρ ⟨d, .binOp .rem T x y T', t, pos, after, g⟩ w (i64 (a.tmod b)) w :=
  r_int hx hy (by simp [binOp, Op.intDiv, i64, h])
theorem r_eqlI (hx : ev n ρ x = i64 a) (hy : ev n ρ y = i64 b) : Runs P n ρ ⟨d, .binOp .eql T x y T', t, pos, after, g⟩ w (.bool (decide (a = b))) w :=
  r_int hx hy (by simp [binOp, Op.intCmp, ibeq])
theorem r_neqI (hx : ev n ρ x = i64 a) (hy : ev n ρ y = i64 b) : Runs P n ρ ⟨d, .binOp .neq T x y T', t, pos, after, g⟩ w (.bool (decide (a ≠ b))) w :=
  r_int hx hy (by simp [binOp, Op.intCmp, bne, ibeq])
theorem r_lssI (hx : ev n ρ x = i64 a) (hy : ev n ρ y = i64 b) : Runs P n ρ ⟨d, .binOp .lss T x y T', t, pos, after, g⟩ w (.bool (decide (a < b))) w :=
  r_int hx hy (by simp [binOp, Op.intCmp])
theorem r_leqI (hx : ev n ρ x = i64 a) (hy : ev n ρ y = i64 b) : Runs P n ρ ⟨d, .binOp .leq T x y T', t, pos, after, g⟩ w (.bool (decide (a ≤ b))) w :=
  r_int hx hy (by simp [binOp, Op.intCmp])
theorem r_gtrI (hx : ev n ρ x = i64 a) (hy : ev n ρ y = i64 b) : Runs P n ρ ⟨d, .binOp .gtr T x y T', t, pos, after, g⟩ w (.bool (decide (b < a))) w :=
  r_int hx hy (by simp [binOp, Op.intCmp])
theorem r_geqI (hx : ev n ρ x = i64 a) (hy : ev n ρ y = i64 b) : Runs P n ρ ⟨d, .binOp .geq T x y T', t, pos, after, g⟩ w (.bool (decide (b ≤ a))) w :=
  r_int hx hy (by simp [binOp, Op.intCmp])
end
section
variable {a b : Nat}
/-- bits of two ints that aren't below 0 -/
theorem r_xorN (hx : ev n ρ x = i64 (a : Int)) (hy : ev n ρ y = i64 (b : Int)) (ha : a < 9223372036854775808) (hb : b < 9223372036854775808) :
    Runs P n ρ ⟨d, .binOp .xor T x y T', t, pos, after, g⟩ w (i64 ((a ^^^ b : Nat) : Int)) w :=
  r_int hx hy (by
    have h1 : a ^^^ b < 9223372036854775808 := Nat.xor_lt_two_pow (n := 63) ha hb
    simp only [binOp, Op.intBits, i64, IntKind.bits, ne_eq, not_true_eq_false, if_false, Sem.run_pure]
    congr 2
    have e : (BitVec.ofInt 64 (a : Int) ^^^ BitVec.ofInt 64 (b : Int)).toNat = a ^^^ b := by
      rw [BitVec.toNat_xor, BitVec.ofInt_natCast, BitVec.ofInt_natCast, BitVec.toNat_ofNat, BitVec.toNat_ofNat, Nat.mod_eq_of_lt (by omega), Nat.mod_eq_of_lt (by omega)]
    exact (congrArg (fun z : Nat => IntKind.i64.wrap (z : Int)) e).trans (wrapI64 (by omega) (by omega)))
theorem r_andN (hx : ev n ρ x = i64 (a : Int)) (hy : ev n ρ y = i64 (b : Int)) (ha : a < 9223372036854775808) (hb : b < 9223372036854775808) :
    Runs P n ρ ⟨d, .binOp .and T x y T', t, pos, after, g⟩ w (i64 ((a &&& b : Nat) : Int)) w :=
  r_int hx hy (by
    have h1 : a &&& b < 9223372036854775808 := Nat.lt_of_le_of_lt Nat.and_le_left ha
    simp only [binOp, Op.intBits, i64, IntKind.bits, ne_eq, not_true_eq_false, if_false, Sem.run_pure]
    congr 2
    have e : (BitVec.ofInt 64 (a : Int) &&& BitVec.ofInt 64 (b : Int)).toNat = a &&& b := by
      rw [BitVec.toNat_and, BitVec.ofInt_natCast, BitVec.ofInt_natCast, BitVec.toNat_ofNat, BitVec.toNat_ofNat, Nat.mod_eq_of_lt (by omega), Nat.mod_eq_of_lt (by omega)]
    exact (congrArg (fun z : Nat => IntKind.i64.wrap (z : Int)) e).trans (wrapI64 (by omega) (by omega)))
/-- an int that isn't below 0, moved down -/
theorem r_shrN {k : IntKind} {c : Nat} (hx : ev n ρ x = i64 (a : Int)) (hy : ev n ρ y = .int k (c : Int)) (hc : c ≤ 64) :
    Runs P n ρ ⟨d, .binOp .shr T x y T', t, pos, after, g⟩ w (i64 ((a >>> c : Nat) : Int)) w :=
  r_shift hx hy (by
    have h0 : ¬ ((c : Int) < 0) := by omega
    simp only [binOp, Op.shift, i64, h0, if_false, Int.toNat_natCast, IntKind.bits, Sem.run_pure]
    congr 2
    rw [Nat.shiftRight_eq_div_pow, Int.fdiv_eq_ediv_of_nonneg _ (by exact Int.le_of_lt (Int.pow_pos (by omega))), Nat.min_eq_left hc]
    push_cast; rfl)
theorem r_shlN {k : IntKind} {c : Nat} (hx : ev n ρ x = i64 (a : Int)) (hy : ev n ρ y = .int k (c : Int)) (hc : c ≤ 64) (h : a <<< c < 9223372036854775808) :
    Runs P n ρ ⟨d, .binOp .shl T x y T', t, pos, after, g⟩ w (i64 ((a <<< c : Nat) : Int)) w :=
  r_shift hx hy (by
    have h0 : ¬ ((c : Int) < 0) := by omega
    simp only [binOp, Op.shift, i64, h0, if_false, Int.toNat_natCast, IntKind.bits, Sem.run_pure]
    congr 2
    rw [Nat.shiftLeft_eq] at h
    rw [Nat.shiftLeft_eq, Nat.min_eq_left hc, wrapI64]
    · push_cast; rfl
    · have : (0 : Int) ≤ ((a * 2 ^ c : Nat) : Int) := Int.natCast_nonneg _
      push_cast at this; omega
    · have : ((a * 2 ^ c : Nat) : Int) < 9223372036854775808 := by omega
      push_cast at this; exact this)
end
/-! ### bools -/
section
variable {a b : Bool}
theorem guard_bool (o : BinOp) (a b : Bool) : (eqGuard o T x y (.bool a) (.bool b)).run P w = .ok () w := by
  cases o <;> simp [eqGuard]
theorem run_equalB (w : World) (e : Nat) (hT : P.underlying T = some .bool) : (Op.equalIn (e + 1) T (.bool a) (.bool b)).run P w = .ok (a == b) w := by
  simp [Op.equalIn, run_underlying hT]
theorem run_eqB (w : World) (hT : P.underlying T = some .bool) : (Op.equal T (.bool a) (.bool b)).run P w = .ok (a == b) w := run_equalB w 9999 hT
theorem r_eqlB (hT : P.underlying T = some .bool) (hx : ev n ρ x = .bool a) (hy : ev n ρ y = .bool b) : Runs P n ρ ⟨d, .binOp .eql T x y T', t, pos, after, g⟩ w (.bool (a == b)) w := by
  have h : (binOp .eql T (.bool a) (.bool b)).run P w = .ok (.bool (a == b)) w := by
    simp only [binOp, Sem.run_bind, run_eqB w hT, Result.andThen_ok, Sem.run_pure]
  simp [Runs, execOp, hx, hy, guard_bool, h]
theorem r_neqB (hT : P.underlying T = some .bool) (hx : ev n ρ x = .bool a) (hy : ev n ρ y = .bool b) : Runs P n ρ ⟨d, .binOp .neq T x y T', t, pos, after, g⟩ w (.bool (a != b)) w := by
  have h : (binOp .neq T (.bool a) (.bool b)).run P w = .ok (.bool (a != b)) w := by
    simp only [binOp, Sem.run_bind, run_eqB w hT, Result.andThen_ok, Sem.run_pure]; rfl
  simp [Runs, execOp, hx, hy, guard_bool, h]
end
/-! ### conversions -/
section
theorem r_conv {k k' : IntKind} {S : TypeId} {sd : TypeDesc} {a : Int} (hs : P.underlying S = some sd) (hT : P.underlying T = some (.int k)) (hx : ev n ρ x = .int k' a) :
    Runs P n ρ ⟨d, .convert S T x, t, pos, after, g⟩ w (.int k (k.wrap a)) w := by
  simp [Runs, execOp, hx, convert, run_underlying hs, run_underlying hT, Conv.intToInt]
theorem Runs.as {o : Oper} {v v' : Value} {w' : World} (h : Runs P n ρ o w v w') (e : v = v') : Runs P n ρ o w v' w' := e ▸ h
variable {S : TypeId} {k : IntKind}
theorem r_8toI {a : BitVec 8} (hs : P.underlying S = some (.int .u8)) (hT : P.underlying T = some (.int .i64)) (hx : ev n ρ x = u8 a) :
    Runs P n ρ ⟨d, .convert S T x, t, pos, after, g⟩ w (i64 (a.toNat : Int)) w :=
  (r_conv hs hT hx).as (by have := a.isLt; rw [i64, wrapI64 (by omega) (by omega)])
theorem r_32toI {a : BitVec 32} (hs : P.underlying S = some (.int .u32)) (hT : P.underlying T = some (.int .i64)) (hx : ev n ρ x = u32 a) :
    Runs P n ρ ⟨d, .convert S T x, t, pos, after, g⟩ w (i64 (a.toNat : Int)) w :=
  (r_conv hs hT hx).as (by have := a.isLt; rw [i64, wrapI64 (by omega) (by omega)])
theorem r_Ito8 {a : Int} (hs : P.underlying S = some (.int .i64)) (hT : P.underlying T = some (.int .u8)) (hx : ev n ρ x = i64 a) :
    Runs P n ρ ⟨d, .convert S T x, t, pos, after, g⟩ w (u8 (BitVec.ofInt 8 a)) w :=
  (r_conv hs hT hx).as (by rw [u8, wrapU8, BitVec.toNat_ofInt]; congr 1; omega)
theorem r_Ito32 {a : Int} (hs : P.underlying S = some (.int .i64)) (hT : P.underlying T = some (.int .u32)) (hx : ev n ρ x = i64 a) :
    Runs P n ρ ⟨d, .convert S T x, t, pos, after, g⟩ w (u32 (BitVec.ofInt 32 a)) w :=
  (r_conv hs hT hx).as (by rw [u32, wrapU32, BitVec.toNat_ofInt]; congr 1; omega)
theorem r_Ito64 {a : Int} (hs : P.underlying S = some (.int .i64)) (hT : P.underlying T = some (.int .u64)) (hx : ev n ρ x = i64 a) :
    Runs P n ρ ⟨d, .convert S T x, t, pos, after, g⟩ w (u64 (BitVec.ofInt 64 a)) w :=
  (r_conv hs hT hx).as (by rw [u64, wrapU64, BitVec.toNat_ofInt]; congr 1; omega)
theorem r_64toI {a : BitVec 64} (hs : P.underlying S = some (.int .u64)) (hT : P.underlying T = some (.int .i64)) (hx : ev n ρ x = u64 a) :
    Runs P n ρ ⟨d, .convert S T x, t, pos, after, g⟩ w (i64 a.toInt) w :=
  (r_conv hs hT hx).as (by
    rw [i64, BitVec.toInt_eq_toNat_cond]
    have := a.isLt
    congr 1
    simp only [IntKind.wrap, IntKind.signed, IntKind.bits]
    simp
    split <;> omega)
theorem r_ItoI {a : Int} (hs : P.underlying S = some (.int .i64)) (hT : P.underlying T = some (.int .i64)) (hx : ev n ρ x = i64 a) (h : -9223372036854775808 ≤ a ∧ a < 9223372036854775808) :
    Runs P n ρ ⟨d, .convert S T x, t, pos, after, g⟩ w (i64 a) w :=
  (r_conv hs hT hx).as (by rw [i64, wrapI64 h.1 h.2])
theorem r_8to64 {a : BitVec 8} (hs : P.underlying S = some (.int .u8)) (hT : P.underlying T = some (.int .u64)) (hx : ev n ρ x = u8 a) :
    Runs P n ρ ⟨d, .convert S T x, t, pos, after, g⟩ w (u64 (a.setWidth 64)) w :=
  (r_conv hs hT hx).as (by rw [u64, wrapU64, BitVec.toNat_setWidth]; congr 1)
theorem r_8to32 {a : BitVec 8} (hs : P.underlying S = some (.int .u8)) (hT : P.underlying T = some (.int .u32)) (hx : ev n ρ x = u8 a) :
    Runs P n ρ ⟨d, .convert S T x, t, pos, after, g⟩ w (u32 (a.setWidth 32)) w :=
  (r_conv hs hT hx).as (by rw [u32, wrapU32, BitVec.toNat_setWidth]; congr 1)
theorem r_64to8 {a : BitVec 64} (hs : P.underlying S = some (.int .u64)) (hT : P.underlying T = some (.int .u8)) (hx : ev n ρ x = u64 a) :
    Runs P n ρ ⟨d, .convert S T x, t, pos, after, g⟩ w (u8 (a.setWidth 8)) w :=
  (r_conv hs hT hx).as (by rw [u8, wrapU8, BitVec.toNat_setWidth]; rfl)
theorem r_32to8 {a : BitVec 32} (hs : P.underlying S = some (.int .u32)) (hT : P.underlying T = some (.int .u8)) (hx : ev n ρ x = u32 a) :
    Runs P n ρ ⟨d, .convert S T x, t, pos, after, g⟩ w (u8 (a.setWidth 8)) w :=
  (r_conv hs hT hx).as (by rw [u8, wrapU8, BitVec.toNat_setWidth]; rfl)
theorem r_64to32 {a : BitVec 64} (hs : P.underlying S = some (.int .u64)) (hT : P.underlying T = some (.int .u32)) (hx : ev n ρ x = u64 a) :
    Runs P n ρ ⟨d, .convert S T x, t, pos, after, g⟩ w (u32 (a.setWidth 32)) w :=
  (r_conv hs hT hx).as (by rw [u32, wrapU32, BitVec.toNat_setWidth]; rfl)
end
end
end Go.Proofs.YteofdmdpaejgaaaDoor.Vc
