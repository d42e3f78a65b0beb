/- The program's words and hashes are the document's: no program in sight. -/
import Derived.Test.YtkclklnfohaheaaDoorAesRefPlain
namespace Go.Proofs.YtkclklnfohaheaaDoor.AesSpec
theorem bytesS_at (a b : BitVec 64) (i j : Nat) (hi : i ≤ 16) (hj : j < i) : (bytesS a b i).getD j 0#8 = (([a, b].getD (j / 8) 0#64) >>> (8 * (j % 8))).setWidth 8 := by
  induction i with
  | zero => omega
  | succ i ih =>
    simp only [bytesS]; rw [getD_set (by rw [bytesS_len]; omega)]
    by_cases e : i = j
    · subst e; rw [if_pos rfl]
    · rw [if_neg e, ih (by omega) (by omega)]
theorem eightS_two (x : BitVec 64) (j : Nat) : (eightS x j).2 = x >>> (8 * j) := by
  induction j with
  | zero => simp [eightS]
  | succ j ih =>
    simp only [eightS, ih]
    apply BitVec.eq_of_toNat_eq
    rw [BitVec.toNat_udiv, BitVec.toNat_ushiftRight, BitVec.toNat_ushiftRight, Nat.shiftRight_eq_div_pow, Nat.shiftRight_eq_div_pow, Nat.mul_add, Nat.pow_add, ← Nat.div_div_eq_div_mul]
    rfl
theorem low8 (y : BitVec 64) : (y % 256#64).setWidth 8 = y.setWidth 8 := by
  apply BitVec.eq_of_toNat_eq
  rw [BitVec.toNat_setWidth, BitVec.toNat_setWidth, BitVec.toNat_umod]
  show y.toNat % 256 % 2 ^ 8 = y.toNat % 2 ^ 8
  omega
theorem eightS_at (x : BitVec 64) (i j : Nat) (hj : j < i) : (eightS x i).1.getD j 0#8 = (x >>> (8 * j)).setWidth 8 := by
  induction i with
  | zero => omega
  | succ i ih =>
    simp only [eightS]
    by_cases e : j = i
    · subst e; rw [getD_app2 (by rw [eightS_len]; omega), eightS_len, Nat.sub_self, eightS_two, low8]; rfl
    · rw [getD_app (by rw [eightS_len]; omega), ih (by omega)]
theorem bytes_eq (a b : BitVec 64) : (eightS a 8).1 ++ (eightS b 8).1 = bytesS a b 16 := by
  refine list_getD (by rw [List.length_append, eightS_len, eightS_len]) (bytesS_len _ _ _) fun i hi => ?_
  rw [bytesS_at _ _ _ _ (Nat.le_refl _) hi]
  by_cases e : i < 8
  · rw [getD_app (by rw [eightS_len]; exact e), eightS_at _ _ _ e, show i / 8 = 0 by omega, show i % 8 = i by omega]; rfl
  · rw [getD_app2 (by rw [eightS_len]; omega), eightS_len, eightS_at _ _ _ (by omega), show i / 8 = 1 by omega, show i % 8 = i - 8 by omega]; rfl
theorem eight_zero : (eightS 0#64 8).1 = [0#8, 0#8, 0#8, 0#8, 0#8, 0#8, 0#8, 0#8] := by decide +kernel
theorem step_bit (X : BitVec 64) (c : BitVec 8) (p : Nat) (hp : p < 64) : (X * 256#64 + c.setWidth 64).getLsbD p = if p < 8 then c.getLsbD p else X.getLsbD (p - 8) := by
  have h : (X * 256#64 + c.setWidth 64).toNat = (2 ^ 8 * X.toNat + c.toNat) % 2 ^ 64 := by
    rw [BitVec.toNat_add, BitVec.toNat_mul, BitVec.toNat_setWidth]
    show (X.toNat * 256 % 2 ^ 64 + c.toNat % 2 ^ 64) % 2 ^ 64 = _
    omega
  rw [BitVec.getLsbD, h, Nat.testBit_mod_two_pow, Nat.testBit_two_pow_mul_add _ c.isLt, decide_eq_true hp, Bool.true_and]
  rfl
theorem whole_bit (b : List By) (k p : Nat) (hk : k ≤ 8) (hp : p < 64) : (wholeS b k).getLsbD p = (decide (p < 8 * k) && (b.getD (8 - k + p / 8) 0#8).getLsbD (p % 8)) := by
  induction k generalizing p with
  | zero => simp [wholeS]
  | succ k ih =>
    rw [wholeS, step_bit _ _ _ hp]
    by_cases e : p < 8
    · rw [if_pos e, decide_eq_true (show p < 8 * (k + 1) by omega), Bool.true_and, show 8 - (k + 1) + p / 8 = 7 - k by omega, show p % 8 = p by omega]
    · rw [if_neg e, ih (p - 8) (by omega) (by omega), show 8 - k + (p - 8) / 8 = 8 - (k + 1) + p / 8 by omega, show (p - 8) % 8 = p % 8 by omega]
      by_cases f : p - 8 < 8 * k
      · rw [decide_eq_true f, decide_eq_true (show p < 8 * (k + 1) by omega)]
      · rw [decide_eq_false f, decide_eq_false (show ¬ p < 8 * (k + 1) by omega)]
theorem part_at (l : List By) (q j : Nat) (hj : j < 8) : ((l.drop q).take 8).getD j 0#8 = l.getD (q + j) 0#8 := by
  rw [List.getD_eq_getElem?_getD, List.getElem?_take, if_pos hj, List.getElem?_drop, List.getD_eq_getElem?_getD]
theorem whole_eq (l : List By) (v : Nat) (hv : v < 2) : wholeS ((l.drop (8 * v)).take 8) 8 = (labelS l 16).getD v 0#64 := by
  apply BitVec.eq_of_getLsbD_eq
  intro p hp
  rw [whole_bit _ _ _ (Nat.le_refl _) hp, labelS_bit _ _ _ _ hv hp (Nat.le_refl _), part_at _ _ _ (by omega), decide_eq_true (show p < 8 * 8 by omega), decide_eq_true (show 8 * v + p / 8 < 16 by omega),
    show 8 * v + (8 - 8 + p / 8) = 8 * v + p / 8 by omega]
theorem word_eq (key : List By) (hk : key.length = 16) (n : BitVec 64) : wordR (expR key (boxR 256) 40).1 (boxR 256) n = wordL (cipher key) n := by
  rw [wordR, wordL, ← eight_zero, bytes_eq, enc_eq key _ hk (bytesS_len _ _ _)]
  by_cases e : n % 2#64 = 0#64
  · rw [if_pos e, e]; exact whole_eq _ 0 (by decide)
  · rw [if_neg e]
    have h : (n % 2#64).toNat = 1 := by
      have h1 : (n % 2#64).toNat = n.toNat % 2 := by rw [BitVec.toNat_umod]; rfl
      have h2 : (n % 2#64).toNat ≠ 0 := fun x => e (BitVec.eq_of_toNat_eq x)
      omega
    rw [h]; exact whole_eq _ 1 (by decide)
theorem twice_eq (a : BitVec 64) : a <<< (1 : Nat) = a * 2#64 := by
  apply BitVec.eq_of_toNat_eq
  rw [BitVec.toNat_shiftLeft, BitVec.toNat_mul, Nat.shiftLeft_eq]; rfl
theorem dbl_eq (a b : BitVec 64) : dblR a b = dbl a b := by
  have hc : b >>> (63 : Nat) = 1#64 ↔ (9223372036854775808#64).toNat ≤ b.toNat := by
    have h1 : (b >>> (63 : Nat)).toNat = b.toNat / 2 ^ 63 := by rw [BitVec.toNat_ushiftRight, Nat.shiftRight_eq_div_pow]
    have h2 : (9223372036854775808#64).toNat = 2 ^ 63 := rfl
    have h3 := b.isLt
    constructor
    · intro h; rw [h] at h1; have : (1#64 : BitVec 64).toNat = 1 := rfl; omega
    · intro h; refine BitVec.eq_of_toNat_eq ?_; rw [h1]; show _ = 1; omega
  have hs : b <<< (1 : Nat) ||| a >>> (63 : Nat) = b * 2#64 + a / 9223372036854775808#64 := by
    apply BitVec.eq_of_toNat_eq
    rw [twice_eq, BitVec.toNat_or, BitVec.toNat_ushiftRight, BitVec.toNat_add, BitVec.toNat_udiv, BitVec.toNat_mul, Nat.shiftRight_eq_div_pow]
    show (b.toNat * 2 % 2 ^ 64) ||| (a.toNat / 2 ^ 63) = (b.toNat * 2 % 2 ^ 64 + a.toNat / 9223372036854775808) % 2 ^ 64
    have h1 := a.isLt
    have h2 : b.toNat * 2 % 2 ^ 64 = 2 ^ 1 * (b.toNat % 2 ^ 63) := by omega
    rw [h2, ← Nat.two_pow_add_eq_or_of_lt (by omega)]
    omega
  rw [dblR, dbl, hs, twice_eq]
  by_cases e : b >>> (63 : Nat) = 1#64
  · rw [if_pos e, if_pos (hc.1 e)]
  · rw [if_neg e, if_neg fun x => e (hc.2 x)]
theorem hash_eq (key : List By) (hk : key.length = 16) (a b tw : BitVec 64) :
    (sR0 a b tw ^^^ wholeS (((hashE (expR key (boxR 256) 40).1 (boxR 256) a b tw).drop 0).take 8) 8, (dblR a b).2 ^^^ wholeS (((hashE (expR key (boxR 256) 40).1 (boxR 256) a b tw).drop 8).take 8) 8) = hashL (cipher key) a b tw := by
  rw [hashL_eq, hashE, sR0, bytes_eq, enc_eq key _ hk (bytesS_len _ _ _), dbl_eq, ← whole_eq _ 0 (by decide), ← whole_eq _ 1 (by decide)]
theorem fix_eq : fixK = fixKey := by decide +kernel
end Go.Proofs.YtkclklnfohaheaaDoor.AesSpec
