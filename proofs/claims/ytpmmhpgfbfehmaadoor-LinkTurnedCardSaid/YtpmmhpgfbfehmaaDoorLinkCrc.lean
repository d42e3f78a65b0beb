/- The sum of a frame tells of one bit that is turned, and of two. -/
import Derived.Test.YtpmmhpgfbfehmaaDoorLinkSpec
namespace Go.Proofs.YtpmmhpgfbfehmaaDoor.Lk
open Go Go.Proofs.YtpmmhpgfbfehmaaDoor.Vc

theorem mulBit (c : BitVec 32) : 3988292384#32 * (c &&& 1#32) = bif c.getLsbD 0 then 3988292384#32 else 0#32 := by
  have h : c &&& 1#32 = bif c.getLsbD 0 then 1#32 else 0#32 := by
    apply BitVec.eq_of_getLsbD_eq
    intro i hi
    rw [BitVec.getLsbD_and]
    by_cases h0 : i = 0
    · subst h0; cases c.getLsbD 0 <;> simp
    · have : (1#32).getLsbD i = false := by simp [BitVec.getLsbD_one, h0]
      rw [this]; cases c.getLsbD 0 <;> simp [BitVec.getLsbD_one, h0]
  rw [h]; cases c.getLsbD 0 <;> rfl
theorem step_eq (c : BitVec 32) : crcStep c = (c >>> (1 : Nat)) ^^^ (bif c.getLsbD 0 then 3988292384#32 else 0#32) := by rw [crcStep, mulBit]
theorem xor4 (a b c d : BitVec 32) : (a ^^^ b) ^^^ (c ^^^ d) = (a ^^^ c) ^^^ (b ^^^ d) := by
  rw [BitVec.xor_assoc, BitVec.xor_assoc, ← BitVec.xor_assoc b c d, BitVec.xor_comm b c, BitVec.xor_assoc c b d]
theorem step_xor (a b : BitVec 32) : crcStep (a ^^^ b) = crcStep a ^^^ crcStep b := by
  have hs : (a ^^^ b) >>> (1 : Nat) = (a >>> (1 : Nat)) ^^^ (b >>> (1 : Nat)) := by
    apply BitVec.eq_of_getLsbD_eq; intro i hi; simp
  simp only [step_eq, hs, BitVec.getLsbD_xor]
  rw [xor4]
  congr 1
  cases a.getLsbD 0 <;> cases b.getLsbD 0 <;> simp
theorem crcN_xor : ∀ (k : Nat) (a b : BitVec 32), crcN k (a ^^^ b) = crcN k a ^^^ crcN k b
  | 0, _, _ => rfl
  | k + 1, a, b => by rw [crcN, crcN_xor k, step_xor]; rfl
theorem crcN_add (a : Nat) : ∀ (b : Nat) (c : BitVec 32), crcN b (crcN a c) = crcN (a + b) c
  | 0, _ => rfl
  | b + 1, c => by rw [crcN, crcN_add a b]; rfl
theorem step_zero : crcStep 0#32 = 0#32 := by decide
theorem crcN_zero : ∀ k, crcN k 0#32 = 0#32
  | 0 => rfl
  | k + 1 => by rw [crcN, crcN_zero k, step_zero]
theorem step_inj0 {c : BitVec 32} (h : crcStep c = 0#32) : c = 0#32 := by
  rw [step_eq] at h
  have h31 := congrArg (fun x => x.getLsbD 31) h
  have h0 : c.getLsbD 0 = false := by
    cases hc : c.getLsbD 0
    · rfl
    · rw [hc] at h31; simp at h31
  rw [h0] at h
  apply BitVec.eq_of_getLsbD_eq
  intro i hi
  cases i with
  | zero => rw [h0]; simp
  | succ i =>
    have := congrArg (fun x => x.getLsbD i) h
    simp at this
    rw [Nat.add_comm] at this
    rw [this]; simp
theorem step_inj {a b : BitVec 32} (h : crcStep a = crcStep b) : a = b := by
  have h1 : crcStep (a ^^^ b) = 0#32 := by rw [step_xor, h, BitVec.xor_self]
  have h2 := step_inj0 h1
  have h3 : (a ^^^ b) ^^^ b = 0#32 ^^^ b := by rw [h2]
  rw [BitVec.xor_assoc, BitVec.xor_self, BitVec.xor_zero, BitVec.zero_xor] at h3
  exact h3
theorem crcN_inj : ∀ (k : Nat) {a b : BitVec 32}, crcN k a = crcN k b → a = b
  | 0, _, _, h => h
  | k + 1, _, _, h => crcN_inj k (step_inj h)

/-! ### the register over bytes -/
def linF (l : List (BitVec 8)) (r : BitVec 32) : BitVec 32 := l.foldl (fun c x => crcN 8 (c ^^^ x.setWidth 32)) r
theorem linF_append (a b : List (BitVec 8)) (r : BitVec 32) : linF (a ++ b) r = linF b (linF a r) := List.foldl_append ..
theorem linF_cons (x : BitVec 8) (l : List (BitVec 8)) (r : BitVec 32) : linF (x :: l) r = linF l (crcN 8 (r ^^^ x.setWidth 32)) := rfl
theorem xor_right (a b c : BitVec 32) : (a ^^^ b) ^^^ c = (a ^^^ c) ^^^ b := by rw [BitVec.xor_assoc, BitVec.xor_comm b c, ← BitVec.xor_assoc]
theorem linF_xor : ∀ (l : List (BitVec 8)) (r s : BitVec 32), linF l (r ^^^ s) = linF l r ^^^ crcN (8 * l.length) s
  | [], r, s => rfl
  | x :: l, r, s => by
    rw [linF_cons, linF_cons, xor_right, crcN_xor, linF_xor l, crcN_add, List.length_cons, Nat.mul_add, Nat.mul_one, Nat.add_comm 8]
theorem linF_set {b : List (BitVec 8)} {i : Nat} (hi : i < b.length) (m : BitVec 8) (r : BitVec 32) :
    linF (b.set i (b.getD i 0#8 ^^^ m)) r = linF b r ^^^ crcN (8 * (b.length - i)) (m.setWidth 32) := by
  have hg : b.getD i 0#8 = b[i] := by simp [hi]
  have e1 : b = b.take i ++ b[i] :: b.drop (i + 1) := by rw [← List.drop_eq_getElem_cons hi, List.take_append_drop]
  have e2 : b.set i (b.getD i 0#8 ^^^ m) = b.take i ++ (b[i] ^^^ m) :: b.drop (i + 1) := by rw [hg, List.set_eq_take_append_cons_drop, if_pos hi]
  have hl : (b.drop (i + 1)).length = b.length - (i + 1) := List.length_drop ..
  rw [e2]
  conv => rhs; rw [show linF b r = linF (b.take i ++ b[i] :: b.drop (i + 1)) r by rw [← e1]]
  rw [linF_append, linF_append, linF_cons, linF_cons]
  have e3 : (b[i] ^^^ m).setWidth 32 = b[i].setWidth 32 ^^^ m.setWidth 32 := by
    apply BitVec.eq_of_getLsbD_eq; intro j hj; simp
  rw [e3, ← BitVec.xor_assoc, crcN_xor, linF_xor, crcN_add, hl]
  congr 2; omega
theorem crcN_low : ∀ (k : Nat) (z : BitVec 32), (∀ i, i < k → z.getLsbD i = false) → crcN k z = z >>> k
  | 0, z, _ => by simp [crcN]
  | k + 1, z, h => by
    rw [crcN, crcN_low k z (fun i hi => h i (by omega)), step_eq]
    have h0 : (z >>> k).getLsbD 0 = false := by rw [BitVec.getLsbD_ushiftRight]; exact h _ (by omega)
    rw [h0]
    simp only [cond_false, BitVec.xor_zero]
    rfl
theorem bit_at : ∀ j, j < 8 → crcN j ((1#8 <<< j).setWidth 32) = 1#32 := by decide
theorem crc_bit {n j : Nat} (hj : j < 8) (hn : j ≤ n) : crcN n ((1#8 <<< j).setWidth 32) = crcN (n - j) 1#32 := by
  rw [← bit_at j hj, crcN_add, show j + (n - j) = n by omega]
/-- four bytes more -/
theorem linF_four (v0 v1 v2 v3 : BitVec 8) (r : BitVec 32) : linF [v0, v1, v2, v3] r = crcN 32 (r ^^^ whole [v0, v1, v2, v3]) := by
  have hw : whole [v0, v1, v2, v3] = v0.setWidth 32 ^^^ ((v1.setWidth 32 <<< (8 : Nat)) ^^^ ((v2.setWidth 32 <<< (16 : Nat)) ^^^ (v3.setWidth 32 <<< (24 : Nat)))) := by
    apply BitVec.eq_of_getLsbD_eq
    intro i hi
    simp only [whole, List.getD_cons_zero, List.getD_cons_succ, BitVec.getLsbD_or, BitVec.getLsbD_xor, BitVec.getLsbD_shiftLeft, BitVec.getLsbD_setWidth, hi, decide_true, Bool.true_and]
    rcases (show i < 8 ∨ (8 ≤ i ∧ i < 16) ∨ (16 ≤ i ∧ i < 24) ∨ 24 ≤ i by omega) with h | ⟨h, h'⟩ | ⟨h, h'⟩ | h
    · simp [h, show i < 16 by omega, show i < 24 by omega]
    · have h1 : v0.getLsbD i = false := BitVec.getLsbD_of_ge _ _ (by omega)
      simp [h1, h', show ¬ i < 8 by omega, show i < 24 by omega]
    · have h1 : v0.getLsbD i = false := BitVec.getLsbD_of_ge _ _ (by omega)
      have h2 : v1.getLsbD (i - 8) = false := BitVec.getLsbD_of_ge _ _ (by omega)
      simp [h1, h2, h', show ¬ i < 8 by omega, show ¬ i < 16 by omega]
    · have h1 : v0.getLsbD i = false := BitVec.getLsbD_of_ge _ _ (by omega)
      have h2 : v1.getLsbD (i - 8) = false := BitVec.getLsbD_of_ge _ _ (by omega)
      have h3 : v2.getLsbD (i - 16) = false := BitVec.getLsbD_of_ge _ _ (by omega)
      simp [h1, h2, h3, show ¬ i < 8 by omega, show ¬ i < 16 by omega, show ¬ i < 24 by omega]
  have low : ∀ (v : BitVec 8) (s k : Nat), k ≤ s → s ≤ 24 → crcN k (v.setWidth 32 <<< s) = v.setWidth 32 <<< (s - k) := by
    intro v s k hk hs
    rw [crcN_low k _ (fun i hi => by rw [BitVec.getLsbD_shiftLeft]; simp; intros; omega)]
    apply BitVec.eq_of_getLsbD_eq
    intro i hi
    simp only [BitVec.getLsbD_ushiftRight, BitVec.getLsbD_shiftLeft, BitVec.getLsbD_setWidth]
    by_cases h1 : i < s - k
    · simp [h1, show k + i < s by omega]
    · by_cases h2 : k + i < 32
      · simp [h1, h2, hi, show ¬ k + i < s by omega, show k + i - s = i - (s - k) by omega]
      · have h3 : v.getLsbD (i - (s - k)) = false := BitVec.getLsbD_of_ge _ _ (by omega)
        simp [h2, h3]
  have s0 : ∀ v : BitVec 8, v.setWidth 32 <<< (8 - 8) = v.setWidth 32 := fun v => by simp
  simp only [linF_cons, show linF [] = id from rfl, id]
  rw [hw, show crcN 32 (r ^^^ (v0.setWidth 32 ^^^ ((v1.setWidth 32 <<< (8 : Nat)) ^^^ ((v2.setWidth 32 <<< (16 : Nat)) ^^^ (v3.setWidth 32 <<< (24 : Nat)))))) = crcN 8 (crcN 8 (crcN 8 (crcN 8 (r ^^^ (v0.setWidth 32 ^^^ ((v1.setWidth 32 <<< (8 : Nat)) ^^^ ((v2.setWidth 32 <<< (16 : Nat)) ^^^ (v3.setWidth 32 <<< (24 : Nat))))))))) by rw [crcN_add, crcN_add, crcN_add]]
  congr 1
  have h8 : ∀ (v : BitVec 8) (s : Nat), 8 ≤ s → s ≤ 24 → crcN 8 (v.setWidth 32 <<< s) = v.setWidth 32 <<< (s - 8) := fun v s h1 h2 => low v s 8 h1 h2
  have f1 : crcN 8 (r ^^^ (v0.setWidth 32 ^^^ ((v1.setWidth 32 <<< (8 : Nat)) ^^^ ((v2.setWidth 32 <<< (16 : Nat)) ^^^ (v3.setWidth 32 <<< (24 : Nat)))))) = crcN 8 (r ^^^ v0.setWidth 32) ^^^ (v1.setWidth 32 ^^^ ((v2.setWidth 32 <<< (8 : Nat)) ^^^ (v3.setWidth 32 <<< (16 : Nat)))) := by
    rw [← BitVec.xor_assoc r]; simp only [crcN_xor]; rw [h8 v1 8 (by omega) (by omega), h8 v2 16 (by omega) (by omega), h8 v3 24 (by omega) (by omega), s0]
  have f2 : ∀ q : BitVec 32, crcN 8 (q ^^^ (v1.setWidth 32 ^^^ ((v2.setWidth 32 <<< (8 : Nat)) ^^^ (v3.setWidth 32 <<< (16 : Nat))))) = crcN 8 (q ^^^ v1.setWidth 32) ^^^ (v2.setWidth 32 ^^^ (v3.setWidth 32 <<< (8 : Nat))) := fun q => by
    rw [← BitVec.xor_assoc q]; simp only [crcN_xor]; rw [h8 v2 8 (by omega) (by omega), h8 v3 16 (by omega) (by omega), s0]
  have f3 : ∀ q : BitVec 32, crcN 8 (q ^^^ (v2.setWidth 32 ^^^ (v3.setWidth 32 <<< (8 : Nat)))) = crcN 8 (q ^^^ v2.setWidth 32) ^^^ v3.setWidth 32 := fun q => by
    rw [← BitVec.xor_assoc q]; simp only [crcN_xor]; rw [h8 v3 8 (by omega) (by omega), s0]
  rw [f1, f2, f3]
/-- a frame whose sum is right -/
theorem sum_right {c : List (BitVec 8)} (hl : 4 ≤ c.length) (h : sumOf c = sumOk c) : crcF c = crcN 32 4294967295#32 := by
  have e : c = c.take (c.length - 4) ++ c.drop (c.length - 4) := (List.take_append_drop ..).symm
  obtain ⟨v0, v1, v2, v3, hv⟩ : ∃ v0 v1 v2 v3, c.drop (c.length - 4) = [v0, v1, v2, v3] := by
    have hd : (c.drop (c.length - 4)).length = 4 := by rw [List.length_drop]; omega
    match c.drop (c.length - 4), hd with
    | [a, b, c, d], _ => exact ⟨a, b, c, d, rfl⟩
  have h1 : crcF c = linF (c.take (c.length - 4) ++ c.drop (c.length - 4)) 4294967295#32 := by rw [← e]; rfl
  rw [h1, linF_append, hv, linF_four]
  congr 1
  have h2 : sumOf c = whole [v0, v1, v2, v3] := by rw [sumOf, hv]; rfl
  have h3 : sumOk c = 4294967295#32 ^^^ linF (c.take (c.length - 4)) 4294967295#32 := by rw [sumOk, List.drop_zero]; rfl
  rw [← h2, h, h3, BitVec.xor_comm 4294967295#32, ← BitVec.xor_assoc, BitVec.xor_self, BitVec.zero_xor]

/-! ### the orbit of one -/
def stepN (c : Nat) : Nat := Nat.xor (Nat.shiftRight c 1) (Nat.mul 3988292384 (Nat.land c 1))
theorem stepN_eq (c : BitVec 32) : (crcStep c).toNat = stepN c.toNat := by
  have h : (3988292384#32 * (c &&& 1#32)).toNat = 3988292384 * (c.toNat &&& 1) := by
    rw [BitVec.toNat_mul, BitVec.toNat_and]
    have : c.toNat &&& 1 ≤ 1 := Nat.and_le_right
    have h1 : (3988292384#32).toNat = 3988292384 := rfl
    have h2 : (1#32).toNat = 1 := rfl
    rw [h1, h2, Nat.mod_eq_of_lt]; omega
  rw [crcStep, BitVec.toNat_xor, h, BitVec.toNat_ushiftRight]; rfl
/-- a step that ends at nought where it comes to one -/
def stepG (c : Nat) : Nat := match c with
  | 0 => 0
  | n + 1 => bif Nat.beq (stepN (n + 1)) 1 then 0 else stepN (n + 1)
def runG : Nat → Nat → Nat
  | 0, c => stepG c
  | k + 1, c => match c with
    | 0 => 0
    | n + 1 => runG k (runG k (n + 1))
def itG : Nat → Nat → Nat
  | 0, c => c
  | k + 1, c => stepG (itG k c)
theorem itG_zero : ∀ k, itG k 0 = 0
  | 0 => rfl
  | k + 1 => by rw [itG, itG_zero k]; rfl
theorem itG_add (a : Nat) : ∀ (b c : Nat), itG b (itG a c) = itG (a + b) c
  | 0, _ => rfl
  | b + 1, c => by rw [itG, itG_add a b]; rfl
theorem runG_eq : ∀ (k c : Nat), runG k c = itG (2 ^ k) c
  | 0, c => rfl
  | k + 1, 0 => by rw [itG_zero]; rfl
  | k + 1, n + 1 => by
    show runG k (runG k (n + 1)) = _
    rw [runG_eq k, runG_eq k, itG_add, ← Nat.two_mul, Nat.pow_succ, Nat.mul_comm]
theorem orbit : Nat.beq (runG 14 1) 0 = false := by kernel_rfl
theorem itG_crc : ∀ j, itG j 1 = 0 ∨ (itG j 1 = (crcN j 1#32).toNat ∧ ∀ i, 0 < i → i ≤ j → crcN i 1#32 ≠ 1#32)
  | 0 => .inr ⟨rfl, fun i h h' => by omega⟩
  | j + 1 => by
    rcases itG_crc j with h | ⟨h1, h2⟩
    · exact .inl (by rw [itG, h]; rfl)
    · by_cases h0 : itG j 1 = 0
      · exact .inl (by rw [itG, h0]; rfl)
      · obtain ⟨n, hn⟩ : ∃ n, itG j 1 = n + 1 := ⟨itG j 1 - 1, by omega⟩
        have hs : stepN (n + 1) = (crcN (j + 1) 1#32).toNat := by rw [← hn, h1, ← stepN_eq]; rfl
        have hg : itG (j + 1) 1 = bif Nat.beq (stepN (n + 1)) 1 then 0 else stepN (n + 1) := by rw [itG, hn]; rfl
        cases hb : Nat.beq (stepN (n + 1)) 1
        · refine .inr ⟨by rw [hg, hb, hs]; rfl, fun i hi hj => ?_⟩
          by_cases e : i = j + 1
          · subst e; intro hc
            rw [hc] at hs; rw [hs] at hb; cases hb
          · exact h2 i hi (by omega)
        · exact .inl (by rw [hg, hb]; rfl)
theorem no_return {d : Nat} (h0 : 0 < d) (h : d ≤ 16384) : crcN d 1#32 ≠ 1#32 := by
  rcases itG_crc 16384 with h1 | ⟨_, h2⟩
  · have h3 := orbit
    rw [runG_eq, show 2 ^ 14 = 16384 from rfl, h1] at h3; cases h3
  · exact h2 d h0 h
theorem never_zero (d : Nat) : crcN d 1#32 ≠ 0#32 := fun h => by
  have := crcN_inj d (h.trans (crcN_zero d).symm)
  exact absurd this (by decide)

/-! ### bits that are turned -/
def turn (b : List (BitVec 8)) (x : Nat) : List (BitVec 8) := b.set (x / 8) (b.getD (x / 8) 0#8 ^^^ (1#8 <<< (x % 8)))
theorem turn_len (b : List (BitVec 8)) (x : Nat) : (turn b x).length = b.length := List.length_set ..
theorem crcF_turn {b : List (BitVec 8)} {x : Nat} (hx : x < 8 * b.length) : crcF (turn b x) = crcF b ^^^ crcN (8 * b.length - x) 1#32 := by
  have h := linF_set (b := b) (i := x / 8) (by omega) (1#8 <<< (x % 8)) 4294967295#32
  rw [crc_bit (by omega) (by omega), show 8 * (b.length - x / 8) - x % 8 = 8 * b.length - x by omega] at h
  exact h
theorem turn_twice {b : List (BitVec 8)} {x : Nat} (hx : x < 8 * b.length) : turn (turn b x) x = b := by
  have hi : x / 8 < b.length := by omega
  unfold turn
  rw [List.set_set]
  have h1 : (b.set (x / 8) (b.getD (x / 8) 0#8 ^^^ 1#8 <<< (x % 8))).getD (x / 8) 0#8 = b.getD (x / 8) 0#8 ^^^ 1#8 <<< (x % 8) := by simp [hi]
  rw [h1, BitVec.xor_assoc, BitVec.xor_self, BitVec.xor_zero]
  simp [hi]
theorem none_of {c : List (BitVec 8)} (h : crcF c ≠ crcN 32 4294967295#32) : opn c = none := by
  cases hc : opn c with
  | none => rfl
  | some t =>
    obtain ⟨k, n, p⟩ := t
    obtain ⟨h1, h2, _⟩ := opn_some hc
    exact absurd (sum_right (by omega) h2) h
theorem xor_eq_self {a b : BitVec 32} (h : a ^^^ b = a) : b = 0#32 := by
  have : a ^^^ (a ^^^ b) = a ^^^ a := by rw [h]
  rwa [← BitVec.xor_assoc, BitVec.xor_self, BitVec.zero_xor] at this
theorem turned1 {b : List (BitVec 8)} {t : BitVec 8 × BitVec 32 × List (BitVec 8)} {x : Nat} (hb : opn b = some t) (hx : x < 8 * b.length) : opn (turn b x) = none := by
  obtain ⟨k, n, p⟩ := t
  obtain ⟨h1, h2, _⟩ := opn_some hb
  refine none_of fun h => ?_
  rw [crcF_turn hx, ← sum_right (by omega) h2] at h
  exact never_zero _ (xor_eq_self h)
theorem turned2 {b : List (BitVec 8)} {t : BitVec 8 × BitVec 32 × List (BitVec 8)} {x y : Nat} (hb : opn b = some t) (hl : 8 * b.length ≤ 16384) (hx : x < 8 * b.length) (hy : y < 8 * b.length) (hn : x ≠ y) : opn (turn (turn b x) y) = none := by
  obtain ⟨k, n, p⟩ := t
  obtain ⟨h1, h2, _⟩ := opn_some hb
  refine none_of fun h => ?_
  rw [crcF_turn (by rw [turn_len]; exact hy), turn_len, crcF_turn hx, ← sum_right (by omega) h2, BitVec.xor_assoc] at h
  have h3 := xor_eq_self h
  have key : ∀ {u v : Nat}, u < v → v ≤ 16384 → crcN u 1#32 ^^^ crcN v 1#32 ≠ 0#32 := by
    intro u v huv hv h4
    have h5 : crcN v 1#32 = crcN u 1#32 := by
      have : crcN u 1#32 ^^^ (crcN u 1#32 ^^^ crcN v 1#32) = crcN u 1#32 ^^^ 0#32 := by rw [h4]
      rwa [← BitVec.xor_assoc, BitVec.xor_self, BitVec.zero_xor, BitVec.xor_zero] at this
    have h6 : crcN u (crcN (v - u) 1#32) = crcN u 1#32 := by rw [crcN_add, show v - u + u = v by omega, h5]
    exact no_return (by omega) (by omega) (crcN_inj u h6)
  rcases Nat.lt_or_gt_of_ne hn with h4 | h4
  · rw [BitVec.xor_comm] at h3
    exact key (by omega) (by omega) h3
  · exact key (by omega) (by omega) h3
theorem modNat (x y : BitVec 64) (m : Nat) (h0 : 0 < m) (h1 : m ≤ 1000000) (hy : y = BitVec.ofInt 64 (m : Int)) : ∃ r : Nat, (x % y).toInt = (r : Int) ∧ r < m := by
  have hm : y.toNat = m := by rw [hy, BitVec.toNat_ofInt]; omega
  have h : (x % y).toNat < m := by rw [BitVec.toNat_umod, hm]; exact Nat.mod_lt _ h0
  refine ⟨(x % y).toNat, ?_, h⟩
  rw [BitVec.toInt_eq_toNat_of_lt]; omega
theorem mul8 (m : Nat) : BitVec.ofInt 64 (m : Int) * 8#64 = BitVec.ofInt 64 ((8 * m : Nat) : Int) := by
  apply BitVec.eq_of_toNat_eq
  rw [BitVec.toNat_mul, BitVec.toNat_ofInt, BitVec.toNat_ofInt]
  simp
  omega
theorem ofInt_ne0 (m : Nat) (h0 : 0 < m) (h1 : m ≤ 1000000) : BitVec.ofInt 64 (m : Int) ≠ 0#64 := by
  intro h
  have h2 := congrArg BitVec.toNat h
  rw [BitVec.toNat_ofInt] at h2
  simp at h2; omega
end Go.Proofs.YtpmmhpgfbfehmaaDoor.Lk
