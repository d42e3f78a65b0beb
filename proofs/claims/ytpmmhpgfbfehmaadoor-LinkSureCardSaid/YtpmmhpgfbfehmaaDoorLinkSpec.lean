/- What a link's frames are, in plain Lean. -/
import Derived.Test.YtpmmhpgfbfehmaaDoorVcCut
namespace Go.Proofs.YtpmmhpgfbfehmaaDoor.Lk
open Go Go.Proofs.YtpmmhpgfbfehmaaDoor.Vc

def crcStep (c : BitVec 32) : BitVec 32 := (c >>> (1 : Nat)) ^^^ (3988292384#32 * (c &&& 1#32))
def crcN : Nat → BitVec 32 → BitVec 32
  | 0, c => c
  | k + 1, c => crcStep (crcN k c)
def crcF (l : List (BitVec 8)) : BitVec 32 := l.foldl (fun c x => crcN 8 (c ^^^ x.setWidth 32)) 4294967295#32
def crc (l : List (BitVec 8)) : BitVec 32 := 4294967295#32 ^^^ crcF l
def four (n : BitVec 32) : List (BitVec 8) := [n.setWidth 8, (n >>> (8 : Nat)).setWidth 8, (n >>> (16 : Nat)).setWidth 8, (n >>> (24 : Nat)).setWidth 8]
def whole (b : List (BitVec 8)) : BitVec 32 :=
  (((b.getD 0 0#8).setWidth 32 ||| ((b.getD 1 0#8).setWidth 32 <<< (8 : Nat))) ||| ((b.getD 2 0#8).setWidth 32 <<< (16 : Nat))) ||| ((b.getD 3 0#8).setWidth 32 <<< (24 : Nat))
def body (k : BitVec 8) (n : BitVec 32) (p : List (BitVec 8)) : List (BitVec 8) := (([] ++ [k]) ++ four n) ++ p
def sealF (k : BitVec 8) (n : BitVec 32) (p : List (BitVec 8)) : List (BitVec 8) := body k n p ++ four (crc (body k n p))
def cat (ct : Nat → List (BitVec 8)) : Nat → List (BitVec 8)
  | 0 => []
  | n + 1 => cat ct n ++ ct n
theorem crcF_take {l : List (BitVec 8)} {q : Nat} (h : q < l.length) : crcF (l.take (q + 1)) = crcN 8 (crcF (l.take q) ^^^ (l.getD q 0#8).setWidth 32) := by
  rw [List.take_succ_eq_append_getElem h]
  simp only [crcF, List.foldl_append, List.foldl_cons, List.foldl_nil]
  simp [h]
theorem crcF_all (l : List (BitVec 8)) : crcF (l.take l.length) = crcF l := by rw [List.take_length]
theorem cat_le (ct : Nat → List (BitVec 8)) : ∀ n q, q ≤ n → (cat ct q).length ≤ (cat ct n).length
  | 0, q, h => by obtain rfl : q = 0 := by omega
                  exact Nat.le_refl _
  | n + 1, q, h => by
    by_cases e : q = n + 1
    · subst e; exact Nat.le_refl _
    · have := cat_le ct n q (by omega)
      rw [cat, List.length_append]; omega
theorem cat_succ (ct : Nat → List (BitVec 8)) (n : Nat) : (cat ct (n + 1)).length = (cat ct n).length + (ct n).length := by rw [cat, List.length_append]
theorem four_len (n : BitVec 32) : (four n).length = 4 := rfl
theorem body_len (k : BitVec 8) (n : BitVec 32) (p : List (BitVec 8)) : (body k n p).length = 5 + p.length := by simp [body, four]; omega
theorem seal_len (k : BitVec 8) (n : BitVec 32) (p : List (BitVec 8)) : (sealF k n p).length = 9 + p.length := by rw [sealF, List.length_append, body_len, four_len]; omega
/-- the sum that a frame bears, the sum that it ought to bear -/
def sumOf (b : List (BitVec 8)) : BitVec 32 := whole ((b.drop (b.length - 4)).take 4)
def sumOk (b : List (BitVec 8)) : BitVec 32 := crc ((b.drop 0).take (b.length - 4))
/-- the frame whose bytes these are -/
def opn (b : List (BitVec 8)) : Option (BitVec 8 × BitVec 32 × List (BitVec 8)) :=
  if b.length < 9 ∨ sumOf b ≠ sumOk b ∨ 1 < (b.getD 0 0#8).toNat ∨ (b.getD 0 0#8 = 1#8 ∧ 9 < b.length) then none
  else some (b.getD 0 0#8, whole ((b.drop 1).take (b.length - 1)), (b.drop 5).take (b.length - 4 - 5))
theorem opn_none {b : List (BitVec 8)} (h : opn b = none) : b.length < 9 ∨ sumOf b ≠ sumOk b ∨ 1 < (b.getD 0 0#8).toNat ∨ (b.getD 0 0#8 = 1#8 ∧ 9 < b.length) := by
  simp only [opn] at h
  split at h
  · assumption
  · cases h
theorem opn_some {b p : List (BitVec 8)} {k : BitVec 8} {n : BitVec 32} (h : opn b = some (k, n, p)) :
    9 ≤ b.length ∧ sumOf b = sumOk b ∧ ¬ 1 < (b.getD 0 0#8).toNat ∧ (b.getD 0 0#8 = 1#8 → b.length ≤ 9) ∧ k = b.getD 0 0#8 ∧ n = whole ((b.drop 1).take (b.length - 1)) ∧ p = (b.drop 5).take (b.length - 4 - 5) := by
  simp only [opn] at h
  split at h
  · cases h
  · rename_i hn
    simp only [Option.some.injEq, Prod.mk.injEq] at h
    obtain ⟨h1, h2, h3⟩ := h
    refine ⟨by omega, ?_, fun h => hn (.inr (.inr (.inl h))), fun h => ?_, h1.symm, h2.symm, h3.symm⟩
    · exact Classical.byContradiction fun hx => hn (.inr (.inl hx))
    · exact Nat.le_of_not_lt fun hx => hn (.inr (.inr (.inr ⟨h, hx⟩)))
theorem whole_four (n : BitVec 32) : whole (four n) = n := by
  apply BitVec.eq_of_getLsbD_eq
  intro i hi
  simp only [whole, four, List.getD_cons_zero, List.getD_cons_succ, BitVec.getLsbD_or, BitVec.getLsbD_shiftLeft, BitVec.getLsbD_setWidth, BitVec.getLsbD_ushiftRight]
  rcases (show i < 8 ∨ (8 ≤ i ∧ i < 16) ∨ (16 ≤ i ∧ i < 24) ∨ 24 ≤ i by omega) with h | ⟨h, h'⟩ | ⟨h, h'⟩ | h
  · simp [h, show i < 16 by omega, show i < 24 by omega, hi]
  · simp [hi, h', show ¬ i < 8 by omega, show i < 24 by omega, show i - 8 < 32 by omega, show i - 8 < 8 by omega, show 8 + (i - 8) = i by omega]
  · simp [hi, h', show ¬ i < 8 by omega, show ¬ i < 16 by omega, show ¬ (i - 8 < 8) by omega, show i - 16 < 32 by omega, show i - 16 < 8 by omega, show 16 + (i - 16) = i by omega]
  · simp [hi, show ¬ i < 8 by omega, show ¬ i < 16 by omega, show ¬ i < 24 by omega, show ¬ (i - 8 < 8) by omega, show ¬ (i - 16 < 8) by omega, show i - 24 < 32 by omega, show i - 24 < 8 by omega, show 24 + (i - 24) = i by omega]
theorem whole_take {b r : List (BitVec 8)} (n : BitVec 32) (h : b = four n ++ r) : whole b = n := by
  rw [← whole_four n, h]; simp [whole, four]
theorem opn_seal (k : BitVec 8) (n : BitVec 32) (p : List (BitVec 8)) (hk : k.toNat ≤ 1) (h1 : k = 1#8 → p = []) : opn (sealF k n p) = some (k, n, p) := by
  have hl := seal_len k n p
  have hbl := body_len k n p
  have hb : sealF k n p = body k n p ++ four (crc (body k n p)) := rfl
  have hn : ¬ (sealF k n p).length < 9 := by omega
  have h4 : (sealF k n p).length - 4 = (body k n p).length := by omega
  have e1 : sumOf (sealF k n p) = crc (body k n p) := by
    unfold sumOf
    rw [h4, hb, List.drop_left]
    exact whole_take (r := []) _ (by rw [List.append_nil]; exact List.take_of_length_le (by rw [four_len]; exact Nat.le_refl _))
  have e2 : sumOk (sealF k n p) = crc (body k n p) := by
    unfold sumOk
    rw [h4, hb, List.drop_zero, List.take_left]
  have e0 : (sealF k n p).getD 0 0#8 = k := by simp [sealF, body]
  have e3 : whole (((sealF k n p).drop 1).take ((sealF k n p).length - 1)) = n := by
    rw [List.take_of_length_le (by rw [List.length_drop]; exact Nat.le_refl _)]
    exact whole_take (r := p ++ four (crc (body k n p))) n (by simp [sealF, body])
  have e4 : ((sealF k n p).drop 5).take ((sealF k n p).length - 4 - 5) = p := by
    rw [h4, hb, hbl, List.drop_append_of_le_length (by omega)]
    have : (body k n p).drop 5 = p := by simp [body, four]
    rw [this, show 5 + p.length - 5 = p.length by omega, List.take_left]
  unfold opn
  rw [e1, e2, e0, e3, e4, if_neg]
  rintro (h | h | h | ⟨h, h'⟩)
  · exact hn h
  · exact h rfl
  · omega
  · rw [hl, h1 h] at h'; simp at h'
end Go.Proofs.YtpmmhpgfbfehmaaDoor.Lk
