/- Plain words of lists for the laws of the nets. -/
import Derived.Test.YtpmmhpgfbfehmaaDoorVcNet
namespace Go.Proofs.YtpmmhpgfbfehmaaDoor.Nt
open Go Go.Proofs.YtpmmhpgfbfehmaaDoor.Vc

theorem way_bool (way : Int) : ∃ k : Bool, (BitVec.ofInt 64 way % 2#64).toInt = wI k := by
  have h : (BitVec.ofInt 64 way % 2#64).toNat < 2 := by
    rw [BitVec.toNat_umod]; exact Nat.mod_lt _ (by decide)
  have h2 : (BitVec.ofInt 64 way % 2#64).toInt = ((BitVec.ofInt 64 way % 2#64).toNat : Int) := by
    rw [BitVec.toInt_eq_toNat_of_lt]; omega
  rw [h2]
  rcases (show (BitVec.ofInt 64 way % 2#64).toNat = 0 ∨ (BitVec.ofInt 64 way % 2#64).toNat = 1 by omega) with e | e
  · exact ⟨false, by rw [e]; rfl⟩
  · exact ⟨true, by rw [e]; rfl⟩
theorem mod_nat (x : BitVec 64) (m : Nat) (h0 : 0 < m) (h1 : m ≤ 64) (y : BitVec 64) (hy : y = BitVec.ofInt 64 (m : Int)) : ∃ r : Nat, (x % y).toInt = (r : Int) ∧ r < m := by
  have hm : y.toNat = m := by
    rw [hy, BitVec.toNat_ofInt]; omega
  have h : (x % y).toNat < m := by
    rw [BitVec.toNat_umod, hm]; exact Nat.mod_lt _ h0
  refine ⟨(x % y).toNat, ?_, h⟩
  rw [BitVec.toInt_eq_toNat_of_lt]; omega
theorem ofInt_ne (m : Nat) (h0 : 0 < m) (h1 : m ≤ 64) : BitVec.ofInt 64 (m : Int) ≠ 0#64 := by
  intro h
  have h2 := congrArg BitVec.toNat h
  rw [BitVec.toNat_ofInt] at h2
  simp at h2; omega
theorem wI_not (k : Bool) : (1 : Int) - wI k = wI (!k) := by cases k <;> rfl
/-- those from i on, but for r -/
def remL (cont : Nat → List (BitVec 8)) (r K i : Nat) : List (List (BitVec 8)) := ((List.range' i (K - i)).filter (· != r)).map cont
section
variable {cont : Nat → List (BitVec 8)} {r K i : Nat}
theorem range'_step (h : i < K) : List.range' i (K - i) = i :: List.range' (i + 1) (K - (i + 1)) := by
  rw [show K - i = K - (i + 1) + 1 by omega, List.range'_succ]
theorem remL_skip (h : i < K) (e : i = r) : remL cont r K i = remL cont r K (i + 1) := by
  rw [remL, range'_step h, List.filter_cons, if_neg (by simp [e])]; rfl
theorem remL_cons (h : i < K) (e : i ≠ r) : remL cont r K i = cont i :: remL cont r K (i + 1) := by
  simp [remL, range'_step h, e]
theorem remL_end : remL cont r K K = [] := by simp [remL]
theorem remL_len : (remL cont r K i).length ≤ K - i := by
  rw [remL, List.length_map]
  exact Nat.le_trans (List.length_filter_le _ _) (by rw [List.length_range']; exact Nat.le_refl _)
theorem erase_filter : ∀ (n s r : Nat), r < n → (List.range' s n).eraseIdx r = (List.range' s n).filter (· != s + r)
  | 0, _, _, h => absurd h (Nat.not_lt_zero _)
  | n + 1, s, 0, _ => by
    rw [List.range'_succ, List.eraseIdx_cons_zero, List.filter_cons]
    simp only [Nat.add_zero, bne_self_eq_false, Bool.false_eq_true, if_false]
    refine (List.filter_eq_self.2 fun x hx => ?_).symm
    have := (List.mem_range'_1.1 hx).1
    simp; omega
  | n + 1, s, r + 1, h => by
    rw [List.range'_succ, List.eraseIdx_cons_succ, erase_filter n (s + 1) r (by omega), List.filter_cons]
    have e : (s != s + (r + 1)) = true := by simp
    rw [if_pos e, show s + 1 + r = s + (r + 1) by omega]
theorem remL_start (h : r < K) : ((List.range K).map cont).eraseIdx r = remL cont r K 0 := by
  have e : ((List.range K).map cont).eraseIdx r = ((List.range K).eraseIdx r).map cont := by rw [List.eraseIdx_eq_take_drop_succ, List.eraseIdx_eq_take_drop_succ, List.map_append, List.map_take, List.map_drop]
  rw [e, List.range_eq_range', erase_filter K 0 r h, remL]; simp
end
theorem getD_mem {α : Type} {l : List α} {i : Nat} {d : α} (h : i < l.length) : l.getD i d ∈ l := by
  have e : l.getD i d = l[i] := by simp [h]
  rw [e]; exact List.getElem_mem h
theorem erase_rep {α : Type} (a : α) (n r : Nat) (h : r < n + 1) : (List.replicate (n + 1) a).eraseIdx r = List.replicate n a := by
  rw [List.eraseIdx_replicate]; simp [h]
end Go.Proofs.YtpmmhpgfbfehmaaDoor.Nt
