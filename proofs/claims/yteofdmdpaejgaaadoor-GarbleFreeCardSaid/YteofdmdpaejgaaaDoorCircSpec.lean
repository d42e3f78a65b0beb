/- Circuits on lists: no program in sight. -/
import Derived.Test.YteofdmdpaejgaaaDoorVcStruct
namespace Go.Proofs.YteofdmdpaejgaaaDoor.Circ
open Go Go.Proofs.YteofdmdpaejgaaaDoor.Vc

/-- a gate that may stand behind so many wires -/
def gokP (g : Gt) (own : Int) : Prop := 0 ≤ g.a ∧ g.a < own ∧ ((g.k = 1 ∨ g.k = 2) ∧ 0 ≤ g.b ∧ g.b < own ∨ g.k = 3 ∧ g.b = 0)
/-- a circuit -/
structure IsC (n : Int) (gs : List Gt) (os : List Int) : Prop where
  lo : 0 ≤ n
  hi : n ≤ 4096
  gates : gs.length ≤ 4096
  outs : os.length ≤ 64
  gok : ∀ i, i < gs.length → gokP (gs.getD i g0) (n + (i : Nat))
  ook : ∀ i, i < os.length → 0 ≤ os.getD i 0 ∧ os.getD i 0 < n + (gs.length : Nat)
def gval (g : Gt) (w : List Bool) : Bool :=
  if g.k = 1 then w.getD g.a.toNat false != w.getD g.b.toNat false else if g.k = 2 then w.getD g.a.toNat false && w.getD g.b.toNat false else !w.getD g.a.toNat false
def wS (gs : List Gt) (inp : List Bool) : Nat → List Bool
  | 0 => inp
  | i + 1 => wS gs inp i ++ [gval (gs.getD i g0) (wS gs inp i)]
theorem wS_len (gs : List Gt) (inp : List Bool) (i : Nat) : (wS gs inp i).length = inp.length + i := by
  induction i with
  | zero => rfl
  | succ i ih => simp [wS, ih, Nat.add_assoc]
def oS (w : List Bool) (os : List Int) : Nat → List Bool
  | 0 => []
  | i + 1 => oS w os i ++ [w.getD (os.getD i 0).toNat false]
theorem oS_len (w : List Bool) (os : List Int) (i : Nat) : (oS w os i).length = i := by
  induction i with
  | zero => rfl
  | succ i ih => simp [oS, ih]
def evalS (gs : List Gt) (os : List Int) (inp : List Bool) : List Bool := oS (wS gs inp gs.length) os os.length
theorem evalS_len (gs : List Gt) (os : List Int) (inp : List Bool) : (evalS gs os inp).length = os.length := oS_len _ _ _
def andsS (gs : List Gt) : Nat → Nat
  | 0 => 0
  | i + 1 => if (gs.getD i g0).k = 2 then andsS gs i + 1 else andsS gs i
theorem andsS_le (gs : List Gt) (i : Nat) : andsS gs i ≤ i := by
  induction i with
  | zero => exact Nat.le_refl _
  | succ i ih => simp only [andsS]; split <;> omega
/-! ### words and bits -/
def bitsS (x : BitVec 64) : Nat → List Bool
  | 0 => []
  | i + 1 => bitsS x i ++ [decide ((x >>> i) &&& 1#64 = 1#64)]
theorem bitsS_len (x : BitVec 64) (i : Nat) : (bitsS x i).length = i := by
  induction i with
  | zero => rfl
  | succ i ih => simp [bitsS, ih]
def wordS (l : List Bool) : Nat → BitVec 64
  | 0 => 0#64
  | i + 1 => if l.getD i false = true then wordS l i ||| (1#64 <<< i) else wordS l i
def wantS (l : List Bool) : Nat → BitVec 64
  | 0 => 0#64
  | i + 1 => if i < l.length ∧ l.getD i false = true then wantS l i + (1#64 <<< i) else wantS l i
theorem one_shl (i : Nat) (p : Nat) (hi : i < 64) : (1#64 <<< i).getLsbD p = decide (p = i) := by
  rw [BitVec.getLsbD_shiftLeft]
  by_cases h : p = i
  · subst h; simp [hi]
  · by_cases h2 : p < i
    · simp [h2, h]
    · have : p - i ≠ 0 := by omega
      simp [h, BitVec.getLsbD_one, this]
theorem wordS_bit (l : List Bool) (i p : Nat) (hi : i ≤ 64) : (wordS l i).getLsbD p = (decide (p < i) && l.getD p false) := by
  induction i with
  | zero => simp [wordS]
  | succ i ih =>
    have ih := ih (by omega)
    simp only [wordS]
    split
    · rename_i h
      rw [BitVec.getLsbD_or, ih, one_shl _ _ (by omega)]
      by_cases e : p = i
      · subst e; rw [h]; simp
      · by_cases f : p < i
        · simp [f, e, show p < i + 1 by omega]
        · simp [f, e, show ¬ p < i + 1 by omega]
    · rename_i h
      rw [ih]
      by_cases e : p = i
      · subst e; rw [Bool.eq_false_iff.2 h]; simp
      · by_cases f : p < i
        · simp [f, show p < i + 1 by omega]
        · simp [f, show ¬ p < i + 1 by omega]
theorem bitsS_at (x : BitVec 64) (i j : Nat) (h : j < i) : (bitsS x i).getD j false = decide ((x >>> j) &&& 1#64 = 1#64) := by
  induction i with
  | zero => omega
  | succ i ih =>
    simp only [bitsS]
    rw [List.getD_eq_getElem?_getD]
    by_cases e : j = i
    · subst e; rw [List.getElem?_append_right (by rw [bitsS_len]; exact Nat.le_refl _), bitsS_len, Nat.sub_self]; rfl
    · rw [List.getElem?_append_left (by rw [bitsS_len]; omega), ← List.getD_eq_getElem?_getD, ih (by omega)]
theorem bit_one (x : BitVec 64) (j : Nat) : decide ((x >>> j) &&& 1#64 = 1#64) = x.getLsbD j := by
  have h : (x >>> j) &&& 1#64 = BitVec.setWidth 64 (BitVec.ofBool (x.getLsbD j)) := by
    apply BitVec.eq_of_getLsbD_eq
    intro p hp
    rw [BitVec.getLsbD_and, BitVec.getLsbD_ushiftRight, BitVec.getLsbD_one, BitVec.getLsbD_setWidth, BitVec.getLsbD_ofBool]
    by_cases e : p = 0
    · subst e; simp
    · simp [e]
  rw [h]
  cases x.getLsbD j <;> decide
theorem word_bits (x : BitVec 64) : wordS (bitsS x 64) 64 = x := by
  apply BitVec.eq_of_getLsbD_eq
  intro p hp
  rw [wordS_bit _ _ _ (Nat.le_refl _), bitsS_at _ _ _ hp, bit_one]; simp [hp]
theorem want_word (l : List Bool) (i : Nat) (hi : i ≤ 64) : wantS l i = wordS l i := by
  induction i with
  | zero => rfl
  | succ i ih =>
    have ih := ih (by omega)
    simp only [wantS, wordS, ih]
    by_cases h : l.getD i false = true
    · have hl : i < l.length := by
        rcases Nat.lt_or_ge i l.length with h2 | h2
        · exact h2
        · rw [List.getD_eq_getElem?_getD, List.getElem?_eq_none h2] at h; cases h
      rw [if_pos ⟨hl, h⟩, if_pos h]
      refine BitVec.add_eq_or_of_and_eq_zero _ _ ?_
      apply BitVec.eq_of_getLsbD_eq
      intro p hp
      rw [BitVec.getLsbD_and, wordS_bit _ _ _ (by omega), one_shl _ _ (by omega)]
      by_cases e : p = i
      · subst e; simp
      · simp [e]
    · rw [if_neg (fun x => h x.2), if_neg h]
/-- of a list that ends before the last place the further bits are 0 -/
theorem word_min (l : List Bool) (i d : Nat) (h : l.length ≤ i) : wordS l (i + d) = wordS l i := by
  induction d with
  | zero => rfl
  | succ d ih =>
    rw [← Nat.add_assoc, wordS, if_neg, ih]
    rw [List.getD_eq_getElem?_getD, List.getElem?_eq_none (by omega)]; simp
theorem word_to (l : List Bool) : wordS l (min l.length 64) = wordS l 64 := by
  by_cases h : l.length ≤ 64
  · rw [Nat.min_eq_left h]
    have := word_min l l.length (64 - l.length) (Nat.le_refl _)
    rw [show l.length + (64 - l.length) = 64 by omega] at this
    exact this.symm
  · rw [Nat.min_eq_right (by omega)]
theorem and_one (y : BitVec 64) : y &&& 1#64 = y % 2#64 := by
  apply BitVec.eq_of_toNat_eq
  rw [BitVec.toNat_and, BitVec.toNat_umod]
  show y.toNat &&& 1 = y.toNat % 2
  exact Nat.and_one_is_mod _
theorem bits_ref (x : BitVec 64) (i : Nat) (h : i < 64) : (bitsS x 64).getD i false = decide ((x >>> i) % 2#64 = 1#64) := by
  rw [bitsS_at _ _ _ h, and_one]
/-! ### the document's example -/
theorem awake_is : IsC 2 [⟨2, 0, 1⟩, ⟨3, 2, 0⟩] [3] := by
  refine ⟨by decide, by decide, by decide, by decide, fun i hi => ?_, fun i hi => ?_⟩
  · have hi' : i < 2 := hi
    have h : i = 0 ∨ i = 1 := by omega
    rcases h with rfl | rfl <;> (unfold gokP; decide)
  · have hi' : i < 1 := hi
    have h : i = 0 := by omega
    subst h; decide
theorem awake_isnt : ¬ IsC 0 [] [0] := fun h => by
  have := (h.ook 0 (by decide)).2
  revert this; decide
theorem take_snoc (gs : List Gt) (i : Nat) (h : i < gs.length) : gs.take i ++ [gs.getD i g0] = gs.take (i + 1) := by
  rw [List.take_add_one, List.getD_eq_getElem?_getD, List.getElem?_eq_getElem h]; rfl
theorem own_take {α : Type} (l : List α) (k : Nat) : [] ++ (l.drop 0).take (min l.length k) = l.take k := by
  rw [List.nil_append, List.drop_zero]
  by_cases h : l.length ≤ k
  · rw [Nat.min_eq_left h, List.take_length, List.take_of_length_le h]
  · rw [Nat.min_eq_right (by omega)]
/-! ### outs that are turned by further gates -/
def turnS (f : Int → Gt) (gs : List Gt) (ol : List Int) : Nat → List Gt
  | 0 => gs
  | i + 1 => turnS f gs ol i ++ [f (ol.getD i 0)]
theorem turnS_len (f : Int → Gt) (gs : List Gt) (ol : List Int) (i : Nat) : (turnS f gs ol i).length = gs.length + i := by
  induction i with
  | zero => rfl
  | succ i ih => simp [turnS, ih, Nat.add_assoc]
def setO (n : Int) (G : Nat) (ol : List Int) : Nat → List Int
  | 0 => ol
  | i + 1 => (setO n G ol i).set i (n + ((G + i : Nat) : Int))
theorem setO_len (n : Int) (G : Nat) (ol : List Int) (i : Nat) : (setO n G ol i).length = ol.length := by
  induction i with
  | zero => rfl
  | succ i ih => simp [setO, ih]
theorem setO_at (n : Int) (G : Nat) (ol : List Int) (i j : Nat) (hi : i ≤ ol.length) (hj : j < i) : (setO n G ol i).getD j 0 = n + ((G + j : Nat) : Int) := by
  induction i with
  | zero => omega
  | succ i ih =>
    rw [setO, List.getD_eq_getElem?_getD]
    by_cases e : j = i
    · subst e; rw [List.getElem?_set_self (by rw [setO_len]; omega)]; rfl
    · rw [List.getElem?_set_ne (fun h => e h.symm), ← List.getD_eq_getElem?_getD]; exact ih (by omega) (by omega)
theorem turnS_lo (f : Int → Gt) (gs : List Gt) (ol : List Int) (i j : Nat) (hj : j < gs.length) : (turnS f gs ol i).getD j g0 = gs.getD j g0 := by
  induction i with
  | zero => rfl
  | succ i ih => rw [turnS, List.getD_eq_getElem?_getD, List.getElem?_append_left (by rw [turnS_len]; omega), ← List.getD_eq_getElem?_getD, ih]
theorem turnS_hi (f : Int → Gt) (gs : List Gt) (ol : List Int) (i j : Nat) (hj : j < i) : (turnS f gs ol i).getD (gs.length + j) g0 = f (ol.getD j 0) := by
  induction i with
  | zero => omega
  | succ i ih =>
    rw [turnS, List.getD_eq_getElem?_getD]
    by_cases e : j = i
    · subst e; rw [List.getElem?_append_right (by rw [turnS_len]; exact Nat.le_refl _), turnS_len, Nat.sub_self]; rfl
    · rw [List.getElem?_append_left (by rw [turnS_len]; omega), ← List.getD_eq_getElem?_getD, ih (by omega)]
theorem turn_isC (f : Int → Gt) {n : Int} {gs : List Gt} {ol : List Int} (h : IsC n gs ol) (hg : gs.length ≤ 3000) (hf : ∀ o own, 0 ≤ o → o < own → gokP (f o) own) :
    IsC n (turnS f gs ol ol.length) (setO n gs.length ol ol.length) := by
  have h64 := h.outs
  refine ⟨h.lo, h.hi, by rw [turnS_len]; omega, by rw [setO_len]; omega, fun i hi => ?_, fun i hi => ?_⟩
  · rw [turnS_len] at hi
    by_cases e : i < gs.length
    · rw [turnS_lo _ _ _ _ _ e]; exact h.gok i e
    · obtain ⟨j, rfl⟩ : ∃ j, i = gs.length + j := ⟨i - gs.length, by omega⟩
      rw [turnS_hi _ _ _ _ _ (by omega)]
      obtain ⟨h1, h2⟩ := h.ook j (by omega)
      exact hf _ _ h1 (by omega)
  · rw [setO_len] at hi
    rw [setO_at _ _ _ _ _ (Nat.le_refl _) hi, turnS_len]
    have := h.lo
    constructor <;> omega
/-- wires that are there stay -/
theorem wS_keep (gs : List Gt) (inp : List Bool) (i d p : Nat) (hp : p < inp.length + i) : (wS gs inp (i + d)).getD p false = (wS gs inp i).getD p false := by
  induction d with
  | zero => rfl
  | succ d ih =>
    rw [← Nat.add_assoc, wS, List.getD_eq_getElem?_getD, List.getElem?_append_left (by rw [wS_len]; omega), ← List.getD_eq_getElem?_getD, ih]
theorem wS_turn (f : Int → Gt) (gs : List Gt) (ol : List Int) (inp : List Bool) (k i : Nat) (hi : i ≤ gs.length) : wS (turnS f gs ol k) inp i = wS gs inp i := by
  induction i with
  | zero => rfl
  | succ i ih => rw [wS, wS, ih (by omega), turnS_lo _ _ _ _ _ (by omega)]
theorem wS_own (gs : List Gt) (inp : List Bool) (i : Nat) : (wS gs inp (i + 1)).getD (inp.length + i) false = gval (gs.getD i g0) (wS gs inp i) := by
  rw [wS, List.getD_eq_getElem?_getD, List.getElem?_append_right (by rw [wS_len]; exact Nat.le_refl _), wS_len, Nat.sub_self]; rfl
theorem oS_at (w : List Bool) (os : List Int) (i j : Nat) (hj : j < i) : (oS w os i).getD j false = w.getD (os.getD j 0).toNat false := by
  induction i with
  | zero => omega
  | succ i ih =>
    rw [oS, List.getD_eq_getElem?_getD]
    by_cases e : j = i
    · subst e; rw [List.getElem?_append_right (by rw [oS_len]; exact Nat.le_refl _), oS_len, Nat.sub_self]; rfl
    · rw [List.getElem?_append_left (by rw [oS_len]; omega), ← List.getD_eq_getElem?_getD, ih (by omega)]
/-- what a turned out answers: the gate's value of wires that are there -/
theorem turn_eval (f : Int → Gt) {n : Int} {gs : List Gt} {ol : List Int} (h : IsC n gs ol) (inp : List Bool) (hn : (inp.length : Int) = n) (j : Nat) (hj : j < ol.length)
    (F : Bool → Bool) (hF : ∀ o (w : List Bool), gval (f o) w = F (w.getD o.toNat false)) :
    (evalS (turnS f gs ol ol.length) (setO n gs.length ol ol.length) inp).getD j false = F ((evalS gs ol inp).getD j false) := by
  obtain ⟨h1, h2⟩ := h.ook j hj
  have hp : (ol.getD j 0).toNat < inp.length + gs.length := by omega
  unfold evalS
  rw [setO_len, oS_at _ _ _ _ hj, oS_at _ _ _ _ hj, setO_at _ _ _ _ _ (Nat.le_refl _) hj, turnS_len]
  rw [show (n + ((gs.length + j : Nat) : Int)).toNat = inp.length + (gs.length + j) by omega, show gs.length + ol.length = (gs.length + j + 1) + (ol.length - j - 1) by omega,
    wS_keep _ _ _ _ _ (by omega), wS_own, turnS_hi _ _ _ _ _ hj, hF, wS_keep _ _ _ _ _ hp, wS_turn _ _ _ _ _ _ (Nat.le_refl _)]
theorem turn_ands (f : Int → Gt) (gs : List Gt) (ol : List Int) (hf : ∀ o, (f o).k ≠ 2) (k : Nat) : andsS (turnS f gs ol k) (turnS f gs ol k).length = andsS gs gs.length := by
  have h1 : ∀ i, i ≤ gs.length → andsS (turnS f gs ol k) i = andsS gs i := by
    intro i hi
    induction i with
    | zero => rfl
    | succ i ih => simp only [andsS]; rw [turnS_lo _ _ _ _ _ (by omega), ih (by omega)]
  have h2 : ∀ i, i ≤ k → andsS (turnS f gs ol k) (gs.length + i) = andsS gs gs.length := by
    intro i hi
    induction i with
    | zero => exact h1 _ (Nat.le_refl _)
    | succ i ih => rw [← Nat.add_assoc, andsS, turnS_hi _ _ _ _ _ (by omega), if_neg (hf _), ih (by omega)]
  rw [turnS_len]
  exact h2 k (Nat.le_refl _)
def notG (o : Int) : Gt := ⟨3, o, 0⟩
def xorG (o : Int) : Gt := ⟨1, o, o⟩
theorem notG_ok (o own : Int) (h1 : 0 ≤ o) (h2 : o < own) : gokP (notG o) own := ⟨h1, h2, .inr ⟨rfl, rfl⟩⟩
theorem xorG_ok (o own : Int) (h1 : 0 ≤ o) (h2 : o < own) : gokP (xorG o) own := ⟨h1, h2, .inl ⟨.inl rfl, h1, h2⟩⟩
theorem notG_val (o : Int) (w : List Bool) : gval (notG o) w = !(w.getD o.toNat false) := rfl
theorem xorG_val (o : Int) (w : List Bool) : gval (xorG o) w = false := by
  show (w.getD o.toNat false != w.getD o.toNat false) = false
  cases w.getD o.toNat false <;> rfl
theorem turn_not {n : Int} {gs : List Gt} {ol : List Int} (h : IsC n gs ol) (inp : List Bool) (hn : (inp.length : Int) = n) (j : Nat) (hj : j < ol.length) :
    ((evalS (turnS notG gs ol ol.length) (setO n gs.length ol ol.length) inp).getD j false == (evalS gs ol inp).getD j false) = false := by
  rw [turn_eval notG h inp hn j hj not notG_val]
  cases (evalS gs ol inp).getD j false <;> rfl
theorem turn_xor {n : Int} {gs : List Gt} {ol : List Int} (h : IsC n gs ol) (inp : List Bool) (hn : (inp.length : Int) = n) (j : Nat) (hj : j < ol.length) :
    (evalS (turnS xorG gs ol ol.length) (setO n gs.length ol ol.length) inp).getD j false = false :=
  turn_eval xorG h inp hn j hj (fun _ => false) xorG_val
end Go.Proofs.YteofdmdpaejgaaaDoor.Circ
