/- Garbled circuits, in plain Lean: what is evaluated is right. -/
import Derived.Test.YteofdmdpaejgaaaDoorGarbTwo
namespace Go.Proofs.YteofdmdpaejgaaaDoor.Gb
open Go Go.Proofs.YteofdmdpaejgaaaDoor.Vc Go.Proofs.YteofdmdpaejgaaaDoor.Circ

/-! ### labels, bit by bit -/
theorem lb_ext {a b : Lb} (h1 : ∀ i, a.1.getLsbD i = b.1.getLsbD i) (h2 : ∀ i, a.2.getLsbD i = b.2.getLsbD i) : a = b :=
  Prod.ext (BitVec.eq_of_getLsbD_eq fun i _ => h1 i) (BitVec.eq_of_getLsbD_eq fun i _ => h2 i)
theorem lw_b1 (c : Bool) (a : Lb) (i : Nat) : (lw c a).1.getLsbD i = (c && a.1.getLsbD i) := by cases c <;> simp [lw, lb0]
theorem lw_b2 (c : Bool) (a : Lb) (i : Nat) : (lw c a).2.getLsbD i = (c && a.2.getLsbD i) := by cases c <;> simp [lw, lb0]
theorem lx_b1 (a b : Lb) (i : Nat) : (lx a b).1.getLsbD i = (a.1.getLsbD i ^^ b.1.getLsbD i) := by simp [lx]
theorem lx_b2 (a b : Lb) (i : Nat) : (lx a b).2.getLsbD i = (a.2.getLsbD i ^^ b.2.getLsbD i) := by simp [lx]
theorem lb0_b1 (i : Nat) : lb0.1.getLsbD i = false := by simp [lb0]
theorem lb0_b2 (i : Nat) : lb0.2.getLsbD i = false := by simp [lb0]
theorem lsum3 (a b c : Lb) : lsum [a, b, c] = lx (lx (lx lb0 a) b) c := rfl
theorem lsum4 (a b c d : Lb) : lsum [a, b, c, d] = lx (lx (lx (lx lb0 a) b) c) d := rfl
theorem col_bit (a : Lb) : col a = a.1.getLsbD 0 := by
  have h := bit_one a.1 0
  rw [BitVec.ushiftRight_zero] at h
  exact h
theorem col_lx (a d : Lb) (hd : col d = true) : col (lx a d) = !col a := by
  rw [col_bit] at hd ⊢
  rw [col_bit, lx_b1, hd]
  cases a.1.getLsbD 0 <;> rfl
theorem lw_false (a : Lb) : lw false a = lb0 := rfl
theorem lw_true (a : Lb) : lw true a = a := rfl
section
variable {h : Lb → BitVec 64 → Lb} {δ : Lb} {first : BitVec 64} {gs : List Gt} {zs ls : List Lb} {bits : List Bool}
/-- half gates: what is evaluated of two labels is the label of their And -/
theorem half (hd : col δ = true) (a b : Lb) (s : BitVec 64) (va vb : Bool) :
    outG h (lx a (lw va δ)) (lx b (lw vb δ)) (tabX h δ a b s) (tabY h δ a b s) s = lx (outG h a b (tabX h δ a b s) (tabY h δ a b s) s) (lw (va && vb) δ) := by
  cases va <;> cases vb <;> simp only [lw_false, lw_true, lx_zero_r, Bool.and_self, Bool.and_false, Bool.and_true, outG, tabX, tabY, lsum3, lsum4, col_lx _ _ hd]
  all_goals
    apply lb_ext <;> intro i
    all_goals
      simp only [lx_b1, lx_b2, lw_b1, lw_b2, lb0_b1, lb0_b2]
      first
        | (generalize (h a s).1.getLsbD i = x1; generalize (h b (s + 1#64)).1.getLsbD i = x2; generalize (h (lx a δ) s).1.getLsbD i = x3; generalize (h (lx b δ) (s + 1#64)).1.getLsbD i = x4
           generalize a.1.getLsbD i = x5; generalize δ.1.getLsbD i = x7; generalize col a = x8; generalize col b = x9; revert x1 x2 x3 x4 x5 x7 x8 x9; decide)
        | (generalize (h a s).2.getLsbD i = x1; generalize (h b (s + 1#64)).2.getLsbD i = x2; generalize (h (lx a δ) s).2.getLsbD i = x3; generalize (h (lx b δ) (s + 1#64)).2.getLsbD i = x4
           generalize a.2.getLsbD i = x5; generalize δ.2.getLsbD i = x7; generalize col a = x8; generalize col b = x9; revert x1 x2 x3 x4 x5 x7 x8 x9; decide)
/-! ### the tables grow -/
theorem gS_pre (i d : Nat) : ∃ t, (gS h δ first gs zs (i + d)).2 = (gS h δ first gs zs i).2 ++ t := by
  induction d with
  | zero => exact ⟨[], (List.append_nil _).symm⟩
  | succ d ih =>
    obtain ⟨t, ht⟩ := ih
    rw [← Nat.add_assoc, gS, gstep]
    split
    · exact ⟨t, ht⟩
    · split
      · exact ⟨t, ht⟩
      · exact ⟨_, (congrArg (· ++ _) ht).trans (List.append_assoc _ _ _)⟩
theorem gS_tab_at (i : Nat) (hi : i ≤ gs.length) (j : Nat) (hj : j < (gS h δ first gs zs i).2.length) : (gS h δ first gs zs gs.length).2.getD j lb0 = (gS h δ first gs zs i).2.getD j lb0 := by
  obtain ⟨t, ht⟩ := gS_pre (h := h) (δ := δ) (first := first) (gs := gs) (zs := zs) i (gs.length - i)
  rw [show i + (gs.length - i) = gs.length by omega] at ht
  rw [ht, List.getD_eq_getElem?_getD, List.getElem?_append_left hj, ← List.getD_eq_getElem?_getD]
theorem getD_app_lo {α : Type} (l m : List α) (j : Nat) (z : α) (hj : j < l.length) : (l ++ m).getD j z = l.getD j z := by
  rw [List.getD_eq_getElem?_getD, List.getElem?_append_left hj, ← List.getD_eq_getElem?_getD]
theorem getD_app_hi {α : Type} (l : List α) (a z : α) (j : Nat) (hj : j = l.length) : (l ++ [a]).getD j z = a := by
  subst hj
  rw [List.getD_eq_getElem?_getD, List.getElem?_append_right (Nat.le_refl _), Nat.sub_self]; rfl
/-- the labels of the wires: the zero labels, with delta where the bit is 1 -/
theorem wires_right (hd : col δ = true) (hz : ls.length = zs.length) (hb : bits.length = zs.length) (hg : ∀ i, i < gs.length → gokP (gs.getD i g0) ((zs.length : Nat) + (i : Nat)))
    (hl : ∀ j, j < zs.length → ls.getD j lb0 = lx (zs.getD j lb0) (lw (bits.getD j false) δ)) (i : Nat) (hi : i ≤ gs.length) (j : Nat) (hj : j < zs.length + i) :
    (eS h first gs (gS h δ first gs zs gs.length).2 ls i).1.getD j lb0 = lx ((gS h δ first gs zs i).1.getD j lb0) (lw ((wS gs bits i).getD j false) δ) := by
  induction i generalizing j with
  | zero => exact hl j hj
  | succ i ih =>
    have ih := ih (by omega)
    have hgi := hg i (by omega)
    have l1 := eS_len (h := h) (first := first) (gs := gs) (tb := (gS h δ first gs zs gs.length).2) (ls := ls) i
    have l2 := gS_len (h := h) (δ := δ) (first := first) (gs := gs) (zs := zs) i
    have l3 := wS_len gs bits i
    have hka : ∀ q, q < gs.length → (gs.getD q g0).k = 1 ∨ (gs.getD q g0).k = 2 ∨ (gs.getD q g0).k = 3 := fun q hq => by
      have := hg q hq; unfold gokP at this; omega
    unfold gokP at hgi
    by_cases e : j = zs.length + i
    · subst e
      have ia := ih (gs.getD i g0).a.toNat (by omega)
      rw [eS, gS, wS, estep, gstep, gval]
      by_cases k1 : (gs.getD i g0).k = 1
      · have ib := ih (gs.getD i g0).b.toNat (by omega)
        rw [if_pos k1, if_neg (by omega), if_pos k1, if_pos k1, getD_app_hi _ _ _ _ (by omega), getD_app_hi _ _ _ _ (by omega), getD_app_hi _ _ _ _ (by omega), ia, ib]
        cases (wS gs bits i).getD (gs.getD i g0).a.toNat false <;> cases (wS gs bits i).getD (gs.getD i g0).b.toNat false <;> simp only [lw_false, lw_true, lx_zero_r, bne_self_eq_false, Bool.true_bne, Bool.false_bne, Bool.not_false]
        · rw [lx_assoc]
        · rw [lx_assoc, lx_comm δ, lx_assoc]
        · rw [lx_assoc, lx_comm δ, lx_assoc, lx_self, lx_zero_r]
      · by_cases k2 : (gs.getD i g0).k = 2
        · have ib := ih (gs.getD i g0).b.toNat (by omega)
          have hn := eS_next (h := h) (first := first) (gs := gs) (tb := (gS h δ first gs zs gs.length).2) (ls := ls) i
          have ht := gS_ands (h := h) (δ := δ) (first := first) (gs := gs) (zs := zs) hka i (by omega)
          have hlen : (gS h δ first gs zs (i + 1)).2.length = (gS h δ first gs zs i).2.length + 2 := by rw [gS, (gstep_len _ _).2, if_neg (by omega), if_neg k1]
          have hx := gS_tab_at (h := h) (δ := δ) (first := first) (gs := gs) (zs := zs) (i + 1) (by omega) (gS h δ first gs zs i).2.length (by omega)
          have hy := gS_tab_at (h := h) (δ := δ) (first := first) (gs := gs) (zs := zs) (i + 1) (by omega) ((gS h δ first gs zs i).2.length + 1) (by omega)
          rw [gS, gstep, if_neg (by omega), if_neg k1] at hx hy
          rw [if_neg k1, if_pos k2, if_neg (by omega), if_neg k1, if_neg k1, if_pos k2, getD_app_hi _ _ _ _ (by omega), getD_app_hi _ _ _ _ (by omega), getD_app_hi _ _ _ _ (by omega), ia, ib, hn, ← ht, hx, hy]
          have gx : ∀ (l : List Lb) (a b : Lb), (l ++ [a, b]).getD l.length lb0 = a := fun l a b => by
            rw [List.getD_eq_getElem?_getD, List.getElem?_append_right (Nat.le_refl _), Nat.sub_self]; rfl
          have gy : ∀ (l : List Lb) (a b : Lb), (l ++ [a, b]).getD (l.length + 1) lb0 = b := fun l a b => by
            rw [List.getD_eq_getElem?_getD, List.getElem?_append_right (by omega), Nat.add_sub_cancel_left]; rfl
          simp only [gx, gy]
          exact half hd _ _ _ _ _
        · have k3 : (gs.getD i g0).k = 3 := by omega
          rw [if_neg k1, if_neg k2, if_pos k3, if_neg k1, if_neg k2, getD_app_hi _ _ _ _ (by omega), getD_app_hi _ _ _ _ (by omega), getD_app_hi _ _ _ _ (by omega), ia]
          cases (wS gs bits i).getD (gs.getD i g0).a.toNat false <;> simp only [lw_false, lw_true, lx_zero_r, Bool.not_false, Bool.not_true]
          rw [lx_assoc, lx_self, lx_zero_r]
    · have hj' : j < zs.length + i := by omega
      have ij := ih j hj'
      have e1 : (eS h first gs (gS h δ first gs zs gs.length).2 ls (i + 1)).1.getD j lb0 = (eS h first gs (gS h δ first gs zs gs.length).2 ls i).1.getD j lb0 := by
        rw [eS]; unfold estep
        split
        · exact getD_app_lo _ _ _ _ (by omega)
        · split <;> exact getD_app_lo _ _ _ _ (by omega)
      have e2 : (gS h δ first gs zs (i + 1)).1.getD j lb0 = (gS h δ first gs zs i).1.getD j lb0 := by
        rw [gS]; unfold gstep
        split
        · exact getD_app_lo _ _ _ _ (by omega)
        · split <;> exact getD_app_lo _ _ _ _ (by omega)
      have e3 : (wS gs bits (i + 1)).getD j false = (wS gs bits i).getD j false := by
        rw [wS]; exact getD_app_lo _ _ _ _ (by omega)
      rw [e1, e2, e3, ij]
theorem oL_at (w : List Lb) (os : List Int) (i j : Nat) (hj : j < i) : (oL w os i).getD j lb0 = w.getD (os.getD j 0).toNat lb0 := by
  induction i with
  | zero => omega
  | succ i ih =>
    rw [oL]
    by_cases e : j = i
    · subst e; exact getD_app_hi _ _ _ _ (oL_len _ _ _).symm
    · rw [getD_app_lo _ _ _ _ (by rw [oL_len]; omega)]; exact ih (by omega)
theorem oS_at (w : List Bool) (os : List Int) (i j : Nat) (hj : j < i) : (oS w os i).getD j false = w.getD (os.getD j 0).toNat false := by
  induction i with
  | zero => omega
  | succ i ih =>
    rw [oS]
    by_cases e : j = i
    · subst e; exact getD_app_hi _ _ _ _ (oS_len _ _ _).symm
    · rw [getD_app_lo _ _ _ _ (by rw [oS_len]; omega)]; exact ih (by omega)
/-- the outs' labels -/
theorem outs_right {os : List Int} (hd : col δ = true) (hz : ls.length = zs.length) (hb : bits.length = zs.length) (hg : IsC (zs.length : Nat) gs os)
    (hl : ∀ j, j < zs.length → ls.getD j lb0 = lx (zs.getD j lb0) (lw (bits.getD j false) δ)) (q : Nat) (hq : q < os.length) :
    (oL (eS h first gs (gS h δ first gs zs gs.length).2 ls gs.length).1 os os.length).getD q lb0 = lx ((oL (gS h δ first gs zs gs.length).1 os os.length).getD q lb0) (lw ((evalS gs os bits).getD q false) δ) := by
  have ho := hg.ook q hq
  rw [oL_at _ _ _ _ hq, oL_at _ _ _ _ hq, evalS, oS_at _ _ _ _ hq]
  exact wires_right hd hz hb hg.gok hl gs.length (Nat.le_refl _) _ (by omega)
/-! ### without And -/
theorem gS_free {first' : BitVec 64} (i : Nat) (hk : ∀ j, j < i → (gs.getD j g0).k = 1 ∨ (gs.getD j g0).k = 3) : gS h δ first gs zs i = gS h δ first' gs zs i ∧ (gS h δ first gs zs i).2 = [] := by
  induction i with
  | zero => exact ⟨rfl, rfl⟩
  | succ i ih =>
    obtain ⟨h1, h2⟩ := ih fun j hj => hk j (by omega)
    rw [gS, gS, ← h1, gstep, gstep]
    rcases hk i (by omega) with e | e
    · rw [if_neg (by omega), if_pos e, if_neg (by omega), if_pos e]; exact ⟨rfl, h2⟩
    · rw [if_pos e, if_pos e]; exact ⟨rfl, h2⟩
theorem ands_free (i : Nat) (hk : ∀ j, j < i → (gs.getD j g0).k ≠ 2) : andsS gs i = 0 := by
  induction i with
  | zero => rfl
  | succ i ih => rw [andsS, if_neg (hk i (by omega))]; exact ih fun j hj => hk j (by omega)
end
/-- each And made a Xor -/
def frL (gs : List Gt) : Nat → List Gt
  | 0 => gs
  | q + 1 => if ((frL gs q).getD q g0).k = 2 then (frL gs q).set q ⟨1, ((frL gs q).getD q g0).a, ((frL gs q).getD q g0).b⟩ else frL gs q
theorem frL_len (gs : List Gt) (q : Nat) : (frL gs q).length = gs.length := by
  induction q with
  | zero => rfl
  | succ q ih => rw [frL]; split <;> simp [ih]
theorem frL_no (gs : List Gt) (q : Nat) (hq : q ≤ gs.length) (j : Nat) (hj : j < q) : ((frL gs q).getD j g0).k ≠ 2 := by
  induction q with
  | zero => omega
  | succ q ih =>
    have ih := ih (by omega)
    have hl := frL_len gs q
    rw [frL]
    by_cases e : j = q
    · subst e
      split
      · rw [List.getD_eq_getElem?_getD, List.getElem?_set_self (by omega)]; show (1 : Int) ≠ 2; decide
      · rename_i hne; exact hne
    · split
      · rw [List.getD_eq_getElem?_getD, List.getElem?_set_ne (by omega), ← List.getD_eq_getElem?_getD]; exact ih (by omega)
      · exact ih (by omega)
/-- the zero labels of a law: those that lack are made of the places -/
def zmk (i : Nat) : Lb := (BitVec.ofInt 64 (i : Int) * 77#64, BitVec.ofInt 64 (i : Int) * 1000003#64)
def zS (l : List Lb) : Nat → List Lb
  | 0 => l
  | i + 1 => zS l i ++ [zmk (l.length + i)]
theorem zS_len (l : List Lb) (i : Nat) : (zS l i).length = l.length + i := by
  induction i with
  | zero => rfl
  | succ i ih => simp [zS, ih, Nat.add_assoc]
def zerosS (zs : List Lb) (n : Nat) : List Lb := zS (zs.take (min zs.length n)) (n - min zs.length n)
theorem zerosS_len (zs : List Lb) (n : Nat) : (zerosS zs n).length = n := by
  rw [zerosS, zS_len, List.length_take]; omega
theorem col_or (x y : BitVec 64) : col (x ||| 1#64, y) = true := by rw [col_bit]; simp
theorem free_same {h : Lb → BitVec 64 → Lb} {δ : Lb} {first first' : BitVec 64} {gs : List Gt} {zs : List Lb} (hk : ∀ j, j < gs.length → gokP (gs.getD j g0) ((zs.length : Nat) + (j : Nat))) (h2 : ∀ j, j < gs.length → (gs.getD j g0).k ≠ 2) : gS h δ first gs zs gs.length = gS h δ first' gs zs gs.length ∧ (gS h δ first gs zs gs.length).2 = [] :=
  gS_free gs.length fun j hj => by
    have h1 := hk j hj
    have h3 := h2 j hj
    unfold gokP at h1
    omega
/-! ### the document's example -/
theorem aw_is : IsC 2 [⟨2, 0, 1⟩] [2] := ⟨by decide, by decide, by decide, by decide, fun i hi => by
  obtain rfl : i = 0 := by simp at hi; omega
  unfold gokP; decide, fun i hi => by
  obtain rfl : i = 0 := by simp at hi; omega
  decide⟩
theorem aw_right (h : Lb → BitVec 64 → Lb) : (oL (eS h 0#64 [⟨2, 0, 1⟩] (gS h (1#64, 0#64) 0#64 [⟨2, 0, 1⟩] (List.replicate 2 lb0) 1).2 [(1#64, 0#64), (1#64, 0#64)] 1).1 [2] 1).getD 0 lb0 = lx ((oL (gS h (1#64, 0#64) 0#64 [⟨2, 0, 1⟩] (List.replicate 2 lb0) 1).1 [2] 1).getD 0 lb0) (lw true (1#64, 0#64)) :=
  outs_right (h := h) (δ := (1#64, 0#64)) (first := 0#64) (gs := [⟨2, 0, 1⟩]) (zs := List.replicate 2 lb0) (ls := [(1#64, 0#64), (1#64, 0#64)]) (bits := [true, true]) (os := [2]) (by decide) rfl rfl aw_is (fun j hj => by
    have : j = 0 ∨ j = 1 := by simp at hj; omega
    rcases this with rfl | rfl <;> decide) 0 (by decide)
end Go.Proofs.YteofdmdpaejgaaaDoor.Gb
