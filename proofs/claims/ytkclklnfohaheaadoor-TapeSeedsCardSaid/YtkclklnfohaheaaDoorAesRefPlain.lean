/- The program's cipher is the document's: no program in sight. -/
import Derived.Test.YtkclklnfohaheaaDoorAesRefTab
namespace Go.Proofs.YtkclklnfohaheaaDoor.AesSpec
/-! ### a block -/
theorem addR_at (a b : List By) (i j : Nat) (h : i ≤ 16) (hj : j < i) : (addR a b i).getD j 0#8 = a.getD j 0#8 ^^^ b.getD j 0#8 := by
  induction i with
  | zero => omega
  | succ i ih =>
    simp only [addR]; rw [getD_set (by rw [addR_len]; omega)]
    by_cases e : i = j
    · subst e; rw [if_pos rfl]
    · rw [if_neg e, ih (by omega) (by omega)]
theorem shRI_at (bx b o : List By) (c r j : Nat) (ho : o.length = 16) (hc : c < 4) (hr : r ≤ 4) : (shRI bx b o c r).getD j 0#8 = if 4 * c ≤ j ∧ j < 4 * c + r then bx.getD (b.getD (4 * ((c + (j - 4 * c)) % 4) + (j - 4 * c)) 0#8).toNat 0#8 else o.getD j 0#8 := by
  induction r with
  | zero => rw [if_neg (by omega)]; rfl
  | succ r ih =>
    simp only [shRI]; rw [getD_set (by rw [shRI_len, ho]; omega)]
    by_cases e : 4 * c + r = j
    · subst e; rw [if_pos rfl, if_pos (by omega), Nat.add_sub_cancel_left]
    · rw [if_neg e, ih (by omega)]
      by_cases f : 4 * c ≤ j ∧ j < 4 * c + r
      · rw [if_pos f, if_pos (by omega)]
      · rw [if_neg f, if_neg (by omega)]
theorem shRS_at (bx b : List By) (c j : Nat) (hc : c ≤ 4) (hj : j < 4 * c) : (shRS bx b c).getD j 0#8 = bx.getD (b.getD ((j + 4 * (j % 4)) % 16) 0#8).toNat 0#8 := by
  induction c with
  | zero => omega
  | succ c ih =>
    simp only [shRS]; rw [shRI_at _ _ _ _ _ _ (shRS_len _ _ _) (by omega) (by omega)]
    by_cases f : 4 * c ≤ j ∧ j < 4 * c + 4
    · rw [if_pos f, show 4 * ((c + (j - 4 * c)) % 4) + (j - 4 * c) = (j + 4 * (j % 4)) % 16 by omega]
    · rw [if_neg f, ih (by omega) (by omega)]
theorem mixRI_at (t o : List By) (c r j : Nat) (ho : o.length = 16) (hc : c < 4) (hr : r ≤ 4) : (mixRI t o c r).getD j 0#8 = if 4 * c ≤ j ∧ j < 4 * c + r then mixRv t c (j - 4 * c) else o.getD j 0#8 := by
  induction r with
  | zero => rw [if_neg (by omega)]; rfl
  | succ r ih =>
    simp only [mixRI]; rw [getD_set (by rw [mixRI_len, ho]; omega)]
    by_cases e : 4 * c + r = j
    · subst e; rw [if_pos rfl, if_pos (by omega), Nat.add_sub_cancel_left]
    · rw [if_neg e, ih (by omega)]
      by_cases f : 4 * c ≤ j ∧ j < 4 * c + r
      · rw [if_pos f, if_pos (by omega)]
      · rw [if_neg f, if_neg (by omega)]
theorem mixRS_at (t : List By) (c j : Nat) (hc : c ≤ 4) (hj : j < 4 * c) : (mixRS t c).getD j 0#8 = mixRv t (j / 4) (j % 4) := by
  induction c with
  | zero => omega
  | succ c ih =>
    simp only [mixRS]; rw [mixRI_at _ _ _ _ _ (mixRS_len _ _) (by omega) (by omega)]
    by_cases f : 4 * c ≤ j ∧ j < 4 * c + 4
    · rw [if_pos f, show j / 4 = c by omega, show j % 4 = j - 4 * c by omega]
    · rw [if_neg f, ih (by omega) (by omega)]
theorem col (a b c d : By) : a ^^^ ((((a ^^^ b) ^^^ c) ^^^ d) ^^^ xt (a ^^^ b)) = ((gm a 2#8 ^^^ gm b 3#8) ^^^ c) ^^^ d := by
  rw [gm_two, gm_three, xt_add]
  have : ∀ (a b c d x y : By), a ^^^ ((((a ^^^ b) ^^^ c) ^^^ d) ^^^ (x ^^^ y)) = ((x ^^^ (y ^^^ b)) ^^^ c) ^^^ d := fun a b c d x y => by
    have e : a ^^^ ((((a ^^^ b) ^^^ c) ^^^ d) ^^^ (x ^^^ y)) = (a ^^^ a) ^^^ (((x ^^^ (y ^^^ b)) ^^^ c) ^^^ d) := by ac_rfl
    rw [e, BitVec.xor_self, BitVec.zero_xor]
  exact this ..
theorem mix_eq {l : List By} (h : l.length = 16) : mixL l = mixRS l 4 := by
  refine list_getD (by rw [mixL_len, h]) (mixRS_len _ _) fun i hi => ?_
  rw [mixRS_at _ _ _ (by omega) (by omega)]
  obtain ⟨a0, a1, a2, a3, a4, a5, a6, a7, a8, a9, a10, a11, a12, a13, a14, a15, rfl⟩ := list16 h
  rw [mixL_eq]
  have hc : i = 0 ∨ i = 1 ∨ i = 2 ∨ i = 3 ∨ i = 4 ∨ i = 5 ∨ i = 6 ∨ i = 7 ∨ i = 8 ∨ i = 9 ∨ i = 10 ∨ i = 11 ∨ i = 12 ∨ i = 13 ∨ i = 14 ∨ i = 15 := by omega
  have p2 : ∀ a b c d : By, b ^^^ ((((a ^^^ b) ^^^ c) ^^^ d) ^^^ xt (b ^^^ c)) = ((gm b 2#8 ^^^ gm c 3#8) ^^^ d) ^^^ a := fun a b c d => by rw [← col]; congr 2; ac_rfl
  have p3 : ∀ a b c d : By, c ^^^ ((((a ^^^ b) ^^^ c) ^^^ d) ^^^ xt (c ^^^ d)) = ((gm c 2#8 ^^^ gm d 3#8) ^^^ a) ^^^ b := fun a b c d => by rw [← col]; congr 2; ac_rfl
  have p4 : ∀ a b c d : By, d ^^^ ((((a ^^^ b) ^^^ c) ^^^ d) ^^^ xt (d ^^^ a)) = ((gm d 2#8 ^^^ gm a 3#8) ^^^ b) ^^^ c := fun a b c d => by rw [← col]; congr 2; ac_rfl
  rcases hc with rfl | rfl | rfl | rfl | rfl | rfl | rfl | rfl | rfl | rfl | rfl | rfl | rfl | rfl | rfl | rfl
  · exact col a0 a1 a2 a3
  · exact p2 a0 a1 a2 a3
  · exact p3 a0 a1 a2 a3
  · exact p4 a0 a1 a2 a3
  · exact col a4 a5 a6 a7
  · exact p2 a4 a5 a6 a7
  · exact p3 a4 a5 a6 a7
  · exact p4 a4 a5 a6 a7
  · exact col a8 a9 a10 a11
  · exact p2 a8 a9 a10 a11
  · exact p3 a8 a9 a10 a11
  · exact p4 a8 a9 a10 a11
  · exact col a12 a13 a14 a15
  · exact p2 a12 a13 a14 a15
  · exact p3 a12 a13 a14 a15
  · exact p4 a12 a13 a14 a15
/-! ### the round keys -/
theorem innS_low (cl t : List By) (k i j : Nat) (h : j < k * 16) : (innS cl t k i).1.getD j 0#8 = cl.getD j 0#8 := by
  induction i with
  | zero => rfl
  | succ i ih => simp only [innS]; rw [getD_set_ne (by omega), ih]
theorem innS_at (cl t : List By) (k n : Nat) (hk : 1 ≤ k) (hcl : k * 16 + 16 ≤ cl.length) (ht : t.length = 4) (hn : n ≤ 16) :
    (∀ j, j < n → (innS cl t k n).1.getD (k * 16 + j) 0#8 = (if j < 4 then t.getD j 0#8 else (innS cl t k n).1.getD (k * 16 + (j - 4)) 0#8) ^^^ cl.getD ((k - 1) * 16 + j) 0#8)
    ∧ ∀ r, r < 4 → (innS cl t k n).2.getD r 0#8 = if n ≤ r then t.getD r 0#8 else (innS cl t k n).1.getD (k * 16 + (r + 4 * ((n - 1 - r) / 4))) 0#8 := by
  induction n with
  | zero => exact ⟨fun j hj => by omega, fun r hr => by rw [if_pos (Nat.zero_le _)]; rfl⟩
  | succ n ih =>
    obtain ⟨h1, h2⟩ := ih (by omega)
    have hv : ((innS cl t k n).2.set (n % 4) ((innS cl t k n).2.getD (n % 4) 0#8 ^^^ (innS cl t k n).1.getD ((k - 1) * 16 + n) 0#8)).getD (n % 4) 0#8 = (if n < 4 then t.getD n 0#8 else (innS cl t k n).1.getD (k * 16 + (n - 4)) 0#8) ^^^ cl.getD ((k - 1) * 16 + n) 0#8 := by
      rw [getD_set (by rw [(innS_len _ _ _ _).2, ht]; omega), if_pos rfl, h2 _ (by omega), innS_low cl t k n ((k - 1) * 16 + n) (by omega)]
      by_cases e : n < 4
      · rw [if_pos (by omega), if_pos e, Nat.mod_eq_of_lt e]
      · rw [if_neg (by omega), if_neg e, show n % 4 + 4 * ((n - 1 - n % 4) / 4) = n - 4 by omega]
    constructor
    · intro j hj
      simp only [innS]
      by_cases e : j = n
      · subst e
        rw [getD_set (by rw [(innS_len _ _ _ _).1]; omega), if_pos rfl, hv]
        by_cases f : j < 4
        · rw [if_pos f, if_pos f]
        · rw [if_neg f, if_neg f, getD_set_ne (by omega)]
      · rw [getD_set_ne (by omega), h1 j (by omega)]
        by_cases f : j < 4
        · rw [if_pos f, if_pos f]
        · rw [if_neg f, if_neg f, getD_set_ne (by omega)]
    · intro r hr
      simp only [innS]
      by_cases e : n % 4 = r
      · subst e
        rw [if_neg (by omega), show n % 4 + 4 * ((n + 1 - 1 - n % 4) / 4) = n by omega, getD_set (l := (innS cl t k n).1) (by rw [(innS_len _ _ _ _).1]; omega), if_pos rfl]
      · rw [getD_set_ne e, h2 r hr]
        by_cases f : n ≤ r
        · rw [if_pos f, if_pos (by omega)]
        · rw [if_neg f, if_neg (by omega), getD_set_ne (by omega), show (n + 1 - 1 - r) / 4 = (n - 1 - r) / 4 by omega]
theorem newS_low (key : List By) (k d j : Nat) (h : j < (k + 1) * 16) : (newS key (k + d)).1.getD j 0#8 = (newS key k).1.getD j 0#8 := by
  induction d with
  | zero => rw [Nat.add_zero]
  | succ d ih =>
    have hj : j < (k + d + 1) * 16 := Nat.lt_of_lt_of_le h (Nat.mul_le_mul_right 16 (by omega))
    have h1 : (newS key (k + d + 1)).1.getD j 0#8 = (newS key (k + d)).1.getD j 0#8 := by rw [newS_succ]; exact innS_low _ _ _ _ _ hj
    exact h1.trans ih
theorem cipher_low (key : List By) (k j : Nat) (hk : k ≤ 10) (h : j < (k + 1) * 16) : (cipher key).getD j 0#8 = (newS key k).1.getD j 0#8 := by
  have := newS_low key k (10 - k) j h; rwa [show k + (10 - k) = 10 by omega] at this
/-- the power of a round -/
def pwS : Nat → By
  | 0 => 1#8
  | k + 1 => xt (pwS k)
theorem newS_pw (key : List By) (k : Nat) : (newS key k).2 = pwS k := by
  induction k with
  | zero => rfl
  | succ k ih => simp only [newS, pwS, ih]
/-- the round keys' law, at the program's -/
theorem cipher_step (key : List By) (hk : key.length = 16) (k i : Nat) (h : k < 10) (hi : i < 16) :
    (cipher key).getD ((k + 1) * 16 + i) 0#8 = (if i < 4 then [tabL.getD ((cipher key).getD (k * 16 + 13) 0#8).toNat 0#8 ^^^ pwS k, tabL.getD ((cipher key).getD (k * 16 + 14) 0#8).toNat 0#8, tabL.getD ((cipher key).getD (k * 16 + 15) 0#8).toNat 0#8, tabL.getD ((cipher key).getD (k * 16 + 12) 0#8).toNat 0#8].getD i 0#8 else (cipher key).getD ((k + 1) * 16 + (i - 4)) 0#8) ^^^ (cipher key).getD (k * 16 + i) 0#8 := by
  rw [cipher_low key (k + 1) _ (by omega) (by omega), newS_succ]
  obtain ⟨h1, _⟩ := innS_at (newS key k).1 (t0 (newS key k).1 (k + 1) (newS key k).2) (k + 1) 16 (by omega) (by rw [newS_len key hk]; omega) rfl (Nat.le_refl _)
  rw [h1 i hi, Nat.add_sub_cancel, ← cipher_low key k _ (by omega) (by omega)]
  refine congrArg (fun x => x ^^^ (cipher key).getD (k * 16 + i) 0#8) ?_
  by_cases e : i < 4
  · rw [if_pos e, if_pos e, t0, newS_far key hk _ _ (by omega), newS_far key hk _ _ (by omega), newS_far key hk _ _ (by omega), newS_far key hk _ _ (by omega), newS_pw, Nat.add_sub_cancel,
      ← cipher_low key k _ (by omega) (by omega), ← cipher_low key k _ (by omega) (by omega), ← cipher_low key k _ (by omega) (by omega), ← cipher_low key k _ (by omega) (by omega)]
  · rw [if_neg e, if_neg e, ← newS_succ, ← cipher_low key (k + 1) _ (by omega) (by omega)]
theorem getD_app {a b : List By} {i : Nat} {d : By} (h : i < a.length) : (a ++ b).getD i d = a.getD i d := by
  rw [List.getD_eq_getElem?_getD, List.getElem?_append_left h, List.getD_eq_getElem?_getD]
theorem getD_app2 {a b : List By} {i : Nat} {d : By} (h : a.length ≤ i) : (a ++ b).getD i d = b.getD (i - a.length) d := by
  rw [List.getD_eq_getElem?_getD, List.getElem?_append_right h, List.getD_eq_getElem?_getD]
theorem expI_low (ks t : List By) (k r j : Nat) (h : j < ks.length) : (expI ks t k r).getD j 0#8 = ks.getD j 0#8 := by
  induction r with
  | zero => rfl
  | succ r ih => simp only [expI]; rw [getD_app (by rw [expI_len]; omega), ih]
theorem expI_at (ks t : List By) (k r j : Nat) (hl : ks.length = 16 + 4 * k) (hj : j < r) (hr : r ≤ 4) : (expI ks t k r).getD (16 + 4 * k + j) 0#8 = ks.getD (4 * k + j) 0#8 ^^^ t.getD j 0#8 := by
  induction r with
  | zero => omega
  | succ r ih =>
    simp only [expI]
    by_cases e : j = r
    · subst e
      rw [getD_app2 (by rw [expI_len]; omega), expI_len, hl, Nat.sub_self, expI_low _ _ _ _ _ (by omega)]; rfl
    · rw [getD_app (by rw [expI_len]; omega), ih (by omega) (by omega)]
theorem expR_low (key bx : List By) (hk : key.length = 16) (k d j : Nat) (h : j < 16 + 4 * k) : (expR key bx (k + d)).1.getD j 0#8 = (expR key bx k).1.getD j 0#8 := by
  induction d with
  | zero => rw [Nat.add_zero]
  | succ d ih => rw [← Nat.add_assoc, expR]; dsimp only; rw [expI_low _ _ _ _ _ (by rw [expR_len _ _ hk]; omega), ih]
theorem expR_to (key bx : List By) (hk : key.length = 16) (k j : Nat) (hk4 : k ≤ 40) (h : j < 16 + 4 * k) : (expR key bx k).1.getD j 0#8 = (expR key bx 40).1.getD j 0#8 := by
  have := expR_low key bx hk k (40 - k) j h; rw [show k + (40 - k) = 40 by omega] at this; exact this.symm
theorem expR_pw (key bx : List By) (m : Nat) : (expR key bx m).2 = pwS ((m + 3) / 4) := by
  induction m with
  | zero => rfl
  | succ m ih =>
    rw [expR]; dsimp only
    by_cases e : (m + 4) % 4 = 0
    · rw [if_pos e, gm_two, ih, show (m + 1 + 3) / 4 = (m + 3) / 4 + 1 by omega]; rfl
    · rw [if_neg e, ih, show (m + 1 + 3) / 4 = (m + 3) / 4 by omega]
theorem expS_at (ks : List By) (k r : Nat) (hr : r < 4) : (expS ks k).getD r 0#8 = ks.getD (4 * k + 12 + r) 0#8 := by
  rw [expS, List.getD_eq_getElem?_getD, List.getElem?_take, if_pos hr, List.getElem?_drop, List.getD_eq_getElem?_getD]
/-- the round keys' law, at the document's -/
theorem exp_step (key bx : List By) (hk : key.length = 16) (m r : Nat) (hm : m < 40) (hr : r < 4) :
    (expR key bx 40).1.getD (16 + 4 * m + r) 0#8 = (expR key bx 40).1.getD (4 * m + r) 0#8 ^^^ (if m % 4 = 0 then [bx.getD ((expR key bx 40).1.getD (4 * m + 13) 0#8).toNat 0#8 ^^^ pwS (m / 4), bx.getD ((expR key bx 40).1.getD (4 * m + 14) 0#8).toNat 0#8, bx.getD ((expR key bx 40).1.getD (4 * m + 15) 0#8).toNat 0#8, bx.getD ((expR key bx 40).1.getD (4 * m + 12) 0#8).toNat 0#8].getD r 0#8 else (expR key bx 40).1.getD (4 * m + 12 + r) 0#8) := by
  have hl := expR_len key bx hk m
  rw [← expR_to key bx hk (m + 1) _ (by omega) (by omega), expR]; dsimp only
  rw [expI_at _ _ _ _ _ hl hr (Nat.le_refl _), expR_to key bx hk m _ (by omega) (by omega)]
  congr 1
  rw [expT]
  by_cases e : m % 4 = 0
  · rw [if_pos (by omega), if_pos e, expS_at _ _ _ (by omega), expS_at _ _ _ (by omega), expS_at _ _ _ (by omega), expS_at _ _ _ (by omega), expR_pw, show (m + 3) / 4 = m / 4 by omega,
      expR_to key bx hk m _ (by omega) (by omega), expR_to key bx hk m _ (by omega) (by omega), expR_to key bx hk m _ (by omega) (by omega), expR_to key bx hk m _ (by omega) (by omega)]
  · rw [if_neg (by omega), if_neg e, expS_at _ _ _ hr, expR_to key bx hk m _ (by omega) (by omega)]
theorem keys_eq (key : List By) (hk : key.length = 16) : ∀ i, i < 176 → (expR key tabL 40).1.getD i 0#8 = (cipher key).getD i 0#8 := by
  intro i
  induction i using Nat.strongRecOn with
  | ind i ih =>
    intro hi
    by_cases e : i < 16
    · rw [← expR_to key tabL hk 0 _ (by omega) (by omega), cipher_low key 0 _ (by omega) (by omega), expR, newS_zero, getD_app (by omega)]
      dsimp only
      rw [List.drop_zero, List.take_of_length_le (by omega)]
    · have h1 := exp_step key tabL hk ((i - 16) / 4) ((i - 16) % 4) (by omega) (by omega)
      have h2 := cipher_step key hk ((i - 16) / 16) ((i - 16) % 16) (by omega) (by omega)
      rw [show 16 + 4 * ((i - 16) / 4) + (i - 16) % 4 = i by omega] at h1
      rw [show ((i - 16) / 16 + 1) * 16 + (i - 16) % 16 = i by omega] at h2
      rw [h1, h2, show 4 * ((i - 16) / 4) + (i - 16) % 4 = i - 16 by omega, show (i - 16) / 16 * 16 + (i - 16) % 16 = i - 16 by omega, ih (i - 16) (by omega) (by omega), BitVec.xor_comm]
      refine congrArg (fun x => x ^^^ (cipher key).getD (i - 16) 0#8) ?_
      by_cases f : (i - 16) / 4 % 4 = 0
      · have g : (i - 16) % 16 < 4 := by omega
        rw [if_pos f, if_pos g, show 4 * ((i - 16) / 4) = (i - 16) / 16 * 16 by omega, show (i - 16) / 4 / 4 = (i - 16) / 16 by omega, show (i - 16) % 4 = (i - 16) % 16 by omega,
          ih _ (by omega) (by omega), ih _ (by omega) (by omega), ih _ (by omega) (by omega), ih _ (by omega) (by omega)]
      · rw [if_neg f, if_neg (by omega), ih _ (by omega) (by omega), show 4 * ((i - 16) / 4) + 12 + (i - 16) % 4 = ((i - 16) / 16 + 1) * 16 + ((i - 16) % 16 - 4) by omega]
theorem row_at (ks : List By) (k j : Nat) (hj : j < 16) : ((ks.drop k).take 16).getD j 0#8 = ks.getD (k + j) 0#8 := by
  rw [List.getD_eq_getElem?_getD, List.getElem?_take, if_pos hj, List.getElem?_drop, List.getD_eq_getElem?_getD]
/-! ### the block's cipher -/
theorem enc_eq (key b : List By) (hk : key.length = 16) (hb : b.length = 16) : encR (expR key (boxR 256) 40).1 (boxR 256) b 10 = encL (cipher key) b := by
  rw [box_tab]
  suffices h : ∀ k, k ≤ 10 → encR (expR key tabL 40).1 tabL b k = encS (cipher key) b k from h 10 (Nat.le_refl _)
  intro k
  induction k with
  | zero =>
    intro _
    refine list_getD (encR_len _ _ _ _) (by rw [encS_len, hb]) fun i hi => ?_
    rw [encR, encS, addR_at _ _ _ _ (Nat.le_refl _) hi, addS_at _ _ _ _ (by omega), if_pos hi, row_at _ _ _ hi, keys_eq key hk _ (by omega), Nat.zero_add]
  | succ k ih =>
    intro h
    have hl : (encS (cipher key) b k).length = 16 := by rw [encS_len, hb]
    have h1 : shRS tabL (encS (cipher key) b k) 4 = subS (cipher key) (encS (cipher key) b k) 16 := by
      refine list_getD (shRS_len _ _ _) (subS_len _ _ _) fun i hi => ?_
      rw [shRS_at _ _ _ _ (Nat.le_refl _) (by omega), subS_at _ _ _ _ (Nat.le_refl _) hi, sbox key hk]
    have h2 : rndR tabL (encS (cipher key) b k) (k + 1) = rndT (cipher key) (encS (cipher key) b k) (k + 1) := by
      rw [rndR, rndT, h1]; split
      · rw [mix_eq (subS_len _ _ _)]
      · rfl
    refine list_getD (encR_len _ _ _ _) (by rw [encS_len, hb]) fun i hi => ?_
    rw [encR, encS, ih (by omega), h2, addR_at _ _ _ _ (Nat.le_refl _) hi, keyS_at _ _ _ _ _ _ (by omega), if_pos hi, row_at _ _ _ hi, keys_eq key hk _ (by omega), Nat.mul_comm 16 (k + 1)]
end Go.Proofs.YtkclklnfohaheaaDoor.AesSpec
