/- The cipher, plain: the document's example; what differs is encrypted apart. -/
import Derived.Test.YtkclklnfohaheaaDoorAesSpec
namespace Go.Proofs.YtkclklnfohaheaaDoor.AesSpec
def awkS : Nat → List By
  | 0 => List.replicate 16 0#8
  | i + 1 => (awkS i).set i (BitVec.ofInt 8 (17 * (i : Int)))
theorem awk_len (i : Nat) : (awkS i).length = 16 := by
  induction i with
  | zero => simp [awkS]
  | succ i ih => simp [awkS, ih]
theorem vec : encL (cipher fixKey) (awkS 16) = [105#8, 196#8, 224#8, 216#8, 106#8, 123#8, 4#8, 48#8, 216#8, 205#8, 183#8, 128#8, 112#8, 180#8, 197#8, 90#8] := by decide +kernel
/-! ### the table -/
def tabL : List By := [99#8, 124#8, 119#8, 123#8, 242#8, 107#8, 111#8, 197#8, 48#8, 1#8, 103#8, 43#8, 254#8, 215#8, 171#8, 118#8, 202#8, 130#8, 201#8, 125#8, 250#8, 89#8, 71#8, 240#8, 173#8, 212#8, 162#8, 175#8, 156#8, 164#8, 114#8, 192#8, 183#8, 253#8, 147#8, 38#8, 54#8, 63#8, 247#8, 204#8, 52#8, 165#8, 229#8, 241#8, 113#8, 216#8, 49#8, 21#8, 4#8, 199#8, 35#8, 195#8, 24#8, 150#8, 5#8, 154#8, 7#8, 18#8, 128#8, 226#8, 235#8, 39#8, 178#8, 117#8, 9#8, 131#8, 44#8, 26#8, 27#8, 110#8, 90#8, 160#8, 82#8, 59#8, 214#8, 179#8, 41#8, 227#8, 47#8, 132#8, 83#8, 209#8, 0#8, 237#8, 32#8, 252#8, 177#8, 91#8, 106#8, 203#8, 190#8, 57#8, 74#8, 76#8, 88#8, 207#8, 208#8, 239#8, 170#8, 251#8, 67#8, 77#8, 51#8, 133#8, 69#8, 249#8, 2#8, 127#8, 80#8, 60#8, 159#8, 168#8, 81#8, 163#8, 64#8, 143#8, 146#8, 157#8, 56#8, 245#8, 188#8, 182#8, 218#8, 33#8, 16#8, 255#8, 243#8, 210#8, 205#8, 12#8, 19#8, 236#8, 95#8, 151#8, 68#8, 23#8, 196#8, 167#8, 126#8, 61#8, 100#8, 93#8, 25#8, 115#8, 96#8, 129#8, 79#8, 220#8, 34#8, 42#8, 144#8, 136#8, 70#8, 238#8, 184#8, 20#8, 222#8, 94#8, 11#8, 219#8, 224#8, 50#8, 58#8, 10#8, 73#8, 6#8, 36#8, 92#8, 194#8, 211#8, 172#8, 98#8, 145#8, 149#8, 228#8, 121#8, 231#8, 200#8, 55#8, 109#8, 141#8, 213#8, 78#8, 169#8, 108#8, 86#8, 244#8, 234#8, 101#8, 122#8, 174#8, 8#8, 186#8, 120#8, 37#8, 46#8, 28#8, 166#8, 180#8, 198#8, 232#8, 221#8, 116#8, 31#8, 75#8, 189#8, 139#8, 138#8, 112#8, 62#8, 181#8, 102#8, 72#8, 3#8, 246#8, 14#8, 97#8, 53#8, 87#8, 185#8, 134#8, 193#8, 29#8, 158#8, 225#8, 248#8, 152#8, 17#8, 105#8, 217#8, 142#8, 148#8, 155#8, 30#8, 135#8, 233#8, 206#8, 85#8, 40#8, 223#8, 140#8, 161#8, 137#8, 13#8, 191#8, 230#8, 66#8, 104#8, 65#8, 153#8, 45#8, 15#8, 176#8, 84#8, 187#8, 22#8]
def invL : List By := [82#8, 9#8, 106#8, 213#8, 48#8, 54#8, 165#8, 56#8, 191#8, 64#8, 163#8, 158#8, 129#8, 243#8, 215#8, 251#8, 124#8, 227#8, 57#8, 130#8, 155#8, 47#8, 255#8, 135#8, 52#8, 142#8, 67#8, 68#8, 196#8, 222#8, 233#8, 203#8, 84#8, 123#8, 148#8, 50#8, 166#8, 194#8, 35#8, 61#8, 238#8, 76#8, 149#8, 11#8, 66#8, 250#8, 195#8, 78#8, 8#8, 46#8, 161#8, 102#8, 40#8, 217#8, 36#8, 178#8, 118#8, 91#8, 162#8, 73#8, 109#8, 139#8, 209#8, 37#8, 114#8, 248#8, 246#8, 100#8, 134#8, 104#8, 152#8, 22#8, 212#8, 164#8, 92#8, 204#8, 93#8, 101#8, 182#8, 146#8, 108#8, 112#8, 72#8, 80#8, 253#8, 237#8, 185#8, 218#8, 94#8, 21#8, 70#8, 87#8, 167#8, 141#8, 157#8, 132#8, 144#8, 216#8, 171#8, 0#8, 140#8, 188#8, 211#8, 10#8, 247#8, 228#8, 88#8, 5#8, 184#8, 179#8, 69#8, 6#8, 208#8, 44#8, 30#8, 143#8, 202#8, 63#8, 15#8, 2#8, 193#8, 175#8, 189#8, 3#8, 1#8, 19#8, 138#8, 107#8, 58#8, 145#8, 17#8, 65#8, 79#8, 103#8, 220#8, 234#8, 151#8, 242#8, 207#8, 206#8, 240#8, 180#8, 230#8, 115#8, 150#8, 172#8, 116#8, 34#8, 231#8, 173#8, 53#8, 133#8, 226#8, 249#8, 55#8, 232#8, 28#8, 117#8, 223#8, 110#8, 71#8, 241#8, 26#8, 113#8, 29#8, 41#8, 197#8, 137#8, 111#8, 183#8, 98#8, 14#8, 170#8, 24#8, 190#8, 27#8, 252#8, 86#8, 62#8, 75#8, 198#8, 210#8, 121#8, 32#8, 154#8, 219#8, 192#8, 254#8, 120#8, 205#8, 90#8, 244#8, 31#8, 221#8, 168#8, 51#8, 136#8, 7#8, 199#8, 49#8, 177#8, 18#8, 16#8, 89#8, 39#8, 128#8, 236#8, 95#8, 96#8, 81#8, 127#8, 169#8, 25#8, 181#8, 74#8, 13#8, 45#8, 229#8, 122#8, 159#8, 147#8, 201#8, 156#8, 239#8, 160#8, 224#8, 59#8, 77#8, 174#8, 42#8, 245#8, 176#8, 200#8, 235#8, 187#8, 60#8, 131#8, 83#8, 153#8, 97#8, 23#8, 43#8, 4#8, 126#8, 186#8, 119#8, 214#8, 38#8, 225#8, 105#8, 20#8, 99#8, 85#8, 33#8, 12#8, 125#8]
theorem tab_eq : (fillL (List.replicate 432 0#8)).drop 176 = tabL := by decide +kernel
theorem inv_tab : ∀ a : By, invL.getD (tabL.getD a.toNat 0#8).toNat 0#8 = a := by decide +kernel
theorem getD_set {l : List By} {i j : Nat} {v d : By} (h : i < l.length) : (l.set i v).getD j d = if i = j then v else l.getD j d := by
  rw [List.getD_eq_getElem?_getD, List.getElem?_set, List.getD_eq_getElem?_getD]
  by_cases e : i = j
  · subst e; simp [h]
  · simp [e]
theorem getD_set_ne {l : List By} {i j : Nat} {v d : By} (h : i ≠ j) : (l.set i v).getD j d = l.getD j d := by
  rw [List.getD_eq_getElem?_getD, List.getElem?_set_ne h, List.getD_eq_getElem?_getD]
theorem innS_far (cl t : List By) (k i j : Nat) (h : k * 16 + i ≤ j) : (innS cl t k i).1.getD j 0#8 = cl.getD j 0#8 := by
  induction i with
  | zero => rfl
  | succ i ih => simp only [innS]; rw [getD_set_ne (by omega), ih (by omega)]
theorem newS_far (key : List By) (hk : key.length = 16) (k j : Nat) (h : k ≤ 10) : (newS key k).1.getD (176 + j) 0#8 = tabL.getD j 0#8 := by
  induction k with
  | zero =>
    rw [← tab_eq, newS_zero, List.getD_eq_getElem?_getD, List.getD_eq_getElem?_getD, List.getElem?_append_right (show key.length ≤ 176 + j by omega), List.getElem?_drop, List.getElem?_drop, hk]
    rw [show 16 + (176 + j - 16) = 176 + j by omega]
  | succ k ih => rw [newS_succ, innS_far _ _ _ _ _ (by omega), ih (by omega)]
theorem sbox (key : List By) (hk : key.length = 16) (j : Nat) : (cipher key).getD (176 + j) 0#8 = tabL.getD j 0#8 := newS_far key hk 10 j (by omega)
/-! ### two lists of a length are equal if all their places are -/
theorem list_getD {a b : List By} (ha : a.length = 16) (hb : b.length = 16) (h : ∀ i, i < 16 → a.getD i 0#8 = b.getD i 0#8) : a = b := by
  apply List.ext_getElem (by rw [ha, hb])
  intro i h1 h2
  have := h i (by omega)
  rwa [List.getD_eq_getElem?_getD, List.getElem?_eq_getElem h1, List.getD_eq_getElem?_getD, List.getElem?_eq_getElem h2] at this
theorem addS_at (cl b : List By) (i j : Nat) (h : i ≤ b.length) : (addS cl b i).getD j 0#8 = if j < i then b.getD j 0#8 ^^^ cl.getD j 0#8 else b.getD j 0#8 := by
  induction i with
  | zero => rfl
  | succ i ih =>
    simp only [addS]; rw [getD_set (by rw [addS_len]; omega)]
    by_cases e : i = j
    · subst e; rw [if_pos rfl, ih (by omega), if_neg (by omega), if_pos (by omega)]
    · rw [if_neg e, ih (by omega)]
      by_cases f : j < i
      · rw [if_pos f, if_pos (by omega)]
      · rw [if_neg f, if_neg (by omega)]
theorem keyS_at (cl t b : List By) (k i j : Nat) (h : i ≤ b.length) : (keyS cl t b k i).getD j 0#8 = if j < i then t.getD j 0#8 ^^^ cl.getD (k * 16 + j) 0#8 else b.getD j 0#8 := by
  induction i with
  | zero => rfl
  | succ i ih =>
    simp only [keyS]; rw [getD_set (by rw [keyS_len]; omega)]
    by_cases e : i = j
    · subst e; rw [if_pos rfl, if_pos (by omega)]
    · rw [if_neg e, ih (by omega)]
      by_cases f : j < i
      · rw [if_pos f, if_pos (by omega)]
      · rw [if_neg f, if_neg (by omega)]
theorem subS_at (cl b : List By) (i j : Nat) (h : i ≤ 16) (hj : j < i) : (subS cl b i).getD j 0#8 = cl.getD (176 + (b.getD ((j + 4 * (j % 4)) % 16) 0#8).toNat) 0#8 := by
  induction i with
  | zero => omega
  | succ i ih =>
    simp only [subS]; rw [getD_set (by rw [subS_len]; omega)]
    by_cases e : i = j
    · subst e; rw [if_pos rfl]
    · rw [if_neg e, ih (by omega) (by omega)]
theorem shift_onto : ∀ i, i < 16 → ∃ j, j < 16 ∧ (j + 4 * (j % 4)) % 16 = i := by decide
theorem xor_inj {a b c : By} (h : a ^^^ c = b ^^^ c) : a = b := by
  have := congrArg (· ^^^ c) h; simpa [BitVec.xor_assoc] using this
theorem addS_inj {cl a b : List By} (ha : a.length = 16) (hb : b.length = 16) (h : addS cl a 16 = addS cl b 16) : a = b := by
  refine list_getD ha hb fun i hi => ?_
  have := congrArg (fun l => l.getD i 0#8) h
  rw [addS_at _ _ _ _ (by omega), addS_at _ _ _ _ (by omega), if_pos hi, if_pos hi] at this
  exact xor_inj this
theorem keyS_inj {cl t u a b : List By} {k : Nat} (ha : a.length = 16) (hb : b.length = 16) (ht : t.length = 16) (hu : u.length = 16) (h : keyS cl t a k 16 = keyS cl u b k 16) : t = u := by
  refine list_getD ht hu fun i hi => ?_
  have := congrArg (fun l => l.getD i 0#8) h
  rw [keyS_at _ _ _ _ _ _ (by omega), keyS_at _ _ _ _ _ _ (by omega), if_pos hi, if_pos hi] at this
  exact xor_inj this
theorem subS_inj {key a b : List By} (hk : key.length = 16) (ha : a.length = 16) (hb : b.length = 16) (h : subS (cipher key) a 16 = subS (cipher key) b 16) : a = b := by
  refine list_getD ha hb fun i hi => ?_
  obtain ⟨j, hj, e⟩ := shift_onto i hi
  have := congrArg (fun l => l.getD j 0#8) h
  rw [subS_at _ _ _ _ (by omega) hj, subS_at _ _ _ _ (by omega) hj, sbox _ hk, sbox _ hk, e] at this
  rw [← inv_tab (a.getD i 0#8), this, inv_tab]
/-! ### the mixing, four times, is nothing -/
theorem xt_add : ∀ a b : By, xt (a ^^^ b) = xt a ^^^ xt b := by decide +kernel
theorem xx (a b : By) : a ^^^ (a ^^^ b) = b := by rw [← BitVec.xor_assoc, BitVec.xor_self, BitVec.zero_xor]
theorem xl (a b c : By) : a ^^^ (b ^^^ c) = b ^^^ (a ^^^ c) := by rw [← BitVec.xor_assoc, BitVec.xor_comm a b, BitVec.xor_assoc]
def colS (c : By × By × By × By) : By × By × By × By :=
  (c.1 ^^^ ((((c.1 ^^^ c.2.1) ^^^ c.2.2.1) ^^^ c.2.2.2) ^^^ xt (c.1 ^^^ c.2.1)), c.2.1 ^^^ ((((c.1 ^^^ c.2.1) ^^^ c.2.2.1) ^^^ c.2.2.2) ^^^ xt (c.2.1 ^^^ c.2.2.1)), c.2.2.1 ^^^ ((((c.1 ^^^ c.2.1) ^^^ c.2.2.1) ^^^ c.2.2.2) ^^^ xt (c.2.2.1 ^^^ c.2.2.2)), c.2.2.2 ^^^ ((((c.1 ^^^ c.2.1) ^^^ c.2.2.1) ^^^ c.2.2.2) ^^^ xt (c.2.2.2 ^^^ c.1)))
theorem colS2 (c : By × By × By × By) : colS (colS c) = (c.1 ^^^ (xt (xt c.1) ^^^ xt (xt c.2.2.1)), c.2.1 ^^^ (xt (xt c.2.1) ^^^ xt (xt c.2.2.2)), c.2.2.1 ^^^ (xt (xt c.2.2.1) ^^^ xt (xt c.1)), c.2.2.2 ^^^ (xt (xt c.2.2.2) ^^^ xt (xt c.2.1))) := by
  obtain ⟨a, b, c, d⟩ := c
  simp only [colS, xt_add, BitVec.xor_assoc, BitVec.xor_comm, xl, xx, BitVec.xor_self, BitVec.xor_zero, BitVec.zero_xor]
theorem colS4 (c : By × By × By × By) : colS (colS (colS (colS c))) = c := by
  rw [colS2, colS2]
  obtain ⟨a, b, c, d⟩ := c
  simp only [xt_add, BitVec.xor_assoc, BitVec.xor_comm, xl, xx, BitVec.xor_self, BitVec.xor_zero]
theorem colS_inj {c d : By × By × By × By} (h : colS c = colS d) : c = d := by
  rw [← colS4 c, h, colS4]
theorem mixL_eq (a0 a1 a2 a3 a4 a5 a6 a7 a8 a9 a10 a11 a12 a13 a14 a15 : By) : mixL [a0, a1, a2, a3, a4, a5, a6, a7, a8, a9, a10, a11, a12, a13, a14, a15] = [a0 ^^^ ((((a0 ^^^ a1) ^^^ a2) ^^^ a3) ^^^ xt (a0 ^^^ a1)), a1 ^^^ ((((a0 ^^^ a1) ^^^ a2) ^^^ a3) ^^^ xt (a1 ^^^ a2)), a2 ^^^ ((((a0 ^^^ a1) ^^^ a2) ^^^ a3) ^^^ xt (a2 ^^^ a3)), a3 ^^^ ((((a0 ^^^ a1) ^^^ a2) ^^^ a3) ^^^ xt (a3 ^^^ a0)), a4 ^^^ ((((a4 ^^^ a5) ^^^ a6) ^^^ a7) ^^^ xt (a4 ^^^ a5)), a5 ^^^ ((((a4 ^^^ a5) ^^^ a6) ^^^ a7) ^^^ xt (a5 ^^^ a6)), a6 ^^^ ((((a4 ^^^ a5) ^^^ a6) ^^^ a7) ^^^ xt (a6 ^^^ a7)), a7 ^^^ ((((a4 ^^^ a5) ^^^ a6) ^^^ a7) ^^^ xt (a7 ^^^ a4)), a8 ^^^ ((((a8 ^^^ a9) ^^^ a10) ^^^ a11) ^^^ xt (a8 ^^^ a9)), a9 ^^^ ((((a8 ^^^ a9) ^^^ a10) ^^^ a11) ^^^ xt (a9 ^^^ a10)), a10 ^^^ ((((a8 ^^^ a9) ^^^ a10) ^^^ a11) ^^^ xt (a10 ^^^ a11)), a11 ^^^ ((((a8 ^^^ a9) ^^^ a10) ^^^ a11) ^^^ xt (a11 ^^^ a8)), a12 ^^^ ((((a12 ^^^ a13) ^^^ a14) ^^^ a15) ^^^ xt (a12 ^^^ a13)), a13 ^^^ ((((a12 ^^^ a13) ^^^ a14) ^^^ a15) ^^^ xt (a13 ^^^ a14)), a14 ^^^ ((((a12 ^^^ a13) ^^^ a14) ^^^ a15) ^^^ xt (a14 ^^^ a15)), a15 ^^^ ((((a12 ^^^ a13) ^^^ a14) ^^^ a15) ^^^ xt (a15 ^^^ a12))] := by
  simp [mixL, mixS, mixI, mixA, allOf]
theorem list16 {l : List By} (h : l.length = 16) : ∃ a0 a1 a2 a3 a4 a5 a6 a7 a8 a9 a10 a11 a12 a13 a14 a15, l = [a0, a1, a2, a3, a4, a5, a6, a7, a8, a9, a10, a11, a12, a13, a14, a15] := by
  match l, h with
  | [a0, a1, a2, a3, a4, a5, a6, a7, a8, a9, a10, a11, a12, a13, a14, a15], _ => exact ⟨a0, a1, a2, a3, a4, a5, a6, a7, a8, a9, a10, a11, a12, a13, a14, a15, rfl⟩
theorem mixL_inj {l m : List By} (hl : l.length = 16) (hm : m.length = 16) (h : mixL l = mixL m) : l = m := by
  obtain ⟨a0, a1, a2, a3, a4, a5, a6, a7, a8, a9, a10, a11, a12, a13, a14, a15, rfl⟩ := list16 hl
  obtain ⟨b0, b1, b2, b3, b4, b5, b6, b7, b8, b9, b10, b11, b12, b13, b14, b15, rfl⟩ := list16 hm
  rw [mixL_eq, mixL_eq] at h
  simp only [List.cons.injEq] at h
  obtain ⟨h0, h1, h2, h3, h4, h5, h6, h7, h8, h9, h10, h11, h12, h13, h14, h15, -⟩ := h
  have e0 := colS_inj (c := (a0, a1, a2, a3)) (d := (b0, b1, b2, b3)) (by simp only [colS]; rw [h0, h1, h2, h3])
  simp only [Prod.mk.injEq] at e0
  obtain ⟨rfl, rfl, rfl, rfl⟩ := e0
  have e1 := colS_inj (c := (a4, a5, a6, a7)) (d := (b4, b5, b6, b7)) (by simp only [colS]; rw [h4, h5, h6, h7])
  simp only [Prod.mk.injEq] at e1
  obtain ⟨rfl, rfl, rfl, rfl⟩ := e1
  have e2 := colS_inj (c := (a8, a9, a10, a11)) (d := (b8, b9, b10, b11)) (by simp only [colS]; rw [h8, h9, h10, h11])
  simp only [Prod.mk.injEq] at e2
  obtain ⟨rfl, rfl, rfl, rfl⟩ := e2
  have e3 := colS_inj (c := (a12, a13, a14, a15)) (d := (b12, b13, b14, b15)) (by simp only [colS]; rw [h12, h13, h14, h15])
  simp only [Prod.mk.injEq] at e3
  obtain ⟨rfl, rfl, rfl, rfl⟩ := e3
  rfl
theorem rndT_inj {key a b : List By} {k : Nat} (hk : key.length = 16) (ha : a.length = 16) (hb : b.length = 16) (h : rndT (cipher key) a k = rndT (cipher key) b k) : a = b := by
  unfold rndT at h
  split at h
  · exact subS_inj hk ha hb (mixL_inj (subS_len _ _ _) (subS_len _ _ _) h)
  · exact subS_inj hk ha hb h
theorem encS_inj {key a b : List By} (hk : key.length = 16) (ha : a.length = 16) (hb : b.length = 16) (k : Nat) (h : encS (cipher key) a k = encS (cipher key) b k) : a = b := by
  induction k with
  | zero => exact addS_inj ha hb h
  | succ k ih =>
    simp only [encS] at h
    exact ih (rndT_inj hk (by rw [encS_len, ha]) (by rw [encS_len, hb]) (keyS_inj (by rw [encS_len, ha]) (by rw [encS_len, hb]) (rndT_len _ _ _) (rndT_len _ _ _) h))
theorem enc_apart (key a b : List By) (hk : key.length = 16) (ha : a.length = 16) (hb : b.length = 16) : decide (encL (cipher key) a = encL (cipher key) b) = decide (a = b) := by
  refine decide_eq_decide.mpr ⟨fun h => encS_inj hk ha hb 10 h, fun h => by rw [h]⟩
/-! ### a label's bytes -/
theorem labelS_bit (l : List By) (n w p : Nat) (hw : w < 2) (hp : p < 64) (hn : n ≤ 16) : ((labelS l n).getD w 0#64).getLsbD p = (decide (8 * w + p / 8 < n) && (l.getD (8 * w + p / 8) 0#8).getLsbD (p % 8)) := by
  induction n with
  | zero =>
    have : (labelS l 0).getD w 0#64 = 0#64 := by
      match w, hw with
      | 0, _ => rfl
      | 1, _ => rfl
    rw [this]; simp
  | succ n ih =>
    have ih := ih (by omega)
    simp only [labelS]
    rw [List.getD_eq_getElem?_getD, List.getElem?_set]
    by_cases e : n / 8 = w
    · rw [if_pos e, if_pos (by rw [labelS_len]; omega), Option.getD_some, e, BitVec.getLsbD_or, ih, BitVec.getLsbD_shiftLeft, BitVec.getLsbD_setWidth]
      by_cases f : p / 8 = n % 8
      · have e1 : 8 * w + p / 8 = n := by omega
        have e2 : p - 8 * (n % 8) = p % 8 := by omega
        rw [e1, e2]
        have h1 : decide (n < n) = false := decide_eq_false (by omega)
        have h2 : decide (p < 64) = true := decide_eq_true hp
        have h3 : decide (p < 8 * (n % 8)) = false := decide_eq_false (by omega)
        have h4 : decide (p % 8 < 64) = true := decide_eq_true (by omega)
        have h5 : decide (n < n + 1) = true := decide_eq_true (by omega)
        rw [h1, h2, h3, h4, h5]; simp
      · by_cases g : p / 8 < n % 8
        · have h3 : decide (p < 8 * (n % 8)) = true := decide_eq_true (by omega)
          have h1 : decide (8 * w + p / 8 < n) = true := decide_eq_true (by omega)
          have h5 : decide (8 * w + p / 8 < n + 1) = true := decide_eq_true (by omega)
          rw [h1, h3, h5]; simp
        · have h1 : decide (8 * w + p / 8 < n) = false := decide_eq_false (by omega)
          have h5 : decide (8 * w + p / 8 < n + 1) = false := decide_eq_false (by omega)
          have h6 : (l.getD n 0#8).getLsbD (p - 8 * (n % 8)) = false := BitVec.getLsbD_of_ge _ _ (by omega)
          rw [h1, h5, h6]; simp
    · rw [if_neg e, ← List.getD_eq_getElem?_getD, ih]
      congr 1
      rw [decide_eq_decide]; omega
theorem lab_byte (l : List By) (i : Nat) (hi : i < 16) : (((labelS l 16).getD (i / 8) 0#64) >>> (8 * (i % 8))).setWidth 8 = l.getD i 0#8 := by
  apply BitVec.eq_of_getLsbD_eq
  intro j hj
  rw [BitVec.getLsbD_setWidth, BitVec.getLsbD_ushiftRight, labelS_bit _ _ _ _ (by omega) (by omega) (by omega)]
  have e1 : 8 * (i / 8) + (8 * (i % 8) + j) / 8 = i := by omega
  have e2 : (8 * (i % 8) + j) % 8 = j := by omega
  rw [e1, e2]; simp [hi, hj]
theorem xor_back (s h : BitVec 64) : (s ^^^ h) ^^^ s = h := by rw [BitVec.xor_comm s h, BitVec.xor_assoc, BitVec.xor_self, BitVec.xor_zero]
theorem fb (s0 s1 h0 h1 : BitVec 64) (i : Nat) (hi : i < 16) : [s0 ^^^ h0, s1 ^^^ h1].getD (i / 8) 0#64 ^^^ [s0, s1].getD (i / 8) 0#64 = [h0, h1].getD (i / 8) 0#64 := by
  have h : i / 8 = 0 ∨ i / 8 = 1 := by omega
  rcases h with h | h <;> rw [h] <;> exact xor_back _ _
theorem hashL_eq (cl : List By) (a b tw : BitVec 64) : hashL cl a b tw = (((dbl a b).1 ^^^ tw) ^^^ (labelS (encL cl (bytesS ((dbl a b).1 ^^^ tw) (dbl a b).2 16)) 16).getD 0 0#64, (dbl a b).2 ^^^ (labelS (encL cl (bytesS ((dbl a b).1 ^^^ tw) (dbl a b).2 16)) 16).getD 1 0#64) := by
  simp only [hashL, hashS, BitVec.xor_zero]
theorem fixed_byte (cl : List By) (a b tw : BitVec 64) (i : Nat) (hi : i < 16) :
    (([(hashL cl a b tw).1, (hashL cl a b tw).2].getD (i / 8) 0#64 ^^^ [(dbl a b).1 ^^^ tw, (dbl a b).2].getD (i / 8) 0#64) >>> (8 * (i % 8))).setWidth 8 = (encL cl (bytesS ((dbl a b).1 ^^^ tw) (dbl a b).2 16)).getD i 0#8 := by
  rw [hashL_eq]
  generalize encL cl (bytesS ((dbl a b).1 ^^^ tw) (dbl a b).2 16) = E
  dsimp only
  rw [fb _ _ _ _ i hi, ← two_list (labelS_len E 16), lab_byte E i hi]
end Go.Proofs.YtkclklnfohaheaaDoor.AesSpec
