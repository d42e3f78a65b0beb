/- What the claim has need of: GarbLaw3, AesRefSpec, AesPlain, AesRefTab, AesRefPlain, AesRefWords, VcOpen, VcOpenS, VcOpenG, VcOpenT, VcOpenK. -/
import Derived.Test.YteofdmdpaejgaaaDoorGt1
import Derived.ProofKit
import Derived.OpenShut
import Derived.ShutString
import Derived.ChangeOld
import Derived.Deep.Slices
import Derived.SizedLaws
import Derived.Lib.SmallJoins
namespace Go.Proofs.YteofdmdpaejgaaaDoor.Gb
open Go Go.Proofs.YteofdmdpaejgaaaDoor.Vc Go.Proofs.YteofdmdpaejgaaaDoor.Circ
theorem col_rem (x : Lb) : (x.1 % 2#64 = 1#64) ↔ col x = true := by
  rw [rem_two, col]; exact decide_eq_true_iff.symm
theorem plus_yes {x b : Lb} {c : BitVec 64} (hc : c = x.1 % 2#64) (h : c = 1#64) : lw (col x) b = b := by
  rw [(col_rem x).1 (hc ▸ h)]; rfl
theorem plus_no {x b : Lb} {c : BitVec 64} (hc : c = x.1 % 2#64) (h : ¬ c = 1#64) : lw (col x) b = lb0 := by
  rw [Bool.eq_false_iff.2 fun e => h (hc.trans ((col_rem x).2 e))]; rfl
theorem col_even {x : Lb} (h : col x = false) : decide (x.1 % 2#64 = 0#64) = true := by
  rw [rem_two, and_one, ← col_bit, h]; rfl
theorem col_odd {x : Lb} (h : col x = true) : decide (x.1 % 2#64 = 0#64) = false := by
  rw [rem_two, and_one, ← col_bit, h]; rfl
section
variable (h : Lb → BitVec 64 → Lb) (δ a b x y : Lb) (s : BitVec 64)
theorem tabX_doc : tabX h δ a b s = lx (lx (h a s) (h (lx a δ) s)) (lw (col b) δ) := by
  rw [tabX, lsum3, lx_zero]
theorem tabY_doc : tabY h δ a b s = lx (lx (h b (s + 1#64)) (h (lx b δ) (s + 1#64))) a := by
  rw [tabY, lsum3, lx_zero]
theorem outG_doc : outG h a b x y s = lx (lx (h a s) (lw (col a) x)) (lx (h b (s + 1#64)) (lw (col b) (lx y a))) := by
  rw [outG, lsum4, lx_zero, lx_assoc (lx (h a s) (lw (col a) x))]
end
/-- the document's count of Ands, as a word -/
theorem kw_zero : (0#64 : BitVec 64) = BitVec.ofInt 64 ((0 : Nat) : Int) := by decide
theorem kw_next (m : Nat) : BitVec.ofInt 64 (m : Int) + 1#64 = BitVec.ofInt 64 ((m + 1 : Nat) : Int) := by
  rw [Int.natCast_add, BitVec.ofInt_add]; rfl
theorem kw_two (m : Nat) : 2#64 * BitVec.ofInt 64 (m : Int) = BitVec.ofInt 64 ((2 * m : Nat) : Int) := by
  rw [Int.natCast_mul, BitVec.ofInt_mul]; rfl
end Go.Proofs.YteofdmdpaejgaaaDoor.Gb
namespace Go.Proofs.YteofdmdpaejgaaaDoor.AesSpec
def invS (a : By) : Nat → By
  | 0 => 1#8
  | k + 1 => gm (invS a k) a
def sS (y : By) : Nat → By × By
  | 0 => (99#8, y)
  | k + 1 => ((sS y k).1 ^^^ (sS y k).2, (sS y k).2 * 2#8 + (sS y k).2 / 128#8)
def sR (a : By) : By := (sS (invS a 254) 5).1
def addR (a b : List By) : Nat → List By
  | 0 => List.replicate 16 0#8
  | i + 1 => (addR a b i).set i (a.getD i 0#8 ^^^ b.getD i 0#8)
theorem addR_len (a b : List By) (i : Nat) : (addR a b i).length = 16 := by
  induction i with
  | zero => simp [addR]
  | succ i ih => simp [addR, ih]
def mixRv (t : List By) (c r : Nat) : By := ((gm (t.getD (4 * c + r) 0#8) 2#8 ^^^ gm (t.getD (4 * c + (r + 1) % 4) 0#8) 3#8) ^^^ t.getD (4 * c + (r + 2) % 4) 0#8) ^^^ t.getD (4 * c + (r + 3) % 4) 0#8
def mixRI (t o : List By) (c : Nat) : Nat → List By
  | 0 => o
  | r + 1 => (mixRI t o c r).set (4 * c + r) (mixRv t c r)
def mixRS (t : List By) : Nat → List By
  | 0 => List.replicate 16 0#8
  | c + 1 => mixRI t (mixRS t c) c 4
theorem mixRI_len (t o : List By) (c r : Nat) : (mixRI t o c r).length = o.length := by
  induction r with
  | zero => rfl
  | succ r ih => simp [mixRI, ih]
theorem mixRS_len (t : List By) (c : Nat) : (mixRS t c).length = 16 := by
  induction c with
  | zero => simp [mixRS]
  | succ c ih => simp [mixRS, mixRI_len, ih]
def eightS (x : BitVec 64) : Nat → List By × BitVec 64
  | 0 => ([], x)
  | i + 1 => ((eightS x i).1 ++ [((eightS x i).2 % 256#64).setWidth 8], (eightS x i).2 / 256#64)
theorem eightS_len (x : BitVec 64) (i : Nat) : (eightS x i).1.length = i := by
  induction i with
  | zero => rfl
  | succ i ih => simp [eightS, ih]
def wholeS (b : List By) : Nat → BitVec 64
  | 0 => 0#64
  | k + 1 => wholeS b k * 256#64 + (b.getD (7 - k) 0#8).setWidth 64
def dblR (a b : BitVec 64) : BitVec 64 × BitVec 64 := (if (9223372036854775808#64).toNat ≤ b.toNat then (a * 2#64) ^^^ 135#64 else a * 2#64, b * 2#64 + a / 9223372036854775808#64)
def shRI (bx b o : List By) (c : Nat) : Nat → List By
  | 0 => o
  | r + 1 => (shRI bx b o c r).set (4 * c + r) (bx.getD (b.getD (4 * ((c + r) % 4) + r) 0#8).toNat 0#8)
def shRS (bx b : List By) : Nat → List By
  | 0 => List.replicate 16 0#8
  | c + 1 => shRI bx b (shRS bx b c) c 4
theorem shRI_len (bx b o : List By) (c r : Nat) : (shRI bx b o c r).length = o.length := by
  induction r with
  | zero => rfl
  | succ r ih => simp [shRI, ih]
theorem shRS_len (bx b : List By) (c : Nat) : (shRS bx b c).length = 16 := by
  induction c with
  | zero => simp [shRS]
  | succ c ih => simp [shRS, shRI_len, ih]
def rndR (bx b : List By) (k : Nat) : List By := if k < 10 then mixRS (shRS bx b 4) 4 else shRS bx b 4
theorem rndR_len (bx b : List By) (k : Nat) : (rndR bx b k).length = 16 := by
  unfold rndR; split
  · exact mixRS_len _ _
  · exact shRS_len _ _ _
def encR (ks bx b : List By) : Nat → List By
  | 0 => addR b ((ks.drop 0).take 16) 16
  | k + 1 => addR (rndR bx (encR ks bx b k) (k + 1)) ((ks.drop (16 * (k + 1))).take 16) 16
theorem encR_len (ks bx b : List By) (k : Nat) : (encR ks bx b k).length = 16 := by
  cases k <;> exact addR_len _ _ _
def boxR : Nat → List By
  | 0 => []
  | i + 1 => boxR i ++ [sR (BitVec.ofInt 8 (i : Nat))]
theorem boxR_len (i : Nat) : (boxR i).length = i := by
  induction i with
  | zero => rfl
  | succ i ih => simp [boxR, ih]
def expI (ks t : List By) (k : Nat) : Nat → List By
  | 0 => ks
  | r + 1 => expI ks t k r ++ [(expI ks t k r).getD (4 * k + r) 0#8 ^^^ t.getD r 0#8]
theorem expI_len (ks t : List By) (k r : Nat) : (expI ks t k r).length = ks.length + r := by
  induction r with
  | zero => rfl
  | succ r ih => simp [expI, ih, Nat.add_assoc]
def expS (ks : List By) (k : Nat) : List By := (ks.drop (4 * k + 12)).take 4
def expT (bx ks : List By) (p : By) (k : Nat) : List By :=
  if (k + 4) % 4 = 0 then [bx.getD ((expS ks k).getD 1 0#8).toNat 0#8 ^^^ p, bx.getD ((expS ks k).getD 2 0#8).toNat 0#8, bx.getD ((expS ks k).getD 3 0#8).toNat 0#8, bx.getD ((expS ks k).getD 0 0#8).toNat 0#8] else expS ks k
def expR (key bx : List By) : Nat → List By × By
  | 0 => ((key.drop 0).take 16, 1#8)
  | k + 1 => (expI (expR key bx k).1 (expT bx (expR key bx k).1 (expR key bx k).2 k) k 4, if (k + 4) % 4 = 0 then gm (expR key bx k).2 2#8 else (expR key bx k).2)
theorem expR_len (key bx : List By) (hk : key.length = 16) (k : Nat) : (expR key bx k).1.length = 16 + 4 * k := by
  induction k with
  | zero => simp [expR, hk]
  | succ k ih => simp [expR, expI_len, ih]; omega
theorem expS_len (ks : List By) (k : Nat) (h : ks.length = 16 + 4 * k) : (expS ks k).length = 4 := by
  rw [expS, List.length_take, List.length_drop, h]; omega
def sR0 (a b tw : BitVec 64) : BitVec 64 := (dblR a b).1 ^^^ tw
def hashE (ks bx : List By) (a b tw : BitVec 64) : List By := encR ks bx ((eightS (sR0 a b tw) 8).1 ++ (eightS (dblR a b).2 8).1) 10
def fixK : List By := [0#8, 1#8, 2#8, 3#8, 4#8, 5#8, 6#8, 7#8, 8#8, 9#8, 10#8, 11#8, 12#8, 13#8, 14#8, 15#8]
end Go.Proofs.YteofdmdpaejgaaaDoor.AesSpec
namespace Go.Proofs.YteofdmdpaejgaaaDoor.AesSpec
/-! ### the table -/
def tabL : List By := [99#8, 124#8, 119#8, 123#8, 242#8, 107#8, 111#8, 197#8, 48#8, 1#8, 103#8, 43#8, 254#8, 215#8, 171#8, 118#8, 202#8, 130#8, 201#8, 125#8, 250#8, 89#8, 71#8, 240#8, 173#8, 212#8, 162#8, 175#8, 156#8, 164#8, 114#8, 192#8, 183#8, 253#8, 147#8, 38#8, 54#8, 63#8, 247#8, 204#8, 52#8, 165#8, 229#8, 241#8, 113#8, 216#8, 49#8, 21#8, 4#8, 199#8, 35#8, 195#8, 24#8, 150#8, 5#8, 154#8, 7#8, 18#8, 128#8, 226#8, 235#8, 39#8, 178#8, 117#8, 9#8, 131#8, 44#8, 26#8, 27#8, 110#8, 90#8, 160#8, 82#8, 59#8, 214#8, 179#8, 41#8, 227#8, 47#8, 132#8, 83#8, 209#8, 0#8, 237#8, 32#8, 252#8, 177#8, 91#8, 106#8, 203#8, 190#8, 57#8, 74#8, 76#8, 88#8, 207#8, 208#8, 239#8, 170#8, 251#8, 67#8, 77#8, 51#8, 133#8, 69#8, 249#8, 2#8, 127#8, 80#8, 60#8, 159#8, 168#8, 81#8, 163#8, 64#8, 143#8, 146#8, 157#8, 56#8, 245#8, 188#8, 182#8, 218#8, 33#8, 16#8, 255#8, 243#8, 210#8, 205#8, 12#8, 19#8, 236#8, 95#8, 151#8, 68#8, 23#8, 196#8, 167#8, 126#8, 61#8, 100#8, 93#8, 25#8, 115#8, 96#8, 129#8, 79#8, 220#8, 34#8, 42#8, 144#8, 136#8, 70#8, 238#8, 184#8, 20#8, 222#8, 94#8, 11#8, 219#8, 224#8, 50#8, 58#8, 10#8, 73#8, 6#8, 36#8, 92#8, 194#8, 211#8, 172#8, 98#8, 145#8, 149#8, 228#8, 121#8, 231#8, 200#8, 55#8, 109#8, 141#8, 213#8, 78#8, 169#8, 108#8, 86#8, 244#8, 234#8, 101#8, 122#8, 174#8, 8#8, 186#8, 120#8, 37#8, 46#8, 28#8, 166#8, 180#8, 198#8, 232#8, 221#8, 116#8, 31#8, 75#8, 189#8, 139#8, 138#8, 112#8, 62#8, 181#8, 102#8, 72#8, 3#8, 246#8, 14#8, 97#8, 53#8, 87#8, 185#8, 134#8, 193#8, 29#8, 158#8, 225#8, 248#8, 152#8, 17#8, 105#8, 217#8, 142#8, 148#8, 155#8, 30#8, 135#8, 233#8, 206#8, 85#8, 40#8, 223#8, 140#8, 161#8, 137#8, 13#8, 191#8, 230#8, 66#8, 104#8, 65#8, 153#8, 45#8, 15#8, 176#8, 84#8, 187#8, 22#8]
theorem tab_eq : (fillL (List.replicate 432 0#8)).drop 176 = tabL := by decide +kernel
theorem getD_set {l : List By} {i j : Nat} {v d : By} (h : i < l.length) : (l.set i v).getD j d = if i = j then v else l.getD j d := by
  rw [List.getD_eq_getElem?_getD, List.getElem?_set, List.getD_eq_getElem?_getD]
  by_cases e : i = j
  · subst e; simp [h]
  · simp [e]
theorem getD_set_ne {l : List By} {i j : Nat} {v d : By} (h : i ≠ j) : (l.set i v).getD j d = l.getD j d := by
  rw [List.getD_eq_getElem?_getD, List.getElem?_set_ne h, List.getD_eq_getElem?_getD]
theorem innS_far (cl t : List By) (k i j : Nat) (h : k * 16 + i ≤ j) : (innS cl t k i).1.getD j 0#8 = cl.getD j 0#8 := by
  induction i with
  | zero => rfl
  | succ i ih => simp only [innS]; rw [getD_set_ne (by omega), ih (by omega)]
theorem newS_far (key : List By) (hk : key.length = 16) (k j : Nat) (h : k ≤ 10) : (newS key k).1.getD (176 + j) 0#8 = tabL.getD j 0#8 := by
  induction k with
  | zero =>
    rw [← tab_eq, newS_zero, List.getD_eq_getElem?_getD, List.getD_eq_getElem?_getD, List.getElem?_append_right (show key.length ≤ 176 + j by omega), List.getElem?_drop, List.getElem?_drop, hk]
    rw [show 16 + (176 + j - 16) = 176 + j by omega]
  | succ k ih => rw [newS_succ, innS_far _ _ _ _ _ (by omega), ih (by omega)]
theorem sbox (key : List By) (hk : key.length = 16) (j : Nat) : (cipher key).getD (176 + j) 0#8 = tabL.getD j 0#8 := newS_far key hk 10 j (by omega)
/-! ### two lists of a length are equal if all their places are -/
theorem list_getD {a b : List By} (ha : a.length = 16) (hb : b.length = 16) (h : ∀ i, i < 16 → a.getD i 0#8 = b.getD i 0#8) : a = b := by
  apply List.ext_getElem (by rw [ha, hb])
  intro i h1 h2
  have := h i (by omega)
  rwa [List.getD_eq_getElem?_getD, List.getElem?_eq_getElem h1, List.getD_eq_getElem?_getD, List.getElem?_eq_getElem h2] at this
theorem addS_at (cl b : List By) (i j : Nat) (h : i ≤ b.length) : (addS cl b i).getD j 0#8 = if j < i then b.getD j 0#8 ^^^ cl.getD j 0#8 else b.getD j 0#8 := by
  induction i with
  | zero => rfl
  | succ i ih =>
    simp only [addS]; rw [getD_set (by rw [addS_len]; omega)]
    by_cases e : i = j
    · subst e; rw [if_pos rfl, ih (by omega), if_neg (by omega), if_pos (by omega)]
    · rw [if_neg e, ih (by omega)]
      by_cases f : j < i
      · rw [if_pos f, if_pos (by omega)]
      · rw [if_neg f, if_neg (by omega)]
theorem keyS_at (cl t b : List By) (k i j : Nat) (h : i ≤ b.length) : (keyS cl t b k i).getD j 0#8 = if j < i then t.getD j 0#8 ^^^ cl.getD (k * 16 + j) 0#8 else b.getD j 0#8 := by
  induction i with
  | zero => rfl
  | succ i ih =>
    simp only [keyS]; rw [getD_set (by rw [keyS_len]; omega)]
    by_cases e : i = j
    · subst e; rw [if_pos rfl, if_pos (by omega)]
    · rw [if_neg e, ih (by omega)]
      by_cases f : j < i
      · rw [if_pos f, if_pos (by omega)]
      · rw [if_neg f, if_neg (by omega)]
theorem subS_at (cl b : List By) (i j : Nat) (h : i ≤ 16) (hj : j < i) : (subS cl b i).getD j 0#8 = cl.getD (176 + (b.getD ((j + 4 * (j % 4)) % 16) 0#8).toNat) 0#8 := by
  induction i with
  | zero => omega
  | succ i ih =>
    simp only [subS]; rw [getD_set (by rw [subS_len]; omega)]
    by_cases e : i = j
    · subst e; rw [if_pos rfl]
    · rw [if_neg e, ih (by omega) (by omega)]
/-! ### the mixing, four times, is nothing -/
theorem xt_add : ∀ a b : By, xt (a ^^^ b) = xt a ^^^ xt b := by decide +kernel
theorem xl (a b c : By) : a ^^^ (b ^^^ c) = b ^^^ (a ^^^ c) := by rw [← BitVec.xor_assoc, BitVec.xor_comm a b, BitVec.xor_assoc]
theorem mixL_eq (a0 a1 a2 a3 a4 a5 a6 a7 a8 a9 a10 a11 a12 a13 a14 a15 : By) : mixL [a0, a1, a2, a3, a4, a5, a6, a7, a8, a9, a10, a11, a12, a13, a14, a15] = [a0 ^^^ ((((a0 ^^^ a1) ^^^ a2) ^^^ a3) ^^^ xt (a0 ^^^ a1)), a1 ^^^ ((((a0 ^^^ a1) ^^^ a2) ^^^ a3) ^^^ xt (a1 ^^^ a2)), a2 ^^^ ((((a0 ^^^ a1) ^^^ a2) ^^^ a3) ^^^ xt (a2 ^^^ a3)), a3 ^^^ ((((a0 ^^^ a1) ^^^ a2) ^^^ a3) ^^^ xt (a3 ^^^ a0)), a4 ^^^ ((((a4 ^^^ a5) ^^^ a6) ^^^ a7) ^^^ xt (a4 ^^^ a5)), a5 ^^^ ((((a4 ^^^ a5) ^^^ a6) ^^^ a7) ^^^ xt (a5 ^^^ a6)), a6 ^^^ ((((a4 ^^^ a5) ^^^ a6) ^^^ a7) ^^^ xt (a6 ^^^ a7)), a7 ^^^ ((((a4 ^^^ a5) ^^^ a6) ^^^ a7) ^^^ xt (a7 ^^^ a4)), a8 ^^^ ((((a8 ^^^ a9) ^^^ a10) ^^^ a11) ^^^ xt (a8 ^^^ a9)), a9 ^^^ ((((a8 ^^^ a9) ^^^ a10) ^^^ a11) ^^^ xt (a9 ^^^ a10)), a10 ^^^ ((((a8 ^^^ a9) ^^^ a10) ^^^ a11) ^^^ xt (a10 ^^^ a11)), a11 ^^^ ((((a8 ^^^ a9) ^^^ a10) ^^^ a11) ^^^ xt (a11 ^^^ a8)), a12 ^^^ ((((a12 ^^^ a13) ^^^ a14) ^^^ a15) ^^^ xt (a12 ^^^ a13)), a13 ^^^ ((((a12 ^^^ a13) ^^^ a14) ^^^ a15) ^^^ xt (a13 ^^^ a14)), a14 ^^^ ((((a12 ^^^ a13) ^^^ a14) ^^^ a15) ^^^ xt (a14 ^^^ a15)), a15 ^^^ ((((a12 ^^^ a13) ^^^ a14) ^^^ a15) ^^^ xt (a15 ^^^ a12))] := by
  simp [mixL, mixS, mixI, mixA, allOf]
theorem list16 {l : List By} (h : l.length = 16) : ∃ a0 a1 a2 a3 a4 a5 a6 a7 a8 a9 a10 a11 a12 a13 a14 a15, l = [a0, a1, a2, a3, a4, a5, a6, a7, a8, a9, a10, a11, a12, a13, a14, a15] := by
  match l, h with
  | [a0, a1, a2, a3, a4, a5, a6, a7, a8, a9, a10, a11, a12, a13, a14, a15], _ => exact ⟨a0, a1, a2, a3, a4, a5, a6, a7, a8, a9, a10, a11, a12, a13, a14, a15, rfl⟩
/-! ### a label's bytes -/
theorem labelS_bit (l : List By) (n w p : Nat) (hw : w < 2) (hp : p < 64) (hn : n ≤ 16) : ((labelS l n).getD w 0#64).getLsbD p = (decide (8 * w + p / 8 < n) && (l.getD (8 * w + p / 8) 0#8).getLsbD (p % 8)) := by
  induction n with
  | zero =>
    have : (labelS l 0).getD w 0#64 = 0#64 := by
      match w, hw with
      | 0, _ => rfl
      | 1, _ => rfl
    rw [this]; simp
  | succ n ih =>
    have ih := ih (by omega)
    simp only [labelS]
    rw [List.getD_eq_getElem?_getD, List.getElem?_set]
    by_cases e : n / 8 = w
    · rw [if_pos e, if_pos (by rw [labelS_len]; omega), Option.getD_some, e, BitVec.getLsbD_or, ih, BitVec.getLsbD_shiftLeft, BitVec.getLsbD_setWidth]
      by_cases f : p / 8 = n % 8
      · have e1 : 8 * w + p / 8 = n := by omega
        have e2 : p - 8 * (n % 8) = p % 8 := by omega
        rw [e1, e2]
        have h1 : decide (n < n) = false := decide_eq_false (by omega)
        have h2 : decide (p < 64) = true := decide_eq_true hp
        have h3 : decide (p < 8 * (n % 8)) = false := decide_eq_false (by omega)
        have h4 : decide (p % 8 < 64) = true := decide_eq_true (by omega)
        have h5 : decide (n < n + 1) = true := decide_eq_true (by omega)
        rw [h1, h2, h3, h4, h5]; simp
      · by_cases g : p / 8 < n % 8
        · have h3 : decide (p < 8 * (n % 8)) = true := decide_eq_true (by omega)
          have h1 : decide (8 * w + p / 8 < n) = true := decide_eq_true (by omega)
          have h5 : decide (8 * w + p / 8 < n + 1) = true := decide_eq_true (by omega)
          rw [h1, h3, h5]; simp
        · have h1 : decide (8 * w + p / 8 < n) = false := decide_eq_false (by omega)
          have h5 : decide (8 * w + p / 8 < n + 1) = false := decide_eq_false (by omega)
          have h6 : (l.getD n 0#8).getLsbD (p - 8 * (n % 8)) = false := BitVec.getLsbD_of_ge _ _ (by omega)
          rw [h1, h5, h6]; simp
    · rw [if_neg e, ← List.getD_eq_getElem?_getD, ih]
      congr 1
      rw [decide_eq_decide]; omega
theorem hashL_eq (cl : List By) (a b tw : BitVec 64) : hashL cl a b tw = (((dbl a b).1 ^^^ tw) ^^^ (labelS (encL cl (bytesS ((dbl a b).1 ^^^ tw) (dbl a b).2 16)) 16).getD 0 0#64, (dbl a b).2 ^^^ (labelS (encL cl (bytesS ((dbl a b).1 ^^^ tw) (dbl a b).2 16)) 16).getD 1 0#64) := by
  simp only [hashL, hashS, BitVec.xor_zero]
end Go.Proofs.YteofdmdpaejgaaaDoor.AesSpec
namespace Go.Proofs.YteofdmdpaejgaaaDoor.AesSpec
set_option maxRecDepth 100000 in
theorem box_tab : boxR 256 = tabL := by decide +kernel
theorem gm_two : ∀ p : By, gm p 2#8 = xt p := by decide +kernel
theorem gm_three : ∀ p : By, gm p 3#8 = xt p ^^^ p := by decide +kernel
end Go.Proofs.YteofdmdpaejgaaaDoor.AesSpec
namespace Go.Proofs.YteofdmdpaejgaaaDoor.AesSpec
/-! ### a block -/
theorem addR_at (a b : List By) (i j : Nat) (h : i ≤ 16) (hj : j < i) : (addR a b i).getD j 0#8 = a.getD j 0#8 ^^^ b.getD j 0#8 := by
  induction i with
  | zero => omega
  | succ i ih =>
    simp only [addR]; rw [getD_set (by rw [addR_len]; omega)]
    by_cases e : i = j
    · subst e; rw [if_pos rfl]
    · rw [if_neg e, ih (by omega) (by omega)]
theorem shRI_at (bx b o : List By) (c r j : Nat) (ho : o.length = 16) (hc : c < 4) (hr : r ≤ 4) : (shRI bx b o c r).getD j 0#8 = if 4 * c ≤ j ∧ j < 4 * c + r then bx.getD (b.getD (4 * ((c + (j - 4 * c)) % 4) + (j - 4 * c)) 0#8).toNat 0#8 else o.getD j 0#8 := by
  induction r with
  | zero => rw [if_neg (by omega)]; rfl
  | succ r ih =>
    simp only [shRI]; rw [getD_set (by rw [shRI_len, ho]; omega)]
    by_cases e : 4 * c + r = j
    · subst e; rw [if_pos rfl, if_pos (by omega), Nat.add_sub_cancel_left]
    · rw [if_neg e, ih (by omega)]
      by_cases f : 4 * c ≤ j ∧ j < 4 * c + r
      · rw [if_pos f, if_pos (by omega)]
      · rw [if_neg f, if_neg (by omega)]
theorem shRS_at (bx b : List By) (c j : Nat) (hc : c ≤ 4) (hj : j < 4 * c) : (shRS bx b c).getD j 0#8 = bx.getD (b.getD ((j + 4 * (j % 4)) % 16) 0#8).toNat 0#8 := by
  induction c with
  | zero => omega
  | succ c ih =>
    simp only [shRS]; rw [shRI_at _ _ _ _ _ _ (shRS_len _ _ _) (by omega) (by omega)]
    by_cases f : 4 * c ≤ j ∧ j < 4 * c + 4
    · rw [if_pos f, show 4 * ((c + (j - 4 * c)) % 4) + (j - 4 * c) = (j + 4 * (j % 4)) % 16 by omega]
    · rw [if_neg f, ih (by omega) (by omega)]
theorem mixRI_at (t o : List By) (c r j : Nat) (ho : o.length = 16) (hc : c < 4) (hr : r ≤ 4) : (mixRI t o c r).getD j 0#8 = if 4 * c ≤ j ∧ j < 4 * c + r then mixRv t c (j - 4 * c) else o.getD j 0#8 := by
  induction r with
  | zero => rw [if_neg (by omega)]; rfl
  | succ r ih =>
    simp only [mixRI]; rw [getD_set (by rw [mixRI_len, ho]; omega)]
    by_cases e : 4 * c + r = j
    · subst e; rw [if_pos rfl, if_pos (by omega), Nat.add_sub_cancel_left]
    · rw [if_neg e, ih (by omega)]
      by_cases f : 4 * c ≤ j ∧ j < 4 * c + r
      · rw [if_pos f, if_pos (by omega)]
      · rw [if_neg f, if_neg (by omega)]
theorem mixRS_at (t : List By) (c j : Nat) (hc : c ≤ 4) (hj : j < 4 * c) : (mixRS t c).getD j 0#8 = mixRv t (j / 4) (j % 4) := by
  induction c with
  | zero => omega
  | succ c ih =>
    simp only [mixRS]; rw [mixRI_at _ _ _ _ _ (mixRS_len _ _) (by omega) (by omega)]
    by_cases f : 4 * c ≤ j ∧ j < 4 * c + 4
    · rw [if_pos f, show j / 4 = c by omega, show j % 4 = j - 4 * c by omega]
    · rw [if_neg f, ih (by omega) (by omega)]
theorem col (a b c d : By) : a ^^^ ((((a ^^^ b) ^^^ c) ^^^ d) ^^^ xt (a ^^^ b)) = ((gm a 2#8 ^^^ gm b 3#8) ^^^ c) ^^^ d := by
  rw [gm_two, gm_three, xt_add]
  have : ∀ (a b c d x y : By), a ^^^ ((((a ^^^ b) ^^^ c) ^^^ d) ^^^ (x ^^^ y)) = ((x ^^^ (y ^^^ b)) ^^^ c) ^^^ d := fun a b c d x y => by
    have e : a ^^^ ((((a ^^^ b) ^^^ c) ^^^ d) ^^^ (x ^^^ y)) = (a ^^^ a) ^^^ (((x ^^^ (y ^^^ b)) ^^^ c) ^^^ d) := by ac_rfl
    rw [e, BitVec.xor_self, BitVec.zero_xor]
  exact this ..
theorem mix_eq {l : List By} (h : l.length = 16) : mixL l = mixRS l 4 := by
  refine list_getD (by rw [mixL_len, h]) (mixRS_len _ _) fun i hi => ?_
  rw [mixRS_at _ _ _ (by omega) (by omega)]
  obtain ⟨a0, a1, a2, a3, a4, a5, a6, a7, a8, a9, a10, a11, a12, a13, a14, a15, rfl⟩ := list16 h
  rw [mixL_eq]
  have hc : i = 0 ∨ i = 1 ∨ i = 2 ∨ i = 3 ∨ i = 4 ∨ i = 5 ∨ i = 6 ∨ i = 7 ∨ i = 8 ∨ i = 9 ∨ i = 10 ∨ i = 11 ∨ i = 12 ∨ i = 13 ∨ i = 14 ∨ i = 15 := by omega
  have p2 : ∀ a b c d : By, b ^^^ ((((a ^^^ b) ^^^ c) ^^^ d) ^^^ xt (b ^^^ c)) = ((gm b 2#8 ^^^ gm c 3#8) ^^^ d) ^^^ a := fun a b c d => by rw [← col]; congr 2; ac_rfl
  have p3 : ∀ a b c d : By, c ^^^ ((((a ^^^ b) ^^^ c) ^^^ d) ^^^ xt (c ^^^ d)) = ((gm c 2#8 ^^^ gm d 3#8) ^^^ a) ^^^ b := fun a b c d => by rw [← col]; congr 2; ac_rfl
  have p4 : ∀ a b c d : By, d ^^^ ((((a ^^^ b) ^^^ c) ^^^ d) ^^^ xt (d ^^^ a)) = ((gm d 2#8 ^^^ gm a 3#8) ^^^ b) ^^^ c := fun a b c d => by rw [← col]; congr 2; ac_rfl
  rcases hc with rfl | rfl | rfl | rfl | rfl | rfl | rfl | rfl | rfl | rfl | rfl | rfl | rfl | rfl | rfl | rfl
  · exact col a0 a1 a2 a3
  · exact p2 a0 a1 a2 a3
  · exact p3 a0 a1 a2 a3
  · exact p4 a0 a1 a2 a3
  · exact col a4 a5 a6 a7
  · exact p2 a4 a5 a6 a7
  · exact p3 a4 a5 a6 a7
  · exact p4 a4 a5 a6 a7
  · exact col a8 a9 a10 a11
  · exact p2 a8 a9 a10 a11
  · exact p3 a8 a9 a10 a11
  · exact p4 a8 a9 a10 a11
  · exact col a12 a13 a14 a15
  · exact p2 a12 a13 a14 a15
  · exact p3 a12 a13 a14 a15
  · exact p4 a12 a13 a14 a15
/-! ### the round keys -/
theorem innS_low (cl t : List By) (k i j : Nat) (h : j < k * 16) : (innS cl t k i).1.getD j 0#8 = cl.getD j 0#8 := by
  induction i with
  | zero => rfl
  | succ i ih => simp only [innS]; rw [getD_set_ne (by omega), ih]
theorem innS_at (cl t : List By) (k n : Nat) (hk : 1 ≤ k) (hcl : k * 16 + 16 ≤ cl.length) (ht : t.length = 4) (hn : n ≤ 16) :
    (∀ j, j < n → (innS cl t k n).1.getD (k * 16 + j) 0#8 = (if j < 4 then t.getD j 0#8 else (innS cl t k n).1.getD (k * 16 + (j - 4)) 0#8) ^^^ cl.getD ((k - 1) * 16 + j) 0#8)
    ∧ ∀ r, r < 4 → (innS cl t k n).2.getD r 0#8 = if n ≤ r then t.getD r 0#8 else (innS cl t k n).1.getD (k * 16 + (r + 4 * ((n - 1 - r) / 4))) 0#8 := by
  induction n with
  | zero => exact ⟨fun j hj => by omega, fun r hr => by rw [if_pos (Nat.zero_le _)]; rfl⟩
  | succ n ih =>
    obtain ⟨h1, h2⟩ := ih (by omega)
    have hv : ((innS cl t k n).2.set (n % 4) ((innS cl t k n).2.getD (n % 4) 0#8 ^^^ (innS cl t k n).1.getD ((k - 1) * 16 + n) 0#8)).getD (n % 4) 0#8 = (if n < 4 then t.getD n 0#8 else (innS cl t k n).1.getD (k * 16 + (n - 4)) 0#8) ^^^ cl.getD ((k - 1) * 16 + n) 0#8 := by
      rw [getD_set (by rw [(innS_len _ _ _ _).2, ht]; omega), if_pos rfl, h2 _ (by omega), innS_low cl t k n ((k - 1) * 16 + n) (by omega)]
      by_cases e : n < 4
      · rw [if_pos (by omega), if_pos e, Nat.mod_eq_of_lt e]
      · rw [if_neg (by omega), if_neg e, show n % 4 + 4 * ((n - 1 - n % 4) / 4) = n - 4 by omega]
    constructor
    · intro j hj
      simp only [innS]
      by_cases e : j = n
      · subst e
        rw [getD_set (by rw [(innS_len _ _ _ _).1]; omega), if_pos rfl, hv]
        by_cases f : j < 4
        · rw [if_pos f, if_pos f]
        · rw [if_neg f, if_neg f, getD_set_ne (by omega)]
      · rw [getD_set_ne (by omega), h1 j (by omega)]
        by_cases f : j < 4
        · rw [if_pos f, if_pos f]
        · rw [if_neg f, if_neg f, getD_set_ne (by omega)]
    · intro r hr
      simp only [innS]
      by_cases e : n % 4 = r
      · subst e
        rw [if_neg (by omega), show n % 4 + 4 * ((n + 1 - 1 - n % 4) / 4) = n by omega, getD_set (l := (innS cl t k n).1) (by rw [(innS_len _ _ _ _).1]; omega), if_pos rfl]
      · rw [getD_set_ne e, h2 r hr]
        by_cases f : n ≤ r
        · rw [if_pos f, if_pos (by omega)]
        · rw [if_neg f, if_neg (by omega), getD_set_ne (by omega), show (n + 1 - 1 - r) / 4 = (n - 1 - r) / 4 by omega]
theorem newS_low (key : List By) (k d j : Nat) (h : j < (k + 1) * 16) : (newS key (k + d)).1.getD j 0#8 = (newS key k).1.getD j 0#8 := by
  induction d with
  | zero => rw [Nat.add_zero]
  | succ d ih =>
    have hj : j < (k + d + 1) * 16 := Nat.lt_of_lt_of_le h (Nat.mul_le_mul_right 16 (by omega))
    have h1 : (newS key (k + d + 1)).1.getD j 0#8 = (newS key (k + d)).1.getD j 0#8 := by rw [newS_succ]; exact innS_low _ _ _ _ _ hj
    exact h1.trans ih
theorem cipher_low (key : List By) (k j : Nat) (hk : k ≤ 10) (h : j < (k + 1) * 16) : (cipher key).getD j 0#8 = (newS key k).1.getD j 0#8 := by
  have := newS_low key k (10 - k) j h; rwa [show k + (10 - k) = 10 by omega] at this
/-- the power of a round -/
def pwS : Nat → By
  | 0 => 1#8
  | k + 1 => xt (pwS k)
theorem newS_pw (key : List By) (k : Nat) : (newS key k).2 = pwS k := by
  induction k with
  | zero => rfl
  | succ k ih => simp only [newS, pwS, ih]
/-- the round keys' law, at the program's -/
theorem cipher_step (key : List By) (hk : key.length = 16) (k i : Nat) (h : k < 10) (hi : i < 16) :
    (cipher key).getD ((k + 1) * 16 + i) 0#8 = (if i < 4 then [tabL.getD ((cipher key).getD (k * 16 + 13) 0#8).toNat 0#8 ^^^ pwS k, tabL.getD ((cipher key).getD (k * 16 + 14) 0#8).toNat 0#8, tabL.getD ((cipher key).getD (k * 16 + 15) 0#8).toNat 0#8, tabL.getD ((cipher key).getD (k * 16 + 12) 0#8).toNat 0#8].getD i 0#8 else (cipher key).getD ((k + 1) * 16 + (i - 4)) 0#8) ^^^ (cipher key).getD (k * 16 + i) 0#8 := by
  rw [cipher_low key (k + 1) _ (by omega) (by omega), newS_succ]
  obtain ⟨h1, _⟩ := innS_at (newS key k).1 (t0 (newS key k).1 (k + 1) (newS key k).2) (k + 1) 16 (by omega) (by rw [newS_len key hk]; omega) rfl (Nat.le_refl _)
  rw [h1 i hi, Nat.add_sub_cancel, ← cipher_low key k _ (by omega) (by omega)]
  refine congrArg (fun x => x ^^^ (cipher key).getD (k * 16 + i) 0#8) ?_
  by_cases e : i < 4
  · rw [if_pos e, if_pos e, t0, newS_far key hk _ _ (by omega), newS_far key hk _ _ (by omega), newS_far key hk _ _ (by omega), newS_far key hk _ _ (by omega), newS_pw, Nat.add_sub_cancel,
      ← cipher_low key k _ (by omega) (by omega), ← cipher_low key k _ (by omega) (by omega), ← cipher_low key k _ (by omega) (by omega), ← cipher_low key k _ (by omega) (by omega)]
  · rw [if_neg e, if_neg e, ← newS_succ, ← cipher_low key (k + 1) _ (by omega) (by omega)]
theorem getD_app {a b : List By} {i : Nat} {d : By} (h : i < a.length) : (a ++ b).getD i d = a.getD i d := by
  rw [List.getD_eq_getElem?_getD, List.getElem?_append_left h, List.getD_eq_getElem?_getD]
theorem getD_app2 {a b : List By} {i : Nat} {d : By} (h : a.length ≤ i) : (a ++ b).getD i d = b.getD (i - a.length) d := by
  rw [List.getD_eq_getElem?_getD, List.getElem?_append_right h, List.getD_eq_getElem?_getD]
theorem expI_low (ks t : List By) (k r j : Nat) (h : j < ks.length) : (expI ks t k r).getD j 0#8 = ks.getD j 0#8 := by
  induction r with
  | zero => rfl
  | succ r ih => simp only [expI]; rw [getD_app (by rw [expI_len]; omega), ih]
theorem expI_at (ks t : List By) (k r j : Nat) (hl : ks.length = 16 + 4 * k) (hj : j < r) (hr : r ≤ 4) : (expI ks t k r).getD (16 + 4 * k + j) 0#8 = ks.getD (4 * k + j) 0#8 ^^^ t.getD j 0#8 := by
  induction r with
  | zero => omega
  | succ r ih =>
    simp only [expI]
    by_cases e : j = r
    · subst e
      rw [getD_app2 (by rw [expI_len]; omega), expI_len, hl, Nat.sub_self, expI_low _ _ _ _ _ (by omega)]; rfl
    · rw [getD_app (by rw [expI_len]; omega), ih (by omega) (by omega)]
theorem expR_low (key bx : List By) (hk : key.length = 16) (k d j : Nat) (h : j < 16 + 4 * k) : (expR key bx (k + d)).1.getD j 0#8 = (expR key bx k).1.getD j 0#8 := by
  induction d with
  | zero => rw [Nat.add_zero]
  | succ d ih => rw [← Nat.add_assoc, expR]; dsimp only; rw [expI_low _ _ _ _ _ (by rw [expR_len _ _ hk]; omega), ih]
theorem expR_to (key bx : List By) (hk : key.length = 16) (k j : Nat) (hk4 : k ≤ 40) (h : j < 16 + 4 * k) : (expR key bx k).1.getD j 0#8 = (expR key bx 40).1.getD j 0#8 := by
  have := expR_low key bx hk k (40 - k) j h; rw [show k + (40 - k) = 40 by omega] at this; exact this.symm
theorem expR_pw (key bx : List By) (m : Nat) : (expR key bx m).2 = pwS ((m + 3) / 4) := by
  induction m with
  | zero => rfl
  | succ m ih =>
    rw [expR]; dsimp only
    by_cases e : (m + 4) % 4 = 0
    · rw [if_pos e, gm_two, ih, show (m + 1 + 3) / 4 = (m + 3) / 4 + 1 by omega]; rfl
    · rw [if_neg e, ih, show (m + 1 + 3) / 4 = (m + 3) / 4 by omega]
theorem expS_at (ks : List By) (k r : Nat) (hr : r < 4) : (expS ks k).getD r 0#8 = ks.getD (4 * k + 12 + r) 0#8 := by
  rw [expS, List.getD_eq_getElem?_getD, List.getElem?_take, if_pos hr, List.getElem?_drop, List.getD_eq_getElem?_getD]
/-- the round keys' law, at the document's -/
theorem exp_step (key bx : List By) (hk : key.length = 16) (m r : Nat) (hm : m < 40) (hr : r < 4) :
    (expR key bx 40).1.getD (16 + 4 * m + r) 0#8 = (expR key bx 40).1.getD (4 * m + r) 0#8 ^^^ (if m % 4 = 0 then [bx.getD ((expR key bx 40).1.getD (4 * m + 13) 0#8).toNat 0#8 ^^^ pwS (m / 4), bx.getD ((expR key bx 40).1.getD (4 * m + 14) 0#8).toNat 0#8, bx.getD ((expR key bx 40).1.getD (4 * m + 15) 0#8).toNat 0#8, bx.getD ((expR key bx 40).1.getD (4 * m + 12) 0#8).toNat 0#8].getD r 0#8 else (expR key bx 40).1.getD (4 * m + 12 + r) 0#8) := by
  have hl := expR_len key bx hk m
  rw [← expR_to key bx hk (m + 1) _ (by omega) (by omega), expR]; dsimp only
  rw [expI_at _ _ _ _ _ hl hr (Nat.le_refl _), expR_to key bx hk m _ (by omega) (by omega)]
  congr 1
  rw [expT]
  by_cases e : m % 4 = 0
  · rw [if_pos (by omega), if_pos e, expS_at _ _ _ (by omega), expS_at _ _ _ (by omega), expS_at _ _ _ (by omega), expS_at _ _ _ (by omega), expR_pw, show (m + 3) / 4 = m / 4 by omega,
      expR_to key bx hk m _ (by omega) (by omega), expR_to key bx hk m _ (by omega) (by omega), expR_to key bx hk m _ (by omega) (by omega), expR_to key bx hk m _ (by omega) (by omega)]
  · rw [if_neg (by omega), if_neg e, expS_at _ _ _ hr, expR_to key bx hk m _ (by omega) (by omega)]
theorem keys_eq (key : List By) (hk : key.length = 16) : ∀ i, i < 176 → (expR key tabL 40).1.getD i 0#8 = (cipher key).getD i 0#8 := by
  intro i
  induction i using Nat.strongRecOn with
  | ind i ih =>
    intro hi
    by_cases e : i < 16
    · rw [← expR_to key tabL hk 0 _ (by omega) (by omega), cipher_low key 0 _ (by omega) (by omega), expR, newS_zero, getD_app (by omega)]
      dsimp only
      rw [List.drop_zero, List.take_of_length_le (by omega)]
    · have h1 := exp_step key tabL hk ((i - 16) / 4) ((i - 16) % 4) (by omega) (by omega)
      have h2 := cipher_step key hk ((i - 16) / 16) ((i - 16) % 16) (by omega) (by omega)
      rw [show 16 + 4 * ((i - 16) / 4) + (i - 16) % 4 = i by omega] at h1
      rw [show ((i - 16) / 16 + 1) * 16 + (i - 16) % 16 = i by omega] at h2
      rw [h1, h2, show 4 * ((i - 16) / 4) + (i - 16) % 4 = i - 16 by omega, show (i - 16) / 16 * 16 + (i - 16) % 16 = i - 16 by omega, ih (i - 16) (by omega) (by omega), BitVec.xor_comm]
      refine congrArg (fun x => x ^^^ (cipher key).getD (i - 16) 0#8) ?_
      by_cases f : (i - 16) / 4 % 4 = 0
      · have g : (i - 16) % 16 < 4 := by omega
        rw [if_pos f, if_pos g, show 4 * ((i - 16) / 4) = (i - 16) / 16 * 16 by omega, show (i - 16) / 4 / 4 = (i - 16) / 16 by omega, show (i - 16) % 4 = (i - 16) % 16 by omega,
          ih _ (by omega) (by omega), ih _ (by omega) (by omega), ih _ (by omega) (by omega), ih _ (by omega) (by omega)]
      · rw [if_neg f, if_neg (by omega), ih _ (by omega) (by omega), show 4 * ((i - 16) / 4) + 12 + (i - 16) % 4 = ((i - 16) / 16 + 1) * 16 + ((i - 16) % 16 - 4) by omega]
theorem row_at (ks : List By) (k j : Nat) (hj : j < 16) : ((ks.drop k).take 16).getD j 0#8 = ks.getD (k + j) 0#8 := by
  rw [List.getD_eq_getElem?_getD, List.getElem?_take, if_pos hj, List.getElem?_drop, List.getD_eq_getElem?_getD]
/-! ### the block's cipher -/
theorem enc_eq (key b : List By) (hk : key.length = 16) (hb : b.length = 16) : encR (expR key (boxR 256) 40).1 (boxR 256) b 10 = encL (cipher key) b := by
  rw [box_tab]
  suffices h : ∀ k, k ≤ 10 → encR (expR key tabL 40).1 tabL b k = encS (cipher key) b k from h 10 (Nat.le_refl _)
  intro k
  induction k with
  | zero =>
    intro _
    refine list_getD (encR_len _ _ _ _) (by rw [encS_len, hb]) fun i hi => ?_
    rw [encR, encS, addR_at _ _ _ _ (Nat.le_refl _) hi, addS_at _ _ _ _ (by omega), if_pos hi, row_at _ _ _ hi, keys_eq key hk _ (by omega), Nat.zero_add]
  | succ k ih =>
    intro h
    have hl : (encS (cipher key) b k).length = 16 := by rw [encS_len, hb]
    have h1 : shRS tabL (encS (cipher key) b k) 4 = subS (cipher key) (encS (cipher key) b k) 16 := by
      refine list_getD (shRS_len _ _ _) (subS_len _ _ _) fun i hi => ?_
      rw [shRS_at _ _ _ _ (Nat.le_refl _) (by omega), subS_at _ _ _ _ (Nat.le_refl _) hi, sbox key hk]
    have h2 : rndR tabL (encS (cipher key) b k) (k + 1) = rndT (cipher key) (encS (cipher key) b k) (k + 1) := by
      rw [rndR, rndT, h1]; split
      · rw [mix_eq (subS_len _ _ _)]
      · rfl
    refine list_getD (encR_len _ _ _ _) (by rw [encS_len, hb]) fun i hi => ?_
    rw [encR, encS, ih (by omega), h2, addR_at _ _ _ _ (Nat.le_refl _) hi, keyS_at _ _ _ _ _ _ (by omega), if_pos hi, row_at _ _ _ hi, keys_eq key hk _ (by omega), Nat.mul_comm 16 (k + 1)]
end Go.Proofs.YteofdmdpaejgaaaDoor.AesSpec
namespace Go.Proofs.YteofdmdpaejgaaaDoor.AesSpec
theorem bytesS_at (a b : BitVec 64) (i j : Nat) (hi : i ≤ 16) (hj : j < i) : (bytesS a b i).getD j 0#8 = (([a, b].getD (j / 8) 0#64) >>> (8 * (j % 8))).setWidth 8 := by
  induction i with
  | zero => omega
  | succ i ih =>
    simp only [bytesS]; rw [getD_set (by rw [bytesS_len]; omega)]
    by_cases e : i = j
    · subst e; rw [if_pos rfl]
    · rw [if_neg e, ih (by omega) (by omega)]
theorem eightS_two (x : BitVec 64) (j : Nat) : (eightS x j).2 = x >>> (8 * j) := by
  induction j with
  | zero => simp [eightS]
  | succ j ih =>
    simp only [eightS, ih]
    apply BitVec.eq_of_toNat_eq
    rw [BitVec.toNat_udiv, BitVec.toNat_ushiftRight, BitVec.toNat_ushiftRight, Nat.shiftRight_eq_div_pow, Nat.shiftRight_eq_div_pow, Nat.mul_add, Nat.pow_add, ← Nat.div_div_eq_div_mul]
    rfl
theorem low8 (y : BitVec 64) : (y % 256#64).setWidth 8 = y.setWidth 8 := by
  apply BitVec.eq_of_toNat_eq
  rw [BitVec.toNat_setWidth, BitVec.toNat_setWidth, BitVec.toNat_umod]
  show y.toNat % 256 % 2 ^ 8 = y.toNat % 2 ^ 8
  omega
theorem eightS_at (x : BitVec 64) (i j : Nat) (hj : j < i) : (eightS x i).1.getD j 0#8 = (x >>> (8 * j)).setWidth 8 := by
  induction i with
  | zero => omega
  | succ i ih =>
    simp only [eightS]
    by_cases e : j = i
    · subst e; rw [getD_app2 (by rw [eightS_len]; omega), eightS_len, Nat.sub_self, eightS_two, low8]; rfl
    · rw [getD_app (by rw [eightS_len]; omega), ih (by omega)]
theorem bytes_eq (a b : BitVec 64) : (eightS a 8).1 ++ (eightS b 8).1 = bytesS a b 16 := by
  refine list_getD (by rw [List.length_append, eightS_len, eightS_len]) (bytesS_len _ _ _) fun i hi => ?_
  rw [bytesS_at _ _ _ _ (Nat.le_refl _) hi]
  by_cases e : i < 8
  · rw [getD_app (by rw [eightS_len]; exact e), eightS_at _ _ _ e, show i / 8 = 0 by omega, show i % 8 = i by omega]; rfl
  · rw [getD_app2 (by rw [eightS_len]; omega), eightS_len, eightS_at _ _ _ (by omega), show i / 8 = 1 by omega, show i % 8 = i - 8 by omega]; rfl
theorem step_bit (X : BitVec 64) (c : BitVec 8) (p : Nat) (hp : p < 64) : (X * 256#64 + c.setWidth 64).getLsbD p = if p < 8 then c.getLsbD p else X.getLsbD (p - 8) := by
  have h : (X * 256#64 + c.setWidth 64).toNat = (2 ^ 8 * X.toNat + c.toNat) % 2 ^ 64 := by
    rw [BitVec.toNat_add, BitVec.toNat_mul, BitVec.toNat_setWidth]
    show (X.toNat * 256 % 2 ^ 64 + c.toNat % 2 ^ 64) % 2 ^ 64 = _
    omega
  rw [BitVec.getLsbD, h, Nat.testBit_mod_two_pow, Nat.testBit_two_pow_mul_add _ c.isLt, decide_eq_true hp, Bool.true_and]
  rfl
theorem whole_bit (b : List By) (k p : Nat) (hk : k ≤ 8) (hp : p < 64) : (wholeS b k).getLsbD p = (decide (p < 8 * k) && (b.getD (8 - k + p / 8) 0#8).getLsbD (p % 8)) := by
  induction k generalizing p with
  | zero => simp [wholeS]
  | succ k ih =>
    rw [wholeS, step_bit _ _ _ hp]
    by_cases e : p < 8
    · rw [if_pos e, decide_eq_true (show p < 8 * (k + 1) by omega), Bool.true_and, show 8 - (k + 1) + p / 8 = 7 - k by omega, show p % 8 = p by omega]
    · rw [if_neg e, ih (p - 8) (by omega) (by omega), show 8 - k + (p - 8) / 8 = 8 - (k + 1) + p / 8 by omega, show (p - 8) % 8 = p % 8 by omega]
      by_cases f : p - 8 < 8 * k
      · rw [decide_eq_true f, decide_eq_true (show p < 8 * (k + 1) by omega)]
      · rw [decide_eq_false f, decide_eq_false (show ¬ p < 8 * (k + 1) by omega)]
theorem part_at (l : List By) (q j : Nat) (hj : j < 8) : ((l.drop q).take 8).getD j 0#8 = l.getD (q + j) 0#8 := by
  rw [List.getD_eq_getElem?_getD, List.getElem?_take, if_pos hj, List.getElem?_drop, List.getD_eq_getElem?_getD]
theorem whole_eq (l : List By) (v : Nat) (hv : v < 2) : wholeS ((l.drop (8 * v)).take 8) 8 = (labelS l 16).getD v 0#64 := by
  apply BitVec.eq_of_getLsbD_eq
  intro p hp
  rw [whole_bit _ _ _ (Nat.le_refl _) hp, labelS_bit _ _ _ _ hv hp (Nat.le_refl _), part_at _ _ _ (by omega), decide_eq_true (show p < 8 * 8 by omega), decide_eq_true (show 8 * v + p / 8 < 16 by omega),
    show 8 * v + (8 - 8 + p / 8) = 8 * v + p / 8 by omega]
theorem twice_eq (a : BitVec 64) : a <<< (1 : Nat) = a * 2#64 := by
  apply BitVec.eq_of_toNat_eq
  rw [BitVec.toNat_shiftLeft, BitVec.toNat_mul, Nat.shiftLeft_eq]; rfl
theorem dbl_eq (a b : BitVec 64) : dblR a b = dbl a b := by
  have hc : b >>> (63 : Nat) = 1#64 ↔ (9223372036854775808#64).toNat ≤ b.toNat := by
    have h1 : (b >>> (63 : Nat)).toNat = b.toNat / 2 ^ 63 := by rw [BitVec.toNat_ushiftRight, Nat.shiftRight_eq_div_pow]
    have h2 : (9223372036854775808#64).toNat = 2 ^ 63 := rfl
    have h3 := b.isLt
    constructor
    · intro h; rw [h] at h1; have : (1#64 : BitVec 64).toNat = 1 := rfl; omega
    · intro h; refine BitVec.eq_of_toNat_eq ?_; rw [h1]; show _ = 1; omega
  have hs : b <<< (1 : Nat) ||| a >>> (63 : Nat) = b * 2#64 + a / 9223372036854775808#64 := by
    apply BitVec.eq_of_toNat_eq
    rw [twice_eq, BitVec.toNat_or, BitVec.toNat_ushiftRight, BitVec.toNat_add, BitVec.toNat_udiv, BitVec.toNat_mul, Nat.shiftRight_eq_div_pow]
    show (b.toNat * 2 % 2 ^ 64) ||| (a.toNat / 2 ^ 63) = (b.toNat * 2 % 2 ^ 64 + a.toNat / 9223372036854775808) % 2 ^ 64
    have h1 := a.isLt
    have h2 : b.toNat * 2 % 2 ^ 64 = 2 ^ 1 * (b.toNat % 2 ^ 63) := by omega
    rw [h2, ← Nat.two_pow_add_eq_or_of_lt (by omega)]
    omega
  rw [dblR, dbl, hs, twice_eq]
  by_cases e : b >>> (63 : Nat) = 1#64
  · rw [if_pos e, if_pos (hc.1 e)]
  · rw [if_neg e, if_neg fun x => e (hc.2 x)]
theorem hash_eq (key : List By) (hk : key.length = 16) (a b tw : BitVec 64) :
    (sR0 a b tw ^^^ wholeS (((hashE (expR key (boxR 256) 40).1 (boxR 256) a b tw).drop 0).take 8) 8, (dblR a b).2 ^^^ wholeS (((hashE (expR key (boxR 256) 40).1 (boxR 256) a b tw).drop 8).take 8) 8) = hashL (cipher key) a b tw := by
  rw [hashL_eq, hashE, sR0, bytes_eq, enc_eq key _ hk (bytesS_len _ _ _), dbl_eq, ← whole_eq _ 0 (by decide), ← whole_eq _ 1 (by decide)]
theorem fix_eq : fixK = fixKey := by decide +kernel
end Go.Proofs.YteofdmdpaejgaaaDoor.AesSpec
namespace Go.Proofs.YteofdmdpaejgaaaDoor.Vc
open Go Go.ChangeShapes Go.WideShapes Go.ChangeAt Go.RowKit
/-- What reads at a type is of one encoding, and its value is of one kind. -/
def Opens {α : Type} (P : Program) (e : TypeId) (E : Enc α) (Q : α → Prop) : Prop :=
  P.cellsOf e = E.s ∧ ∀ (H : Type) (enc : TypeId × Value → H) (w : World) (base : Nat) (spare : Nat → Bool) (held : Bool) (fuel : Nat) (cs : List Value) (x : DataW H × List MemPlace),
    DataW.trod enc P w base spare held fuel e cs = some x → ∃ a, cs = E.f a ∧ Q a
theorem two_ex {α : Type} {l : List α} (h : l.length = 2) : ∃ a b, l = [a, b] := by
  match l, h with
  | [a, b], _ => exact ⟨a, b, rfl⟩
/-- bounds of an integer of 64 bits -/
def Fit64 (n : Int) : Prop := -9223372036854775808 ≤ n ∧ n ≤ 9223372036854775807
section
variable {P : Program} {e t : TypeId}
theorem opens64 (h : P.underlying e = some (.int .u64)) (hc : P.cellsOf e = 1) : Opens P e E64 fun _ => True := by
  refine ⟨hc, fun H enc w base spare held fuel cs x hx => ?_⟩
  obtain ⟨n, rfl, _, hw⟩ := DataW.trod_int h hx
  have := bounds_u64 hw
  refine ⟨BitVec.ofInt 64 n, ?_, trivial⟩
  show _ = [u64 _]
  rw [u64, BitVec.toNat_ofInt]; congr 2; omega
theorem opensI (h : P.underlying e = some (.int .i64)) (hc : P.cellsOf e = 1) : Opens P e EI Fit64 := by
  refine ⟨hc, fun H enc w base spare held fuel cs x hx => ?_⟩
  obtain ⟨n, rfl, _, hw⟩ := DataW.trod_int h hx
  exact ⟨n, rfl, bounds_i64 hw⟩
theorem cel_chunks {α : Type} {E : Enc α} {Q : α → Prop} : ∀ (n : Nat) (cs : List Value), cs.length = n * E.s → (∀ i, i < n → ∃ a, (cs.drop (i * E.s)).take E.s = E.f a ∧ Q a) →
    ∃ l, cs = cel E l ∧ l.length = n ∧ ∀ a ∈ l, Q a
  | 0, cs, h, _ => ⟨[], by simpa using h, rfl, by simp⟩
  | n + 1, cs, h, hh => by
    obtain ⟨a, ha, qa⟩ := hh 0 (by omega)
    obtain ⟨l, h1, h2, h3⟩ := cel_chunks (E := E) (Q := Q) n (cs.drop E.s) (by rw [List.length_drop, h, Nat.add_mul]; omega) fun i hi => by
      obtain ⟨b, hb, qb⟩ := hh (i + 1) (by omega)
      exact ⟨b, by rw [List.drop_drop, ← hb]; congr 2; rw [Nat.add_mul]; omega, qb⟩
    refine ⟨a :: l, ?_, by simp [h2], ?_⟩
    · rw [cel_cons, ← h1, ← ha]; simp
    · intro x hx
      rcases List.mem_cons.1 hx with rfl | hx
      · exact qa
      · exact h3 x hx
/-- the cells of an array -/
theorem opens_cells {α : Type} {E : Enc α} {Q : α → Prop} {H : Type} {enc : TypeId × Value → H} {w : World} {base : Nat} {spare : Nat → Bool} {held : Bool} {fuel : Nat} {cs : List Value} {x : DataW H × List MemPlace} {n : Nat}
    (ht : P.underlying t = some (.array n e)) (hE : Opens P e E Q) (hz : P.cellsOf t = n * P.cellsOf e) (h : DataW.trod enc P w base spare held fuel t cs = some x) :
    ∃ l, cs = cel E l ∧ l.length = n ∧ ∀ a ∈ l, Q a := by
  obtain ⟨xs, m, _, _, hl, hx, hi⟩ := DataW.trod_array ht h
  refine cel_chunks n cs (by rw [hl, hz, hE.1]) fun i hi' => ?_
  have := hi i hi'
  rw [List.getElem?_eq_getElem (by omega), hE.1] at this
  exact hE.2 _ _ _ _ _ _ _ _ _ this
section
variable {H : Type} {enc : TypeId × Value → H} {w : World} {base : Nat} {spare : Nat → Bool} {held : Bool} {r : Reach} {b0 : Nat} {v : Value} {d : DataW H} {ps : List MemPlace}
/-- arguments read as they did -/
theorem trodAll_below {W W' : World} (hl : laidOutB P = true) (hb : Below W.heap.size W W') : ∀ (ts : List TypeId) (vs : List Value) (ds : List (DataW H)) (ps : List MemPlace),
    (∀ t ∈ ts, P.readableRec t = true ∧ t < P.types.size) → DataW.TrodAll enc P W 0 (fun _ => true) true ts vs ds ps → DataW.TrodAll enc P W' 0 (fun b => decide (b < W.heap.size)) true ts vs ds ps
  | [], vs, ds, ps, _, h => by cases vs <;> cases ds <;> simp_all [DataW.TrodAll]
  | t :: ts, vs, ds, ps, hr, h => by
    obtain ⟨v, vs', d, ds', p, q, rfl, rfl, rfl, h1, h2⟩ := trodAll_cons h
    have lt : ∀ x ∈ p, x.block < W.heap.size := by obtain ⟨m, hm⟩ := h1; exact DataW.trod_lt m _ _ _ hm
    exact trodAll_cons_mk (Below.trod hl (hr t (by simp)).1 (hr t (by simp)).2 h1 hb lt) (trodAll_below hl hb ts vs' ds' q (fun x hx => hr x (by simp [hx])) h2)
/-- the end of a law that returned true and wrote to no block that was there -/
theorem law_end {fn : Func} {s : ChangeSpec} {W W' : World} {args : Array Value} {ds gs : List (DataW H)} {before : List MemPlace} {tb : TypeId}
    (hl : laidOutB P = true) (hr0 : (fn.params.toList.all fun t => P.readableRec t && decide (t < P.types.size)) = true) (hres : fn.resultTypes.toList = [tb]) (hsz : fn.resultTypes.size = 1) (htb : P.underlying tb = some .bool) (hv : s.vars = [])
    (hW : DataW.Whole enc P fn.params.toList s.vars false W args.toList ds gs before) (h1 : (s.fn H (ds ++ gs)).results = [.lit (.bool true)]) (h2 : (s.fn H (ds ++ gs)).args = ds) (h3 : (s.fn H (ds ++ gs)).vars = [])
    (hb : Below W.heap.size W W') : s.post enc P fn false true false false W args (.bool true) W' := by
  have hr : ∀ t ∈ fn.params.toList, P.readableRec t = true ∧ t < P.types.size := fun t ht => by
    have := List.all_eq_true.1 hr0 t ht
    simpa using this
  have hW' := hW
  obtain ⟨p, q, hA, hV, rfl, hfz, hnd⟩ := hW
  refine ⟨ds, gs, _, [], p, [], hW', ?_, ?_, ?_, hb.frame _, fun h => by cases h⟩
  · rw [hres, hsz, h1]
    exact trodAll_mk1 (shut_bool htb _)
  · rw [h2]
    exact trodAll_below hl hb _ _ _ _ hr hA
  · rw [h3, hv]; rfl
end
end
end Go.Proofs.YteofdmdpaejgaaaDoor.Vc
namespace Go.Proofs.YteofdmdpaejgaaaDoor.Vc
open Go Go.ChangeShapes Go.WideShapes Go.ChangeAt Go.RowKit Go.Deep
theorem cell_some {w : World} {b off : Nat} {v : Value} (h : w.cell? ⟨b, off, none⟩ = some v) : ∃ cs T fr, w.heap[b]? = some (.cells cs T fr) ∧ cs[off]? = some v := by
  unfold World.cell? at h
  split at h
  · rename_i cs T fr hc
    exact ⟨cs, T, fr, hc, h⟩
  · cases h
theorem list_of {α : Type} {p : Nat → α → Prop} : ∀ (n : Nat), (∀ i, i < n → ∃ a, p i a) → ∃ l : List α, l.length = n ∧ ∀ i a, l[i]? = some a → p i a
  | 0, _ => ⟨[], rfl, fun i a h => by simp at h⟩
  | n + 1, h => by
    obtain ⟨l, h1, h2⟩ := list_of n fun i hi => h i (by omega)
    obtain ⟨a, ha⟩ := h n (by omega)
    refine ⟨l ++ [a], by simp [h1], fun i x hx => ?_⟩
    by_cases hi : i < l.length
    · rw [List.getElem?_append_left hi] at hx; exact h2 i x hx
    · rw [List.getElem?_append_right (by omega)] at hx
      have := (List.getElem?_eq_some_iff.1 hx).1
      simp only [List.length_singleton] at this
      have e : i = n := by omega
      subst e
      rw [h1, Nat.sub_self] at hx
      simp at hx; subst hx; exact ha
section
variable {P : Program} {t e : TypeId} {α : Type} {E : Enc α} {Q : α → Prop} {H : Type} {enc : TypeId × Value → H} {w : World} {base : Nat} {held : Bool} {r : Reach} {b0 : Nat} {v : Value} {d : DataW H} {ps : List MemPlace}
end
end Go.Proofs.YteofdmdpaejgaaaDoor.Vc
namespace Go.Proofs.YteofdmdpaejgaaaDoor.Vc
open Go Go.ChangeShapes Go.WideShapes Go.ChangeAt Go.RowKit Go.Deep Go.Joins
section
variable {P : Program} {t e : TypeId} {α : Type} {E : Enc α} {Q : α → Prop} {H : Type} {enc : TypeId × Value → H} {w : World} {base : Nat} {held : Bool}
theorem opensG {f0 f1 f2 : Field} (hs : P.underlying e = some (.struct #[f0, f1, f2])) (hone : oneCellFields P #[f0, f1, f2] = true) (hC : P.cellsOf e = 3)
    (i0 : P.underlying f0.type = some (.int .i64)) (i1 : P.underlying f1.type = some (.int .i64)) (i2 : P.underlying f2.type = some (.int .i64)) : Opens P e EG fun _ => True := by
  refine ⟨hC, fun H enc w base spare held fuel cs x h => ?_⟩
  obtain ⟨y0, y1, y2, n, _, hl, h0, h1, h2⟩ := trod_struct3 hs h
  rw [hC] at hl
  match cs, hl with
  | [c0, c1, c2], _ =>
    obtain ⟨o0, k0⟩ := hone_of hone 0 f0 rfl
    obtain ⟨o1, k1⟩ := hone_of hone 1 f1 rfl
    obtain ⟨o2, k2⟩ := hone_of hone 2 f2 rfl
    simp only [o0, k0, o1, k1, o2, k2, List.drop_zero, List.take_succ_cons, List.take_zero, List.drop_succ_cons] at h0 h1 h2
    obtain ⟨a, ha, _, _⟩ := DataW.trod_int i0 h0
    obtain ⟨b, hb, _, _⟩ := DataW.trod_int i1 h1
    obtain ⟨c, hc, _, _⟩ := DataW.trod_int i2 h2
    cases ha; cases hb; cases hc
    exact ⟨⟨a, b, c⟩, rfl, trivial⟩
/-- a slice, as one cell -/
theorem open_slT {m : Nat} {c : Value} {x : DataW H × List MemPlace} (ht : P.underlying t = some (.slice e)) (hE : Opens P e E Q) (h : DataW.trod enc P w base (fun _ => true) held m t [c] = some x) :
    ∃ a l cap, c = .slice a l.length cap ∧ Rd E w a l ∧ (∀ y ∈ l, Q y) ∧ l.length ≤ cap := by
  rcases open_slice ht h with ⟨h1, _⟩ | ⟨ad, len, cap, m', n, D, Pl, h1, _, hl, _, hm, _, hi⟩
  · cases h1
    exact ⟨none, [], 0, rfl, .inl rfl, by simp, by simp⟩
  · cases h1
    simp only [if_true] at hm
    obtain ⟨l, hl1, hl2⟩ := list_of (p := fun i b => (∀ j, j < E.s → w.cell? ((ad.add (i * E.s)).add j) = (E.f b)[j]?) ∧ Q b) len fun i hi' => by
      obtain ⟨cs', h2, h3⟩ := hi i (by omega)
      rw [hE.1] at h2
      obtain ⟨b, hb, hq⟩ := hE.2 _ _ _ _ _ _ _ _ _ h3
      obtain ⟨_, _, h4⟩ := World.cells?_some h2
      exact ⟨b, fun j hj => by rw [h4 j hj, hb], hq⟩
    refine ⟨some ad, l, cap, by rw [hl1], ?_, fun y hy => ?_, by omega⟩
    · by_cases h0 : l = []
      · exact .inl h0
      · have hpos : 0 < len := by rw [← hl1]; exact List.length_pos_iff.2 h0
        have hcell : ∀ i y, l[i]? = some y → ∀ j, j < E.s → w.cell? ((ad.add (i * E.s)).add j) = (E.f y)[j]? := fun i y hy => (hl2 i y hy).1
        obtain ⟨y0, hy0⟩ : ∃ y, l[0]? = some y := ⟨_, List.getElem?_eq_getElem (by omega)⟩
        have h00 := hcell 0 y0 hy0 0 E.pos
        have hv0 : ∃ u, (E.f y0)[0]? = some u := ⟨_, List.getElem?_eq_getElem (by rw [E.len]; exact E.pos)⟩
        obtain ⟨u0, hu0⟩ := hv0
        rw [hu0] at h00
        obtain ⟨b, off, spot⟩ := ad
        have hspot : spot = none := by
          have := World.cell?_spot h00
          cases spot with
          | none => rfl
          | some s => simp [Addr.add] at this
        subst hspot
        rw [Addr.add_lit, Addr.add_lit] at h00
        obtain ⟨cs, T, fr, h2, _⟩ := cell_some h00
        refine .inr ⟨b, off, cs, T, fr, rfl, h2, fun q u hu => ?_⟩
        have hq := (List.getElem?_eq_some_iff.1 hu).1
        rw [cel_length] at hq
        have hi' : q / E.s < l.length := Nat.div_lt_of_lt_mul (by rw [Nat.mul_comm]; exact hq)
        have hj' : q % E.s < E.s := Nat.mod_lt _ E.pos
        have hqe : q / E.s * E.s + q % E.s = q := by rw [Nat.mul_comm]; exact Nat.div_add_mod _ _
        have hy := List.getElem?_eq_getElem hi'
        have h5 := hcell _ _ hy _ hj'
        have h6 := cel_get (E := E) l (q / E.s) (q % E.s) _ hy hj'
        rw [hqe, hu] at h6
        rw [← h6, Addr.add_lit, Addr.add_lit, Nat.add_assoc, hqe] at h5
        obtain ⟨cs', T', fr', h7, h8⟩ := cell_some h5
        rw [h2] at h7; cases h7
        exact h8
    · obtain ⟨i, hi1, hi2⟩ := List.getElem_of_mem hy
      exact (hl2 i y (by rw [List.getElem?_eq_getElem hi1, hi2])).2
end
end Go.Proofs.YteofdmdpaejgaaaDoor.Vc
namespace Go.Proofs.YteofdmdpaejgaaaDoor.Vc
open Go Go.ChangeShapes Go.WideShapes Go.ChangeAt Go.RowKit Go.Deep
section
variable {P : Program} {t e e2 e4 : TypeId} {H : Type} {enc : TypeId × Value → H} {w : World} {base : Nat} {held : Bool} {r : Reach} {b0 : Nat} {v : Value} {d : DataW H} {ps : List MemPlace}
theorem opensLb (h2 : P.underlying e2 = some (.array 2 e)) (hu : P.underlying e = some (.int .u64)) (hc : P.cellsOf e = 1) (hc2 : P.cellsOf e2 = 2) : Opens P e2 ELb fun _ => True := by
  refine ⟨hc2, fun H enc w base spare held fuel cs x h => ?_⟩
  obtain ⟨l, h3, h4, _⟩ := opens_cells h2 (opens64 hu hc) (by rw [hc2, hc]) h
  obtain ⟨a, b, rfl⟩ := two_ex h4
  exact ⟨(a, b), by rw [h3]; rfl, trivial⟩
end
end Go.Proofs.YteofdmdpaejgaaaDoor.Vc
namespace Go.Proofs.YteofdmdpaejgaaaDoor.Vc
open Go Go.ChangeShapes Go.WideShapes Go.ChangeAt Go.RowKit Go.Deep Go.Joins
section
variable {P : Program} {t e : TypeId} {α : Type} {E : Enc α} {Q : α → Prop} {H : Type} {enc : TypeId × Value → H} {w : World} {base : Nat} {held : Bool}
/-- a slice, as one cell; and what was read of it -/
theorem open_slC {m : Nat} {c : Value} {x : DataW H × List MemPlace} (ht : P.underlying t = some (.slice e)) (hE : Opens P e E Q) (h : DataW.trod enc P w base (fun _ => true) held m t [c] = some x) :
    ∃ a l cap, c = .slice a l.length cap ∧ Rd E w a l ∧ (∀ y ∈ l, Q y) ∧ l.length ≤ cap ∧ (l = [] ∨ ∃ elems sp, x.1 = .slice elems sp ∧ elems.length = l.length) := by
  rcases open_slice ht h with ⟨h1, _⟩ | ⟨ad, len, cap, m', n, D, Pl, h1, _, hl, _, hm, hx, hi⟩
  · cases h1
    exact ⟨none, [], 0, rfl, .inl rfl, by simp, by simp, .inl rfl⟩
  · cases h1
    simp only [if_true] at hm
    obtain ⟨l, hl1, hl2⟩ := list_of (p := fun i b => (∀ j, j < E.s → w.cell? ((ad.add (i * E.s)).add j) = (E.f b)[j]?) ∧ Q b) len fun i hi' => by
      obtain ⟨cs', h2, h3⟩ := hi i (by omega)
      rw [hE.1] at h2
      obtain ⟨b, hb, hq⟩ := hE.2 _ _ _ _ _ _ _ _ _ h3
      obtain ⟨_, _, h4⟩ := World.cells?_some h2
      exact ⟨b, fun j hj => by rw [h4 j hj, hb], hq⟩
    refine ⟨some ad, l, cap, by rw [hl1], ?_, fun y hy => ?_, by omega, ?_⟩
    · by_cases h0 : l = []
      · exact .inl h0
      · have hpos : 0 < len := by rw [← hl1]; exact List.length_pos_iff.2 h0
        have hcell : ∀ i y, l[i]? = some y → ∀ j, j < E.s → w.cell? ((ad.add (i * E.s)).add j) = (E.f y)[j]? := fun i y hy => (hl2 i y hy).1
        obtain ⟨y0, hy0⟩ : ∃ y, l[0]? = some y := ⟨_, List.getElem?_eq_getElem (by omega)⟩
        have h00 := hcell 0 y0 hy0 0 E.pos
        have hv0 : ∃ u, (E.f y0)[0]? = some u := ⟨_, List.getElem?_eq_getElem (by rw [E.len]; exact E.pos)⟩
        obtain ⟨u0, hu0⟩ := hv0
        rw [hu0] at h00
        obtain ⟨b, off, spot⟩ := ad
        have hspot : spot = none := by
          have := World.cell?_spot h00
          cases spot with
          | none => rfl
          | some s => simp [Addr.add] at this
        subst hspot
        rw [Addr.add_lit, Addr.add_lit] at h00
        obtain ⟨cs, T, fr, h2, _⟩ := cell_some h00
        refine .inr ⟨b, off, cs, T, fr, rfl, h2, fun q u hu => ?_⟩
        have hq := (List.getElem?_eq_some_iff.1 hu).1
        rw [cel_length] at hq
        have hi' : q / E.s < l.length := Nat.div_lt_of_lt_mul (by rw [Nat.mul_comm]; exact hq)
        have hj' : q % E.s < E.s := Nat.mod_lt _ E.pos
        have hqe : q / E.s * E.s + q % E.s = q := by rw [Nat.mul_comm]; exact Nat.div_add_mod _ _
        have hy := List.getElem?_eq_getElem hi'
        have h5 := hcell _ _ hy _ hj'
        have h6 := cel_get (E := E) l (q / E.s) (q % E.s) _ hy hj'
        rw [hqe, hu] at h6
        rw [← h6, Addr.add_lit, Addr.add_lit, Nat.add_assoc, hqe] at h5
        obtain ⟨cs', T', fr', h7, h8⟩ := cell_some h5
        rw [h2] at h7; cases h7
        exact h8
    · obtain ⟨i, hi1, hi2⟩ := List.getElem_of_mem hy
      exact (hl2 i y (by rw [List.getElem?_eq_getElem hi1, hi2])).2
    · exact .inr ⟨_, _, by rw [hx], by simp [hl1]⟩
theorem open_keys {e2 : TypeId} {f0 f1 f2 : Field} {r : Reach} {b0 : Nat} {v : Value} {d : DataW H} {ps : List MemPlace} {ts : List TypeId} {ds : List (DataW H)} {j : Nat} (hs : P.underlying t = some (.struct #[f0, f1, f2])) (hC : P.cellsOf t = 4)
    (h0 : P.underlying f0.type = some (.array 2 e)) (hu : P.underlying e = some (.int .u64)) (hce : P.cellsOf e = 1) (h1 : P.underlying f1.type = some (.slice e2)) (hE : Opens P e2 ELb fun _ => True) (hb : P.bytesOf e2 = 16) (h2 : P.underlying f2.type = some (.int .u64))
    (o0 : f0.offset = 0 ∧ P.cellsOf f0.type = 2) (o1 : f1.offset = 2 ∧ P.cellsOf f1.type = 1) (o2 : f2.offset = 3 ∧ P.cellsOf f2.type = 1)
    (hv : Value.okWide P w r b0 t v) (h : DataW.Trod enc P w base (fun _ => true) held t v d ps) (hw : (DataW.weightsEach P ts ds).all (· ≤ reachBytes) = true) (hj : ts[j]? = some t) (hd : ds[j]? = some d) :
    ∃ (δ : BitVec 64 × BitVec 64) (zs : List (BitVec 64 × BitVec 64)) (za : Option Addr) (zc : Nat) (first : BitVec 64), v = .agg #[u64 δ.1, u64 δ.2, .slice za zs.length zc, u64 first] ∧ Rd ELb w za zs ∧ zs.length ≤ zc ∧ zs.length * 16 ≤ 140737488351232 := by
  obtain ⟨cs, rfl, hsz⟩ := okWide_struct hs hv
  obtain ⟨fuel, hf⟩ := h
  obtain ⟨y0, y1, y2, n, hx, hl, g0, g1, g2⟩ := trod_struct3 hs hf
  obtain ⟨cs⟩ := cs
  have hl4 : cs.length = 4 := by have := hsz; simp only [List.size_toArray] at this; omega
  match cs, hl4 with
  | [c0, c1, c2, c3], _ =>
    simp only [Value.cells, o0.1, o0.2, o1.1, o1.2, o2.1, o2.2, List.drop_zero, List.take_succ_cons, List.take_zero, List.drop_succ_cons] at g0 g1 g2
    obtain ⟨l, l1, l2, _⟩ := opens_cells h0 (opens64 hu hce) (by rw [o0.2, hce]) g0
    obtain ⟨a, b, rfl⟩ := two_ex l2
    obtain ⟨za, zs, zc, rfl, hR, _, hlc, hq⟩ := open_slC h1 hE g1
    obtain ⟨c, hcc, _⟩ := (opens64 h2 o2.2).2 _ _ _ _ _ _ _ _ _ g2
    have l3 : [c0, c1] = [u64 a, u64 b] := l1
    simp only [List.cons.injEq, and_true] at l3
    obtain ⟨rfl, rfl⟩ := l3
    refine ⟨(a, b), zs, za, zc, c, by rw [(List.cons.inj hcc).1]; rfl, hR, hlc, ?_⟩
    rcases hq with rfl | ⟨elems, sp, q1, q2⟩
    · simp
    · simp only [Prod.mk.injEq] at hx
      rw [hx.1, q1] at hd
      have := List.all_eq_true.1 hw _ (DataW.weights_mem_each hj hd ((elems.length + sp.length) * P.bytesOf e2) (by simp [DataW.weights, DataW.weightsEach, hs, h1]))
      have h5 : reachBytes = 140737488351232 := by decide
      simp only [decide_eq_true_eq] at this
      rw [hb] at this; omega
end
end Go.Proofs.YteofdmdpaejgaaaDoor.Vc
