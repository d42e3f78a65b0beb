/- The cipher on bit vectors and lists: no program in sight. -/
namespace Go.Proofs.YteofdmdpaejgaaaDoor.AesSpec

/-- a byte times x -/
def xt (a : BitVec 8) : BitVec 8 := if 128 ≤ a.toNat then a <<< 1 ^^^ 27#8 else a <<< 1

/-- the product in the field, round by round: the sum so far, the byte times x so often -/
def gmS (a b : Nat) : Nat → Nat × Nat
  | 0 => (0, a)
  | k + 1 => (if b >>> k % 2 = 1 then (gmS a b k).1 ^^^ (gmS a b k).2 else (gmS a b k).1,
      if 256 ≤ (gmS a b k).2 * 2 then ((gmS a b k).2 * 2) ^^^ 283 else (gmS a b k).2 * 2)
def gm (a b : BitVec 8) : BitVec 8 := BitVec.ofNat 8 (gmS a.toNat b.toNat 8).1

theorem x283 : ∀ x, x < 256 → 256 ≤ x * 2 → (x * 2) ^^^ 283 < 256 := by decide +kernel
theorem gmS_lt (a b k : Nat) (ha : a < 256) : (gmS a b k).1 < 256 ∧ (gmS a b k).2 < 256 := by
  induction k with
  | zero => exact ⟨by simp [gmS], ha⟩
  | succ k ih =>
    simp only [gmS]
    refine ⟨?_, ?_⟩
    · split
      · exact Nat.xor_lt_two_pow (n := 8) ih.1 ih.2
      · exact ih.1
    · split
      · exact x283 _ ih.2 (by assumption)
      · omega
theorem gm_eq (a b : BitVec 8) : BitVec.ofInt 8 ((gmS a.toNat b.toNat 8).1 : Nat) = gm a b := by
  simp [gm]

abbrev By := BitVec 8
def rot (x : By) (k : Nat) : By := x <<< k ||| x >>> (8 - k)
theorem rot_eq : ∀ k : Nat, k < 8 → (BitVec.ofInt 64 (k : Int) &&& 7#64).toNat = k ∧ (8#64 - (BitVec.ofInt 64 (k : Int) &&& 7#64)).toNat = 8 - k := by decide

/-! ### the table of S, as the program fills it -/
def fp (p : By) : By := p ^^^ xt p
def fq (q : By) : By :=
  let a := q ^^^ q <<< (1 : Nat)
  let b := a ^^^ a <<< (2 : Nat)
  let c := b ^^^ b <<< (4 : Nat)
  if (128#8).toNat ≤ c.toNat then c ^^^ 9#8 else c
def aff (q : By) : By := ((((q ^^^ rot q 1) ^^^ rot q 2) ^^^ rot q 3) ^^^ rot q 4) ^^^ 99#8
def fillS (cl : List By) : Nat → By × By × List By
  | 0 => (1#8, 1#8, cl)
  | k + 1 => (fp (fillS cl k).1, fq (fillS cl k).2.1, (fillS cl k).2.2.set (176 + (fp (fillS cl k).1).toNat) (aff (fq (fillS cl k).2.1)))
def fillL (cl : List By) : List By := (fillS cl 255).2.2.set 176 99#8
theorem fillS_len (cl : List By) (k : Nat) : (fillS cl k).2.2.length = cl.length := by
  induction k with
  | zero => rfl
  | succ k ih => simp [fillS, ih]
theorem fillL_len (cl : List By) : (fillL cl).length = cl.length := by simp [fillL, fillS_len]

/-! ### the round keys -/
def innS (cl t : List By) (k : Nat) : Nat → List By × List By
  | 0 => (cl, t)
  | i + 1 =>
    let t' := (innS cl t k i).2.set (i % 4) ((innS cl t k i).2.getD (i % 4) 0#8 ^^^ (innS cl t k i).1.getD ((k - 1) * 16 + i) 0#8)
    ((innS cl t k i).1.set (k * 16 + i) (t'.getD (i % 4) 0#8), t')
theorem innS_len (cl t : List By) (k i : Nat) : (innS cl t k i).1.length = cl.length ∧ (innS cl t k i).2.length = t.length := by
  induction i with
  | zero => exact ⟨rfl, rfl⟩
  | succ i ih => simp [innS, ih.1, ih.2]
def t0 (cl : List By) (k : Nat) (pw : By) : List By :=
  [cl.getD (176 + (cl.getD ((k - 1) * 16 + 13) 0#8).toNat) 0#8 ^^^ pw, cl.getD (176 + (cl.getD ((k - 1) * 16 + 14) 0#8).toNat) 0#8,
   cl.getD (176 + (cl.getD ((k - 1) * 16 + 15) 0#8).toNat) 0#8, cl.getD (176 + (cl.getD ((k - 1) * 16 + 12) 0#8).toNat) 0#8]
def newS (key : List By) : Nat → List By × By
  | 0 => (key ++ (fillL (List.replicate 432 0#8)).drop key.length, 1#8)
  | k + 1 => ((innS (newS key k).1 (t0 (newS key k).1 (k + 1) (newS key k).2) (k + 1) 16).1, xt (newS key k).2)
theorem newS_zero (key : List By) : (newS key 0).1 = key ++ (fillL (List.replicate 432 0#8)).drop key.length := rfl
theorem newS_succ (key : List By) (k : Nat) : (newS key (k + 1)).1 = (innS (newS key k).1 (t0 (newS key k).1 (k + 1) (newS key k).2) (k + 1) 16).1 := by rw [newS]
theorem newS_len (key : List By) (h : key.length = 16) (k : Nat) : (newS key k).1.length = 432 := by
  induction k with
  | zero =>
    show (key ++ (fillL (List.replicate 432 0#8)).drop key.length).length = 432
    rw [List.length_append, List.length_drop, fillL_len, List.length_replicate, h]
  | succ k ih => simp only [newS]; rw [(innS_len _ _ _ _).1, ih]
/-- the cipher of a key: its round keys, then its table -/
def cipher (key : List By) : List By := (newS key 10).1
theorem cipher_len (key : List By) (h : key.length = 16) : (cipher key).length = 432 := newS_len key h 10

/-! ### a block -/
def addS (cl b : List By) : Nat → List By
  | 0 => b
  | i + 1 => (addS cl b i).set i ((addS cl b i).getD i 0#8 ^^^ cl.getD i 0#8)
def subS (cl b : List By) : Nat → List By
  | 0 => List.replicate 16 0#8
  | i + 1 => (subS cl b i).set i (cl.getD (176 + (b.getD ((i + 4 * (i % 4)) % 16) 0#8).toNat) 0#8)
def mixI (a : List By) (all : By) (l : List By) (j : Nat) : Nat → List By
  | 0 => l
  | r + 1 => (mixI a all l j r).set (j + r) ((mixI a all l j r).getD (j + r) 0#8 ^^^ (all ^^^ xt (a.getD r 0#8 ^^^ a.getD ((r + 1) % 4) 0#8)))
def mixA (l : List By) (j : Nat) : List By := (l.drop j).take 4
def allOf (a : List By) : By := ((a.getD 0 0#8 ^^^ a.getD 1 0#8) ^^^ a.getD 2 0#8) ^^^ a.getD 3 0#8
def mixS (l : List By) : Nat → List By
  | 0 => l
  | k + 1 => mixI (mixA (mixS l k) (4 * k)) (allOf (mixA (mixS l k) (4 * k))) (mixS l k) (4 * k) 4
def mixL (l : List By) : List By := mixS l 4
def keyS (cl t b : List By) (k : Nat) : Nat → List By
  | 0 => b
  | i + 1 => (keyS cl t b k i).set i (t.getD i 0#8 ^^^ cl.getD (k * 16 + i) 0#8)
def rndT (cl b : List By) (k : Nat) : List By := if k < 10 then mixL (subS cl b 16) else subS cl b 16
def encS (cl b : List By) : Nat → List By
  | 0 => addS cl b 16
  | k + 1 => keyS cl (rndT cl (encS cl b k) (k + 1)) (encS cl b k) (k + 1) 16
def encL (cl b : List By) : List By := encS cl b 10
theorem addS_len (cl b : List By) (i : Nat) : (addS cl b i).length = b.length := by
  induction i with
  | zero => rfl
  | succ i ih => simp [addS, ih]
theorem subS_len (cl b : List By) (i : Nat) : (subS cl b i).length = 16 := by
  induction i with
  | zero => simp [subS]
  | succ i ih => simp [subS, ih]
theorem mixI_len (a : List By) (all : By) (l : List By) (j r : Nat) : (mixI a all l j r).length = l.length := by
  induction r with
  | zero => rfl
  | succ r ih => simp [mixI, ih]
theorem mixS_len (l : List By) (k : Nat) : (mixS l k).length = l.length := by
  induction k with
  | zero => rfl
  | succ k ih => simp [mixS, mixI_len, ih]
theorem mixL_len (l : List By) : (mixL l).length = l.length := mixS_len l 4
theorem keyS_len (cl t b : List By) (k i : Nat) : (keyS cl t b k i).length = b.length := by
  induction i with
  | zero => rfl
  | succ i ih => simp [keyS, ih]
theorem rndT_len (cl b : List By) (k : Nat) : (rndT cl b k).length = 16 := by
  unfold rndT; split
  · rw [mixL_len, subS_len]
  · exact subS_len _ _ _
theorem encS_len (cl b : List By) (k : Nat) : (encS cl b k).length = b.length := by
  induction k with
  | zero => exact addS_len _ _ _
  | succ k ih => simp [encS, keyS_len, ih]
theorem encL_len (cl b : List By) : (encL cl b).length = b.length := encS_len _ _ _

/-! ### labels -/
def dbl (a b : BitVec 64) : BitVec 64 × BitVec 64 :=
  (if b >>> (63 : Nat) = 1#64 then a <<< (1 : Nat) ^^^ 135#64 else a <<< (1 : Nat), b <<< (1 : Nat) ||| a >>> (63 : Nat))
def bytesS (a b : BitVec 64) : Nat → List By
  | 0 => List.replicate 16 0#8
  | i + 1 => (bytesS a b i).set i ((([a, b].getD (i / 8) 0#64) >>> (8 * (i % 8))).setWidth 8)
def labelS (l : List By) : Nat → List (BitVec 64)
  | 0 => [0#64, 0#64]
  | i + 1 => (labelS l i).set (i / 8) ((labelS l i).getD (i / 8) 0#64 ||| ((l.getD i 0#8).setWidth 64) <<< (8 * (i % 8)))
def fixS : Nat → List By
  | 0 => List.replicate 16 0#8
  | i + 1 => (fixS i).set i (BitVec.ofInt 8 (i : Int))
theorem fixS_len (i : Nat) : (fixS i).length = 16 := by
  induction i with
  | zero => simp [fixS]
  | succ i ih => simp [fixS, ih]
def fixKey : List By := fixS 16
def wordL (cl : List By) (n : BitVec 64) : BitVec 64 := (labelS (encL cl (bytesS (n / 2#64) 0#64 16)) 16).getD ((n % 2#64).toNat) 0#64
def hashS (l0 l1 tw : BitVec 64) : BitVec 64 × BitVec 64 := ((dbl l0 l1).1 ^^^ tw, (dbl l0 l1).2 ^^^ 0#64)
def hashL (cl : List By) (l0 l1 tw : BitVec 64) : BitVec 64 × BitVec 64 :=
  let s := hashS l0 l1 tw
  let h := labelS (encL cl (bytesS s.1 s.2 16)) 16
  (s.1 ^^^ h.getD 0 0#64, s.2 ^^^ h.getD 1 0#64)
theorem two_list {α : Type} {l : List α} {d : α} (h : l.length = 2) : l = [l.getD 0 d, l.getD 1 d] := by
  match l, h with
  | [a, b], _ => rfl
theorem bytesS_len (a b : BitVec 64) (i : Nat) : (bytesS a b i).length = 16 := by
  induction i with
  | zero => simp [bytesS]
  | succ i ih => simp [bytesS, ih]
theorem labelS_len (l : List By) (i : Nat) : (labelS l i).length = 2 := by
  induction i with
  | zero => rfl
  | succ i ih => simp [labelS, ih]

end Go.Proofs.YteofdmdpaejgaaaDoor.AesSpec
