/- The document's cipher on bit vectors and lists: no program in sight. -/
import Derived.Test.YtkclklnfohaheaaDoorAesSpec
namespace Go.Proofs.YtkclklnfohaheaaDoor.AesSpec
def invS (a : By) : Nat → By
  | 0 => 1#8
  | k + 1 => gm (invS a k) a
def sS (y : By) : Nat → By × By
  | 0 => (99#8, y)
  | k + 1 => ((sS y k).1 ^^^ (sS y k).2, (sS y k).2 * 2#8 + (sS y k).2 / 128#8)
def sR (a : By) : By := (sS (invS a 254) 5).1
def addR (a b : List By) : Nat → List By
  | 0 => List.replicate 16 0#8
  | i + 1 => (addR a b i).set i (a.getD i 0#8 ^^^ b.getD i 0#8)
theorem addR_len (a b : List By) (i : Nat) : (addR a b i).length = 16 := by
  induction i with
  | zero => simp [addR]
  | succ i ih => simp [addR, ih]
def mixRv (t : List By) (c r : Nat) : By := ((gm (t.getD (4 * c + r) 0#8) 2#8 ^^^ gm (t.getD (4 * c + (r + 1) % 4) 0#8) 3#8) ^^^ t.getD (4 * c + (r + 2) % 4) 0#8) ^^^ t.getD (4 * c + (r + 3) % 4) 0#8
def mixRI (t o : List By) (c : Nat) : Nat → List By
  | 0 => o
  | r + 1 => (mixRI t o c r).set (4 * c + r) (mixRv t c r)
def mixRS (t : List By) : Nat → List By
  | 0 => List.replicate 16 0#8
  | c + 1 => mixRI t (mixRS t c) c 4
theorem mixRI_len (t o : List By) (c r : Nat) : (mixRI t o c r).length = o.length := by
  induction r with
  | zero => rfl
  | succ r ih => simp [mixRI, ih]
theorem mixRS_len (t : List By) (c : Nat) : (mixRS t c).length = 16 := by
  induction c with
  | zero => simp [mixRS]
  | succ c ih => simp [mixRS, mixRI_len, ih]
def eightS (x : BitVec 64) : Nat → List By × BitVec 64
  | 0 => ([], x)
  | i + 1 => ((eightS x i).1 ++ [((eightS x i).2 % 256#64).setWidth 8], (eightS x i).2 / 256#64)
theorem eightS_len (x : BitVec 64) (i : Nat) : (eightS x i).1.length = i := by
  induction i with
  | zero => rfl
  | succ i ih => simp [eightS, ih]
def wholeS (b : List By) : Nat → BitVec 64
  | 0 => 0#64
  | k + 1 => wholeS b k * 256#64 + (b.getD (7 - k) 0#8).setWidth 64
def dblR (a b : BitVec 64) : BitVec 64 × BitVec 64 := (if (9223372036854775808#64).toNat ≤ b.toNat then (a * 2#64) ^^^ 135#64 else a * 2#64, b * 2#64 + a / 9223372036854775808#64)
def shRI (bx b o : List By) (c : Nat) : Nat → List By
  | 0 => o
  | r + 1 => (shRI bx b o c r).set (4 * c + r) (bx.getD (b.getD (4 * ((c + r) % 4) + r) 0#8).toNat 0#8)
def shRS (bx b : List By) : Nat → List By
  | 0 => List.replicate 16 0#8
  | c + 1 => shRI bx b (shRS bx b c) c 4
theorem shRI_len (bx b o : List By) (c r : Nat) : (shRI bx b o c r).length = o.length := by
  induction r with
  | zero => rfl
  | succ r ih => simp [shRI, ih]
theorem shRS_len (bx b : List By) (c : Nat) : (shRS bx b c).length = 16 := by
  induction c with
  | zero => simp [shRS]
  | succ c ih => simp [shRS, shRI_len, ih]
def rndR (bx b : List By) (k : Nat) : List By := if k < 10 then mixRS (shRS bx b 4) 4 else shRS bx b 4
theorem rndR_len (bx b : List By) (k : Nat) : (rndR bx b k).length = 16 := by
  unfold rndR; split
  · exact mixRS_len _ _
  · exact shRS_len _ _ _
def encR (ks bx b : List By) : Nat → List By
  | 0 => addR b ((ks.drop 0).take 16) 16
  | k + 1 => addR (rndR bx (encR ks bx b k) (k + 1)) ((ks.drop (16 * (k + 1))).take 16) 16
theorem encR_len (ks bx b : List By) (k : Nat) : (encR ks bx b k).length = 16 := by
  cases k <;> exact addR_len _ _ _
def boxR : Nat → List By
  | 0 => []
  | i + 1 => boxR i ++ [sR (BitVec.ofInt 8 (i : Nat))]
theorem boxR_len (i : Nat) : (boxR i).length = i := by
  induction i with
  | zero => rfl
  | succ i ih => simp [boxR, ih]
def expI (ks t : List By) (k : Nat) : Nat → List By
  | 0 => ks
  | r + 1 => expI ks t k r ++ [(expI ks t k r).getD (4 * k + r) 0#8 ^^^ t.getD r 0#8]
theorem expI_len (ks t : List By) (k r : Nat) : (expI ks t k r).length = ks.length + r := by
  induction r with
  | zero => rfl
  | succ r ih => simp [expI, ih, Nat.add_assoc]
def expS (ks : List By) (k : Nat) : List By := (ks.drop (4 * k + 12)).take 4
def expT (bx ks : List By) (p : By) (k : Nat) : List By :=
  if (k + 4) % 4 = 0 then [bx.getD ((expS ks k).getD 1 0#8).toNat 0#8 ^^^ p, bx.getD ((expS ks k).getD 2 0#8).toNat 0#8, bx.getD ((expS ks k).getD 3 0#8).toNat 0#8, bx.getD ((expS ks k).getD 0 0#8).toNat 0#8] else expS ks k
def expR (key bx : List By) : Nat → List By × By
  | 0 => ((key.drop 0).take 16, 1#8)
  | k + 1 => (expI (expR key bx k).1 (expT bx (expR key bx k).1 (expR key bx k).2 k) k 4, if (k + 4) % 4 = 0 then gm (expR key bx k).2 2#8 else (expR key bx k).2)
theorem expR_len (key bx : List By) (hk : key.length = 16) (k : Nat) : (expR key bx k).1.length = 16 + 4 * k := by
  induction k with
  | zero => simp [expR, hk]
  | succ k ih => simp [expR, expI_len, ih]; omega
theorem expS_len (ks : List By) (k : Nat) (h : ks.length = 16 + 4 * k) : (expS ks k).length = 4 := by
  rw [expS, List.length_take, List.length_drop, h]; omega
def wordR (ks bx : List By) (x : BitVec 64) : BitVec 64 :=
  if x % 2#64 = 0#64 then wholeS (((encR ks bx ((eightS (x / 2#64) 8).1 ++ [0#8, 0#8, 0#8, 0#8, 0#8, 0#8, 0#8, 0#8]) 10).drop 0).take 8) 8
  else wholeS (((encR ks bx ((eightS (x / 2#64) 8).1 ++ [0#8, 0#8, 0#8, 0#8, 0#8, 0#8, 0#8, 0#8]) 10).drop 8).take 8) 8
def sR0 (a b tw : BitVec 64) : BitVec 64 := (dblR a b).1 ^^^ tw
def hashE (ks bx : List By) (a b tw : BitVec 64) : List By := encR ks bx ((eightS (sR0 a b tw) 8).1 ++ (eightS (dblR a b).2 8).1) 10
def fixK : List By := [0#8, 1#8, 2#8, 3#8, 4#8, 5#8, 6#8, 7#8, 8#8, 9#8, 10#8, 11#8, 12#8, 13#8, 14#8, 15#8]
end Go.Proofs.YtkclklnfohaheaaDoor.AesSpec
