/- What the claim has need of: MicroOne, MicroAwk, MicroWants, MicroJoin, MicroJl, VcOpen, VcOpenS, VcOpenN, VcOpenT, VcOpenM. -/
import Derived.Test.YtohngnahcgbfmaaGreatDoorJr1
import Derived.ProofKit
import Derived.OpenShut
import Derived.ShutString
import Derived.ChangeOld
import Derived.Deep.Slices
import Derived.SizedLaws
namespace Go.Proofs.YtohngnahcgbfmaaGreatDoor.Mi
open Go Go.Proofs.YtohngnahcgbfmaaGreatDoor.Vc Go.Proofs.YtohngnahcgbfmaaGreatDoor.Circ
abbrev W2 := BitVec 64 × BitVec 64
def mulS (s t : Tr) (x y : BitVec 64) : W2 := (s.c + x * s.b + y * s.a + x * y, t.c + x * t.b + y * t.a)
def oneA (o : Mo) (a b : W2) (in0 in1 : List (BitVec 64)) (d0 d1 : BitVec 64) (s t : Tr) : W2 :=
 if o.kd = 1 then (if o.pt = 0 then (d0, in0.getD o.k.toNat 0#64 - d0) else (in1.getD o.k.toNat 0#64 - d1, d1))
 else if o.kd = 6 then mulS s t (a.1 + a.2 - s.a - t.a) (b.1 + b.2 - s.b - t.b)
 else (a.1 + a.2, a.1 + a.2)
structure KdA (o : Mo) (n0 n1 : Nat) : Prop where
 kd : o.kd = 1 ∨ o.kd = 6 ∨ o.kd = 18
 k : o.kd = 1 → (o.pt = 0 ∧ 0 ≤ o.k ∧ o.k < (n0 : Nat)) ∨ (o.pt = 1 ∧ 0 ≤ o.k ∧ o.k < (n1 : Nat))
/-- both parties' words -/
def simA (ops : List Mo) (in0 in1 : List (BitVec 64)) (D0 D1 : Nat → BitVec 64) (T0 T1 : Nat → Tr) : Nat → List (BitVec 64) × List (BitVec 64)
 | 0 => ([], [])
 | i + 1 => (fun (l : List (BitVec 64) × List (BitVec 64)) (o : Mo) => (fun p : W2 => (l.1 ++ [p.1], l.2 ++ [p.2])) (oneA o (l.1.getD o.a.toNat 0#64, l.2.getD o.a.toNat 0#64) (l.1.getD o.b.toNat 0#64, l.2.getD o.b.toNat 0#64) in0 in1 (D0 i) (D1 i) (T0 i) (T1 i))) (simA ops in0 in1 D0 D1 T0 T1 i) (ops.getD i mo0)
theorem simA_len (ops : List Mo) (in0 in1 : List (BitVec 64)) (D0 D1 : Nat → BitVec 64) (T0 T1 : Nat → Tr) (i : Nat) : (simA ops in0 in1 D0 D1 T0 T1 i).1.length = i ∧ (simA ops in0 in1 D0 D1 T0 T1 i).2.length = i := by
 induction i with
 | zero => exact ⟨rfl, rfl⟩
 | succ i ih => rw [simA]; simp only [List.length_append, ih.1, ih.2, List.length_cons, List.length_nil]; exact ⟨trivial, trivial⟩
theorem good_rng {ops : List Mo} {i : Nat} {at' w : Int} (h : wantP ops i at' w) : at' = 0 ∨ (0 ≤ at' ∧ at' < (i : Nat)) := by
 unfold wantP at h
 by_cases hw : w = 0
 ·rw [if_pos hw] at h; exact .inl h
 ·rw [if_neg hw] at h; exact .inr ⟨h.1, h.2.1⟩
section
variable {M : Nat → Prop} {w₀ w : World} {P X A B Y : List (Option Nat × Obj)}
theorem Hp.midP (H : Hp M w₀ w (P ++ (X ++ (A ++ Y)))) : Hp M w₀ w (P ++ (A ++ (X ++ Y))) := H.perm (List.Perm.append_left P (perm_midQ X A Y))
theorem Hp.midPB (H : Hp M w₀ w (P ++ (X ++ (B ++ (A ++ Y))))) : Hp M w₀ w (P ++ (A ++ (X ++ (B ++ Y)))) := H.perm (List.Perm.append_left P (by
 have h := perm_midQ (X ++ B) A Y
 simpa [List.append_assoc] using h))
theorem Hp.backPB (H : Hp M w₀ w (P ++ (A ++ (X ++ (B ++ Y))))) : Hp M w₀ w (P ++ (X ++ (B ++ (A ++ Y)))) := H.perm (List.Perm.append_left P (by
 have h := perm_midQ A (X ++ B) Y
 simpa [List.append_assoc] using h))
end
end Go.Proofs.YtohngnahcgbfmaaGreatDoor.Mi
namespace Go.Proofs.YtohngnahcgbfmaaGreatDoor.Mi
open Go Go.Proofs.YtohngnahcgbfmaaGreatDoor.Vc Go.Proofs.YtohngnahcgbfmaaGreatDoor.Circ Go.Proofs.YtohngnahcgbfmaaGreatDoor.Co
def opsW : List Mo := [⟨1, 0, 0, 0, 0#64, 0⟩, ⟨1, 0, 0, 0, 0#64, 1⟩, ⟨6, 0, 1, 0, 0#64, 0⟩, ⟨18, 2, 0, 0, 0#64, 0⟩]
instance {ops : List Mo} {i : Nat} {x y : Int} : Decidable (wantP ops i x y) := by unfold wantP fitS; infer_instance
theorem goodW : Good opsW 1 1 where
 l0 := by decide
 h0 := by decide
 l1 := by decide
 h1 := by decide
 len := by decide
 at' := fun i hi => by
  have e : outsS opsW = 1 := by decide
  rcases (show i = 0 ∨ i = 1 ∨ i = 2 ∨ i = 3 from by have : i < 4 := hi; omega) with rfl | rfl | rfl | rfl
  ·exact ⟨by decide, fun h => absurd h (by decide), by decide, by decide, by decide, by decide, by decide⟩
  ·exact ⟨by decide, fun h => absurd h (by decide), by decide, by decide, by decide, by decide, by decide⟩
  ·exact ⟨by decide, fun h => absurd h (by decide), by decide, by decide, by decide, by decide, by decide⟩
  ·refine ⟨by decide, fun _ => ⟨by decide, by rw [e]; decide, fun j hj => ?_⟩, by decide, by decide, by decide, by decide, by decide⟩
   rcases (show j = 0 ∨ j = 1 ∨ j = 2 by omega) with rfl | rfl | rfl <;> exact fun h => absurd h (by decide)
theorem goodW66 : Good opsW 65536 65536 where
 l0 := by decide
 h0 := by decide
 l1 := by decide
 h1 := by decide
 len := by decide
 at' := fun i hi => by
  have e : outsS opsW = 1 := by decide
  rcases (show i = 0 ∨ i = 1 ∨ i = 2 ∨ i = 3 from by have : i < 4 := hi; omega) with rfl | rfl | rfl | rfl
  ·exact ⟨by decide, fun h => absurd h (by decide), by decide, by decide, by decide, by decide, by decide⟩
  ·exact ⟨by decide, fun h => absurd h (by decide), by decide, by decide, by decide, by decide, by decide⟩
  ·exact ⟨by decide, fun h => absurd h (by decide), by decide, by decide, by decide, by decide, by decide⟩
  ·refine ⟨by decide, fun _ => ⟨by decide, by rw [e]; decide, fun j hj => ?_⟩, by decide, by decide, by decide, by decide, by decide⟩
   rcases (show j = 0 ∨ j = 1 ∨ j = 2 by omega) with rfl | rfl | rfl <;> exact fun h => absurd h (by decide)
theorem kdaW : ∀ j, j < opsW.length → KdA (opsW.getD j mo0) 1 1 := fun j hj => by
 rcases (show j = 0 ∨ j = 1 ∨ j = 2 ∨ j = 3 from by have : j < 4 := hj; omega) with rfl | rfl | rfl | rfl <;> exact ⟨by decide, by decide⟩
section
variable {s t : Tr} {D0 D1 : Nat → BitVec 64} {T0 T1 : Nat → Tr}
theorem simW (h0 : D0 0 = 10#64) (h1 : D1 1 = 20#64) (hs : T0 2 = ⟨1#64, 3#64, 5#64⟩) (ht : T1 2 = ⟨2#64, 4#64, 16#64⟩) :
  (simA opsW [3#64] [5#64] D0 D1 T0 T1 4).1.getD 0 0#64 = 10#64 ∧ (simA opsW [3#64] [5#64] D0 D1 T0 T1 4).1.getD 3 0#64 = 15#64 := by
 simp [simA, oneA, opsW, mulS, h0, h1, hs, ht]
end
theorem eqAtI {P : Program} {T : TypeId} {d : Nat} (hu : P.underlying T = some (.int .i64)) : Go.Proofs.YtohngnahcgbfmaaGreatDoor.Vc.EqAt P (d + 1) T EI := fun a b w h => by
 show (Op.equalIn (d + 1) T (i64 a) (i64 b)).run P w = _
 rw [i64, i64, run_equalIn_int w d T _ _ _ _ hu]
 congr 1
 rw [ibeq, decide_eq_decide]
/-- rows that stand there once something is done -/
def Opt (b : Bool) (X : List (Option Nat × Obj) → Prop) (P : List (Option Nat × Obj)) : Prop := match b with | true => X P | false => P = []
theorem Hp.segs {M : Nat → Prop} {w₀ w : World} {S : List (List (Option Nat × Obj))} (H : Hp M w₀ w S.flatten) (idx : List Nat) (h : idx.Perm (List.range S.length)) : Hp M w₀ w (idx.map fun i => S.getD i []).flatten := by
 have e : S = (List.range S.length).map fun i => S.getD i [] := by
  apply List.ext_getElem (by simp)
  intro i h1 h2
  rw [List.getElem_map, List.getElem_range, List.getD, List.getElem?_eq_getElem h1, Option.getD_some]
 refine H.perm ?_
 have h2 := ((h.map fun i => S.getD i []).flatten).symm
 rwa [← e] at h2
theorem Hp.segsD {M : Nat → Prop} {w₀ w : World} {S : List (List (Option Nat × Obj))} (H : Hp M w₀ w S.flatten) (n : Nat) (hn : S.length = n) (idx rest : List Nat) (h : (idx ++ rest).Perm (List.range n)) : Hp M w₀ w (idx.map fun i => S.getD i []).flatten := by
 subst hn
 have h2 := Hp.segs H _ h
 rw [List.map_append, List.flatten_append] at h2
 exact h2.sub (List.sublist_append_left _ _)
/-- two values in an array -/
def bld (a b : Value) : Value := .agg (a.cells ++ b.cells)
end Go.Proofs.YtohngnahcgbfmaaGreatDoor.Mi
namespace Go.Proofs.YtohngnahcgbfmaaGreatDoor.Mi
open Go Go.Proofs.YtohngnahcgbfmaaGreatDoor.Vc Go.Proofs.YtohngnahcgbfmaaGreatDoor.Circ
def WaS (o : Mo) (a b m r : Int) : Prop := (ruleS o 65536 65536).1.a = a ∧ (ruleS o 65536 65536).1.b = b ∧ (ruleS o 65536 65536).1.m = m ∧ (ruleS o 65536 65536).1.r = r
section
variable {o : Mo}
theorem wa1 (hok : (ruleS o 65536 65536).2 = true) (h : o.kd = 1) : WaS o 0 0 1 1 := by
 have e : ruleS o 65536 65536 = (⟨0, 0, 1, inK o 65536 65536, false, true, 1⟩, decide (0 < inK o 65536 65536)) := by
  unfold ruleS at hok ⊢
  rw [if_pos h] at hok ⊢
  split at hok
  ·cases hok
  ·rename_i h2; rw [if_neg h2]
 unfold WaS; rw [e]; exact ⟨rfl, rfl, rfl, rfl⟩
theorem wa2 (h : o.kd = 2) : WaS o 0 0 3 0 := by simp [WaS, ruleS, h]
theorem wa3 (h : o.kd = 3 ∨ o.kd = 4) : WaS o 1 1 1 0 := by rcases h with h | h <;> simp [WaS, ruleS, h]
theorem wa5 (h : o.kd = 5) : WaS o 1 0 1 0 := by simp [WaS, ruleS, h]
theorem wa6 (h : o.kd = 6) : WaS o 1 1 1 1 := by simp [WaS, ruleS, h]
theorem wa7 (h : o.kd = 7) : WaS o 2 2 2 0 := by simp [WaS, ruleS, h]
theorem wa8 (h : o.kd = 8 ∨ o.kd = 10 ∨ o.kd = 11 ∨ o.kd = 12 ∨ o.kd = 13 ∨ o.kd = 14) : WaS o 2 0 2 0 := by rcases h with h | h | h | h | h | h <;> simp [WaS, ruleS, h]
theorem wa9 (h : o.kd = 9) : WaS o 2 2 2 1 := by simp [WaS, ruleS, h]
theorem wa15 (h : o.kd = 15) : WaS o 1 0 2 0 := by simp [WaS, ruleS, h]
theorem wa16 (h : o.kd = 16) : WaS o 2 0 1 0 := by simp [WaS, ruleS, h]
theorem wa18 (h : o.kd = 18) : WaS o 1 0 0 1 := by simp [WaS, ruleS, h]
theorem wa19 (h : o.kd = 19) : WaS o 2 0 0 1 := by simp [WaS, ruleS, h]
theorem wa17 (hok : (ruleS o 65536 65536).2 = true) (h : o.kd = 17) : WaS o (foS o.c) (if o.k = 1 then 0 else foS (o.c >>> 1)) 2 2 := by unfold WaS; rw [(garb_of h hok).2]; exact ⟨rfl, rfl, rfl, rfl⟩
theorem wa_none (hok : (ruleS o 65536 65536).2 = true) (h : ∀ k : Int, 1 ≤ k → k ≤ 19 → o.kd ≠ k) : False := by
 have e : ruleS o 65536 65536 = (ru0, false) := by
  unfold ruleS
  rw [if_neg (h 1 (by decide) (by decide)), if_neg (h 2 (by decide) (by decide)), if_neg (fun e => e.elim (h 3 (by decide) (by decide)) (h 4 (by decide) (by decide))), if_neg (h 5 (by decide) (by decide)), if_neg (h 6 (by decide) (by decide)), if_neg (h 7 (by decide) (by decide)), if_neg (fun e => e.elim (h 8 (by decide) (by decide)) (h 10 (by decide) (by decide))), if_neg (h 9 (by decide) (by decide)), if_neg (fun e => e.elim (h 11 (by decide) (by decide)) fun e => e.elim (h 12 (by decide) (by decide)) (h 13 (by decide) (by decide))), if_neg (h 14 (by decide) (by decide)), if_neg (h 15 (by decide) (by decide)), if_neg (h 16 (by decide) (by decide)), if_neg (h 17 (by decide) (by decide)), if_neg (h 18 (by decide) (by decide)), if_neg (h 19 (by decide) (by decide))]
 rw [e] at hok; cases hok
end
theorem fo_rem (c : BitVec 64) : 1 + (c % 2#64).toInt = foS c := by
 have h : c &&& 1#64 = c % 2#64 := by
  apply BitVec.eq_of_toNat_eq
  rw [BitVec.toNat_and, BitVec.toNat_umod]
  exact Nat.and_two_pow_sub_one_eq_mod c.toNat 1
 have h2 : (c % 2#64).toNat < 2 := by rw [BitVec.toNat_umod]; exact Nat.mod_lt _ (by decide)
 unfold foS
 rw [h]
 rcases (show (c % 2#64).toNat = 0 ∨ (c % 2#64).toNat = 1 by omega) with e | e
 ·have e2 : c % 2#64 = 0#64 := BitVec.eq_of_toNat_eq e
  rw [e2]; decide
 ·have e2 : c % 2#64 = 1#64 := BitVec.eq_of_toNat_eq e
  rw [e2]; decide
theorem rem_rng (c : BitVec 64) : 0 ≤ (c % 2#64).toInt ∧ (c % 2#64).toInt ≤ 1 := by
 have h := fo_rem c
 unfold foS at h
 split at h <;> omega
theorem half_shift (c : BitVec 64) : c / 2#64 = c >>> 1 := by
 apply BitVec.eq_of_toNat_eq
 rw [BitVec.toNat_udiv, BitVec.toNat_ushiftRight, Nat.shiftRight_eq_div_pow]; rfl
end Go.Proofs.YtohngnahcgbfmaaGreatDoor.Mi
namespace Go.Proofs.YtohngnahcgbfmaaGreatDoor.Mi
open Go Go.Proofs.YtohngnahcgbfmaaGreatDoor.Vc Go.Proofs.YtohngnahcgbfmaaGreatDoor.Circ
/-- an operation, moved behind others -/
def shM (na nt : Nat) (o : Mo) : Mo :=
 ⟨o.kd, if (ruleS o 65536 65536).1.a = 0 then o.a else o.a + (na : Nat), if (ruleS o 65536 65536).1.b = 0 then o.b else o.b + (na : Nat), if tld o then o.k + (nt : Nat) else o.k, o.c, o.pt⟩
section
variable {na nt : Nat} {o : Mo}
theorem shM_tld : tld (shM na nt o) ↔ tld o := Iff.rfl
theorem shM_k (h : ¬ tld o) : (shM na nt o).k = o.k := if_neg h
theorem shM_opG (h : o.kd = 17) : opG (shM na nt o) = opG o := by
 unfold opG; rw [shM_k (by unfold tld; omega)]
theorem shM_andG (h : o.kd = 17) : andG (shM na nt o) = andG o := by
 unfold andG makeG; rw [shM_k (by unfold tld; omega)]; rfl
theorem shM_gru (h : o.kd = 17) : gruS (shM na nt o) = gruS o := by
 unfold gruS; rw [shM_k (by unfold tld; omega)]; rfl
theorem shM_rule (e0 e1 : Int) : ruleS (shM na nt o) e0 e1 = ruleS o e0 e1 := by
 by_cases h : o.kd = 17
 ·have g1 : ruleS (shM na nt o) e0 e1 = gruS (shM na nt o) := by simp [ruleS, show (shM na nt o).kd = 17 from h]
  have g2 : ruleS o e0 e1 = gruS o := by simp [ruleS, h]
  rw [g1, g2, shM_gru h]
 ·have h' : ¬ (shM na nt o).kd = 17 := h
  unfold ruleS
  rw [if_neg h', if_neg h]
  rfl
theorem shM_mk : mkS (shM na nt o) = mkS o := by unfold mkS; rw [shM_rule]
theorem shM_fO : fO (shM na nt o) = fO o := by
 unfold fO
 by_cases h : o.kd = 17
 ·rw [if_pos h, if_pos (show (shM na nt o).kd = 17 from h), shM_opG h]
 ·rw [if_neg h, if_neg (show ¬ (shM na nt o).kd = 17 from h)]
theorem shM_fT0 : fT0 (shM na nt o) = fT0 o := by
 unfold fT0
 by_cases h : o.kd = 17
 ·rw [if_pos h, if_pos (show (shM na nt o).kd = 17 from h), shM_opG h]; rfl
 ·rw [if_neg h, if_neg (show ¬ (shM na nt o).kd = 17 from h)]; rfl
theorem shM_fW0 : fW0 (shM na nt o) = fW0 o := by
 unfold fW0
 by_cases h : o.kd = 17
 ·rw [if_pos h, if_pos (show (shM na nt o).kd = 17 from h), shM_opG h, shM_andG h]; rfl
 ·rw [if_neg h, if_neg (show ¬ (shM na nt o).kd = 17 from h)]; rfl
theorem shM_fW1 : fW1 (shM na nt o) = fW1 o := by
 unfold fW1
 by_cases h : o.kd = 17
 ·rw [if_pos h, if_pos (show (shM na nt o).kd = 17 from h), shM_opG h]; rfl
 ·rw [if_neg h, if_neg (show ¬ (shM na nt o).kd = 17 from h)]; rfl
end
def joinM (a b : List Mo) : List Mo := a ++ b.map (shM a.length (outsS a))
section
variable {a b : List Mo}
theorem join_len : (joinM a b).length = a.length + b.length := by simp [joinM]
theorem join_lo {i : Nat} (h : i < a.length) : (joinM a b).getD i mo0 = a.getD i mo0 := by
 unfold joinM; rw [List.getD_eq_getElem?_getD, List.getElem?_append_left h, ← List.getD_eq_getElem?_getD]
theorem join_hi {j : Nat} (h : j < b.length) : (joinM a b).getD (a.length + j) mo0 = shM a.length (outsS a) (b.getD j mo0) := by
 unfold joinM; rw [List.getD_eq_getElem?_getD, List.getElem?_append_right (by omega), Nat.add_sub_cancel_left, List.getElem?_map, List.getD_eq_getElem?_getD, List.getElem?_eq_getElem h]; rfl
theorem cnt_lo (f : Mo → Nat) (i : Nat) (h : i ≤ a.length) : cntS f (joinM a b) i = cntS f a i := by
 induction i with
 | zero => rfl
 | succ i ih => rw [cntS, cntS, ih (by omega), join_lo (by omega)]
theorem cnt_hi {f : Mo → Nat} (hf : ∀ na nt o, f (shM na nt o) = f o) (j : Nat) (h : j ≤ b.length) : cntS f (joinM a b) (a.length + j) = cntS f a a.length + cntS f b j := by
 induction j with
 | zero => exact cnt_lo f a.length (Nat.le_refl _)
 | succ j ih => rw [← Nat.add_assoc, cntS, cntS, ih (by omega), join_hi (by omega), hf]; omega
theorem cnt_join {f : Mo → Nat} (hf : ∀ na nt o, f (shM na nt o) = f o) : cntS f (joinM a b) (joinM a b).length = cntS f a a.length + cntS f b b.length := by
 rw [join_len]; exact cnt_hi hf _ (Nat.le_refl _)
theorem outs_join : outsS (joinM a b) = outsS a + outsS b := cnt_join fun _ _ _ => rfl
theorem want_lo {i : Nat} {at' w : Int} (hi : i ≤ a.length) (h : wantP a i at' w) : wantP (joinM a b) i at' w := by
 unfold wantP at *
 by_cases hw : w = 0
 ·rw [if_pos hw] at *; exact h
 ·rw [if_neg hw] at *; exact ⟨h.1, h.2.1, by rw [join_lo (by omega)]; exact h.2.2⟩
theorem want_hi {j : Nat} {at' w : Int} (hj : j ≤ b.length) (h : wantP b j at' w) : wantP (joinM a b) (a.length + j) (if w = 0 then at' else at' + (a.length : Nat)) w := by
 unfold wantP at *
 by_cases hw : w = 0
 ·rw [if_pos hw] at *; rw [if_pos hw]; exact h
 ·rw [if_neg hw] at *; rw [if_neg hw]
  refine ⟨by omega, by omega, ?_⟩
  rw [show (at' + (a.length : Nat)).toNat = a.length + at'.toNat by omega, join_hi (by omega), shM_mk]; exact h.2.2
variable (ha : Good a 65536 65536) (hb : Good b 65536 65536)
include ha hb
theorem good_join (hl : a.length + b.length ≤ 16384) : Good (joinM a b) 65536 65536 := by
 refine ⟨by decide, by decide, by decide, by decide, by rw [join_len]; exact hl, fun i hi => ?_⟩
 rw [join_len] at hi
 by_cases h : i < a.length
 ·have g := ha.at' i h
  rw [join_lo h]
  have ho : outsS a ≤ outsS (joinM a b) := by rw [outs_join]; omega
  refine ⟨g.ok, fun ht => ?_, want_lo (by omega) g.a, want_lo (by omega) g.b, ?_, g.c, g.p⟩
  ·obtain ⟨h1, h2, h3⟩ := g.told ht
   exact ⟨h1, by omega, fun j hj => by rw [join_lo (by omega)]; exact h3 j hj⟩
  ·unfold rkS
   by_cases ht : tld (a.getD i mo0)
   ·obtain ⟨h1, h2, _⟩ := g.told ht
    rw [if_pos ht]; left; omega
   ·have := g.k; unfold rkS at this; rw [if_neg ht] at this ⊢; exact this
 ·obtain ⟨j, rfl⟩ : ∃ j, i = a.length + j := ⟨i - a.length, by omega⟩
  have hj : j < b.length := by omega
  have g := hb.at' j hj
  rw [join_hi hj]
  refine ⟨by rw [shM_rule]; exact g.ok, fun ht => ?_, ?_, ?_, ?_, by rw [shM_rule]; exact g.c, by rw [shM_rule]; exact g.p⟩
  ·have ht' : tld (b.getD j mo0) := ht
   obtain ⟨h1, h2, h3⟩ := g.told ht'
   have hk : (shM a.length (outsS a) (b.getD j mo0)).k = (b.getD j mo0).k + (outsS a : Nat) := if_pos ht'
   rw [hk, outs_join]
   refine ⟨by omega, by omega, fun q hq => ?_⟩
   by_cases h4 : q < a.length
   ·rw [join_lo h4]; intro hq2
    have := ((ha.at' q h4).told hq2).2.1
    omega
   ·obtain ⟨p, rfl⟩ : ∃ p, q = a.length + p := ⟨q - a.length, by omega⟩
    rw [join_hi (by omega)]
    intro hq2
    have hq3 : tld (b.getD p mo0) := hq2
    have hk2 : (shM a.length (outsS a) (b.getD p mo0)).k = (b.getD p mo0).k + (outsS a : Nat) := if_pos hq3
    rw [hk2]
    have := h3 p (by omega) hq3
    omega
  ·rw [shM_rule]; exact want_hi (by omega) g.a
  ·rw [shM_rule]; exact want_hi (by omega) g.b
  ·unfold rkS
   by_cases ht : tld (b.getD j mo0)
   ·obtain ⟨h1, h2, _⟩ := g.told ht
    have hk : (shM a.length (outsS a) (b.getD j mo0)).k = (b.getD j mo0).k + (outsS a : Nat) := if_pos ht
    rw [if_pos (shM_tld.2 ht), hk, outs_join]; left; omega
   ·have := g.k; unfold rkS at this; rw [if_neg ht] at this
    rw [if_neg (fun h => ht (shM_tld.1 h)), shM_rule, shM_k ht]; exact this
omit ha hb in
theorem rd_lo (i : Nat) (h : i ≤ a.length) : rdS (joinM a b) i = rdS a i := by
 induction i with
 | zero => rfl
 | succ i ih => rw [rdS, rdS, ih (by omega), join_lo (by omega)]
omit ha in
theorem rd_hi (j : Nat) (h : j ≤ b.length) : rdS (joinM a b) (a.length + j) = rdS a a.length ++ rdS b j := by
 induction j with
 | zero => rw [Nat.add_zero, rd_lo _ (Nat.le_refl _)]; simp [rdS]
 | succ j ih =>
  have g := hb.at' j (by omega)
  have hat : ∀ {at' w : Int}, wantP b j at' w → w ≠ 0 → (rdS a a.length ++ rdS b j).getD (at' + (a.length : Nat)).toNat 0 = (rdS b j).getD at'.toNat 0 := fun {at' w} hw h0 => by
   unfold wantP at hw
   rw [if_neg h0] at hw
   rw [List.getD_eq_getElem?_getD, List.getElem?_append_right (by rw [rdS_len]; omega), rdS_len, show (at' + (a.length : Nat)).toNat - a.length = at'.toNat by omega, ← List.getD_eq_getElem?_getD]
  rw [← Nat.add_assoc, rdS, ih (by omega), join_hi (by omega), shM_rule, rdS, ← List.append_assoc]
  congr 3
  unfold aheadS
  by_cases h1 : (ruleS (b.getD j mo0) 65536 65536).1.b = 0 <;> by_cases h2 : (ruleS (b.getD j mo0) 65536 65536).1.a = 0
  ·simp only [shM, if_pos h1, if_pos h2]
  ·simp only [shM, if_pos h1, if_neg h2]; exact hat g.a h2
  ·simp only [shM, if_neg h1, if_pos h2]; rw [hat g.b h1]
  ·simp only [shM, if_neg h1, if_neg h2]; rw [hat g.a h2, hat g.b h1]
omit ha hb in
theorem mx_app (A B : List Int) (j : Nat) (h : j ≤ B.length) : mxS (A ++ B) (A.length + j) = max (mxS A A.length) (mxS B j) := by
 have lo : ∀ i, i ≤ A.length → mxS (A ++ B) i = mxS A i := fun i hi => by
  induction i with
  | zero => rfl
  | succ i ih => rw [mxS, mxS, ih (by omega), List.getD_eq_getElem?_getD, List.getElem?_append_left (by omega), ← List.getD_eq_getElem?_getD]
 have nn : ∀ (l : List Int) i, 0 ≤ mxS l i := fun l i => by
  induction i with
  | zero => exact Int.le_refl _
  | succ i ih => rw [mxS]; omega
 induction j with
 | zero => rw [Nat.add_zero, lo _ (Nat.le_refl _), mxS]; have := nn A A.length; omega
 | succ j ih => rw [← Nat.add_assoc, mxS, mxS, ih (by omega), List.getD_eq_getElem?_getD, List.getElem?_append_right (by omega), Nat.add_sub_cancel_left, ← List.getD_eq_getElem?_getD]; omega
omit ha in
theorem rounds_join : mxS (rdS (joinM a b) (joinM a b).length) (joinM a b).length = max (mxS (rdS a a.length) a.length) (mxS (rdS b b.length) b.length) := by
 rw [join_len, rd_hi hb _ (Nat.le_refl _)]
 have h := mx_app (rdS a a.length) (rdS b b.length) b.length (by rw [rdS_len]; exact Nat.le_refl _)
 rw [rdS_len] at h; exact h
omit ha hb in
theorem nT0_join : nT0 (joinM a b) + min (dlt a) (dlt b) = nT0 a + nT0 b := by
 unfold nT0 dlt
 rw [cnt_join (f := fT0) fun _ _ _ => shM_fT0, cnt_join (f := fG) fun _ _ _ => rfl]
 split <;> split <;> split <;> omega
end
end Go.Proofs.YtohngnahcgbfmaaGreatDoor.Mi
namespace Go.Proofs.YtohngnahcgbfmaaGreatDoor.Mi
open Go Go.Proofs.YtohngnahcgbfmaaGreatDoor.Vc Go.Proofs.YtohngnahcgbfmaaGreatDoor.Circ
def dlI (ops : List Mo) (i : Nat) : Int := if 0 < cntS fG ops i then 2 else 0
theorem dl_t {ops : List Mo} {i : Nat} (h : (ops.getD i mo0).kd = 17) : dlI ops (i + 1) = 2 := by
 unfold dlI; rw [if_pos]; rw [cntS, fG, if_pos h]; omega
theorem dl_f {ops : List Mo} {i : Nat} (h : ¬ (ops.getD i mo0).kd = 17) : dlI ops (i + 1) = dlI ops i := by
 unfold dlI; rw [cntS, fG, if_neg h, Nat.add_zero]
theorem dl_dlt (ops : List Mo) : dlI ops ops.length = ((dlt ops : Nat) : Int) := by unfold dlI dlt; split <;> rfl
theorem tld_ge {o : Mo} (hok : (ruleS o 65536 65536).2 = true) : 18 ≤ o.kd ↔ tld o := by
 constructor
 ·intro h
  by_cases h1 : o.kd = 18
  ·exact .inl h1
  ·by_cases h2 : o.kd = 19
   ·exact .inr h2
   ·exact (wa_none hok fun k h3 h4 h5 => by omega).elim
 ·intro h; rcases h with h | h <;> omega
theorem tld_s {ops : List Mo} {i : Nat} (hok : (ruleS (ops.getD i mo0) 65536 65536).2 = true) (h : (18 : Int) ≤ (ops.getD i mo0).kd) : cntS fTold ops (i + 1) = cntS fTold ops i + 1 := by
 rw [cntS, fTold, if_pos ((tld_ge hok).1 h)]
theorem tld_n {ops : List Mo} {i : Nat} (hok : (ruleS (ops.getD i mo0) 65536 65536).2 = true) (h : ¬ (18 : Int) ≤ (ops.getD i mo0).kd) : cntS fTold ops (i + 1) = cntS fTold ops i := by
 rw [cntS, fTold, if_neg (fun x => h ((tld_ge hok).2 x)), Nat.add_zero]
/-- the first one, and a beginning of the second one behind it -/
def jL (xs ys : List Mo) (i : Nat) : List Mo := xs ++ (ys.take i).map (shM xs.length (outsS xs))
theorem jl_zero (xs ys : List Mo) : jL xs ys 0 = xs := by simp [jL]
theorem jl_end (xs ys : List Mo) : jL xs ys ys.length = joinM xs ys := by unfold jL joinM; rw [List.take_length]
theorem jl_len {xs ys : List Mo} {i : Nat} (h : i ≤ ys.length) : (jL xs ys i).length = xs.length + i := by
 unfold jL; rw [List.length_append, List.length_map, List.length_take]; omega
theorem jl_succ {xs ys : List Mo} {i : Nat} {m : Mo} (h : i < ys.length) (hm : m = shM xs.length (outsS xs) (ys.getD i mo0)) : jL xs ys i ++ [m] = jL xs ys (i + 1) := by
 unfold jL
 rw [List.append_assoc]
 congr 1
 rw [List.take_add_one, List.getElem?_eq_getElem h, List.map_append, hm, List.getD, List.getElem?_eq_getElem h]
 rfl
theorem sh_is {na nt : Nat} {o : Mo} {a b k : Int} (ha : a = if (ruleS o 65536 65536).1.a = 0 then o.a else o.a + (na : Nat)) (hb : b = if (ruleS o 65536 65536).1.b = 0 then o.b else o.b + (na : Nat)) (hk : k = if tld o then o.k + (nt : Nat) else o.k) : (⟨o.kd, a, b, k, o.c, o.pt⟩ : Mo) = shM na nt o := by
 rw [ha, hb, hk]; rfl
theorem nLe (ops : List Mo) : nA ops ≤ 1 * ops.length ∧ nB ops ≤ 1 * ops.length ∧ nO ops ≤ 128 * ops.length ∧ nT1 ops ≤ 1 * ops.length ∧ nW0 ops ≤ 10000 * ops.length ∧ nW1 ops ≤ 10 * ops.length ∧ nT0 ops ≤ 513 * ops.length + 2 ∧ dlt ops ≤ 2 ∧ dlt ops ≤ nT0 ops := by
 have h := cntLe ops ops.length
 have hd : dlt ops ≤ 2 := by unfold dlt; split <;> omega
 have := h.T0
 exact ⟨h.A, h.B, h.O, h.T1, h.W0, h.W1, by unfold nT0; omega, hd, by unfold nT0; omega⟩
end Go.Proofs.YtohngnahcgbfmaaGreatDoor.Mi
namespace Go.Proofs.YtohngnahcgbfmaaGreatDoor.Vc
open Go Go.ChangeShapes Go.WideShapes Go.ChangeAt Go.RowKit
/-- What reads at a type is of one encoding, and its value is of one kind. -/
def Opens {α : Type} (P : Program) (e : TypeId) (E : Enc α) (Q : α → Prop) : Prop :=
 P.cellsOf e = E.s ∧ ∀ (H : Type) (enc : TypeId × Value → H) (w : World) (base : Nat) (spare : Nat → Bool) (held : Bool) (fuel : Nat) (cs : List Value) (x : DataW H × List MemPlace),
  DataW.trod enc P w base spare held fuel e cs = some x → ∃ a, cs = E.f a ∧ Q a
section
variable {P : Program} {e t : TypeId}
theorem opens64 (h : P.underlying e = some (.int .u64)) (hc : P.cellsOf e = 1) : Opens P e E64 fun _ => True := by
 refine ⟨hc, fun H enc w base spare held fuel cs x hx => ?_⟩
 obtain ⟨n, rfl, _, hw⟩ := DataW.trod_int h hx
 have := bounds_u64 hw
 refine ⟨BitVec.ofInt 64 n, ?_, trivial⟩
 show _ = [u64 _]
 rw [u64, BitVec.toNat_ofInt]; congr 2; omega
section
variable {H : Type} {enc : TypeId × Value → H} {w : World} {base : Nat} {spare : Nat → Bool} {held : Bool} {r : Reach} {b0 : Nat} {v : Value} {d : DataW H} {ps : List MemPlace}
/-- arguments read as they did -/
theorem trodAll_below {W W' : World} (hl : laidOutB P = true) (hb : Below W.heap.size W W') : ∀ (ts : List TypeId) (vs : List Value) (ds : List (DataW H)) (ps : List MemPlace),
  (∀ t ∈ ts, P.readableRec t = true ∧ t < P.types.size) → DataW.TrodAll enc P W 0 (fun _ => true) true ts vs ds ps → DataW.TrodAll enc P W' 0 (fun b => decide (b < W.heap.size)) true ts vs ds ps
 | [], vs, ds, ps, _, h => by cases vs <;> cases ds <;> simp_all [DataW.TrodAll]
 | t :: ts, vs, ds, ps, hr, h => by
  obtain ⟨v, vs', d, ds', p, q, rfl, rfl, rfl, h1, h2⟩ := trodAll_cons h
  have lt : ∀ x ∈ p, x.block < W.heap.size := by obtain ⟨m, hm⟩ := h1; exact DataW.trod_lt m _ _ _ hm
  exact trodAll_cons_mk (Below.trod hl (hr t (by simp)).1 (hr t (by simp)).2 h1 hb lt) (trodAll_below hl hb ts vs' ds' q (fun x hx => hr x (by simp [hx])) h2)
/-- the end of a law that returned true and wrote to no block that was there -/
theorem law_end {fn : Func} {s : ChangeSpec} {W W' : World} {args : Array Value} {ds gs : List (DataW H)} {before : List MemPlace} {tb : TypeId}
  (hl : laidOutB P = true) (hr0 : (fn.params.toList.all fun t => P.readableRec t && decide (t < P.types.size)) = true) (hres : fn.resultTypes.toList = [tb]) (hsz : fn.resultTypes.size = 1) (htb : P.underlying tb = some .bool) (hv : s.vars = [])
  (hW : DataW.Whole enc P fn.params.toList s.vars false W args.toList ds gs before) (h1 : (s.fn H (ds ++ gs)).results = [.lit (.bool true)]) (h2 : (s.fn H (ds ++ gs)).args = ds) (h3 : (s.fn H (ds ++ gs)).vars = [])
  (hb : Below W.heap.size W W') : s.post enc P fn false true false false W args (.bool true) W' := by
 have hr : ∀ t ∈ fn.params.toList, P.readableRec t = true ∧ t < P.types.size := fun t ht => by
  have := List.all_eq_true.1 hr0 t ht
  simpa using this
 have hW' := hW
 obtain ⟨p, q, hA, hV, rfl, hfz, hnd⟩ := hW
 refine ⟨ds, gs, _, [], p, [], hW', ?_, ?_, ?_, hb.frame _, fun h => by cases h⟩
 ·rw [hres, hsz, h1]
  exact trodAll_mk1 (shut_bool htb _)
 ·rw [h2]
  exact trodAll_below hl hb _ _ _ _ hr hA
 ·rw [h3, hv]; rfl
end
end
end Go.Proofs.YtohngnahcgbfmaaGreatDoor.Vc
namespace Go.Proofs.YtohngnahcgbfmaaGreatDoor.Vc
open Go Go.ChangeShapes Go.WideShapes Go.ChangeAt Go.RowKit Go.Deep
theorem cell_some {w : World} {b off : Nat} {v : Value} (h : w.cell? ⟨b, off, none⟩ = some v) : ∃ cs T fr, w.heap[b]? = some (.cells cs T fr) ∧ cs[off]? = some v := by
 unfold World.cell? at h
 split at h
 ·rename_i cs T fr hc
  exact ⟨cs, T, fr, hc, h⟩
 ·cases h
theorem list_of {α : Type} {p : Nat → α → Prop} : ∀ (n : Nat), (∀ i, i < n → ∃ a, p i a) → ∃ l : List α, l.length = n ∧ ∀ i a, l[i]? = some a → p i a
 | 0, _ => ⟨[], rfl, fun i a h => by simp at h⟩
 | n + 1, h => by
  obtain ⟨l, h1, h2⟩ := list_of n fun i hi => h i (by omega)
  obtain ⟨a, ha⟩ := h n (by omega)
  refine ⟨l ++ [a], by simp [h1], fun i x hx => ?_⟩
  by_cases hi : i < l.length
  ·rw [List.getElem?_append_left hi] at hx; exact h2 i x hx
  ·rw [List.getElem?_append_right (by omega)] at hx
   have := (List.getElem?_eq_some_iff.1 hx).1
   simp only [List.length_singleton] at this
   have e : i = n := by omega
   subst e
   rw [h1, Nat.sub_self] at hx
   simp at hx; subst hx; exact ha
section
variable {P : Program} {t e : TypeId} {α : Type} {E : Enc α} {Q : α → Prop} {H : Type} {enc : TypeId × Value → H} {w : World} {base : Nat} {held : Bool} {r : Reach} {b0 : Nat} {v : Value} {d : DataW H} {ps : List MemPlace}
/-- .. and how long it may be -/
theorem open_sized {ts : List TypeId} {ds : List (DataW H)} {j by' : Nat} {l : List α} (hw : (DataW.weightsEach P ts ds).all (· ≤ reachBytes) = true) (ht : P.underlying t = some (.slice e)) (hj : ts[j]? = some t) (hd : ds[j]? = some d) (hby : P.bytesOf e = by')
  (h : l = [] ∨ ∃ elems sp, d = .slice elems sp ∧ elems.length = l.length) : l.length * by' ≤ 140737488351232 := by
 rcases h with rfl | ⟨elems, sp, rfl, h1⟩
 ·simp
 ·have := sized_slice hw hj hd ht
  rw [hby, Nat.add_mul, h1] at this
  have h2 : reachBytes = 140737488351232 := by decide
  omega
end
end Go.Proofs.YtohngnahcgbfmaaGreatDoor.Vc
namespace Go.Proofs.YtohngnahcgbfmaaGreatDoor.Vc
open Go Go.ChangeShapes Go.WideShapes Go.ChangeAt Go.RowKit Go.Deep
section
variable {P : Program} {t e e8 : TypeId} {α : Type} {E : Enc α} {H : Type} {enc : TypeId × Value → H} {w : World} {base : Nat} {held : Bool} {r : Reach} {b0 : Nat} {v : Value} {d : DataW H} {ps : List MemPlace}
/-- What reads at a type is of one encoding; what is told of its value may hang on the world and on what was read. -/
def OpD (H : Type) (enc : TypeId × Value → H) {α : Type} (P : Program) (e : TypeId) (E : Enc α) (Q : World → DataW H → α → Prop) : Prop :=
 P.cellsOf e = E.s ∧ ∀ (w : World) (base : Nat) (held : Bool) (fuel : Nat) (cs : List Value) (x : DataW H × List MemPlace),
  DataW.trod enc P w base (fun _ => true) held fuel e cs = some x → ∃ a, cs = E.f a ∧ Q w x.1 a
/-- a slice, of what leads further -/
theorem open_slD {Q : World → DataW H → α → Prop} (ht : P.underlying t = some (.slice e)) (hE : OpD H enc P e E Q) (hv : Value.okWide P w r b0 t v) (h : DataW.Trod enc P w base (fun _ => true) held t v d ps) :
  ∃ a l c, v = .slice a l.length c ∧ Rd E w a l ∧ l.length ≤ c ∧ (l = [] ∨ ∃ elems sp, d = .slice elems sp ∧ elems.length = l.length ∧ ∀ (i : Nat) (x : α), l[i]? = some x → ∃ di, elems[i]? = some di ∧ Q w di x) := by
 obtain ⟨a, len, cap, rfl⟩ := okWide_slice ht hv
 obtain ⟨fuel, h⟩ := h
 rcases open_slice ht h with ⟨h1, _⟩ | ⟨ad, len', cap', m', n, D, Pl, h1, _, hl, _, hm, hx, hi⟩
 ·simp only [Value.cells, List.cons.injEq, Value.slice.injEq, and_true] at h1
  obtain ⟨rfl, rfl, rfl⟩ := h1
  exact ⟨none, [], 0, rfl, .inl rfl, by simp, .inl rfl⟩
 ·simp only [Value.cells, List.cons.injEq, Value.slice.injEq, and_true] at h1
  obtain ⟨rfl, rfl, rfl⟩ := h1
  simp only [if_true] at hm
  obtain ⟨l, hl1, hl2⟩ := list_of (p := fun i b => (∀ j, j < E.s → w.cell? ((ad.add (i * E.s)).add j) = (E.f b)[j]?) ∧ Q w (D i) b) len fun i hi' => by
   obtain ⟨cs', h2, h3⟩ := hi i (by omega)
   rw [hE.1] at h2
   obtain ⟨b, hb, hq⟩ := hE.2 _ _ _ _ _ _ h3
   obtain ⟨_, _, h4⟩ := World.cells?_some h2
   exact ⟨b, fun j hj => by rw [h4 j hj, hb], hq⟩
  refine ⟨some ad, l, cap, by rw [hl1], ?_, by omega, ?_⟩
  ·by_cases h0 : l = []
   ·exact .inl h0
   ·have hpos : 0 < len := by rw [← hl1]; exact List.length_pos_iff.2 h0
    have hcell : ∀ i y, l[i]? = some y → ∀ j, j < E.s → w.cell? ((ad.add (i * E.s)).add j) = (E.f y)[j]? := fun i y hy => (hl2 i y hy).1
    obtain ⟨y0, hy0⟩ : ∃ y, l[0]? = some y := ⟨_, List.getElem?_eq_getElem (by omega)⟩
    have h00 := hcell 0 y0 hy0 0 E.pos
    obtain ⟨u0, hu0⟩ : ∃ u, (E.f y0)[0]? = some u := ⟨_, List.getElem?_eq_getElem (by rw [E.len]; exact E.pos)⟩
    rw [hu0] at h00
    obtain ⟨b, off, spot⟩ := ad
    have hspot : spot = none := by
     have := World.cell?_spot h00
     cases spot with
     | none => rfl
     | some s => simp [Addr.add] at this
    subst hspot
    rw [Addr.add_lit, Addr.add_lit] at h00
    obtain ⟨cs, T, fr, h2, _⟩ := cell_some h00
    refine .inr ⟨b, off, cs, T, fr, rfl, h2, fun q u hu => ?_⟩
    have hq := (List.getElem?_eq_some_iff.1 hu).1
    rw [cel_length] at hq
    have hi' : q / E.s < l.length := Nat.div_lt_of_lt_mul (by rw [Nat.mul_comm]; exact hq)
    have hj' : q % E.s < E.s := Nat.mod_lt _ E.pos
    have hqe : q / E.s * E.s + q % E.s = q := by rw [Nat.mul_comm]; exact Nat.div_add_mod _ _
    have hy := List.getElem?_eq_getElem hi'
    have h5 := hcell _ _ hy _ hj'
    have h6 := cel_get (E := E) l (q / E.s) (q % E.s) _ hy hj'
    rw [hqe, hu] at h6
    rw [← h6, Addr.add_lit, Addr.add_lit, Nat.add_assoc, hqe] at h5
    obtain ⟨cs', T', fr', h7, h8⟩ := cell_some h5
    rw [h2] at h7; cases h7
    exact h8
  ·simp only [Prod.mk.injEq] at hx
   refine .inr ⟨_, _, hx.1, by simp [hl1], fun i y hy => ⟨D i, ?_, (hl2 i y hy).2⟩⟩
   have := (List.getElem?_eq_some_iff.1 hy).1
   rw [List.getElem?_map, List.getElem?_range (by omega)]; rfl
end
end Go.Proofs.YtohngnahcgbfmaaGreatDoor.Vc
namespace Go.Proofs.YtohngnahcgbfmaaGreatDoor.Vc
open Go Go.ChangeShapes Go.WideShapes Go.ChangeAt Go.RowKit Go.Deep
section
variable {P : Program} {t e e2 e4 : TypeId} {H : Type} {enc : TypeId × Value → H} {w : World} {base : Nat} {held : Bool} {r : Reach} {b0 : Nat} {v : Value} {d : DataW H} {ps : List MemPlace}
def QT {α : Type} {H : Type} (_ : World) (_ : DataW H) (_ : α) : Prop := True
/-- an argument that is such a slice -/
theorem open_slQ {α : Type} {E : Enc α} {ts : List TypeId} {ds : List (DataW H)} {j by' : Nat} (ht : P.underlying t = some (.slice e)) (hO : OpD H enc P e E QT) (hb : P.bytesOf e = by')
  (hv : Value.okWide P w r b0 t v) (h : DataW.Trod enc P w base (fun _ => true) held t v d ps) (hw : (DataW.weightsEach P ts ds).all (· ≤ reachBytes) = true) (hj : ts[j]? = some t) (hd : ds[j]? = some d) :
  ∃ a l c, v = .slice a l.length c ∧ Rd E w a l ∧ l.length ≤ c ∧ l.length * by' ≤ 140737488351232 := by
 obtain ⟨a, l, c, rfl, hR, hlc, hq⟩ := open_slD ht hO hv h
 exact ⟨a, l, c, rfl, hR, hlc, open_sized (l := l) hw ht hj hd hb (hq.imp id fun ⟨elems, sp, h1, h2, _⟩ => ⟨elems, sp, h1, h2⟩)⟩
end
end Go.Proofs.YtohngnahcgbfmaaGreatDoor.Vc
namespace Go.Proofs.YtohngnahcgbfmaaGreatDoor.Vc
open Go Go.ChangeShapes Go.WideShapes Go.ChangeAt Go.RowKit Go.Deep
section
variable {P : Program} {t e : TypeId} {H : Type} {enc : TypeId × Value → H} {w : World} {base : Nat} {held : Bool}
theorem opd_mo {f0 f1 f2 f3 f4 f5 : Field} (he : P.underlying e = some (.struct #[f0, f1, f2, f3, f4, f5])) (hc : P.cellsOf e = 6)
  (i0 : P.underlying f0.type = some (.int .i64)) (i1 : P.underlying f1.type = some (.int .i64)) (i2 : P.underlying f2.type = some (.int .i64)) (i3 : P.underlying f3.type = some (.int .i64)) (i4 : P.underlying f4.type = some (.int .u64)) (i5 : P.underlying f5.type = some (.int .i64))
  (o0 : f0.offset = 0 ∧ P.cellsOf f0.type = 1) (o1 : f1.offset = 1 ∧ P.cellsOf f1.type = 1) (o2 : f2.offset = 2 ∧ P.cellsOf f2.type = 1) (o3 : f3.offset = 3 ∧ P.cellsOf f3.type = 1) (o4 : f4.offset = 4 ∧ P.cellsOf f4.type = 1) (o5 : f5.offset = 5 ∧ P.cellsOf f5.type = 1) : OpD H enc P e EMo QT := by
 refine ⟨hc, fun w base held fuel cs x h => ?_⟩
 obtain ⟨xs, n, _, rfl, hl, hlen, hf⟩ := DataW.trod_struct he h
 rw [hc] at hl
 match xs, hlen, cs, hl with
 | [y0, y1, y2, y3, y4, y5], _, [c0, c1, c2, c3, c4, c5], _ =>
  have h0 := hf 0 f0 rfl
  have h1 := hf 1 f1 rfl
  have h2 := hf 2 f2 rfl
  have h3 := hf 3 f3 rfl
  have h4 := hf 4 f4 rfl
  have h5 := hf 5 f5 rfl
  simp only [o0.1, o0.2, o1.1, o1.2, o2.1, o2.2, o3.1, o3.2, o4.1, o4.2, o5.1, o5.2, List.drop_zero, List.take_succ_cons, List.take_zero, List.drop_succ_cons, List.getElem?_cons_zero, List.getElem?_cons_succ] at h0 h1 h2 h3 h4 h5
  obtain ⟨n0, e0, _, _⟩ := DataW.trod_int i0 h0
  obtain ⟨n1, e1, _, _⟩ := DataW.trod_int i1 h1
  obtain ⟨n2, e2, _, _⟩ := DataW.trod_int i2 h2
  obtain ⟨n3, e3, _, _⟩ := DataW.trod_int i3 h3
  obtain ⟨n4, e4, _⟩ := (opens64 i4 o4.2).2 _ _ _ _ _ _ _ _ _ h4
  obtain ⟨n5, e5, _, _⟩ := DataW.trod_int i5 h5
  cases e0; cases e1; cases e2; cases e3; cases e5
  obtain rfl := (List.cons.inj e4).1
  exact ⟨⟨n0, n1, n2, n3, n4, n5⟩, rfl, trivial⟩
end
end Go.Proofs.YtohngnahcgbfmaaGreatDoor.Vc
