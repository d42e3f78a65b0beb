/- What the claim has need of: Aes, Garb, Garb2, Garb3, Garb4, Garb5, AesRef, Garb13, Ms4, Ms5, Mu3. -/
import Derived.Test.YtohngnahcgbfmaaGreatDoorWu4
import Derived.Laws.CopyRow
import Derived.Laws.IdiomCopy
set_option linter.unusedVariables false
set_option maxHeartbeats 16000000
set_option maxRecDepth 20000
namespace Go.Proofs.YtohngnahcgbfmaaGreatDoor.Aes
open Go Vc AesSpec
theorem agg216 : OA Tryz.prog 216 = true := by kernel_rfl
theorem agg239 : OA Tryz.prog 239 = true := by kernel_rfl
theorem dJ : OA Tryz.prog 83 = true := by kernel_rfl
theorem arr216 : jD Tryz.prog 216 = some (16, 1) := by kernel_rfl
theorem arr229 : jD Tryz.prog 229 = some (11, 16) := by kernel_rfl
theorem arr239 : jD Tryz.prog 239 = some (4, 1) := by kernel_rfl
theorem bJ : jD Tryz.prog 83 = some (2, 1) := by kernel_rfl
theorem call102 : mA Tryz.prog 102 = true := by kernel_rfl
theorem call104 : mA Tryz.prog 104 = true := by kernel_rfl
theorem BL : mA Tryz.prog 28 = true := by kernel_rfl
theorem call85 : mA Tryz.prog 85 = true := by kernel_rfl
theorem call86 : mA Tryz.prog 86 = true := by kernel_rfl
theorem call87 : mA Tryz.prog 87 = true := by kernel_rfl
theorem VE : wC Tryz.prog 34 E64 := UE (by kernel_rfl) (by kernel_rfl)
theorem OK : wC Tryz.prog 5 E8 := zT (by kernel_rfl) (by kernel_rfl)
theorem rW : TB Tryz.prog 232 0 = some (0, 176, 229) := by kernel_rfl
theorem BA : Tryz.prog.follows .mixedOrders = true := by kernel_rfl
theorem dM : NA Tryz.prog 34 = true := by kernel_rfl
theorem one5 : NA Tryz.prog 5 = true := by kernel_rfl
theorem siz216 : UB Tryz.prog 216 = some 16 := by kernel_rfl
theorem siz239 : UB Tryz.prog 239 = some 4 := by kernel_rfl
theorem QL : UB Tryz.prog 34 = some 1 := by kernel_rfl
theorem siz5 : UB Tryz.prog 5 = some 1 := by kernel_rfl
theorem GI : UB Tryz.prog 83 = some 2 := by kernel_rfl
theorem und216 : Tryz.prog.underlying 216 = some (.array 16 5) := by kernel_rfl
theorem BO : Tryz.prog.underlying 3 = some (.int .i64) := by kernel_rfl
theorem mK : Tryz.prog.underlying 34 = some (.int .u64) := by kernel_rfl
theorem NV : Tryz.prog.underlying 64 = some (.int .u64) := by kernel_rfl
theorem zer239 : YB Tryz.prog 239 = some (.agg (List.replicate 4 (.int .u8 0)).toArray) := by kernel_rfl
theorem yI : YB Tryz.prog 83 = some (.agg (List.replicate 2 (.int .u64 0)).toArray) := by kernel_rfl
theorem MH (a : BitVec 8) (w : World) : Ca 102 [u8 a] w fun v w' => v = u8 (xt a) ∧ Ext w w' := by
 have H := Hp.start No w
 refine enter (n := 10) Tryz.func102 rfl rfl (dB rfl) ?_
 refine go 3 ?_
 refine iA ((128#8).toNat ≤ a.toNat) rfl (fun c => ?_) (fun c => ?_)
 ·refine go 4 ?_
  exact ⟨_, rfl, congrArg u8 (if_pos c).symm, H.chg⟩
 ·refine go 3 ?_
  exact ⟨_, rfl, congrArg u8 (if_neg c).symm, H.chg⟩
theorem lF (a : BitVec 8) (k : Nat) (hk : k < 8) (w : World) : Ca 104 [u8 a, iN k] w fun v w' => v = u8 (aF a k) ∧ Ext w w' := by
 have H := Hp.start No w
 refine enter (n := 17) Tryz.func104 rfl rfl (dB rfl) ?_
 refine go 14 ?_
 exact ⟨_, rfl, congrArg u8 (by simp only [aF, (RO k hk).1, (RO k hk).2]), H.chg⟩
theorem kS (b : Nat) (cl : List By) (hn : cl.length = 432) (w : World) (hb : w.heap[b]? = some (.cells (uA E8 cl).toArray 232 (0, 0))) : Ca 103 [pT b] w fun v w' => v = .tuple #[] ∧ Chg (· = b) w w' ∧ w'.heap[b]? = some (.cells (uA E8 (XI cl)).toArray 232 (0, 0)) := by
 have H := Hp.start1 (M := (· = b)) rfl hb
 refine enter (n := 50) Tryz.func103 rfl rfl (dB rfl) ?_
 refine go 3 ?_
 refine AA (σ := Nat) (fun k => [(0, pT b), (2, u8 ((eA cl k).1)), (3, u8 ((eA cl k).2.1)), (4, iN k)]) (fun k w' => k ≤ 255 ∧ Hp (· = b) w w' [(rX b E8 ((eA cl k).2.2) 232)]) (fun k => 255 - k) (0) ?_ ?_ ?_
 ·exact kp
 ·exact ⟨om, H⟩
 rintro k ρ w1 ⟨hk, H2⟩
 have hl := WI cl k
 rw [hn] at hl
 refine go 1 ?_
 refine iA (((k : Nat) : Int) < (255 : Int)) rfl (fun e0 => ?_) (fun e0 => ?_)
 ·refine go 2 ?_
  refine Vc.cl (MH ((eA cl k).1) w1) ?_
  rintro _ w3 ⟨rfl, f0⟩
  have H5 := H2.ext f0
  refine go 19 ?_
  refine iA ((128#8).toNat ≤ (((((eA cl k).2.1) ^^^ (((eA cl k).2.1) <<< (1 : Nat))) ^^^ ((((eA cl k).2.1) ^^^ (((eA cl k).2.1) <<< (1 : Nat))) <<< (2 : Nat))) ^^^ (((((eA cl k).2.1) ^^^ (((eA cl k).2.1) <<< (1 : Nat))) ^^^ ((((eA cl k).2.1) ^^^ (((eA cl k).2.1) <<< (1 : Nat))) <<< (2 : Nat))) <<< (4 : Nat))).toNat) rfl (fun a0 => ?_) (fun a0 => ?_)
  ·refine go 3 ?_
   refine uB (K := [none, none, none, none, none, none, none, none, none, none, none, none, none, none, none, none, none, none, none]) [0, 0, 0, 0, 8, 28, 0, 88, 252, 0, 728, 2044, 0, 5848, 16380, 32764, 1, 65537, 262143, 524287] (fun w' => Ext w3 w') (fun w' w'' => Ext w' w'') BA (by kernel_rfl) (Ext.drew _) (fun _ _ h h' => h.trans h') ?_ ?_
   ·exact xB (by decide)
   refine gk 4 ?_
   refine ⟨u8 (aF ((((((eA cl k).2.1) ^^^ (((eA cl k).2.1) <<< (1 : Nat))) ^^^ ((((eA cl k).2.1) ^^^ (((eA cl k).2.1) <<< (1 : Nat))) <<< (2 : Nat))) ^^^ (((((eA cl k).2.1) ^^^ (((eA cl k).2.1) <<< (1 : Nat))) ^^^ ((((eA cl k).2.1) ^^^ (((eA cl k).2.1) <<< (1 : Nat))) <<< (2 : Nat))) <<< (4 : Nat))) ^^^ (9#8)) 1), fun _ h0 y0 _ => Gives.call rfl (cA (vs := [u8 ((((((eA cl k).2.1) ^^^ (((eA cl k).2.1) <<< (1 : Nat))) ^^^ ((((eA cl k).2.1) ^^^ (((eA cl k).2.1) <<< (1 : Nat))) <<< (2 : Nat))) ^^^ (((((eA cl k).2.1) ^^^ (((eA cl k).2.1) <<< (1 : Nat))) ^^^ ((((eA cl k).2.1) ^^^ (((eA cl k).2.1) <<< (1 : Nat))) <<< (2 : Nat))) <<< (4 : Nat))) ^^^ (9#8)), i64 1]) vF rfl) (lF ((((((eA cl k).2.1) ^^^ (((eA cl k).2.1) <<< (1 : Nat))) ^^^ ((((eA cl k).2.1) ^^^ (((eA cl k).2.1) <<< (1 : Nat))) <<< (2 : Nat))) ^^^ (((((eA cl k).2.1) ^^^ (((eA cl k).2.1) <<< (1 : Nat))) ^^^ ((((eA cl k).2.1) ^^^ (((eA cl k).2.1) <<< (1 : Nat))) <<< (2 : Nat))) <<< (4 : Nat))) ^^^ (9#8)) 1 (by decide) h0), ?_⟩
   refine gk 2 ?_
   refine ⟨u8 (aF ((((((eA cl k).2.1) ^^^ (((eA cl k).2.1) <<< (1 : Nat))) ^^^ ((((eA cl k).2.1) ^^^ (((eA cl k).2.1) <<< (1 : Nat))) <<< (2 : Nat))) ^^^ (((((eA cl k).2.1) ^^^ (((eA cl k).2.1) <<< (1 : Nat))) ^^^ ((((eA cl k).2.1) ^^^ (((eA cl k).2.1) <<< (1 : Nat))) <<< (2 : Nat))) <<< (4 : Nat))) ^^^ (9#8)) 2), fun _ i0 z0 _ => Gives.call rfl (cA (vs := [u8 ((((((eA cl k).2.1) ^^^ (((eA cl k).2.1) <<< (1 : Nat))) ^^^ ((((eA cl k).2.1) ^^^ (((eA cl k).2.1) <<< (1 : Nat))) <<< (2 : Nat))) ^^^ (((((eA cl k).2.1) ^^^ (((eA cl k).2.1) <<< (1 : Nat))) ^^^ ((((eA cl k).2.1) ^^^ (((eA cl k).2.1) <<< (1 : Nat))) <<< (2 : Nat))) <<< (4 : Nat))) ^^^ (9#8)), i64 2]) vF rfl) (lF ((((((eA cl k).2.1) ^^^ (((eA cl k).2.1) <<< (1 : Nat))) ^^^ ((((eA cl k).2.1) ^^^ (((eA cl k).2.1) <<< (1 : Nat))) <<< (2 : Nat))) ^^^ (((((eA cl k).2.1) ^^^ (((eA cl k).2.1) <<< (1 : Nat))) ^^^ ((((eA cl k).2.1) ^^^ (((eA cl k).2.1) <<< (1 : Nat))) <<< (2 : Nat))) <<< (4 : Nat))) ^^^ (9#8)) 2 (by decide) i0), ?_⟩
   refine gk 2 ?_
   refine ⟨u8 (aF ((((((eA cl k).2.1) ^^^ (((eA cl k).2.1) <<< (1 : Nat))) ^^^ ((((eA cl k).2.1) ^^^ (((eA cl k).2.1) <<< (1 : Nat))) <<< (2 : Nat))) ^^^ (((((eA cl k).2.1) ^^^ (((eA cl k).2.1) <<< (1 : Nat))) ^^^ ((((eA cl k).2.1) ^^^ (((eA cl k).2.1) <<< (1 : Nat))) <<< (2 : Nat))) <<< (4 : Nat))) ^^^ (9#8)) 3), fun _ j0 A0 _ => Gives.call rfl (cA (vs := [u8 ((((((eA cl k).2.1) ^^^ (((eA cl k).2.1) <<< (1 : Nat))) ^^^ ((((eA cl k).2.1) ^^^ (((eA cl k).2.1) <<< (1 : Nat))) <<< (2 : Nat))) ^^^ (((((eA cl k).2.1) ^^^ (((eA cl k).2.1) <<< (1 : Nat))) ^^^ ((((eA cl k).2.1) ^^^ (((eA cl k).2.1) <<< (1 : Nat))) <<< (2 : Nat))) <<< (4 : Nat))) ^^^ (9#8)), i64 3]) vF rfl) (lF ((((((eA cl k).2.1) ^^^ (((eA cl k).2.1) <<< (1 : Nat))) ^^^ ((((eA cl k).2.1) ^^^ (((eA cl k).2.1) <<< (1 : Nat))) <<< (2 : Nat))) ^^^ (((((eA cl k).2.1) ^^^ (((eA cl k).2.1) <<< (1 : Nat))) ^^^ ((((eA cl k).2.1) ^^^ (((eA cl k).2.1) <<< (1 : Nat))) <<< (2 : Nat))) <<< (4 : Nat))) ^^^ (9#8)) 3 (by decide) j0), ?_⟩
   refine gk 2 ?_
   refine ⟨u8 (aF ((((((eA cl k).2.1) ^^^ (((eA cl k).2.1) <<< (1 : Nat))) ^^^ ((((eA cl k).2.1) ^^^ (((eA cl k).2.1) <<< (1 : Nat))) <<< (2 : Nat))) ^^^ (((((eA cl k).2.1) ^^^ (((eA cl k).2.1) <<< (1 : Nat))) ^^^ ((((eA cl k).2.1) ^^^ (((eA cl k).2.1) <<< (1 : Nat))) <<< (2 : Nat))) <<< (4 : Nat))) ^^^ (9#8)) 4), fun _ k0 B0 _ => Gives.call rfl (cA (vs := [u8 ((((((eA cl k).2.1) ^^^ (((eA cl k).2.1) <<< (1 : Nat))) ^^^ ((((eA cl k).2.1) ^^^ (((eA cl k).2.1) <<< (1 : Nat))) <<< (2 : Nat))) ^^^ (((((eA cl k).2.1) ^^^ (((eA cl k).2.1) <<< (1 : Nat))) ^^^ ((((eA cl k).2.1) ^^^ (((eA cl k).2.1) <<< (1 : Nat))) <<< (2 : Nat))) <<< (4 : Nat))) ^^^ (9#8)), i64 4]) vF rfl) (lF ((((((eA cl k).2.1) ^^^ (((eA cl k).2.1) <<< (1 : Nat))) ^^^ ((((eA cl k).2.1) ^^^ (((eA cl k).2.1) <<< (1 : Nat))) <<< (2 : Nat))) ^^^ (((((eA cl k).2.1) ^^^ (((eA cl k).2.1) <<< (1 : Nat))) ^^^ ((((eA cl k).2.1) ^^^ (((eA cl k).2.1) <<< (1 : Nat))) <<< (2 : Nat))) <<< (4 : Nat))) ^^^ (9#8)) 4 (by decide) k0), ?_⟩
   refine gk 5 ?_
   intro r47 C0 l0 hF
   have m0 := H5.ext l0
   refine GA (k := 0) (v := u8 (((((((((((eA cl k).2.1) ^^^ (((eA cl k).2.1) <<< (1 : Nat))) ^^^ ((((eA cl k).2.1) ^^^ (((eA cl k).2.1) <<< (1 : Nat))) <<< (2 : Nat))) ^^^ (((((eA cl k).2.1) ^^^ (((eA cl k).2.1) <<< (1 : Nat))) ^^^ ((((eA cl k).2.1) ^^^ (((eA cl k).2.1) <<< (1 : Nat))) <<< (2 : Nat))) <<< (4 : Nat))) ^^^ (9#8)) ^^^ (aF ((((((eA cl k).2.1) ^^^ (((eA cl k).2.1) <<< (1 : Nat))) ^^^ ((((eA cl k).2.1) ^^^ (((eA cl k).2.1) <<< (1 : Nat))) <<< (2 : Nat))) ^^^ (((((eA cl k).2.1) ^^^ (((eA cl k).2.1) <<< (1 : Nat))) ^^^ ((((eA cl k).2.1) ^^^ (((eA cl k).2.1) <<< (1 : Nat))) <<< (2 : Nat))) <<< (4 : Nat))) ^^^ (9#8)) 1)) ^^^ (aF ((((((eA cl k).2.1) ^^^ (((eA cl k).2.1) <<< (1 : Nat))) ^^^ ((((eA cl k).2.1) ^^^ (((eA cl k).2.1) <<< (1 : Nat))) <<< (2 : Nat))) ^^^ (((((eA cl k).2.1) ^^^ (((eA cl k).2.1) <<< (1 : Nat))) ^^^ ((((eA cl k).2.1) ^^^ (((eA cl k).2.1) <<< (1 : Nat))) <<< (2 : Nat))) <<< (4 : Nat))) ^^^ (9#8)) 2)) ^^^ (aF ((((((eA cl k).2.1) ^^^ (((eA cl k).2.1) <<< (1 : Nat))) ^^^ ((((eA cl k).2.1) ^^^ (((eA cl k).2.1) <<< (1 : Nat))) <<< (2 : Nat))) ^^^ (((((eA cl k).2.1) ^^^ (((eA cl k).2.1) <<< (1 : Nat))) ^^^ ((((eA cl k).2.1) ^^^ (((eA cl k).2.1) <<< (1 : Nat))) <<< (2 : Nat))) <<< (4 : Nat))) ^^^ (9#8)) 3)) ^^^ (aF ((((((eA cl k).2.1) ^^^ (((eA cl k).2.1) <<< (1 : Nat))) ^^^ ((((eA cl k).2.1) ^^^ (((eA cl k).2.1) <<< (1 : Nat))) <<< (2 : Nat))) ^^^ (((((eA cl k).2.1) ^^^ (((eA cl k).2.1) <<< (1 : Nat))) ^^^ ((((eA cl k).2.1) ^^^ (((eA cl k).2.1) <<< (1 : Nat))) <<< (2 : Nat))) <<< (4 : Nat))) ^^^ (9#8)) 4)) ^^^ (99#8))) (cs' := (uA E8 (((eA cl k).2.2).set (176 + ((((eA cl k).1) ^^^ (xt ((eA cl k).1))).toNat)) (((((((((((eA cl k).2.1) ^^^ (((eA cl k).2.1) <<< (1 : Nat))) ^^^ ((((eA cl k).2.1) ^^^ (((eA cl k).2.1) <<< (1 : Nat))) <<< (2 : Nat))) ^^^ (((((eA cl k).2.1) ^^^ (((eA cl k).2.1) <<< (1 : Nat))) ^^^ ((((eA cl k).2.1) ^^^ (((eA cl k).2.1) <<< (1 : Nat))) <<< (2 : Nat))) <<< (4 : Nat))) ^^^ (9#8)) ^^^ (aF ((((((eA cl k).2.1) ^^^ (((eA cl k).2.1) <<< (1 : Nat))) ^^^ ((((eA cl k).2.1) ^^^ (((eA cl k).2.1) <<< (1 : Nat))) <<< (2 : Nat))) ^^^ (((((eA cl k).2.1) ^^^ (((eA cl k).2.1) <<< (1 : Nat))) ^^^ ((((eA cl k).2.1) ^^^ (((eA cl k).2.1) <<< (1 : Nat))) <<< (2 : Nat))) <<< (4 : Nat))) ^^^ (9#8)) 1)) ^^^ (aF ((((((eA cl k).2.1) ^^^ (((eA cl k).2.1) <<< (1 : Nat))) ^^^ ((((eA cl k).2.1) ^^^ (((eA cl k).2.1) <<< (1 : Nat))) <<< (2 : Nat))) ^^^ (((((eA cl k).2.1) ^^^ (((eA cl k).2.1) <<< (1 : Nat))) ^^^ ((((eA cl k).2.1) ^^^ (((eA cl k).2.1) <<< (1 : Nat))) <<< (2 : Nat))) <<< (4 : Nat))) ^^^ (9#8)) 2)) ^^^ (aF ((((((eA cl k).2.1) ^^^ (((eA cl k).2.1) <<< (1 : Nat))) ^^^ ((((eA cl k).2.1) ^^^ (((eA cl k).2.1) <<< (1 : Nat))) <<< (2 : Nat))) ^^^ (((((eA cl k).2.1) ^^^ (((eA cl k).2.1) <<< (1 : Nat))) ^^^ ((((eA cl k).2.1) ^^^ (((eA cl k).2.1) <<< (1 : Nat))) <<< (2 : Nat))) <<< (4 : Nat))) ^^^ (9#8)) 3)) ^^^ (aF ((((((eA cl k).2.1) ^^^ (((eA cl k).2.1) <<< (1 : Nat))) ^^^ ((((eA cl k).2.1) ^^^ (((eA cl k).2.1) <<< (1 : Nat))) <<< (2 : Nat))) ^^^ (((((eA cl k).2.1) ^^^ (((eA cl k).2.1) <<< (1 : Nat))) ^^^ ((((eA cl k).2.1) ^^^ (((eA cl k).2.1) <<< (1 : Nat))) <<< (2 : Nat))) <<< (4 : Nat))) ^^^ (9#8)) 4)) ^^^ (99#8)))).toArray) m0 rfl rfl rfl vF (by rfl) (by exact E8.one _) (by rw [List.size_toArray, oA]; show _ ≤ _ * 1; have := ((eA cl k).1 ^^^ xt (eA cl k).1).isLt; rw [hl]; omega) (by exact wI (E := E8) rfl _ _ _) fun D0 n0 E0 => ?_
   have b0 := n0.a1 rfl
   refine go 2 ?_
   have e3 : u8 ((((((eA cl k).2.1) ^^^ (((eA cl k).2.1) <<< (1 : Nat))) ^^^ ((((eA cl k).2.1) ^^^ (((eA cl k).2.1) <<< (1 : Nat))) <<< (2 : Nat))) ^^^ (((((eA cl k).2.1) ^^^ (((eA cl k).2.1) <<< (1 : Nat))) ^^^ ((((eA cl k).2.1) ^^^ (((eA cl k).2.1) <<< (1 : Nat))) <<< (2 : Nat))) <<< (4 : Nat))) ^^^ (9#8)) = u8 (fq (eA cl k).2.1) := congrArg u8 (by simp only [fq]; first | rw [if_pos a0] | rw [if_neg a0])
   have eL : ((eA cl k).2.2).set (176 + ((((eA cl k).1) ^^^ (xt ((eA cl k).1))).toNat)) (((((((((((eA cl k).2.1) ^^^ (((eA cl k).2.1) <<< (1 : Nat))) ^^^ ((((eA cl k).2.1) ^^^ (((eA cl k).2.1) <<< (1 : Nat))) <<< (2 : Nat))) ^^^ (((((eA cl k).2.1) ^^^ (((eA cl k).2.1) <<< (1 : Nat))) ^^^ ((((eA cl k).2.1) ^^^ (((eA cl k).2.1) <<< (1 : Nat))) <<< (2 : Nat))) <<< (4 : Nat))) ^^^ (9#8)) ^^^ (aF ((((((eA cl k).2.1) ^^^ (((eA cl k).2.1) <<< (1 : Nat))) ^^^ ((((eA cl k).2.1) ^^^ (((eA cl k).2.1) <<< (1 : Nat))) <<< (2 : Nat))) ^^^ (((((eA cl k).2.1) ^^^ (((eA cl k).2.1) <<< (1 : Nat))) ^^^ ((((eA cl k).2.1) ^^^ (((eA cl k).2.1) <<< (1 : Nat))) <<< (2 : Nat))) <<< (4 : Nat))) ^^^ (9#8)) 1)) ^^^ (aF ((((((eA cl k).2.1) ^^^ (((eA cl k).2.1) <<< (1 : Nat))) ^^^ ((((eA cl k).2.1) ^^^ (((eA cl k).2.1) <<< (1 : Nat))) <<< (2 : Nat))) ^^^ (((((eA cl k).2.1) ^^^ (((eA cl k).2.1) <<< (1 : Nat))) ^^^ ((((eA cl k).2.1) ^^^ (((eA cl k).2.1) <<< (1 : Nat))) <<< (2 : Nat))) <<< (4 : Nat))) ^^^ (9#8)) 2)) ^^^ (aF ((((((eA cl k).2.1) ^^^ (((eA cl k).2.1) <<< (1 : Nat))) ^^^ ((((eA cl k).2.1) ^^^ (((eA cl k).2.1) <<< (1 : Nat))) <<< (2 : Nat))) ^^^ (((((eA cl k).2.1) ^^^ (((eA cl k).2.1) <<< (1 : Nat))) ^^^ ((((eA cl k).2.1) ^^^ (((eA cl k).2.1) <<< (1 : Nat))) <<< (2 : Nat))) <<< (4 : Nat))) ^^^ (9#8)) 3)) ^^^ (aF ((((((eA cl k).2.1) ^^^ (((eA cl k).2.1) <<< (1 : Nat))) ^^^ ((((eA cl k).2.1) ^^^ (((eA cl k).2.1) <<< (1 : Nat))) <<< (2 : Nat))) ^^^ (((((eA cl k).2.1) ^^^ (((eA cl k).2.1) <<< (1 : Nat))) ^^^ ((((eA cl k).2.1) ^^^ (((eA cl k).2.1) <<< (1 : Nat))) <<< (2 : Nat))) <<< (4 : Nat))) ^^^ (9#8)) 4)) ^^^ (99#8)) = (eA cl (k + 1)).2.2 := by simp only [eA, aff, fp, fq]; first | rw [if_pos a0] | rw [if_neg a0]
   rw [eL] at b0
   exact ⟨k + 1, _, rfl, ⟨rfl, rfl, e3, rfl, trivial⟩, ⟨om, b0⟩, vd⟩
  ·refine go 0 ?_
   refine uB (K := [none, none, none, none, none, none, none, none, none, none, none, none, none, none, none, none, none, none, none]) [0, 0, 0, 0, 8, 28, 0, 88, 252, 0, 728, 2044, 0, 5848, 16380, 32764, 1, 65537, 262143, 524287] (fun w' => Ext w3 w') (fun w' w'' => Ext w' w'') BA (by kernel_rfl) (Ext.drew _) (fun _ _ h h' => h.trans h') ?_ ?_
   ·exact xB (by decide)
   refine gk 4 ?_
   refine ⟨u8 (aF (((((eA cl k).2.1) ^^^ (((eA cl k).2.1) <<< (1 : Nat))) ^^^ ((((eA cl k).2.1) ^^^ (((eA cl k).2.1) <<< (1 : Nat))) <<< (2 : Nat))) ^^^ (((((eA cl k).2.1) ^^^ (((eA cl k).2.1) <<< (1 : Nat))) ^^^ ((((eA cl k).2.1) ^^^ (((eA cl k).2.1) <<< (1 : Nat))) <<< (2 : Nat))) <<< (4 : Nat))) 1), fun _ o0 F0 _ => Gives.call rfl (cA (vs := [u8 (((((eA cl k).2.1) ^^^ (((eA cl k).2.1) <<< (1 : Nat))) ^^^ ((((eA cl k).2.1) ^^^ (((eA cl k).2.1) <<< (1 : Nat))) <<< (2 : Nat))) ^^^ (((((eA cl k).2.1) ^^^ (((eA cl k).2.1) <<< (1 : Nat))) ^^^ ((((eA cl k).2.1) ^^^ (((eA cl k).2.1) <<< (1 : Nat))) <<< (2 : Nat))) <<< (4 : Nat))), i64 1]) vF rfl) (lF (((((eA cl k).2.1) ^^^ (((eA cl k).2.1) <<< (1 : Nat))) ^^^ ((((eA cl k).2.1) ^^^ (((eA cl k).2.1) <<< (1 : Nat))) <<< (2 : Nat))) ^^^ (((((eA cl k).2.1) ^^^ (((eA cl k).2.1) <<< (1 : Nat))) ^^^ ((((eA cl k).2.1) ^^^ (((eA cl k).2.1) <<< (1 : Nat))) <<< (2 : Nat))) <<< (4 : Nat))) 1 (by decide) o0), ?_⟩
   refine gk 2 ?_
   refine ⟨u8 (aF (((((eA cl k).2.1) ^^^ (((eA cl k).2.1) <<< (1 : Nat))) ^^^ ((((eA cl k).2.1) ^^^ (((eA cl k).2.1) <<< (1 : Nat))) <<< (2 : Nat))) ^^^ (((((eA cl k).2.1) ^^^ (((eA cl k).2.1) <<< (1 : Nat))) ^^^ ((((eA cl k).2.1) ^^^ (((eA cl k).2.1) <<< (1 : Nat))) <<< (2 : Nat))) <<< (4 : Nat))) 2), fun _ p0 G0 _ => Gives.call rfl (cA (vs := [u8 (((((eA cl k).2.1) ^^^ (((eA cl k).2.1) <<< (1 : Nat))) ^^^ ((((eA cl k).2.1) ^^^ (((eA cl k).2.1) <<< (1 : Nat))) <<< (2 : Nat))) ^^^ (((((eA cl k).2.1) ^^^ (((eA cl k).2.1) <<< (1 : Nat))) ^^^ ((((eA cl k).2.1) ^^^ (((eA cl k).2.1) <<< (1 : Nat))) <<< (2 : Nat))) <<< (4 : Nat))), i64 2]) vF rfl) (lF (((((eA cl k).2.1) ^^^ (((eA cl k).2.1) <<< (1 : Nat))) ^^^ ((((eA cl k).2.1) ^^^ (((eA cl k).2.1) <<< (1 : Nat))) <<< (2 : Nat))) ^^^ (((((eA cl k).2.1) ^^^ (((eA cl k).2.1) <<< (1 : Nat))) ^^^ ((((eA cl k).2.1) ^^^ (((eA cl k).2.1) <<< (1 : Nat))) <<< (2 : Nat))) <<< (4 : Nat))) 2 (by decide) p0), ?_⟩
   refine gk 2 ?_
   refine ⟨u8 (aF (((((eA cl k).2.1) ^^^ (((eA cl k).2.1) <<< (1 : Nat))) ^^^ ((((eA cl k).2.1) ^^^ (((eA cl k).2.1) <<< (1 : Nat))) <<< (2 : Nat))) ^^^ (((((eA cl k).2.1) ^^^ (((eA cl k).2.1) <<< (1 : Nat))) ^^^ ((((eA cl k).2.1) ^^^ (((eA cl k).2.1) <<< (1 : Nat))) <<< (2 : Nat))) <<< (4 : Nat))) 3), fun _ q0 H0 _ => Gives.call rfl (cA (vs := [u8 (((((eA cl k).2.1) ^^^ (((eA cl k).2.1) <<< (1 : Nat))) ^^^ ((((eA cl k).2.1) ^^^ (((eA cl k).2.1) <<< (1 : Nat))) <<< (2 : Nat))) ^^^ (((((eA cl k).2.1) ^^^ (((eA cl k).2.1) <<< (1 : Nat))) ^^^ ((((eA cl k).2.1) ^^^ (((eA cl k).2.1) <<< (1 : Nat))) <<< (2 : Nat))) <<< (4 : Nat))), i64 3]) vF rfl) (lF (((((eA cl k).2.1) ^^^ (((eA cl k).2.1) <<< (1 : Nat))) ^^^ ((((eA cl k).2.1) ^^^ (((eA cl k).2.1) <<< (1 : Nat))) <<< (2 : Nat))) ^^^ (((((eA cl k).2.1) ^^^ (((eA cl k).2.1) <<< (1 : Nat))) ^^^ ((((eA cl k).2.1) ^^^ (((eA cl k).2.1) <<< (1 : Nat))) <<< (2 : Nat))) <<< (4 : Nat))) 3 (by decide) q0), ?_⟩
   refine gk 2 ?_
   refine ⟨u8 (aF (((((eA cl k).2.1) ^^^ (((eA cl k).2.1) <<< (1 : Nat))) ^^^ ((((eA cl k).2.1) ^^^ (((eA cl k).2.1) <<< (1 : Nat))) <<< (2 : Nat))) ^^^ (((((eA cl k).2.1) ^^^ (((eA cl k).2.1) <<< (1 : Nat))) ^^^ ((((eA cl k).2.1) ^^^ (((eA cl k).2.1) <<< (1 : Nat))) <<< (2 : Nat))) <<< (4 : Nat))) 4), fun _ r0 I0 _ => Gives.call rfl (cA (vs := [u8 (((((eA cl k).2.1) ^^^ (((eA cl k).2.1) <<< (1 : Nat))) ^^^ ((((eA cl k).2.1) ^^^ (((eA cl k).2.1) <<< (1 : Nat))) <<< (2 : Nat))) ^^^ (((((eA cl k).2.1) ^^^ (((eA cl k).2.1) <<< (1 : Nat))) ^^^ ((((eA cl k).2.1) ^^^ (((eA cl k).2.1) <<< (1 : Nat))) <<< (2 : Nat))) <<< (4 : Nat))), i64 4]) vF rfl) (lF (((((eA cl k).2.1) ^^^ (((eA cl k).2.1) <<< (1 : Nat))) ^^^ ((((eA cl k).2.1) ^^^ (((eA cl k).2.1) <<< (1 : Nat))) <<< (2 : Nat))) ^^^ (((((eA cl k).2.1) ^^^ (((eA cl k).2.1) <<< (1 : Nat))) ^^^ ((((eA cl k).2.1) ^^^ (((eA cl k).2.1) <<< (1 : Nat))) <<< (2 : Nat))) <<< (4 : Nat))) 4 (by decide) r0), ?_⟩
   refine gk 5 ?_
   intro r92 J0 s0 hF
   have u0 := H5.ext s0
   refine GA (k := 0) (v := u8 ((((((((((eA cl k).2.1) ^^^ (((eA cl k).2.1) <<< (1 : Nat))) ^^^ ((((eA cl k).2.1) ^^^ (((eA cl k).2.1) <<< (1 : Nat))) <<< (2 : Nat))) ^^^ (((((eA cl k).2.1) ^^^ (((eA cl k).2.1) <<< (1 : Nat))) ^^^ ((((eA cl k).2.1) ^^^ (((eA cl k).2.1) <<< (1 : Nat))) <<< (2 : Nat))) <<< (4 : Nat))) ^^^ (aF (((((eA cl k).2.1) ^^^ (((eA cl k).2.1) <<< (1 : Nat))) ^^^ ((((eA cl k).2.1) ^^^ (((eA cl k).2.1) <<< (1 : Nat))) <<< (2 : Nat))) ^^^ (((((eA cl k).2.1) ^^^ (((eA cl k).2.1) <<< (1 : Nat))) ^^^ ((((eA cl k).2.1) ^^^ (((eA cl k).2.1) <<< (1 : Nat))) <<< (2 : Nat))) <<< (4 : Nat))) 1)) ^^^ (aF (((((eA cl k).2.1) ^^^ (((eA cl k).2.1) <<< (1 : Nat))) ^^^ ((((eA cl k).2.1) ^^^ (((eA cl k).2.1) <<< (1 : Nat))) <<< (2 : Nat))) ^^^ (((((eA cl k).2.1) ^^^ (((eA cl k).2.1) <<< (1 : Nat))) ^^^ ((((eA cl k).2.1) ^^^ (((eA cl k).2.1) <<< (1 : Nat))) <<< (2 : Nat))) <<< (4 : Nat))) 2)) ^^^ (aF (((((eA cl k).2.1) ^^^ (((eA cl k).2.1) <<< (1 : Nat))) ^^^ ((((eA cl k).2.1) ^^^ (((eA cl k).2.1) <<< (1 : Nat))) <<< (2 : Nat))) ^^^ (((((eA cl k).2.1) ^^^ (((eA cl k).2.1) <<< (1 : Nat))) ^^^ ((((eA cl k).2.1) ^^^ (((eA cl k).2.1) <<< (1 : Nat))) <<< (2 : Nat))) <<< (4 : Nat))) 3)) ^^^ (aF (((((eA cl k).2.1) ^^^ (((eA cl k).2.1) <<< (1 : Nat))) ^^^ ((((eA cl k).2.1) ^^^ (((eA cl k).2.1) <<< (1 : Nat))) <<< (2 : Nat))) ^^^ (((((eA cl k).2.1) ^^^ (((eA cl k).2.1) <<< (1 : Nat))) ^^^ ((((eA cl k).2.1) ^^^ (((eA cl k).2.1) <<< (1 : Nat))) <<< (2 : Nat))) <<< (4 : Nat))) 4)) ^^^ (99#8))) (cs' := (uA E8 (((eA cl k).2.2).set (176 + ((((eA cl k).1) ^^^ (xt ((eA cl k).1))).toNat)) ((((((((((eA cl k).2.1) ^^^ (((eA cl k).2.1) <<< (1 : Nat))) ^^^ ((((eA cl k).2.1) ^^^ (((eA cl k).2.1) <<< (1 : Nat))) <<< (2 : Nat))) ^^^ (((((eA cl k).2.1) ^^^ (((eA cl k).2.1) <<< (1 : Nat))) ^^^ ((((eA cl k).2.1) ^^^ (((eA cl k).2.1) <<< (1 : Nat))) <<< (2 : Nat))) <<< (4 : Nat))) ^^^ (aF (((((eA cl k).2.1) ^^^ (((eA cl k).2.1) <<< (1 : Nat))) ^^^ ((((eA cl k).2.1) ^^^ (((eA cl k).2.1) <<< (1 : Nat))) <<< (2 : Nat))) ^^^ (((((eA cl k).2.1) ^^^ (((eA cl k).2.1) <<< (1 : Nat))) ^^^ ((((eA cl k).2.1) ^^^ (((eA cl k).2.1) <<< (1 : Nat))) <<< (2 : Nat))) <<< (4 : Nat))) 1)) ^^^ (aF (((((eA cl k).2.1) ^^^ (((eA cl k).2.1) <<< (1 : Nat))) ^^^ ((((eA cl k).2.1) ^^^ (((eA cl k).2.1) <<< (1 : Nat))) <<< (2 : Nat))) ^^^ (((((eA cl k).2.1) ^^^ (((eA cl k).2.1) <<< (1 : Nat))) ^^^ ((((eA cl k).2.1) ^^^ (((eA cl k).2.1) <<< (1 : Nat))) <<< (2 : Nat))) <<< (4 : Nat))) 2)) ^^^ (aF (((((eA cl k).2.1) ^^^ (((eA cl k).2.1) <<< (1 : Nat))) ^^^ ((((eA cl k).2.1) ^^^ (((eA cl k).2.1) <<< (1 : Nat))) <<< (2 : Nat))) ^^^ (((((eA cl k).2.1) ^^^ (((eA cl k).2.1) <<< (1 : Nat))) ^^^ ((((eA cl k).2.1) ^^^ (((eA cl k).2.1) <<< (1 : Nat))) <<< (2 : Nat))) <<< (4 : Nat))) 3)) ^^^ (aF (((((eA cl k).2.1) ^^^ (((eA cl k).2.1) <<< (1 : Nat))) ^^^ ((((eA cl k).2.1) ^^^ (((eA cl k).2.1) <<< (1 : Nat))) <<< (2 : Nat))) ^^^ (((((eA cl k).2.1) ^^^ (((eA cl k).2.1) <<< (1 : Nat))) ^^^ ((((eA cl k).2.1) ^^^ (((eA cl k).2.1) <<< (1 : Nat))) <<< (2 : Nat))) <<< (4 : Nat))) 4)) ^^^ (99#8)))).toArray) u0 rfl rfl rfl vF (by rfl) (by exact E8.one _) (by rw [List.size_toArray, oA]; show _ ≤ _ * 1; have := ((eA cl k).1 ^^^ xt (eA cl k).1).isLt; rw [hl]; omega) (by exact wI (E := E8) rfl _ _ _) fun K0 w0 L0 => ?_
   have c0 := w0.a1 rfl
   refine go 2 ?_
   have e3 : u8 (((((eA cl k).2.1) ^^^ (((eA cl k).2.1) <<< (1 : Nat))) ^^^ ((((eA cl k).2.1) ^^^ (((eA cl k).2.1) <<< (1 : Nat))) <<< (2 : Nat))) ^^^ (((((eA cl k).2.1) ^^^ (((eA cl k).2.1) <<< (1 : Nat))) ^^^ ((((eA cl k).2.1) ^^^ (((eA cl k).2.1) <<< (1 : Nat))) <<< (2 : Nat))) <<< (4 : Nat))) = u8 (fq (eA cl k).2.1) := congrArg u8 (by simp only [fq]; first | rw [if_pos a0] | rw [if_neg a0])
   have eL : ((eA cl k).2.2).set (176 + ((((eA cl k).1) ^^^ (xt ((eA cl k).1))).toNat)) ((((((((((eA cl k).2.1) ^^^ (((eA cl k).2.1) <<< (1 : Nat))) ^^^ ((((eA cl k).2.1) ^^^ (((eA cl k).2.1) <<< (1 : Nat))) <<< (2 : Nat))) ^^^ (((((eA cl k).2.1) ^^^ (((eA cl k).2.1) <<< (1 : Nat))) ^^^ ((((eA cl k).2.1) ^^^ (((eA cl k).2.1) <<< (1 : Nat))) <<< (2 : Nat))) <<< (4 : Nat))) ^^^ (aF (((((eA cl k).2.1) ^^^ (((eA cl k).2.1) <<< (1 : Nat))) ^^^ ((((eA cl k).2.1) ^^^ (((eA cl k).2.1) <<< (1 : Nat))) <<< (2 : Nat))) ^^^ (((((eA cl k).2.1) ^^^ (((eA cl k).2.1) <<< (1 : Nat))) ^^^ ((((eA cl k).2.1) ^^^ (((eA cl k).2.1) <<< (1 : Nat))) <<< (2 : Nat))) <<< (4 : Nat))) 1)) ^^^ (aF (((((eA cl k).2.1) ^^^ (((eA cl k).2.1) <<< (1 : Nat))) ^^^ ((((eA cl k).2.1) ^^^ (((eA cl k).2.1) <<< (1 : Nat))) <<< (2 : Nat))) ^^^ (((((eA cl k).2.1) ^^^ (((eA cl k).2.1) <<< (1 : Nat))) ^^^ ((((eA cl k).2.1) ^^^ (((eA cl k).2.1) <<< (1 : Nat))) <<< (2 : Nat))) <<< (4 : Nat))) 2)) ^^^ (aF (((((eA cl k).2.1) ^^^ (((eA cl k).2.1) <<< (1 : Nat))) ^^^ ((((eA cl k).2.1) ^^^ (((eA cl k).2.1) <<< (1 : Nat))) <<< (2 : Nat))) ^^^ (((((eA cl k).2.1) ^^^ (((eA cl k).2.1) <<< (1 : Nat))) ^^^ ((((eA cl k).2.1) ^^^ (((eA cl k).2.1) <<< (1 : Nat))) <<< (2 : Nat))) <<< (4 : Nat))) 3)) ^^^ (aF (((((eA cl k).2.1) ^^^ (((eA cl k).2.1) <<< (1 : Nat))) ^^^ ((((eA cl k).2.1) ^^^ (((eA cl k).2.1) <<< (1 : Nat))) <<< (2 : Nat))) ^^^ (((((eA cl k).2.1) ^^^ (((eA cl k).2.1) <<< (1 : Nat))) ^^^ ((((eA cl k).2.1) ^^^ (((eA cl k).2.1) <<< (1 : Nat))) <<< (2 : Nat))) <<< (4 : Nat))) 4)) ^^^ (99#8)) = (eA cl (k + 1)).2.2 := by simp only [eA, aff, fp, fq]; first | rw [if_pos a0] | rw [if_neg a0]
   rw [eL] at c0
   exact ⟨k + 1, _, rfl, ⟨rfl, rfl, e3, rfl, trivial⟩, ⟨om, c0⟩, vd⟩
 ·refine go 4 ?_
  refine GA (k := 0) (v := u8 (99#8)) (cs' := (uA E8 (((eA cl k).2.2).set 176 (99#8))).toArray) H2 rfl rfl rfl vF (by rfl) (by exact E8.one _) (by rw [List.size_toArray, oA]; show _ ≤ _ * 1; rw [hl]; decide) (by exact wI (E := E8) rfl _ _ _) fun M0 x0 N0 => ?_
  have d0 := x0.a1 rfl
  refine go 0 ?_
  obtain rfl : k = 255 := by omega
  exact ⟨_, rfl, rfl, d0.chg, d0.get (k := 0) rfl⟩
theorem ZK (a b c d : BitVec 64) (w : World) : Ca 28 [.agg (uA E64 [a, b]).toArray, .agg (uA E64 [c, d]).toArray] w fun v w' => v = .agg (uA E64 [(a ^^^ c), (b ^^^ d)]).toArray ∧ Ext w w' := by
 have H := Hp.start No w
 refine enter (n := 16) Tryz.func28 rfl rfl (dB rfl) ?_
 refine go 1 ?_
 intro b1 w2 b0 H3 c0
 refine go 1 ?_
 intro b5 w6 d0 H7 e0
 refine go 1 ?_
 intro b9 f0 h0 i0 j0
 refine go 12 ?_
 intro k0 a0 l0
 refine go 0 ?_
 exact ⟨_, rfl, rfl, a0.chg⟩
theorem PN (a b : BitVec 64) (w : World) : Ca 101 [.agg (uA E64 [a, b]).toArray] w fun v w' => v = .agg (uA E64 [(oE a b).1, (oE a b).2]).toArray ∧ Ext w w' := by
 have H := Hp.start No w
 refine enter (n := 24) Tryz.func101 rfl rfl (dB rfl) ?_
 refine go 1 ?_
 intro b1 w2 c0 H3 d0
 refine go 1 ?_
 intro b5 w6 e0 H7 f0
 refine go 12 ?_
 intro b9 h0 i0 j0 k0
 refine go 1 ?_
 intro l0 m0 n0
 refine go 4 ?_
 refine iA ((b >>> (63 : Nat)) = (1#64)) rfl (fun c => ?_) (fun c => ?_)
 ·refine go 5 ?_
  intro o0 p0 q0
  refine go 2 ?_
  intro r0 a0 s0
  refine go 0 ?_
  have e : oE a b = ((a <<< (1 : Nat)) ^^^ (135#64), (b <<< (1 : Nat)) ||| (a >>> (63 : Nat))) := by simp only [oE]; first | rw [if_pos c] | rw [if_neg c]
  exact ⟨_, rfl, by rw [e]; rfl, a0.chg⟩
 ·refine go 2 ?_
  intro u0 b0 w0
  refine go 0 ?_
  have e : oE a b = (a <<< (1 : Nat), (b <<< (1 : Nat)) ||| (a >>> (63 : Nat))) := by simp only [oE]; first | rw [if_pos c] | rw [if_neg c]
  exact ⟨_, rfl, by rw [e]; rfl, b0.chg⟩
theorem xQ (a b : BitVec 64) (w : World) : Ca 86 [.agg (uA E64 [a, b]).toArray] w fun v w' => v = .agg (uA E8 (VB a b 16)).toArray ∧ Ext w w' := by
 have H := Hp.start No w
 refine enter (n := 21) Tryz.func86 rfl rfl (dB rfl) ?_
 refine go 1 ?_
 intro b1 w2 i0 H3 j0
 refine go 1 ?_
 intro b5 w6 k0 H7 l0
 refine go 1 ?_
 intro b9 m0 n0 d0 o0
 refine go 1 ?_
 refine AA (σ := Nat) (fun k => [(1, pT b1), (2, pT b5), (3, pT b9), (5, iN k)]) (fun k w' => k ≤ 16 ∧ Hp No w w' [(rX b9 E8 (VB a b k) 216), (rX b5 E8 (List.replicate 16 0#8) 216), (rX b1 E64 ([a, b]) 83)]) (fun k => 16 - k) (0) ?_ ?_ ?_
 ·exact kp
 ·exact ⟨om, d0⟩
 rintro k ρ p0 ⟨hk, a0⟩
 have hl := ZC a b k
 refine go 1 ?_
 refine iA (((k : Nat) : Int) < (16 : Int)) rfl (fun e0 => ?_) (fun e0 => ?_)
 ·refine go 6 ?_
  refine sq (BD (E := E64) (l := [a, b]) (j := k / 8) (a := ([a, b].getD (k / 8) 0#64)) VE (a0.get (k := 2) rfl) (QA (by simp; omega)) rfl rfl) ?_
  refine go 7 ?_
  intro q0 f0 r0
  refine go 2 ?_
  exact ⟨k + 1, _, rfl, kp, ⟨om, f0⟩, vd⟩
 ·obtain rfl : k = 16 := by omega
  have b0 := a0.as (L' := [(rX b9 E8 (VB a b 16) 216), (rX b5 E8 (List.replicate 16 0#8) 216), (rX b1 E64 ([a, b]) 83)]) (rfl)
  refine go 0 ?_
  refine sq (mB (cs' := (uA E8 (VB a b 16)).toArray) vF vF (b0.get (k := 0) rfl) (off := 0) rfl (by rw [List.size_toArray, oA]; show _ ≤ _ * 1; omega) (by exact YD (by rw [oA, ZC]; rfl))) (GA (k := 1) (v := .agg (uA E8 (VB a b 16)).toArray) (cs' := (uA E8 (VB a b 16)).toArray) b0 rfl rfl rfl vF (by exact HB (by rw [ZC]; rfl)) (by exact fC _) (by rw [List.size_toArray, oA]; show _ ≤ _ * 1; first | omega | (simp only [List.length_set]; omega) | exact dB rfl | (simp <;> omega)) (by exact VC (by rw [ZC]; rfl)) fun s0 h0 u0 => ?_)
  have c0 := h0.a3 rfl
  exact jF (CD (sK (rs := [.cell 2 216]) (vs := [.agg (uA E8 (VB a b 16)).toArray]) rfl ⟨mB (cs' := (uA E8 (VB a b 16)).toArray) vF vF (c0.get (k := 1) rfl) (off := 0) rfl (by rw [List.size_toArray, oA, ZC]; decide) (by exact YD (by rw [oA, ZC]; rfl)), trivial⟩ (⟨_, rfl, rfl, c0.chg⟩)))
theorem dI (l : List By) (hl : l.length = 16) (w : World) : Ca 87 [.agg (uA E8 l).toArray] w fun v w' => v = .agg (uA E64 (vC l 16)).toArray ∧ Ext w w' := by
 have H := Hp.start No w
 refine enter (n := 25) Tryz.func87 rfl rfl (dB rfl) ?_
 refine go 1 ?_
 intro b1 w2 k0 H3 l0
 refine go 1 ?_
 intro b5 w6 m0 H7 n0
 refine go 1 ?_
 intro b9 o0 p0 d0 q0
 refine go 2 ?_
 refine AA (σ := Nat) (fun k => [(2, pT b5), (3, pT b9), (6, .agg (uA E8 l).toArray), (7, iN k)]) (fun k w' => k ≤ 16 ∧ Hp No w w' [(rX b9 E64 (vC l k) 83), (rX b5 E64 ([0#64, 0#64]) 83), (rX b1 E8 l 216)]) (fun k => 16 - k) (0) ?_ ?_ ?_
 ·exact kp
 ·exact ⟨om, d0⟩
 rintro k ρ e0 ⟨hk, a0⟩
 have hL := YC l k
 refine go 1 ?_
 refine iA (((k : Nat) : Int) < (16 : Int)) rfl (fun f0 => ?_) (fun f0 => ?_)
 ·refine go 1 ?_
  refine sq (lP (E := E8) (l := l) (j := k) (a := l.getD k 0#8) rfl vF vF vF rfl rfl vo om (by exact QA om) (fun _ => rfl)) ?_
  refine go 2 ?_
  refine uB (K := [none, none, none, none, none, none, none, none, none, none, none, none]) [0, 1, 3, 7, 0, 16, 0, 64, 192, 496, 1023, 2047, 4095] (fun w' => Ext e0 w') (fun w' w'' => Ext w' w'') BA (by kernel_rfl) (Ext.drew _) (fun _ _ h h' => h.trans h') ?_ ?_
  ·exact xB (by decide)
  refine gk 12 ?_
  intro r42 r0 h0 hF
  have s0 := a0.ext h0
  refine go 1 ?_
  intro u0 i0 w0
  refine go 2 ?_
  exact ⟨k + 1, _, rfl, kp, ⟨om, i0⟩, vd⟩
 ·obtain rfl : k = 16 := by omega
  have b0 := a0.as (L' := [(rX b9 E64 (vC l 16) 83), (rX b5 E64 ([0#64, 0#64]) 83), (rX b1 E8 l 216)]) (rfl)
  refine go 0 ?_
  refine sq (mB (cs' := (uA E64 (vC l 16)).toArray) vF vF (b0.get (k := 0) rfl) (off := 0) rfl (by rw [List.size_toArray, oA, YC]; decide) (by exact YD (by rw [oA, YC]; rfl))) (GA (k := 1) (v := .agg (uA E64 (vC l 16)).toArray) (cs' := (uA E64 (vC l 16)).toArray) b0 rfl rfl rfl vF (by exact HB (by rw [YC]; rfl)) (by exact fC _) (by rw [List.size_toArray, oA]; show _ ≤ _ * 1; first | omega | (simp only [List.length_set]; omega) | exact dB rfl | (simp <;> omega)) (by exact VC (by rw [YC]; rfl)) fun x0 j0 y0 => ?_)
  have c0 := j0.a3 rfl
  exact jF (CD (sK (rs := [.cell 2 83]) (vs := [.agg (uA E64 (vC l 16)).toArray]) rfl ⟨mB (cs' := (uA E64 (vC l 16)).toArray) vF vF (c0.get (k := 1) rfl) (off := 0) rfl (by rw [List.size_toArray, oA, YC]; decide) (by exact YD (by rw [oA, YC]; rfl)), trivial⟩ (⟨_, rfl, rfl, c0.chg⟩)))
theorem TU (b : Nat) (l : List By) (hn : l.length = 16) (w : World) (hb : w.heap[b]? = some (.cells (uA E8 l).toArray 216 (0, 0))) : Ca 98 [pT b] w fun v w' => v = .tuple #[] ∧ Chg (· = b) w w' ∧ w'.heap[b]? = some (.cells (uA E8 (QR l)).toArray 216 (0, 0)) := by
 have H := Hp.start1 (M := (· = b)) rfl hb
 refine enter (n := 55) Tryz.func98 rfl rfl (dB rfl) ?_
 refine go 1 ?_
 refine AA (σ := Nat) (fun k => [(0, pT b), (2, iN (4 * k))]) (fun k w' => k ≤ 4 ∧ Hp (· = b) w w' [(rX b E8 (rD l k) 216)]) (fun k => 4 - k) (0) ?_ ?_ ?_
 ·exact kp
 ·exact ⟨om, H⟩
 rintro k ρ w1 ⟨hk, H2⟩
 have hl := BK l k
 rw [hn] at hl
 have h4 : (rD l k).length = 16 := hl
 refine go 2 ?_
 refine iA (((4 * k : Nat) : Int) < (16 : Int)) rfl (fun c0 => ?_) (fun c0 => ?_)
 ·refine go 5 ?_
  refine sq (fP (l := 4 * k) (h := (4 * k) + 4) (l' := 4 * k) (h' := 4) vF (b := b) (off := 0) rfl rfl rfl vo vo om om om om om) (sq (nP vF rfl om) (sq (mB (cs' := (uA E8 (((rD l k).drop (4 * k)).take 4)).toArray) vF vF (H2.get (k := 0) rfl) (off := 4 * k) rfl (by rw [List.size_toArray, oA]; show _ ≤ _ * 1; omega) (by exact XE _ _ _ rfl)) ?_))
  refine go 1 ?_
  intro b3 w4 l0 H5 m0
  refine GA (k := 0) (v := .agg (uA E8 (((rD l k).drop (4 * k)).take 4)).toArray) (cs' := (uA E8 (iF (rD l k) (4 * k))).toArray) H5 rfl rfl rfl vF (by exact HB (by simp [h4, E8]; omega)) (by exact fC _) (by exact dB rfl) (by exact VC (by simp [h4]; omega)) fun w7 H8 n0 => ?_
  have d0 := H8.a2 rfl
  refine go 0 ?_
  have hA : (iF (rD l k) (4 * k)).length = 4 := by simp [iF, h4]; omega
  refine go 13 ?_
  refine AA (σ := Nat) (fun r => [(0, pT b), (2, iN (4 * k)), (3, pT b3), (4, u8 (KM (iF (rD l k) (4 * k)))), (29, iN r)]) (fun r w' => r ≤ 4 ∧ Hp (· = b) w w' [(rX b3 E8 (iF (rD l k) (4 * k)) 239), (rX b E8 (zN (iF (rD l k) (4 * k)) (KM (iF (rD l k) (4 * k))) (rD l k) (4 * k) r) 216)]) (fun r => 4 - r) (0) ?_ ?_ ?_
  ·exact kp
  ·exact ⟨om, d0⟩
  rintro r ρ e0 ⟨hr, a0⟩
  have hm := CK (iF (rD l k) (4 * k)) (KM (iF (rD l k) (4 * k))) (rD l k) (4 * k) r
  rw [h4] at hm
  refine go 1 ?_
  refine iA (((r : Nat) : Int) < (4 : Int)) rfl (fun f0 => ?_) (fun f0 => ?_)
  ·refine go 2 ?_
   refine uB (K := [none, none, none, none, none, none, none, none, none, none, none, none, none, none, none, none, none, none, none, none, none, none]) [0, 0, 0, 6, 1, 31, 63, 0, 0, 256, 768, 0, 2048, 6144, 14336, 30720, 65280, 130816, 262016, 524287, 1, 2097151, 4194303] (fun w' => Ext e0 w') (fun w' w'' => Ext w' w'') BA (by kernel_rfl) (Ext.drew _) (fun _ _ h h' => h.trans h') ?_ ?_
   ·exact xB (by decide)
   refine gk 17 ?_
   refine ⟨u8 (xt (((iF (rD l k) (4 * k)).getD r 0#8) ^^^ ((iF (rD l k) (4 * k)).getD ((r + 1) % 4) 0#8))), fun _ h0 o0 _ => Gives.call rfl (cA (vs := [u8 (((iF (rD l k) (4 * k)).getD r 0#8) ^^^ ((iF (rD l k) (4 * k)).getD ((r + 1) % 4) 0#8))]) vF rfl) (MH (((iF (rD l k) (4 * k)).getD r 0#8) ^^^ ((iF (rD l k) (4 * k)).getD ((r + 1) % 4) 0#8)) h0), ?_⟩
   refine gk 4 ?_
   intro r59 p0 i0 hF
   have q0 := a0.ext i0
   refine go 1 ?_
   intro r0 j0 s0
   refine go 2 ?_
   exact ⟨r + 1, _, rfl, kp, ⟨om, j0⟩, vd⟩
  ·obtain rfl : r = 4 := by omega
   have k0 := a0.as (L' := [(rX b3 E8 (iF (rD l k) (4 * k)) 239), (rX b E8 (rD l (k + 1)) 216)]) (rfl)
   refine go 3 ?_
   exact ⟨k + 1, _, rfl, ⟨rfl, congrArg i64 om, trivial⟩, ⟨om, k0.drop1⟩, vd⟩
 ·obtain rfl : k = 4 := by omega
  have b0 := H2.as (L' := [(rX b E8 (rD l 4) 216)]) (rfl)
  refine go 0 ?_
  exact ⟨_, rfl, rfl, b0.chg, b0.get (k := 0) rfl⟩
theorem jC (key : List By) (hk : key.length = 16) (w : World) : Ca 100 [.agg (uA E8 key).toArray] w fun v w' => (∃ b, v = pT b ∧ w.heap.size ≤ b ∧ w'.heap[b]? = some (.cells (uA E8 (QC key)).toArray 232 (0, 0))) ∧ Ext w w' := by
 have H := Hp.start No w
 refine enter (n := 99) Tryz.func100 rfl rfl (dB rfl) ?_
 refine go 1 ?_
 intro b1 w2 L0 H3 M0
 refine go 2 ?_
 refine nT (v := .agg (List.replicate 432 (.int .u8 0)).toArray) (o := .cells (uA E8 (List.replicate 432 0#8)).toArray 232 (0, 0)) H3 rfl (by kernel_rfl) fun b5 w6 N0 H7 O0 => ?_
 refine go 2 ?_
 refine cl (kS b5 (List.replicate 432 0#8) List.length_replicate w6 gF) ?_
 rintro _ w9 ⟨rfl, i0, j0⟩
 have k0 := (H7.set (k := 0) rfl i0 j0).a2 rfl
 refine go 0 ?_
 refine uB (K := [none, none, none, none, none]) [0, 0, 1, 5, 15, 31] (fun w' => Ext w9 w') (fun w' w'' => Ext w' w'') BA (by kernel_rfl) (Ext.drew _) (fun _ _ h h' => h.trans h') ?_ ?_
 ·exact xB (by decide)
 refine gk 5 ?_
 intro r25 P0 l0 hF
 have m0 := k0.ext l0
 refine GA (k := 0) (v := .agg (uA E8 key).toArray) (cs' := (uA E8 ((pB key 0).1)).toArray) m0 rfl rfl rfl vF (by exact HB (by rw [hk]; rfl)) (by exact fC _) (by rw [List.size_toArray, oA, fH, List.length_replicate]; decide) (by rw [vN]; exact put0 (by rw [hk, fH, List.length_replicate]; decide)) fun Q0 n0 R0 => ?_
 have o0 := n0.a2 rfl
 refine go 2 ?_
 refine AA (σ := Nat) (fun k => [(3, pT b5), (4, u8 ((pB key k).2)), (5, iN (k + 1))]) (fun k w' => k ≤ 10 ∧ Hp No w w' [(rX b5 E8 ((pB key k).1) 232), (rX b1 E8 key 216)]) (fun k => 10 - k) (0) ?_ ?_ ?_
 ·exact kp
 ·exact ⟨om, o0⟩
 rintro k ρ p0 ⟨S0, c0⟩
 let x2 : Option Addr := some ⟨b5, (k + 1) * 16, none⟩
 let x1 : Option Addr := some ⟨b5, (k + 1 - 1) * 16, none⟩
 have hl := yK key hk k
 refine go 2 ?_
 refine iA (((k + 1 : Nat) : Int) ≤ (10 : Int)) rfl (fun q0 => ?_) (fun q0 => ?_)
 ·refine go 0 ?_
  refine uB (K := [none, none, none, none, none, none, none, none, none, none, none, none, none]) [0, 0, 2, 1, 9, 31, 0, 0, 64, 320, 960, 63, 4095] (fun w' => Ext p0 w') (fun w' w'' => Ext w' w'') BA (by kernel_rfl) (Ext.drew _) (fun _ _ h h' => h.trans h') ?_ ?_
  ·exact xB (by decide)
  refine ⟨pT b5, fun _ T0 U0 _ => Gives.run rfl (CA (v := pT b5) rfl) ⟨rfl, Chg.refl _ _⟩, ?_⟩
  refine ⟨iN (k + 1), fun _ V0 W0 _ => Gives.run rfl (CA (v := iN (k + 1)) rfl) ⟨rfl, Chg.refl _ _⟩, ?_⟩
  refine ⟨i64 ((k + 1 : Nat) - (1 : Int)), fun _ X0 Y0 _ => Gives.run rfl (UG rfl rfl om) ⟨rfl, Chg.refl _ _⟩, ?_⟩
  refine ⟨pT b5, fun _ Z0 c1 _ => Gives.run rfl (wB rfl) ⟨rfl, Chg.refl _ _⟩, ?_⟩
  refine ⟨pT b5, fun _ d1 e1 _ => Gives.run rfl (rA (off' := 0) vF (by decide) (b := b5) (off := 0) rfl om) ⟨rfl, Chg.refl _ _⟩, ?_⟩
  refine ⟨.pointer x1, fun _ g1 h1 _ => Gives.run rfl (IA (off' := (k + 1 - 1) * 16) (j := k + 1 - 1) vF (b := b5) (off := 0) rfl rfl vo om om) ⟨rfl, Chg.refl _ _⟩, ?_⟩
  refine ⟨pT b5, fun _ i1 j1 _ => Gives.run rfl (CA (v := pT b5) rfl) ⟨rfl, Chg.refl _ _⟩, ?_⟩
  refine ⟨iN (k + 1), fun _ k1 l1 _ => Gives.run rfl (CA (v := iN (k + 1)) rfl) ⟨rfl, Chg.refl _ _⟩, ?_⟩
  refine ⟨pT b5, fun _ m1 n1 _ => Gives.run rfl (wB rfl) ⟨rfl, Chg.refl _ _⟩, ?_⟩
  refine ⟨pT b5, fun _ o1 p1 _ => Gives.run rfl (rA (off' := 0) vF (by decide) (b := b5) (off := 0) rfl om) ⟨rfl, Chg.refl _ _⟩, ?_⟩
  refine ⟨.pointer x2, fun _ q1 r1 _ => Gives.run rfl (IA (off' := (k + 1) * 16) (j := k + 1) vF (b := b5) (off := 0) rfl rfl vo om om) ⟨rfl, Chg.refl _ _⟩, ?_⟩
  refine ⟨.pointer x1, fun _ s1 t1 _ => Gives.run rfl (zA (v := .pointer x1) rfl) ⟨rfl, Chg.refl _ _⟩, ?_⟩
  refine ⟨.pointer x2, fun _ u1 w1 _ => Gives.run rfl (zA (v := .pointer x2) rfl) ⟨rfl, Chg.refl _ _⟩, ?_⟩
  intro r60 d0 r0 hF
  have a0 := c0.ext r0
  refine BE (RA (PG (uB (K := [none, none, none, none, none, none, none, none, none, none, none, none, none, none, none, none, none, none, none, none, none, none, none, none, none, none, none, none, none, none, none, none, none, none, none, none, none, none, none, some (FG d0 (.cells (uA E8 [0#8, 0#8, 0#8, 0#8]).toArray 239 (0, 0)))]) [0, 0, 2, 6, 14, 1, 33, 127, 255, 0, 1023, 0, 0, 4096, 12288, 28672, 2048, 67584, 260096, 522240, 0, 0, 2097152, 6291456, 14680064, 1048576, 34603008, 133169152, 267386880, 0, 0, 1073741824, 3221225472, 7516192768, 536870912, 17716740096, 68182605824, 136902082560, 274877906943, 0, 1099511627775] (fun w' => Ext d0 w') (fun w' w'' => Ext w' w'') BA (by kernel_rfl) (Ext.drew _) (fun _ _ h h' => h.trans h') ?_ ?_)))
  ·exact jU 39 _ rfl rfl vH (fun _ _ _ _ _ h => h)
  refine ⟨pT b5, fun _ y1 z1 _ => Gives.run rfl (CA (v := pT b5) rfl) ⟨rfl, Chg.refl _ _⟩, ?_⟩
  refine ⟨.pointer x1, fun _ A1 B1 _ => Gives.run rfl (CA (v := .pointer x1) rfl) ⟨rfl, Chg.refl _ _⟩, ?_⟩
  refine ⟨.pointer x1, fun _ C1 D1 _ => Gives.run rfl (wB rfl) ⟨rfl, Chg.refl _ _⟩, ?_⟩
  refine ⟨.pointer (some ⟨b5, ((k + 1 - 1) * 16) + 13, none⟩), fun _ E1 F1 _ => Gives.run rfl (IA (off' := ((k + 1 - 1) * 16) + 13) (j := 13) vF (b := b5) (off := (k + 1 - 1) * 16) rfl rfl vo om om) ⟨rfl, Chg.refl _ _⟩, ?_⟩
  refine gk 4 ?_
  refine ⟨u8 (((pB key k).1).getD (176 + ((((pB key k).1).getD (((k + 1 - 1) * 16) + 13) 0#8).toNat)) 0#8), fun _ G1 s0 _ => Gives.run rfl (BD (E := E8) (l := (pB key k).1) (j := 176 + ((((pB key k).1).getD (((k + 1 - 1) * 16) + 13) 0#8).toNat)) (a := ((pB key k).1).getD (176 + ((((pB key k).1).getD (((k + 1 - 1) * 16) + 13) 0#8).toNat)) 0#8) OK ((a0.ext s0).get (k := 0) rfl) (QA (by have := ((pB key k).1.getD ((k + 1 - 1) * 16 + 13) 0#8).isLt; omega)) rfl rfl) ⟨rfl, Chg.refl _ _⟩, ?_⟩
  refine gk 10 ?_
  refine ⟨u8 (((pB key k).1).getD (176 + ((((pB key k).1).getD (((k + 1 - 1) * 16) + 14) 0#8).toNat)) 0#8), fun _ H1 u0 _ => Gives.run rfl (BD (E := E8) (l := (pB key k).1) (j := 176 + ((((pB key k).1).getD (((k + 1 - 1) * 16) + 14) 0#8).toNat)) (a := ((pB key k).1).getD (176 + ((((pB key k).1).getD (((k + 1 - 1) * 16) + 14) 0#8).toNat)) 0#8) OK ((a0.ext u0).get (k := 0) rfl) (QA (by have := ((pB key k).1.getD ((k + 1 - 1) * 16 + 14) 0#8).isLt; omega)) rfl rfl) ⟨rfl, Chg.refl _ _⟩, ?_⟩
  refine gk 8 ?_
  refine ⟨u8 (((pB key k).1).getD (176 + ((((pB key k).1).getD (((k + 1 - 1) * 16) + 15) 0#8).toNat)) 0#8), fun _ I1 w0 _ => Gives.run rfl (BD (E := E8) (l := (pB key k).1) (j := 176 + ((((pB key k).1).getD (((k + 1 - 1) * 16) + 15) 0#8).toNat)) (a := ((pB key k).1).getD (176 + ((((pB key k).1).getD (((k + 1 - 1) * 16) + 15) 0#8).toNat)) 0#8) OK ((a0.ext w0).get (k := 0) rfl) (QA (by have := ((pB key k).1.getD ((k + 1 - 1) * 16 + 15) 0#8).isLt; omega)) rfl rfl) ⟨rfl, Chg.refl _ _⟩, ?_⟩
  refine gk 8 ?_
  refine ⟨u8 (((pB key k).1).getD (176 + ((((pB key k).1).getD (((k + 1 - 1) * 16) + 12) 0#8).toNat)) 0#8), fun _ J1 x0 _ => Gives.run rfl (BD (E := E8) (l := (pB key k).1) (j := 176 + ((((pB key k).1).getD (((k + 1 - 1) * 16) + 12) 0#8).toNat)) (a := ((pB key k).1).getD (176 + ((((pB key k).1).getD (((k + 1 - 1) * 16) + 12) 0#8).toNat)) 0#8) OK ((a0.ext x0).get (k := 0) rfl) (QA (by have := ((pB key k).1.getD ((k + 1 - 1) * 16 + 12) 0#8).isLt; omega)) rfl rfl) ⟨rfl, Chg.refl _ _⟩, ?_⟩
  refine gk 1 ?_
  refine ⟨fun r K1 y0 hF => ?_, ?_⟩
  ·exact FL vF (by kernel_rfl) y0
  intro r144 L1 e0 hF
  have M1 := a0.ext e0
  obtain ⟨b8, z0, hbs, hbo⟩ := hF 39 _ rfl
  dsimp only
  rw [z0]
  have H8 := a0.add1 e0 hbs hbo
  refine GA (k := 0) (v := .agg (uA E8 [(((pB key k).1).getD (176 + ((((pB key k).1).getD (((k + 1 - 1) * 16) + 13) 0#8).toNat)) 0#8) ^^^ ((pB key k).2), ((pB key k).1).getD (176 + ((((pB key k).1).getD (((k + 1 - 1) * 16) + 14) 0#8).toNat)) 0#8, ((pB key k).1).getD (176 + ((((pB key k).1).getD (((k + 1 - 1) * 16) + 15) 0#8).toNat)) 0#8, ((pB key k).1).getD (176 + ((((pB key k).1).getD (((k + 1 - 1) * 16) + 12) 0#8).toNat)) 0#8]).toArray) (cs' := (uA E8 (t0 (pB key k).1 (k + 1) (pB key k).2)).toArray) H8 rfl rfl rfl vF (by exact HB rfl) (by exact fC _) (by exact dB rfl) (by exact VC rfl) fun N1 A0 O1 => ?_
  have B0 := A0.a3 rfl
  refine go 1 ?_
  refine AA (σ := Nat) (fun i => [(3, pT b5), (4, u8 ((pB key k).2)), (5, iN (k + 1)), (6, .pointer x1), (7, .pointer x2), (8, pT b8), (73, iN i)]) (fun i w' => i ≤ 16 ∧ Hp No w w' [(rX b8 E8 ((uH (pB key k).1 (t0 (pB key k).1 (k + 1) (pB key k).2) (k + 1) i).2) 239), (rX b5 E8 ((uH (pB key k).1 (t0 (pB key k).1 (k + 1) (pB key k).2) (k + 1) i).1) 232), (rX b1 E8 key 216)]) (fun i => 16 - i) (0) ?_ ?_ ?_
  ·exact kp
  ·exact ⟨om, B0⟩
  rintro i ρ f0 ⟨hi, h0⟩
  have hi1 := (fI (pB key k).1 (t0 (pB key k).1 (k + 1) (pB key k).2) (k + 1) i).1
  rw [hl] at hi1
  have hi2 := (fI (pB key k).1 (t0 (pB key k).1 (k + 1) (pB key k).2) (k + 1) i).2
  rw [show (t0 (pB key k).1 (k + 1) (pB key k).2).length = 4 from rfl] at hi2
  refine go 1 ?_
  refine iA (((i : Nat) : Int) < (16 : Int)) rfl (fun C0 => ?_) (fun C0 => ?_)
  ·refine go 2 ?_
   refine uB (K := [none, none, none, none, none, none, none, none, none, none, none]) [0, 1, 3, 7, 0, 0, 16, 112, 240, 511, 1023, 2047] (fun w' => Ext f0 w') (fun w' w'' => Ext w' w'') BA (by kernel_rfl) (Ext.drew _) (fun _ _ h h' => h.trans h') ?_ ?_
   ·exact xB (by decide)
   refine gk 11 ?_
   intro r175 P1 D0 hF
   have Q1 := h0.ext D0
   refine go 1 ?_
   intro E0 F0 R1
   refine go 0 ?_
   refine uB (K := [none, none, none, none, none, none, none, none]) [0, 0, 0, 4, 12, 28, 1, 127, 255] (fun w' => Ext E0 w') (fun w' w'' => Ext w' w'') BA (by kernel_rfl) (Ext.drew _) (fun _ _ h h' => h.trans h') ?_ ?_
   ·exact xB (by decide)
   refine gk 8 ?_
   intro r198 S1 G0 hF
   have T1 := F0.ext G0
   refine go 1 ?_
   intro U1 H0 V1
   refine go 2 ?_
   exact ⟨i + 1, _, rfl, kp, ⟨om, H0⟩, vd⟩
  ·obtain rfl : i = 16 := by omega
   have I0 := h0.as (L' := [(rX b8 E8 ((uH (pB key k).1 (t0 (pB key k).1 (k + 1) (pB key k).2) (k + 1) 16).2) 239), (rX b5 E8 ((pB key (k + 1)).1) 232), (rX b1 E8 key 216)]) (by rw [wN])
   refine go 1 ?_
   refine cl (MH ((pB key k).2) f0) ?_
   rintro _ W1 ⟨rfl, J0⟩
   have K0 := I0.ext J0
   refine go 4 ?_
   exact ⟨k + 1, _, rfl, kp, ⟨om, K0.drop1⟩, vd⟩
 ·obtain rfl : k = 10 := by omega
  have b0 := c0.as (L' := [(rX b5 E8 (QC key) 232), (rX b1 E8 key 216)]) (by rw [QC])
  refine go 2 ?_
  exact ⟨_, rfl, ⟨_, rfl, by have := b0.own _ (List.mem_of_getElem? (i := 0) rfl) _ rfl; exact this.resolve_left (fun h => h), b0.get (k := 0) rfl⟩, b0.chg⟩
theorem fV (bc : Nat) (cl : List By) (hcl : cl.length = 432) (b : List By) (hb : b.length = 16) (w : World) (hc : w.heap[bc]? = some (.cells (uA E8 cl).toArray 232 (0, 0))) : Ca 85 [pT bc, .agg (uA E8 b).toArray] w fun v w' => v = .agg (uA E8 (yE cl b)).toArray ∧ Ext w w' := by
 have H := Hp.start No w
 refine enter (n := 71) Tryz.func85 rfl rfl (dB rfl) ?_
 refine go 1 ?_
 intro b1 w2 M0 H3 N0
 refine go 1 ?_
 intro b5 w6 O0 H7 P0
 refine go 1 ?_
 refine AA (σ := Nat) (fun i => [(0, pT bc), (3, pT b1), (4, pT b5), (10, iN i)]) (fun i w' => i ≤ 16 ∧ Hp No w w' [(rX b5 E8 (List.replicate 16 0#8) 216), (rX b1 E8 (SN cl b i) 216)]) (fun i => 16 - i) (0) ?_ ?_ ?_
 ·exact kp
 ·exact ⟨om, H7⟩
 rintro i ρ w9 ⟨hi, d0⟩
 have hl := UK cl b i
 rw [hb] at hl
 refine go 1 ?_
 refine iA (((i : Nat) : Int) < (16 : Int)) rfl (fun n0 => ?_) (fun n0 => ?_)
 ·refine go 2 ?_
  refine uB (K := [none, none, none, none, none, none, none, none, none, none, none, none]) [0, 1, 3, 0, 0, 8, 40, 104, 248, 504, 1023, 2047, 4095] (fun w' => Ext w9 w') (fun w' w'' => Ext w' w'') BA (by kernel_rfl) (Ext.drew _) (fun _ _ h h' => h.trans h') ?_ ?_
  ·exact xB (by decide)
  refine gk 12 ?_
  intro r38 Q0 o0 hF
  have R0 := d0.ext o0
  refine go 1 ?_
  intro S0 p0 T0
  refine go 2 ?_
  exact ⟨i + 1, _, rfl, kp, ⟨om, p0⟩, vd⟩
 ·obtain rfl : i = 16 := by omega
  have q0 := d0.as (L' := [(rX b5 E8 (List.replicate 16 0#8) 216), (rX b1 E8 (HC cl b 0) 216)]) (by rw [HC])
  refine go 1 ?_
  refine AA (σ := Nat) (fun k => [(0, pT bc), (3, pT b1), (4, pT b5), (6, iN (k + 1))]) (fun k w' => k ≤ 10 ∧ Hp No w w' [(rX b5 E8 (List.replicate 16 0#8) 216), (rX b1 E8 (HC cl b k) 216)]) (fun k => 10 - k) (0) ?_ ?_ ?_
  ·exact kp
  ·exact ⟨om, q0⟩
  rintro k ρ U0 ⟨hk, r0⟩
  have hl := PK cl b k
  rw [hb] at hl
  refine go 2 ?_
  refine iA (((k + 1 : Nat) : Int) ≤ (10 : Int)) rfl (fun s0 => ?_) (fun s0 => ?_)
  ·refine go 1 ?_
   intro a0 V0 W0 u0 X0
   refine go 1 ?_
   refine AA (σ := Nat) (fun i => [(0, pT bc), (3, pT b1), (4, pT b5), (6, iN (k + 1)), (7, pT a0), (30, iN i)]) (fun i w' => i ≤ 16 ∧ Hp No w w' [(rX a0 E8 (OH cl (HC cl b k) i) 216), (rX b5 E8 (List.replicate 16 0#8) 216), (rX b1 E8 (HC cl b k) 216)]) (fun i => 16 - i) (0) ?_ ?_ ?_
   ·exact kp
   ·exact ⟨om, u0⟩
   rintro i ρ e0 ⟨hi, b0⟩
   have hs := jG cl (HC cl b k) i
   refine go 1 ?_
   refine iA (((i : Nat) : Int) < (16 : Int)) rfl (fun w0 => ?_) (fun w0 => ?_)
   ·refine go 2 ?_
    refine uB (K := [none, none, none, none, none, none, none, none, none, none, none, none, none, none, none]) [0, 0, 0, 0, 8, 24, 60, 124, 252, 508, 2, 1026, 4094, 8190, 16383, 32767] (fun w' => Ext e0 w') (fun w' w'' => Ext w' w'') BA (by kernel_rfl) (Ext.drew _) (fun _ _ h h' => h.trans h') ?_ ?_
    ·exact xB (by decide)
    refine gk 13 ?_
    refine ⟨u8 (cl.getD (176 + ((((HC cl b k)).getD ((i + (4 * (i % 4))) % 16) 0#8).toNat)) 0#8), fun _ Y0 x0 _ => Gives.run rfl (BD (E := E8) (l := cl) (j := 176 + ((((HC cl b k)).getD ((i + (4 * (i % 4))) % 16) 0#8).toNat)) (a := cl.getD (176 + ((((HC cl b k)).getD ((i + (4 * (i % 4))) % 16) 0#8).toNat)) 0#8) OK ((b0.ext x0).keepE hc) (QA (by have := ((HC cl b k).getD ((i + 4 * (i % 4)) % 16) 0#8).isLt; omega)) rfl rfl) ⟨rfl, Chg.refl _ _⟩, ?_⟩
    refine gk 1 ?_
    intro r84 Z0 y0 hF
    have c1 := b0.ext y0
    refine go 1 ?_
    intro d1 z0 e1
    refine go 2 ?_
    exact ⟨i + 1, _, rfl, kp, ⟨om, z0⟩, vd⟩
   ·obtain rfl : i = 16 := by omega
    have f0 := b0.as (L' := [(rX a0 E8 (OH cl (HC cl b k) 16) 216), (rX b5 E8 (List.replicate 16 0#8) 216), (rX b1 E8 (HC cl b k) 216)]) (rfl)
    refine go 2 ?_
    refine iA (((k + 1 : Nat) : Int) < (10 : Int)) rfl (fun A0 => ?_) (fun A0 => ?_)
    ·refine go 0 ?_
     refine Vc.cl (TU a0 (OH cl (HC cl b k) 16) (jG _ _ _) e0 gF) ?_
     rintro _ g1 ⟨rfl, B0, h0⟩
     rw [show QR (OH cl (HC cl b k) 16) = (SF cl (HC cl b k) (k + 1)) by simp only [SF]; rw [if_pos om]] at h0
     have C0 := (f0.set (k := 0) rfl B0 h0).a3 rfl
     refine go 1 ?_
     refine AA (σ := Nat) (fun i => [(0, pT bc), (3, pT b1), (4, pT b5), (6, iN (k + 1)), (7, pT a0), (52, iN i)]) (fun i w' => i ≤ 16 ∧ Hp No w w' [(rX a0 E8 (SF cl (HC cl b k) (k + 1)) 216), (rX b5 E8 (List.replicate 16 0#8) 216), (rX b1 E8 (FN cl (SF cl (HC cl b k) (k + 1)) (HC cl b k) (k + 1) i) 216)]) (fun i => 16 - i) (0) ?_ ?_ ?_
     ·exact kp
     ·exact ⟨om, C0⟩
     rintro i ρ D0 ⟨hi, i0⟩
     have hr := qK cl (HC cl b k) (k + 1)
     have hq := eI cl (SF cl (HC cl b k) (k + 1)) (HC cl b k) (k + 1) i
     rw [hl] at hq
     refine go 1 ?_
     refine iA (((i : Nat) : Int) < (16 : Int)) rfl (fun c0 => ?_) (fun c0 => ?_)
     ·refine go 2 ?_
      refine uB (K := [none, none, none, none, none, none, none, none, none, none, none, none, none, none]) [0, 0, 2, 6, 0, 0, 0, 16, 144, 432, 1008, 2032, 4094, 8191, 16383] (fun w' => Ext D0 w') (fun w' w'' => Ext w' w'') BA (by kernel_rfl) (Ext.drew _) (fun _ _ h h' => h.trans h') ?_ ?_
      ·exact xB (by decide)
      refine gk 14 ?_
      intro r125 h1 E0 hF
      have i1 := i0.ext E0
      refine go 1 ?_
      intro j1 F0 k1
      refine go 2 ?_
      exact ⟨i + 1, _, rfl, kp, ⟨om, F0⟩, vd⟩
     ·obtain rfl : i = 16 := by omega
      have G0 := i0.as (L' := [(rX a0 E8 (SF cl (HC cl b k) (k + 1)) 216), (rX b5 E8 (List.replicate 16 0#8) 216), (rX b1 E8 (HC cl b (k + 1)) 216)]) (by rw [HC])
      refine go 3 ?_
      exact ⟨k + 1, _, rfl, kp, ⟨om, G0.drop1⟩, vd⟩
    ·have j0 := f0
     rw [show OH cl (HC cl b k) 16 = (SF cl (HC cl b k) (k + 1)) by simp only [SF]; rw [if_neg om]] at j0
     refine go 1 ?_
     refine AA (σ := Nat) (fun i => [(0, pT bc), (3, pT b1), (4, pT b5), (6, iN (k + 1)), (7, pT a0), (52, iN i)]) (fun i w' => i ≤ 16 ∧ Hp No w w' [(rX a0 E8 (SF cl (HC cl b k) (k + 1)) 216), (rX b5 E8 (List.replicate 16 0#8) 216), (rX b1 E8 (FN cl (SF cl (HC cl b k) (k + 1)) (HC cl b k) (k + 1) i) 216)]) (fun i => 16 - i) (0) ?_ ?_ ?_
     ·exact kp
     ·exact ⟨om, j0⟩
     rintro i ρ H0 ⟨hi, k0⟩
     have hr := qK cl (HC cl b k) (k + 1)
     have hq := eI cl (SF cl (HC cl b k) (k + 1)) (HC cl b k) (k + 1) i
     rw [hl] at hq
     refine go 1 ?_
     refine iA (((i : Nat) : Int) < (16 : Int)) rfl (fun c0 => ?_) (fun c0 => ?_)
     ·refine go 2 ?_
      refine uB (K := [none, none, none, none, none, none, none, none, none, none, none, none, none, none]) [0, 0, 2, 6, 0, 0, 0, 16, 144, 432, 1008, 2032, 4094, 8191, 16383] (fun w' => Ext H0 w') (fun w' w'' => Ext w' w'') BA (by kernel_rfl) (Ext.drew _) (fun _ _ h h' => h.trans h') ?_ ?_
      ·exact xB (by decide)
      refine gk 14 ?_
      intro r164 l1 I0 hF
      have m1 := k0.ext I0
      refine go 1 ?_
      intro n1 J0 o1
      refine go 2 ?_
      exact ⟨i + 1, _, rfl, kp, ⟨om, J0⟩, vd⟩
     ·obtain rfl : i = 16 := by omega
      have K0 := k0.as (L' := [(rX a0 E8 (SF cl (HC cl b k) (k + 1)) 216), (rX b5 E8 (List.replicate 16 0#8) 216), (rX b1 E8 (HC cl b (k + 1)) 216)]) (by rw [HC])
      refine go 3 ?_
      exact ⟨k + 1, _, rfl, kp, ⟨om, K0.drop1⟩, vd⟩
  ·obtain rfl : k = 10 := by omega
   have l0 := r0.as (L' := [(rX b5 E8 (List.replicate 16 0#8) 216), (rX b1 E8 (yE cl b) 216)]) (by rw [yE])
   refine go 0 ?_
   refine sq (mB (cs' := (uA E8 (yE cl b)).toArray) vF vF (l0.get (k := 1) rfl) (off := 0) rfl (by rw [List.size_toArray, oA, lE, hb]; decide) (by exact YD (by rw [oA, lE, hb]; rfl))) (GA (k := 0) (v := .agg (uA E8 (yE cl b)).toArray) (cs' := (uA E8 (yE cl b)).toArray) l0 rfl rfl rfl vF (by exact HB (by rw [lE, hb]; rfl)) (by exact fC _) (by rw [List.size_toArray, oA]; show _ ≤ _ * 1; first | omega | (simp only [List.length_set]; omega) | exact dB rfl | (simp <;> omega)) (by exact VC (by rw [lE, hb]; rfl)) fun p1 L0 q1 => ?_)
   have m0 := L0.a2 rfl
   exact jF (CD (sK (rs := [.cell 4 216]) (vs := [.agg (uA E8 (yE cl b)).toArray]) rfl ⟨mB (cs' := (uA E8 (yE cl b)).toArray) vF vF (m0.get (k := 0) rfl) (off := 0) rfl (by rw [List.size_toArray, oA, lE, hb]; decide) (by exact YD (by rw [oA, lE, hb]; rfl)), trivial⟩ (⟨_, rfl, rfl, m0.chg⟩)))
theorem NK (w : World) : Ca 91 [] w fun v w' => (∃ b, v = pT b ∧ w.heap.size ≤ b ∧ w'.heap[b]? = some (.cells (uA E8 (QC FC)).toArray 232 (0, 0))) ∧ Ext w w' := by
 have H := Hp.start No w
 refine enter (n := 13) Tryz.func91 rfl rfl (dB rfl) ?_
 refine go 2 ?_
 intro b1 w2 f0 H3 h0
 refine go 1 ?_
 refine AA (σ := Nat) (fun i => [(1, pT b1), (3, iN i)]) (fun i w' => i ≤ 16 ∧ Hp No w w' [(rX b1 E8 (MN i) 216)]) (fun i => 16 - i) (0) ?_ ?_ ?_
 ·exact kp
 ·exact ⟨om, H3⟩
 rintro i ρ w5 ⟨hi, H6⟩
 have hl := pF i
 refine go 1 ?_
 refine iA (((i : Nat) : Int) < (16 : Int)) rfl (fun c4 => ?_) (fun c4 => ?_)
 ·refine go 7 ?_
  intro w7 c0 i0
  refine go 2 ?_
  exact ⟨i + 1, _, rfl, kp, ⟨om, c0⟩, vd⟩
 ·obtain rfl : i = 16 := by omega
  have b0 := H6.as (L' := [(rX b1 E8 FC 216)]) (by rw [FC])
  refine go 0 ?_
  refine sq (mB (cs' := (uA E8 FC).toArray) vF vF (b0.get (k := 0) rfl) (off := 0) rfl (by rw [List.size_toArray, oA, FC, pF]; decide) (by exact YD (by rw [oA, FC, pF]; rfl))) (cl (jC FC (pF 16) w5) ?_)
  rintro _ j0 ⟨⟨k0, rfl, d0, ho15⟩, e0⟩
  have a0 := b0.add1 e0 d0 ho15
  refine go 1 ?_
  exact ⟨_, rfl, ⟨_, rfl, by have := a0.own _ (List.mem_of_getElem? (i := 0) rfl) _ rfl; exact this.resolve_left (fun h => h), a0.get (k := 0) rfl⟩, a0.chg⟩
theorem YR (bc : Nat) (cl : List By) (hcl : cl.length = 432) (a b tw : BitVec 64) (w : World) (hc : w.heap[bc]? = some (.cells (uA E8 cl).toArray 232 (0, 0))) : Ca 92 [pT bc, .agg (uA E64 [a, b]).toArray, u64 tw] w fun v w' => v = .agg (uA E64 [(SP cl a b tw).1, (SP cl a b tw).2]).toArray ∧ Ext w w' := by
 let x1 : Value := .agg (uA E64 ([((oE a b).1) ^^^ tw, ((oE a b).2) ^^^ (0#64)])).toArray
 have H := Hp.start No w
 refine enter (n := 20) Tryz.func92 rfl rfl (dB rfl) ?_
 refine go 1 ?_
 intro b1 w2 n0 H3 o0
 refine go 1 ?_
 intro b5 w6 p0 H7 q0
 refine go 1 ?_
 refine Vc.cl (PN a b w6) ?_
 rintro _ w9 ⟨rfl, b0⟩
 have c0 := H7.ext b0
 refine go 2 ?_
 refine Vc.cl (ZK ((oE a b).1) ((oE a b).2) tw (0#64) w9) ?_
 rintro _ r0 ⟨rfl, d0⟩
 have s0 := c0.ext d0
 refine go 1 ?_
 intro u0 w0 x0 y0 z0
 refine go 1 ?_
 intro e0 a0 A0
 refine go 0 ?_
 refine uB (K := [none, none, none, none, none, none, none]) [0, 0, 0, 4, 14, 30, 63, 127] (fun w' => Ext e0 w') (fun w' w'' => Ext w' w'') BA (by kernel_rfl) (Ext.drew _) (fun _ _ h h' => h.trans h') ?_ ?_
 ·exact xB (by decide)
 refine gk 3 ?_
 refine ⟨.agg (uA E8 (VB (((oE a b).1) ^^^ tw) (((oE a b).2) ^^^ (0#64)) 16)).toArray, fun _ f0 B0 _ => Gives.call rfl (cA (vs := [x1]) vF rfl) (xQ (((oE a b).1) ^^^ tw) (((oE a b).2) ^^^ (0#64)) f0), ?_⟩
 refine ⟨.agg (uA E8 (yE cl (VB (((oE a b).1) ^^^ tw) (((oE a b).2) ^^^ (0#64)) 16))).toArray, fun _ h0 i0 _ => Gives.call rfl (cA (vs := [pT bc, .agg (uA E8 (VB (((oE a b).1) ^^^ tw) (((oE a b).2) ^^^ (0#64)) 16)).toArray]) vF rfl) (fV bc cl hcl (VB (((oE a b).1) ^^^ tw) (((oE a b).2) ^^^ (0#64)) 16) (ZC _ _ _) h0 ((a0.ext i0).keepE hc)), ?_⟩
 refine ⟨.agg (uA E64 [(vC (yE cl (VB (((oE a b).1) ^^^ tw) (((oE a b).2) ^^^ (0#64)) 16)) 16).getD 0 0#64, (vC (yE cl (VB (((oE a b).1) ^^^ tw) (((oE a b).2) ^^^ (0#64)) 16)) 16).getD 1 0#64]).toArray, fun _ j0 C0 _ => Gives.call rfl (cA (vs := [.agg (uA E8 (yE cl (VB (((oE a b).1) ^^^ tw) (((oE a b).2) ^^^ (0#64)) 16))).toArray]) vF rfl) ((dI (yE cl (VB (((oE a b).1) ^^^ tw) (((oE a b).2) ^^^ (0#64)) 16)) (by rw [lE, ZC]) j0).mono (fun _ _ h => by obtain ⟨v, h1, h2, h3⟩ := h; exact ⟨v, h1, by rw [h2, ← CO (YC _ _)], h3⟩)), ?_⟩
 refine ⟨.agg (uA E64 [(((oE a b).1) ^^^ tw) ^^^ ((vC (yE cl (VB (((oE a b).1) ^^^ tw) (((oE a b).2) ^^^ (0#64)) 16)) 16).getD 0 0#64), (((oE a b).2) ^^^ (0#64)) ^^^ ((vC (yE cl (VB (((oE a b).1) ^^^ tw) (((oE a b).2) ^^^ (0#64)) 16)) 16).getD 1 0#64)]).toArray, fun _ k0 D0 _ => Gives.call rfl (cA (vs := [x1, .agg (uA E64 [(vC (yE cl (VB (((oE a b).1) ^^^ tw) (((oE a b).2) ^^^ (0#64)) 16)) 16).getD 0 0#64, (vC (yE cl (VB (((oE a b).1) ^^^ tw) (((oE a b).2) ^^^ (0#64)) 16)) 16).getD 1 0#64]).toArray]) vF rfl) (ZK (((oE a b).1) ^^^ tw) (((oE a b).2) ^^^ (0#64)) ((vC (yE cl (VB (((oE a b).1) ^^^ tw) (((oE a b).2) ^^^ (0#64)) 16)) 16).getD 0 0#64) ((vC (yE cl (VB (((oE a b).1) ^^^ tw) (((oE a b).2) ^^^ (0#64)) 16)) 16).getD 1 0#64) k0), ?_⟩
 intro r39 E0 l0 hF
 have F0 := a0.ext l0
 refine go 1 ?_
 intro G0 m0 H0
 refine go 0 ?_
 exact ⟨_, rfl, rfl, m0.chg⟩
end Go.Proofs.YtohngnahcgbfmaaGreatDoor.Aes
namespace Go.Proofs.YtohngnahcgbfmaaGreatDoor.Gb
open Go Vc Er Circ
theorem dJ : OA Tryz.prog 83 = true := by kernel_rfl
theorem bJ : jD Tryz.prog 83 = some (2, 1) := by kernel_rfl
theorem HT : ZF Tryz.prog 83 = some 16 := by kernel_rfl
theorem BL : mA Tryz.prog 28 = true := by kernel_rfl
theorem OC : wC Tryz.prog 3 EI := OF (by kernel_rfl) (by kernel_rfl)
theorem VE : wC Tryz.prog 34 E64 := UE (by kernel_rfl) (by kernel_rfl)
theorem LK : TB Tryz.prog 104 2 = some (2, 1, 100) := by kernel_rfl
theorem AP : NA Tryz.prog 100 = true := by kernel_rfl
theorem GI : UB Tryz.prog 83 = some 2 := by kernel_rfl
theorem QH : eD Tryz.prog 100 = some (3, 1) := by kernel_rfl
theorem fT : eD Tryz.prog 89 = some (83, 2) := by kernel_rfl
theorem yI : YB Tryz.prog 83 = some (.agg (List.replicate 2 (.int .u64 0)).toArray) := by kernel_rfl
def kA (a : Lb) (s : BitVec 64) : Lb := AesSpec.SP (AesSpec.QC AesSpec.FC) a.1 a.2 s
theorem cD (a b : Lb) (w : World) : Calls Tryz.prog 28 [.agg (uA E64 [a.1, a.2]).toArray, .agg (uA E64 [b.1, b.2]).toArray].toArray w (NM fun v w' => v = .agg (uA E64 [(lx a b).1, (lx a b).2]).toArray ∧ Ext w w') := Aes.ZK a.1 a.2 b.1 b.2 w
theorem IE (bc : Nat) (a : Lb) (tw : BitVec 64) (w : World) (hc : w.heap[bc]? = some (.cells (uA E8 (AesSpec.QC AesSpec.FC)).toArray 232 (0, 0))) : Calls Tryz.prog 92 [pT bc, .agg (uA E64 [a.1, a.2]).toArray, u64 tw].toArray w (NM fun v w' => v = .agg (uA E64 [(kA a tw).1, (kA a tw).2]).toArray ∧ Ext w w') := Aes.YR bc (AesSpec.QC AesSpec.FC) (AesSpec.zL _ (AesSpec.pF 16)) a.1 a.2 tw w hc
theorem iH (a : Lb) (w : World) : Ca 90 [.agg (uA E64 [a.1, a.2]).toArray] w fun v w' => v = .bool (AC a) ∧ Ext w w' := by
 have H := Hp.start No w
 refine enter (n := 7) Tryz.func90 rfl rfl (dB rfl) ?_
 refine go 1 ?_
 intro b1 w2 a0 H3 b0
 refine go 6 ?_
 exact ⟨_, rfl, rfl, H3.chg⟩
theorem OI (c : Bool) (a : Lb) (w : World) : Ca 94 [.bool c, .agg (uA E64 [a.1, a.2]).toArray] w fun v w' => v = .agg (uA E64 [(lw c a).1, (lw c a).2]).toArray ∧ Ext w w' := by
 have H := Hp.start No w
 refine enter (n := 8) Tryz.func94 rfl rfl (dB rfl) ?_
 refine go 1 ?_
 intro b1 w2 c0 H3 d0
 refine go 1 ?_
 intro b5 w6 e0 H7 f0
 refine go 1 ?_
 refine PC c rfl (fun c5 => ?_) (fun c5 => ?_)
 ·refine go 2 ?_
  intro w9 a0 h0
  refine go 0 ?_
  rw [show lw c a = _ from if_pos c5]
  exact ⟨_, rfl, rfl, a0.chg⟩
 ·refine go 2 ?_
  intro i0 b0 j0
  refine go 0 ?_
  rw [show lw c a = _ from if_neg (by rw [c5]; exact Bool.false_ne_true)]
  exact ⟨_, rfl, rfl, b0.chg⟩
theorem tE (l : List Lb) (a0 : Option Addr) (n0 c0 : Nat) (hn0 : n0 = l.length) (hl : l.length ≤ 1000000) (w : World) (hL : Rd bB w a0 l) : Ca 93 [.slice a0 n0 c0] w fun v w' => v = .agg (uA E64 [(iC l).1, (iC l).2]).toArray ∧ Ext w w' := by
 subst hn0
 have H := Hp.start No w
 refine enter (n := 17) Tryz.func93 rfl rfl (dB rfl) ?_
 refine go 1 ?_
 intro b1 w2 i0 H3 j0
 refine go 1 ?_
 intro b5 w6 k0 H7 l0
 refine go 3 ?_
 refine AA (σ := Nat) (fun q => [(2, pT b1), (3, pT b5), (6, .slice a0 l.length c0), (7, iN l.length), (8, iN q)]) (fun q w' => q ≤ l.length ∧ Hp No w w' [(rX b5 E64 ([(iC (l.take q)).1, (iC (l.take q)).2]) 83), (rX b1 E64 ([0#64, 0#64]) 83)]) (fun q => l.length - q) (0) ?_ ?_ ?_
 ·exact kp
 ·exact ⟨Nat.zero_le _, H7⟩
 rintro q ρ w9 ⟨hq, HL⟩
 refine go 1 ?_
 refine iA (((q : Nat) : Int) < (l.length : Nat)) rfl (fun c9 => ?_) (fun c9 => ?_)
 ·refine go 3 ?_
  intro m0 o0 p0 q0 r0
  refine go 1 ?_
  intro d0 e0 s0
  refine go 2 ?_
  refine cl (cD (iC (l.take q)) (l.getD q kB) d0) ?_
  rintro _ u0 ⟨rfl, f0⟩
  have w0 := e0.ext f0
  refine go 1 ?_
  intro x0 b0 y0
  refine go 2 ?_
  rw [show lx (iC (l.take q)) (l.getD q kB) = iC (l.take (q + 1)) from (DN om).symm] at b0
  exact ⟨q + 1, _, rfl, kp, ⟨om, (b0.dropk 0)⟩, vd⟩
 ·obtain rfl : q = l.length := by omega
  refine go 2 ?_
  intro z0 h0 A0
  refine go 0 ?_
  rw [List.take_length]
  exact ⟨_, rfl, rfl, h0.chg⟩
theorem xH (n : Int) (gs : List Gt) (ol : List Int) (ga oa : Option Addr) (gc oc : Nat) (ws : List Lb) (wa : Option Addr) (n0 wc : Nat) (hn0 : n0 = ws.length) (w : World) (hOl : Rd EI w oa ol) (hWs : Rd bB w wa ws) (hol : ol.length ≤ 64) (hok : ∀ i, i < ol.length → 0 ≤ ol.getD i 0 ∧ ol.getD i 0 < (ws.length : Int)) : Ca 95 [.agg #[i64 n, .slice ga gs.length gc, .slice oa ol.length oc], .slice wa n0 wc] w fun v w' => SlRes bB 83 (oL ws ol ol.length) w v w' ∧ Ext w w' := by
 subst hn0
 have H := Hp.start No w
 refine enter (n := 24) Tryz.func95 rfl rfl (dB rfl) ?_
 refine go 1 ?_
 intro b1 w2 k0 H3 l0
 refine go 6 ?_
 have H5 := H3.nil (qA bB 83 [] [])
 refine go 0 ?_
 refine AA (σ := Nat × Option Nat × Nat × LV) (fun (q, key, c, sp) => [(1, .slice wa ws.length wc), (2, pT b1), (4, yA), (9, .slice oa ol.length oc), (10, iN ol.length), (5, sO key q c), (11, iN q)]) (fun (q, key, c, sp) w' => (q ≤ ol.length ∧ Sl bB key (oL ws ol q) c sp) ∧ Hp No w w' [(key, qA bB 83 (oL ws ol q) sp), (rC b1 #[i64 n, .slice ga gs.length gc, .slice oa ol.length oc] 104)]) (fun (q, key, c, sp) => ol.length - q) ((0, none, 0, [])) ?_ ?_ ?_
 ·exact kp
 ·exact ⟨⟨Nat.zero_le _, Sl.none⟩, H5⟩
 rintro ⟨q, key, c, sp⟩ ρ w6 ⟨⟨hq, hS⟩, HL⟩
 refine go 1 ?_
 refine iA (((q : Nat) : Int) < (ol.length : Nat)) rfl (fun c0 => ?_) (fun c0 => ?_)
 ·have hoq := hok q om
  refine go 8 ?_
  refine bS (E := bB) (l := ([ws.getD ((ol.getD q 0).toNat) kB] : List NB)) fun b8 m0 o0 p0 q0 => ?_
  refine OD ?_
  refine ⟨by rw [UF], by rfl, om, ?_⟩
  intro d0 e0 f0 r0 h0 s0 i0
  have j0 : (oL ws ol q) ++ ([ws.getD ((ol.getD q 0).toNat) kB] : List NB) = oL ws ol (q + 1) := by rw [oL]
  have a0 := h0
  have b0 := i0
  rw [j0] at a0 b0
  refine go 3 ?_
  exact ⟨(q + 1, d0, e0, f0), _, rfl, kp, ⟨⟨om, a0⟩, (b0.dropk 0)⟩, vd⟩
 ·obtain rfl : q = ol.length := by omega
  refine go 2 ?_
  exact ⟨_, rfl, HL.resN (k := 0) rfl hS (by rw [UF]), HL.chg⟩
end Go.Proofs.YtohngnahcgbfmaaGreatDoor.Gb
namespace Go.Proofs.YtohngnahcgbfmaaGreatDoor.Gb
open Go Vc Er Circ
theorem GL : OA Tryz.prog 104 = true := by kernel_rfl
theorem call90 : mA Tryz.prog 90 = true := by kernel_rfl
theorem iI : TB Tryz.prog 104 0 = some (0, 1, 3) := by kernel_rfl
theorem IK : xI Tryz.prog 31 = true := by kernel_rfl
theorem mL : NA Tryz.prog 3 = true := by kernel_rfl
theorem cL : UB Tryz.prog 104 = some 3 := by kernel_rfl
theorem KL : Tryz.prog.underlying 63 = some (.int .i64) := by kernel_rfl
theorem PI (n : Int) (gs : List Gt) (ol : List Int) (ga oa : Option Addr) (gc oc : Nat) (m : Nat) (w : World) (hG : Gl w) (hGs : Rd EG w ga gs) (hOl : Rd EI w oa ol) (hgl : gs.length ≤ 140737488355328) (hol : ol.length ≤ 140737488355328) (hg : IsC n gs ol) (hm : (m : Int) = n) : Ca 89 [.agg #[i64 n, .slice ga gs.length gc, .slice oa ol.length oc], iN m] w fun v w' => v = .nilIface ∧ Ext w w' := by
 have H := Hp.start No w
 refine enter (n := 18) Tryz.func89 rfl rfl (dB rfl) ?_
 refine go 1 ?_
 intro b1 w2 b0 H3 c0
 refine go 2 ?_
 refine cl (AL n gs ol ga oa gc oc w2 uC IC IC om om hg) ?_
 rintro _ w5 ⟨rfl, a0⟩
 have H7 := H3.ext a0
 refine go 6 ?_
 refine sq ((qD rfl rfl).as (v' := .bool false) (by exact bF (om))) ?_
 refine go 1 ?_
 exact ⟨_, rfl, rfl, H7.chg⟩
end Go.Proofs.YtohngnahcgbfmaaGreatDoor.Gb
namespace Go.Proofs.YtohngnahcgbfmaaGreatDoor.Gb
open Go Vc Er Circ
theorem call92 : mA Tryz.prog 92 = true := by kernel_rfl
theorem call93 : mA Tryz.prog 93 = true := by kernel_rfl
theorem call94 : mA Tryz.prog 94 = true := by kernel_rfl
theorem MK : TB Tryz.prog 104 1 = some (1, 1, 102) := by kernel_rfl
theorem cQ : TB Tryz.prog 154 1 = some (1, 1, 3) := by kernel_rfl
theorem bQ : TB Tryz.prog 154 2 = some (2, 1, 3) := by kernel_rfl
theorem BA : Tryz.prog.follows .mixedOrders = true := by kernel_rfl
theorem zP : NA Tryz.prog 102 = true := by kernel_rfl
theorem JO : eD Tryz.prog 102 = some (154, 3) := by kernel_rfl
theorem BO : Tryz.prog.underlying 3 = some (.int .i64) := by kernel_rfl
theorem mK : Tryz.prog.underlying 34 = some (.int .u64) := by kernel_rfl
theorem JN (n : Int) (gs : List Gt) (ol : List Int) (ga oa : Option Addr) (gc oc : Nat) (δ : Lb) (zs : List Lb) (za : Option Addr) (zc : Nat) (first : BitVec 64) (w : World) (hG : Gl w) (hGs : Rd EG w ga gs) (hOl : Rd EI w oa ol) (hgl : gs.length ≤ 140737488355328) (hol : ol.length ≤ 140737488355328) (hZ : Rd bB w za zs) (hg : IsC n gs ol) (hm : (zs.length : Int) = n) (hc : AC δ = true) : Ca 69 [.agg #[i64 n, .slice ga gs.length gc, .slice oa ol.length oc], .agg (uA E64 [(δ).1, (δ).2]).toArray, .slice za zs.length zc, u64 first] w fun v w' => ∃ (k1 : Option Nat) (c1 : Nat) (z1 : LV) (k2 : Option Nat) (c2 : Nat) (z2 : LV), v = .tuple #[sO k1 ((gS kA δ first gs zs gs.length).2).length c1, sO k2 (oL (gS kA δ first gs zs gs.length).1 ol ol.length).length c2, .nilIface] ∧ Sl bB k1 ((gS kA δ first gs zs gs.length).2) c1 z1 ∧ Sl bB k2 (oL (gS kA δ first gs zs gs.length).1 ol ol.length) c2 z2 ∧ Hp No w w' [(k1, qA bB 83 ((gS kA δ first gs zs gs.length).2) z1), (k2, qA bB 83 (oL (gS kA δ first gs zs gs.length).1 ol ol.length) z2)] := by
 subst hm
 have hgt := hg.gates
 have hot := hg.outs
 have hhi := hg.hi
 have H := Hp.start No w
 refine enter (n := 152) Tryz.func69 rfl rfl (dB rfl) ?_
 refine go 1 ?_
 intro b1 w2 s4 H3 t4
 refine go 1 ?_
 intro b5 w6 u4 H7 w4
 refine go 6 ?_
 refine cl (PI (zs.length : Nat) gs ol ga oa gc oc zs.length w6 uC IC IC om om hg om) ?_
 rintro _ w9 ⟨rfl, j2⟩
 have l2 := H7.ext j2
 refine go 4 ?_
 refine cl (iH δ w9) ?_
 rintro _ m2 ⟨rfl, n2⟩
 have o2 := l2.ext n2
 refine sq ((WL (b := AC δ) rfl).as (v' := .bool false) (by rw [hc]; rfl)) ?_
 refine go 0 ?_
 refine cl (Aes.NK m2) ?_
 rintro _ x4 ⟨⟨k0, rfl, p2, ho19⟩, q2⟩
 have r2 := o2.add1 q2 p2 ho19
 refine go 6 ?_
 refine sq ((aB rfl rfl om).as (v' := iN (zs.length + gs.length)) (by rfl)) (ID (E := bB) (m := 0) (c := (zs.length + gs.length)) (z0 := kB) r2 vF vF rfl vF rfl rfl vo vo om om fun y4 z4 A4 B4 C4 => ?_)
 refine go 1 ?_
 refine OD ?_
 refine ⟨by simp, by rfl, om, ?_⟩
 intro s2 t2 u2 D4 x2 F4 y2
 have A2 : (List.replicate 0 kB) ++ zs = zs := by rfl
 have u1 := x2
 have w1 := y2
 rw [A2] at u1 w1
 refine go 6 ?_
 refine AA (σ := Nat × Option Nat × Nat × LV × Option Nat × Nat × LV × Nat) (fun (i, k1, c1, z1, k2, c2, z2, m) => [(3, u64 first), (4, pT b1), (5, pT b5), (12, pT k0), (13, sO k1 (zs.length + i) c1), (14, sO k2 m c2), (47, .slice ga gs.length gc), (48, iN gs.length), (49, iN i)]) (fun (i, k1, c1, z1, k2, c2, z2, m) w' => (i ≤ gs.length ∧ Sl bB k1 (gS kA δ first gs zs i).1 c1 z1 ∧ Sl bB k2 (gS kA δ first gs zs i).2 c2 z2 ∧ m = (gS kA δ first gs zs i).2.length) ∧ Hp No w w' [(k1, qA bB 83 ((gS kA δ first gs zs i).1) z1), (k2, qA bB 83 ((gS kA δ first gs zs i).2) z2), (rX k0 E8 (AesSpec.QC AesSpec.FC) 232), (rC b1 #[iN zs.length, .slice ga gs.length gc, .slice oa ol.length oc] 104), (rX b5 E64 ([(δ).1, (δ).2]) 83)]) (fun (i, k1, c1, z1, k2, c2, z2, m) => gs.length - i) ((0, s2, t2, u2, none, 0, [], 0)) ?_ ?_ ?_
 ·exact ⟨rfl, rfl, rfl, rfl, congrArg (fun q => Value.slice _ q _) om, rfl, rfl, rfl, rfl, trivial⟩
 ·exact ⟨⟨Nat.zero_le _, u1, Sl.none, rfl⟩, ((w1.nil (qA bB 83 [] [])).pk 5 [1, 0, 2, 4, 3])⟩
 rintro ⟨i, k1, c1, z1, k2, c2, z2, m⟩ ρ B2 ⟨⟨hi, h1, h2, rfl⟩, HL⟩
 have hwl := cH (h := kA) (δ := δ) (first := first) (gs := gs) (zs := zs) i
 have htl := cV (h := kA) (δ := δ) (first := first) (gs := gs) (zs := zs) i
 refine go 1 ?_
 refine iA (((i : Nat) : Int) < (gs.length : Nat)) rfl (fun C2 => ?_) (fun C2 => ?_)
 ·have hgi := hg.gok i om
  unfold uD at hgi
  refine go 3 ?_
  intro A0 G4 H4 I4 J4
  refine go 1 ?_
  intro K4 L4 M4
  refine go 6 ?_
  intro B0 N4 O4 P4 Q4
  refine go 1 ?_
  intro D2 d1 R4
  obtain ⟨la, hla⟩ : ∃ x : Lb, x = (((gS kA δ first gs zs i).1).getD (gs.getD i g0).a.toNat kB) := ⟨_, rfl⟩
  rw [← hla] at d1 ⊢
  refine go 4 ?_
  refine iA (((gs.getD i g0).k : Int) = (3 : Int)) rfl (fun hk => ?_) (fun hk => ?_)
  ·refine go 3 ?_
   refine cl (cD la δ D2) ?_
   rintro _ S4 ⟨rfl, E2⟩
   have T4 := d1.ext E2
   refine bS (E := bB) (l := ([lx la δ] : List NB)) fun U4 V4 W4 X4 Y4 => ?_
   refine OD ?_
   refine ⟨by rw [cH], by rfl, om, ?_⟩
   intro F2 G2 H2 Z4 I2 c5 J2
   have K2 : ((gS kA δ first gs zs i).1) ++ ([lx la δ] : List NB) = (gS kA δ first gs zs (i + 1)).1 := by rw [gS, LE, if_pos hk, hla]
   have y1 := I2
   have A1 := J2
   rw [K2] at y1 A1
   refine go 3 ?_
   have L2 : (gS kA δ first gs zs i).2 = (gS kA δ first gs zs (i + 1)).2 := by rw [gS, LE, if_pos hk]
   have B1 := h2
   have C1 := A1
   rw [L2] at B1 C1
   exact ⟨(i + 1, F2, G2, H2, k2, c2, z2, (gS kA δ first gs zs i).2.length), _, rfl, kp, ⟨⟨om, y1, B1, by rw [gS, LE, if_pos hk]⟩, (((C1.dropk 2).dropk 1).dropk 0)⟩, vd⟩
  ·have u0 := hk
   refine go 2 ?_
   refine iA (((gs.getD i g0).k : Int) = (1 : Int)) rfl (fun e1 => ?_) (fun e1 => ?_)
   ·have hk := e1
    have M2 := (d1.pk 7 [2, 0, 1, 3, 4, 5, 6])
    let C0 : List RW := [(rX B0 E64 ([la.1, la.2]) 83), (rC A0 #[i64 ((gs.getD i g0).k), i64 ((gs.getD i g0).a), i64 ((gs.getD i g0).b)] 154), (k2, qA bB 83 ((gS kA δ first gs zs i).2) z2), (rX k0 E8 (AesSpec.QC AesSpec.FC) 232), (rC b1 #[iN zs.length, .slice ga gs.length gc, .slice oa ol.length oc] 104), (rX b5 E64 ([(δ).1, (δ).2]) 83)]
    let g1 := fun (i0 : Nat) => (((some i0), qA bB 83 ([lx la (((gS kA δ first gs zs i).1).getD ((gs.getD i g0).b.toNat) kB)] : List NB) ([])) : RW)
    let D1 := ((k1, qA bB 83 ((gS kA δ first gs zs i).1) z1) : RW)
    let i1 := fun (i0 : Nat) => (Sl bB (some i0) ([lx la (((gS kA δ first gs zs i).1).getD ((gs.getD i g0).b.toNat) kB)] : List NB) 1 ([]) : Prop)
    let N2 : mC := [nC false false fun _ _ w' => Hp No w w' (D1 :: C0), nC true false fun v8 _ w' => ∃ i0, v8 = sO (some i0) 1 1 ∧ (i1 i0) ∧ Hp No w w' ((g1 i0) :: D1 :: C0), nC true true fun v8 v9 w' => ∃ i0 D0 G0 H0, v8 = sO (some i0) 1 1 ∧ v9 = sO D0 ((zs.length + i) + 1) G0 ∧ (i1 i0) ∧ Sl bB D0 ((gS kA δ first gs zs (i + 1)).1) G0 H0 ∧ Hp No w w' ((g1 i0) :: (D0, qA bB 83 ((gS kA δ first gs zs (i + 1)).1) H0) :: C0)]
    refine MA (m := 11) [0, 0, 0, 0, 8, 28, 60, 126, 254, 511, 1023] [8, 9] C0 N2 BA (fun _ e => M2.ext e) EC (fun E1 => ?_)
    refine gk 7 ?_
    refine kE (.agg (uA E64 [(lx la (((gS kA δ first gs zs i).1).getD ((gs.getD i g0).b.toNat) kB)).1, (lx la (((gS kA δ first gs zs i).1).getD ((gs.getD i g0).b.toNat) kB)).2]).toArray) (fun _ uw hcx => Gives.call rfl (cA vF rfl) (cD la (((gS kA δ first gs zs i).1).getD ((gs.getD i g0).b.toNat) kB) uw)) (WalkT.eff E1 0 ?_ ?_)
    ·refine tA fun r w0 uw hF hE => ?_
     have d5 := hF.ext hE
     exact gW fun Q' hK => (bS (E := bB) (l := ([lx la (((gS kA δ first gs zs i).1).getD ((gs.getD i g0).b.toNat) kB)] : List NB)) fun O2 e5 P2 Q2 f5 => hK _ _ (E_ O2 (A_ rfl (A_ P2 Q2))))
    refine WalkT.eff E1 1 ?_ ?_
    ·refine tA fun r w0 uw hF hE => ?_
     obtain ⟨i0, e8, j1, F1⟩ := hF
     replace F1 := F1.ext hE
     dsimp only
     rw [e8]
     refine gW fun Q' hK => ?_
     refine OD ?_
     refine ⟨by rw [cH], by rfl, om, ?_⟩
     intro R2 S2 T2 g5 U2 h5 V2
     have X2 : ((gS kA δ first gs zs i).1) ++ ([lx la (((gS kA δ first gs zs i).1).getD ((gs.getD i g0).b.toNat) kB)] : List NB) = (gS kA δ first gs zs (i + 1)).1 := by rw [gS, LE, if_neg u0, if_pos hk, hla]
     have G1 := U2
     have H1 := V2
     rw [X2] at G1 H1
     exact hK _ _ (E_ i0 (E_ R2 (E_ S2 (E_ T2 (A_ e8 (A_ rfl (A_ j1 (A_ G1 H1))))))))
    refine bA (fun r => r 9) (fun r r' h => h 9 (by decide) rfl) (fun _ _ => zA rfl) (WalkT.nil fun r w0 i5 hF hE => ?_)
    obtain ⟨i0, D0, G0, H0, e8, e9, j1, Y2, I0⟩ := hF
    replace I0 := I0.ext hE
    dsimp only
    rw [e8, e9]
    dsimp only [i1] at j1
    dsimp only [C0, g1] at I0
    refine go 2 ?_
    have Z2 : (gS kA δ first gs zs i).2 = (gS kA δ first gs zs (i + 1)).2 := by rw [gS, LE, if_neg u0, if_pos hk]
    have I1 := h2
    have J1 := I0
    rw [Z2] at I1 J1
    exact ⟨(i + 1, D0, G0, H0, k2, c2, z2, (gS kA δ first gs zs i).2.length), _, rfl, kp, ⟨⟨om, Y2, I1, by rw [gS, LE, if_neg u0, if_pos hk]⟩, (((J1.dropk 3).dropk 2).dropk 0)⟩, vd⟩
   ·have l1 := e1
    refine go 2 ?_
    refine iA (((gs.getD i g0).k : Int) = (2 : Int)) rfl (fun c3 => ?_) (fun c3 => ?_)
    ·refine go 6 ?_
     intro J0 j5 k5 l5 m5
     refine go 1 ?_
     intro n5 K1 o5
     obtain ⟨lb, hlb⟩ : ∃ x : Lb, x = (((gS kA δ first gs zs i).1).getD (gs.getD i g0).b.toNat kB) := ⟨_, rfl⟩
     rw [← hlb] at K1 ⊢
     refine go 6 ?_
     obtain ⟨sv, hsv⟩ : ∃ x : BitVec 64, x = first + (BitVec.ofInt 64 ((gS kA δ first gs zs i).2.length : Nat)) := ⟨_, rfl⟩
     let x1 : Array Value := #[iN zs.length, .slice ga gs.length gc, .slice oa ol.length oc]
     rw [← hsv]
     refine go 0 ?_
     let n0 : List RW := [(rX J0 E64 ([lb.1, lb.2]) 83), (rX B0 E64 ([la.1, la.2]) 83), (rC A0 #[i64 ((gs.getD i g0).k), i64 ((gs.getD i g0).a), i64 ((gs.getD i g0).b)] 154), (k1, qA bB 83 ((gS kA δ first gs zs i).1) z1), (k2, qA bB 83 ((gS kA δ first gs zs i).2) z2), (rX k0 E8 (AesSpec.QC AesSpec.FC) 232), (rC b1 x1 104), (rX b5 E64 ([(δ).1, (δ).2]) 83)]
     let m1 := fun (b0 : Nat) => ((rX b0 E64 ([(kA la sv).1, (kA la sv).2]) 83) : RW)
     let L1 := fun (b0 : Nat) => ((rX b0 E64 ([0#64, 0#64]) 83) : RW)
     let M1 := fun (e0 : Nat) => ((rX e0 E64 ([0#64, 0#64]) 83) : RW)
     let d3 : mC := [RD false false false false fun _ _ _ _ w' => Hp No w w' n0, RD true false false false fun v9 _ _ _ w' => ∃ b0, v9 = pT b0 ∧ Hp No w w' ((L1 b0) :: n0), RD false true false false fun _ v10 _ _ w' => ∃ K0, v10 = pT K0 ∧ Hp No w w' ((rX K0 E64 ([0#64, 0#64]) 83) :: n0), RD true true false false fun v9 v10 _ _ w' => ∃ b0 e0, v9 = pT b0 ∧ v10 = pT e0 ∧ Hp No w w' ((M1 e0) :: (L1 b0) :: n0), RD true true true false fun v9 v10 _ _ w' => ∃ b0 e0, v9 = pT b0 ∧ v10 = pT e0 ∧ Hp No w w' ((M1 e0) :: (m1 b0) :: n0), RD true true true true fun v9 v10 _ _ w' => ∃ b0 e0, v9 = pT b0 ∧ v10 = pT e0 ∧ Hp No w w' ((rX e0 E64 ([(kA lb (sv + (1#64))).1, (kA lb (sv + (1#64))).2]) 83) :: (m1 b0) :: n0)]
     refine MA (m := 13) [0, 0, 0, 7, 0, 0, 0, 64, 255, 0, 0, 2047, 4095] [9, 10, 11, 12] n0 d3 BA (fun _ e => K1.ext e) EC (fun L0 => ?_)
     refine gk 3 ?_
     refine kE (.agg (uA E64 [(kA la sv).1, (kA la sv).2]).toArray) (fun _ uw hcx => Gives.call rfl (cA vF rfl) (IE k0 la sv uw gF)) ?_
     refine gk 4 ?_
     refine kE (.agg (uA E64 [(kA lb (sv + (1#64))).1, (kA lb (sv + (1#64))).2]).toArray) (fun _ uw hcx => Gives.call rfl (cA vF rfl) (IE k0 lb (sv + (1#64)) uw gF)) (WalkT.eff L0 0 ?_ ?_)
     ·refine tB (fun r w0 uw hF hE => ?_) fun r w0 uw hF hE => ?_
      ·have p5 := hF.ext hE
       refine gW fun Q' hK => ?_
       refine go 1 ?_
       intro e3 q5 r5 f3 s5
       exact hK _ _ (E_ e3 (A_ rfl f3))
      ·obtain ⟨K0, o0, N1⟩ := hF
       replace N1 := N1.ext hE
       refine gW fun Q' hK => ?_
       refine go 1 ?_
       intro g3 t5 u5 h3 w5
       exact hK _ _ (E_ g3 (E_ K0 (A_ rfl (A_ o0 ((h3.pk 2 [1, 0]))))))
     refine WalkT.eff L0 1 ?_ ?_
     ·refine tB (fun r w0 uw hF hE => ?_) fun r w0 uw hF hE => ?_
      ·have x5 := hF.ext hE
       refine gW fun Q' hK => ?_
       refine go 1 ?_
       intro i3 y5 z5 j3 A5
       exact hK _ _ (E_ i3 (A_ rfl j3))
      ·obtain ⟨b0, e9, O1⟩ := hF
       replace O1 := O1.ext hE
       refine gW fun Q' hK => ?_
       refine go 1 ?_
       intro k3 B5 C5 l3 D5
       exact hK _ _ (E_ b0 (E_ k3 (A_ e9 (A_ rfl l3))))
     refine WalkT.eff L0 2 ?_ ?_
     ·refine tA fun r w0 uw hF hE => ?_
      obtain ⟨b0, e0, e9, o0, P1⟩ := hF
      replace P1 := P1.ext hE
      dsimp only
      rw [e9]
      refine MC fun Q' hK => ?_
      refine go 1 ?_
      intro E5 m3 F5
      exact hK _ (fun _ => (E_ b0 (E_ e0 (A_ e9 (A_ o0 m3)))))
     refine WalkT.eff L0 3 ?_ ?_
     ·refine tA fun r w0 uw hF hE => ?_
      obtain ⟨b0, e0, e9, o0, Q1⟩ := hF
      replace Q1 := Q1.ext hE
      dsimp only
      rw [o0]
      refine MC fun Q' hK => ?_
      refine go 1 ?_
      intro G5 n3 H5
      exact hK _ (fun _ => (E_ b0 (E_ e0 (A_ e9 (A_ o0 n3)))))
     refine WalkT.nil fun r w0 I5 hF hE => ?_
     obtain ⟨b0, e0, e9, o0, M0⟩ := hF
     replace M0 := M0.ext hE
     dsimp only
     rw [e9, o0]
     dsimp only [n0, m1] at M0
     refine go 0 ?_
     let p0 : List RW := [(rX e0 E64 ([(kA lb (sv + (1#64))).1, (kA lb (sv + (1#64))).2]) 83), (rX b0 E64 ([(kA la sv).1, (kA la sv).2]) 83), (rX J0 E64 ([lb.1, lb.2]) 83), (rX B0 E64 ([la.1, la.2]) 83), (rC A0 #[i64 ((gs.getD i g0).k), i64 ((gs.getD i g0).a), i64 ((gs.getD i g0).b)] 154), (k1, qA bB 83 ((gS kA δ first gs zs i).1) z1), (k2, qA bB 83 ((gS kA δ first gs zs i).2) z2), (rX k0 E8 (AesSpec.QC AesSpec.FC) 232), (rC b1 x1 104), (rX b5 E64 ([(δ).1, (δ).2]) 83)]
     let N0 := fun (a0 : Nat) => (((some a0), qA bB 83 ([kA la sv, kA (lx la δ) sv, lw (AC lb) δ] : List NB) ([])) : RW)
     let O0 := fun (a0 : Nat) => (Sl bB (some a0) ([kA la sv, kA (lx la δ) sv, lw (AC lb) δ] : List NB) 3 ([]) : Prop)
     let o3 : mC := [RB false false false fun _ _ _ w' => Hp No w w' p0, RB true false false fun v11 _ _ w' => ∃ a0, v11 = sO (some a0) 3 3 ∧ (O0 a0) ∧ Hp No w w' ((N0 a0) :: p0), RB false true false fun _ v13 _ w' => ∃ P0, v13 = pT P0 ∧ Hp No w w' ((rX P0 E64 ([0#64, 0#64]) 83) :: p0), RB true true false fun v11 v13 _ w' => ∃ a0 l0, v11 = sO (some a0) 3 3 ∧ v13 = pT l0 ∧ (O0 a0) ∧ Hp No w w' ((rX l0 E64 ([0#64, 0#64]) 83) :: (N0 a0) :: p0), RB true true true fun v11 v13 _ w' => ∃ a0 l0, v11 = sO (some a0) 3 3 ∧ v13 = pT l0 ∧ (O0 a0) ∧ Hp No w w' ((rX l0 E64 ([(iC ([kA la sv, kA (lx la δ) sv, lw (AC lb) δ] : List NB)).1, (iC ([kA la sv, kA (lx la δ) sv, lw (AC lb) δ] : List NB)).2]) 83) :: (N0 a0) :: p0)]
     refine MA (m := 15) [0, 0, 0, 0, 12, 0, 62, 0, 254, 0, 1022, 2047, 4095, 0, 16383] [11, 13, 14] p0 o3 BA (fun _ e => M0.ext e) EC (fun n1 => ?_)
     refine gk 4 ?_
     refine kE (.agg (uA E64 [(lx la δ).1, (lx la δ).2]).toArray) (fun _ uw hcx => Gives.call rfl (cA vF rfl) (cD la δ uw)) ?_
     refine gk 1 ?_
     refine kE (.agg (uA E64 [(kA (lx la δ) sv).1, (kA (lx la δ) sv).2]).toArray) (fun _ uw hcx => Gives.call rfl (cA vF rfl) (IE k0 (lx la δ) sv uw gF)) ?_
     refine gk 1 ?_
     refine kE (.bool (AC lb)) (fun _ uw hcx => Gives.call rfl (cA vF rfl) (iH lb uw)) ?_
     refine gk 1 ?_
     refine kE (.agg (uA E64 [(lw (AC lb) δ).1, (lw (AC lb) δ).2]).toArray) (fun _ uw hcx => Gives.call rfl (cA vF rfl) (OI (AC lb) δ uw)) (WalkT.eff n1 0 ?_ ?_)
     ·refine tB (fun r w0 uw hF hE => ?_) fun r w0 uw hF hE => ?_
      ·have J5 := hF.ext hE
       exact gW fun Q' hK => (bS (E := bB) (l := ([kA la sv, kA (lx la δ) sv, lw (AC lb) δ] : List NB)) fun p3 K5 q3 r3 L5 => hK _ _ (E_ p3 (A_ rfl (A_ q3 r3))))
      ·obtain ⟨P0, h0, R1⟩ := hF
       replace R1 := R1.ext hE
       exact gW fun Q' hK => (bS (E := bB) (l := ([kA la sv, kA (lx la δ) sv, lw (AC lb) δ] : List NB)) fun s3 M5 t3 u3 N5 => hK _ _ (E_ s3 (E_ P0 (A_ rfl (A_ h0 (A_ t3 ((u3.pk 2 [1, 0]))))))))
     refine aA (fun _ => .agg (uA E64 [(iC ([kA la sv, kA (lx la δ) sv, lw (AC lb) δ] : List NB)).1, (iC ([kA la sv, kA (lx la δ) sv, lw (AC lb) δ] : List NB)).2]).toArray) (fun _ _ _ => rfl) ?_ ?_
     ·refine tB (fun r w0 uw hF hE => ?_) fun r w0 uw hF hE => ?_
      ·obtain ⟨a0, f0, q0, HH⟩ := hF
       replace HH := HH.ext hE
       dsimp only
       rw [f0]
       exact Gives.call rfl (cA vF rfl) (tE ([kA la sv, kA (lx la δ) sv, lw (AC lb) δ] : List NB) (sA (some a0)) 3 3 (by rfl) (by simp) uw IC)
      ·obtain ⟨a0, l0, f0, h0, q0, HH⟩ := hF
       replace HH := HH.ext hE
       dsimp only
       rw [f0]
       exact Gives.call rfl (cA vF rfl) (tE ([kA la sv, kA (lx la δ) sv, lw (AC lb) δ] : List NB) (sA (some a0)) 3 3 (by rfl) (by simp) uw IC)
     refine WalkT.eff n1 1 ?_ ?_
     ·refine tB (fun r w0 uw hF hE => ?_) fun r w0 uw hF hE => ?_
      ·have O5 := hF.ext hE
       refine gW fun Q' hK => ?_
       refine go 1 ?_
       intro w3 P5 Q5 x3 R5
       exact hK _ _ (E_ w3 (A_ rfl x3))
      ·obtain ⟨a0, f0, q0, S1⟩ := hF
       replace S1 := S1.ext hE
       refine gW fun Q' hK => ?_
       refine go 1 ?_
       intro y3 S5 T5 z3 U5
       exact hK _ _ (E_ a0 (E_ y3 (A_ f0 (A_ rfl (A_ q0 z3)))))
     refine WalkT.eff n1 2 ?_ ?_
     ·refine tA fun r w0 uw hF hE => ?_
      obtain ⟨a0, l0, f0, h0, q0, T1⟩ := hF
      replace T1 := T1.ext hE
      dsimp only
      rw [h0]
      refine MC fun Q' hK => ?_
      refine go 1 ?_
      intro V5 A3 W5
      exact hK _ (fun _ => (E_ a0 (E_ l0 (A_ f0 (A_ h0 (A_ q0 A3))))))
     refine WalkT.nil fun r w0 X5 hF hE => ?_
     obtain ⟨a0, l0, f0, h0, q0, E0⟩ := hF
     replace E0 := E0.ext hE
     dsimp only
     rw [f0, h0]
     dsimp only [O0] at q0
     dsimp only [p0, N0] at E0
     obtain ⟨tx, htx⟩ : ∃ x : Lb, x = eU kA δ la lb sv := ⟨_, rfl⟩
     rw [show (iC ([kA la sv, kA (lx la δ) sv, lw (AC lb) δ] : List NB) : Lb) = tx from htx.symm] at E0
     refine go 0 ?_
     let r0 : List RW := [(rX l0 E64 ([tx.1, tx.2]) 83), ((some a0), qA bB 83 ([kA la sv, kA (lx la δ) sv, lw (AC lb) δ] : List NB) ([])), (rX e0 E64 ([(kA lb (sv + (1#64))).1, (kA lb (sv + (1#64))).2]) 83), (rX b0 E64 ([(kA la sv).1, (kA la sv).2]) 83), (rX J0 E64 ([lb.1, lb.2]) 83), (rX B0 E64 ([la.1, la.2]) 83), (rC A0 #[i64 ((gs.getD i g0).k), i64 ((gs.getD i g0).a), i64 ((gs.getD i g0).b)] 154), (k1, qA bB 83 ((gS kA δ first gs zs i).1) z1), (k2, qA bB 83 ((gS kA δ first gs zs i).2) z2), (rX k0 E8 (AesSpec.QC AesSpec.FC) 232), (rC b1 x1 104), (rX b5 E64 ([(δ).1, (δ).2]) 83)]
     let Q0 := fun (c0 : Nat) => (((some c0), qA bB 83 ([kA lb (sv + (1#64)), kA (lx lb δ) (sv + (1#64)), la] : List NB) ([])) : RW)
     let R0 := fun (c0 : Nat) => (Sl bB (some c0) ([kA lb (sv + (1#64)), kA (lx lb δ) (sv + (1#64)), la] : List NB) 3 ([]) : Prop)
     let B3 : mC := [RB false false false fun _ _ _ w' => Hp No w w' r0, RB true false false fun v9 _ _ w' => ∃ c0, v9 = sO (some c0) 3 3 ∧ (R0 c0) ∧ Hp No w w' ((Q0 c0) :: r0), RB false true false fun _ v11 _ w' => ∃ S0, v11 = pT S0 ∧ Hp No w w' ((rX S0 E64 ([0#64, 0#64]) 83) :: r0), RB true true false fun v9 v11 _ w' => ∃ c0 m0, v9 = sO (some c0) 3 3 ∧ v11 = pT m0 ∧ (R0 c0) ∧ Hp No w w' ((rX m0 E64 ([0#64, 0#64]) 83) :: (Q0 c0) :: r0), RB true true true fun v9 v11 _ w' => ∃ c0 m0, v9 = sO (some c0) 3 3 ∧ v11 = pT m0 ∧ (R0 c0) ∧ Hp No w w' ((rX m0 E64 ([(iC ([kA lb (sv + (1#64)), kA (lx lb δ) (sv + (1#64)), la] : List NB)).1, (iC ([kA lb (sv + (1#64)), kA (lx lb δ) (sv + (1#64)), la] : List NB)).2]) 83) :: (Q0 c0) :: r0)]
     refine MA (m := 13) [0, 0, 0, 0, 12, 0, 32, 126, 0, 511, 1023, 0, 4095] [9, 11, 12] r0 B3 BA (fun _ e => E0.ext e) EC (fun o1 => ?_)
     refine gk 4 ?_
     refine kE (.agg (uA E64 [(lx lb δ).1, (lx lb δ).2]).toArray) (fun _ uw hcx => Gives.call rfl (cA vF rfl) (cD lb δ uw)) ?_
     refine gk 2 ?_
     refine kE (.agg (uA E64 [(kA (lx lb δ) (sv + (1#64))).1, (kA (lx lb δ) (sv + (1#64))).2]).toArray) (fun _ uw hcx => Gives.call rfl (cA vF rfl) (IE k0 (lx lb δ) (sv + (1#64)) uw gF)) ?_
     refine gk 1 ?_
     refine WalkT.eff o1 0 ?_ ?_
     ·refine tB (fun r w0 uw hF hE => ?_) fun r w0 uw hF hE => ?_
      ·have Y5 := hF.ext hE
       exact gW fun Q' hK => (bS (E := bB) (l := ([kA lb (sv + (1#64)), kA (lx lb δ) (sv + (1#64)), la] : List NB)) fun C3 Z5 D3 E3 c6 => hK _ _ (E_ C3 (A_ rfl (A_ D3 E3))))
      ·obtain ⟨S0, f0, U1⟩ := hF
       replace U1 := U1.ext hE
       exact gW fun Q' hK => (bS (E := bB) (l := ([kA lb (sv + (1#64)), kA (lx lb δ) (sv + (1#64)), la] : List NB)) fun F3 d6 G3 I3 e6 => hK _ _ (E_ F3 (E_ S0 (A_ rfl (A_ f0 (A_ G3 ((I3.pk 2 [1, 0]))))))))
     refine aA (fun _ => .agg (uA E64 [(iC ([kA lb (sv + (1#64)), kA (lx lb δ) (sv + (1#64)), la] : List NB)).1, (iC ([kA lb (sv + (1#64)), kA (lx lb δ) (sv + (1#64)), la] : List NB)).2]).toArray) (fun _ _ _ => rfl) ?_ ?_
     ·refine tB (fun r w0 uw hF hE => ?_) fun r w0 uw hF hE => ?_
      ·obtain ⟨c0, e9, s0, HH⟩ := hF
       replace HH := HH.ext hE
       dsimp only
       rw [e9]
       exact Gives.call rfl (cA vF rfl) (tE ([kA lb (sv + (1#64)), kA (lx lb δ) (sv + (1#64)), la] : List NB) (sA (some c0)) 3 3 (by rfl) (by simp) uw IC)
      ·obtain ⟨c0, m0, e9, f0, s0, HH⟩ := hF
       replace HH := HH.ext hE
       dsimp only
       rw [e9]
       exact Gives.call rfl (cA vF rfl) (tE ([kA lb (sv + (1#64)), kA (lx lb δ) (sv + (1#64)), la] : List NB) (sA (some c0)) 3 3 (by rfl) (by simp) uw IC)
     refine WalkT.eff o1 1 ?_ ?_
     ·refine tB (fun r w0 uw hF hE => ?_) fun r w0 uw hF hE => ?_
      ·have f6 := hF.ext hE
       refine gW fun Q' hK => ?_
       refine go 1 ?_
       intro J3 g6 h6 K3 i6
       exact hK _ _ (E_ J3 (A_ rfl K3))
      ·obtain ⟨c0, e9, s0, V1⟩ := hF
       replace V1 := V1.ext hE
       refine gW fun Q' hK => ?_
       refine go 1 ?_
       intro L3 j6 k6 M3 l6
       exact hK _ _ (E_ c0 (E_ L3 (A_ e9 (A_ rfl (A_ s0 M3)))))
     refine WalkT.eff o1 2 ?_ ?_
     ·refine tA fun r w0 uw hF hE => ?_
      obtain ⟨c0, m0, e9, f0, s0, W1⟩ := hF
      replace W1 := W1.ext hE
      dsimp only
      rw [f0]
      refine MC fun Q' hK => ?_
      refine go 1 ?_
      intro m6 N3 n6
      exact hK _ (fun _ => (E_ c0 (E_ m0 (A_ e9 (A_ f0 (A_ s0 N3))))))
     refine WalkT.nil fun r w0 o6 hF hE => ?_
     obtain ⟨c0, m0, e9, f0, s0, T0⟩ := hF
     replace T0 := T0.ext hE
     dsimp only
     rw [e9, f0]
     dsimp only [R0] at s0
     dsimp only [r0, Q0] at T0
     obtain ⟨ty, hty⟩ : ∃ x : Lb, x = dU kA δ la lb sv := ⟨_, rfl⟩
     rw [show (iC ([kA lb (sv + (1#64)), kA (lx lb δ) (sv + (1#64)), la] : List NB) : Lb) = ty from hty.symm] at T0
     refine go 3 ?_
     refine bS (E := bB) (l := ([tx, ty] : List NB)) fun O3 p6 q6 r6 s6 => ?_
     refine go 1 ?_
     intro X1 P3 Y1 t6 Q3 u6 R3
     have S3 : ((gS kA δ first gs zs i).2) ++ ([tx, ty] : List NB) = (gS kA δ first gs zs (i + 1)).2 := by rw [gS, LE, if_neg u0, if_neg l1, htx, hty, hsv, hla, hlb]
     have Z1 := Q3
     have d2 := R3
     rw [S3] at Z1 d2
     refine go 1 ?_
     have T3 := (d2.pk 15 [10, 0, 1, 2, 3, 4, 5, 6, 7, 8, 9, 11, 12, 13, 14])
     let x0 : List RW := [((some O3), qA bB 83 ([tx, ty] : List NB) ([])), (rX m0 E64 ([ty.1, ty.2]) 83), ((some c0), qA bB 83 ([kA lb (sv + (1#64)), kA (lx lb δ) (sv + (1#64)), la] : List NB) ([])), (rX l0 E64 ([tx.1, tx.2]) 83), ((some a0), qA bB 83 ([kA la sv, kA (lx la δ) sv, lw (AC lb) δ] : List NB) ([])), (rX e0 E64 ([(kA lb (sv + (1#64))).1, (kA lb (sv + (1#64))).2]) 83), (rX b0 E64 ([(kA la sv).1, (kA la sv).2]) 83), (rX J0 E64 ([lb.1, lb.2]) 83), (rX B0 E64 ([la.1, la.2]) 83), (rC A0 #[i64 ((gs.getD i g0).k), i64 ((gs.getD i g0).a), i64 ((gs.getD i g0).b)] 154), (X1, qA bB 83 ((gS kA δ first gs zs (i + 1)).2) Y1), (rX k0 E8 (AesSpec.QC AesSpec.FC) 232), (rC b1 x1 104), (rX b5 E64 ([(δ).1, (δ).2]) 83)]
     let U0 := fun (d0 : Nat) => (((some d0), qA bB 83 ([kA la sv, lw (AC la) tx, kA lb (sv + (1#64)), lw (AC lb) (lx ty la)] : List NB) ([])) : RW)
     let p1 := fun (j0 : Nat) => (((some j0), qA bB 83 ([iC ([kA la sv, lw (AC la) tx, kA lb (sv + (1#64)), lw (AC lb) (lx ty la)] : List NB)] : List NB) ([])) : RW)
     let q1 := ((k1, qA bB 83 ((gS kA δ first gs zs i).1) z1) : RW)
     let V0 := fun (d0 : Nat) => (Sl bB (some d0) ([kA la sv, lw (AC la) tx, kA lb (sv + (1#64)), lw (AC lb) (lx ty la)] : List NB) 4 ([]) : Prop)
     let r1 := fun (j0 : Nat) => (Sl bB (some j0) ([iC ([kA la sv, lw (AC la) tx, kA lb (sv + (1#64)), lw (AC lb) (lx ty la)] : List NB)] : List NB) 1 ([]) : Prop)
     let U3 : mC := [RB false false false fun _ _ _ w' => Hp No w w' (q1 :: x0), RB true false false fun v13 _ _ w' => ∃ d0, v13 = sO (some d0) 4 4 ∧ (V0 d0) ∧ Hp No w w' ((U0 d0) :: q1 :: x0), RB true true false fun v13 v15 _ w' => ∃ d0 j0, v13 = sO (some d0) 4 4 ∧ v15 = sO (some j0) 1 1 ∧ (r1 j0) ∧ (V0 d0) ∧ Hp No w w' ((p1 j0) :: (U0 d0) :: q1 :: x0), RB true true true fun v13 v15 v16 w' => ∃ d0 j0 F0 W0 X0, v13 = sO (some d0) 4 4 ∧ v15 = sO (some j0) 1 1 ∧ v16 = sO F0 ((zs.length + i) + 1) W0 ∧ (r1 j0) ∧ (V0 d0) ∧ Sl bB F0 ((gS kA δ first gs zs (i + 1)).1) W0 X0 ∧ Hp No w w' ((p1 j0) :: (U0 d0) :: (F0, qA bB 83 ((gS kA δ first gs zs (i + 1)).1) X0) :: x0)]
     refine MA (m := 18) [0, 0, 0, 4, 0, 28, 0, 0, 188, 0, 0, 1980, 4028, 8190, 16382, 32766, 65535, 131071] [13, 15, 16] x0 U3 BA (fun _ e => T3.ext e) EC (fun s1 => ?_)
     refine gk 3 ?_
     refine kE (.bool (AC la)) (fun _ uw hcx => Gives.call rfl (cA vF rfl) (iH la uw)) ?_
     refine gk 1 ?_
     refine kE (.agg (uA E64 [(lw (AC la) tx).1, (lw (AC la) tx).2]).toArray) (fun _ uw hcx => Gives.call rfl (cA vF rfl) (OI (AC la) tx uw)) ?_
     refine gk 2 ?_
     refine kE (.bool (AC lb)) (fun _ uw hcx => Gives.call rfl (cA vF rfl) (iH lb uw)) ?_
     refine gk 2 ?_
     refine kE (.agg (uA E64 [(lx ty la).1, (lx ty la).2]).toArray) (fun _ uw hcx => Gives.call rfl (cA vF rfl) (cD ty la uw)) (kE (.agg (uA E64 [(lw (AC lb) (lx ty la)).1, (lw (AC lb) (lx ty la)).2]).toArray) (fun _ uw hcx => Gives.call rfl (cA vF rfl) (OI (AC lb) (lx ty la) uw)) (WalkT.eff s1 0 ?_ ?_))
     ·refine tA fun r w0 uw hF hE => ?_
      have x6 := hF.ext hE
      exact gW fun Q' hK => (bS (E := bB) (l := ([kA la sv, lw (AC la) tx, kA lb (sv + (1#64)), lw (AC lb) (lx ty la)] : List NB)) fun V3 y6 W3 X3 z6 => hK _ _ (E_ V3 (A_ rfl (A_ W3 X3))))
     refine aA (fun _ => .agg (uA E64 [(iC ([kA la sv, lw (AC la) tx, kA lb (sv + (1#64)), lw (AC lb) (lx ty la)] : List NB)).1, (iC ([kA la sv, lw (AC la) tx, kA lb (sv + (1#64)), lw (AC lb) (lx ty la)] : List NB)).2]).toArray) (fun _ _ _ => rfl) ?_ ?_
     ·refine tA fun r w0 uw hF hE => ?_
      obtain ⟨d0, h0, y0, HH⟩ := hF
      replace HH := HH.ext hE
      dsimp only
      rw [h0]
      exact Gives.call rfl (cA vF rfl) (tE ([kA la sv, lw (AC la) tx, kA lb (sv + (1#64)), lw (AC lb) (lx ty la)] : List NB) (sA (some d0)) 4 4 (by rfl) (by simp) uw IC)
     refine WalkT.eff s1 1 ?_ ?_
     ·refine tA fun r w0 uw hF hE => ?_
      obtain ⟨d0, h0, y0, e2⟩ := hF
      replace e2 := e2.ext hE
      exact gW fun Q' hK => (bS (E := bB) (l := ([iC ([kA la sv, lw (AC la) tx, kA lb (sv + (1#64)), lw (AC lb) (lx ty la)] : List NB)] : List NB)) fun Y3 A6 Z3 c4 B6 => hK _ _ (E_ d0 (E_ Y3 (A_ h0 (A_ rfl (A_ Z3 (A_ y0 c4)))))))
     refine WalkT.eff s1 2 ?_ ?_
     ·refine tA fun r w0 uw hF hE => ?_
      obtain ⟨d0, j0, h0, Y0, t1, y0, f2⟩ := hF
      replace f2 := f2.ext hE
      dsimp only
      rw [Y0]
      refine gW fun Q' hK => ?_
      refine OD ?_
      refine ⟨by rw [cH], by rfl, om, ?_⟩
      intro d4 e4 f4 C6 g4 D6 h4
      have i4 : ((gS kA δ first gs zs i).1) ++ ([iC ([kA la sv, lw (AC la) tx, kA lb (sv + (1#64)), lw (AC lb) (lx ty la)] : List NB)] : List NB) = (gS kA δ first gs zs (i + 1)).1 := by rw [gS, LE, if_neg u0, if_neg l1, htx, hty, hsv, hla, hlb]; rfl
      have g2 := g4
      have i2 := h4
      rw [i4] at g2 i2
      exact hK _ _ (E_ d0 (E_ j0 (E_ d4 (E_ e4 (E_ f4 (A_ h0 (A_ Y0 (A_ rfl (A_ t1 (A_ y0 (A_ g2 i2)))))))))))
     refine bA (fun r => r 16) (fun r r' h => h 16 (by decide) rfl) (fun _ _ => zA rfl) (WalkT.nil fun r w0 E6 hF hE => ?_)
     obtain ⟨d0, j0, F0, W0, X0, h0, Y0, j4, t1, y0, k4, Z0⟩ := hF
     replace Z0 := Z0.ext hE
     dsimp only
     rw [h0, Y0, j4]
     dsimp only [r1] at t1
     dsimp only [V0] at y0
     dsimp only [x0, p1, U0] at Z0
     refine go 2 ?_
     exact ⟨(i + 1, F0, W0, X0, X1, P3, Y1, (gS kA δ first gs zs i).2.length + 2), _, rfl, kp, ⟨⟨om, k4, Z1, by rw [gS, LE, if_neg u0, if_neg l1, List.length_append]; rfl⟩, ((((((((((((Z0.dropk 12).dropk 11).dropk 10).dropk 9).dropk 8).dropk 7).dropk 6).dropk 5).dropk 4).dropk 3).dropk 1).dropk 0)⟩, vd⟩
    ·exfalso
     omega
 ·have hie : i = gs.length := by omega
  rw [hie] at HL h1 h2
  rw [hie]
  refine go 3 ?_
  refine cl (xH ((zs.length : Nat) : Int)  gs ol ga oa gc oc ((gS kA δ first gs zs gs.length).1) (sA k1) (zs.length + gs.length) c1 (by rw [cH]) B2 IC IC om (fun j hj => by rw [cH]; have := hg.ook j hj; omega)) ?_
  rintro _ F6 ⟨⟨l4, m4, n4, rfl, o4, p4⟩, q4⟩
  rw [show (oL (gS kA δ first gs zs gs.length).1 ol ol.length).length = ol.length from UF _ _ _]
  have r4 := HL.add q4 p4
  refine go 3 ?_
  exact ⟨_, rfl, k2, c2, z2, l4, m4, n4, rfl, h2, o4, (r4.pk 6 [2, 0])⟩
end Go.Proofs.YtohngnahcgbfmaaGreatDoor.Gb
namespace Go.Proofs.YtohngnahcgbfmaaGreatDoor.Gb
open Go Vc Er Circ
theorem nS (n : Int) (gs : List Gt) (ol : List Int) (ga oa : Option Addr) (gc oc : Nat) (ls tb : List Lb) (lsa tsa : Option Addr) (lsc tsc : Nat) (first : BitVec 64) (w : World) (hG : Gl w) (hGs : Rd EG w ga gs) (hOl : Rd EI w oa ol) (hgl : gs.length ≤ 140737488355328) (hol : ol.length ≤ 140737488355328) (hLs : Rd bB w lsa ls) (hTb : Rd bB w tsa tb) (hg : IsC n gs ol) (hm : (ls.length : Int) = n) (hc : tb.length = 2 * FB gs gs.length) : Ca 74 [.agg #[i64 n, .slice ga gs.length gc, .slice oa ol.length oc], .slice lsa ls.length lsc, .slice tsa tb.length tsc, u64 first] w fun v w' => ∃ (k1 : Option Nat) (c1 : Nat) (z1 : LV), v = .tuple #[sO k1 ol.length c1, .nilIface] ∧ Sl bB k1 (oL (eS kA first gs tb ls gs.length).1 ol ol.length) c1 z1 ∧ Hp No w w' [(k1, qA bB 83 (oL (eS kA first gs tb ls gs.length).1 ol ol.length) z1)] := by
 let x1 : Value := .slice oa ol.length oc
 subst hm
 have hgt := hg.gates
 have hot := hg.outs
 have hhi := hg.hi
 have han := DG gs gs.length
 have H := Hp.start No w
 refine enter (n := 122) Tryz.func74 rfl rfl (dB rfl) ?_
 refine go 1 ?_
 intro b1 w2 p2 H3 q2
 refine go 5 ?_
 refine cl (PI (ls.length : Nat) gs ol ga oa gc oc ls.length w2 uC IC IC om om hg om) ?_
 rintro _ w5 ⟨rfl, W0⟩
 have H7 := H3.ext W0
 refine go 6 ?_
 refine cl (IM (ls.length : Nat) gs ol ga oa gc oc w5 IC om) ?_
 rintro _ w8 ⟨rfl, X0⟩
 have Y0 := H7.ext X0
 refine sq ((KB rfl rfl om).as (v' := iN (2 * FB gs gs.length)) (by rfl)) (sq ((qD rfl rfl).as (v' := .bool false) (by exact bF (om))) ?_)
 refine go 0 ?_
 refine cl (Aes.NK w8) ?_
 rintro _ r2 ⟨⟨f0, rfl, Z0, ho15⟩, d1⟩
 have e1 := Y0.add1 d1 Z0 ho15
 refine go 6 ?_
 refine sq ((aB rfl rfl om).as (v' := iN (ls.length + gs.length)) (by rfl)) (ID (E := bB) (m := 0) (c := (ls.length + gs.length)) (z0 := kB) e1 vF vF rfl vF rfl rfl vo vo om om fun s2 t2 u2 x2 y2 => ?_)
 refine go 1 ?_
 refine OD ?_
 refine ⟨by simp, by rfl, om, ?_⟩
 intro g1 i1 j1 z2 l1 A2 m1
 have n1 : (List.replicate 0 kB) ++ ls = ls := by rfl
 have B0 := l1
 have C0 := m1
 rw [n1] at B0 C0
 refine go 6 ?_
 refine AA (σ := Nat × Option Nat × Nat × LV × Nat) (fun (i, k1, c1, z1, m) => [(2, .slice tsa tb.length tsc), (3, u64 first), (4, pT b1), (11, pT f0), (12, sO k1 (ls.length + i) c1), (13, iN m), (49, .slice ga gs.length gc), (50, iN gs.length), (51, iN i)]) (fun (i, k1, c1, z1, m) w' => (i ≤ gs.length ∧ Sl bB k1 (eS kA first gs tb ls i).1 c1 z1 ∧ m = (eS kA first gs tb ls i).2) ∧ Hp No w w' [(k1, qA bB 83 ((eS kA first gs tb ls i).1) z1), (rC b1 #[iN ls.length, .slice ga gs.length gc, x1] 104), (rX f0 E8 (AesSpec.QC AesSpec.FC) 232)]) (fun (i, k1, c1, z1, m) => gs.length - i) ((0, g1, i1, j1, 0)) ?_ ?_ ?_
 ·exact ⟨rfl, rfl, rfl, rfl, congrArg (fun q => Value.slice _ q _) om, rfl, rfl, rfl, rfl, trivial⟩
 ·exact ⟨⟨Nat.zero_le _, B0, rfl⟩, (C0.pk 3 [0, 2, 1])⟩
 rintro ⟨i, k1, c1, z1, m⟩ ρ o1 ⟨⟨hi, h1, rfl⟩, HL⟩
 have hwl := gH (h := kA) (first := first) (gs := gs) (tb := tb) (ls := ls) i
 have hnx := qS (h := kA) (first := first) (gs := gs) (tb := tb) (ls := ls) i
 refine go 1 ?_
 refine iA (((i : Nat) : Int) < (gs.length : Nat)) rfl (fun p1 => ?_) (fun p1 => ?_)
 ·have hgi := hg.gok i om
  unfold uD at hgi
  refine go 3 ?_
  intro q0 B2 C2 D2 E2
  refine go 1 ?_
  intro F2 G2 H2
  refine go 6 ?_
  intro h0 I2 J2 K2 L2
  refine go 1 ?_
  intro M2 D0 N2
  obtain ⟨la, hla⟩ : ∃ x : Lb, x = (((eS kA first gs tb ls i).1).getD (gs.getD i g0).a.toNat kB) := ⟨_, rfl⟩
  rw [← hla] at D0 ⊢
  refine go 4 ?_
  refine iA (((gs.getD i g0).k : Int) = (1 : Int)) rfl (fun r0 => ?_) (fun r0 => ?_)
  ·have hk := r0
   let k0 : List RW := [(rC q0 #[i64 ((gs.getD i g0).k), i64 ((gs.getD i g0).a), i64 ((gs.getD i g0).b)] 154), (k1, qA bB 83 ((eS kA first gs tb ls i).1) z1), (rC b1 #[iN ls.length, .slice ga gs.length gc, x1] 104), (rX f0 E8 (AesSpec.QC AesSpec.FC) 232)]
   let q1 : mC := [XF false fun _ w' => Hp No w w' ((rX h0 E64 ([la.1, la.2]) 83) :: k0), XF true fun _ w' => Hp No w w' ((rX h0 E64 ([(lx la (((eS kA first gs tb ls i).1).getD ((gs.getD i g0).b.toNat) kB)).1, (lx la (((eS kA first gs tb ls i).1).getD ((gs.getD i g0).b.toNat) kB)).2]) 83) :: k0)]
   refine MA (m := 8) [0, 0, 0, 4, 14, 30, 63, 127] [7] k0 q1 BA (fun _ e => D0.ext e) EC (fun r1 => ?_)
   refine gk 6 ?_
   refine kE (.agg (uA E64 [(lx la (((eS kA first gs tb ls i).1).getD ((gs.getD i g0).b.toNat) kB)).1, (lx la (((eS kA first gs tb ls i).1).getD ((gs.getD i g0).b.toNat) kB)).2]).toArray) (fun _ uw hcx => Gives.call rfl (cA vF rfl) (cD la (((eS kA first gs tb ls i).1).getD ((gs.getD i g0).b.toNat) kB) uw)) (WalkT.eff r1 0 ?_ ?_)
   ·refine tA fun r w0 uw hF hE => ?_
    have O2 := hF.ext hE
    refine MC fun Q' hK => ?_
    refine go 1 ?_
    intro P2 s1 Q2
    exact hK _ (fun _ => s1)
   refine WalkT.nil fun r w0 R2 hF hE => ?_
   have t1 := hF.ext hE
   dsimp only
   dsimp only [k0] at t1
   refine go 2 ?_
   refine bS (E := bB) (l := ([lx la (((eS kA first gs tb ls i).1).getD ((gs.getD i g0).b.toNat) kB)] : List NB)) fun S2 T2 U2 V2 X2 => ?_
   refine OD ?_
   refine ⟨by rw [gH], by rfl, om, ?_⟩
   intro u1 w1 y1 Y2 A1 Z2 B1
   have C1 : ((eS kA first gs tb ls i).1) ++ ([lx la (((eS kA first gs tb ls i).1).getD ((gs.getD i g0).b.toNat) kB)] : List NB) = (eS kA first gs tb ls (i + 1)).1 := by rw [eS, yG, if_pos hk, hla]
   have E0 := A1
   have F0 := B1
   rw [C1] at E0 F0
   refine go 3 ?_
   exact ⟨(i + 1, u1, w1, y1, (eS kA first gs tb ls i).2), _, rfl, kp, ⟨⟨om, E0, by rw [eS, yG, if_pos hk]⟩, (((F0.dropk 2).dropk 1).dropk 0)⟩, vd⟩
  ·have l0 := r0
   refine go 2 ?_
   refine iA (((gs.getD i g0).k : Int) = (2 : Int)) rfl (fun s0 => ?_) (fun s0 => ?_)
   ·have hk := s0
    have han := DL gs i om hk
    refine go 6 ?_
    intro G0 c3 d3 e3 f3
    refine go 1 ?_
    intro g3 H0 h3
    obtain ⟨lb, hlb⟩ : ∃ x : Lb, x = (((eS kA first gs tb ls i).1).getD (gs.getD i g0).b.toNat kB) := ⟨_, rfl⟩
    rw [← hlb] at H0 ⊢
    refine go 5 ?_
    obtain ⟨sv, hsv⟩ : ∃ x : BitVec 64, x = first + (BitVec.ofInt 64 ((eS kA first gs tb ls i).2 : Nat)) := ⟨_, rfl⟩
    rw [← hsv]
    refine go 0 ?_
    let d0 : List RW := [(rX G0 E64 ([lb.1, lb.2]) 83), (rX h0 E64 ([la.1, la.2]) 83), (rC q0 #[i64 ((gs.getD i g0).k), i64 ((gs.getD i g0).a), i64 ((gs.getD i g0).b)] 154), (k1, qA bB 83 ((eS kA first gs tb ls i).1) z1), (rC b1 #[iN ls.length, .slice ga gs.length gc, x1] 104), (rX f0 E8 (AesSpec.QC AesSpec.FC) 232)]
    let u0 := fun (a0 : Nat) => ((rX a0 E64 ([(tb.getD ((eS kA first gs tb ls i).2) kB).1, (tb.getD ((eS kA first gs tb ls i).2) kB).2]) 83) : RW)
    let I0 := fun (a0 : Nat) => ((rX a0 E64 ([0#64, 0#64]) 83) : RW)
    let J0 := fun (b0 : Nat) => ((rX b0 E64 ([0#64, 0#64]) 83) : RW)
    let D1 : mC := [RD false false false false fun _ _ _ _ w' => Hp No w w' d0, RD true false false false fun v9 _ _ _ w' => ∃ a0, v9 = pT a0 ∧ Hp No w w' ((I0 a0) :: d0), RD false true false false fun _ v10 _ _ w' => ∃ m0, v10 = pT m0 ∧ Hp No w w' ((rX m0 E64 ([0#64, 0#64]) 83) :: d0), RD true true false false fun v9 v10 _ _ w' => ∃ a0 b0, v9 = pT a0 ∧ v10 = pT b0 ∧ Hp No w w' ((J0 b0) :: (I0 a0) :: d0), RD true true true false fun v9 v10 _ _ w' => ∃ a0 b0, v9 = pT a0 ∧ v10 = pT b0 ∧ Hp No w w' ((J0 b0) :: (u0 a0) :: d0), RD true true true true fun v9 v10 _ _ w' => ∃ a0 b0, v9 = pT a0 ∧ v10 = pT b0 ∧ Hp No w w' ((rX b0 E64 ([(tb.getD ((eS kA first gs tb ls i).2 + 1) kB).1, (tb.getD ((eS kA first gs tb ls i).2 + 1) kB).2]) 83) :: (u0 a0) :: d0)]
    refine MA (m := 13) [0, 0, 3, 7, 0, 0, 32, 112, 240, 0, 0, 1551, 4095] [9, 10, 11, 12] d0 D1 BA (fun _ e => H0.ext e) EC (fun n0 => ?_)
    refine gk 6 ?_
    refine ZB (iN ((eS kA first gs tb ls i).2 + 1)) (fun _ uw hcx => (aB rfl rfl om).as (v' := iN ((eS kA first gs tb ls i).2 + 1)) (by rfl)) ?_
    refine gk 2 ?_
    refine WalkT.eff n0 0 ?_ ?_
    ·refine tB (fun r w0 uw hF hE => ?_) fun r w0 uw hF hE => ?_
     ·have i3 := hF.ext hE
      refine gW fun Q' hK => ?_
      refine go 1 ?_
      intro E1 j3 k3 F1 l3
      exact hK _ _ (E_ E1 (A_ rfl F1))
     ·obtain ⟨m0, e0, K0⟩ := hF
      replace K0 := K0.ext hE
      refine gW fun Q' hK => ?_
      refine go 1 ?_
      intro G1 m3 n3 H1 o3
      exact hK _ _ (E_ G1 (E_ m0 (A_ rfl (A_ e0 ((H1.pk 2 [1, 0]))))))
    refine WalkT.eff n0 1 ?_ ?_
    ·refine tB (fun r w0 uw hF hE => ?_) fun r w0 uw hF hE => ?_
     ·have p3 := hF.ext hE
      refine gW fun Q' hK => ?_
      refine go 1 ?_
      intro I1 q3 r3 J1 s3
      exact hK _ _ (E_ I1 (A_ rfl J1))
     ·obtain ⟨a0, e9, L0⟩ := hF
      replace L0 := L0.ext hE
      refine gW fun Q' hK => ?_
      refine go 1 ?_
      intro K1 t3 u3 L1 w3
      exact hK _ _ (E_ a0 (E_ K1 (A_ e9 (A_ rfl L1))))
    refine WalkT.eff n0 2 ?_ ?_
    ·refine tA fun r w0 uw hF hE => ?_
     obtain ⟨a0, b0, e9, e0, M0⟩ := hF
     replace M0 := M0.ext hE
     dsimp only
     rw [e9]
     refine MC fun Q' hK => ?_
     refine go 1 ?_
     intro x3 M1 y3
     exact hK _ (fun _ => (E_ a0 (E_ b0 (A_ e9 (A_ e0 M1)))))
    refine WalkT.eff n0 3 ?_ ?_
    ·refine tA fun r w0 uw hF hE => ?_
     obtain ⟨a0, b0, e9, e0, N0⟩ := hF
     replace N0 := N0.ext hE
     dsimp only
     rw [e0]
     refine MC fun Q' hK => ?_
     refine go 1 ?_
     intro z3 N1 A3
     exact hK _ (fun _ => (E_ a0 (E_ b0 (A_ e9 (A_ e0 N1)))))
    refine WalkT.nil fun r w0 B3 hF hE => ?_
    obtain ⟨a0, b0, e9, e0, o0⟩ := hF
    replace o0 := o0.ext hE
    dsimp only
    rw [e9, e0]
    dsimp only [d0, u0] at o0
    refine go 1 ?_
    refine sq ((aB rfl rfl om).as (v' := iN ((eS kA first gs tb ls i).2 + 2)) (by rfl)) ?_
    refine go 1 ?_
    have O1 := (o0.pk 8 [3, 0, 1, 2, 4, 5, 6, 7])
    let i0 : List RW := [(rX b0 E64 ([(tb.getD ((eS kA first gs tb ls i).2 + 1) kB).1, (tb.getD ((eS kA first gs tb ls i).2 + 1) kB).2]) 83), (rX a0 E64 ([(tb.getD ((eS kA first gs tb ls i).2) kB).1, (tb.getD ((eS kA first gs tb ls i).2) kB).2]) 83), (rX G0 E64 ([lb.1, lb.2]) 83), (rC q0 #[i64 ((gs.getD i g0).k), i64 ((gs.getD i g0).a), i64 ((gs.getD i g0).b)] 154), (k1, qA bB 83 ((eS kA first gs tb ls i).1) z1), (rC b1 #[iN ls.length, .slice ga gs.length gc, x1] 104), (rX f0 E8 (AesSpec.QC AesSpec.FC) 232)]
    let x0 := fun (c0 : Nat) => (((some c0), qA bB 83 ([kA la sv, lw (AC la) (tb.getD ((eS kA first gs tb ls i).2) kB), kA lb (sv + (1#64)), lw (AC lb) (lx (tb.getD ((eS kA first gs tb ls i).2 + 1) kB) la)] : List NB) ([])) : RW)
    let O0 := ((rX h0 E64 ([la.1, la.2]) 83) : RW)
    let y0 := fun (c0 : Nat) => (Sl bB (some c0) ([kA la sv, lw (AC la) (tb.getD ((eS kA first gs tb ls i).2) kB), kA lb (sv + (1#64)), lw (AC lb) (lx (tb.getD ((eS kA first gs tb ls i).2 + 1) kB) la)] : List NB) 4 ([]) : Prop)
    let P1 : mC := [nC false false fun _ _ w' => Hp No w w' (O0 :: i0), nC true false fun v19 _ w' => ∃ c0, v19 = sO (some c0) 4 4 ∧ (y0 c0) ∧ Hp No w w' ((x0 c0) :: O0 :: i0), nC true true fun v19 _ w' => ∃ c0, v19 = sO (some c0) 4 4 ∧ (y0 c0) ∧ Hp No w w' ((x0 c0) :: (rX h0 E64 ([(iC ([kA la sv, lw (AC la) (tb.getD ((eS kA first gs tb ls i).2) kB), kA lb (sv + (1#64)), lw (AC lb) (lx (tb.getD ((eS kA first gs tb ls i).2 + 1) kB) la)] : List NB)).1, (iC ([kA la sv, lw (AC la) (tb.getD ((eS kA first gs tb ls i).2) kB), kA lb (sv + (1#64)), lw (AC lb) (lx (tb.getD ((eS kA first gs tb ls i).2 + 1) kB) la)] : List NB)).2]) 83) :: i0)]
    refine MA (m := 22) [0, 0, 0, 7, 0, 31, 0, 127, 0, 0, 0, 1024, 4095, 0, 16383, 0, 0, 131071, 262143, 524287, 1048575, 2097151] [19, 21] i0 P1 BA (fun _ e => O1.ext e) EC (fun P0 => ?_)
    refine gk 3 ?_
    refine kE (.agg (uA E64 [(kA la sv).1, (kA la sv).2]).toArray) (fun _ uw hcx => Gives.call rfl (cA vF rfl) (IE f0 la sv uw gF)) ?_
    refine gk 1 ?_
    refine kE (.bool (AC la)) (fun _ uw hcx => Gives.call rfl (cA vF rfl) (iH la uw)) ?_
    refine gk 1 ?_
    refine kE (.agg (uA E64 [(lw (AC la) (tb.getD ((eS kA first gs tb ls i).2) kB)).1, (lw (AC la) (tb.getD ((eS kA first gs tb ls i).2) kB)).2]).toArray) (fun _ uw hcx => Gives.call rfl (cA vF rfl) (OI (AC la) (tb.getD ((eS kA first gs tb ls i).2) kB) uw)) ?_
    refine gk 4 ?_
    refine kE (.agg (uA E64 [(kA lb (sv + (1#64))).1, (kA lb (sv + (1#64))).2]).toArray) (fun _ uw hcx => Gives.call rfl (cA vF rfl) (IE f0 lb (sv + (1#64)) uw gF)) ?_
    refine gk 1 ?_
    refine kE (.bool (AC lb)) (fun _ uw hcx => Gives.call rfl (cA vF rfl) (iH lb uw)) ?_
    refine gk 2 ?_
    refine kE (.agg (uA E64 [(lx (tb.getD ((eS kA first gs tb ls i).2 + 1) kB) la).1, (lx (tb.getD ((eS kA first gs tb ls i).2 + 1) kB) la).2]).toArray) (fun _ uw hcx => Gives.call rfl (cA vF rfl) (cD (tb.getD ((eS kA first gs tb ls i).2 + 1) kB) la uw)) (kE (.agg (uA E64 [(lw (AC lb) (lx (tb.getD ((eS kA first gs tb ls i).2 + 1) kB) la)).1, (lw (AC lb) (lx (tb.getD ((eS kA first gs tb ls i).2 + 1) kB) la)).2]).toArray) (fun _ uw hcx => Gives.call rfl (cA vF rfl) (OI (AC lb) (lx (tb.getD ((eS kA first gs tb ls i).2 + 1) kB) la) uw)) (WalkT.eff P0 0 ?_ ?_))
    ·refine tA fun r w0 uw hF hE => ?_
     have C3 := hF.ext hE
     exact gW fun Q' hK => (bS (E := bB) (l := ([kA la sv, lw (AC la) (tb.getD ((eS kA first gs tb ls i).2) kB), kA lb (sv + (1#64)), lw (AC lb) (lx (tb.getD ((eS kA first gs tb ls i).2 + 1) kB) la)] : List NB)) fun Q1 D3 R1 S1 E3 => hK _ _ (E_ Q1 (A_ rfl (A_ R1 S1))))
    refine aA (fun _ => .agg (uA E64 [(iC ([kA la sv, lw (AC la) (tb.getD ((eS kA first gs tb ls i).2) kB), kA lb (sv + (1#64)), lw (AC lb) (lx (tb.getD ((eS kA first gs tb ls i).2 + 1) kB) la)] : List NB)).1, (iC ([kA la sv, lw (AC la) (tb.getD ((eS kA first gs tb ls i).2) kB), kA lb (sv + (1#64)), lw (AC lb) (lx (tb.getD ((eS kA first gs tb ls i).2 + 1) kB) la)] : List NB)).2]).toArray) (fun _ _ _ => rfl) ?_ ?_
    ·refine tA fun r w0 uw hF hE => ?_
     obtain ⟨c0, j0, p0, HH⟩ := hF
     replace HH := HH.ext hE
     dsimp only
     rw [j0]
     exact Gives.call rfl (cA vF rfl) (tE ([kA la sv, lw (AC la) (tb.getD ((eS kA first gs tb ls i).2) kB), kA lb (sv + (1#64)), lw (AC lb) (lx (tb.getD ((eS kA first gs tb ls i).2 + 1) kB) la)] : List NB) (sA (some c0)) 4 4 (by rfl) (by simp) uw IC)
    refine WalkT.eff P0 1 ?_ ?_
    ·refine tA fun r w0 uw hF hE => ?_
     obtain ⟨c0, j0, p0, Q0⟩ := hF
     replace Q0 := Q0.ext hE
     refine MC fun Q' hK => ?_
     refine go 1 ?_
     intro F3 T1 G3
     exact hK _ (fun _ => (E_ c0 (A_ j0 (A_ p0 T1))))
    refine WalkT.nil fun r w0 I3 hF hE => ?_
    obtain ⟨c0, j0, p0, A0⟩ := hF
    replace A0 := A0.ext hE
    dsimp only
    rw [j0]
    dsimp only [y0] at p0
    dsimp only [i0, x0] at A0
    refine go 2 ?_
    refine bS (E := bB) (l := ([iC ([kA la sv, lw (AC la) (tb.getD ((eS kA first gs tb ls i).2) kB), kA lb (sv + (1#64)), lw (AC lb) (lx (tb.getD ((eS kA first gs tb ls i).2 + 1) kB) la)] : List NB)] : List NB)) fun J3 K3 L3 M3 N3 => ?_
    refine OD ?_
    refine ⟨by rw [gH], by rfl, om, ?_⟩
    intro U1 V1 W1 O3 X1 P3 Y1
    have Z1 : ((eS kA first gs tb ls i).1) ++ ([iC ([kA la sv, lw (AC la) (tb.getD ((eS kA first gs tb ls i).2) kB), kA lb (sv + (1#64)), lw (AC lb) (lx (tb.getD ((eS kA first gs tb ls i).2 + 1) kB) la)] : List NB)] : List NB) = (eS kA first gs tb ls (i + 1)).1 := by rw [eS, yG, if_neg l0, if_pos hk, hsv, hla, hlb]; try rfl
    have R0 := X1
    have S0 := Y1
    rw [Z1] at R0 S0
    refine go 3 ?_
    exact ⟨(i + 1, U1, V1, W1, (eS kA first gs tb ls i).2 + 2), _, rfl, kp, ⟨⟨om, R0, by rw [eS, yG, if_neg l0, if_pos hk]⟩, (((((((S0.dropk 6).dropk 5).dropk 4).dropk 3).dropk 2).dropk 1).dropk 0)⟩, vd⟩
   ·have T0 := s0
    refine go 2 ?_
    refine bS (E := bB) (l := ([la] : List NB)) fun Q3 R3 S3 T3 U3 => ?_
    refine OD ?_
    refine ⟨by rw [gH], by rfl, om, ?_⟩
    intro c2 d2 e2 V3 f2 W3 g2
    have h2 : ((eS kA first gs tb ls i).1) ++ ([la] : List NB) = (eS kA first gs tb ls (i + 1)).1 := by rw [eS, yG, if_neg l0, if_neg T0, hla]
    have U0 := f2
    have V0 := g2
    rw [h2] at U0 V0
    refine go 3 ?_
    exact ⟨(i + 1, c2, d2, e2, (eS kA first gs tb ls i).2), _, rfl, kp, ⟨⟨om, U0, by rw [eS, yG, if_neg l0, if_neg T0]⟩, (((V0.dropk 2).dropk 1).dropk 0)⟩, vd⟩
 ·have hie : i = gs.length := by omega
  rw [hie] at HL h1
  rw [hie]
  refine go 2 ?_
  refine cl (xH ((ls.length : Nat) : Int) gs ol ga oa gc oc ((eS kA first gs tb ls gs.length).1) (sA k1) (ls.length + gs.length) c1 (by rw [gH]) o1 IC IC om (fun j hj => by rw [gH]; have := hg.ook j hj; omega)) ?_
  rintro _ X3 ⟨⟨i2, j2, k2, rfl, l2, m2⟩, n2⟩
  rw [show (oL (eS kA first gs tb ls gs.length).1 ol ol.length).length = ol.length from UF _ _ _]
  have o2 := HL.add n2 m2
  refine go 2 ?_
  exact ⟨_, rfl, i2, j2, k2, rfl, l2, (((o2.dropk 3).dropk 2).dropk 1)⟩
end Go.Proofs.YtohngnahcgbfmaaGreatDoor.Gb
namespace Go.Proofs.YtohngnahcgbfmaaGreatDoor.Gb
open Go Vc Er Circ
theorem dM : NA Tryz.prog 34 = true := by kernel_rfl
theorem dI (z δ : Lb) (b : Bool) (w : World) : Ca 70 [.agg (uA E64 [z.1, z.2]).toArray, .agg (uA E64 [(δ).1, (δ).2]).toArray, .bool b] w fun v w' => v = .agg (uA E64 [(lx z (lw b δ)).1, (lx z (lw b δ)).2]).toArray ∧ Ext w w' := by
 have H := Hp.start No w
 refine enter (n := 12) Tryz.func70 rfl rfl (dB rfl) ?_
 refine go 1 ?_
 intro d0 k0 l0 m0 n0
 refine go 1 ?_
 intro e0 o0 p0 q0 r0
 refine go 1 ?_
 intro b0 s0 u0 f0 x0
 refine go 0 ?_
 let a0 : List RW := [(rX e0 E64 ([(δ).1, (δ).2]) 83), (rX d0 E64 ([z.1, z.2]) 83)]
 let h0 : mC := [XF false fun _ w' => Hp No w w' ((rX b0 E64 ([0#64, 0#64]) 83) :: a0), XF true fun _ w' => Hp No w w' ((rX b0 E64 ([(lx z (lw b δ)).1, (lx z (lw b δ)).2]) 83) :: a0)]
 refine MA (m := 6) [0, 0, 0, 6, 15, 31] [5] a0 h0 BA (fun _ e => f0.ext e) EC (fun i0 => ?_)
 refine gk 3 ?_
 refine kE (.agg (uA E64 [(lw b δ).1, (lw b δ).2]).toArray) (fun _ uw hcx => Gives.call rfl (cA vF rfl) (OI b δ uw)) (kE (.agg (uA E64 [(lx z (lw b δ)).1, (lx z (lw b δ)).2]).toArray) (fun _ uw hcx => Gives.call rfl (cA vF rfl) (cD z (lw b δ) uw)) (WalkT.eff i0 0 ?_ ?_))
 ·refine tA fun r w0 uw hF hE => ?_
  have y0 := hF.ext hE
  refine MC fun Q' hK => ?_
  refine go 1 ?_
  intro z0 j0 A0
  exact hK _ (fun _ => j0)
 refine WalkT.nil fun r w0 B0 hF hE => ?_
 have c0 := hF.ext hE
 dsimp only
 dsimp only [a0] at c0
 refine go 0 ?_
 exact ⟨_, rfl, rfl, c0.chg⟩
theorem oI (l : List Lb) (a0 : Option Addr) (n0 c0 : Nat) (hn0 : n0 = l.length) (hl : l.length ≤ 140737488355328) (w : World) (hL : Rd bB w a0 l) : Ca 75 [.slice a0 n0 c0] w fun v w' => v = u64 (jH l (min l.length 64)) ∧ Ext w w' := by
 subst hn0
 have H := Hp.start No w
 refine enter (n := 23) Tryz.func75 rfl rfl (dB rfl) ?_
 refine go 4 ?_
 refine sq ((hP (a := (l.length : Nat)) (b := (64 : Int)) rfl rfl).as (v' := iN (min l.length 64)) (by exact congrArg i64 om)) ?_
 refine go 1 ?_
 refine AA (σ := Nat) (fun q => [(0, .slice a0 l.length c0), (3, u64 (jH l q)), (7, iN (min l.length 64)), (8, iN q)]) (fun q w' => q ≤ min l.length 64 ∧ Hp No w w' []) (fun q => min l.length 64 - q) (0) ?_ ?_ ?_
 ·exact kp
 ·exact ⟨Nat.zero_le _, H⟩
 rintro q ρ w1 ⟨hq, HL⟩
 refine go 1 ?_
 refine iA (((q : Nat) : Int) < ((min l.length 64) : Nat)) rfl (fun c9 => ?_) (fun c9 => ?_)
 ·refine go 6 ?_
  refine sq (jN (E := bB) (l := l) (j := 0) vF (hL.ext HL.chg) om rfl rfl vo om rfl) (sq (MF (E := bB) (l := l) (j := q) (o := 0) (v := (l.getD q kB)) (u := u64 ((l.getD q kB).1)) vF (hL.ext HL.chg) (QA om) rfl rfl rfl) ?_)
  refine go 7 ?_
  exact ⟨q + 1, _, rfl, ⟨rfl, congrArg u64 (by rw [jH]), rfl, rfl, trivial⟩, ⟨om, HL⟩, vd⟩
 ·obtain rfl : q = min l.length 64 := by omega
  refine go 2 ?_
  exact ⟨_, rfl, rfl, HL.chg⟩
end Go.Proofs.YtohngnahcgbfmaaGreatDoor.Gb
namespace Go.Proofs.YtohngnahcgbfmaaGreatDoor.Aes
open Go Vc AesSpec
def CiphR (ks bx : List By) (w : World) (v : Value) (w' : World) : Prop := ∃ kk kc ksp kb cb spb, v = .agg #[sO kk 176 kc, sO kb 256 cb] ∧ Sl E8 kk ks kc ksp ∧ Sl E8 kb bx cb spb ∧ Hp No w w' [(kb, qA E8 5 bx spb), (kk, qA E8 5 ks ksp)]
theorem CiphR.ext {ks bx : List By} {w : World} {v : Value} {w1 w2 : World} (h : CiphR ks bx w v w1) (hE : Ext w1 w2) : CiphR ks bx w v w2 := by
 obtain ⟨kk, kc, ksp, kb, cb, spb, h1, h2, h3, h4⟩ := h
 exact ⟨kk, kc, ksp, kb, cb, spb, h1, h2, h3, h4.ext hE⟩
theorem CiphR.rd {ks bx : List By} {w0 w : World} {v : Value} (h : CiphR ks bx w0 v w) (hk : ks.length = 176) : ∃ xk ck xb cb, v = .agg #[.slice xk 176 ck, .slice xb 256 cb] ∧ 176 ≤ ck ∧ Rd E8 w xk ks ∧ Rd E8 w xb bx := by
 obtain ⟨kk, kc, ksp, kb, cb, spb, h1, h2, h3, h4⟩ := h
 exact ⟨_, _, _, _, h1, hk ▸ h2.cap, h4.rd (k := 1) rfl h2, h4.rd (k := 0) rfl h3⟩
end Go.Proofs.YtohngnahcgbfmaaGreatDoor.Aes
namespace Go.Proofs.YtohngnahcgbfmaaGreatDoor.Gb
open Go Vc Er Circ Co
theorem zM : wC Tryz.prog 121 zB := wL (by kernel_rfl) (by kernel_rfl)
theorem one4 : NA Tryz.prog 4 = true := by kernel_rfl
theorem GO : eD Tryz.prog 40 = some (121, 5) := by kernel_rfl
theorem lI (m k1 k2 : Nat) (a0 : Option Addr) (c0 : Nat) (w : World) (h1 : m = 64) (h2 : k1 = k2) : Ca 96 [.slice a0 m c0, iN k1, iN k2] w fun v w' => v = .nilIface ∧ Ext w w' := by
 have H := Hp.start No w
 refine enter (n := 19) Tryz.func96 rfl rfl (dB rfl) ?_
 refine go 3 ?_
 refine sq ((qD rfl rfl).as (v' := .bool false) (by exact bF (om))) ?_
 refine go 3 ?_
 refine LA (v := .bool false) (w' := w) (gA (d' := 10) (b := false) rfl rfl rfl) ((qD rfl rfl).as (v' := .bool false) (by exact bF (om))) ?_
 refine go 2 ?_
 exact ⟨_, rfl, rfl, H.chg⟩
theorem mV (os : List Ot) (a0 : Option Addr) (n0 c0 : Nat) (hn0 : n0 = os.length) (hos : os.length = 64) (x : BitVec 64) (w : World) (hO : Rd zB w a0 os) : Ca 71 [.slice a0 n0 c0, u64 x] w fun v w' => v = .tuple #[u64 (IF os x 64), .nilIface] ∧ Ext w w' := by
 subst hn0
 have H := Hp.start No w
 refine enter (n := 29) Tryz.func71 rfl rfl (dB rfl) ?_
 refine go 3 ?_
 refine cl (lI os.length 0 0 a0 c0 w om om) ?_
 rintro _ w1 ⟨rfl, e0⟩
 have H3 := H.ext e0
 refine go 6 ?_
 refine AA (σ := Nat) (fun q => [(1, u64 (IF os x q)), (14, .slice a0 os.length c0), (15, iN os.length), (16, iN q)]) (fun q w' => q ≤ os.length ∧ Hp No w w' []) (fun q => os.length - q) (0) ?_ ?_ ?_
 ·exact kp
 ·exact ⟨Nat.zero_le _, H3⟩
 rintro q ρ w4 ⟨hq, HL⟩
 refine go 1 ?_
 refine iA (((q : Nat) : Int) < (os.length : Nat)) rfl (fun f0 => ?_) (fun f0 => ?_)
 ·refine go 4 ?_
  intro b6 w7 h0 H8 i0
  refine go 2 ?_
  intro j0 d0 k0
  refine go 2 ?_
  refine PC ((os.getD q eB).ch) rfl (fun b0 => ?_) (fun b0 => ?_)
  ·refine go 7 ?_
   exact ⟨q + 1, _, rfl, ⟨congrArg u64 (by rw [IF, if_pos b0]), rfl, rfl, rfl, trivial⟩, ⟨om, (d0.dropk 0)⟩, vd⟩
  ·refine go 2 ?_
   exact ⟨q + 1, _, rfl, ⟨congrArg u64 (by rw [IF, if_neg (by rw [b0]; exact Bool.false_ne_true)]), rfl, rfl, rfl, trivial⟩, ⟨om, (d0.dropk 0)⟩, vd⟩
 ·have hqe : q = 64 := by omega
  rw [hqe]
  refine go 3 ?_
  exact ⟨_, rfl, rfl, HL.chg⟩
theorem YO (os : List Ot) (a0 : Option Addr) (n0 c0 : Nat) (hn0 : n0 = os.length) (hos : os.length = 64) (ask : BitVec 64) (z : List Lb) (za : Option Addr) (n2 zc : Nat) (hn2 : n2 = z.length) (hz : z.length = 64) (δ : Lb) (w : World) (hO : Rd zB w a0 os) (hZ : Rd bB w za z) : Ca 72 [.slice a0 n0 c0, u64 ask, .slice za n2 zc, .agg (uA E64 [(δ).1, (δ).2]).toArray] w fun v w' => ∃ (k1 : Option Nat) (c1 : Nat) (z1 : LV), v = .tuple #[sO k1 128 c1, .nilIface] ∧ Sl bB k1 (xD os ask z δ 64) c1 z1 ∧ Hp No w w' [(k1, qA bB 83 (xD os ask z δ 64) z1)] := by
 subst hn2
 subst hn0
 have H := Hp.start No w
 refine enter (n := 59) Tryz.func72 rfl rfl (dB rfl) ?_
 refine go 1 ?_
 intro b1 w2 M1 H3 N1
 refine go 5 ?_
 refine cl (lI os.length z.length 64 a0 c0 w2 om om) ?_
 rintro _ w5 ⟨rfl, Y0⟩
 have H7 := H3.ext Y0
 refine go 4 ?_
 have H8 := H7.nil (qA bB 83 [] [])
 refine go 3 ?_
 refine AA (σ := Nat × Option Nat × Nat × LV) (fun (i, key, c, sp) => [(1, u64 ask), (2, .slice za z.length zc), (7, pT b1), (11, sO key (2 * i) c), (22, .slice a0 os.length c0), (23, iN os.length), (24, iN i)]) (fun (i, key, c, sp) w' => (i ≤ os.length ∧ Sl bB key (xD os ask z δ i) c sp) ∧ Hp No w w' [(key, qA bB 83 (xD os ask z δ i) sp), (rX b1 E64 ([(δ).1, (δ).2]) 83)]) (fun (i, key, c, sp) => os.length - i) ((0, none, 0, [])) ?_ ?_ ?_
 ·exact kp
 ·exact ⟨⟨Nat.zero_le _, Sl.none⟩, H8⟩
 rintro ⟨i, key, c, sp⟩ ρ w9 ⟨⟨hi, hS⟩, HL⟩
 let x3 : Value := .agg (uA E64 [(os.getD i eB).r, (os.getD i eB).s]).toArray
 let x2 : Value := .agg (uA E64 [(os.getD i eB).p, (os.getD i eB).q]).toArray
 let x1 : Array Value := #[u64 ((os.getD i eB).p), u64 ((os.getD i eB).q), u64 ((os.getD i eB).r), u64 ((os.getD i eB).s), .bool ((os.getD i eB).ch)]
 have hll := mF os ask z δ i
 refine go 1 ?_
 refine iA (((i : Nat) : Int) < (os.length : Nat)) rfl (fun Z0 => ?_) (fun Z0 => ?_)
 ·refine go 4 ?_
  intro O0 O1 P1 Q1 R1
  refine go 2 ?_
  intro S1 P0 T1
  refine go 5 ?_
  by_cases hq0 : ZJ ask i = 0#64
  ·have d1 := (P0.pk 3 [1, 0, 2])
   let j0 : List RW := [(rC O0 x1 121), (rX b1 E64 ([(δ).1, (δ).2]) 83)]
   let q0 := fun (b0 : Nat) => (((some b0), qA bB 83 ([z.getD i kB, δ, ((os.getD i eB).r, (os.getD i eB).s)] : List NB) ([])) : RW)
   let D0 := fun (f0 : Nat) => (((some f0), qA bB 83 ([lx (z.getD i kB) ((os.getD i eB).p, (os.getD i eB).q), iC ([z.getD i kB, δ, ((os.getD i eB).r, (os.getD i eB).s)] : List NB)] : List NB) ([])) : RW)
   let E0 := ((key, qA bB 83 (xD os ask z δ i) sp) : RW)
   let r0 := fun (b0 : Nat) => (Sl bB (some b0) ([z.getD i kB, δ, ((os.getD i eB).r, (os.getD i eB).s)] : List NB) 3 ([]) : Prop)
   let F0 := fun (f0 : Nat) => (Sl bB (some f0) ([lx (z.getD i kB) ((os.getD i eB).p, (os.getD i eB).q), iC ([z.getD i kB, δ, ((os.getD i eB).r, (os.getD i eB).s)] : List NB)] : List NB) 2 ([]) : Prop)
   let e1 : mC := [RB false false false fun _ _ _ w' => Hp No w w' (E0 :: j0), RB true false false fun v20 _ _ w' => ∃ b0, v20 = sO (some b0) 3 3 ∧ (r0 b0) ∧ Hp No w w' ((q0 b0) :: E0 :: j0), RB true true false fun v20 v22 _ w' => ∃ b0 f0, v20 = sO (some b0) 3 3 ∧ v22 = sO (some f0) 2 2 ∧ (F0 f0) ∧ (r0 b0) ∧ Hp No w w' ((D0 f0) :: (q0 b0) :: E0 :: j0), RB true true true fun v20 v22 v23 w' => ∃ b0 f0 o0 s0 u0, v20 = sO (some b0) 3 3 ∧ v22 = sO (some f0) 2 2 ∧ v23 = sO o0 ((2 * i) + 2) s0 ∧ (F0 f0) ∧ (r0 b0) ∧ Sl bB o0 (xD os ask z δ (i + 1)) s0 u0 ∧ Hp No w w' ((D0 f0) :: (q0 b0) :: (o0, qA bB 83 (xD os ask z δ (i + 1)) u0) :: j0)]
   refine MA (m := 25) [0, 0, 0, 6, 14, 0, 0, 96, 224, 510, 0, 0, 3072, 7168, 0, 0, 32768, 0, 229376, 491520, 1047552, 2097150, 4194302, 8388607, 16777215] [20, 22, 23] j0 e1 BA (fun _ e => d1.ext e) EC (fun G0 => ?_)
   refine gk 5 ?_
   refine ZB (u64 0#64) (fun _ uw hcx => (CA (v := u64 ((ask >>> (i : Nat)) &&& (1#64))) rfl).as (v' := u64 0#64) (by exact congrArg u64 hq0)) ?_
   refine gk 2 ?_
   refine ZB x2 (fun _ uw hcx => mB (cs' := (uA E64 [(os.getD i eB).p, (os.getD i eB).q]).toArray) vF vF (hcx.get (k := 0) rfl) (off := 0) rfl (by exact dB rfl) (by rfl)) (kE (.agg (uA E64 [(lx (z.getD i kB) ((os.getD i eB).p, (os.getD i eB).q)).1, (lx (z.getD i kB) ((os.getD i eB).p, (os.getD i eB).q)).2]).toArray) (fun _ uw hcx => Gives.call rfl (cA vF rfl) (cD (z.getD i kB) ((os.getD i eB).p, (os.getD i eB).q) uw)) ?_)
   refine gk 5 ?_
   refine ZB (u64 0#64) (fun _ uw hcx => (CA (v := u64 ((ask >>> (i : Nat)) &&& (1#64))) rfl).as (v' := u64 0#64) (by exact congrArg u64 hq0)) (ZB (u64 1#64) (fun _ uw hcx => (tJ (a := 1#64) (b := 0#64) rfl rfl).as (v' := u64 1#64) (by exact congrArg u64 eT)) ?_)
   refine gk 2 ?_
   refine ZB x3 (fun _ uw hcx => mB (cs' := (uA E64 [(os.getD i eB).r, (os.getD i eB).s]).toArray) vF vF (hcx.get (k := 0) rfl) (off := 2) rfl (by exact dB rfl) (by rfl)) (WalkT.eff G0 0 ?_ ?_)
   ·refine tA fun r w0 uw hF hE => ?_
    have U1 := hF.ext hE
    exact gW fun Q' hK => (bS (E := bB) (l := ([z.getD i kB, δ, ((os.getD i eB).r, (os.getD i eB).s)] : List NB)) fun g1 V1 h1 i1 W1 => hK _ _ (E_ g1 (A_ rfl (A_ h1 i1))))
   refine aA (fun _ => .agg (uA E64 [(iC ([z.getD i kB, δ, ((os.getD i eB).r, (os.getD i eB).s)] : List NB)).1, (iC ([z.getD i kB, δ, ((os.getD i eB).r, (os.getD i eB).s)] : List NB)).2]).toArray) (fun _ _ _ => rfl) ?_ ?_
   ·refine tA fun r w0 uw hF hE => ?_
    obtain ⟨b0, e0, k0, HH⟩ := hF
    replace HH := HH.ext hE
    dsimp only
    rw [e0]
    exact Gives.call rfl (cA vF rfl) (tE ([z.getD i kB, δ, ((os.getD i eB).r, (os.getD i eB).s)] : List NB) (sA (some b0)) 3 3 (by rfl) (by simp) uw IC)
   refine WalkT.eff G0 1 ?_ ?_
   ·refine tA fun r w0 uw hF hE => ?_
    obtain ⟨b0, e0, k0, Q0⟩ := hF
    replace Q0 := Q0.ext hE
    exact gW fun Q' hK => (bS (E := bB) (l := ([lx (z.getD i kB) ((os.getD i eB).p, (os.getD i eB).q), iC ([z.getD i kB, δ, ((os.getD i eB).r, (os.getD i eB).s)] : List NB)] : List NB)) fun j1 X1 l1 m1 Y1 => hK _ _ (E_ b0 (E_ j1 (A_ e0 (A_ rfl (A_ l1 (A_ k0 m1)))))))
   refine WalkT.eff G0 2 ?_ ?_
   ·refine tA fun r w0 uw hF hE => ?_
    obtain ⟨b0, f0, e0, i0, H0, k0, R0⟩ := hF
    replace R0 := R0.ext hE
    dsimp only
    rw [i0]
    refine gW fun Q' hK => ?_
    refine OD ?_
    refine ⟨by rw [mF], by rfl, om, ?_⟩
    intro n1 o1 p1 Z1 q1 c2 r1
    have s1 : (xD os ask z δ i) ++ ([lx (z.getD i kB) ((os.getD i eB).p, (os.getD i eB).q), iC ([z.getD i kB, δ, ((os.getD i eB).r, (os.getD i eB).s)] : List NB)] : List NB) = xD os ask z δ (i + 1) := by rw [xD, hq0, eT, oR0, oR1]
    have S0 := q1
    have T0 := r1
    rw [s1] at S0 T0
    exact hK _ _ (E_ b0 (E_ f0 (E_ n1 (E_ o1 (E_ p1 (A_ e0 (A_ i0 (A_ rfl (A_ H0 (A_ k0 (A_ S0 T0)))))))))))
   refine bA (fun r => r 23) (fun r r' h => h 23 (by decide) rfl) (fun _ _ => zA rfl) (WalkT.nil fun r w0 d2 hF hE => ?_)
   obtain ⟨b0, f0, o0, s0, u0, e0, i0, I0, H0, k0, t1, x0⟩ := hF
   replace x0 := x0.ext hE
   dsimp only
   rw [e0, i0, I0]
   dsimp only [F0] at H0
   dsimp only [r0] at k0
   dsimp only [j0, D0, q0] at x0
   refine go 2 ?_
   exact ⟨(i + 1, o0, s0, u0), _, rfl, kp, ⟨⟨om, t1⟩, (((x0.dropk 3).dropk 1).dropk 0)⟩, vd⟩
  ·have u1 := (P0.pk 3 [1, 0, 2])
   let l0 : List RW := [(rC O0 x1 121), (rX b1 E64 ([(δ).1, (δ).2]) 83)]
   let y0 := fun (d0 : Nat) => (((some d0), qA bB 83 ([z.getD i kB, δ, ((os.getD i eB).p, (os.getD i eB).q)] : List NB) ([])) : RW)
   let J0 := fun (h0 : Nat) => (((some h0), qA bB 83 ([lx (z.getD i kB) ((os.getD i eB).r, (os.getD i eB).s), iC ([z.getD i kB, δ, ((os.getD i eB).p, (os.getD i eB).q)] : List NB)] : List NB) ([])) : RW)
   let K0 := ((key, qA bB 83 (xD os ask z δ i) sp) : RW)
   let z0 := fun (d0 : Nat) => (Sl bB (some d0) ([z.getD i kB, δ, ((os.getD i eB).p, (os.getD i eB).q)] : List NB) 3 ([]) : Prop)
   let L0 := fun (h0 : Nat) => (Sl bB (some h0) ([lx (z.getD i kB) ((os.getD i eB).r, (os.getD i eB).s), iC ([z.getD i kB, δ, ((os.getD i eB).p, (os.getD i eB).q)] : List NB)] : List NB) 2 ([]) : Prop)
   let w1 : mC := [RB false false false fun _ _ _ w' => Hp No w w' (K0 :: l0), RB true false false fun v20 _ _ w' => ∃ d0, v20 = sO (some d0) 3 3 ∧ (z0 d0) ∧ Hp No w w' ((y0 d0) :: K0 :: l0), RB true true false fun v20 v22 _ w' => ∃ d0 h0, v20 = sO (some d0) 3 3 ∧ v22 = sO (some h0) 2 2 ∧ (L0 h0) ∧ (z0 d0) ∧ Hp No w w' ((J0 h0) :: (y0 d0) :: K0 :: l0), RB true true true fun v20 v22 v23 w' => ∃ d0 h0 p0 A0 B0, v20 = sO (some d0) 3 3 ∧ v22 = sO (some h0) 2 2 ∧ v23 = sO p0 ((2 * i) + 2) A0 ∧ (L0 h0) ∧ (z0 d0) ∧ Sl bB p0 (xD os ask z δ (i + 1)) A0 B0 ∧ Hp No w w' ((J0 h0) :: (y0 d0) :: (p0, qA bB 83 (xD os ask z δ (i + 1)) B0) :: l0)]
   refine MA (m := 25) [0, 0, 0, 6, 14, 0, 0, 96, 224, 510, 0, 0, 3072, 7168, 0, 0, 32768, 0, 229376, 491520, 1047552, 2097150, 4194302, 8388607, 16777215] [20, 22, 23] l0 w1 BA (fun _ e => u1.ext e) EC (fun M0 => ?_)
   refine gk 5 ?_
   refine ZB (u64 1#64) (fun _ uw hcx => (CA (v := u64 ((ask >>> (i : Nat)) &&& (1#64))) rfl).as (v' := u64 1#64) (by exact congrArg u64 (sF hq0))) ?_
   refine gk 2 ?_
   refine ZB x3 (fun _ uw hcx => mB (cs' := (uA E64 [(os.getD i eB).r, (os.getD i eB).s]).toArray) vF vF (hcx.get (k := 0) rfl) (off := 2) rfl (by exact dB rfl) (by rfl)) (kE (.agg (uA E64 [(lx (z.getD i kB) ((os.getD i eB).r, (os.getD i eB).s)).1, (lx (z.getD i kB) ((os.getD i eB).r, (os.getD i eB).s)).2]).toArray) (fun _ uw hcx => Gives.call rfl (cA vF rfl) (cD (z.getD i kB) ((os.getD i eB).r, (os.getD i eB).s) uw)) ?_)
   refine gk 5 ?_
   refine ZB (u64 1#64) (fun _ uw hcx => (CA (v := u64 ((ask >>> (i : Nat)) &&& (1#64))) rfl).as (v' := u64 1#64) (by exact congrArg u64 (sF hq0))) (ZB (u64 0#64) (fun _ uw hcx => (tJ (a := 1#64) (b := 1#64) rfl rfl).as (v' := u64 0#64) (by exact congrArg u64 dT)) ?_)
   refine gk 2 ?_
   refine ZB x2 (fun _ uw hcx => mB (cs' := (uA E64 [(os.getD i eB).p, (os.getD i eB).q]).toArray) vF vF (hcx.get (k := 0) rfl) (off := 0) rfl (by exact dB rfl) (by rfl)) (WalkT.eff M0 0 ?_ ?_)
   ·refine tA fun r w0 uw hF hE => ?_
    have e2 := hF.ext hE
    exact gW fun Q' hK => (bS (E := bB) (l := ([z.getD i kB, δ, ((os.getD i eB).p, (os.getD i eB).q)] : List NB)) fun y1 f2 A1 B1 g2 => hK _ _ (E_ y1 (A_ rfl (A_ A1 B1))))
   refine aA (fun _ => .agg (uA E64 [(iC ([z.getD i kB, δ, ((os.getD i eB).p, (os.getD i eB).q)] : List NB)).1, (iC ([z.getD i kB, δ, ((os.getD i eB).p, (os.getD i eB).q)] : List NB)).2]).toArray) (fun _ _ _ => rfl) ?_ ?_
   ·refine tA fun r w0 uw hF hE => ?_
    obtain ⟨d0, e0, m0, HH⟩ := hF
    replace HH := HH.ext hE
    dsimp only
    rw [e0]
    exact Gives.call rfl (cA vF rfl) (tE ([z.getD i kB, δ, ((os.getD i eB).p, (os.getD i eB).q)] : List NB) (sA (some d0)) 3 3 (by rfl) (by simp) uw IC)
   refine WalkT.eff M0 1 ?_ ?_
   ·refine tA fun r w0 uw hF hE => ?_
    obtain ⟨d0, e0, m0, U0⟩ := hF
    replace U0 := U0.ext hE
    exact gW fun Q' hK => (bS (E := bB) (l := ([lx (z.getD i kB) ((os.getD i eB).r, (os.getD i eB).s), iC ([z.getD i kB, δ, ((os.getD i eB).p, (os.getD i eB).q)] : List NB)] : List NB)) fun C1 h2 D1 E1 i2 => hK _ _ (E_ d0 (E_ C1 (A_ e0 (A_ rfl (A_ D1 (A_ m0 E1)))))))
   refine WalkT.eff M0 2 ?_ ?_
   ·refine tA fun r w0 uw hF hE => ?_
    obtain ⟨d0, h0, e0, i0, N0, m0, V0⟩ := hF
    replace V0 := V0.ext hE
    dsimp only
    rw [i0]
    refine gW fun Q' hK => ?_
    refine OD ?_
    refine ⟨by rw [mF], by rfl, om, ?_⟩
    intro F1 G1 H1 j2 I1 k2 J1
    have K1 : (xD os ask z δ i) ++ ([lx (z.getD i kB) ((os.getD i eB).r, (os.getD i eB).s), iC ([z.getD i kB, δ, ((os.getD i eB).p, (os.getD i eB).q)] : List NB)] : List NB) = xD os ask z δ (i + 1) := by rw [xD, sF hq0, dT, oR0, oR1]
    have W0 := I1
    have X0 := J1
    rw [K1] at W0 X0
    exact hK _ _ (E_ d0 (E_ h0 (E_ F1 (E_ G1 (E_ H1 (A_ e0 (A_ i0 (A_ rfl (A_ N0 (A_ m0 (A_ W0 X0)))))))))))
   refine bA (fun r => r 23) (fun r r' h => h 23 (by decide) rfl) (fun _ _ => zA rfl) (WalkT.nil fun r w0 l2 hF hE => ?_)
   obtain ⟨d0, h0, p0, A0, B0, e0, i0, I0, N0, m0, L1, C0⟩ := hF
   replace C0 := C0.ext hE
   dsimp only
   rw [e0, i0, I0]
   dsimp only [L0] at N0
   dsimp only [z0] at m0
   dsimp only [l0, J0, y0] at C0
   refine go 2 ?_
   exact ⟨(i + 1, p0, A0, B0), _, rfl, kp, ⟨⟨om, L1⟩, (((C0.dropk 3).dropk 1).dropk 0)⟩, vd⟩
 ·have hie : i = 64 := by omega
  rw [hie] at HL hS
  rw [hie]
  refine go 3 ?_
  exact ⟨_, rfl, key, c, sp, rfl, hS, (HL.dropk 1)⟩
theorem ER (os : List Ot) (a0 : Option Addr) (n0 c0 : Nat) (hn0 : n0 = os.length) (hos : os.length = 64) (x : BitVec 64) (rp : List Lb) (ra : Option Addr) (n2 rc : Nat) (hn2 : n2 = rp.length) (hr : rp.length = 128) (w : World) (hO : Rd zB w a0 os) (hR : Rd bB w ra rp) : Ca 73 [.slice a0 n0 c0, u64 x, .slice ra n2 rc] w fun v w' => ∃ (k1 : Option Nat) (c1 : Nat) (z1 : LV), v = .tuple #[sO k1 64 c1, .nilIface] ∧ Sl bB k1 (RC os x rp 64) c1 z1 ∧ Hp No w w' [(k1, qA bB 83 (RC os x rp 64) z1)] := by
 subst hn2
 subst hn0
 have H := Hp.start No w
 refine enter (n := 46) Tryz.func73 rfl rfl (dB rfl) ?_
 refine go 5 ?_
 refine cl (lI os.length rp.length 128 a0 c0 w om om) ?_
 rintro _ w1 ⟨rfl, K0⟩
 have H3 := H.ext K0
 refine go 4 ?_
 have H4 := H3.nil (qA bB 83 [] [])
 refine go 3 ?_
 refine AA (σ := Nat × Option Nat × Nat × LV) (fun (i, key, c, sp) => [(1, u64 x), (2, .slice ra rp.length rc), (9, sO key i c), (19, .slice a0 os.length c0), (20, iN os.length), (21, iN i)]) (fun (i, key, c, sp) w' => (i ≤ os.length ∧ Sl bB key (RC os x rp i) c sp) ∧ Hp No w w' [(key, qA bB 83 (RC os x rp i) sp)]) (fun (i, key, c, sp) => os.length - i) ((0, none, 0, [])) ?_ ?_ ?_
 ·exact kp
 ·exact ⟨⟨Nat.zero_le _, Sl.none⟩, H4⟩
 rintro ⟨i, key, c, sp⟩ ρ w5 ⟨⟨hi, hS⟩, HL⟩
 let x2 : RW := (key, qA bB 83 (RC os x rp i) sp)
 let x1 : Array Value := #[u64 ((os.getD i eB).p), u64 ((os.getD i eB).q), u64 ((os.getD i eB).r), u64 ((os.getD i eB).s), .bool ((os.getD i eB).ch)]
 have hll := FE os x rp i
 refine go 1 ?_
 refine iA (((i : Nat) : Int) < (os.length : Nat)) rfl (fun L0 => ?_) (fun L0 => ?_)
 ·refine go 4 ?_
  intro b7 w8 p1 H9 q1
  refine go 2 ?_
  intro r1 B0 s1
  refine go 0 ?_
  by_cases hq0 : ZJ x i = 0#64
  ·have M0 := (B0.pk 2 [1, 0])
   let f0 : List RW := [(rC b7 x1 121)]
   let r0 := fun (b0 : Nat) => (((some b0), qA bB 83 ([lx (rp.getD (2 * i + 0) kB) ((os.getD i eB).p, (os.getD i eB).q)] : List NB) ([])) : RW)
   let s0 := fun (b0 : Nat) => (Sl bB (some b0) ([lx (rp.getD (2 * i + 0) kB) ((os.getD i eB).p, (os.getD i eB).q)] : List NB) 1 ([]) : Prop)
   let N0 : mC := [nC false false fun _ _ w' => Hp No w w' (x2 :: f0), nC true false fun v16 _ w' => ∃ b0, v16 = sO (some b0) 1 1 ∧ (s0 b0) ∧ Hp No w w' ((r0 b0) :: x2 :: f0), nC true true fun v16 v17 w' => ∃ b0 h0 k0 l0, v16 = sO (some b0) 1 1 ∧ v17 = sO h0 (i + 1) k0 ∧ (s0 b0) ∧ Sl bB h0 (RC os x rp (i + 1)) k0 l0 ∧ Hp No w w' ((r0 b0) :: (h0, qA bB 83 (RC os x rp (i + 1)) l0) :: f0)]
   refine MA (m := 19) [0, 0, 0, 4, 0, 0, 48, 112, 240, 508, 1022, 2046, 0, 4096, 12288, 32766, 65534, 131071, 262143] [16, 17] f0 N0 BA (fun _ e => M0.ext e) EC (fun C0 => ?_)
   refine gk 3 ?_
   refine ZB (iN (2 * i)) (fun _ uw hcx => (KB rfl rfl om).as (v' := iN (2 * i)) (by exact congrArg i64 om)) ?_
   refine gk 3 ?_
   refine ZB (u64 0#64) (fun _ uw hcx => (qG (a := x >>> (i : Nat)) (b := 1#64) rfl rfl).as (v' := u64 0#64) (by exact congrArg u64 hq0)) (ZB (iN 0) (fun _ uw hcx => (RE vF vF (a := 0#64) rfl).as (v' := iN 0) (by rfl)) (ZB (iN (2 * i + 0)) (fun _ uw hcx => (aB rfl rfl om).as (v' := iN (2 * i + 0)) (by exact congrArg i64 om)) ?_))
   refine gk 5 ?_
   refine kE (.agg (uA E64 [(lx (rp.getD (2 * i + 0) kB) ((os.getD i eB).p, (os.getD i eB).q)).1, (lx (rp.getD (2 * i + 0) kB) ((os.getD i eB).p, (os.getD i eB).q)).2]).toArray) (fun _ uw hcx => Gives.call rfl (cA vF rfl) (cD (rp.getD (2 * i + 0) kB) ((os.getD i eB).p, (os.getD i eB).q) uw)) (WalkT.eff C0 0 ?_ ?_)
   ·refine tA fun r w0 uw hF hE => ?_
    have t1 := hF.ext hE
    exact gW fun Q' hK => (bS (E := bB) (l := ([lx (rp.getD (2 * i + 0) kB) ((os.getD i eB).p, (os.getD i eB).q)] : List NB)) fun O0 u1 P0 Q0 y1 => hK _ _ (E_ O0 (A_ rfl (A_ P0 Q0))))
   refine WalkT.eff C0 1 ?_ ?_
   ·refine tA fun r w0 uw hF hE => ?_
    obtain ⟨b0, e0, u0, D0⟩ := hF
    replace D0 := D0.ext hE
    dsimp only
    rw [e0]
    refine gW fun Q' hK => ?_
    refine OD ?_
    refine ⟨by rw [FE], by rfl, om, ?_⟩
    intro R0 S0 T0 A1 U0 B1 V0
    have W0 : (RC os x rp i) ++ ([lx (rp.getD (2 * i + 0) kB) ((os.getD i eB).p, (os.getD i eB).q)] : List NB) = RC os x rp (i + 1) := by rw [RC, hq0, oR0]; rfl
    have E0 := U0
    have F0 := V0
    rw [W0] at E0 F0
    exact hK _ _ (E_ b0 (E_ R0 (E_ S0 (E_ T0 (A_ e0 (A_ rfl (A_ u0 (A_ E0 F0))))))))
   refine bA (fun r => r 17) (fun r r' h => h 17 (by decide) rfl) (fun _ _ => zA rfl) (WalkT.nil fun r w0 C1 hF hE => ?_)
   obtain ⟨b0, h0, k0, l0, e0, x0, u0, X0, m0⟩ := hF
   replace m0 := m0.ext hE
   dsimp only
   rw [e0, x0]
   dsimp only [s0] at u0
   dsimp only [f0, r0] at m0
   refine go 2 ?_
   exact ⟨(i + 1, h0, k0, l0), _, rfl, kp, ⟨⟨om, X0⟩, ((m0.dropk 2).dropk 0)⟩, vd⟩
  ·have Y0 := (B0.pk 2 [1, 0])
   let i0 : List RW := [(rC b7 x1 121)]
   let y0 := fun (d0 : Nat) => (((some d0), qA bB 83 ([lx (rp.getD (2 * i + 1) kB) ((os.getD i eB).p, (os.getD i eB).q)] : List NB) ([])) : RW)
   let z0 := fun (d0 : Nat) => (Sl bB (some d0) ([lx (rp.getD (2 * i + 1) kB) ((os.getD i eB).p, (os.getD i eB).q)] : List NB) 1 ([]) : Prop)
   let Z0 : mC := [nC false false fun _ _ w' => Hp No w w' (x2 :: i0), nC true false fun v16 _ w' => ∃ d0, v16 = sO (some d0) 1 1 ∧ (z0 d0) ∧ Hp No w w' ((y0 d0) :: x2 :: i0), nC true true fun v16 v17 w' => ∃ d0 j0 o0 p0, v16 = sO (some d0) 1 1 ∧ v17 = sO j0 (i + 1) o0 ∧ (z0 d0) ∧ Sl bB j0 (RC os x rp (i + 1)) o0 p0 ∧ Hp No w w' ((y0 d0) :: (j0, qA bB 83 (RC os x rp (i + 1)) p0) :: i0)]
   refine MA (m := 19) [0, 0, 0, 4, 0, 0, 48, 112, 240, 508, 1022, 2046, 0, 4096, 12288, 32766, 65534, 131071, 262143] [16, 17] i0 Z0 BA (fun _ e => Y0.ext e) EC (fun G0 => ?_)
   refine gk 3 ?_
   refine ZB (iN (2 * i)) (fun _ uw hcx => (KB rfl rfl om).as (v' := iN (2 * i)) (by exact congrArg i64 om)) ?_
   refine gk 3 ?_
   refine ZB (u64 1#64) (fun _ uw hcx => (qG (a := x >>> (i : Nat)) (b := 1#64) rfl rfl).as (v' := u64 1#64) (by exact congrArg u64 (sF hq0))) (ZB (iN 1) (fun _ uw hcx => (RE vF vF (a := 1#64) rfl).as (v' := iN 1) (by rfl)) (ZB (iN (2 * i + 1)) (fun _ uw hcx => (aB rfl rfl om).as (v' := iN (2 * i + 1)) (by exact congrArg i64 om)) ?_))
   refine gk 5 ?_
   refine kE (.agg (uA E64 [(lx (rp.getD (2 * i + 1) kB) ((os.getD i eB).p, (os.getD i eB).q)).1, (lx (rp.getD (2 * i + 1) kB) ((os.getD i eB).p, (os.getD i eB).q)).2]).toArray) (fun _ uw hcx => Gives.call rfl (cA vF rfl) (cD (rp.getD (2 * i + 1) kB) ((os.getD i eB).p, (os.getD i eB).q) uw)) (WalkT.eff G0 0 ?_ ?_)
   ·refine tA fun r w0 uw hF hE => ?_
    have D1 := hF.ext hE
    exact gW fun Q' hK => (bS (E := bB) (l := ([lx (rp.getD (2 * i + 1) kB) ((os.getD i eB).p, (os.getD i eB).q)] : List NB)) fun d1 E1 e1 g1 F1 => hK _ _ (E_ d1 (A_ rfl (A_ e1 g1))))
   refine WalkT.eff G0 1 ?_ ?_
   ·refine tA fun r w0 uw hF hE => ?_
    obtain ⟨d0, e0, A0, H0⟩ := hF
    replace H0 := H0.ext hE
    dsimp only
    rw [e0]
    refine gW fun Q' hK => ?_
    refine OD ?_
    refine ⟨by rw [FE], by rfl, om, ?_⟩
    intro h1 i1 j1 G1 l1 H1 m1
    have n1 : (RC os x rp i) ++ ([lx (rp.getD (2 * i + 1) kB) ((os.getD i eB).p, (os.getD i eB).q)] : List NB) = RC os x rp (i + 1) := by rw [RC, sF hq0, oR0]; rfl
    have I0 := l1
    have J0 := m1
    rw [n1] at I0 J0
    exact hK _ _ (E_ d0 (E_ h1 (E_ i1 (E_ j1 (A_ e0 (A_ rfl (A_ A0 (A_ I0 J0))))))))
   refine bA (fun r => r 17) (fun r r' h => h 17 (by decide) rfl) (fun _ _ => zA rfl) (WalkT.nil fun r w0 I1 hF hE => ?_)
   obtain ⟨d0, j0, o0, p0, e0, x0, A0, o1, q0⟩ := hF
   replace q0 := q0.ext hE
   dsimp only
   rw [e0, x0]
   dsimp only [z0] at A0
   dsimp only [i0, y0] at q0
   refine go 2 ?_
   exact ⟨(i + 1, j0, o0, p0), _, rfl, kp, ⟨⟨om, o1⟩, ((q0.dropk 2).dropk 0)⟩, vd⟩
 ·have hie : i = 64 := by omega
  rw [hie] at HL hS
  rw [hie]
  refine go 3 ?_
  exact ⟨_, rfl, key, c, sp, rfl, hS, HL⟩
end Go.Proofs.YtohngnahcgbfmaaGreatDoor.Gb
namespace Go.Proofs.YtohngnahcgbfmaaGreatDoor.Ms
open Go Vc Er Ek Circ Mi
open Co Cm
open Go.Proofs.YtohngnahcgbfmaaGreatDoor (Gb.kA)
open Gb (kB lx lw gS eS oL jH IF xD RC)
theorem GL : OA Tryz.prog 104 = true := by kernel_rfl
theorem KT : jD Tryz.prog 87 = some (2, 1) := by kernel_rfl
theorem JT : jD Tryz.prog 92 = some (2, 6) := by kernel_rfl
theorem call70 : mA Tryz.prog 70 = true := by kernel_rfl
theorem eV : wC Tryz.prog 87 bB := TJ (by kernel_rfl) (by kernel_rfl)
theorem cL : UB Tryz.prog 104 = some 3 := by kernel_rfl
theorem sli182 : eD Tryz.prog 182 = some (87, 2) := by kernel_rfl
theorem uL (n : Int) (gs : List Gt) (ol : List Int) (ga oa : Option Addr) (gc oc mg mo : Nat) (hmg : mg = gs.length) (hmo : mo = ol.length) (δ : Mi.Lb) (zs : List Mi.Lb) (za : Option Addr) (zc : Nat) (first : BitVec 64) (m0 : Nat) (hm0 : m0 = zs.length) (w : World) (hG : Gl w) (hGs : Rd EG w ga gs) (hOl : Rd EI w oa ol) (hgl : gs.length ≤ 140737488355328) (hol : ol.length ≤ 140737488355328) (hZ : Rd bB w za zs) (hg : IsC n gs ol) (hm : (zs.length : Int) = n) (hc : Gb.AC δ = true) : Ca 69 [.agg #[i64 n, .slice ga mg gc, .slice oa mo oc], .agg (uA E64 [(δ).1, (δ).2]).toArray, .slice za m0 zc, u64 first] w fun v w' => ∃ (k1 : Option Nat) (c1 : Nat) (z1 : LV) (k2 : Option Nat) (c2 : Nat) (z2 : LV), v = .tuple #[sO k1 ((gS Gb.kA δ first gs zs gs.length).2).length c1, sO k2 (oL (gS Gb.kA δ first gs zs gs.length).1 ol ol.length).length c2, .nilIface] ∧ Sl bB k1 ((gS Gb.kA δ first gs zs gs.length).2) c1 z1 ∧ Sl bB k2 (oL (gS Gb.kA δ first gs zs gs.length).1 ol ol.length) c2 z2 ∧ Hp No w w' [(k1, qA bB 83 ((gS Gb.kA δ first gs zs gs.length).2) z1), (k2, qA bB 83 (oL (gS Gb.kA δ first gs zs gs.length).1 ol ol.length) z2)] := by
 subst hmg hmo hm0; exact Gb.JN n gs ol ga oa gc oc δ zs za zc first w hG hGs hOl hgl hol hZ hg hm hc
theorem kQ (n : Int) (gs : List Gt) (ol : List Int) (ga oa : Option Addr) (gc oc mg mo : Nat) (hmg : mg = gs.length) (hmo : mo = ol.length) (ls tb : List Mi.Lb) (lsa tsa : Option Addr) (lsc tsc : Nat) (first : BitVec 64) (m1 m2 : Nat) (hm1 : m1 = ls.length) (hm2 : m2 = tb.length) (w : World) (hG : Gl w) (hGs : Rd EG w ga gs) (hOl : Rd EI w oa ol) (hgl : gs.length ≤ 140737488355328) (hol : ol.length ≤ 140737488355328) (hLs : Rd bB w lsa ls) (hTb : Rd bB w tsa tb) (hg : IsC n gs ol) (hm : (ls.length : Int) = n) (hc : tb.length = 2 * FB gs gs.length) : Ca 74 [.agg #[i64 n, .slice ga mg gc, .slice oa mo oc], .slice lsa m1 lsc, .slice tsa m2 tsc, u64 first] w fun v w' => ∃ (k1 : Option Nat) (c1 : Nat) (z1 : LV), v = .tuple #[sO k1 ol.length c1, .nilIface] ∧ Sl bB k1 (oL (eS Gb.kA first gs tb ls gs.length).1 ol ol.length) c1 z1 ∧ Hp No w w' [(k1, qA bB 83 (oL (eS Gb.kA first gs tb ls gs.length).1 ol ol.length) z1)] := by
 subst hmg hmo hm1 hm2; exact Gb.nS n gs ol ga oa gc oc ls tb lsa tsa lsc tsc first w hG hGs hOl hgl hol hLs hTb hg hm hc
theorem tL (o : Mo) (q : Int) (a b : W2) (d0 d1 : Dr) (zs : List Mi.Lb) (os0 os1 : List Ot) (δ : W2) (hcd : Gb.AC δ = true) (hng : LC o.k o.c ≠ 0) (hzl : zs.length = 128 * qB o) (h0l : os0.length = 64 * qB o) (h1l : os1.length = 64 * qB o) (hz : d0.zs.n = zs.length) (hzc : zs.length ≤ d0.zs.c) (h0n : d0.os.n = os0.length) (h0c : os0.length ≤ d0.os.c) (h1n : d1.os.n = os1.length) (h1c : os1.length ≤ d1.os.c) (w : World) (hG : Gl w) (hZ : Rd bB w d0.zs.a zs) (hO0 : Rd zB w d0.os.a os0) (hO1 : Rd zB w d1.os.a os1) : Ca 49 [.agg #[i64 (o.kd), i64 (o.a), i64 (o.b), i64 (o.k), u64 (o.c), i64 (o.pt)], i64 q, .agg (uA E64 [a.1, a.2]).toArray, .agg (uA E64 [b.1, b.2]).toArray, .agg #[u64 (d0.w), u64 (d0.t.a), u64 (d0.t.b), u64 (d0.t.c), .slice d0.os.a d0.os.n d0.os.c, .slice d0.zs.a d0.zs.n d0.zs.c, u64 (d1.w), u64 (d1.t.a), u64 (d1.t.b), u64 (d1.t.c), .slice d1.os.a d1.os.n d1.os.c, .slice d1.zs.a d1.zs.n d1.zs.c], .agg (uA E64 [(δ).1, (δ).2]).toArray] w fun v w' => v = .agg (uA E64 [(vL Gb.kA o q a b δ zs os0 os1).1, (vL Gb.kA o q a b δ zs os0 os1).2]).toArray ∧ Ext w w' := by
 let x1 : Array Value := #[u64 (d0.w), u64 (d0.t.a), u64 (d0.t.b), u64 (d0.t.c), .slice d0.os.a d0.os.n d0.os.c, .slice d0.zs.a d0.zs.n d0.zs.c, u64 (d1.w), u64 (d1.t.a), u64 (d1.t.b), u64 (d1.t.c), .slice d1.os.a d1.os.n d1.os.c, .slice d1.zs.a d1.zs.n d1.zs.c]
 have hog := YH o
 have hA := CN o hng []
 have hol := SE o
 have hgl := AF o
 have hzn : ((zs.length : Nat) : Int) = ((128 * qB o : Nat) : Int) := by rw [hzl]
 have H := Hp.start No w
 refine enter (n := 156) Tryz.func49 rfl rfl (dB rfl) ?_
 refine go 1 ?_
 intro n0 w2 y2 z2 A2
 refine go 1 ?_
 intro o0 B2 C2 D2 E2
 refine go 1 ?_
 intro p0 F2 G2 H2 I2
 refine go 1 ?_
 intro e0 J2 K2 L2 M2
 refine go 1 ?_
 intro f0 N2 O2 P2 Q2
 refine go 1 ?_
 intro h0 c1 R2 e1 S2
 refine go 4 ?_
 refine Vc.cl (bI o hng c1) ?_
 rintro _ T2 ⟨c0, i0, g1, l0, rfl, U2, h1⟩
 let x4 : Option Addr := some ⟨l0, 0, none⟩
 have V2 := (e1.join h1).a8 rfl
 refine go 4 ?_
 intro j0 X2 Y2 Z2 c3
 refine go 1 ?_
 intro i1 j1 d3
 refine go 7 ?_
 refine sq ((VL (a := BitVec.ofInt 64 q) (c := 32) rfl rfl).as (v' := u64 (XP q)) (by rfl)) ?_
 refine go 5 ?_
 refine Vc.cl (uL ((128 * qB o) : Nat) ((SA o).1) ((SA o).2) (sA c0) x4 i0 64 ((SA o).1.length) 64 (by rfl) (by exact (SE _).symm) δ zs d0.zs.a d0.zs.c (XP q) d0.zs.n (by exact hz) i1 uC IC (Rd.row gF) om om IC hA.is hzn hcd) ?_
 rintro _ e3 ⟨y0, J0, k1, z0, K0, l1, rfl, m1, n1, L0⟩
 obtain ⟨tb, htb⟩ : ∃ x, x = (gS Gb.kA δ (XP q) (SA o).1 zs (SA o).1.length).2 := ⟨_, rfl⟩
 let x5 : RW := (y0, qA bB 83 tb k1)
 obtain ⟨ot, hot⟩ : ∃ x, x = oL (gS Gb.kA δ (XP q) (SA o).1 zs (SA o).1.length).1 (SA o).2 (SA o).2.length := ⟨_, rfl⟩
 let x7 : RW := (z0, qA bB 83 ot l1)
 let x6 : RW := (c0, qA EG 154 ((SA o).1) g1)
 let x2 : Array Value := #[i64 (o.kd), i64 (o.a), i64 (o.b), i64 (o.k), u64 (o.c), i64 (o.pt)]
 rw [← htb] at m1 L0 ⊢
 rw [← hot] at n1 L0 ⊢
 have o1 := (j1.join L0).a11 rfl
 refine go 8 ?_
 have p1 := o1.nil (qA bB 83 [] [])
 refine go 0 ?_
 let A0 : List RW := [(none, qA bB 83 ([]) ([])), x5, x7, (rC j0 #[iN (128 * qB o), sO c0 ((SA o).1.length) i0, .slice x4 64 64] 104), x6, (rX l0 EI ((SA o).2) 145), (rX h0 E64 ([0#64, 0#64]) 87), (rX f0 E64 ([(δ).1, (δ).2]) 83), (rC e0 x1 92), (rX p0 E64 ([b.1, b.2]) 87), (rX o0 E64 ([a.1, a.2]) 87), (rC n0 x2 36)]
 let q1 : mC := [XF false fun _ w' => Hp No w w' A0, XF true fun v2 w' => ∃ b0, v2 = sO (some b0) 2 2 ∧ Sl bB (some b0) ([a, b] : List NB) 2 ([]) ∧ Hp No w w' (((some b0), qA bB 87 ([a, b] : List NB) ([])) :: A0)]
 refine MA (m := 8) [0, 0, 3, 0, 8, 31, 63, 0] [2] A0 q1 BA (fun _ e => p1.ext e) EC (fun r1 => ?_)
 refine gk 2 ?_
 refine WalkT.eff r1 0 ?_ ?_
 ·refine tA fun r w0 uw hF hE => ?_
  have f3 := hF.ext hE
  exact gW fun Q' hK => (bS (E := bB) (l := ([a, b] : List NB)) fun s1 g3 t1 u1 h3 => hK _ _ (E_ s1 (A_ rfl (A_ t1 u1))))
 refine gk 1 ?_
 refine kE (iN (qB o)) (fun _ uw hcx => Gives.call rfl (cA vF rfl) (rG o uw)) (aA (fun r => cutV (r 2) (qB o)) (fun r r' h => by rw [h 2 (by decide) rfl]) ?_ ?_)
 ·refine tA fun r w0 uw hF hE => ?_
  obtain ⟨b0, e2, B0, HH⟩ := hF
  replace HH := HH.ext hE
  dsimp only
  rw [e2]
  exact Gives.run rfl ((SC (l := 0) (h := qB o) vF rfl (.inr ⟨rfl, rfl⟩) (.inl ⟨_, _, _, rfl, rfl, by first | rfl | omega | (simp; omega)⟩) om om).as (v' := .slice (if 2 = 0 then sA (some b0) else oC (sA (some b0)) (0 * 2)) (qB o) (2 - 0)) (by first | rfl | (congr 1; omega) | (simp; omega) | simp)) ⟨rfl, Chg.refl _ _⟩
 refine aA (fun _ => iN (qB o)) (fun _ _ _ => rfl) ?_ ?_
 ·refine tA fun r w0 uw hF hE => ?_
  obtain ⟨b0, e2, B0, HH⟩ := hF
  replace HH := HH.ext hE
  dsimp only
  rw [e2]
  exact xC
 refine gk 1 ?_
 refine WalkT.nil fun r w0 i3 hF hE => ?_
 obtain ⟨b0, e2, B0, C0⟩ := hF
 let x3 : RW := ((some b0), qA bB 87 ([a, b] : List NB) ([]))
 replace C0 := C0.ext hE
 dsimp only
 rw [e2]
 dsimp only [A0] at C0
 refine go 0 ?_
 refine AA (σ := Nat × Option Nat × Nat × LV) (fun (k, kl, cl, sl) => [(10, pT e0), (11, pT f0), (12, pT h0), (13, pT j0), (15, .slice d0.zs.a d0.zs.n d0.zs.c), (16, u64 (XP q)), (17, sO y0 tb.length J0), (18, sO z0 ot.length K0), (20, sO kl (128 * k) cl), (62, .slice (if 2 = 0 then sA (some b0) else oC (sA (some b0)) (0 * 2)) (qB o) (2 - 0)), (63, iN (qB o)), (64, iN k)]) (fun (k, kl, cl, sl) w' => (k ≤ qB o ∧ Sl bB kl (cJ δ zs os0 os1 a b k) cl sl) ∧ Hp No w w' [(kl, qA bB 83 (cJ δ zs os0 os1 a b k) sl), x3, x5, x7, (rC j0 #[iN (128 * qB o), sO c0 ((SA o).1.length) i0, .slice x4 64 64] 104), x6, (rX l0 EI ((SA o).2) 145), (rX h0 E64 ([0#64, 0#64]) 87), (rX f0 E64 ([(δ).1, (δ).2]) 83), (rC e0 x1 92), (rX p0 E64 ([b.1, b.2]) 87), (rX o0 E64 ([a.1, a.2]) 87), (rC n0 x2 36)]) (fun (k, kl, cl, sl) => qB o - k) ((0, none, 0, ([]))) ?_ ?_ ?_
 ·exact kp
 ·exact ⟨⟨Nat.zero_le _, Sl.none⟩, (C0.pk 13 [1, 0, 2, 3, 4, 5, 6, 7, 8, 9, 10, 11, 12])⟩
 rintro ⟨k, kl, cl, sl⟩ ρ w1 ⟨⟨hk, hSl⟩, HL⟩
 refine go 1 ?_
 refine iA (((k : Nat) : Int) < (qB o : Nat)) rfl (fun y1 => ?_) (fun y1 => ?_)
 ·refine go 1 ?_
  refine sq (TC (E := bB) (l := (([a, b] : List NB).drop 0).take (qB o)) (j := k) vF (Rd.sub (HL.rd (k := 1) rfl B0) 0 (qB o) (m := 2) (fun e => by first | exact absurd e om | (rw [show qB o = 0 by omega]; rfl))) rfl rfl vo (by first | rfl | omega | (simp; omega) | (simp at *; omega)) (by rw [List.length_take, List.length_drop]; show k < min (qB o) (2 - 0); omega)) (sq (((AD (E := bB) (l := (([a, b] : List NB).drop 0).take (qB o)) (j := k) (v := ((([a, b] : List NB).drop 0).take (qB o)).getD k kB) eV (Rd.sub (HL.rd (k := 1) rfl B0) 0 (qB o) (m := 2) (fun e => by first | exact absurd e om | (rw [show qB o = 0 by omega]; rfl))) rfl rfl (QA (by rw [List.length_take, List.length_drop]; show k < min (qB o) (2 - 0); omega))).as (v' := .agg (uA E64 [(((([a, b] : List NB).drop 0).take (qB o)).getD k kB).1, (((([a, b] : List NB).drop 0).take (qB o)).getD k kB).2]).toArray) rfl).as (v' := .agg (uA E64 [((if k = 0 then a else b)).1, ((if k = 0 then a else b)).2]).toArray) (by rw [LW a b k (qB o) om om])) ?_)
  refine go 1 ?_
  intro D0 j3 k3 l3 m3
  refine go 2 ?_
  intro n3 z1 o3
  refine go 1 ?_
  refine AA (σ := Nat × Option Nat × Nat × LV) (fun (i, km, cm, sm) => [(10, pT e0), (11, pT f0), (12, pT h0), (13, pT j0), (15, .slice d0.zs.a d0.zs.n d0.zs.c), (16, u64 (XP q)), (17, sO y0 tb.length J0), (18, sO z0 ot.length K0), (20, sO km (128 * k + i) cm), (21, iN k), (22, pT D0), (62, .slice (if 2 = 0 then sA (some b0) else oC (sA (some b0)) (0 * 2)) (qB o) (2 - 0)), (63, iN (qB o)), (64, iN k), (69, iN i)]) (fun (i, km, cm, sm) w' => (i ≤ 64 ∧ Sl bB km (cJ δ zs os0 os1 a b k ++ YK δ zs k (if k = 0 then a else b).1 i) cm sm) ∧ Hp No w w' [(km, qA bB 83 (cJ δ zs os0 os1 a b k ++ YK δ zs k (if k = 0 then a else b).1 i) sm), (rX D0 E64 ([((if k = 0 then a else b)).1, ((if k = 0 then a else b)).2]) 87), x3, x5, x7, (rC j0 #[iN (128 * qB o), sO c0 ((SA o).1.length) i0, .slice x4 64 64] 104), x6, (rX l0 EI ((SA o).2) 145), (rX h0 E64 ([0#64, 0#64]) 87), (rX f0 E64 ([(δ).1, (δ).2]) 83), (rC e0 x1 92), (rX p0 E64 ([b.1, b.2]) 87), (rX o0 E64 ([a.1, a.2]) 87), (rC n0 x2 36)]) (fun (i, km, cm, sm) => 64 - i) ((0, kl, cl, sl)) ?_ ?_ ?_
  ·exact kp
  ·exact ⟨⟨Nat.zero_le _, by rw [YK, List.append_nil]; exact hSl⟩, by rw [YK, List.append_nil]; exact (z1.pk 14 [1, 0, 2, 3, 4, 5, 6, 7, 8, 9, 10, 11, 12, 13])⟩
  rintro ⟨i, km, cm, sm⟩ ρ A1 ⟨⟨hi, hSm⟩, HM⟩
  refine go 1 ?_
  refine iA (((i : Nat) : Int) < (64 : Int)) rfl (fun B1 => ?_) (fun B1 => ?_)
  ·refine go 2 ?_
   let q0 : List RW := [(rX D0 E64 ([((if k = 0 then a else b)).1, ((if k = 0 then a else b)).2]) 87), x3, x5, x7, (rC j0 #[iN (128 * qB o), sO c0 ((SA o).1.length) i0, .slice x4 64 64] 104), x6, (rX l0 EI ((SA o).2) 145), (rX h0 E64 ([0#64, 0#64]) 87), (rX f0 E64 ([(δ).1, (δ).2]) 83), (rC e0 x1 92), (rX p0 E64 ([b.1, b.2]) 87), (rX o0 E64 ([a.1, a.2]) 87), (rC n0 x2 36)]
   let M0 := fun (a0 : Nat) => (((some a0), qA bB 83 ([lx (zs.getD (128 * k + i) kB) (lw (decide ((((((if k = 0 then a else b)).1) >>> (i : Nat)) &&& (1#64)) = (1#64))) δ)] : List NB) ([])) : RW)
   let Q0 := ((km, qA bB 83 (cJ δ zs os0 os1 a b k ++ YK δ zs k (if k = 0 then a else b).1 i) sm) : RW)
   let N0 := fun (a0 : Nat) => (Sl bB (some a0) ([lx (zs.getD (128 * k + i) kB) (lw (decide ((((((if k = 0 then a else b)).1) >>> (i : Nat)) &&& (1#64)) = (1#64))) δ)] : List NB) 1 ([]) : Prop)
   let C1 : mC := [nC false false fun _ _ w' => Hp No w w' (Q0 :: q0), nC true false fun v16 _ w' => ∃ a0, v16 = sO (some a0) 1 1 ∧ (N0 a0) ∧ Hp No w w' ((M0 a0) :: Q0 :: q0), nC true true fun v16 v17 w' => ∃ a0 r0 E0 F0, v16 = sO (some a0) 1 1 ∧ v17 = sO r0 ((128 * k + i) + 1) E0 ∧ (N0 a0) ∧ Sl bB r0 (cJ δ zs os0 os1 a b k ++ YK δ zs k (if k = 0 then a else b).1 (i + 1)) E0 F0 ∧ Hp No w w' ((M0 a0) :: (r0, qA bB 83 (cJ δ zs os0 os1 a b k ++ YK δ zs k (if k = 0 then a else b).1 (i + 1)) F0) :: q0)]
   refine MA (m := 19) [0, 0, 0, 4, 0, 28, 62, 126, 0, 0, 512, 0, 3584, 7680, 15872, 32766, 65534, 131071, 262143] [16, 17] q0 C1 BA (fun _ e => HM.ext e) EC (fun R0 => ?_)
   refine gk 15 ?_
   refine kE (.agg (uA E64 [(lx (zs.getD (128 * k + i) kB) (lw (decide ((((((if k = 0 then a else b)).1) >>> (i : Nat)) &&& (1#64)) = (1#64))) δ)).1, (lx (zs.getD (128 * k + i) kB) (lw (decide ((((((if k = 0 then a else b)).1) >>> (i : Nat)) &&& (1#64)) = (1#64))) δ)).2]).toArray) (fun _ uw hcx => Gives.call rfl (cA vF rfl) (Gb.dI (zs.getD (128 * k + i) kB) δ (decide ((((((if k = 0 then a else b)).1) >>> (i : Nat)) &&& (1#64)) = (1#64))) uw)) (WalkT.eff R0 0 ?_ ?_)
   ·refine tA fun r w0 uw hF hE => ?_
    have p3 := hF.ext hE
    exact gW fun Q' hK => (bS (E := bB) (l := ([lx (zs.getD (128 * k + i) kB) (lw (decide ((((((if k = 0 then a else b)).1) >>> (i : Nat)) &&& (1#64)) = (1#64))) δ)] : List NB)) fun D1 q3 E1 F1 r3 => hK _ _ (E_ D1 (A_ rfl (A_ E1 F1))))
   refine WalkT.eff R0 1 ?_ ?_
   ·refine tA fun r w0 uw hF hE => ?_
    obtain ⟨a0, G0, O0, S0⟩ := hF
    replace S0 := S0.ext hE
    dsimp only
    rw [G0]
    refine gW fun Q' hK => ?_
    refine OD ?_
    refine ⟨by rw [List.length_append, FH, BJ], by rfl, om, ?_⟩
    intro G1 H1 I1 s3 J1 t3 K1
    have L1 : (cJ δ zs os0 os1 a b k ++ YK δ zs k (if k = 0 then a else b).1 i) ++ ([lx (zs.getD (128 * k + i) kB) (lw (decide ((((((if k = 0 then a else b)).1) >>> (i : Nat)) &&& (1#64)) = (1#64))) δ)] : List NB) = cJ δ zs os0 os1 a b k ++ YK δ zs k (if k = 0 then a else b).1 (i + 1) := by rw [YK, List.append_assoc]
    have T0 := J1
    have U0 := K1
    rw [L1] at T0 U0
    exact hK _ _ (E_ a0 (E_ G1 (E_ H1 (E_ I1 (A_ G0 (A_ rfl (A_ O0 (A_ T0 U0))))))))
   refine bA (fun r => r 17) (fun r r' h => h 17 (by decide) rfl) (fun _ _ => zA rfl) (WalkT.nil fun r w0 u3 hF hE => ?_)
   obtain ⟨a0, r0, E0, F0, G0, M1, O0, N1, H0⟩ := hF
   replace H0 := H0.ext hE
   dsimp only
   rw [G0, M1]
   dsimp only [N0] at O0
   dsimp only [q0, M0] at H0
   refine go 2 ?_
   exact ⟨(i + 1, r0, E0, F0), _, rfl, kp, ⟨⟨om, N1⟩, (H0.dropk 0)⟩, vd⟩
  ·obtain rfl : i = 64 := by omega
   refine go 0 ?_
   refine uB (K := [none, none, none, none, none, none, none, none, none, none, none, none, none, none, none, none, none, none, none, none]) [0, 1, 3, 0, 8, 0, 32, 96, 255, 0, 512, 1536, 0, 4096, 0, 16384, 49152, 130560, 511, 524287] (fun w' => Ext A1 w') (fun w' w'' => Ext w' w'') BA (by kernel_rfl) (Ext.drew _) (fun _ _ h h' => h.trans h') ?_ ?_
   ·exact xB (by decide)
   refine gk 8 ?_
   refine ⟨.slice (if d1.os.c = 64 * k then d1.os.a else oC d1.os.a ((64 * k) * 5)) 64 (d1.os.c - (64 * k)), fun _ w3 y3 _ => Gives.run rfl ((SC (l := 64 * k) (h := 64 * k + 64) vF rfl (.inl ⟨_, _, _, rfl, rfl, by first | rfl | omega | (simp; omega)⟩) (.inl ⟨_, _, _, rfl, rfl, by first | rfl | omega | (simp; omega)⟩) om om).as (v' := .slice (if d1.os.c = 64 * k then d1.os.a else oC d1.os.a ((64 * k) * 5)) 64 (d1.os.c - (64 * k))) (by rw [show (64 * k + 64) - (64 * k) = 64 by omega])) ⟨rfl, Chg.refl _ _⟩, ?_⟩
   refine gk 8 ?_
   refine ⟨.slice (if d0.os.c = 64 * k then d0.os.a else oC d0.os.a ((64 * k) * 5)) 64 (d0.os.c - (64 * k)), fun _ z3 A3 _ => Gives.run rfl ((SC (l := 64 * k) (h := 64 * k + 64) vF rfl (.inl ⟨_, _, _, rfl, rfl, by first | rfl | omega | (simp; omega)⟩) (.inl ⟨_, _, _, rfl, rfl, by first | rfl | omega | (simp; omega)⟩) om om).as (v' := .slice (if d0.os.c = 64 * k then d0.os.a else oC d0.os.a ((64 * k) * 5)) 64 (d0.os.c - (64 * k))) (by rw [show (64 * k + 64) - (64 * k) = 64 by omega])) ⟨rfl, Chg.refl _ _⟩, ?_⟩
   refine gk 2 ?_
   intro r230 O1 P1 hF
   have V0 := HM.ext P1
   have hml : ((os1.drop (64 * k)).take 64).length = 64 := by rw [List.length_take, List.length_drop]; omega
   have htl : ((os0.drop (64 * k)).take 64).length = 64 := by rw [List.length_take, List.length_drop]; omega
   have hzl2 : ((zs.drop (128 * k + 64)).take 64).length = 64 := by rw [List.length_take, List.length_drop]; omega
   refine go 3 ?_
   refine Vc.cl (Gb.mV ((os1.drop (64 * k)).take (64)) (if d1.os.c = 64 * k then d1.os.a else oC d1.os.a ((64 * k) * 5)) 64 (d1.os.c - (64 * k)) (by first | rfl | omega | (simp; omega) | (simp at *; omega)) hml (((if k = 0 then a else b)).2) O1 (Rd.sub (hO1.ext V0.chg) (64 * k) (64) (m := d1.os.c) (fun e => by first | exact absurd e om | (rw [show 64 = 0 by omega]; rfl)))) ?_
   rintro _ B3 ⟨rfl, Q1⟩
   have R1 := V0.ext Q1
   refine go 5 ?_
   let I0 : List RW := [(km, qA bB 83 (cJ δ zs os0 os1 a b k ++ YK δ zs k (if k = 0 then a else b).1 64) sm), (rX D0 E64 ([((if k = 0 then a else b)).1, ((if k = 0 then a else b)).2]) 87), x3, x5, x7, (rC j0 #[iN (128 * qB o), sO c0 ((SA o).1.length) i0, .slice x4 64 64] 104), x6, (rX l0 EI ((SA o).2) 145), (rX h0 E64 ([0#64, 0#64]) 87), (rX f0 E64 ([(δ).1, (δ).2]) 83), (rC e0 x1 92), (rX p0 E64 ([b.1, b.2]) 87), (rX o0 E64 ([a.1, a.2]) 87), (rC n0 x2 36)]
   let S1 : mC := [XF false fun _ w' => Hp No w w' I0, XF true fun v11 w' => ∃ k0 m0 s0, v11 = .tuple #[sO k0 128 m0, .nilIface] ∧ Sl bB k0 (xD ((os0.drop (64 * k)).take (64)) (IF ((os1.drop (64 * k)).take (64)) (((if k = 0 then a else b)).2) 64) ((zs.drop (128 * k + 64)).take (64)) δ 64) m0 s0 ∧ Hp No w w' ((k0, qA bB 83 (xD ((os0.drop (64 * k)).take (64)) (IF ((os1.drop (64 * k)).take (64)) (((if k = 0 then a else b)).2) 64) ((zs.drop (128 * k + 64)).take (64)) δ 64) s0) :: I0)]
   refine MA (m := 17) [0, 0, 0, 0, 8, 24, 0, 64, 192, 508, 0, 2047, 4095, 8191, 8191, 16383, 65535] [11] I0 S1 BA (fun _ e => R1.ext e) EC (fun T1 => ?_)
   refine gk 9 ?_
   refine ZB (.slice (if d0.zs.c = 128 * k + 64 then d0.zs.a else oC d0.zs.a ((128 * k + 64) * 2)) 64 (d0.zs.c - (128 * k + 64))) (fun _ uw hcx => (SC (l := 128 * k + 64) (h := 128 * k + 128) vF rfl (.inl ⟨_, _, _, rfl, rfl, by first | rfl | omega | (simp; omega)⟩) (.inl ⟨_, _, _, rfl, rfl, by first | rfl | omega | (simp; omega)⟩) om om).as (v' := .slice (if d0.zs.c = 128 * k + 64 then d0.zs.a else oC d0.zs.a ((128 * k + 64) * 2)) 64 (d0.zs.c - (128 * k + 64))) (by rw [show (128 * k + 128) - (128 * k + 64) = 64 by omega])) ?_
   refine gk 1 ?_
   refine WalkT.eff T1 0 ?_ ?_
   ·refine tA fun r w0 uw hF hE => ?_
    have P0 := hF.ext hE
    refine gW fun Q' hK => (Vc.cl (Gb.YO ((os0.drop (64 * k)).take (64)) (if d0.os.c = 64 * k then d0.os.a else oC d0.os.a ((64 * k) * 5)) 64 (d0.os.c - (64 * k)) (by first | rfl | omega | (simp; omega) | (simp at *; omega)) htl (IF ((os1.drop (64 * k)).take (64)) (((if k = 0 then a else b)).2) 64) ((zs.drop (128 * k + 64)).take (64)) (if d0.zs.c = 128 * k + 64 then d0.zs.a else oC d0.zs.a ((128 * k + 64) * 2)) 64 (d0.zs.c - (128 * k + 64)) (by first | rfl | omega | (simp; omega) | (simp at *; omega)) hzl2 δ uw (Rd.sub (hO0.ext P0.chg) (64 * k) (64) (m := d0.os.c) (fun e => by first | exact absurd e om | (rw [show 64 = 0 by omega]; rfl))) (Rd.sub (hZ.ext P0.chg) (128 * k + 64) (64) (m := d0.zs.c) (fun e => by first | exact absurd e om | (rw [show 64 = 0 by omega]; rfl)))) ?_)
    rintro _ C3 ⟨U1, V1, W1, rfl, X1, Y1⟩
    have Z1 := (P0.join Y1).a15 rfl
    exact hK _ _ (E_ U1 (E_ V1 (E_ W1 (A_ rfl (A_ X1 Z1)))))
   refine bA (fun r => r 11) (fun r r' h => h 11 (by decide) rfl) (fun _ _ => CA rfl) (aA (fun r => AB (r 11) 0) (fun r r' h => by rw [h 11 (by decide) rfl]) ?_ ?_)
   ·refine tA fun r w0 uw hF hE => ?_
    obtain ⟨k0, m0, s0, u0, W0, HH⟩ := hF
    replace HH := HH.ext hE
    dsimp only
    rw [u0]
    exact xC
   refine aA (fun r => AB (r 11) 1) (fun r r' h => by rw [h 11 (by decide) rfl]) ?_ ?_
   ·refine tA fun r w0 uw hF hE => ?_
    obtain ⟨k0, m0, s0, u0, W0, HH⟩ := hF
    replace HH := HH.ext hE
    dsimp only
    rw [u0]
    exact xC
   refine bA (fun r => AB (r 11) 0) (fun r r' h => by rw [h 11 (by decide) rfl]) (fun _ _ => zA rfl) (bA (fun r => AB (r 11) 1) (fun r r' h => by rw [h 11 (by decide) rfl]) (fun _ _ => zA rfl) (WalkT.nil fun r w0 c2 hF hE => ?_))
   obtain ⟨k0, m0, s0, u0, W0, x0⟩ := hF
   replace x0 := x0.ext hE
   dsimp only
   rw [u0]
   dsimp only [I0] at x0
   refine go 4 ?_
   refine Vc.cl (Gb.ER ((os1.drop (64 * k)).take (64)) (if d1.os.c = 64 * k then d1.os.a else oC d1.os.a ((64 * k) * 5)) 64 (d1.os.c - (64 * k)) (by first | rfl | omega | (simp; omega) | (simp at *; omega)) hml (((if k = 0 then a else b)).2) (xD ((os0.drop (64 * k)).take (64)) (IF ((os1.drop (64 * k)).take (64)) (((if k = 0 then a else b)).2) 64) ((zs.drop (128 * k + 64)).take (64)) δ 64) (sA k0) 128 m0 (by rw [Gb.mF]) (Gb.mF _ _ _ _ _) c2 (Rd.sub (hO1.ext x0.chg) (64 * k) (64) (m := d1.os.c) (fun e => by first | exact absurd e om | (rw [show 64 = 0 by omega]; rfl))) IC) ?_
   rintro _ D3 ⟨E3, F3, G3, rfl, H3, d2⟩
   have I3 := (x0.join d2).a16 rfl
   refine go 7 ?_
   refine OD ?_
   refine ⟨by rw [List.length_append, FH, BJ], by rw [Gb.FE], om, ?_⟩
   intro f2 g2 h2 J3 i2 K3 j2
   have k2 : (cJ δ zs os0 os1 a b k ++ YK δ zs k (if k = 0 then a else b).1 64) ++ (RC ((os1.drop (64 * k)).take (64)) (((if k = 0 then a else b)).2) (xD ((os0.drop (64 * k)).take (64)) (IF ((os1.drop (64 * k)).take (64)) (((if k = 0 then a else b)).2) 64) ((zs.drop (128 * k + 64)).take (64)) δ 64) 64) = cJ δ zs os0 os1 a b (k + 1) := by rw [cJ, List.append_assoc]; rfl
   have X0 := i2
   have Y0 := j2
   rw [k2] at X0 Y0
   refine go 3 ?_
   exact ⟨(k + 1, f2, g2, h2), _, rfl, kp, ⟨⟨om, X0⟩, (((Y0.dropk 3).dropk 1).dropk 0)⟩, vd⟩
 ·obtain rfl : k = qB o := by omega
  have hln : ((cJ δ zs os0 os1 a b (qB o)).length : Int) = ((128 * qB o : Nat) : Int) := by rw [FH]
  have htbl : tb.length = 2 * FB (SA o).1 (SA o).1.length := by rw [htb]; exact Gb.dS (fun i hi => by have := hA.is.gok i hi; unfold uD at this; omega) _ (Nat.le_refl _)
  have hot1 : ot.length = (SA o).2.length := by rw [hot, Gb.UF]
  refine go 4 ?_
  refine Vc.cl (kQ ((128 * qB o) : Nat) ((SA o).1) ((SA o).2) (sA c0) x4 i0 64 ((SA o).1.length) 64 (by rfl) (by exact (SE _).symm) (cJ δ zs os0 os1 a b (qB o)) tb (sA kl) (sA y0) cl J0 (XP q) (128 * (qB o)) tb.length (by exact (FH _ _ _ _ _ _ _).symm) (by first | rfl | omega | (simp; omega) | (simp at *; omega)) w1 uC IC (Rd.row gF) om om IC IC hA.is hln htbl) ?_
  rintro _ l2 ⟨m2, n2, L3, rfl, o2, Z0⟩
  obtain ⟨el, hel⟩ : ∃ x, x = oL (eS Gb.kA (XP q) (SA o).1 tb (cJ δ zs os0 os1 a b (qB o)) (SA o).1.length).1 (SA o).2 (SA o).2.length := ⟨_, rfl⟩
  rw [← hel] at o2 Z0
  have p2 := (HL.join Z0).a14 rfl
  have hell : el.length = (SA o).2.length := by rw [hel, Gb.UF]
  refine go 6 ?_
  refine Vc.cl (Gb.oI ot (sA z0) ot.length K0 (by first | rfl | omega | (simp; omega) | (simp at *; omega)) om l2 IC) ?_
  rintro _ q2 ⟨rfl, r2⟩
  have s2 := p2.ext r2
  refine go 1 ?_
  refine Vc.cl (Gb.oI el (sA m2) ((SA o).2.length) n2 (by exact hell.symm) om q2 IC) ?_
  rintro _ M3 ⟨rfl, t2⟩
  have N3 := s2.ext t2
  refine go 2 ?_
  intro O3 u2 P3
  refine go 0 ?_
  have hr : vL Gb.kA o q a b δ zs os0 os1 = (jH ot (min ot.length 64), jH el (min el.length 64)) := by
   rw [vL, hell, hA.outs, Nat.min_self, show ot.length = 64 by rw [hot, Gb.UF, hA.outs], Nat.min_self, hot, hel, htb, hA.outs]
  exact ⟨_, rfl, by rw [hr] <;> rfl, u2.chg⟩
end Go.Proofs.YtohngnahcgbfmaaGreatDoor.Ms
namespace Go.Proofs.YtohngnahcgbfmaaGreatDoor.Ms
open Go Vc Er Ek Circ Mi
open Co Cm
open Go.Proofs.YtohngnahcgbfmaaGreatDoor (Gb.kA)
open Gb (kB lx lw gS eS oL jH IF xD RC)
theorem BQ : jD Tryz.prog 24 = some (2, 1) := by kernel_rfl
theorem call50 : mA Tryz.prog 50 = true := by kernel_rfl
theorem eM : NA Tryz.prog 23 = true := by kernel_rfl
theorem nK : eD Tryz.prog 23 = some (34, 1) := by kernel_rfl
theorem xP (o : Mo) (q : Int) (a b : W2) (in0 in1 : List (BitVec 64)) (na0 na1 : Option Addr) (nc0 nc1 : Nat) (d0 d1 : Dr) (δ : W2) (zs : List Mi.Lb) (os0 os1 : List Ot) (hkp : KdP o in0.length in1.length) (w : World) (hG : Gl w) (hN0 : Rd E64 w na0 in0) (hN1 : Rd E64 w na1 in1) (hgar : o.kd = 17 → GarP o d0 d1 zs os0 os1 δ) (hrds : o.kd = 17 → Rd bB w d0.zs.a zs ∧ Rd zB w d0.os.a os0 ∧ Rd zB w d1.os.a os1) : Ca 29 [.agg #[i64 (o.kd), i64 (o.a), i64 (o.b), i64 (o.k), u64 (o.c), i64 (o.pt)], i64 q, .agg (uA E64 [a.1, a.2]).toArray, .agg (uA E64 [b.1, b.2]).toArray, .agg #[.slice na0 in0.length nc0, .slice na1 in1.length nc1], .agg #[u64 (d0.w), u64 (d0.t.a), u64 (d0.t.b), u64 (d0.t.c), .slice d0.os.a d0.os.n d0.os.c, .slice d0.zs.a d0.zs.n d0.zs.c, u64 (d1.w), u64 (d1.t.a), u64 (d1.t.b), u64 (d1.t.c), .slice d1.os.a d1.os.n d1.os.c, .slice d1.zs.a d1.zs.n d1.zs.c], .agg (uA E64 [(δ).1, (δ).2]).toArray] w fun v w' => v = .agg (uA E64 [(pD Gb.kA o q a b in0 in1 d0.w d1.w d0.t d1.t δ zs os0 os1).1, (pD Gb.kA o q a b in0 in1 d0.w d1.w d0.t d1.t δ zs os0 os1).2]).toArray ∧ Ext w w' := by
 let x6 : Array Value := #[u64 0#64, u64 0#64, u64 0#64]
 let x5 : Array Value := #[u64 (d1.t.a), u64 (d1.t.b), u64 (d1.t.c)]
 let x4 : Array Value := #[u64 (d0.t.a), u64 (d0.t.b), u64 (d0.t.c)]
 let x3 : Array Value := #[.slice na0 in0.length nc0, .slice na1 in1.length nc1]
 let x2 : Array Value := #[i64 (o.kd), i64 (o.a), i64 (o.b), i64 (o.k), u64 (o.c), i64 (o.pt)]
 let x1 : Array Value := #[u64 (d0.w), u64 (d0.t.a), u64 (d0.t.b), u64 (d0.t.c), .slice d0.os.a d0.os.n d0.os.c, .slice d0.zs.a d0.zs.n d0.zs.c, u64 (d1.w), u64 (d1.t.a), u64 (d1.t.b), u64 (d1.t.c), .slice d1.os.a d1.os.n d1.os.c, .slice d1.zs.a d1.zs.n d1.zs.c]
 have hk := hkp.k0
 have H := Hp.start No w
 refine enter (n := 211) Tryz.func29 rfl rfl (dB rfl) ?_
 refine go 1 ?_
 intro z0 P1 Q1 R1 S1
 refine go 1 ?_
 intro A0 T1 U1 V1 W1
 refine go 1 ?_
 intro B0 X1 Y1 Z1 c2
 refine go 1 ?_
 intro h0 d2 e2 f2 g2
 refine go 1 ?_
 intro i0 h2 i2 j2 k2
 refine go 1 ?_
 intro C0 l2 m2 n2 o2
 refine go 1 ?_
 intro D0 p2 q2 N0 r2
 refine go 0 ?_
 let f0 : List RW := [(rX D0 E64 ([0#64, 0#64]) 87), (rX C0 E64 ([(δ).1, (δ).2]) 83), (rC i0 x1 92), (rC h0 x3 24), (rX B0 E64 ([b.1, b.2]) 87), (rX A0 E64 ([a.1, a.2]) 87), (rC z0 x2 36)]
 let F0 := fun (b0 : Nat) => ((rC b0 x6 66) : RW)
 let G0 := fun (a0 : Nat) => ((rC a0 x6 66) : RW)
 let E0 := fun (a0 : Nat) => ((rC a0 x4 66) : RW)
 let O0 : mC := [RD false false false false fun _ _ _ _ w' => Hp No w w' f0, RD true false false false fun v6 _ _ _ w' => ∃ a0, v6 = pT a0 ∧ Hp No w w' ((G0 a0) :: f0), RD false true false false fun _ v7 _ _ w' => ∃ s0, v7 = pT s0 ∧ Hp No w w' ((rC s0 x6 66) :: f0), RD true true false false fun v6 v7 _ _ w' => ∃ a0 b0, v6 = pT a0 ∧ v7 = pT b0 ∧ Hp No w w' ((F0 b0) :: (G0 a0) :: f0), RD true true true false fun v6 v7 _ _ w' => ∃ a0 b0, v6 = pT a0 ∧ v7 = pT b0 ∧ Hp No w w' ((F0 b0) :: (E0 a0) :: f0), RD true true true true fun v6 v7 _ _ w' => ∃ a0 b0, v6 = pT a0 ∧ v7 = pT b0 ∧ Hp No w w' ((rC b0 x5 66) :: (E0 a0) :: f0)]
 refine MA (m := 10) [0, 1, 3, 0, 8, 24, 0, 0, 199, 511] [6, 7, 8, 9] f0 O0 BA (fun _ e => N0.ext e) EC (fun u0 => ?_)
 refine gk 6 ?_
 refine WalkT.eff u0 0 ?_ ?_
 ·refine tB (fun r w0 uw hF hE => ?_) fun r w0 uw hF hE => ?_
  ·have s2 := hF.ext hE
   refine gW fun Q' hK => ?_
   refine go 1 ?_
   intro P0 t2 u2 Q0 w2
   exact hK _ _ (E_ P0 (A_ rfl Q0))
  ·obtain ⟨s0, e7, H0⟩ := hF
   replace H0 := H0.ext hE
   refine gW fun Q' hK => ?_
   refine go 1 ?_
   intro R0 y2 z2 S0 A2
   exact hK _ _ (E_ R0 (E_ s0 (A_ rfl (A_ e7 ((S0.pk 2 [1, 0]))))))
 refine WalkT.eff u0 1 ?_ ?_
 ·refine tB (fun r w0 uw hF hE => ?_) fun r w0 uw hF hE => ?_
  ·have B2 := hF.ext hE
   refine gW fun Q' hK => ?_
   refine go 1 ?_
   intro T0 C2 D2 U0 E2
   exact hK _ _ (E_ T0 (A_ rfl U0))
  ·obtain ⟨a0, e6, I0⟩ := hF
   replace I0 := I0.ext hE
   refine gW fun Q' hK => ?_
   refine go 1 ?_
   intro V0 F2 G2 W0 H2
   exact hK _ _ (E_ a0 (E_ V0 (A_ e6 (A_ rfl W0))))
 refine WalkT.eff u0 2 ?_ ?_
 ·refine tA fun r w0 uw hF hE => ?_
  obtain ⟨a0, b0, e6, e7, J0⟩ := hF
  replace J0 := J0.ext hE
  dsimp only
  rw [e6]
  refine MC fun Q' hK => ?_
  refine go 1 ?_
  intro I2 X0 J2
  exact hK _ (fun _ => (E_ a0 (E_ b0 (A_ e6 (A_ e7 X0)))))
 refine WalkT.eff u0 3 ?_ ?_
 ·refine tA fun r w0 uw hF hE => ?_
  obtain ⟨a0, b0, e6, e7, K0⟩ := hF
  replace K0 := K0.ext hE
  dsimp only
  rw [e7]
  refine MC fun Q' hK => ?_
  refine go 1 ?_
  intro K2 Y0 L2
  exact hK _ (fun _ => (E_ a0 (E_ b0 (A_ e6 (A_ e7 Y0)))))
 refine WalkT.nil fun r w0 x0 hF hE => ?_
 obtain ⟨a0, b0, e6, e7, e0⟩ := hF
 replace e0 := e0.ext hE
 dsimp only
 rw [e6, e7]
 dsimp only [f0, E0] at e0
 refine go 4 ?_
 refine iA ((o.kd : Int) = (1 : Int)) rfl (fun k1 => ?_) (fun k1 => ?_)
 ·have M2 := hkp.k k1
  by_cases hp : o.pt = 0
  ·refine go 2 ?_
   refine sq (IA (off' := 0) (j := 0) vF (b := i0) (off := 0) rfl rfl vo om om) (sq (rA (off' := 0) vF (by decide) (b := i0) (off := 0) rfl om) (sq (DA (v := u64 (d0.w)) vF (e0.get (k := 4) rfl) (off := 0) rfl (by rfl)) ?_))
   refine go 2 ?_
   intro j0 N2 O2 Z0 P2
   refine go 0 ?_
   let o0 : List RW := [(rC b0 x5 66), (rC a0 x4 66), (rX D0 E64 ([0#64, 0#64]) 87), (rX C0 E64 ([(δ).1, (δ).2]) 83), (rC i0 x1 92), (rC h0 x3 24), (rX B0 E64 ([b.1, b.2]) 87), (rX A0 E64 ([a.1, a.2]) 87), (rC z0 x2 36)]
   let e1 : mC := [nC false false fun _ _ w' => Hp No w w' ((rX j0 E64 ([0#64, 0#64]) 87) :: o0), nC true false fun _ _ w' => Hp No w w' ((rX j0 E64 ([d0.w, 0#64]) 87) :: o0), nC true true fun _ _ w' => Hp No w w' ((rX j0 E64 ([d0.w, (in0.getD o.k.toNat 0#64) - d0.w]) 87) :: o0)]
   refine MA (m := 20) [0, 1, 0, 4, 12, 0, 0, 64, 192, 448, 0, 1024, 4032, 8128, 0, 32704, 35, 65571, 262143, 524287] [17, 19] o0 e1 BA (fun _ e => Z0.ext e) EC (fun L0 => ?_)
   refine gk 8 ?_
   refine ZB (pT h0) (fun _ uw hcx => IA (off' := 0) (j := 0) vF (b := h0) (off := 0) rfl rfl vo om om) (ZB (.slice na0 in0.length nc0) (fun _ uw hcx => DA (v := .slice na0 in0.length nc0) vF (hcx.get (k := 5) rfl) (off := 0) rfl (by rfl)) ?_)
   refine gk 6 ?_
   refine ZB (pT j0) (fun _ uw hcx => IA (off' := 0) (j := 0) vF (b := j0) (off := 0) rfl rfl vo om om) (WalkT.eff L0 0 ?_ ?_)
   ·refine tA fun r w0 uw hF hE => ?_
    have g1 := hF.ext hE
    refine MC fun Q' hK => (GA (k := 0) (v := u64 (d0.w)) (cs' := (uA E64 ([d0.w, 0#64])).toArray) g1 rfl rfl rfl vF (by rfl) (by exact E64.one _) (by rw [List.size_toArray, oA]; show _ ≤ _ * 1; first | omega | (simp only [List.length_set]; omega) | exact dB rfl | (simp <;> omega)) (by exact wI (E := E64) rfl _ _ _) fun Q2 h1 R2 => ?_)
    have i1 := h1.a10 rfl
    exact hK _ (fun _ => i1)
   refine ZB (.pointer (some ⟨j0, 1, none⟩)) (fun _ uw hcx => IA (off' := 1) (j := 1) vF (b := j0) (off := 0) rfl rfl vo om om) (WalkT.eff L0 1 ?_ ?_)
   ·refine tA fun r w0 uw hF hE => ?_
    have j1 := hF.ext hE
    refine MC fun Q' hK => (GA (k := 0) (v := u64 ((in0.getD o.k.toNat 0#64) - d0.w)) (cs' := (uA E64 ([d0.w, (in0.getD o.k.toNat 0#64) - d0.w])).toArray) j1 rfl rfl rfl vF (by rfl) (by exact E64.one _) (by rw [List.size_toArray, oA]; show _ ≤ _ * 1; first | omega | (simp only [List.length_set]; omega) | exact dB rfl | (simp <;> omega)) (by exact wI (E := E64) rfl _ _ _) fun S2 m1 T2 => ?_)
    have o1 := m1.a10 rfl
    exact hK _ (fun _ => o1)
   refine WalkT.nil fun r w0 U2 hF hE => ?_
   have p1 := hF.ext hE
   dsimp only
   dsimp only [o0] at p1
   refine go 2 ?_
   intro V2 q1 X2
   refine go 0 ?_
   have hr : pD Gb.kA o q a b in0 in1 d0.w d1.w d0.t d1.t δ zs os0 os1 = (d0.w, (in0.getD o.k.toNat 0#64) - d0.w) := by rw [pD, if_pos k1, if_pos hp] <;> rfl
   exact ⟨_, rfl, by rw [hr] <;> rfl, q1.chg⟩
  ·refine go 0 ?_
   have hp1 : o.pt = 1 := by omega
   refine go 2 ?_
   refine sq (IA (off' := 6) (j := 1) vF (b := i0) (off := 0) rfl rfl vo om om) (sq (rA (off' := 6) vF (by decide) (b := i0) (off := 6) rfl om) (sq (DA (v := u64 (d1.w)) vF (e0.get (k := 4) rfl) (off := 6) rfl (by rfl)) ?_))
   refine go 2 ?_
   intro m0 Y2 Z2 r1 c3
   refine go 0 ?_
   let p0 : List RW := [(rC b0 x5 66), (rC a0 x4 66), (rX D0 E64 ([0#64, 0#64]) 87), (rX C0 E64 ([(δ).1, (δ).2]) 83), (rC i0 x1 92), (rC h0 x3 24), (rX B0 E64 ([b.1, b.2]) 87), (rX A0 E64 ([a.1, a.2]) 87), (rC z0 x2 36)]
   let s1 : mC := [nC false false fun _ _ w' => Hp No w w' ((rX m0 E64 ([0#64, 0#64]) 87) :: p0), nC true false fun _ _ w' => Hp No w w' ((rX m0 E64 ([0#64, d1.w]) 87) :: p0), nC true true fun _ _ w' => Hp No w w' ((rX m0 E64 ([(in1.getD o.k.toNat 0#64) - d1.w, d1.w]) 87) :: p0)]
   refine MA (m := 20) [0, 1, 0, 4, 12, 0, 0, 64, 192, 448, 0, 1024, 4032, 8128, 0, 32704, 35, 65571, 262143, 524287] [17, 19] p0 s1 BA (fun _ e => r1.ext e) EC (fun M0 => ?_)
   refine gk 8 ?_
   refine ZB (.pointer (some ⟨h0, 1, none⟩)) (fun _ uw hcx => IA (off' := 1) (j := 1) vF (b := h0) (off := 0) rfl rfl vo om om) (ZB (.slice na1 in1.length nc1) (fun _ uw hcx => DA (v := .slice na1 in1.length nc1) vF (hcx.get (k := 5) rfl) (off := 1) rfl (by rfl)) ?_)
   refine gk 6 ?_
   refine ZB (.pointer (some ⟨m0, 1, none⟩)) (fun _ uw hcx => IA (off' := 1) (j := 1) vF (b := m0) (off := 0) rfl rfl vo om om) (WalkT.eff M0 0 ?_ ?_)
   ·refine tA fun r w0 uw hF hE => ?_
    have t1 := hF.ext hE
    refine MC fun Q' hK => (GA (k := 0) (v := u64 (d1.w)) (cs' := (uA E64 ([0#64, d1.w])).toArray) t1 rfl rfl rfl vF (by rfl) (by exact E64.one _) (by rw [List.size_toArray, oA]; show _ ≤ _ * 1; first | omega | (simp only [List.length_set]; omega) | exact dB rfl | (simp <;> omega)) (by exact wI (E := E64) rfl _ _ _) fun d3 u1 e3 => ?_)
    have w1 := u1.a10 rfl
    exact hK _ (fun _ => w1)
   refine ZB (pT m0) (fun _ uw hcx => IA (off' := 0) (j := 0) vF (b := m0) (off := 0) rfl rfl vo om om) (WalkT.eff M0 1 ?_ ?_)
   ·refine tA fun r w0 uw hF hE => ?_
    have y1 := hF.ext hE
    refine MC fun Q' hK => (GA (k := 0) (v := u64 ((in1.getD o.k.toNat 0#64) - d1.w)) (cs' := (uA E64 ([(in1.getD o.k.toNat 0#64) - d1.w, d1.w])).toArray) y1 rfl rfl rfl vF (by rfl) (by exact E64.one _) (by rw [List.size_toArray, oA]; show _ ≤ _ * 1; first | omega | (simp only [List.length_set]; omega) | exact dB rfl | (simp <;> omega)) (by exact wI (E := E64) rfl _ _ _) fun f3 z1 g3 => ?_)
    have A1 := z1.a10 rfl
    exact hK _ (fun _ => A1)
   refine WalkT.nil fun r w0 h3 hF hE => ?_
   have B1 := hF.ext hE
   dsimp only
   dsimp only [p0] at B1
   refine go 2 ?_
   intro i3 C1 j3
   refine go 0 ?_
   have hr : pD Gb.kA o q a b in0 in1 d0.w d1.w d0.t d1.t δ zs os0 os1 = ((in1.getD o.k.toNat 0#64) - d1.w, d1.w) := by rw [pD, if_pos k1, if_neg hp] <;> rfl
   exact ⟨_, rfl, by rw [hr] <;> rfl, C1.chg⟩
 ·refine go 2 ?_
  refine iA ((o.kd : Int) = (6 : Int)) rfl (fun k6 => ?_) (fun k6 => ?_)
  ·refine go 0 ?_
   refine uB (K := [none, none, none, none, none, none, none, none, none, none, none, none, none, none, none, none, none, none, none, none, none, none, none, none]) [0, 1, 0, 4, 15, 0, 32, 127, 0, 256, 1023, 0, 2048, 0, 8192, 30720, 0, 65536, 260096, 0, 524288, 2095104, 2047, 8388607] (fun w' => Ext x0 w') (fun w' w'' => Ext w' w'') BA (by kernel_rfl) (Ext.drew _) (fun _ _ h h' => h.trans h') ?_ ?_
   ·exact xB (by decide)
   refine gk 24 ?_
   intro r274 k3 D1 hF
   have l3 := e0.ext D1
   refine go 30 ?_
   intro m3 E1 n3
   refine go 0 ?_
   have hr : pD Gb.kA o q a b in0 in1 d0.w d1.w d0.t d1.t δ zs os0 os1 = (((d0.t.c + (((((a.1) + (a.2)) - d0.t.a) - d1.t.a) * d0.t.b)) + (((((b.1) + (b.2)) - d0.t.b) - d1.t.b) * d0.t.a)) + (((((a.1) + (a.2)) - d0.t.a) - d1.t.a) * ((((b.1) + (b.2)) - d0.t.b) - d1.t.b)), (d1.t.c + (((((a.1) + (a.2)) - d0.t.a) - d1.t.a) * d1.t.b)) + (((((b.1) + (b.2)) - d0.t.b) - d1.t.b) * d1.t.a)) := by rw [pD, if_neg k1, if_pos k6] <;> rfl
   exact ⟨_, rfl, by rw [hr] <;> rfl, E1.chg⟩
  ·refine go 2 ?_
   refine iA ((o.kd : Int) = (9 : Int)) rfl (fun k9 => ?_) (fun k9 => ?_)
   ·refine go 0 ?_
    refine uB (K := [none, none, none, none, none, none, none, none, none, none, none, none, none, none, none, none, none, none, none, none, none, none, none, none]) [0, 1, 0, 4, 15, 0, 32, 127, 0, 256, 1023, 0, 2048, 0, 8192, 30720, 0, 65536, 260096, 0, 524288, 2095104, 2047, 8388607] (fun w' => Ext x0 w') (fun w' w'' => Ext w' w'') BA (by kernel_rfl) (Ext.drew _) (fun _ _ h h' => h.trans h') ?_ ?_
    ·exact xB (by decide)
    refine gk 24 ?_
    intro r329 o3 F1 hF
    have p3 := e0.ext F1
    refine go 30 ?_
    intro q3 G1 r3
    refine go 0 ?_
    have hr : pD Gb.kA o q a b in0 in1 d0.w d1.w d0.t d1.t δ zs os0 os1 = (((d0.t.c ^^^ (((((a.1) ^^^ (a.2)) ^^^ d0.t.a) ^^^ d1.t.a) &&& d0.t.b)) ^^^ (((((b.1) ^^^ (b.2)) ^^^ d0.t.b) ^^^ d1.t.b) &&& d0.t.a)) ^^^ (((((a.1) ^^^ (a.2)) ^^^ d0.t.a) ^^^ d1.t.a) &&& ((((b.1) ^^^ (b.2)) ^^^ d0.t.b) ^^^ d1.t.b)), (d1.t.c ^^^ (((((a.1) ^^^ (a.2)) ^^^ d0.t.a) ^^^ d1.t.a) &&& d1.t.b)) ^^^ (((((b.1) ^^^ (b.2)) ^^^ d0.t.b) ^^^ d1.t.b) &&& d1.t.a)) := by rw [pD, if_neg k1, if_neg k6, if_pos k9] <;> rfl
    exact ⟨_, rfl, by rw [hr] <;> rfl, G1.chg⟩
   ·refine go 2 ?_
    refine iA ((o.kd : Int) = (18 : Int)) rfl (fun q0 => ?_) (fun q0 => ?_)
    ·refine go 12 ?_
     intro s3 H1 t3
     refine go 0 ?_
     have hr : pD Gb.kA o q a b in0 in1 d0.w d1.w d0.t d1.t δ zs os0 os1 = ((a.1) + (a.2), (a.1) + (a.2)) := by rw [pD, if_neg k1, if_neg k6, if_neg k9, if_pos q0] <;> rfl
     exact ⟨_, rfl, by rw [hr] <;> rfl, H1.chg⟩
    ·refine go 2 ?_
     refine iA ((o.kd : Int) = (19 : Int)) rfl (fun y0 => ?_) (fun y0 => ?_)
     ·refine go 12 ?_
      intro u3 I1 w3
      refine go 0 ?_
      have hr : pD Gb.kA o q a b in0 in1 d0.w d1.w d0.t d1.t δ zs os0 os1 = ((a.1) ^^^ (a.2), (a.1) ^^^ (a.2)) := by rw [pD, if_neg k1, if_neg k6, if_neg k9, if_neg q0, if_pos y0] <;> rfl
      exact ⟨_, rfl, by rw [hr] <;> rfl, I1.chg⟩
     ·refine go 2 ?_
      refine iA ((o.kd : Int) = (17 : Int)) rfl (fun r0 => ?_) (fun r0 => ?_)
      ·have hgp := hgar r0
       have hrd := hrds r0
       refine go 6 ?_
       refine cl (tL o q a b d0 d1 zs os0 os1 δ hgp.cd hgp.ng hgp.zl hgp.l0 hgp.l1 hgp.z hgp.zc hgp.n0 hgp.c0 hgp.n1 hgp.c1 x0 uC (hrd.1.ext e0.chg) (hrd.2.1.ext e0.chg) (hrd.2.2.ext e0.chg)) ?_
       rintro _ y3 ⟨rfl, J1⟩
       have z3 := e0.ext J1
       refine go 1 ?_
       intro A3 K1 B3
       refine go 0 ?_
       have hr : pD Gb.kA o q a b in0 in1 d0.w d1.w d0.t d1.t δ zs os0 os1 = (((vL Gb.kA o q a b δ zs os0 os1)).1, ((vL Gb.kA o q a b δ zs os0 os1)).2) := by rw [pD, if_neg k1, if_neg k6, if_neg k9, if_neg q0, if_neg y0, if_pos r0] <;> rfl
       exact ⟨_, rfl, by rw [hr] <;> rfl, K1.chg⟩
      ·refine go 0 ?_
       refine uB (K := [none, none, none, none, none, none, none, none, none, none, none, none, none]) [0, 0, 2, 0, 8, 31, 0, 0, 128, 0, 512, 2047, 4095, 8191] (fun w' => Ext x0 w') (fun w' w'' => Ext w' w'') BA (by kernel_rfl) (Ext.drew _) (fun _ _ h h' => h.trans h') ?_ ?_
       ·exact xB (by decide)
       refine gk 5 ?_
       refine ⟨u64 (jE o (0 : Int) (a.1) (b.1)), fun _ L1 C3 _ => Gives.call rfl (cA (vs := [.agg x2, i64 0, u64 (a.1), u64 (b.1)]) vF rfl) (FK o (0 : Int) (by decide) (a.1) (b.1) hk L1), ?_⟩
       refine gk 5 ?_
       refine ⟨u64 (jE o (1 : Int) (a.2) (b.2)), fun _ M1 D3 _ => Gives.call rfl (cA (vs := [.agg x2, i64 1, u64 (a.2), u64 (b.2)]) vF rfl) (FK o (1 : Int) (by decide) (a.2) (b.2) hk M1), ?_⟩
       refine gk 1 ?_
       intro r374 E3 N1 hF
       have F3 := e0.ext N1
       refine go 1 ?_
       intro G3 O1 H3
       refine go 0 ?_
       have hr : pD Gb.kA o q a b in0 in1 d0.w d1.w d0.t d1.t δ zs os0 os1 = (jE o (0 : Int) (a.1) (b.1), jE o (1 : Int) (a.2) (b.2)) := by rw [pD, if_neg k1, if_neg k6, if_neg k9, if_neg q0, if_neg y0, if_neg r0] <;> rfl
       exact ⟨_, rfl, by rw [hr] <;> rfl, O1.chg⟩
end Go.Proofs.YtohngnahcgbfmaaGreatDoor.Ms
namespace Go.Proofs.YtohngnahcgbfmaaGreatDoor.Mu
open Go Vc Er Ek Circ Mi
open Co Cm
theorem JW : OA Tryz.prog 29 = true := by kernel_rfl
theorem BQ : jD Tryz.prog 24 = some (2, 1) := by kernel_rfl
theorem LT : jD Tryz.prog 29 = some (2, 1) := by kernel_rfl
theorem IW : jD Tryz.prog 50 = some (2, 1) := by kernel_rfl
theorem KT : jD Tryz.prog 87 = some (2, 1) := by kernel_rfl
theorem JT : jD Tryz.prog 92 = some (2, 6) := by kernel_rfl
theorem yQ : ZF Tryz.prog 34 = some 8 := by kernel_rfl
theorem BL : mA Tryz.prog 28 = true := by kernel_rfl
theorem GW : mA Tryz.prog 8 = true := by kernel_rfl
theorem OC : wC Tryz.prog 3 EI := OF (by kernel_rfl) (by kernel_rfl)
theorem yM : TB Tryz.prog 36 1 = some (1, 1, 3) := by kernel_rfl
theorem xM : TB Tryz.prog 36 2 = some (2, 1, 3) := by kernel_rfl
theorem eM : NA Tryz.prog 23 = true := by kernel_rfl
theorem bW : NA Tryz.prog 48 = true := by kernel_rfl
theorem SV : UB Tryz.prog 29 = some 2 := by kernel_rfl
theorem nK : eD Tryz.prog 23 = some (34, 1) := by kernel_rfl
theorem bO : YB Tryz.prog 34 = some (.int .u64 0) := by kernel_rfl
theorem lJ (ops : List Mo) (oa : Option Addr) (oc : Nat) (in0 in1 : List (BitVec 64)) (na0 na1 : Option Addr) (nc0 nc1 : Nat) (tb0 : Nat) (tk0 : Option Nat) (tc0 : Nat) (ts0 : LV) (ws0 : List (BitVec 64)) (hSw0 : Sl E64 tk0 ws0 tc0 ts0) (hwl0 : ws0.length ≤ 140737488355328) (tb1 : Nat) (tk1 : Option Nat) (tc1 : Nat) (ts1 : LV) (ws1 : List (BitVec 64)) (hSw1 : Sl E64 tk1 ws1 tc1 ts1) (hwl1 : ws1.length ≤ 140737488355328) (sb0 sb1 : Nat) (st0 st1 : Sk) (hst0 : st0.ok) (hst1 : st1.ok) (R : List RW) (w₀ w : World) (hG : Gl w₀) (hgd : Mi.Good ops ((in0.length : Nat) : Int) ((in1.length : Nat) : Int)) (ec : Int) (hT0 : ec ≠ 40 → VA 0 ops + jA (WA 0) ops ops.length ≤ ws0.length) (hA0 : ec ≠ 80 → jA fA ops ops.length ≤ st0.t.l.length) (hB0 : ec ≠ 80 → jA fB ops ops.length ≤ st0.b.l.length) (hC0 : jA fO ops ops.length ≤ st0.o.l.length) (hT1 : ec ≠ 40 → VA 1 ops + jA (WA 1) ops ops.length ≤ ws1.length) (hA1 : ec ≠ 80 → jA fA ops ops.length ≤ st1.t.l.length) (hB1 : ec ≠ 80 → jA fB ops ops.length ≤ st1.b.l.length) (hC1 : jA fO ops ops.length ≤ st1.o.l.length) (hO : ∀ w', Ext w₀ w' → (∀ p ∈ R, ∀ b, p.1 = some b → w'.heap[b]? = some p.2) → Rd xE w' oa ops) (hN0 : ∀ w', Ext w₀ w' → (∀ p ∈ R, ∀ b, p.1 = some b → w'.heap[b]? = some p.2) → Rd E64 w' na0 in0) (hN1 : ∀ w', Ext w₀ w' → (∀ p ∈ R, ∀ b, p.1 = some b → w'.heap[b]? = some p.2) → Rd E64 w' na1 in1) (H : Hp No w₀ w ((rC tb0 #[sO tk0 ws0.length tc0, .pointer none, iN ws0.length, iN 0] 96) :: (tk0, qA E64 34 ws0 ts0) :: (rC tb1 #[sO tk1 ws1.length tc1, .pointer none, iN ws1.length, iN 0] 96) :: (tk1, qA E64 34 ws1 ts1) :: (EA 66 121 114 sb0 st0 ++ (EA 66 121 114 sb1 st1 ++ R)))) : Ca 10 [.slice oa ops.length oc, .agg (uA EI [((in0.length : Nat) : Int), ((in1.length : Nat) : Int)]).toArray, .agg #[.slice na0 in0.length nc0, .slice na1 in1.length nc1], .agg #[pT tb0, pT tb1], .agg #[pT sb0, pT sb1]] w fun v w' => (((VA 0 ops + jA (WA 0) ops ops.length ≤ ws0.length ∧ jA fA ops ops.length ≤ st0.t.l.length ∧ jA fB ops ops.length ≤ st0.b.l.length) ∧ (VA 1 ops + jA (WA 1) ops ops.length ≤ ws1.length ∧ jA fA ops ops.length ≤ st1.t.l.length ∧ jA fB ops ops.length ≤ st1.b.l.length)) ∧ ∃ (k0 : Option Nat) (c0 : Nat) (z0 : LV) (k1 : Option Nat) (c1 : Nat) (z1 : LV) (u0 u1 : Sk), v = .tuple #[.agg #[sO k0 ops.length c0, sO k1 ops.length c1], .nilIface] ∧ Sl E64 k0 (dC Gb.kA ops in0 in1 ws0 ws1 (OB ops ((0 : Nat) : Int) (WA 0) ws0 (VA 0 ops)) (OB ops ((1 : Nat) : Int) (WA 1) ws1 (VA 1 ops)) (MB ops st0.t.l st0.b.l) (MB ops st1.t.l st1.b.l) st0.o.l st1.o.l ops.length).1 c0 z0 ∧ Sl E64 k1 (dC Gb.kA ops in0 in1 ws0 ws1 (OB ops ((0 : Nat) : Int) (WA 0) ws0 (VA 0 ops)) (OB ops ((1 : Nat) : Int) (WA 1) ws1 (VA 1 ops)) (MB ops st0.t.l st0.b.l) (MB ops st1.t.l st1.b.l) st0.o.l st1.o.l ops.length).2 c1 z1 ∧ u0.ok ∧ u0.t.l = st0.t.l.drop (jA fA ops ops.length) ∧ u0.b.l = st0.b.l.drop (jA fB ops ops.length) ∧ u0.o.l = st0.o.l.drop (jA fO ops ops.length) ∧ u1.ok ∧ u1.t.l = st1.t.l.drop (jA fA ops ops.length) ∧ u1.b.l = st1.b.l.drop (jA fB ops ops.length) ∧ u1.o.l = st1.o.l.drop (jA fO ops ops.length) ∧ Hp No w₀ w' ((k0, qA E64 34 (dC Gb.kA ops in0 in1 ws0 ws1 (OB ops ((0 : Nat) : Int) (WA 0) ws0 (VA 0 ops)) (OB ops ((1 : Nat) : Int) (WA 1) ws1 (VA 1 ops)) (MB ops st0.t.l st0.b.l) (MB ops st1.t.l st1.b.l) st0.o.l st1.o.l ops.length).1 z0) :: (k1, qA E64 34 (dC Gb.kA ops in0 in1 ws0 ws1 (OB ops ((0 : Nat) : Int) (WA 0) ws0 (VA 0 ops)) (OB ops ((1 : Nat) : Int) (WA 1) ws1 (VA 1 ops)) (MB ops st0.t.l st0.b.l) (MB ops st1.t.l st1.b.l) st0.o.l st1.o.l ops.length).2 z1) :: (rC tb0 #[sO tk0 ws0.length tc0, .pointer none, iN ws0.length, iN (VA 0 ops + jA (WA 0) ops ops.length)] 96) :: (tk0, qA E64 34 ws0 ts0) :: (rC tb1 #[sO tk1 ws1.length tc1, .pointer none, iN ws1.length, iN (VA 1 ops + jA (WA 1) ops ops.length)] 96) :: (tk1, qA E64 34 ws1 ts1) :: (EA 66 121 114 sb0 u0 ++ (EA 66 121 114 sb1 u1 ++ R)))) ∨ (¬ ((VA 0 ops + jA (WA 0) ops ops.length ≤ ws0.length ∧ jA fA ops ops.length ≤ st0.t.l.length ∧ jA fB ops ops.length ≤ st0.b.l.length) ∧ (VA 1 ops + jA (WA 1) ops ops.length ≤ ws1.length ∧ jA fA ops ops.length ≤ st1.t.l.length ∧ jA fB ops ops.length ≤ st1.b.l.length)) ∧ ∃ x ev, v = .tuple #[x, ev] ∧ (∃ k, Vc.Er 0 w' ec (k + 1) ev) ∧ Hp No w₀ w' R) := by
 let y18 : Value := sO tk0 ws0.length tc0
 let y17 : Value := sO tk1 ws1.length tc1
 let y16 : Array Value := #[y17, .pointer none, iN ws1.length, iN (VA 1 ops + jA (WA 1) ops ops.length)]
 let y15 : Array Value := #[y18, .pointer none, iN ws0.length, iN 0]
 let y13 : Array Value := #[pT tb0, pT tb1]
 let y11 : Array Value := #[pT sb0, pT sb1]
 let y9 : RW := (tk1, qA E64 34 ws1 ts1)
 let y7 : RW := (tk0, qA E64 34 ws0 ts0)
 let y5 : Array Value := #[y17, .pointer none, iN ws1.length, iN 0]
 let y3 : Array Value := #[.slice na0 in0.length nc0, .slice na1 in1.length nc1]
 let y1 : Array Value := #[y18, .pointer none, iN ws0.length, iN (VA 0 ops + jA (WA 0) ops ops.length)]
 have hop := hgd.len
 refine enter (n := 149) Tryz.func10 rfl rfl (dB rfl) ?_
 refine go 1 ?_
 intro l0 L8 M8 N8 O8
 refine go 1 ?_
 intro e0 P8 Q8 R8 S8
 refine go 1 ?_
 intro m0 T8 U8 V8 W8
 refine go 1 ?_
 intro n0 X8 Y8 Z8 c9
 refine go 1 ?_
 intro f0 G4 d9 Q2 e9
 refine go 3 ?_
 refine cl (DD ops oa oc ((in0.length : Nat) : Int) ((in1.length : Nat) : Int) ops.length (by rfl) G4 uC (hO _ Q2.chg (fun p hp => Q2.has p (mT (mT (mT (mT (mT (mT (mT (mT (mT ((List.mem_append_right _ (List.mem_append_right _ hp)))))))))))))) om hgd) ?_
 rintro _ f9 ⟨rfl, H4⟩
 have I4 := Q2.ext H4
 refine go 2 ?_
 refine sq ((rE vF rfl rfl).as (v' := .bool false) (by rfl)) ?_
 refine go 1 ?_
 refine AA (σ := Nat) (fun q => [(0, .slice oa ops.length oc), (6, pT l0), (7, pT e0), (8, pT m0), (9, pT n0), (10, pT f0), (11, .nilIface), (33, iN q)]) (fun q w' => q ≤ 2 ∧ Hp No w₀ w' ((rC f0 #[yA, yA] 24) :: (rC n0 y11 38) :: (rC m0 y13 50) :: (rC e0 y3 24) :: (rX l0 EI ([((in0.length : Nat) : Int), ((in1.length : Nat) : Int)]) 29) :: (rC tb0 y15 96) :: y7 :: (rC tb1 y5 96) :: y9 :: (EA 66 121 114 sb0 st0 ++ (EA 66 121 114 sb1 st1 ++ R)))) (fun q => 2 - q) (0) ?_ ?_ ?_
 ·exact kp
 ·exact ⟨Nat.zero_le _, I4⟩
 rintro q ρ u3 ⟨hq, HL⟩
 rcases (show q = 0 ∨ q = 1 ∨ q = 2 by omega) with rfl | rfl | rfl
 ·refine go 0 ?_
  refine sq ((KC rfl rfl).as (v' := .bool true) (by rfl)) ?_
  refine go 2 ?_
  refine uB (K := [none, none, none, none, none, none, none, none]) [0, 1, 3, 7, 0, 16, 48, 127] (fun w' => Ext u3 w') (fun w' w'' => Ext w' w'') BA (by kernel_rfl) (Ext.drew _) (fun _ _ h h' => h.trans h') ?_ ?_
  ·exact xB (by decide)
  refine gk 7 ?_
  refine ⟨.bool false, fun _ g9 h9 _ => Gives.run rfl ((qD rfl rfl).as (v' := .bool false) (by exact bF (om))) ⟨rfl, Chg.refl _ _⟩, ?_⟩
  intro r245 i9 J4 hF
  have K4 := HL.ext J4
  refine go 2 ?_
  exact ⟨0 + 1, _, rfl, kp, ⟨om, K4⟩, vd⟩
 ·refine go 0 ?_
  refine sq ((KC rfl rfl).as (v' := .bool true) (by rfl)) ?_
  refine go 2 ?_
  refine uB (K := [none, none, none, none, none, none, none, none]) [0, 1, 3, 7, 0, 16, 48, 127] (fun w' => Ext u3 w') (fun w' w'' => Ext w' w'') BA (by kernel_rfl) (Ext.drew _) (fun _ _ h h' => h.trans h') ?_ ?_
  ·exact xB (by decide)
  refine gk 7 ?_
  refine ⟨.bool false, fun _ j9 k9 _ => Gives.run rfl ((qD rfl rfl).as (v' := .bool false) (by exact bF (om))) ⟨rfl, Chg.refl _ _⟩, ?_⟩
  intro r265 l9 L4 hF
  have M4 := HL.ext L4
  refine go 2 ?_
  exact ⟨1 + 1, _, rfl, kp, ⟨om, M4⟩, vd⟩
 ·refine go 0 ?_
  refine sq ((KC rfl rfl).as (v' := .bool false) (by rfl)) ?_
  refine go 1 ?_
  intro h0 m9 n9 o9 p9
  refine go 1 ?_
  intro i0 q9 r9 N4 s9
  refine go 1 ?_
  refine AA (σ := Nat × List RW) (fun (q, LL) => [(0, .slice oa ops.length oc), (6, pT l0), (7, pT e0), (8, pT m0), (9, pT n0), (10, pT f0), (11, .nilIface), (14, pT h0), (15, pT i0), (49, iN q)]) (fun (q, LL) w' => (q ≤ 2 ∧ ((q = 0 ∧ LL = ((rX i0 E64 ([0#64, 0#64]) 83) :: (rC h0 #[yA, yA] 81) :: (rC f0 #[yA, yA] 24) :: (rC n0 y11 38) :: (rC m0 y13 50) :: (rC e0 y3 24) :: (rX l0 EI ([((in0.length : Nat) : Int), ((in1.length : Nat) : Int)]) 29) :: (rC tb0 y15 96) :: y7 :: (rC tb1 y5 96) :: y9 :: (EA 66 121 114 sb0 st0 ++ (EA 66 121 114 sb1 st1 ++ R)))) ∨ (q = 1 ∧ ∃ (b0 : Option Nat) (y0 : Nat) (q0 : LV) (a0 : List Dr) (d0 : Sk) (F0 : List RW), (Sl IB b0 a0 y0 q0) ∧ (DrN (OB ops ((0 : Nat) : Int) (WA 0) ws0 (VA 0 ops)) (MB ops st0.t.l st0.b.l) ops.length a0 ops.length) ∧ (d0.ok) ∧ (d0.t.l = st0.t.l.drop (jA fA ops ops.length)) ∧ (d0.b.l = st0.b.l.drop (jA fB ops ops.length)) ∧ (d0.o.l = st0.o.l.drop (jA fO ops ops.length)) ∧ (DrG 121 83 F0 0 ops st0.o.l ws0 (VA 0 ops) a0 ops.length) ∧ ((VA 0 ops + jA (WA 0) ops ops.length ≤ ws0.length ∧ jA fA ops ops.length ≤ st0.t.l.length ∧ jA fB ops ops.length ≤ st0.b.l.length)) ∧ LL = ((b0, qA IB 91 a0 q0) :: (rX i0 E64 ([((0#64) ^^^ ((rB 0 ops ws0).1)), ((0#64) ^^^ ((rB 0 ops ws0).2))]) 83) :: (rC h0 #[sO b0 ops.length y0, yA] 81) :: (rC f0 #[yA, yA] 24) :: (rC n0 y11 38) :: (rC m0 y13 50) :: (rC e0 y3 24) :: (rX l0 EI ([((in0.length : Nat) : Int), ((in1.length : Nat) : Int)]) 29) :: (rC tb0 y1 96) :: y7 :: (rC tb1 y5 96) :: y9 :: (EA 66 121 114 sb0 d0 ++ (EA 66 121 114 sb1 st1 ++ (F0 ++ R))))) ∨ (q = 2 ∧ ∃ (b0 : Option Nat) (y0 : Nat) (q0 : LV) (a0 : List Dr) (d0 : Sk) (F0 : List RW) (h1 : Option Nat) (j2 : Nat) (R1 : LV) (r0 : List Dr) (d1 : Sk) (F1 : List RW), (Sl IB b0 a0 y0 q0) ∧ (DrN (OB ops ((0 : Nat) : Int) (WA 0) ws0 (VA 0 ops)) (MB ops st0.t.l st0.b.l) ops.length a0 ops.length) ∧ (d0.ok) ∧ (d0.t.l = st0.t.l.drop (jA fA ops ops.length)) ∧ (d0.b.l = st0.b.l.drop (jA fB ops ops.length)) ∧ (d0.o.l = st0.o.l.drop (jA fO ops ops.length)) ∧ (DrG 121 83 F0 0 ops st0.o.l ws0 (VA 0 ops) a0 ops.length) ∧ (Sl IB h1 r0 j2 R1) ∧ (DrN (OB ops ((1 : Nat) : Int) (WA 1) ws1 (VA 1 ops)) (MB ops st1.t.l st1.b.l) ops.length r0 ops.length) ∧ (d1.ok) ∧ (d1.t.l = st1.t.l.drop (jA fA ops ops.length)) ∧ (d1.b.l = st1.b.l.drop (jA fB ops ops.length)) ∧ (d1.o.l = st1.o.l.drop (jA fO ops ops.length)) ∧ (DrG 121 83 F1 1 ops st1.o.l ws1 (VA 1 ops) r0 ops.length) ∧ ((VA 0 ops + jA (WA 0) ops ops.length ≤ ws0.length ∧ jA fA ops ops.length ≤ st0.t.l.length ∧ jA fB ops ops.length ≤ st0.b.l.length)) ∧ ((VA 1 ops + jA (WA 1) ops ops.length ≤ ws1.length ∧ jA fA ops ops.length ≤ st1.t.l.length ∧ jA fB ops ops.length ≤ st1.b.l.length)) ∧ LL = ((b0, qA IB 91 a0 q0) :: (h1, qA IB 91 r0 R1) :: (rX i0 E64 ([(JG ops ws0 ws1).1, (JG ops ws0 ws1).2]) 83) :: (rC h0 #[sO b0 ops.length y0, sO h1 ops.length j2] 81) :: (rC f0 #[yA, yA] 24) :: (rC n0 y11 38) :: (rC m0 y13 50) :: (rC e0 y3 24) :: (rX l0 EI ([((in0.length : Nat) : Int), ((in1.length : Nat) : Int)]) 29) :: (rC tb0 y1 96) :: y7 :: (rC tb1 y16 96) :: y9 :: (EA 66 121 114 sb0 d0 ++ (EA 66 121 114 sb1 d1 ++ (F1 ++ (F0 ++ R)))))))) ∧ Hp No w₀ w' LL) (fun (q, LL) => 2 - q) ((0, ((rX i0 E64 ([0#64, 0#64]) 83) :: (rC h0 #[yA, yA] 81) :: (rC f0 #[yA, yA] 24) :: (rC n0 y11 38) :: (rC m0 y13 50) :: (rC e0 y3 24) :: (rX l0 EI ([((in0.length : Nat) : Int), ((in1.length : Nat) : Int)]) 29) :: (rC tb0 y15 96) :: y7 :: (rC tb1 y5 96) :: y9 :: (EA 66 121 114 sb0 st0 ++ (EA 66 121 114 sb1 st1 ++ R))))) ?_ ?_ ?_
  ·exact kp
  ·exact ⟨⟨Nat.zero_le _, .inl ⟨rfl, rfl⟩⟩, N4⟩
  rintro ⟨q, LL⟩ ρ t9 ⟨⟨hq2, hstg⟩, HL⟩
  rcases hstg with ⟨rfl, rfl⟩ | ⟨rfl, b0, y0, q0, a0, d0, F0, w3, w2, R2, hst0, S2, T2, k2, hal0, rfl⟩ | ⟨rfl, b0, y0, q0, a0, d0, F0, h1, j2, R1, r0, d1, F1, w3, w2, R2, hst0, S2, T2, k2, u9, U2, O4, hst1, P4, Q4, F2, hal0, hal1, rfl⟩
  ·refine go 0 ?_
   refine sq ((KC rfl rfl).as (v' := .bool true) (by rfl)) ?_
   refine go 0 ?_
   by_cases hal : (VA 0 ops + jA (WA 0) ops ops.length ≤ ws0.length ∧ jA fA ops ops.length ≤ st0.t.l.length ∧ jA fB ops ops.length ≤ st0.b.l.length)
   ·refine go 2 ?_
    have R4 := (HL.pk 11 [7, 0, 1, 2, 3, 4, 5, 6, 8, 9, 10])
    let Z1 : List RW := [(rX i0 E64 ([0#64, 0#64]) 83), (rC h0 #[yA, yA] 81), (rC f0 #[yA, yA] 24), (rC n0 y11 38), (rC m0 y13 50), (rC e0 y3 24), (rX l0 EI ([((in0.length : Nat) : Int), ((in1.length : Nat) : Int)]) 29), y7, (rC tb1 y5 96), y9]
    let G2 := ((rC tb0 y1 96) : RW)
    let x3 := ((rC tb0 y15 96) : RW)
    let S4 : mC := [RB false false false fun _ _ _ w' => Hp No w₀ w' (x3 :: (Z1 ++ (EA 66 121 114 sb0 st0 ++ (EA 66 121 114 sb1 st1 ++ R)))), RB true false false fun v8 _ _ w' => ∃ G0 J0 K0 C0 s0 L0, v8 = .tuple #[sO G0 ops.length J0, .agg (uA E64 [(rB 0 ops ws0).1, (rB 0 ops ws0).2]).toArray, .nilIface] ∧ Sl IB G0 C0 J0 K0 ∧ DrN (OB ops ((0 : Nat) : Int) (WA 0) ws0 (VA 0 ops)) (MB ops st0.t.l st0.b.l) ops.length C0 ops.length ∧ s0.ok ∧ s0.t.l = st0.t.l.drop (jA fA ops ops.length) ∧ s0.b.l = st0.b.l.drop (jA fB ops ops.length) ∧ s0.o.l = st0.o.l.drop (jA fO ops ops.length) ∧ DrG 121 83 L0 0 ops st0.o.l ws0 (VA 0 ops) C0 ops.length ∧ Hp No w₀ w' ((G0, qA IB 91 C0 K0) :: G2 :: (Z1 ++ (EA 66 121 114 sb0 s0 ++ (EA 66 121 114 sb1 st1 ++ (L0 ++ R))))), RB false true false fun _ v13 _ w' => ∃ S1, v13 = pT S1 ∧ Hp No w₀ w' ((rX S1 E64 ([0#64, 0#64]) 83) :: x3 :: (Z1 ++ (EA 66 121 114 sb0 st0 ++ (EA 66 121 114 sb1 st1 ++ R)))), RB true true false fun v8 v13 _ w' => ∃ G0 J0 K0 C0 s0 L0 i1, v8 = .tuple #[sO G0 ops.length J0, .agg (uA E64 [(rB 0 ops ws0).1, (rB 0 ops ws0).2]).toArray, .nilIface] ∧ v13 = pT i1 ∧ Sl IB G0 C0 J0 K0 ∧ DrN (OB ops ((0 : Nat) : Int) (WA 0) ws0 (VA 0 ops)) (MB ops st0.t.l st0.b.l) ops.length C0 ops.length ∧ s0.ok ∧ s0.t.l = st0.t.l.drop (jA fA ops ops.length) ∧ s0.b.l = st0.b.l.drop (jA fB ops ops.length) ∧ s0.o.l = st0.o.l.drop (jA fO ops ops.length) ∧ DrG 121 83 L0 0 ops st0.o.l ws0 (VA 0 ops) C0 ops.length ∧ Hp No w₀ w' ((rX i1 E64 ([0#64, 0#64]) 83) :: (G0, qA IB 91 C0 K0) :: G2 :: (Z1 ++ (EA 66 121 114 sb0 s0 ++ (EA 66 121 114 sb1 st1 ++ (L0 ++ R))))), RB true true true fun v8 v13 _ w' => ∃ G0 J0 K0 C0 s0 L0 i1, v8 = .tuple #[sO G0 ops.length J0, .agg (uA E64 [(rB 0 ops ws0).1, (rB 0 ops ws0).2]).toArray, .nilIface] ∧ v13 = pT i1 ∧ Sl IB G0 C0 J0 K0 ∧ DrN (OB ops ((0 : Nat) : Int) (WA 0) ws0 (VA 0 ops)) (MB ops st0.t.l st0.b.l) ops.length C0 ops.length ∧ s0.ok ∧ s0.t.l = st0.t.l.drop (jA fA ops ops.length) ∧ s0.b.l = st0.b.l.drop (jA fB ops ops.length) ∧ s0.o.l = st0.o.l.drop (jA fO ops ops.length) ∧ DrG 121 83 L0 0 ops st0.o.l ws0 (VA 0 ops) C0 ops.length ∧ Hp No w₀ w' ((rX i1 E64 ([(rB 0 ops ws0).1, (rB 0 ops ws0).2]) 83) :: (G0, qA IB 91 C0 K0) :: G2 :: (Z1 ++ (EA 66 121 114 sb0 s0 ++ (EA 66 121 114 sb1 st1 ++ (L0 ++ R)))))]
    refine MA (m := 17) [0, 0, 0, 4, 12, 0, 32, 96, 255, 511, 1023, 1023, 1023, 0, 10239, 28671, 65535] [8, 13, 15] Z1 S4 BA (fun _ e => R4.ext e) EC (fun V2 => ?_)
    refine gk 8 ?_
    refine WalkT.eff V2 0 ?_ ?_
    ·refine tB (fun r w0 uw hF hE => ?_) fun r w0 uw hF hE => ?_
     ·have T4 := hF.ext hE
      refine gW fun Q' hK => ?_
      have U4 := (Hp.segT (S := [[(rC tb0 y15 96), y7], [(rX i0 E64 ([0#64, 0#64]) 83), (rC h0 #[yA, yA] 81), (rC f0 #[yA, yA] 24), (rC n0 y11 38), (rC m0 y13 50), (rC e0 y3 24), (rX l0 EI ([((in0.length : Nat) : Int), ((in1.length : Nat) : Int)]) 29), (rC tb1 y5 96), y9], EA 66 121 114 sb0 st0, EA 66 121 114 sb1 st1]) (Y := R) (T4.pk 11 [0, 8, 1, 2, 3, 4, 5, 6, 7, 9, 10]) 4 rfl [0, 2, 1, 3] [] (by decide)).as (L' := (_ :: _ :: (EA 66 121 114 sb0 st0 ++ ([(rX i0 E64 ([0#64, 0#64]) 83), (rC h0 #[yA, yA] 81), (rC f0 #[yA, yA] 24), (rC n0 y11 38), (rC m0 y13 50), (rC e0 y3 24), (rX l0 EI ([((in0.length : Nat) : Int), ((in1.length : Nat) : Int)]) 29), (rC tb1 y5 96), y9] ++ (EA 66 121 114 sb1 st1 ++ R))))) rfl
      refine cl (lL (KD ops oa oc 0 (by decide) tb0 tk0 tc0 ts0 ws0 hSw0 hwl0 sb0 st0 hst0 ([(rX i0 E64 ([0#64, 0#64]) 83), (rC h0 #[yA, yA] 81), (rC f0 #[yA, yA] 24), (rC n0 y11 38), (rC m0 y13 50), (rC e0 y3 24), (rX l0 EI ([((in0.length : Nat) : Int), ((in1.length : Nat) : Int)]) 29), (rC tb1 y5 96), y9] ++ (EA 66 121 114 sb1 st1 ++ R)) w₀ uw hG hop ec hT0 hA0 hB0 hC0 (fun w1 hE hp => hO w1 hE (fun p hp2 => hp p (List.mem_append_right _ (List.mem_append_right _ hp2)))) U4) hal) ?_
      rintro _ w9 ⟨z3, V4, A3, B3, X2, Y2, rfl, W4, X4, Y4, Z4, c5, d5, f5, g5⟩
      have h5 := (Hp.segT (S := [[(z3, qA IB 91 B3 A3), (rC tb0 y1 96), y7], EA 66 121 114 sb0 X2, Y2, [(rX i0 E64 ([0#64, 0#64]) 83), (rC h0 #[yA, yA] 81), (rC f0 #[yA, yA] 24), (rC n0 y11 38), (rC m0 y13 50), (rC e0 y3 24), (rX l0 EI ([((in0.length : Nat) : Int), ((in1.length : Nat) : Int)]) 29), (rC tb1 y5 96), y9], EA 66 121 114 sb1 st1]) (Y := R) g5 5 rfl [0, 3, 1, 4, 2] [] (by decide)).as (L' := (_ :: _ :: _ :: _ :: _ :: _ :: _ :: _ :: _ :: _ :: _ :: _ :: (EA 66 121 114 sb0 X2 ++ (EA 66 121 114 sb1 st1 ++ (Y2 ++ R))))) rfl
      exact hK _ _ (E_ z3 (E_ V4 (E_ A3 (E_ B3 (E_ X2 (E_ Y2 (A_ rfl (A_ W4 (A_ X4 (A_ Y4 (A_ Z4 (A_ c5 (A_ d5 (A_ f5 ((h5.pk 12 [0, 1, 3, 4, 5, 6, 7, 8, 9, 2, 10, 11]))))))))))))))))
     ·obtain ⟨S1, o0, Z2⟩ := hF
      replace Z2 := Z2.ext hE
      refine gW fun Q' hK => ?_
      have i5 := (Hp.segT (S := [[(rC tb0 y15 96), y7], [(rX S1 E64 ([0#64, 0#64]) 83), (rX i0 E64 ([0#64, 0#64]) 83), (rC h0 #[yA, yA] 81), (rC f0 #[yA, yA] 24), (rC n0 y11 38), (rC m0 y13 50), (rC e0 y3 24), (rX l0 EI ([((in0.length : Nat) : Int), ((in1.length : Nat) : Int)]) 29), (rC tb1 y5 96), y9], EA 66 121 114 sb0 st0, EA 66 121 114 sb1 st1]) (Y := R) (Z2.pk 12 [1, 9, 0, 2, 3, 4, 5, 6, 7, 8, 10, 11]) 4 rfl [0, 2, 1, 3] [] (by decide)).as (L' := (_ :: _ :: (EA 66 121 114 sb0 st0 ++ ([(rX S1 E64 ([0#64, 0#64]) 83), (rX i0 E64 ([0#64, 0#64]) 83), (rC h0 #[yA, yA] 81), (rC f0 #[yA, yA] 24), (rC n0 y11 38), (rC m0 y13 50), (rC e0 y3 24), (rX l0 EI ([((in0.length : Nat) : Int), ((in1.length : Nat) : Int)]) 29), (rC tb1 y5 96), y9] ++ (EA 66 121 114 sb1 st1 ++ R))))) rfl
      refine cl (lL (KD ops oa oc 0 (by decide) tb0 tk0 tc0 ts0 ws0 hSw0 hwl0 sb0 st0 hst0 ([(rX S1 E64 ([0#64, 0#64]) 83), (rX i0 E64 ([0#64, 0#64]) 83), (rC h0 #[yA, yA] 81), (rC f0 #[yA, yA] 24), (rC n0 y11 38), (rC m0 y13 50), (rC e0 y3 24), (rX l0 EI ([((in0.length : Nat) : Int), ((in1.length : Nat) : Int)]) 29), (rC tb1 y5 96), y9] ++ (EA 66 121 114 sb1 st1 ++ R)) w₀ uw hG hop ec hT0 hA0 hB0 hC0 (fun w1 hE hp => hO w1 hE (fun p hp2 => hp p (List.mem_append_right _ (List.mem_append_right _ hp2)))) i5) hal) ?_
      rintro _ x9 ⟨C3, j5, D3, E3, c3, d3, rfl, k5, l5, m5, n5, o5, p5, q5, r5⟩
      have s5 := (Hp.segT (S := [[(C3, qA IB 91 E3 D3), (rC tb0 y1 96), y7], EA 66 121 114 sb0 c3, d3, [(rX S1 E64 ([0#64, 0#64]) 83), (rX i0 E64 ([0#64, 0#64]) 83), (rC h0 #[yA, yA] 81), (rC f0 #[yA, yA] 24), (rC n0 y11 38), (rC m0 y13 50), (rC e0 y3 24), (rX l0 EI ([((in0.length : Nat) : Int), ((in1.length : Nat) : Int)]) 29), (rC tb1 y5 96), y9], EA 66 121 114 sb1 st1]) (Y := R) r5 5 rfl [0, 3, 1, 4, 2] [] (by decide)).as (L' := (_ :: _ :: _ :: _ :: _ :: _ :: _ :: _ :: _ :: _ :: _ :: _ :: _ :: (EA 66 121 114 sb0 c3 ++ (EA 66 121 114 sb1 st1 ++ (d3 ++ R))))) rfl
      exact hK _ _ (E_ C3 (E_ j5 (E_ D3 (E_ E3 (E_ c3 (E_ d3 (E_ S1 (A_ rfl (A_ o0 (A_ k5 (A_ l5 (A_ m5 (A_ n5 (A_ o5 (A_ p5 (A_ q5 ((s5.pk 13 [3, 0, 1, 4, 5, 6, 7, 8, 9, 10, 2, 11, 12]))))))))))))))))))
    refine bA (fun r => r 8) (fun r r' h => h 8 (by decide) rfl) (fun _ _ => CA rfl) (aA (fun r => AB (r 8) 0) (fun r r' h => by rw [h 8 (by decide) rfl]) ?_ ?_)
    ·refine tB (fun r w0 uw hF hE => ?_) fun r w0 uw hF hE => ?_
     ·obtain ⟨G0, J0, K0, C0, s0, L0, e8, j1, l1, m1, n1, o1, p1, r1, HH⟩ := hF
      replace HH := HH.ext hE
      dsimp only
      rw [e8]
      exact xC
     ·obtain ⟨G0, J0, K0, C0, s0, L0, i1, e8, o0, j1, l1, m1, n1, o1, p1, r1, HH⟩ := hF
      replace HH := HH.ext hE
      dsimp only
      rw [e8]
      exact xC
    refine aA (fun r => AB (r 8) 1) (fun r r' h => by rw [h 8 (by decide) rfl]) ?_ ?_
    ·refine tB (fun r w0 uw hF hE => ?_) fun r w0 uw hF hE => ?_
     ·obtain ⟨G0, J0, K0, C0, s0, L0, e8, j1, l1, m1, n1, o1, p1, r1, HH⟩ := hF
      replace HH := HH.ext hE
      dsimp only
      rw [e8]
      exact xC
     ·obtain ⟨G0, J0, K0, C0, s0, L0, i1, e8, o0, j1, l1, m1, n1, o1, p1, r1, HH⟩ := hF
      replace HH := HH.ext hE
      dsimp only
      rw [e8]
      exact xC
    refine aA (fun r => AB (r 8) 2) (fun r r' h => by rw [h 8 (by decide) rfl]) ?_ ?_
    ·refine A_ (fun r w0 uw hF hE => ?_) (A_ (fun r w0 uw hF hE => ?_) (A_ (fun r w0 uw hF hE => ?_) trivial))
     ·obtain ⟨G0, J0, K0, C0, s0, L0, e8, j1, l1, m1, n1, o1, p1, r1, HH⟩ := hF
      replace HH := HH.ext hE
      dsimp only
      rw [e8]
      exact xC
     ·obtain ⟨G0, J0, K0, C0, s0, L0, i1, e8, o0, j1, l1, m1, n1, o1, p1, r1, HH⟩ := hF
      replace HH := HH.ext hE
      dsimp only
      rw [e8]
      exact xC
     ·obtain ⟨G0, J0, K0, C0, s0, L0, i1, e8, o0, j1, l1, m1, n1, o1, p1, r1, HH⟩ := hF
      replace HH := HH.ext hE
      dsimp only
      rw [e8]
      exact xC
    refine WalkT.eff V2 1 ?_ ?_
    ·refine tB (fun r w0 uw hF hE => ?_) fun r w0 uw hF hE => ?_
     ·have z9 := hF.ext hE
      refine gW fun Q' hK => ?_
      refine go 1 ?_
      intro t5 A9 B9 u5 C9
      exact hK _ _ (E_ t5 (A_ rfl u5))
     ·obtain ⟨G0, J0, K0, C0, s0, L0, e8, j1, l1, m1, n1, o1, p1, r1, F3⟩ := hF
      replace F3 := F3.ext hE
      refine gW fun Q' hK => ?_
      refine go 1 ?_
      intro w5 D9 E9 x5 F9
      exact hK _ _ (E_ G0 (E_ J0 (E_ K0 (E_ C0 (E_ s0 (E_ L0 (E_ w5 (A_ e8 (A_ rfl (A_ j1 (A_ l1 (A_ m1 (A_ n1 (A_ o1 (A_ p1 (A_ r1 x5))))))))))))))))
    refine bA (fun r => AB (r 8) 0) (fun r r' h => by rw [h 8 (by decide) rfl]) (fun _ _ => zA rfl) (WalkT.eff V2 2 ?_ ?_)
    ·refine tA fun r w0 uw hF hE => ?_
     obtain ⟨G0, J0, K0, C0, s0, L0, i1, e8, o0, j1, l1, m1, n1, o1, p1, r1, G3⟩ := hF
     replace G3 := G3.ext hE
     dsimp only
     rw [o0, e8]
     refine MC fun Q' hK => ?_
     refine go 1 ?_
     intro G9 z5 H9
     exact hK _ (fun _ => (E_ G0 (E_ J0 (E_ K0 (E_ C0 (E_ s0 (E_ L0 (E_ i1 (A_ e8 (A_ o0 (A_ j1 (A_ l1 (A_ m1 (A_ n1 (A_ o1 (A_ p1 (A_ r1 z5)))))))))))))))))
    refine bA (fun r => AB (r 8) 2) (fun r r' h => by rw [h 8 (by decide) rfl]) (fun _ _ => zA rfl) (WalkT.nil fun r w0 I9 hF hE => ?_)
    obtain ⟨G0, J0, K0, C0, s0, L0, i1, e8, o0, j1, l1, m1, n1, o1, p1, r1, e3⟩ := hF
    replace e3 := e3.ext hE
    dsimp only
    rw [e8, o0]
    dsimp only [Z1, G2] at e3
    refine go 1 ?_
    refine sq ((rE vF rfl rfl).as (v' := .bool false) (by rfl)) ?_
    refine go 4 ?_
    intro A5 B5 J9
    refine go 2 ?_
    refine cl (Ms.mJ (0#64) (0#64) ((rB 0 ops ws0).1) ((rB 0 ops ws0).2) A5) ?_
    rintro _ K9 ⟨rfl, C5⟩
    have L9 := B5.ext C5
    refine go 1 ?_
    intro M9 D5 N9
    refine go 2 ?_
    exact ⟨(0 + 1, _), _, rfl, kp, ⟨⟨om, .inr (.inl ⟨rfl, G0, J0, K0, C0, s0, L0, j1, l1, m1, n1, o1, p1, r1, hal, rfl⟩)⟩, (D5.pk 13 [1, 3, 4, 5, 6, 7, 8, 9, 2, 10, 11, 12])⟩, vd⟩
   ·refine go 2 ?_
    have E5 := (HL.pk 11 [7, 8, 0, 1, 2, 3, 4, 5, 6, 9, 10])
    let c2 : List RW := [(rX i0 E64 ([0#64, 0#64]) 83), (rC h0 #[yA, yA] 81), (rC f0 #[yA, yA] 24), (rC n0 y11 38), (rC m0 y13 50), (rC e0 y3 24), (rX l0 EI ([((in0.length : Nat) : Int), ((in1.length : Nat) : Int)]) 29), (rC tb1 y5 96), y9]
    let H3 := ((rC tb0 y15 96) : RW)
    let F5 : mC := [RB false false false fun _ _ _ w' => Hp No w₀ w' (H3 :: y7 :: (c2 ++ (EA 66 121 114 sb0 st0 ++ (EA 66 121 114 sb1 st1 ++ R)))), RB true false false fun v8 _ _ w' => ∃ Fe446 M0 N0 O0 a449 V0, v8 = .tuple #[yA, .agg (uA E64 [a449, V0]).toArray, .iface N0 O0] ∧ yV Fe446 ec (M0 + 1) (.iface N0 O0) ∧ M0 ≤ 1 ∧ Hp No w₀ w' ((c2 ++ (Fe446 ++ (EA 66 121 114 sb1 st1 ++ R)))), RB false true false fun _ v13 _ w' => ∃ T1, v13 = pT T1 ∧ Hp No w₀ w' ((rX T1 E64 ([0#64, 0#64]) 83) :: H3 :: y7 :: (c2 ++ (EA 66 121 114 sb0 st0 ++ (EA 66 121 114 sb1 st1 ++ R)))), RB true true false fun v8 v13 _ w' => ∃ Fe446 M0 N0 O0 a449 V0 s1, v8 = .tuple #[yA, .agg (uA E64 [a449, V0]).toArray, .iface N0 O0] ∧ v13 = pT s1 ∧ yV Fe446 ec (M0 + 1) (.iface N0 O0) ∧ M0 ≤ 1 ∧ Hp No w₀ w' ((rX s1 E64 ([0#64, 0#64]) 83) :: (c2 ++ (Fe446 ++ (EA 66 121 114 sb1 st1 ++ R)))), RB true true true fun v8 v13 _ w' => ∃ Fe446 M0 N0 O0 a449 V0 s1, v8 = .tuple #[yA, .agg (uA E64 [a449, V0]).toArray, .iface N0 O0] ∧ v13 = pT s1 ∧ yV Fe446 ec (M0 + 1) (.iface N0 O0) ∧ M0 ≤ 1 ∧ Hp No w₀ w' ((rX s1 E64 ([a449, V0]) 83) :: (c2 ++ (Fe446 ++ (EA 66 121 114 sb1 st1 ++ R))))]
    refine MA (m := 17) [0, 0, 0, 4, 12, 0, 32, 96, 255, 511, 1023, 1023, 1023, 0, 10239, 28671, 65535] [8, 13, 15] c2 F5 BA (fun _ e => E5.ext e) EC (fun f3 => ?_)
    refine gk 8 ?_
    refine WalkT.eff f3 0 ?_ ?_
    ·refine tB (fun r w0 uw hF hE => ?_) fun r w0 uw hF hE => ?_
     ·have G5 := hF.ext hE
      refine gW fun Q' hK => ?_
      have H5 := (Hp.segT (S := [[(rC tb0 y15 96), y7], [(rX i0 E64 ([0#64, 0#64]) 83), (rC h0 #[yA, yA] 81), (rC f0 #[yA, yA] 24), (rC n0 y11 38), (rC m0 y13 50), (rC e0 y3 24), (rX l0 EI ([((in0.length : Nat) : Int), ((in1.length : Nat) : Int)]) 29), (rC tb1 y5 96), y9], EA 66 121 114 sb0 st0, EA 66 121 114 sb1 st1]) (Y := R) G5 4 rfl [0, 2, 1, 3] [] (by decide)).as (L' := (_ :: _ :: (EA 66 121 114 sb0 st0 ++ ([(rX i0 E64 ([0#64, 0#64]) 83), (rC h0 #[yA, yA] 81), (rC f0 #[yA, yA] 24), (rC n0 y11 38), (rC m0 y13 50), (rC e0 y3 24), (rX l0 EI ([((in0.length : Nat) : Int), ((in1.length : Nat) : Int)]) 29), (rC tb1 y5 96), y9] ++ (EA 66 121 114 sb1 st1 ++ R))))) rfl
      refine cl (nN (KD ops oa oc 0 (by decide) tb0 tk0 tc0 ts0 ws0 hSw0 hwl0 sb0 st0 hst0 ([(rX i0 E64 ([0#64, 0#64]) 83), (rC h0 #[yA, yA] 81), (rC f0 #[yA, yA] 24), (rC n0 y11 38), (rC m0 y13 50), (rC e0 y3 24), (rX l0 EI ([((in0.length : Nat) : Int), ((in1.length : Nat) : Int)]) 29), (rC tb1 y5 96), y9] ++ (EA 66 121 114 sb1 st1 ++ R)) w₀ uw hG hop ec hT0 hA0 hB0 hC0 (fun w1 hE hp => hO w1 hE (fun p hp2 => hp p (List.mem_append_right _ (List.mem_append_right _ hp2)))) H5) hal) ?_
      rintro _ O9 ⟨Fe478, I5, P9, a481, J5, rfl, I3, K5, L5⟩
      have J3 := (Hp.midQ (X := Fe478) (A := [(rX i0 E64 ([0#64, 0#64]) 83), (rC h0 #[yA, yA] 81), (rC f0 #[yA, yA] 24), (rC n0 y11 38), (rC m0 y13 50), (rC e0 y3 24), (rX l0 EI ([((in0.length : Nat) : Int), ((in1.length : Nat) : Int)]) 29), (rC tb1 y5 96), y9]) (Y := EA 66 121 114 sb1 st1 ++ R) L5).as (L' := (_ :: _ :: _ :: _ :: _ :: _ :: _ :: _ :: _ :: (Fe478 ++ (EA 66 121 114 sb1 st1 ++ R)))) rfl
      obtain ⟨M5, N5, rfl⟩ := Er.iface (I3 _ (fun p hp => J3.has p (mT (mT (mT (mT (mT (mT (mT (mT (mT ((List.mem_append_left _ hp)))))))))))))
      exact hK _ _ (E_ Fe478 (E_ I5 (E_ M5 (E_ N5 (E_ a481 (E_ J5 (A_ rfl (A_ I3 (A_ K5 J3)))))))))
     ·obtain ⟨T1, o0, g3⟩ := hF
      replace g3 := g3.ext hE
      refine gW fun Q' hK => ?_
      have O5 := (Hp.segT (S := [[(rC tb0 y15 96), y7], [(rX T1 E64 ([0#64, 0#64]) 83), (rX i0 E64 ([0#64, 0#64]) 83), (rC h0 #[yA, yA] 81), (rC f0 #[yA, yA] 24), (rC n0 y11 38), (rC m0 y13 50), (rC e0 y3 24), (rX l0 EI ([((in0.length : Nat) : Int), ((in1.length : Nat) : Int)]) 29), (rC tb1 y5 96), y9], EA 66 121 114 sb0 st0, EA 66 121 114 sb1 st1]) (Y := R) (g3.pk 12 [1, 2, 0, 3, 4, 5, 6, 7, 8, 9, 10, 11]) 4 rfl [0, 2, 1, 3] [] (by decide)).as (L' := (_ :: _ :: (EA 66 121 114 sb0 st0 ++ ([(rX T1 E64 ([0#64, 0#64]) 83), (rX i0 E64 ([0#64, 0#64]) 83), (rC h0 #[yA, yA] 81), (rC f0 #[yA, yA] 24), (rC n0 y11 38), (rC m0 y13 50), (rC e0 y3 24), (rX l0 EI ([((in0.length : Nat) : Int), ((in1.length : Nat) : Int)]) 29), (rC tb1 y5 96), y9] ++ (EA 66 121 114 sb1 st1 ++ R))))) rfl
      refine cl (nN (KD ops oa oc 0 (by decide) tb0 tk0 tc0 ts0 ws0 hSw0 hwl0 sb0 st0 hst0 ([(rX T1 E64 ([0#64, 0#64]) 83), (rX i0 E64 ([0#64, 0#64]) 83), (rC h0 #[yA, yA] 81), (rC f0 #[yA, yA] 24), (rC n0 y11 38), (rC m0 y13 50), (rC e0 y3 24), (rX l0 EI ([((in0.length : Nat) : Int), ((in1.length : Nat) : Int)]) 29), (rC tb1 y5 96), y9] ++ (EA 66 121 114 sb1 st1 ++ R)) w₀ uw hG hop ec hT0 hA0 hB0 hC0 (fun w1 hE hp => hO w1 hE (fun p hp2 => hp p (List.mem_append_right _ (List.mem_append_right _ hp2)))) O5) hal) ?_
      rintro _ Q9 ⟨Fe493, P5, R9, a496, Q5, rfl, K3, R5, S5⟩
      have L3 := (Hp.midQ (X := Fe493) (A := [(rX T1 E64 ([0#64, 0#64]) 83), (rX i0 E64 ([0#64, 0#64]) 83), (rC h0 #[yA, yA] 81), (rC f0 #[yA, yA] 24), (rC n0 y11 38), (rC m0 y13 50), (rC e0 y3 24), (rX l0 EI ([((in0.length : Nat) : Int), ((in1.length : Nat) : Int)]) 29), (rC tb1 y5 96), y9]) (Y := EA 66 121 114 sb1 st1 ++ R) S5).as (L' := (_ :: _ :: _ :: _ :: _ :: _ :: _ :: _ :: _ :: _ :: (Fe493 ++ (EA 66 121 114 sb1 st1 ++ R)))) rfl
      obtain ⟨T5, U5, rfl⟩ := Er.iface (K3 _ (fun p hp => L3.has p (mT (mT (mT (mT (mT (mT (mT (mT (mT (mT ((List.mem_append_left _ hp))))))))))))))
      exact hK _ _ (E_ Fe493 (E_ P5 (E_ T5 (E_ U5 (E_ a496 (E_ Q5 (E_ T1 (A_ rfl (A_ o0 (A_ K3 (A_ R5 L3)))))))))))
    refine bA (fun r => r 8) (fun r r' h => h 8 (by decide) rfl) (fun _ _ => CA rfl) (aA (fun r => AB (r 8) 0) (fun r r' h => by rw [h 8 (by decide) rfl]) ?_ ?_)
    ·refine tB (fun r w0 uw hF hE => ?_) fun r w0 uw hF hE => ?_
     ·obtain ⟨Fe446, M0, N0, O0, a449, V0, e8, e1, J1, HH⟩ := hF
      replace HH := HH.ext hE
      dsimp only
      rw [e8]
      exact xC
     ·obtain ⟨Fe446, M0, N0, O0, a449, V0, s1, e8, o0, e1, J1, HH⟩ := hF
      replace HH := HH.ext hE
      dsimp only
      rw [e8]
      exact xC
    refine aA (fun r => AB (r 8) 1) (fun r r' h => by rw [h 8 (by decide) rfl]) ?_ ?_
    ·refine tB (fun r w0 uw hF hE => ?_) fun r w0 uw hF hE => ?_
     ·obtain ⟨Fe446, M0, N0, O0, a449, V0, e8, e1, J1, HH⟩ := hF
      replace HH := HH.ext hE
      dsimp only
      rw [e8]
      exact xC
     ·obtain ⟨Fe446, M0, N0, O0, a449, V0, s1, e8, o0, e1, J1, HH⟩ := hF
      replace HH := HH.ext hE
      dsimp only
      rw [e8]
      exact xC
    refine aA (fun r => AB (r 8) 2) (fun r r' h => by rw [h 8 (by decide) rfl]) ?_ ?_
    ·refine A_ (fun r w0 uw hF hE => ?_) (A_ (fun r w0 uw hF hE => ?_) (A_ (fun r w0 uw hF hE => ?_) trivial))
     ·obtain ⟨Fe446, M0, N0, O0, a449, V0, e8, e1, J1, HH⟩ := hF
      replace HH := HH.ext hE
      dsimp only
      rw [e8]
      exact xC
     ·obtain ⟨Fe446, M0, N0, O0, a449, V0, s1, e8, o0, e1, J1, HH⟩ := hF
      replace HH := HH.ext hE
      dsimp only
      rw [e8]
      exact xC
     ·obtain ⟨Fe446, M0, N0, O0, a449, V0, s1, e8, o0, e1, J1, HH⟩ := hF
      replace HH := HH.ext hE
      dsimp only
      rw [e8]
      exact xC
    refine WalkT.eff f3 1 ?_ ?_
    ·refine tB (fun r w0 uw hF hE => ?_) fun r w0 uw hF hE => ?_
     ·have S9 := hF.ext hE
      refine gW fun Q' hK => ?_
      refine go 1 ?_
      intro V5 T9 U9 W5 V9
      exact hK _ _ (E_ V5 (A_ rfl W5))
     ·obtain ⟨Fe446, M0, N0, O0, a449, V0, e8, e1, J1, M3⟩ := hF
      replace M3 := M3.ext hE
      refine gW fun Q' hK => ?_
      refine go 1 ?_
      intro X5 W9 X9 Y5 Y9
      exact hK _ _ (E_ Fe446 (E_ M0 (E_ N0 (E_ O0 (E_ a449 (E_ V0 (E_ X5 (A_ e8 (A_ rfl (A_ e1 (A_ J1 Y5)))))))))))
    refine bA (fun r => AB (r 8) 0) (fun r r' h => by rw [h 8 (by decide) rfl]) (fun _ _ => zA rfl) (WalkT.eff f3 2 ?_ ?_)
    ·refine tA fun r w0 uw hF hE => ?_
     obtain ⟨Fe446, M0, N0, O0, a449, V0, s1, e8, o0, e1, J1, N3⟩ := hF
     replace N3 := N3.ext hE
     dsimp only
     rw [o0, e8]
     refine MC fun Q' hK => ?_
     refine go 1 ?_
     intro Z9 Z5 aa
     exact hK _ (fun _ => (E_ Fe446 (E_ M0 (E_ N0 (E_ O0 (E_ a449 (E_ V0 (E_ s1 (A_ e8 (A_ o0 (A_ e1 (A_ J1 Z5))))))))))))
    refine bA (fun r => AB (r 8) 2) (fun r r' h => by rw [h 8 (by decide) rfl]) (fun _ _ => zA rfl) (WalkT.nil fun r w0 c6 hF hE => ?_)
    obtain ⟨Fe446, M0, N0, O0, a449, V0, s1, e8, o0, e1, J1, H2⟩ := hF
    replace H2 := H2.ext hE
    dsimp only
    rw [e8, o0]
    dsimp only [c2] at H2
    have O3 := H2.as (L' := (_ :: _ :: _ :: _ :: _ :: _ :: _ :: _ :: _ :: _ :: (Fe446 ++ (EA 66 121 114 sb1 st1 ++ R)))) rfl
    refine go 1 ?_
    refine sq ((oG vF rfl rfl).as (v' := .bool true) (by rfl)) ?_
    refine go 3 ?_
    refine cl (AE ec (0 : Nat) M0 0 ({data := #[112, 97, 114, 116, 121]}) (.iface N0 O0) c6 uC (e1 _ (fun p hp => O3.has p (mT (mT (mT (mT (mT (mT (mT (mT (mT (mT ((List.mem_append_left _ hp)))))))))))))) om) ?_
    rintro _ ba ⟨⟨d6, rfl, e6, f6⟩, g6⟩
    have ca := (O3.add1 g6 e6 f6).as (L' := (_ :: _ :: _ :: _ :: _ :: _ :: _ :: _ :: _ :: _ :: _ :: (Fe446 ++ (EA 66 121 114 sb1 st1 ++ R)))) rfl
    refine go 1 ?_
    intro da h3 ea
    refine go 1 ?_
    exact ⟨_, rfl, .inr ⟨fun h => hal h.1, _, _, rfl, ⟨_, ⟨d6, _, _, _, rfl, Nat.zero_le _, h3.get (k := 0) rfl, e1 _ (fun p hp => h3.has p (mT (mT (mT (mT (mT (mT (mT (mT (mT (mT (mT ((List.mem_append_left _ hp))))))))))))))⟩⟩, (h3.drop1.drop1.drop1.drop1.drop1.drop1.drop1.drop1.drop1.drop1.drop1.rgt.rgt)⟩⟩
  ·refine go 0 ?_
   refine sq ((KC rfl rfl).as (v' := .bool true) (by rfl)) ?_
   refine go 0 ?_
   by_cases hal : (VA 1 ops + jA (WA 1) ops ops.length ≤ ws1.length ∧ jA fA ops ops.length ≤ st1.t.l.length ∧ jA fB ops ops.length ≤ st1.b.l.length)
   ·refine go 2 ?_
    have h6 := (HL.pk 12 [10, 0, 1, 2, 3, 4, 5, 6, 7, 8, 9, 11])
    let d2 : List RW := [(b0, qA IB 91 a0 q0), (rX i0 E64 ([((0#64) ^^^ ((rB 0 ops ws0).1)), ((0#64) ^^^ ((rB 0 ops ws0).2))]) 83), (rC h0 #[sO b0 ops.length y0, yA] 81), (rC f0 #[yA, yA] 24), (rC n0 y11 38), (rC m0 y13 50), (rC e0 y3 24), (rX l0 EI ([((in0.length : Nat) : Int), ((in1.length : Nat) : Int)]) 29), (rC tb0 y1 96), y7, y9]
    let I2 := ((rC tb1 y16 96) : RW)
    let P3 := ((rC tb1 y5 96) : RW)
    let i6 : mC := [RB false false false fun _ _ _ w' => Hp No w₀ w' (P3 :: (d2 ++ (EA 66 121 114 sb0 d0 ++ (EA 66 121 114 sb1 st1 ++ (F0 ++ R))))), RB true false false fun v8 _ _ w' => ∃ H0 P0 Q0 D0 x0 R0, v8 = .tuple #[sO H0 ops.length P0, .agg (uA E64 [(rB 1 ops ws1).1, (rB 1 ops ws1).2]).toArray, .nilIface] ∧ Sl IB H0 D0 P0 Q0 ∧ DrN (OB ops ((1 : Nat) : Int) (WA 1) ws1 (VA 1 ops)) (MB ops st1.t.l st1.b.l) ops.length D0 ops.length ∧ x0.ok ∧ x0.t.l = st1.t.l.drop (jA fA ops ops.length) ∧ x0.b.l = st1.b.l.drop (jA fB ops ops.length) ∧ x0.o.l = st1.o.l.drop (jA fO ops ops.length) ∧ DrG 121 83 R0 1 ops st1.o.l ws1 (VA 1 ops) D0 ops.length ∧ Hp No w₀ w' ((H0, qA IB 91 D0 Q0) :: I2 :: (d2 ++ (EA 66 121 114 sb0 d0 ++ (EA 66 121 114 sb1 x0 ++ (R0 ++ (F0 ++ R)))))), RB false true false fun _ v13 _ w' => ∃ U1, v13 = pT U1 ∧ Hp No w₀ w' ((rX U1 E64 ([0#64, 0#64]) 83) :: P3 :: (d2 ++ (EA 66 121 114 sb0 d0 ++ (EA 66 121 114 sb1 st1 ++ (F0 ++ R))))), RB true true false fun v8 v13 _ w' => ∃ H0 P0 Q0 D0 x0 R0 t1, v8 = .tuple #[sO H0 ops.length P0, .agg (uA E64 [(rB 1 ops ws1).1, (rB 1 ops ws1).2]).toArray, .nilIface] ∧ v13 = pT t1 ∧ Sl IB H0 D0 P0 Q0 ∧ DrN (OB ops ((1 : Nat) : Int) (WA 1) ws1 (VA 1 ops)) (MB ops st1.t.l st1.b.l) ops.length D0 ops.length ∧ x0.ok ∧ x0.t.l = st1.t.l.drop (jA fA ops ops.length) ∧ x0.b.l = st1.b.l.drop (jA fB ops ops.length) ∧ x0.o.l = st1.o.l.drop (jA fO ops ops.length) ∧ DrG 121 83 R0 1 ops st1.o.l ws1 (VA 1 ops) D0 ops.length ∧ Hp No w₀ w' ((rX t1 E64 ([0#64, 0#64]) 83) :: (H0, qA IB 91 D0 Q0) :: I2 :: (d2 ++ (EA 66 121 114 sb0 d0 ++ (EA 66 121 114 sb1 x0 ++ (R0 ++ (F0 ++ R)))))), RB true true true fun v8 v13 _ w' => ∃ H0 P0 Q0 D0 x0 R0 t1, v8 = .tuple #[sO H0 ops.length P0, .agg (uA E64 [(rB 1 ops ws1).1, (rB 1 ops ws1).2]).toArray, .nilIface] ∧ v13 = pT t1 ∧ Sl IB H0 D0 P0 Q0 ∧ DrN (OB ops ((1 : Nat) : Int) (WA 1) ws1 (VA 1 ops)) (MB ops st1.t.l st1.b.l) ops.length D0 ops.length ∧ x0.ok ∧ x0.t.l = st1.t.l.drop (jA fA ops ops.length) ∧ x0.b.l = st1.b.l.drop (jA fB ops ops.length) ∧ x0.o.l = st1.o.l.drop (jA fO ops ops.length) ∧ DrG 121 83 R0 1 ops st1.o.l ws1 (VA 1 ops) D0 ops.length ∧ Hp No w₀ w' ((rX t1 E64 ([(rB 1 ops ws1).1, (rB 1 ops ws1).2]) 83) :: (H0, qA IB 91 D0 Q0) :: I2 :: (d2 ++ (EA 66 121 114 sb0 d0 ++ (EA 66 121 114 sb1 x0 ++ (R0 ++ (F0 ++ R))))))]
    refine MA (m := 17) [0, 0, 0, 4, 12, 0, 32, 96, 255, 511, 1023, 1023, 1023, 0, 10239, 28671, 65535] [8, 13, 15] d2 i6 BA (fun _ e => h6.ext e) EC (fun i3 => ?_)
    refine gk 8 ?_
    refine WalkT.eff i3 0 ?_ ?_
    ·refine tB (fun r w0 uw hF hE => ?_) fun r w0 uw hF hE => ?_
     ·have j6 := hF.ext hE
      refine gW fun Q' hK => ?_
      have k6 := (Hp.segT (S := [[(rC tb1 y5 96), y9], [(b0, qA IB 91 a0 q0), (rX i0 E64 ([((0#64) ^^^ ((rB 0 ops ws0).1)), ((0#64) ^^^ ((rB 0 ops ws0).2))]) 83), (rC h0 #[sO b0 ops.length y0, yA] 81), (rC f0 #[yA, yA] 24), (rC n0 y11 38), (rC m0 y13 50), (rC e0 y3 24), (rX l0 EI ([((in0.length : Nat) : Int), ((in1.length : Nat) : Int)]) 29), (rC tb0 y1 96), y7], EA 66 121 114 sb0 d0, EA 66 121 114 sb1 st1]) (Y := (F0 ++ R)) (j6.pk 12 [0, 11, 1, 2, 3, 4, 5, 6, 7, 8, 9, 10]) 4 rfl [0, 3, 1, 2] [] (by decide)).as (L' := (_ :: _ :: (EA 66 121 114 sb1 st1 ++ ([(b0, qA IB 91 a0 q0), (rX i0 E64 ([((0#64) ^^^ ((rB 0 ops ws0).1)), ((0#64) ^^^ ((rB 0 ops ws0).2))]) 83), (rC h0 #[sO b0 ops.length y0, yA] 81), (rC f0 #[yA, yA] 24), (rC n0 y11 38), (rC m0 y13 50), (rC e0 y3 24), (rX l0 EI ([((in0.length : Nat) : Int), ((in1.length : Nat) : Int)]) 29), (rC tb0 y1 96), y7] ++ (EA 66 121 114 sb0 d0 ++ (F0 ++ R)))))) rfl
      refine cl (lL (KD ops oa oc 1 (by decide) tb1 tk1 tc1 ts1 ws1 hSw1 hwl1 sb1 st1 hst1 ([(b0, qA IB 91 a0 q0), (rX i0 E64 ([((0#64) ^^^ ((rB 0 ops ws0).1)), ((0#64) ^^^ ((rB 0 ops ws0).2))]) 83), (rC h0 #[sO b0 ops.length y0, yA] 81), (rC f0 #[yA, yA] 24), (rC n0 y11 38), (rC m0 y13 50), (rC e0 y3 24), (rX l0 EI ([((in0.length : Nat) : Int), ((in1.length : Nat) : Int)]) 29), (rC tb0 y1 96), y7] ++ (EA 66 121 114 sb0 d0 ++ (F0 ++ R))) w₀ uw hG hop ec hT1 hA1 hB1 hC1 (fun w1 hE hp => hO w1 hE (fun p hp2 => hp p (List.mem_append_right _ (List.mem_append_right _ (List.mem_append_right _ hp2))))) k6) hal) ?_
      rintro _ fa ⟨Q3, l6, R3, S3, j3, k3, rfl, m6, n6, o6, p6, q6, r6, s6, t6⟩
      have u6 := (Hp.segT (S := [[(Q3, qA IB 91 S3 R3), (rC tb1 y16 96), y9], EA 66 121 114 sb1 j3, k3, [(b0, qA IB 91 a0 q0), (rX i0 E64 ([((0#64) ^^^ ((rB 0 ops ws0).1)), ((0#64) ^^^ ((rB 0 ops ws0).2))]) 83), (rC h0 #[sO b0 ops.length y0, yA] 81), (rC f0 #[yA, yA] 24), (rC n0 y11 38), (rC m0 y13 50), (rC e0 y3 24), (rX l0 EI ([((in0.length : Nat) : Int), ((in1.length : Nat) : Int)]) 29), (rC tb0 y1 96), y7], EA 66 121 114 sb0 d0]) (Y := (F0 ++ R)) t6 5 rfl [0, 3, 4, 1, 2] [] (by decide)).as (L' := (_ :: _ :: _ :: _ :: _ :: _ :: _ :: _ :: _ :: _ :: _ :: _ :: _ :: (EA 66 121 114 sb0 d0 ++ (EA 66 121 114 sb1 j3 ++ (k3 ++ (F0 ++ R)))))) rfl
      exact hK _ _ (E_ Q3 (E_ l6 (E_ R3 (E_ S3 (E_ j3 (E_ k3 (A_ rfl (A_ m6 (A_ n6 (A_ o6 (A_ p6 (A_ q6 (A_ r6 (A_ s6 ((u6.pk 13 [0, 1, 3, 4, 5, 6, 7, 8, 9, 10, 11, 12, 2]))))))))))))))))
     ·obtain ⟨U1, o0, l3⟩ := hF
      replace l3 := l3.ext hE
      refine gW fun Q' hK => ?_
      have w6 := (Hp.segT (S := [[(rC tb1 y5 96), y9], [(rX U1 E64 ([0#64, 0#64]) 83), (b0, qA IB 91 a0 q0), (rX i0 E64 ([((0#64) ^^^ ((rB 0 ops ws0).1)), ((0#64) ^^^ ((rB 0 ops ws0).2))]) 83), (rC h0 #[sO b0 ops.length y0, yA] 81), (rC f0 #[yA, yA] 24), (rC n0 y11 38), (rC m0 y13 50), (rC e0 y3 24), (rX l0 EI ([((in0.length : Nat) : Int), ((in1.length : Nat) : Int)]) 29), (rC tb0 y1 96), y7], EA 66 121 114 sb0 d0, EA 66 121 114 sb1 st1]) (Y := (F0 ++ R)) (l3.pk 13 [1, 12, 0, 2, 3, 4, 5, 6, 7, 8, 9, 10, 11]) 4 rfl [0, 3, 1, 2] [] (by decide)).as (L' := (_ :: _ :: (EA 66 121 114 sb1 st1 ++ ([(rX U1 E64 ([0#64, 0#64]) 83), (b0, qA IB 91 a0 q0), (rX i0 E64 ([((0#64) ^^^ ((rB 0 ops ws0).1)), ((0#64) ^^^ ((rB 0 ops ws0).2))]) 83), (rC h0 #[sO b0 ops.length y0, yA] 81), (rC f0 #[yA, yA] 24), (rC n0 y11 38), (rC m0 y13 50), (rC e0 y3 24), (rX l0 EI ([((in0.length : Nat) : Int), ((in1.length : Nat) : Int)]) 29), (rC tb0 y1 96), y7] ++ (EA 66 121 114 sb0 d0 ++ (F0 ++ R)))))) rfl
      refine cl (lL (KD ops oa oc 1 (by decide) tb1 tk1 tc1 ts1 ws1 hSw1 hwl1 sb1 st1 hst1 ([(rX U1 E64 ([0#64, 0#64]) 83), (b0, qA IB 91 a0 q0), (rX i0 E64 ([((0#64) ^^^ ((rB 0 ops ws0).1)), ((0#64) ^^^ ((rB 0 ops ws0).2))]) 83), (rC h0 #[sO b0 ops.length y0, yA] 81), (rC f0 #[yA, yA] 24), (rC n0 y11 38), (rC m0 y13 50), (rC e0 y3 24), (rX l0 EI ([((in0.length : Nat) : Int), ((in1.length : Nat) : Int)]) 29), (rC tb0 y1 96), y7] ++ (EA 66 121 114 sb0 d0 ++ (F0 ++ R))) w₀ uw hG hop ec hT1 hA1 hB1 hC1 (fun w1 hE hp => hO w1 hE (fun p hp2 => hp p (List.mem_append_right _ (List.mem_append_right _ (List.mem_append_right _ hp2))))) w6) hal) ?_
      rintro _ ga ⟨T3, x6, U3, V3, m3, n3, rfl, z6, A6, B6, C6, D6, E6, F6, G6⟩
      have H6 := (Hp.segT (S := [[(T3, qA IB 91 V3 U3), (rC tb1 y16 96), y9], EA 66 121 114 sb1 m3, n3, [(rX U1 E64 ([0#64, 0#64]) 83), (b0, qA IB 91 a0 q0), (rX i0 E64 ([((0#64) ^^^ ((rB 0 ops ws0).1)), ((0#64) ^^^ ((rB 0 ops ws0).2))]) 83), (rC h0 #[sO b0 ops.length y0, yA] 81), (rC f0 #[yA, yA] 24), (rC n0 y11 38), (rC m0 y13 50), (rC e0 y3 24), (rX l0 EI ([((in0.length : Nat) : Int), ((in1.length : Nat) : Int)]) 29), (rC tb0 y1 96), y7], EA 66 121 114 sb0 d0]) (Y := (F0 ++ R)) G6 5 rfl [0, 3, 4, 1, 2] [] (by decide)).as (L' := (_ :: _ :: _ :: _ :: _ :: _ :: _ :: _ :: _ :: _ :: _ :: _ :: _ :: _ :: (EA 66 121 114 sb0 d0 ++ (EA 66 121 114 sb1 m3 ++ (n3 ++ (F0 ++ R)))))) rfl
      exact hK _ _ (E_ T3 (E_ x6 (E_ U3 (E_ V3 (E_ m3 (E_ n3 (E_ U1 (A_ rfl (A_ o0 (A_ z6 (A_ A6 (A_ B6 (A_ C6 (A_ D6 (A_ E6 (A_ F6 ((H6.pk 14 [3, 0, 1, 4, 5, 6, 7, 8, 9, 10, 11, 12, 13, 2]))))))))))))))))))
    refine bA (fun r => r 8) (fun r r' h => h 8 (by decide) rfl) (fun _ _ => CA rfl) (aA (fun r => AB (r 8) 0) (fun r r' h => by rw [h 8 (by decide) rfl]) ?_ ?_)
    ·refine tB (fun r w0 uw hF hE => ?_) fun r w0 uw hF hE => ?_
     ·obtain ⟨H0, P0, Q0, D0, x0, R0, e8, x1, A1, B1, C1, D1, E1, G1, HH⟩ := hF
      replace HH := HH.ext hE
      dsimp only
      rw [e8]
      exact xC
     ·obtain ⟨H0, P0, Q0, D0, x0, R0, t1, e8, o0, x1, A1, B1, C1, D1, E1, G1, HH⟩ := hF
      replace HH := HH.ext hE
      dsimp only
      rw [e8]
      exact xC
    refine aA (fun r => AB (r 8) 1) (fun r r' h => by rw [h 8 (by decide) rfl]) ?_ ?_
    ·refine tB (fun r w0 uw hF hE => ?_) fun r w0 uw hF hE => ?_
     ·obtain ⟨H0, P0, Q0, D0, x0, R0, e8, x1, A1, B1, C1, D1, E1, G1, HH⟩ := hF
      replace HH := HH.ext hE
      dsimp only
      rw [e8]
      exact xC
     ·obtain ⟨H0, P0, Q0, D0, x0, R0, t1, e8, o0, x1, A1, B1, C1, D1, E1, G1, HH⟩ := hF
      replace HH := HH.ext hE
      dsimp only
      rw [e8]
      exact xC
    refine aA (fun r => AB (r 8) 2) (fun r r' h => by rw [h 8 (by decide) rfl]) ?_ ?_
    ·refine A_ (fun r w0 uw hF hE => ?_) (A_ (fun r w0 uw hF hE => ?_) (A_ (fun r w0 uw hF hE => ?_) trivial))
     ·obtain ⟨H0, P0, Q0, D0, x0, R0, e8, x1, A1, B1, C1, D1, E1, G1, HH⟩ := hF
      replace HH := HH.ext hE
      dsimp only
      rw [e8]
      exact xC
     ·obtain ⟨H0, P0, Q0, D0, x0, R0, t1, e8, o0, x1, A1, B1, C1, D1, E1, G1, HH⟩ := hF
      replace HH := HH.ext hE
      dsimp only
      rw [e8]
      exact xC
     ·obtain ⟨H0, P0, Q0, D0, x0, R0, t1, e8, o0, x1, A1, B1, C1, D1, E1, G1, HH⟩ := hF
      replace HH := HH.ext hE
      dsimp only
      rw [e8]
      exact xC
    refine WalkT.eff i3 1 ?_ ?_
    ·refine tB (fun r w0 uw hF hE => ?_) fun r w0 uw hF hE => ?_
     ·have ha := hF.ext hE
      refine gW fun Q' hK => ?_
      refine go 1 ?_
      intro I6 ia ja J6 ka
      exact hK _ _ (E_ I6 (A_ rfl J6))
     ·obtain ⟨H0, P0, Q0, D0, x0, R0, e8, x1, A1, B1, C1, D1, E1, G1, W3⟩ := hF
      replace W3 := W3.ext hE
      refine gW fun Q' hK => ?_
      refine go 1 ?_
      intro K6 la ma L6 na
      exact hK _ _ (E_ H0 (E_ P0 (E_ Q0 (E_ D0 (E_ x0 (E_ R0 (E_ K6 (A_ e8 (A_ rfl (A_ x1 (A_ A1 (A_ B1 (A_ C1 (A_ D1 (A_ E1 (A_ G1 L6))))))))))))))))
    refine bA (fun r => AB (r 8) 0) (fun r r' h => by rw [h 8 (by decide) rfl]) (fun _ _ => zA rfl) (WalkT.eff i3 2 ?_ ?_)
    ·refine tA fun r w0 uw hF hE => ?_
     obtain ⟨H0, P0, Q0, D0, x0, R0, t1, e8, o0, x1, A1, B1, C1, D1, E1, G1, X3⟩ := hF
     replace X3 := X3.ext hE
     dsimp only
     rw [o0, e8]
     refine MC fun Q' hK => ?_
     refine go 1 ?_
     intro qa M6 ra
     exact hK _ (fun _ => (E_ H0 (E_ P0 (E_ Q0 (E_ D0 (E_ x0 (E_ R0 (E_ t1 (A_ e8 (A_ o0 (A_ x1 (A_ A1 (A_ B1 (A_ C1 (A_ D1 (A_ E1 (A_ G1 M6)))))))))))))))))
    refine bA (fun r => AB (r 8) 2) (fun r r' h => by rw [h 8 (by decide) rfl]) (fun _ _ => zA rfl) (WalkT.nil fun r w0 sa hF hE => ?_)
    obtain ⟨H0, P0, Q0, D0, x0, R0, t1, e8, o0, x1, A1, B1, C1, D1, E1, G1, o3⟩ := hF
    replace o3 := o3.ext hE
    dsimp only
    rw [e8, o0]
    dsimp only [d2, I2] at o3
    refine go 1 ?_
    refine sq ((rE vF rfl rfl).as (v' := .bool false) (by rfl)) ?_
    refine go 4 ?_
    intro N6 O6 ta
    refine go 2 ?_
    refine cl (Ms.mJ ((0#64) ^^^ ((rB 0 ops ws0).1)) ((0#64) ^^^ ((rB 0 ops ws0).2)) ((rB 1 ops ws1).1) ((rB 1 ops ws1).2) N6) ?_
    rintro _ ua ⟨rfl, P6⟩
    have wa := O6.ext P6
    refine go 1 ?_
    intro xa Q6 ya
    refine go 2 ?_
    exact ⟨(1 + 1, _), _, rfl, kp, ⟨⟨om, .inr (.inr ⟨rfl, b0, y0, q0, a0, d0, F0, H0, P0, Q0, D0, x0, R0, w3, w2, R2, hst0, S2, T2, k2, x1, A1, B1, C1, D1, E1, G1, hal0, hal, rfl⟩)⟩, (Q6.pk 14 [3, 1, 4, 5, 6, 7, 8, 9, 10, 11, 12, 2, 13])⟩, vd⟩
   ·refine go 2 ?_
    have R6 := (HL.pk 12 [10, 11, 0, 1, 2, 3, 4, 5, 6, 7, 8, 9])
    let e2 : List RW := [(b0, qA IB 91 a0 q0), (rX i0 E64 ([((0#64) ^^^ ((rB 0 ops ws0).1)), ((0#64) ^^^ ((rB 0 ops ws0).2))]) 83), (rC h0 #[sO b0 ops.length y0, yA] 81), (rC f0 #[yA, yA] 24), (rC n0 y11 38), (rC m0 y13 50), (rC e0 y3 24), (rX l0 EI ([((in0.length : Nat) : Int), ((in1.length : Nat) : Int)]) 29), (rC tb0 y1 96), y7]
    let Y3 := ((rC tb1 y5 96) : RW)
    let S6 : mC := [RB false false false fun _ _ _ w' => Hp No w₀ w' (Y3 :: y9 :: (e2 ++ (EA 66 121 114 sb0 d0 ++ (EA 66 121 114 sb1 st1 ++ (F0 ++ R))))), RB true false false fun v8 _ _ w' => ∃ Fe701 S0 T0 U0 a704 W0, v8 = .tuple #[yA, .agg (uA E64 [a704, W0]).toArray, .iface T0 U0] ∧ yV Fe701 ec (S0 + 1) (.iface T0 U0) ∧ S0 ≤ 1 ∧ Hp No w₀ w' ((e2 ++ (Fe701 ++ (EA 66 121 114 sb0 d0 ++ (F0 ++ R))))), RB false true false fun _ v13 _ w' => ∃ V1, v13 = pT V1 ∧ Hp No w₀ w' ((rX V1 E64 ([0#64, 0#64]) 83) :: Y3 :: y9 :: (e2 ++ (EA 66 121 114 sb0 d0 ++ (EA 66 121 114 sb1 st1 ++ (F0 ++ R))))), RB true true false fun v8 v13 _ w' => ∃ Fe701 S0 T0 U0 a704 W0 H1, v8 = .tuple #[yA, .agg (uA E64 [a704, W0]).toArray, .iface T0 U0] ∧ v13 = pT H1 ∧ yV Fe701 ec (S0 + 1) (.iface T0 U0) ∧ S0 ≤ 1 ∧ Hp No w₀ w' ((rX H1 E64 ([0#64, 0#64]) 83) :: (e2 ++ (Fe701 ++ (EA 66 121 114 sb0 d0 ++ (F0 ++ R))))), RB true true true fun v8 v13 _ w' => ∃ Fe701 S0 T0 U0 a704 W0 H1, v8 = .tuple #[yA, .agg (uA E64 [a704, W0]).toArray, .iface T0 U0] ∧ v13 = pT H1 ∧ yV Fe701 ec (S0 + 1) (.iface T0 U0) ∧ S0 ≤ 1 ∧ Hp No w₀ w' ((rX H1 E64 ([a704, W0]) 83) :: (e2 ++ (Fe701 ++ (EA 66 121 114 sb0 d0 ++ (F0 ++ R)))))]
    refine MA (m := 17) [0, 0, 0, 4, 12, 0, 32, 96, 255, 511, 1023, 1023, 1023, 0, 10239, 28671, 65535] [8, 13, 15] e2 S6 BA (fun _ e => R6.ext e) EC (fun p3 => ?_)
    refine gk 8 ?_
    refine WalkT.eff p3 0 ?_ ?_
    ·refine tB (fun r w0 uw hF hE => ?_) fun r w0 uw hF hE => ?_
     ·have T6 := hF.ext hE
      refine gW fun Q' hK => ?_
      have U6 := (Hp.segT (S := [[(rC tb1 y5 96), y9], [(b0, qA IB 91 a0 q0), (rX i0 E64 ([((0#64) ^^^ ((rB 0 ops ws0).1)), ((0#64) ^^^ ((rB 0 ops ws0).2))]) 83), (rC h0 #[sO b0 ops.length y0, yA] 81), (rC f0 #[yA, yA] 24), (rC n0 y11 38), (rC m0 y13 50), (rC e0 y3 24), (rX l0 EI ([((in0.length : Nat) : Int), ((in1.length : Nat) : Int)]) 29), (rC tb0 y1 96), y7], EA 66 121 114 sb0 d0, EA 66 121 114 sb1 st1]) (Y := (F0 ++ R)) T6 4 rfl [0, 3, 1, 2] [] (by decide)).as (L' := (_ :: _ :: (EA 66 121 114 sb1 st1 ++ ([(b0, qA IB 91 a0 q0), (rX i0 E64 ([((0#64) ^^^ ((rB 0 ops ws0).1)), ((0#64) ^^^ ((rB 0 ops ws0).2))]) 83), (rC h0 #[sO b0 ops.length y0, yA] 81), (rC f0 #[yA, yA] 24), (rC n0 y11 38), (rC m0 y13 50), (rC e0 y3 24), (rX l0 EI ([((in0.length : Nat) : Int), ((in1.length : Nat) : Int)]) 29), (rC tb0 y1 96), y7] ++ (EA 66 121 114 sb0 d0 ++ (F0 ++ R)))))) rfl
      refine cl (nN (KD ops oa oc 1 (by decide) tb1 tk1 tc1 ts1 ws1 hSw1 hwl1 sb1 st1 hst1 ([(b0, qA IB 91 a0 q0), (rX i0 E64 ([((0#64) ^^^ ((rB 0 ops ws0).1)), ((0#64) ^^^ ((rB 0 ops ws0).2))]) 83), (rC h0 #[sO b0 ops.length y0, yA] 81), (rC f0 #[yA, yA] 24), (rC n0 y11 38), (rC m0 y13 50), (rC e0 y3 24), (rX l0 EI ([((in0.length : Nat) : Int), ((in1.length : Nat) : Int)]) 29), (rC tb0 y1 96), y7] ++ (EA 66 121 114 sb0 d0 ++ (F0 ++ R))) w₀ uw hG hop ec hT1 hA1 hB1 hC1 (fun w1 hE hp => hO w1 hE (fun p hp2 => hp p (List.mem_append_right _ (List.mem_append_right _ (List.mem_append_right _ hp2))))) U6) hal) ?_
      rintro _ za ⟨Fe733, V6, Aa, a736, W6, rfl, Z3, X6, Y6⟩
      have c4 := (Hp.midQ (X := Fe733) (A := [(b0, qA IB 91 a0 q0), (rX i0 E64 ([((0#64) ^^^ ((rB 0 ops ws0).1)), ((0#64) ^^^ ((rB 0 ops ws0).2))]) 83), (rC h0 #[sO b0 ops.length y0, yA] 81), (rC f0 #[yA, yA] 24), (rC n0 y11 38), (rC m0 y13 50), (rC e0 y3 24), (rX l0 EI ([((in0.length : Nat) : Int), ((in1.length : Nat) : Int)]) 29), (rC tb0 y1 96), y7]) (Y := EA 66 121 114 sb0 d0 ++ (F0 ++ R)) Y6).as (L' := (_ :: _ :: _ :: _ :: _ :: _ :: _ :: _ :: _ :: _ :: (Fe733 ++ (EA 66 121 114 sb0 d0 ++ (F0 ++ R))))) rfl
      obtain ⟨Z6, c7, rfl⟩ := Er.iface (Z3 _ (fun p hp => c4.has p (mT (mT (mT (mT (mT (mT (mT (mT (mT (mT ((List.mem_append_left _ hp))))))))))))))
      exact hK _ _ (E_ Fe733 (E_ V6 (E_ Z6 (E_ c7 (E_ a736 (E_ W6 (A_ rfl (A_ Z3 (A_ X6 c4)))))))))
     ·obtain ⟨V1, o0, q3⟩ := hF
      replace q3 := q3.ext hE
      refine gW fun Q' hK => ?_
      have d7 := (Hp.segT (S := [[(rC tb1 y5 96), y9], [(rX V1 E64 ([0#64, 0#64]) 83), (b0, qA IB 91 a0 q0), (rX i0 E64 ([((0#64) ^^^ ((rB 0 ops ws0).1)), ((0#64) ^^^ ((rB 0 ops ws0).2))]) 83), (rC h0 #[sO b0 ops.length y0, yA] 81), (rC f0 #[yA, yA] 24), (rC n0 y11 38), (rC m0 y13 50), (rC e0 y3 24), (rX l0 EI ([((in0.length : Nat) : Int), ((in1.length : Nat) : Int)]) 29), (rC tb0 y1 96), y7], EA 66 121 114 sb0 d0, EA 66 121 114 sb1 st1]) (Y := (F0 ++ R)) (q3.pk 13 [1, 2, 0, 3, 4, 5, 6, 7, 8, 9, 10, 11, 12]) 4 rfl [0, 3, 1, 2] [] (by decide)).as (L' := (_ :: _ :: (EA 66 121 114 sb1 st1 ++ ([(rX V1 E64 ([0#64, 0#64]) 83), (b0, qA IB 91 a0 q0), (rX i0 E64 ([((0#64) ^^^ ((rB 0 ops ws0).1)), ((0#64) ^^^ ((rB 0 ops ws0).2))]) 83), (rC h0 #[sO b0 ops.length y0, yA] 81), (rC f0 #[yA, yA] 24), (rC n0 y11 38), (rC m0 y13 50), (rC e0 y3 24), (rX l0 EI ([((in0.length : Nat) : Int), ((in1.length : Nat) : Int)]) 29), (rC tb0 y1 96), y7] ++ (EA 66 121 114 sb0 d0 ++ (F0 ++ R)))))) rfl
      refine cl (nN (KD ops oa oc 1 (by decide) tb1 tk1 tc1 ts1 ws1 hSw1 hwl1 sb1 st1 hst1 ([(rX V1 E64 ([0#64, 0#64]) 83), (b0, qA IB 91 a0 q0), (rX i0 E64 ([((0#64) ^^^ ((rB 0 ops ws0).1)), ((0#64) ^^^ ((rB 0 ops ws0).2))]) 83), (rC h0 #[sO b0 ops.length y0, yA] 81), (rC f0 #[yA, yA] 24), (rC n0 y11 38), (rC m0 y13 50), (rC e0 y3 24), (rX l0 EI ([((in0.length : Nat) : Int), ((in1.length : Nat) : Int)]) 29), (rC tb0 y1 96), y7] ++ (EA 66 121 114 sb0 d0 ++ (F0 ++ R))) w₀ uw hG hop ec hT1 hA1 hB1 hC1 (fun w1 hE hp => hO w1 hE (fun p hp2 => hp p (List.mem_append_right _ (List.mem_append_right _ (List.mem_append_right _ hp2))))) d7) hal) ?_
      rintro _ Ba ⟨Fe748, e7, Da, a751, f7, rfl, d4, g7, h7⟩
      have f4 := (Hp.midQ (X := Fe748) (A := [(rX V1 E64 ([0#64, 0#64]) 83), (b0, qA IB 91 a0 q0), (rX i0 E64 ([((0#64) ^^^ ((rB 0 ops ws0).1)), ((0#64) ^^^ ((rB 0 ops ws0).2))]) 83), (rC h0 #[sO b0 ops.length y0, yA] 81), (rC f0 #[yA, yA] 24), (rC n0 y11 38), (rC m0 y13 50), (rC e0 y3 24), (rX l0 EI ([((in0.length : Nat) : Int), ((in1.length : Nat) : Int)]) 29), (rC tb0 y1 96), y7]) (Y := EA 66 121 114 sb0 d0 ++ (F0 ++ R)) h7).as (L' := (_ :: _ :: _ :: _ :: _ :: _ :: _ :: _ :: _ :: _ :: _ :: (Fe748 ++ (EA 66 121 114 sb0 d0 ++ (F0 ++ R))))) rfl
      obtain ⟨i7, j7, rfl⟩ := Er.iface (d4 _ (fun p hp => f4.has p (mT (mT (mT (mT (mT (mT (mT (mT (mT (mT (mT ((List.mem_append_left _ hp)))))))))))))))
      exact hK _ _ (E_ Fe748 (E_ e7 (E_ i7 (E_ j7 (E_ a751 (E_ f7 (E_ V1 (A_ rfl (A_ o0 (A_ d4 (A_ g7 f4)))))))))))
    refine bA (fun r => r 8) (fun r r' h => h 8 (by decide) rfl) (fun _ _ => CA rfl) (aA (fun r => AB (r 8) 0) (fun r r' h => by rw [h 8 (by decide) rfl]) ?_ ?_)
    ·refine tB (fun r w0 uw hF hE => ?_) fun r w0 uw hF hE => ?_
     ·obtain ⟨Fe701, S0, T0, U0, a704, W0, e8, g1, K1, HH⟩ := hF
      replace HH := HH.ext hE
      dsimp only
      rw [e8]
      exact xC
     ·obtain ⟨Fe701, S0, T0, U0, a704, W0, H1, e8, o0, g1, K1, HH⟩ := hF
      replace HH := HH.ext hE
      dsimp only
      rw [e8]
      exact xC
    refine aA (fun r => AB (r 8) 1) (fun r r' h => by rw [h 8 (by decide) rfl]) ?_ ?_
    ·refine tB (fun r w0 uw hF hE => ?_) fun r w0 uw hF hE => ?_
     ·obtain ⟨Fe701, S0, T0, U0, a704, W0, e8, g1, K1, HH⟩ := hF
      replace HH := HH.ext hE
      dsimp only
      rw [e8]
      exact xC
     ·obtain ⟨Fe701, S0, T0, U0, a704, W0, H1, e8, o0, g1, K1, HH⟩ := hF
      replace HH := HH.ext hE
      dsimp only
      rw [e8]
      exact xC
    refine aA (fun r => AB (r 8) 2) (fun r r' h => by rw [h 8 (by decide) rfl]) ?_ ?_
    ·refine A_ (fun r w0 uw hF hE => ?_) (A_ (fun r w0 uw hF hE => ?_) (A_ (fun r w0 uw hF hE => ?_) trivial))
     ·obtain ⟨Fe701, S0, T0, U0, a704, W0, e8, g1, K1, HH⟩ := hF
      replace HH := HH.ext hE
      dsimp only
      rw [e8]
      exact xC
     ·obtain ⟨Fe701, S0, T0, U0, a704, W0, H1, e8, o0, g1, K1, HH⟩ := hF
      replace HH := HH.ext hE
      dsimp only
      rw [e8]
      exact xC
     ·obtain ⟨Fe701, S0, T0, U0, a704, W0, H1, e8, o0, g1, K1, HH⟩ := hF
      replace HH := HH.ext hE
      dsimp only
      rw [e8]
      exact xC
    refine WalkT.eff p3 1 ?_ ?_
    ·refine tB (fun r w0 uw hF hE => ?_) fun r w0 uw hF hE => ?_
     ·have Ea := hF.ext hE
      refine gW fun Q' hK => ?_
      refine go 1 ?_
      intro k7 Fa Ga l7 Ha
      exact hK _ _ (E_ k7 (A_ rfl l7))
     ·obtain ⟨Fe701, S0, T0, U0, a704, W0, e8, g1, K1, g4⟩ := hF
      replace g4 := g4.ext hE
      refine gW fun Q' hK => ?_
      refine go 1 ?_
      intro m7 Ia Ja n7 Ka
      exact hK _ _ (E_ Fe701 (E_ S0 (E_ T0 (E_ U0 (E_ a704 (E_ W0 (E_ m7 (A_ e8 (A_ rfl (A_ g1 (A_ K1 n7)))))))))))
    refine bA (fun r => AB (r 8) 0) (fun r r' h => by rw [h 8 (by decide) rfl]) (fun _ _ => zA rfl) (WalkT.eff p3 2 ?_ ?_)
    ·refine tA fun r w0 uw hF hE => ?_
     obtain ⟨Fe701, S0, T0, U0, a704, W0, H1, e8, o0, g1, K1, h4⟩ := hF
     replace h4 := h4.ext hE
     dsimp only
     rw [o0, e8]
     refine MC fun Q' hK => ?_
     refine go 1 ?_
     intro La o7 Ma
     exact hK _ (fun _ => (E_ Fe701 (E_ S0 (E_ T0 (E_ U0 (E_ a704 (E_ W0 (E_ H1 (A_ e8 (A_ o0 (A_ g1 (A_ K1 o7))))))))))))
    refine bA (fun r => AB (r 8) 2) (fun r r' h => by rw [h 8 (by decide) rfl]) (fun _ _ => zA rfl) (WalkT.nil fun r w0 p7 hF hE => ?_)
    obtain ⟨Fe701, S0, T0, U0, a704, W0, H1, e8, o0, g1, K1, J2⟩ := hF
    replace J2 := J2.ext hE
    dsimp only
    rw [e8, o0]
    dsimp only [e2] at J2
    have i4 := J2.as (L' := (_ :: _ :: _ :: _ :: _ :: _ :: _ :: _ :: _ :: _ :: _ :: (Fe701 ++ (EA 66 121 114 sb0 d0 ++ (F0 ++ R))))) rfl
    refine go 1 ?_
    refine sq ((oG vF rfl rfl).as (v' := .bool true) (by rfl)) ?_
    refine go 3 ?_
    refine cl (AE ec (1 : Nat) S0 0 ({data := #[112, 97, 114, 116, 121]}) (.iface T0 U0) p7 uC (g1 _ (fun p hp => i4.has p (mT (mT (mT (mT (mT (mT (mT (mT (mT (mT (mT ((List.mem_append_left _ hp))))))))))))))) om) ?_
    rintro _ Na ⟨⟨q7, rfl, r7, s7⟩, t7⟩
    have Oa := (i4.add1 t7 r7 s7).as (L' := (_ :: _ :: _ :: _ :: _ :: _ :: _ :: _ :: _ :: _ :: _ :: _ :: (Fe701 ++ (EA 66 121 114 sb0 d0 ++ (F0 ++ R))))) rfl
    refine go 1 ?_
    intro Pa r3 Qa
    refine go 1 ?_
    exact ⟨_, rfl, .inr ⟨fun h => hal h.2, _, _, rfl, ⟨_, ⟨q7, _, _, _, rfl, Nat.zero_le _, r3.get (k := 0) rfl, g1 _ (fun p hp => r3.has p (mT (mT (mT (mT (mT (mT (mT (mT (mT (mT (mT (mT ((List.mem_append_left _ hp)))))))))))))))⟩⟩, (r3.drop1.drop1.drop1.drop1.drop1.drop1.drop1.drop1.drop1.drop1.drop1.drop1.rgt.rgt.rgt)⟩⟩
  ·refine go 0 ?_
   refine sq ((KC rfl rfl).as (v' := .bool false) (by rfl)) ?_
   refine go 1 ?_
   intro N1 Ra Sa u7 Ta
   refine go 3 ?_
   refine AA (σ := Nat × Option Nat × Nat × LV × Option Nat × Nat × LV) (fun (i, kw0, W1, sw0, kw1, O1, sw1) => [(7, pT e0), (10, pT f0), (11, .nilIface), (14, pT h0), (15, pT i0), (20, pT N1), (78, .slice oa ops.length oc), (79, iN ops.length), (80, iN i)]) (fun (i, kw0, W1, sw0, kw1, O1, sw1) w' => (i ≤ ops.length ∧ Sl E64 kw0 (dC Gb.kA ops in0 in1 ws0 ws1 (OB ops ((0 : Nat) : Int) (WA 0) ws0 (VA 0 ops)) (OB ops ((1 : Nat) : Int) (WA 1) ws1 (VA 1 ops)) (MB ops st0.t.l st0.b.l) (MB ops st1.t.l st1.b.l) st0.o.l st1.o.l i).1 W1 sw0 ∧ Sl E64 kw1 (dC Gb.kA ops in0 in1 ws0 ws1 (OB ops ((0 : Nat) : Int) (WA 0) ws0 (VA 0 ops)) (OB ops ((1 : Nat) : Int) (WA 1) ws1 (VA 1 ops)) (MB ops st0.t.l st0.b.l) (MB ops st1.t.l st1.b.l) st0.o.l st1.o.l i).2 O1 sw1) ∧ Hp No w₀ w' ((kw0, qA E64 34 ((dC Gb.kA ops in0 in1 ws0 ws1 (OB ops ((0 : Nat) : Int) (WA 0) ws0 (VA 0 ops)) (OB ops ((1 : Nat) : Int) (WA 1) ws1 (VA 1 ops)) (MB ops st0.t.l st0.b.l) (MB ops st1.t.l st1.b.l) st0.o.l st1.o.l i).1) sw0) :: (kw1, qA E64 34 ((dC Gb.kA ops in0 in1 ws0 ws1 (OB ops ((0 : Nat) : Int) (WA 0) ws0 (VA 0 ops)) (OB ops ((1 : Nat) : Int) (WA 1) ws1 (VA 1 ops)) (MB ops st0.t.l st0.b.l) (MB ops st1.t.l st1.b.l) st0.o.l st1.o.l i).2) sw1) :: (rC N1 #[sO kw0 i W1, sO kw1 i O1] 24) :: (b0, qA IB 91 a0 q0) :: (h1, qA IB 91 r0 R1) :: (rC h0 #[sO b0 ops.length y0, sO h1 ops.length j2] 81) :: (rX i0 E64 ([(JG ops ws0 ws1).1, (JG ops ws0 ws1).2]) 83) :: (rC e0 y3 24) :: (rC f0 #[yA, yA] 24) :: (rC tb0 y1 96) :: y7 :: (rC tb1 y16 96) :: y9 :: (EA 66 121 114 sb0 d0 ++ (EA 66 121 114 sb1 d1 ++ (F1 ++ (F0 ++ R)))))) (fun (i, kw0, W1, sw0, kw1, O1, sw1) => ops.length - i) ((0, none, 0, [], none, 0, [])) ?_ ?_ ?_
   ·exact kp
   have w7 := ((u7.pk 14 [0, 1, 2, 4, 3, 8, 5, 10, 11, 12, 13]).nil (qA E64 34 [] [])).nil (qA E64 34 [] [])
   ·exact ⟨⟨Nat.zero_le _, Sl.none, Sl.none⟩, w7⟩
   rintro ⟨i, kw0, W1, sw0, kw1, O1, sw1⟩ ρ Ua ⟨⟨hq3, hSk0, hSk1⟩, K2⟩
   have hdl0 := w2.len
   have hdl1 := U2.len
   obtain ⟨hwl0, hwl1⟩ := MO Gb.kA ops in0 in1 ws0 ws1 (OB ops ((0 : Nat) : Int) (WA 0) ws0 (VA 0 ops)) (OB ops ((1 : Nat) : Int) (WA 1) ws1 (VA 1 ops)) (MB ops st0.t.l st0.b.l) (MB ops st1.t.l st1.b.l) st0.o.l st1.o.l i
   refine go 1 ?_
   refine iA (((i : Nat) : Int) < (ops.length : Nat)) rfl (fun x7 => ?_) (fun x7 => ?_)
   ·refine go 1 ?_
    refine sq (TC (E := xE) (l := ops) (j := i) vF (hO _ K2.chg (fun p hp => K2.has p (mT (mT (mT (mT (mT (mT (mT (mT (mT (mT (mT (mT (mT ((List.mem_append_right _ (List.mem_append_right _ (List.mem_append_right _ (List.mem_append_right _ hp)))))))))))))))))))) rfl rfl vo (by rfl) om) (sq ((AD (E := xE) (l := ops) (j := i) (v := ops.getD i DB) eH (hO _ K2.chg (fun p hp => K2.has p (mT (mT (mT (mT (mT (mT (mT (mT (mT (mT (mT (mT (mT ((List.mem_append_right _ (List.mem_append_right _ (List.mem_append_right _ (List.mem_append_right _ hp)))))))))))))))))))) rfl rfl (QA om)).as (v' := .agg #[i64 ((ops.getD i DB).kd), i64 ((ops.getD i DB).a), i64 ((ops.getD i DB).b), i64 ((ops.getD i DB).k), u64 ((ops.getD i DB).c), i64 ((ops.getD i DB).pt)]) rfl) ?_)
    refine go 1 ?_
    intro x2 Va Wa Xa Ya
    refine go 2 ?_
    intro Za z7 ab
    obtain ⟨o, ho⟩ : ∃ q1, q1 = ops.getD i DB := ⟨_, rfl⟩
    let y14 : Array Value := #[sO kw0 i W1, sO kw1 i O1]
    let y12 : Array Value := #[i64 (o.kd), i64 (o.a), i64 (o.b), i64 (o.k), u64 (o.c), i64 (o.pt)]
    let y10 : Array Value := #[sO b0 ops.length y0, sO h1 ops.length j2]
    let y8 : Array Value := #[y17, .pointer none, iN ws1.length, iN (VA 1 ops + jA (WA 1) ops ops.length)]
    let y6 : Array Value := #[y18, .pointer none, iN ws0.length, iN (VA 0 ops + jA (WA 0) ops ops.length)]
    let y4 : RW := (kw1, qA E64 34 ((dC Gb.kA ops in0 in1 ws0 ws1 (OB ops ((0 : Nat) : Int) (WA 0) ws0 (VA 0 ops)) (OB ops ((1 : Nat) : Int) (WA 1) ws1 (VA 1 ops)) (MB ops st0.t.l st0.b.l) (MB ops st1.t.l st1.b.l) st0.o.l st1.o.l i).2) sw1)
    let y2 : RW := (kw0, qA E64 34 ((dC Gb.kA ops in0 in1 ws0 ws1 (OB ops ((0 : Nat) : Int) (WA 0) ws0 (VA 0 ops)) (OB ops ((1 : Nat) : Int) (WA 1) ws1 (VA 1 ops)) (MB ops st0.t.l st0.b.l) (MB ops st1.t.l st1.b.l) st0.o.l st1.o.l i).1) sw0)
    rw [← ho] at z7 ⊢
    have hgo := hgd.at' i om
    rw [← ho] at hgo
    have hkp := VU hgo
    have hra := JK hgo.a
    have hrb := JK hgo.b
    refine go 1 ?_
    intro l2 bb cb db eb
    refine go 1 ?_
    intro m2 gb hb j4 ib
    refine gj 0 ?_
    refine xF (σ := W2 × W2) (fun (pa, pb) => [(7, pT e0), (10, pT f0), (11, .nilIface), (14, pT h0), (15, pT i0), (20, pT N1), (21, iN i), (22, pT x2), (23, pT l2), (24, pT m2), (78, .slice oa ops.length oc), (79, iN ops.length), (80, iN i)]) (fun (pa, pb) w' => (pa = ((dC Gb.kA ops in0 in1 ws0 ws1 (OB ops ((0 : Nat) : Int) (WA 0) ws0 (VA 0 ops)) (OB ops ((1 : Nat) : Int) (WA 1) ws1 (VA 1 ops)) (MB ops st0.t.l st0.b.l) (MB ops st1.t.l st1.b.l) st0.o.l st1.o.l i).1.getD o.a.toNat 0#64, (dC Gb.kA ops in0 in1 ws0 ws1 (OB ops ((0 : Nat) : Int) (WA 0) ws0 (VA 0 ops)) (OB ops ((1 : Nat) : Int) (WA 1) ws1 (VA 1 ops)) (MB ops st0.t.l st0.b.l) (MB ops st1.t.l st1.b.l) st0.o.l st1.o.l i).2.getD o.a.toNat 0#64) ∧ pb = ((dC Gb.kA ops in0 in1 ws0 ws1 (OB ops ((0 : Nat) : Int) (WA 0) ws0 (VA 0 ops)) (OB ops ((1 : Nat) : Int) (WA 1) ws1 (VA 1 ops)) (MB ops st0.t.l st0.b.l) (MB ops st1.t.l st1.b.l) st0.o.l st1.o.l i).1.getD o.b.toNat 0#64, (dC Gb.kA ops in0 in1 ws0 ws1 (OB ops ((0 : Nat) : Int) (WA 0) ws0 (VA 0 ops)) (OB ops ((1 : Nat) : Int) (WA 1) ws1 (VA 1 ops)) (MB ops st0.t.l st0.b.l) (MB ops st1.t.l st1.b.l) st0.o.l st1.o.l i).2.getD o.b.toNat 0#64)) ∧ Hp No w₀ w' (y2 :: y4 :: (rC N1 y14 24) :: (b0, qA IB 91 a0 q0) :: (h1, qA IB 91 r0 R1) :: (rC h0 y10 81) :: (rX i0 E64 ([(JG ops ws0 ws1).1, (JG ops ws0 ws1).2]) 83) :: (rC e0 y3 24) :: (rC f0 #[yA, yA] 24) :: (rC tb0 y6 96) :: y7 :: (rC tb1 y8 96) :: y9 :: (rC x2 y12 36) :: (rX l2 E64 ([pa.1, pa.2]) 87) :: (rX m2 E64 ([pb.1, pb.2]) 87) :: (EA 66 121 114 sb0 d0 ++ (EA 66 121 114 sb1 d1 ++ (F1 ++ (F0 ++ R)))))) ?_ (fun k4 => ?_)
    ·rintro ⟨pa, pb⟩ ρ jb ⟨⟨hpa, hpb⟩, A7⟩
     refine go 0 ?_
     let f2 : List RW := (y2 :: y4 :: (rC N1 y14 24) :: (b0, qA IB 91 a0 q0) :: (h1, qA IB 91 r0 R1) :: (rC h0 y10 81) :: (rX i0 E64 ([(JG ops ws0 ws1).1, (JG ops ws0 ws1).2]) 83) :: (rC e0 y3 24) :: (rC f0 #[yA, yA] 24) :: (rC tb0 y6 96) :: y7 :: (rC tb1 y8 96) :: y9 :: (rC x2 y12 36) :: (rX l2 E64 ([pa.1, pa.2]) 87) :: (rX m2 E64 ([pb.1, pb.2]) 87) :: (EA 66 121 114 sb0 d0 ++ (EA 66 121 114 sb1 d1 ++ (F1 ++ (F0 ++ R)))))
     let B7 : mC := [RB false false false fun _ _ _ w' => Hp No w₀ w' f2, RB true false false fun v17 _ _ w' => v17 = .agg (uA E64 [(pD Gb.kA o (i : Nat) pa pb in0 in1 (a0.getD i JB).w (r0.getD i JB).w (a0.getD i JB).t (r0.getD i JB).t (JG ops ws0 ws1) (LM ops ws0 i) (aG ops st0.o.l i) (aG ops st1.o.l i)).1, (pD Gb.kA o (i : Nat) pa pb in0 in1 (a0.getD i JB).w (r0.getD i JB).w (a0.getD i JB).t (r0.getD i JB).t (JG ops ws0 ws1) (LM ops ws0 i) (aG ops st0.o.l i) (aG ops st1.o.l i)).2]).toArray ∧ Hp No w₀ w' f2, RB false true false fun _ v18 _ w' => ∃ L2, v18 = pT L2 ∧ Hp No w₀ w' ((rX L2 E64 ([0#64, 0#64]) 87) :: f2), RB true true false fun v17 v18 _ w' => ∃ P1, v17 = .agg (uA E64 [(pD Gb.kA o (i : Nat) pa pb in0 in1 (a0.getD i JB).w (r0.getD i JB).w (a0.getD i JB).t (r0.getD i JB).t (JG ops ws0 ws1) (LM ops ws0 i) (aG ops st0.o.l i) (aG ops st1.o.l i)).1, (pD Gb.kA o (i : Nat) pa pb in0 in1 (a0.getD i JB).w (r0.getD i JB).w (a0.getD i JB).t (r0.getD i JB).t (JG ops ws0 ws1) (LM ops ws0 i) (aG ops st0.o.l i) (aG ops st1.o.l i)).2]).toArray ∧ v18 = pT P1 ∧ Hp No w₀ w' ((rX P1 E64 ([0#64, 0#64]) 87) :: f2), RB true true true fun v17 v18 _ w' => ∃ P1, v17 = .agg (uA E64 [(pD Gb.kA o (i : Nat) pa pb in0 in1 (a0.getD i JB).w (r0.getD i JB).w (a0.getD i JB).t (r0.getD i JB).t (JG ops ws0 ws1) (LM ops ws0 i) (aG ops st0.o.l i) (aG ops st1.o.l i)).1, (pD Gb.kA o (i : Nat) pa pb in0 in1 (a0.getD i JB).w (r0.getD i JB).w (a0.getD i JB).t (r0.getD i JB).t (JG ops ws0 ws1) (LM ops ws0 i) (aG ops st0.o.l i) (aG ops st1.o.l i)).2]).toArray ∧ v18 = pT P1 ∧ Hp No w₀ w' ((rX P1 E64 ([(pD Gb.kA o (i : Nat) pa pb in0 in1 (a0.getD i JB).w (r0.getD i JB).w (a0.getD i JB).t (r0.getD i JB).t (JG ops ws0 ws1) (LM ops ws0 i) (aG ops st0.o.l i) (aG ops st1.o.l i)).1, (pD Gb.kA o (i : Nat) pa pb in0 in1 (a0.getD i JB).w (r0.getD i JB).w (a0.getD i JB).t (r0.getD i JB).t (JG ops ws0 ws1) (LM ops ws0 i) (aG ops st0.o.l i) (aG ops st1.o.l i)).2]) 87) :: f2)]
     refine MA (m := 20) [0, 0, 0, 0, 0, 0, 32, 0, 224, 480, 0, 1024, 0, 7168, 15360, 32736, 0, 131071, 0, 524287] [17, 18, 19] f2 B7 BA (fun _ e => A7.ext e) EC (fun s3 => ?_)
     refine gk 17 ?_
     refine WalkT.eff s3 0 ?_ ?_
     ·refine tB (fun r w0 uw hF hE => ?_) fun r w0 uw hF hE => ?_
      ·have g2 := hF.ext hE
       refine gW fun Q' hK => (cl (Ms.xP o (i : Nat) pa pb in0 in1 na0 na1 nc0 nc1 (a0.getD i JB) (r0.getD i JB) (JG ops ws0 ws1) (LM ops ws0 i) (aG ops st0.o.l i) (aG ops st1.o.l i) hkp uw uC (hN0 _ g2.chg (fun p hp => g2.has p (mT (mT (mT (mT (mT (mT (mT (mT (mT (mT (mT (mT (mT (mT (mT (mT ((List.mem_append_right _ (List.mem_append_right _ (List.mem_append_right _ (List.mem_append_right _ hp))))))))))))))))))))))) (hN1 _ g2.chg (fun p hp => g2.has p (mT (mT (mT (mT (mT (mT (mT (mT (mT (mT (mT (mT (mT (mT (mT (mT ((List.mem_append_right _ (List.mem_append_right _ (List.mem_append_right _ (List.mem_append_right _ hp))))))))))))))))))))))) (fun h17 => rM k2 F2 rfl ho om h17 (uE h17 hgo.ok).1 hC0 hC1) (fun h17 => bP k2 F2 rfl ho om h17 (fun p hp => g2.has p (mT (mT (mT (mT (mT (mT (mT (mT (mT (mT (mT (mT (mT (mT (mT (mT ((List.mem_append_right _ (List.mem_append_right _ (List.mem_append_right _ (List.mem_append_left _ hp)))))))))))))))))))))) (fun p hp => g2.has p (mT (mT (mT (mT (mT (mT (mT (mT (mT (mT (mT (mT (mT (mT (mT (mT ((List.mem_append_right _ (List.mem_append_right _ (List.mem_append_left _ hp))))))))))))))))))))))) ?_)
       rintro _ kb ⟨rfl, C7⟩
       have D7 := g2.ext C7
       exact hK _ _ (A_ rfl D7)
      ·obtain ⟨L2, n2, Q1⟩ := hF
       replace Q1 := Q1.ext hE
       refine gW fun Q' hK => (cl (Ms.xP o (i : Nat) pa pb in0 in1 na0 na1 nc0 nc1 (a0.getD i JB) (r0.getD i JB) (JG ops ws0 ws1) (LM ops ws0 i) (aG ops st0.o.l i) (aG ops st1.o.l i) hkp uw uC (hN0 _ Q1.chg (fun p hp => Q1.has p (mT (mT (mT (mT (mT (mT (mT (mT (mT (mT (mT (mT (mT (mT (mT (mT (mT ((List.mem_append_right _ (List.mem_append_right _ (List.mem_append_right _ (List.mem_append_right _ hp)))))))))))))))))))))))) (hN1 _ Q1.chg (fun p hp => Q1.has p (mT (mT (mT (mT (mT (mT (mT (mT (mT (mT (mT (mT (mT (mT (mT (mT (mT ((List.mem_append_right _ (List.mem_append_right _ (List.mem_append_right _ (List.mem_append_right _ hp)))))))))))))))))))))))) (fun h17 => rM k2 F2 rfl ho om h17 (uE h17 hgo.ok).1 hC0 hC1) (fun h17 => bP k2 F2 rfl ho om h17 (fun p hp => Q1.has p (mT (mT (mT (mT (mT (mT (mT (mT (mT (mT (mT (mT (mT (mT (mT (mT (mT ((List.mem_append_right _ (List.mem_append_right _ (List.mem_append_right _ (List.mem_append_left _ hp))))))))))))))))))))))) (fun p hp => Q1.has p (mT (mT (mT (mT (mT (mT (mT (mT (mT (mT (mT (mT (mT (mT (mT (mT (mT ((List.mem_append_right _ (List.mem_append_right _ (List.mem_append_left _ hp)))))))))))))))))))))))) ?_)
       rintro _ lb ⟨rfl, E7⟩
       have F7 := Q1.ext E7
       exact hK _ _ (E_ L2 (A_ rfl (A_ n2 F7)))
     refine WalkT.eff s3 1 ?_ ?_
     ·refine tB (fun r w0 uw hF hE => ?_) fun r w0 uw hF hE => ?_
      ·have mb := hF.ext hE
       refine gW fun Q' hK => ?_
       refine go 1 ?_
       intro G7 nb qb H7 rb
       exact hK _ _ (E_ G7 (A_ rfl H7))
      ·obtain ⟨o2, l4⟩ := hF
       replace l4 := l4.ext hE
       refine gW fun Q' hK => ?_
       refine go 1 ?_
       intro I7 sb tb J7 ub
       exact hK _ _ (E_ I7 (A_ o2 (A_ rfl J7)))
     refine WalkT.eff s3 2 ?_ ?_
     ·refine tA fun r w0 uw hF hE => ?_
      obtain ⟨P1, o2, n2, m4⟩ := hF
      replace m4 := m4.ext hE
      dsimp only
      rw [o2, n2]
      refine MC fun Q' hK => ?_
      refine go 1 ?_
      intro wb K7 xb
      exact hK _ (fun _ => (E_ P1 (A_ o2 (A_ n2 K7))))
     refine WalkT.nil fun r w0 yb hF hE => ?_
     obtain ⟨P1, o2, n2, z2⟩ := hF
     replace z2 := z2.ext hE
     dsimp only
     rw [o2, n2]
     dsimp only [f2] at z2
     obtain ⟨xp, hxp⟩ : ∃ q, q = (pD Gb.kA o (i : Nat) pa pb in0 in1 (a0.getD i JB).w (r0.getD i JB).w (a0.getD i JB).t (r0.getD i JB).t (JG ops ws0 ws1) (LM ops ws0 i) (aG ops st0.o.l i) (aG ops st1.o.l i)) := ⟨_, rfl⟩
     rw [← hxp] at z2
     have hsx : (dC Gb.kA ops in0 in1 ws0 ws1 (OB ops ((0 : Nat) : Int) (WA 0) ws0 (VA 0 ops)) (OB ops ((1 : Nat) : Int) (WA 1) ws1 (VA 1 ops)) (MB ops st0.t.l st0.b.l) (MB ops st1.t.l st1.b.l) st0.o.l st1.o.l (i + 1)) = ((dC Gb.kA ops in0 in1 ws0 ws1 (OB ops ((0 : Nat) : Int) (WA 0) ws0 (VA 0 ops)) (OB ops ((1 : Nat) : Int) (WA 1) ws1 (VA 1 ops)) (MB ops st0.t.l st0.b.l) (MB ops st1.t.l st1.b.l) st0.o.l st1.o.l i).1 ++ [xp.1], (dC Gb.kA ops in0 in1 ws0 ws1 (OB ops ((0 : Nat) : Int) (WA 0) ws0 (VA 0 ops)) (OB ops ((1 : Nat) : Int) (WA 1) ws1 (VA 1 ops)) (MB ops st0.t.l st0.b.l) (MB ops st1.t.l st1.b.l) st0.o.l st1.o.l i).2 ++ [xp.2]) := by rw [dC, ← ho, hxp, hpa, hpb, w2.w i om, U2.w i om, w2.t i om, U2.t i om]
     refine go 0 ?_
     have L7 := (z2.pk 17 [1, 2, 3, 0, 4, 5, 6, 7, 8, 9, 10, 11, 12, 13, 14, 15, 16])
     let L1 : List RW := ((rX P1 E64 ([xp.1, xp.2]) 87) :: (b0, qA IB 91 a0 q0) :: (h1, qA IB 91 r0 R1) :: (rC h0 #[sO b0 ops.length y0, sO h1 ops.length j2] 81) :: (rX i0 E64 ([(JG ops ws0 ws1).1, (JG ops ws0 ws1).2]) 83) :: (rC e0 #[.slice na0 in0.length nc0, .slice na1 in1.length nc1] 24) :: (rC f0 #[yA, yA] 24) :: (rC tb0 #[sO tk0 ws0.length tc0, .pointer none, iN ws0.length, iN (VA 0 ops + jA (WA 0) ops ops.length)] 96) :: (tk0, qA E64 34 ws0 ts0) :: (rC tb1 #[sO tk1 ws1.length tc1, .pointer none, iN ws1.length, iN (VA 1 ops + jA (WA 1) ops ops.length)] 96) :: (tk1, qA E64 34 ws1 ts1) :: (rC x2 #[i64 (o.kd), i64 (o.a), i64 (o.b), i64 (o.k), u64 (o.c), i64 (o.pt)] 36) :: (rX l2 E64 ([pa.1, pa.2]) 87) :: (rX m2 E64 ([pb.1, pb.2]) 87) :: (EA 66 121 114 sb0 d0 ++ (EA 66 121 114 sb1 d1 ++ (F1 ++ (F0 ++ R)))))
     let X1 := fun (j0 : Nat) => (((some j0), qA E64 34 ([xp.1]) ([])) : RW)
     let A2 := fun (E0 : Nat) => (((some E0), qA E64 34 ([xp.2]) ([])) : RW)
     let p2 := fun (p0 : Option Nat) (A0 : LV) => ((p0, qA E64 34 (((dC Gb.kA ops in0 in1 ws0 ws1 (OB ops ((0 : Nat) : Int) (WA 0) ws0 (VA 0 ops)) (OB ops ((1 : Nat) : Int) (WA 1) ws1 (VA 1 ops)) (MB ops st0.t.l st0.b.l) (MB ops st1.t.l st1.b.l) st0.o.l st1.o.l i).1) ++ ([xp.1])) A0) : RW)
     let M2 := fun (I0 : Option Nat) (X0 : LV) => ((I0, qA E64 34 (((dC Gb.kA ops in0 in1 ws0 ws1 (OB ops ((0 : Nat) : Int) (WA 0) ws0 (VA 0 ops)) (OB ops ((1 : Nat) : Int) (WA 1) ws1 (VA 1 ops)) (MB ops st0.t.l st0.b.l) (MB ops st1.t.l st1.b.l) st0.o.l st1.o.l i).2) ++ ([xp.2])) X0) : RW)
     let N2 := ((kw0, qA E64 34 ((dC Gb.kA ops in0 in1 ws0 ws1 (OB ops ((0 : Nat) : Int) (WA 0) ws0 (VA 0 ops)) (OB ops ((1 : Nat) : Int) (WA 1) ws1 (VA 1 ops)) (MB ops st0.t.l st0.b.l) (MB ops st1.t.l st1.b.l) st0.o.l st1.o.l i).1) sw0) : RW)
     let q2 := ((kw1, qA E64 34 ((dC Gb.kA ops in0 in1 ws0 ws1 (OB ops ((0 : Nat) : Int) (WA 0) ws0 (VA 0 ops)) (OB ops ((1 : Nat) : Int) (WA 1) ws1 (VA 1 ops)) (MB ops st0.t.l st0.b.l) (MB ops st1.t.l st1.b.l) st0.o.l st1.o.l i).2) sw1) : RW)
     let h2 := ((rC N1 #[sO kw0 i W1, sO kw1 i O1] 24) : RW)
     let Y1 := fun (j0 : Nat) => (Sl E64 (some j0) ([xp.1]) 1 ([]) : Prop)
     let B2 := fun (E0 : Nat) => (Sl E64 (some E0) ([xp.2]) 1 ([]) : Prop)
     let r2 := fun (p0 : Option Nat) (B0 : Nat) (A0 : LV) => (Sl E64 p0 (((dC Gb.kA ops in0 in1 ws0 ws1 (OB ops ((0 : Nat) : Int) (WA 0) ws0 (VA 0 ops)) (OB ops ((1 : Nat) : Int) (WA 1) ws1 (VA 1 ops)) (MB ops st0.t.l st0.b.l) (MB ops st1.t.l st1.b.l) st0.o.l st1.o.l i).1) ++ ([xp.1])) B0 A0 : Prop)
     let O2 := fun (I0 : Option Nat) (Y0 : Nat) (X0 : LV) => (Sl E64 I0 (((dC Gb.kA ops in0 in1 ws0 ws1 (OB ops ((0 : Nat) : Int) (WA 0) ws0 (VA 0 ops)) (OB ops ((1 : Nat) : Int) (WA 1) ws1 (VA 1 ops)) (MB ops st0.t.l st0.b.l) (MB ops st1.t.l st1.b.l) st0.o.l st1.o.l i).2) ++ ([xp.2])) Y0 X0 : Prop)
     let M7 : mC := [QQ false false false false false false fun _ _ _ _ _ _ w' => Hp No w₀ w' (N2 :: q2 :: h2 :: L1), QQ true false false false false false fun v4 _ _ _ _ _ w' => ∃ j0, v4 = sO (some j0) 1 1 ∧ (Y1 j0) ∧ Hp No w₀ w' ((X1 j0) :: N2 :: q2 :: h2 :: L1), QQ true true false false false false fun v4 v5 _ _ _ _ w' => ∃ j0 p0 B0 A0, v4 = sO (some j0) 1 1 ∧ v5 = sO p0 (i + 1) B0 ∧ (Y1 j0) ∧ (r2 p0 B0 A0) ∧ Hp No w₀ w' ((X1 j0) :: (p2 p0 A0) :: q2 :: h2 :: L1), QQ false false true false false false fun _ _ v10 _ _ _ w' => ∃ C2, v10 = sO (some C2) 1 1 ∧ Sl E64 (some C2) ([xp.2]) 1 ([]) ∧ Hp No w₀ w' (((some C2), qA E64 34 ([xp.2]) ([])) :: N2 :: q2 :: h2 :: L1), QQ true false true false false false fun v4 _ v10 _ _ _ w' => ∃ j0 D2, v4 = sO (some j0) 1 1 ∧ v10 = sO (some D2) 1 1 ∧ Sl E64 (some D2) ([xp.2]) 1 ([]) ∧ (Y1 j0) ∧ Hp No w₀ w' (((some D2), qA E64 34 ([xp.2]) ([])) :: (X1 j0) :: N2 :: q2 :: h2 :: L1), QQ true true true false false false fun v4 v5 v10 _ _ _ w' => ∃ j0 p0 B0 A0 E0, v4 = sO (some j0) 1 1 ∧ v5 = sO p0 (i + 1) B0 ∧ v10 = sO (some E0) 1 1 ∧ (B2 E0) ∧ (Y1 j0) ∧ (r2 p0 B0 A0) ∧ Hp No w₀ w' ((A2 E0) :: (X1 j0) :: (p2 p0 A0) :: q2 :: h2 :: L1), QQ true true true true false false fun v4 v5 v10 v11 _ _ w' => ∃ j0 p0 B0 A0 E0 I0 Y0 X0, v4 = sO (some j0) 1 1 ∧ v5 = sO p0 (i + 1) B0 ∧ v10 = sO (some E0) 1 1 ∧ v11 = sO I0 (i + 1) Y0 ∧ (B2 E0) ∧ (Y1 j0) ∧ (r2 p0 B0 A0) ∧ (O2 I0 Y0 X0) ∧ Hp No w₀ w' ((A2 E0) :: (X1 j0) :: (p2 p0 A0) :: (M2 I0 X0) :: h2 :: L1), QQ true true true true true false fun v4 v5 v10 v11 _ _ w' => ∃ j0 p0 B0 A0 E0 I0 Y0 X0, v4 = sO (some j0) 1 1 ∧ v5 = sO p0 (i + 1) B0 ∧ v10 = sO (some E0) 1 1 ∧ v11 = sO I0 (i + 1) Y0 ∧ (B2 E0) ∧ (Y1 j0) ∧ (r2 p0 B0 A0) ∧ (O2 I0 Y0 X0) ∧ Hp No w₀ w' ((A2 E0) :: (X1 j0) :: (p2 p0 A0) :: (M2 I0 X0) :: (rC N1 #[sO p0 (i + 1) B0, sO kw1 i O1] 24) :: L1), QQ true true true true true true fun v4 v5 v10 v11 _ _ w' => ∃ j0 p0 B0 A0 E0 I0 Y0 X0, v4 = sO (some j0) 1 1 ∧ v5 = sO p0 (i + 1) B0 ∧ v10 = sO (some E0) 1 1 ∧ v11 = sO I0 (i + 1) Y0 ∧ (B2 E0) ∧ (Y1 j0) ∧ (r2 p0 B0 A0) ∧ (O2 I0 Y0 X0) ∧ Hp No w₀ w' ((A2 E0) :: (X1 j0) :: (p2 p0 A0) :: (M2 I0 X0) :: (rC N1 #[sO p0 (i + 1) B0, sO I0 (i + 1) Y0] 24) :: L1)]
     refine MA (m := 16) [0, 1, 0, 4, 12, 31, 0, 64, 0, 256, 768, 2047, 255, 8191, 16383, 32767] [4, 5, 10, 11, 13, 15] L1 M7 BA (fun _ e => L7.ext e) EC (fun s2 => ?_)
     refine gk 4 ?_
     refine WalkT.eff s2 0 ?_ ?_
     ·refine tB (fun r w0 uw hF hE => ?_) fun r w0 uw hF hE => ?_
      ·have zb := hF.ext hE
       exact gW fun Q' hK => (bS (E := E64) (l := [xp.1]) fun N7 Ab O7 P7 Bb => hK _ _ (E_ N7 (A_ rfl (A_ O7 P7))))
      ·obtain ⟨C2, I1, Q7, n4⟩ := hF
       replace n4 := n4.ext hE
       exact gW fun Q' hK => (bS (E := E64) (l := [xp.1]) fun R7 Cb S7 T7 Db => hK _ _ (E_ R7 (E_ C2 (A_ rfl (A_ I1 (A_ Q7 (A_ S7 ((T7.pk 5 [1, 0, 2, 3, 4])))))))))
     refine WalkT.eff s2 1 ?_ ?_
     ·refine tB (fun r w0 uw hF hE => ?_) fun r w0 uw hF hE => ?_
      ·obtain ⟨j0, e4, Z0, o4⟩ := hF
       replace o4 := o4.ext hE
       dsimp only
       rw [e4]
       refine gW fun Q' hK => ?_
       refine OD ?_
       refine ⟨by exact hwl0.symm, by rfl, om, ?_⟩
       intro U7 V7 W7 Eb X7 Fb Y7
       exact hK _ _ (E_ j0 (E_ U7 (E_ V7 (E_ W7 (A_ e4 (A_ rfl (A_ Z0 (A_ X7 Y7))))))))
      ·obtain ⟨j0, D2, e4, I1, Z7, Z0, p4⟩ := hF
       replace p4 := p4.ext hE
       dsimp only
       rw [e4]
       refine gW fun Q' hK => ?_
       refine OD ?_
       refine ⟨by exact hwl0.symm, by rfl, om, ?_⟩
       intro c8 d8 f8 Hb g8 Ib h8
       exact hK _ _ (E_ j0 (E_ c8 (E_ d8 (E_ f8 (E_ D2 (A_ e4 (A_ rfl (A_ I1 (A_ Z7 (A_ Z0 (A_ g8 h8)))))))))))
     refine gk 4 ?_
     refine WalkT.eff s2 2 ?_ ?_
     ·refine A_ (fun r w0 uw hF hE => ?_) (A_ (fun r w0 uw hF hE => ?_) (A_ (fun r w0 uw hF hE => ?_) trivial))
      ·have Jb := hF.ext hE
       exact gW fun Q' hK => (bS (E := E64) (l := [xp.2]) fun j8 Kb k8 l8 Mb => hK _ _ (E_ j8 (A_ rfl (A_ k8 l8))))
      ·obtain ⟨j0, e4, Z0, q4⟩ := hF
       replace q4 := q4.ext hE
       exact gW fun Q' hK => (bS (E := E64) (l := [xp.2]) fun m8 Nb n8 o8 Pb => hK _ _ (E_ j0 (E_ m8 (A_ e4 (A_ rfl (A_ n8 (A_ Z0 o8)))))))
      ·obtain ⟨j0, p0, B0, A0, e4, e5, Z0, M1, r4⟩ := hF
       replace r4 := r4.ext hE
       exact gW fun Q' hK => (bS (E := E64) (l := [xp.2]) fun p8 Qb q8 r8 Rb => hK _ _ (E_ j0 (E_ p0 (E_ B0 (E_ A0 (E_ p8 (A_ e4 (A_ e5 (A_ rfl (A_ q8 (A_ Z0 (A_ M1 r8))))))))))))
     refine WalkT.eff s2 3 ?_ ?_
     ·refine tA fun r w0 uw hF hE => ?_
      obtain ⟨j0, p0, B0, A0, E0, e4, e5, I1, i2, Z0, M1, s4⟩ := hF
      replace s4 := s4.ext hE
      dsimp only
      rw [I1]
      refine gW fun Q' hK => ?_
      refine OD ?_
      refine ⟨by exact hwl1.symm, by rfl, om, ?_⟩
      intro s8 t8 w8 Sb x8 Tb z8
      exact hK _ _ (E_ j0 (E_ p0 (E_ B0 (E_ A0 (E_ E0 (E_ s8 (E_ t8 (E_ w8 (A_ e4 (A_ e5 (A_ I1 (A_ rfl (A_ i2 (A_ Z0 (A_ M1 (A_ x8 z8))))))))))))))))
     refine gk 1 ?_
     refine WalkT.eff s2 4 ?_ ?_
     ·refine tA fun r w0 uw hF hE => ?_
      obtain ⟨j0, p0, B0, A0, E0, I0, Y0, X0, e4, e5, I1, t2, i2, Z0, M1, u2, t4⟩ := hF
      replace t4 := t4.ext hE
      dsimp only
      rw [e5]
      refine MC fun Q' hK => ?_
      refine go 1 ?_
      intro Ub A8 Wb
      exact hK _ (fun _ => (E_ j0 (E_ p0 (E_ B0 (E_ A0 (E_ E0 (E_ I0 (E_ Y0 (E_ X0 (A_ e4 (A_ e5 (A_ I1 (A_ t2 (A_ i2 (A_ Z0 (A_ M1 (A_ u2 A8)))))))))))))))))
     refine gk 1 ?_
     refine WalkT.eff s2 5 ?_ ?_
     ·refine tA fun r w0 uw hF hE => ?_
      obtain ⟨j0, p0, B0, A0, E0, I0, Y0, X0, e4, e5, I1, t2, i2, Z0, M1, u2, u4⟩ := hF
      replace u4 := u4.ext hE
      dsimp only
      rw [t2]
      refine MC fun Q' hK => ?_
      refine go 1 ?_
      intro Xb B8 Yb
      exact hK _ (fun _ => (E_ j0 (E_ p0 (E_ B0 (E_ A0 (E_ E0 (E_ I0 (E_ Y0 (E_ X0 (A_ e4 (A_ e5 (A_ I1 (A_ t2 (A_ i2 (A_ Z0 (A_ M1 (A_ u2 B8)))))))))))))))))
     refine WalkT.nil fun r w0 Zb hF hE => ?_
     obtain ⟨j0, p0, B0, A0, E0, I0, Y0, X0, e4, e5, I1, t2, i2, Z0, M1, u2, P2⟩ := hF
     replace P2 := P2.ext hE
     dsimp only
     rw [e4, e5, I1, t2]
     dsimp only [B2] at i2
     dsimp only [Y1] at Z0
     dsimp only [r2] at M1
     dsimp only [O2] at u2
     dsimp only [L1, A2, X1, p2, M2] at P2
     refine go 2 ?_
     have C8 : ((dC Gb.kA ops in0 in1 ws0 ws1 (OB ops ((0 : Nat) : Int) (WA 0) ws0 (VA 0 ops)) (OB ops ((1 : Nat) : Int) (WA 1) ws1 (VA 1 ops)) (MB ops st0.t.l st0.b.l) (MB ops st1.t.l st1.b.l) st0.o.l st1.o.l i).1) ++ ([xp.1]) = (dC Gb.kA ops in0 in1 ws0 ws1 (OB ops ((0 : Nat) : Int) (WA 0) ws0 (VA 0 ops)) (OB ops ((1 : Nat) : Int) (WA 1) ws1 (VA 1 ops)) (MB ops st0.t.l st0.b.l) (MB ops st1.t.l st1.b.l) st0.o.l st1.o.l (i + 1)).1 := by rw [hsx]
     have w4 := M1
     have x4 := P2
     rw [C8] at w4 x4
     have D8 : ((dC Gb.kA ops in0 in1 ws0 ws1 (OB ops ((0 : Nat) : Int) (WA 0) ws0 (VA 0 ops)) (OB ops ((1 : Nat) : Int) (WA 1) ws1 (VA 1 ops)) (MB ops st0.t.l st0.b.l) (MB ops st1.t.l st1.b.l) st0.o.l st1.o.l i).2) ++ ([xp.2]) = (dC Gb.kA ops in0 in1 ws0 ws1 (OB ops ((0 : Nat) : Int) (WA 0) ws0 (VA 0 ops)) (OB ops ((1 : Nat) : Int) (WA 1) ws1 (VA 1 ops)) (MB ops st0.t.l st0.b.l) (MB ops st1.t.l st1.b.l) st0.o.l st1.o.l (i + 1)).2 := by rw [hsx]
     have z4 := u2
     have A4 := x4
     rw [D8] at z4 A4
     exact ⟨(i + 1, p0, B0, A0, I0, Y0, X0), _, rfl, kp, ⟨⟨om, w4, z4⟩, ((((((A4.dropk 18).dropk 17).dropk 16).dropk 5).dropk 1).dropk 0)⟩, vd⟩
    ·refine go 4 ?_
     refine iA ((0 : Int) < (i : Nat)) rfl (fun F8 => ?_) (fun F8 => ?_)
     ·let E2 : List RW := ((rC x2 y12 36) :: y2 :: y4 :: (rC N1 y14 24) :: (b0, qA IB 91 a0 q0) :: (h1, qA IB 91 r0 R1) :: (rC h0 y10 81) :: (rX i0 E64 ([(JG ops ws0 ws1).1, (JG ops ws0 ws1).2]) 83) :: (rC e0 y3 24) :: (rC f0 #[yA, yA] 24) :: (rC tb0 y6 96) :: y7 :: (rC tb1 y8 96) :: y9 :: (EA 66 121 114 sb0 d0 ++ (EA 66 121 114 sb1 d1 ++ (F1 ++ (F0 ++ R)))))
      let t3 := ((rX l2 E64 ([((dC Gb.kA ops in0 in1 ws0 ws1 (OB ops ((0 : Nat) : Int) (WA 0) ws0 (VA 0 ops)) (OB ops ((1 : Nat) : Int) (WA 1) ws1 (VA 1 ops)) (MB ops st0.t.l st0.b.l) (MB ops st1.t.l st1.b.l) st0.o.l st1.o.l i).1).getD o.a.toNat 0#64, ((dC Gb.kA ops in0 in1 ws0 ws1 (OB ops ((0 : Nat) : Int) (WA 0) ws0 (VA 0 ops)) (OB ops ((1 : Nat) : Int) (WA 1) ws1 (VA 1 ops)) (MB ops st0.t.l st0.b.l) (MB ops st1.t.l st1.b.l) st0.o.l st1.o.l i).2).getD o.a.toNat 0#64]) 87) : RW)
      let B4 := ((rX m2 E64 ([0#64, 0#64]) 87) : RW)
      let G8 : mC := [nC false false fun _ _ w' => Hp No w₀ w' (B4 :: (rX l2 E64 ([0#64, 0#64]) 87) :: E2), nC true false fun _ _ w' => Hp No w₀ w' (B4 :: t3 :: E2), nC true true fun _ _ w' => Hp No w₀ w' ((rX m2 E64 ([((dC Gb.kA ops in0 in1 ws0 ws1 (OB ops ((0 : Nat) : Int) (WA 0) ws0 (VA 0 ops)) (OB ops ((1 : Nat) : Int) (WA 1) ws1 (VA 1 ops)) (MB ops st0.t.l st0.b.l) (MB ops st1.t.l st1.b.l) st0.o.l st1.o.l i).1).getD o.b.toNat 0#64, ((dC Gb.kA ops in0 in1 ws0 ws1 (OB ops ((0 : Nat) : Int) (WA 0) ws0 (VA 0 ops)) (OB ops ((1 : Nat) : Int) (WA 1) ws1 (VA 1 ops)) (MB ops st0.t.l st0.b.l) (MB ops st1.t.l st1.b.l) st0.o.l st1.o.l i).2).getD o.b.toNat 0#64]) 87) :: t3 :: E2)]
      refine MA (m := 28) [0, 1, 0, 4, 15, 31, 0, 64, 0, 256, 960, 1984, 4095, 0, 8192, 0, 32768, 122880, 253952, 0, 524288, 0, 2097152, 7864320, 16252928, 33546240, 8191, 134217727] [26, 27] E2 G8 BA (fun _ e => j4.ext e) EC (fun C4 => ?_)
      refine gk 26 ?_
      refine WalkT.eff C4 0 ?_ ?_
      ·refine tA fun r w0 uw hF hE => ?_
       have ac := hF.ext hE
       refine MC fun Q' hK => ?_
       refine go 1 ?_
       intro bc H8 cc
       exact hK _ (fun _ => H8)
      refine WalkT.eff C4 1 ?_ ?_
      ·refine tA fun r w0 uw hF hE => ?_
       have dc := hF.ext hE
       refine MC fun Q' hK => ?_
       refine go 1 ?_
       intro fc I8 gc
       exact hK _ (fun _ => I8)
      refine WalkT.nil fun r w0 hc hF hE => ?_
      have D4 := hF.ext hE
      dsimp only
      dsimp only [E2, t3] at D4
      exact BE (RA (k4 (((dC Gb.kA ops in0 in1 ws0 ws1 (OB ops ((0 : Nat) : Int) (WA 0) ws0 (VA 0 ops)) (OB ops ((1 : Nat) : Int) (WA 1) ws1 (VA 1 ops)) (MB ops st0.t.l st0.b.l) (MB ops st1.t.l st1.b.l) st0.o.l st1.o.l i).1.getD o.a.toNat 0#64, (dC Gb.kA ops in0 in1 ws0 ws1 (OB ops ((0 : Nat) : Int) (WA 0) ws0 (VA 0 ops)) (OB ops ((1 : Nat) : Int) (WA 1) ws1 (VA 1 ops)) (MB ops st0.t.l st0.b.l) (MB ops st1.t.l st1.b.l) st0.o.l st1.o.l i).2.getD o.a.toNat 0#64), ((dC Gb.kA ops in0 in1 ws0 ws1 (OB ops ((0 : Nat) : Int) (WA 0) ws0 (VA 0 ops)) (OB ops ((1 : Nat) : Int) (WA 1) ws1 (VA 1 ops)) (MB ops st0.t.l st0.b.l) (MB ops st1.t.l st1.b.l) st0.o.l st1.o.l i).1.getD o.b.toNat 0#64, (dC Gb.kA ops in0 in1 ws0 ws1 (OB ops ((0 : Nat) : Int) (WA 0) ws0 (VA 0 ops)) (OB ops ((1 : Nat) : Int) (WA 1) ws1 (VA 1 ops)) (MB ops st0.t.l st0.b.l) (MB ops st1.t.l st1.b.l) st0.o.l st1.o.l i).2.getD o.b.toNat 0#64)) _ _ kp ⟨⟨rfl, rfl⟩, (D4.pk 16 [3, 4, 5, 6, 7, 8, 9, 10, 11, 12, 13, 14, 15, 2, 1, 0])⟩))
     ·refine ED (RA ?_)
      have F4 : i = 0 := by omega
      have hz1 : ((0#64, 0#64) : W2) = ((dC Gb.kA ops in0 in1 ws0 ws1 (OB ops ((0 : Nat) : Int) (WA 0) ws0 (VA 0 ops)) (OB ops ((1 : Nat) : Int) (WA 1) ws1 (VA 1 ops)) (MB ops st0.t.l st0.b.l) (MB ops st1.t.l st1.b.l) st0.o.l st1.o.l i).1.getD o.a.toNat 0#64, (dC Gb.kA ops in0 in1 ws0 ws1 (OB ops ((0 : Nat) : Int) (WA 0) ws0 (VA 0 ops)) (OB ops ((1 : Nat) : Int) (WA 1) ws1 (VA 1 ops)) (MB ops st0.t.l st0.b.l) (MB ops st1.t.l st1.b.l) st0.o.l st1.o.l i).2.getD o.a.toNat 0#64) := by subst F4; rfl
      have hz2 : ((0#64, 0#64) : W2) = ((dC Gb.kA ops in0 in1 ws0 ws1 (OB ops ((0 : Nat) : Int) (WA 0) ws0 (VA 0 ops)) (OB ops ((1 : Nat) : Int) (WA 1) ws1 (VA 1 ops)) (MB ops st0.t.l st0.b.l) (MB ops st1.t.l st1.b.l) st0.o.l st1.o.l i).1.getD o.b.toNat 0#64, (dC Gb.kA ops in0 in1 ws0 ws1 (OB ops ((0 : Nat) : Int) (WA 0) ws0 (VA 0 ops)) (OB ops ((1 : Nat) : Int) (WA 1) ws1 (VA 1 ops)) (MB ops st0.t.l st0.b.l) (MB ops st1.t.l st1.b.l) st0.o.l st1.o.l i).2.getD o.b.toNat 0#64) := by subst F4; rfl
      exact k4 ((0#64, 0#64), (0#64, 0#64)) _ _ kp ⟨⟨hz1, hz2⟩, (j4.pk 16 [3, 4, 5, 6, 7, 8, 9, 10, 11, 12, 13, 14, 15, 2, 1, 0])⟩
   ·have hie : i = ops.length := by omega
    subst hie
    refine go 2 ?_
    intro ic J8 jc
    refine go 1 ?_
    have K8 := (Hp.segT (S := [[(kw0, qA E64 34 ((dC Gb.kA ops in0 in1 ws0 ws1 (OB ops ((0 : Nat) : Int) (WA 0) ws0 (VA 0 ops)) (OB ops ((1 : Nat) : Int) (WA 1) ws1 (VA 1 ops)) (MB ops st0.t.l st0.b.l) (MB ops st1.t.l st1.b.l) st0.o.l st1.o.l ops.length).1) sw0), (kw1, qA E64 34 ((dC Gb.kA ops in0 in1 ws0 ws1 (OB ops ((0 : Nat) : Int) (WA 0) ws0 (VA 0 ops)) (OB ops ((1 : Nat) : Int) (WA 1) ws1 (VA 1 ops)) (MB ops st0.t.l st0.b.l) (MB ops st1.t.l st1.b.l) st0.o.l st1.o.l ops.length).2) sw1), (rC tb0 y1 96), y7, (rC tb1 y16 96), y9], EA 66 121 114 sb0 d0, EA 66 121 114 sb1 d1, F1, F0]) (Y := R) (((((((J8.dropk 8).dropk 7).dropk 6).dropk 5).dropk 4).dropk 3).dropk 2) 5 rfl [0, 1, 2] [3, 4] (by decide)).as (L' := (_ :: _ :: _ :: _ :: _ :: _ :: (EA 66 121 114 sb0 d0 ++ (EA 66 121 114 sb1 d1 ++ R)))) rfl
    exact ⟨_, rfl, .inl ⟨⟨hal0, hal1⟩, kw0, W1, sw0, kw1, O1, sw1, d0, d1, rfl, hSk0, hSk1, R2, hst0, S2, T2, O4, hst1, P4, Q4, K8⟩⟩
end Go.Proofs.YtohngnahcgbfmaaGreatDoor.Mu
