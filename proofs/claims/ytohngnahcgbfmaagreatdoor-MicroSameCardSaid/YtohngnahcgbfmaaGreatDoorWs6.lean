/- What the claim has need of: Garb5, AesRef, Garb13, Ms4, Ms5, Ms6, Ms7. -/
import Derived.Test.YtohngnahcgbfmaaGreatDoorWs5
import Derived.Laws.CopyRow
import Derived.Laws.IdiomCopy
set_option linter.unusedVariables false
set_option maxHeartbeats 16000000
set_option maxRecDepth 20000
namespace Go.Proofs.YtohngnahcgbfmaaGreatDoor.Gb
open Go Vc Er Circ
theorem one34 : isOne Tryz.prog 34 = true := by kernel_rfl
theorem label_ok (z δ : Lb) (b : Bool) (w : World) : Calls Tryz.prog 70 [.agg (cel E64 [z.1, z.2]).toArray, .agg (cel E64 [(δ).1, (δ).2]).toArray, .bool b].toArray w (Ret fun v w' => v = .agg (cel E64 [(lx z (lw b δ)).1, (lx z (lw b δ)).2]).toArray ∧ Ext w w') := by
 have H := Hp.start No w
 refine enter (n := 12) Tryz.func70 rfl rfl (bLe rfl) ?_
 refine go 1 ?_
 intro d0 k0 l0 m0 n0
 refine go 1 ?_
 intro e0 o0 p0 q0 r0
 refine go 1 ?_
 intro b0 s0 u0 f0 x0
 refine go 0 ?_
 let a0 : List RW := [(rX e0 E64 ([(δ).1, (δ).2]) 83), (rX d0 E64 ([z.1, z.2]) 83)]
 let h0 : Tab := [zt1 false fun _ w' => Hp No w w' ((rX b0 E64 ([0#64, 0#64]) 83) :: a0), zt1 true fun _ w' => Hp No w w' ((rX b0 E64 ([(lx z (lw b δ)).1, (lx z (lw b δ)).2]) 83) :: a0)]
 refine drawH (m := 6) [0, 0, 0, 6, 15, 31] [5] a0 h0 mixed (fun _ e => f0.ext e) (A_ (fun _ _ h => h.drop1) (A_ (fun _ _ h => h.drop1) trivial)) (fun i0 => ?_)
 refine gk 3 ?_
 refine lkW (.agg (cel E64 [(lw b δ).1, (lw b δ).2]).toArray) (fun _ uw hcx => Gives.call rfl (Enters.callL call94 rfl) (lw_ok b δ uw)) (lkW (.agg (cel E64 [(lx z (lw b δ)).1, (lx z (lw b δ)).2]).toArray) (fun _ uw hcx => Gives.call rfl (Enters.callL call28 rfl) (lxor_ok z (lw b δ) uw)) (WalkT.eff i0 0 ?_ ?_))
 ·refine A_ (fun r w0 uw hF hE => ?_) trivial
  have y0 := hF.ext hE
  refine gW0 fun Q' hK => ?_
  refine go 1 ?_
  intro z0 j0 A0
  exact hK _ (fun _ => j0)
 refine WalkT.nil fun r w0 B0 hF hE => ?_
 have c0 := hF.ext hE
 dsimp only
 dsimp only [a0] at c0
 refine go 0 ?_
 exact ⟨_, rfl, rfl, c0.chg⟩
theorem colours_ok (l : List Lb) (a0 : Option Addr) (n0 c0 : Nat) (hn0 : n0 = l.length) (hl : l.length ≤ 140737488355328) (w : World) (hL : Rd ELb w a0 l) : Calls Tryz.prog 75 [.slice a0 n0 c0].toArray w (Ret fun v w' => v = u64 (colS l (min l.length 64)) ∧ Ext w w') := by
 subst hn0
 have H := Hp.start No w
 refine enter (n := 23) Tryz.func75 rfl rfl (bLe rfl) ?_
 refine go 4 ?_
 refine sq ((r_minI (a := (l.length : Nat)) (b := (64 : Int)) rfl rfl).as (v' := iN (min l.length 64)) (by exact congrArg i64 om)) ?_
 refine go 1 ?_
 refine loopAny (σ := Nat) (fun q => [(0, .slice a0 l.length c0), (3, u64 (colS l q)), (7, iN (min l.length 64)), (8, iN q)]) (fun q w' => q ≤ min l.length 64 ∧ Hp No w w' []) (fun q => min l.length 64 - q) (0) ?_ ?_ ?_
 ·exact kp
 ·exact ⟨Nat.zero_le _, H⟩
 rintro q ρ w1 ⟨hq, HL⟩
 refine go 1 ?_
 refine condProp (((q : Nat) : Int) < ((min l.length 64) : Nat)) rfl (fun c9 => ?_) (fun c9 => ?_)
 ·refine go 6 ?_
  refine sq (r_indexAS (E := ELb) (l := l) (j := 0) arr83 (hL.ext HL.chg) om rfl rfl vo om rfl) (sq (r_ldP (E := ELb) (l := l) (j := q) (o := 0) (v := (l.getD q lb0)) (u := u64 ((l.getD q lb0).1)) one34 (hL.ext HL.chg) (at_getD om) rfl rfl rfl) ?_)
  refine go 7 ?_
  exact ⟨q + 1, _, rfl, ⟨rfl, congrArg u64 (by rw [colS]), rfl, rfl, trivial⟩, ⟨om, HL⟩, vd⟩
 ·obtain rfl : q = min l.length 64 := by omega
  refine go 2 ?_
  exact ⟨_, rfl, rfl, HL.chg⟩
end Go.Proofs.YtohngnahcgbfmaaGreatDoor.Gb
namespace Go.Proofs.YtohngnahcgbfmaaGreatDoor.Aes
open Go Vc AesSpec
def CiphR (ks bx : List By) (w : World) (v : Value) (w' : World) : Prop := ∃ kk kc ksp kb cb spb, v = .agg #[sO kk 176 kc, sO kb 256 cb] ∧ Sl E8 kk ks kc ksp ∧ Sl E8 kb bx cb spb ∧ Hp No w w' [(kb, sob E8 5 bx spb), (kk, sob E8 5 ks ksp)]
theorem CiphR.ext {ks bx : List By} {w : World} {v : Value} {w1 w2 : World} (h : CiphR ks bx w v w1) (hE : Ext w1 w2) : CiphR ks bx w v w2 := by
 obtain ⟨kk, kc, ksp, kb, cb, spb, h1, h2, h3, h4⟩ := h
 exact ⟨kk, kc, ksp, kb, cb, spb, h1, h2, h3, h4.ext hE⟩
theorem CiphR.rd {ks bx : List By} {w0 w : World} {v : Value} (h : CiphR ks bx w0 v w) (hk : ks.length = 176) : ∃ xk ck xb cb, v = .agg #[.slice xk 176 ck, .slice xb 256 cb] ∧ 176 ≤ ck ∧ Rd E8 w xk ks ∧ Rd E8 w xb bx := by
 obtain ⟨kk, kc, ksp, kb, cb, spb, h1, h2, h3, h4⟩ := h
 exact ⟨_, _, _, _, h1, hk ▸ h2.cap, h4.rd (k := 1) rfl h2, h4.rd (k := 0) rfl h3⟩
end Go.Proofs.YtohngnahcgbfmaaGreatDoor.Aes
namespace Go.Proofs.YtohngnahcgbfmaaGreatDoor.Gb
open Go Vc Er Circ Co
theorem fits121 : Fits Tryz.prog 121 EOt := fitsOt (by kernel_rfl) (by kernel_rfl)
theorem one4 : isOne Tryz.prog 4 = true := by kernel_rfl
theorem sli40 : sli Tryz.prog 40 = some (121, 5) := by kernel_rfl
theorem fit_good (m k1 k2 : Nat) (a0 : Option Addr) (c0 : Nat) (w : World) (h1 : m = 64) (h2 : k1 = k2) : Calls Tryz.prog 96 [.slice a0 m c0, iN k1, iN k2].toArray w (Ret fun v w' => v = .nilIface ∧ Ext w w') := by
 have H := Hp.start No w
 refine enter (n := 19) Tryz.func96 rfl rfl (bLe rfl) ?_
 refine go 3 ?_
 refine sq ((r_neqI rfl rfl).as (v' := .bool false) (by exact congrArg Value.bool (decide_eq_false om))) ?_
 refine go 3 ?_
 refine sqAny (v := .bool false) (w' := w) (wantedSome (d' := 10) (b := false) rfl rfl rfl) ((r_neqI rfl rfl).as (v' := .bool false) (by exact congrArg Value.bool (decide_eq_false om))) ?_
 refine go 2 ?_
 exact ⟨_, rfl, rfl, H.chg⟩
theorem ask_ok (os : List Ot) (a0 : Option Addr) (n0 c0 : Nat) (hn0 : n0 = os.length) (hos : os.length = 64) (x : BitVec 64) (w : World) (hO : Rd EOt w a0 os) : Calls Tryz.prog 71 [.slice a0 n0 c0, u64 x].toArray w (Ret fun v w' => v = .tuple #[u64 (askS os x 64), .nilIface] ∧ Ext w w') := by
 subst hn0
 have H := Hp.start No w
 refine enter (n := 29) Tryz.func71 rfl rfl (bLe rfl) ?_
 refine go 3 ?_
 refine cl (fit_good os.length 0 0 a0 c0 w om om) ?_
 rintro _ w1 ⟨rfl, e0⟩
 have H3 := H.ext e0
 refine go 6 ?_
 refine loopAny (σ := Nat) (fun q => [(1, u64 (askS os x q)), (14, .slice a0 os.length c0), (15, iN os.length), (16, iN q)]) (fun q w' => q ≤ os.length ∧ Hp No w w' []) (fun q => os.length - q) (0) ?_ ?_ ?_
 ·exact kp
 ·exact ⟨Nat.zero_le _, H3⟩
 rintro q ρ w4 ⟨hq, HL⟩
 refine go 1 ?_
 refine condProp (((q : Nat) : Int) < (os.length : Nat)) rfl (fun f0 => ?_) (fun f0 => ?_)
 ·refine go 4 ?_
  intro b6 w7 h0 H8 i0
  refine go 2 ?_
  intro j0 d0 k0
  refine go 2 ?_
  refine condBool ((os.getD q ot0).ch) rfl (fun b0 => ?_) (fun b0 => ?_)
  ·refine go 7 ?_
   exact ⟨q + 1, _, rfl, ⟨congrArg u64 (by rw [askS, if_pos b0]), rfl, rfl, rfl, trivial⟩, ⟨om, (d0.dropk 0)⟩, vd⟩
  ·refine go 2 ?_
   exact ⟨q + 1, _, rfl, ⟨congrArg u64 (by rw [askS, if_neg (by rw [b0]; exact Bool.false_ne_true)]), rfl, rfl, rfl, trivial⟩, ⟨om, (d0.dropk 0)⟩, vd⟩
 ·have hqe : q = 64 := by omega
  rw [hqe]
  refine go 3 ?_
  exact ⟨_, rfl, rfl, HL.chg⟩
theorem reply_ok (os : List Ot) (a0 : Option Addr) (n0 c0 : Nat) (hn0 : n0 = os.length) (hos : os.length = 64) (ask : BitVec 64) (z : List Lb) (za : Option Addr) (n2 zc : Nat) (hn2 : n2 = z.length) (hz : z.length = 64) (δ : Lb) (w : World) (hO : Rd EOt w a0 os) (hZ : Rd ELb w za z) : Calls Tryz.prog 72 [.slice a0 n0 c0, u64 ask, .slice za n2 zc, .agg (cel E64 [(δ).1, (δ).2]).toArray].toArray w (Ret fun v w' => ∃ (k1 : Option Nat) (c1 : Nat) (z1 : LV), v = .tuple #[sO k1 128 c1, .nilIface] ∧ Sl ELb k1 (repS os ask z δ 64) c1 z1 ∧ Hp No w w' [(k1, sob ELb 83 (repS os ask z δ 64) z1)]) := by
 subst hn2
 subst hn0
 have H := Hp.start No w
 refine enter (n := 59) Tryz.func72 rfl rfl (bLe rfl) ?_
 refine go 1 ?_
 intro b1 w2 M1 H3 N1
 refine go 5 ?_
 refine cl (fit_good os.length z.length 64 a0 c0 w2 om om) ?_
 rintro _ w5 ⟨rfl, Y0⟩
 have H7 := H3.ext Y0
 refine go 4 ?_
 have H8 := H7.nil (sob ELb 83 [] [])
 refine go 3 ?_
 refine loopAny (σ := Nat × Option Nat × Nat × LV) (fun (i, key, c, sp) => [(1, u64 ask), (2, .slice za z.length zc), (7, pT b1), (11, sO key (2 * i) c), (22, .slice a0 os.length c0), (23, iN os.length), (24, iN i)]) (fun (i, key, c, sp) w' => (i ≤ os.length ∧ Sl ELb key (repS os ask z δ i) c sp) ∧ Hp No w w' [(key, sob ELb 83 (repS os ask z δ i) sp), (rX b1 E64 ([(δ).1, (δ).2]) 83)]) (fun (i, key, c, sp) => os.length - i) ((0, none, 0, [])) ?_ ?_ ?_
 ·exact kp
 ·exact ⟨⟨Nat.zero_le _, Sl.none⟩, H8⟩
 rintro ⟨i, key, c, sp⟩ ρ w9 ⟨⟨hi, hS⟩, HL⟩
 let x3 : Value := .agg (cel E64 [(os.getD i ot0).r, (os.getD i ot0).s]).toArray
 let x2 : Value := .agg (cel E64 [(os.getD i ot0).p, (os.getD i ot0).q]).toArray
 let x1 : Array Value := #[u64 ((os.getD i ot0).p), u64 ((os.getD i ot0).q), u64 ((os.getD i ot0).r), u64 ((os.getD i ot0).s), .bool ((os.getD i ot0).ch)]
 have hll := repS_len os ask z δ i
 refine go 1 ?_
 refine condProp (((i : Nat) : Int) < (os.length : Nat)) rfl (fun Z0 => ?_) (fun Z0 => ?_)
 ·refine go 4 ?_
  intro O0 O1 P1 Q1 R1
  refine go 2 ?_
  intro S1 P0 T1
  refine go 5 ?_
  by_cases hq0 : bitq ask i = 0#64
  ·have d1 := (P0.pk 3 [1, 0, 2])
   let j0 : List RW := [(rC O0 x1 121), (rX b1 E64 ([(δ).1, (δ).2]) 83)]
   let q0 := fun (b0 : Nat) => (((some b0), sob ELb 83 ([z.getD i lb0, δ, ((os.getD i ot0).r, (os.getD i ot0).s)] : List LbT) ([])) : RW)
   let D0 := fun (f0 : Nat) => (((some f0), sob ELb 83 ([lx (z.getD i lb0) ((os.getD i ot0).p, (os.getD i ot0).q), lsum ([z.getD i lb0, δ, ((os.getD i ot0).r, (os.getD i ot0).s)] : List LbT)] : List LbT) ([])) : RW)
   let E0 := ((key, sob ELb 83 (repS os ask z δ i) sp) : RW)
   let r0 := fun (b0 : Nat) => (Sl ELb (some b0) ([z.getD i lb0, δ, ((os.getD i ot0).r, (os.getD i ot0).s)] : List LbT) 3 ([]) : Prop)
   let F0 := fun (f0 : Nat) => (Sl ELb (some f0) ([lx (z.getD i lb0) ((os.getD i ot0).p, (os.getD i ot0).q), lsum ([z.getD i lb0, δ, ((os.getD i ot0).r, (os.getD i ot0).s)] : List LbT)] : List LbT) 2 ([]) : Prop)
   let e1 : Tab := [zt3 false false false fun _ _ _ w' => Hp No w w' (E0 :: j0), zt3 true false false fun v20 _ _ w' => ∃ b0, v20 = sO (some b0) 3 3 ∧ (r0 b0) ∧ Hp No w w' ((q0 b0) :: E0 :: j0), zt3 true true false fun v20 v22 _ w' => ∃ b0 f0, v20 = sO (some b0) 3 3 ∧ v22 = sO (some f0) 2 2 ∧ (F0 f0) ∧ (r0 b0) ∧ Hp No w w' ((D0 f0) :: (q0 b0) :: E0 :: j0), zt3 true true true fun v20 v22 v23 w' => ∃ b0 f0 o0 s0 u0, v20 = sO (some b0) 3 3 ∧ v22 = sO (some f0) 2 2 ∧ v23 = sO o0 ((2 * i) + 2) s0 ∧ (F0 f0) ∧ (r0 b0) ∧ Sl ELb o0 (repS os ask z δ (i + 1)) s0 u0 ∧ Hp No w w' ((D0 f0) :: (q0 b0) :: (o0, sob ELb 83 (repS os ask z δ (i + 1)) u0) :: j0)]
   refine drawH (m := 25) [0, 0, 0, 6, 14, 0, 0, 96, 224, 510, 0, 0, 3072, 7168, 0, 0, 32768, 0, 229376, 491520, 1047552, 2097150, 4194302, 8388607, 16777215] [20, 22, 23] j0 e1 mixed (fun _ e => d1.ext e) (A_ (fun _ _ h => h.drop1) (A_ (fun _ _ ⟨_, _, _, h⟩ => h.drop1.drop1) (A_ (fun _ _ ⟨_, _, _, _, _, _, h⟩ => h.drop1.drop1.drop1) (A_ (fun _ _ ⟨_, _, _, _, _, _, _, _, _, _, _, h⟩ => h.drop1.drop1.drop1) trivial)))) (fun G0 => ?_)
   refine gk 5 ?_
   refine lkH (u64 0#64) (fun _ uw hcx => (r_move (v := u64 ((ask >>> (i : Nat)) &&& (1#64))) rfl).as (v' := u64 0#64) (by exact congrArg u64 hq0)) ?_
   refine gk 2 ?_
   refine lkH x2 (fun _ uw hcx => r_loadA (cs' := (cel E64 [(os.getD i ot0).p, (os.getD i ot0).q]).toArray) agg83 siz83 (hcx.get (k := 0) rfl) (off := 0) rfl (by exact bLe rfl) (by rfl)) (lkW (.agg (cel E64 [(lx (z.getD i lb0) ((os.getD i ot0).p, (os.getD i ot0).q)).1, (lx (z.getD i lb0) ((os.getD i ot0).p, (os.getD i ot0).q)).2]).toArray) (fun _ uw hcx => Gives.call rfl (Enters.callL call28 rfl) (lxor_ok (z.getD i lb0) ((os.getD i ot0).p, (os.getD i ot0).q) uw)) ?_)
   refine gk 5 ?_
   refine lkH (u64 0#64) (fun _ uw hcx => (r_move (v := u64 ((ask >>> (i : Nat)) &&& (1#64))) rfl).as (v' := u64 0#64) (by exact congrArg u64 hq0)) (lkH (u64 1#64) (fun _ uw hcx => (r_sub64 (a := 1#64) (b := 0#64) rfl rfl).as (v' := u64 1#64) (by exact congrArg u64 sub10)) ?_)
   refine gk 2 ?_
   refine lkH x3 (fun _ uw hcx => r_loadA (cs' := (cel E64 [(os.getD i ot0).r, (os.getD i ot0).s]).toArray) agg83 siz83 (hcx.get (k := 0) rfl) (off := 2) rfl (by exact bLe rfl) (by rfl)) (WalkT.eff G0 0 ?_ ?_)
   ·refine A_ (fun r w0 uw hF hE => ?_) trivial
    have U1 := hF.ext hE
    exact gW fun Q' hK => (bS (E := ELb) (l := ([z.getD i lb0, δ, ((os.getD i ot0).r, (os.getD i ot0).s)] : List LbT)) fun g1 V1 h1 i1 W1 => hK _ _ (E_ g1 (A_ rfl (A_ h1 i1))))
   refine WalkT.lookS (fun _ => .agg (cel E64 [(lsum ([z.getD i lb0, δ, ((os.getD i ot0).r, (os.getD i ot0).s)] : List LbT)).1, (lsum ([z.getD i lb0, δ, ((os.getD i ot0).r, (os.getD i ot0).s)] : List LbT)).2]).toArray) (fun _ _ _ => rfl) ?_ ?_
   ·refine A_ (fun r w0 uw hF hE => ?_) trivial
    obtain ⟨b0, e0, k0, HH⟩ := hF
    replace HH := HH.ext hE
    dsimp only
    rw [e0]
    exact Gives.call rfl (Enters.callL call93 rfl) (lsum_ok ([z.getD i lb0, δ, ((os.getD i ot0).r, (os.getD i ot0).s)] : List LbT) (ownA (some b0)) 3 3 (by rfl) (by simp) uw vRd)
   refine WalkT.eff G0 1 ?_ ?_
   ·refine A_ (fun r w0 uw hF hE => ?_) trivial
    obtain ⟨b0, e0, k0, Q0⟩ := hF
    replace Q0 := Q0.ext hE
    exact gW fun Q' hK => (bS (E := ELb) (l := ([lx (z.getD i lb0) ((os.getD i ot0).p, (os.getD i ot0).q), lsum ([z.getD i lb0, δ, ((os.getD i ot0).r, (os.getD i ot0).s)] : List LbT)] : List LbT)) fun j1 X1 l1 m1 Y1 => hK _ _ (E_ b0 (E_ j1 (A_ e0 (A_ rfl (A_ l1 (A_ k0 m1)))))))
   refine WalkT.eff G0 2 ?_ ?_
   ·refine A_ (fun r w0 uw hF hE => ?_) trivial
    obtain ⟨b0, f0, e0, i0, H0, k0, R0⟩ := hF
    replace R0 := R0.ext hE
    dsimp only
    rw [i0]
    refine gW fun Q' hK => ?_
    refine apq ?_
    refine ⟨by rw [repS_len], by rfl, om, ?_⟩
    intro n1 o1 p1 Z1 q1 c2 r1
    have s1 : (repS os ask z δ i) ++ ([lx (z.getD i lb0) ((os.getD i ot0).p, (os.getD i ot0).q), lsum ([z.getD i lb0, δ, ((os.getD i ot0).r, (os.getD i ot0).s)] : List LbT)] : List LbT) = repS os ask z δ (i + 1) := by rw [repS, hq0, sub10, oR0, oR1]
    have S0 := q1
    have T0 := r1
    rw [s1] at S0 T0
    exact hK _ _ (E_ b0 (E_ f0 (E_ n1 (E_ o1 (E_ p1 (A_ e0 (A_ i0 (A_ rfl (A_ H0 (A_ k0 (A_ S0 T0)))))))))))
   refine WalkT.hand (fun r => r 23) (fun r r' h => h 23 (by decide) rfl) (fun _ _ => r_assign rfl) (WalkT.nil fun r w0 d2 hF hE => ?_)
   obtain ⟨b0, f0, o0, s0, u0, e0, i0, I0, H0, k0, t1, x0⟩ := hF
   replace x0 := x0.ext hE
   dsimp only
   rw [e0, i0, I0]
   dsimp only [F0] at H0
   dsimp only [r0] at k0
   dsimp only [j0, D0, q0] at x0
   refine go 2 ?_
   exact ⟨(i + 1, o0, s0, u0), _, rfl, kp, ⟨⟨om, t1⟩, (((x0.dropk 3).dropk 1).dropk 0)⟩, vd⟩
  ·have u1 := (P0.pk 3 [1, 0, 2])
   let l0 : List RW := [(rC O0 x1 121), (rX b1 E64 ([(δ).1, (δ).2]) 83)]
   let y0 := fun (d0 : Nat) => (((some d0), sob ELb 83 ([z.getD i lb0, δ, ((os.getD i ot0).p, (os.getD i ot0).q)] : List LbT) ([])) : RW)
   let J0 := fun (h0 : Nat) => (((some h0), sob ELb 83 ([lx (z.getD i lb0) ((os.getD i ot0).r, (os.getD i ot0).s), lsum ([z.getD i lb0, δ, ((os.getD i ot0).p, (os.getD i ot0).q)] : List LbT)] : List LbT) ([])) : RW)
   let K0 := ((key, sob ELb 83 (repS os ask z δ i) sp) : RW)
   let z0 := fun (d0 : Nat) => (Sl ELb (some d0) ([z.getD i lb0, δ, ((os.getD i ot0).p, (os.getD i ot0).q)] : List LbT) 3 ([]) : Prop)
   let L0 := fun (h0 : Nat) => (Sl ELb (some h0) ([lx (z.getD i lb0) ((os.getD i ot0).r, (os.getD i ot0).s), lsum ([z.getD i lb0, δ, ((os.getD i ot0).p, (os.getD i ot0).q)] : List LbT)] : List LbT) 2 ([]) : Prop)
   let w1 : Tab := [zt3 false false false fun _ _ _ w' => Hp No w w' (K0 :: l0), zt3 true false false fun v20 _ _ w' => ∃ d0, v20 = sO (some d0) 3 3 ∧ (z0 d0) ∧ Hp No w w' ((y0 d0) :: K0 :: l0), zt3 true true false fun v20 v22 _ w' => ∃ d0 h0, v20 = sO (some d0) 3 3 ∧ v22 = sO (some h0) 2 2 ∧ (L0 h0) ∧ (z0 d0) ∧ Hp No w w' ((J0 h0) :: (y0 d0) :: K0 :: l0), zt3 true true true fun v20 v22 v23 w' => ∃ d0 h0 p0 A0 B0, v20 = sO (some d0) 3 3 ∧ v22 = sO (some h0) 2 2 ∧ v23 = sO p0 ((2 * i) + 2) A0 ∧ (L0 h0) ∧ (z0 d0) ∧ Sl ELb p0 (repS os ask z δ (i + 1)) A0 B0 ∧ Hp No w w' ((J0 h0) :: (y0 d0) :: (p0, sob ELb 83 (repS os ask z δ (i + 1)) B0) :: l0)]
   refine drawH (m := 25) [0, 0, 0, 6, 14, 0, 0, 96, 224, 510, 0, 0, 3072, 7168, 0, 0, 32768, 0, 229376, 491520, 1047552, 2097150, 4194302, 8388607, 16777215] [20, 22, 23] l0 w1 mixed (fun _ e => u1.ext e) (A_ (fun _ _ h => h.drop1) (A_ (fun _ _ ⟨_, _, _, h⟩ => h.drop1.drop1) (A_ (fun _ _ ⟨_, _, _, _, _, _, h⟩ => h.drop1.drop1.drop1) (A_ (fun _ _ ⟨_, _, _, _, _, _, _, _, _, _, _, h⟩ => h.drop1.drop1.drop1) trivial)))) (fun M0 => ?_)
   refine gk 5 ?_
   refine lkH (u64 1#64) (fun _ uw hcx => (r_move (v := u64 ((ask >>> (i : Nat)) &&& (1#64))) rfl).as (v' := u64 1#64) (by exact congrArg u64 (bitq_one hq0))) ?_
   refine gk 2 ?_
   refine lkH x3 (fun _ uw hcx => r_loadA (cs' := (cel E64 [(os.getD i ot0).r, (os.getD i ot0).s]).toArray) agg83 siz83 (hcx.get (k := 0) rfl) (off := 2) rfl (by exact bLe rfl) (by rfl)) (lkW (.agg (cel E64 [(lx (z.getD i lb0) ((os.getD i ot0).r, (os.getD i ot0).s)).1, (lx (z.getD i lb0) ((os.getD i ot0).r, (os.getD i ot0).s)).2]).toArray) (fun _ uw hcx => Gives.call rfl (Enters.callL call28 rfl) (lxor_ok (z.getD i lb0) ((os.getD i ot0).r, (os.getD i ot0).s) uw)) ?_)
   refine gk 5 ?_
   refine lkH (u64 1#64) (fun _ uw hcx => (r_move (v := u64 ((ask >>> (i : Nat)) &&& (1#64))) rfl).as (v' := u64 1#64) (by exact congrArg u64 (bitq_one hq0))) (lkH (u64 0#64) (fun _ uw hcx => (r_sub64 (a := 1#64) (b := 1#64) rfl rfl).as (v' := u64 0#64) (by exact congrArg u64 sub11)) ?_)
   refine gk 2 ?_
   refine lkH x2 (fun _ uw hcx => r_loadA (cs' := (cel E64 [(os.getD i ot0).p, (os.getD i ot0).q]).toArray) agg83 siz83 (hcx.get (k := 0) rfl) (off := 0) rfl (by exact bLe rfl) (by rfl)) (WalkT.eff M0 0 ?_ ?_)
   ·refine A_ (fun r w0 uw hF hE => ?_) trivial
    have e2 := hF.ext hE
    exact gW fun Q' hK => (bS (E := ELb) (l := ([z.getD i lb0, δ, ((os.getD i ot0).p, (os.getD i ot0).q)] : List LbT)) fun y1 f2 A1 B1 g2 => hK _ _ (E_ y1 (A_ rfl (A_ A1 B1))))
   refine WalkT.lookS (fun _ => .agg (cel E64 [(lsum ([z.getD i lb0, δ, ((os.getD i ot0).p, (os.getD i ot0).q)] : List LbT)).1, (lsum ([z.getD i lb0, δ, ((os.getD i ot0).p, (os.getD i ot0).q)] : List LbT)).2]).toArray) (fun _ _ _ => rfl) ?_ ?_
   ·refine A_ (fun r w0 uw hF hE => ?_) trivial
    obtain ⟨d0, e0, m0, HH⟩ := hF
    replace HH := HH.ext hE
    dsimp only
    rw [e0]
    exact Gives.call rfl (Enters.callL call93 rfl) (lsum_ok ([z.getD i lb0, δ, ((os.getD i ot0).p, (os.getD i ot0).q)] : List LbT) (ownA (some d0)) 3 3 (by rfl) (by simp) uw vRd)
   refine WalkT.eff M0 1 ?_ ?_
   ·refine A_ (fun r w0 uw hF hE => ?_) trivial
    obtain ⟨d0, e0, m0, U0⟩ := hF
    replace U0 := U0.ext hE
    exact gW fun Q' hK => (bS (E := ELb) (l := ([lx (z.getD i lb0) ((os.getD i ot0).r, (os.getD i ot0).s), lsum ([z.getD i lb0, δ, ((os.getD i ot0).p, (os.getD i ot0).q)] : List LbT)] : List LbT)) fun C1 h2 D1 E1 i2 => hK _ _ (E_ d0 (E_ C1 (A_ e0 (A_ rfl (A_ D1 (A_ m0 E1)))))))
   refine WalkT.eff M0 2 ?_ ?_
   ·refine A_ (fun r w0 uw hF hE => ?_) trivial
    obtain ⟨d0, h0, e0, i0, N0, m0, V0⟩ := hF
    replace V0 := V0.ext hE
    dsimp only
    rw [i0]
    refine gW fun Q' hK => ?_
    refine apq ?_
    refine ⟨by rw [repS_len], by rfl, om, ?_⟩
    intro F1 G1 H1 j2 I1 k2 J1
    have K1 : (repS os ask z δ i) ++ ([lx (z.getD i lb0) ((os.getD i ot0).r, (os.getD i ot0).s), lsum ([z.getD i lb0, δ, ((os.getD i ot0).p, (os.getD i ot0).q)] : List LbT)] : List LbT) = repS os ask z δ (i + 1) := by rw [repS, bitq_one hq0, sub11, oR0, oR1]
    have W0 := I1
    have X0 := J1
    rw [K1] at W0 X0
    exact hK _ _ (E_ d0 (E_ h0 (E_ F1 (E_ G1 (E_ H1 (A_ e0 (A_ i0 (A_ rfl (A_ N0 (A_ m0 (A_ W0 X0)))))))))))
   refine WalkT.hand (fun r => r 23) (fun r r' h => h 23 (by decide) rfl) (fun _ _ => r_assign rfl) (WalkT.nil fun r w0 l2 hF hE => ?_)
   obtain ⟨d0, h0, p0, A0, B0, e0, i0, I0, N0, m0, L1, C0⟩ := hF
   replace C0 := C0.ext hE
   dsimp only
   rw [e0, i0, I0]
   dsimp only [L0] at N0
   dsimp only [z0] at m0
   dsimp only [l0, J0, y0] at C0
   refine go 2 ?_
   exact ⟨(i + 1, p0, A0, B0), _, rfl, kp, ⟨⟨om, L1⟩, (((C0.dropk 3).dropk 1).dropk 0)⟩, vd⟩
 ·have hie : i = 64 := by omega
  rw [hie] at HL hS
  rw [hie]
  refine go 3 ?_
  exact ⟨_, rfl, key, c, sp, rfl, hS, (HL.dropk 1)⟩
theorem pick_ok (os : List Ot) (a0 : Option Addr) (n0 c0 : Nat) (hn0 : n0 = os.length) (hos : os.length = 64) (x : BitVec 64) (rp : List Lb) (ra : Option Addr) (n2 rc : Nat) (hn2 : n2 = rp.length) (hr : rp.length = 128) (w : World) (hO : Rd EOt w a0 os) (hR : Rd ELb w ra rp) : Calls Tryz.prog 73 [.slice a0 n0 c0, u64 x, .slice ra n2 rc].toArray w (Ret fun v w' => ∃ (k1 : Option Nat) (c1 : Nat) (z1 : LV), v = .tuple #[sO k1 64 c1, .nilIface] ∧ Sl ELb k1 (pickS os x rp 64) c1 z1 ∧ Hp No w w' [(k1, sob ELb 83 (pickS os x rp 64) z1)]) := by
 subst hn2
 subst hn0
 have H := Hp.start No w
 refine enter (n := 46) Tryz.func73 rfl rfl (bLe rfl) ?_
 refine go 5 ?_
 refine cl (fit_good os.length rp.length 128 a0 c0 w om om) ?_
 rintro _ w1 ⟨rfl, K0⟩
 have H3 := H.ext K0
 refine go 4 ?_
 have H4 := H3.nil (sob ELb 83 [] [])
 refine go 3 ?_
 refine loopAny (σ := Nat × Option Nat × Nat × LV) (fun (i, key, c, sp) => [(1, u64 x), (2, .slice ra rp.length rc), (9, sO key i c), (19, .slice a0 os.length c0), (20, iN os.length), (21, iN i)]) (fun (i, key, c, sp) w' => (i ≤ os.length ∧ Sl ELb key (pickS os x rp i) c sp) ∧ Hp No w w' [(key, sob ELb 83 (pickS os x rp i) sp)]) (fun (i, key, c, sp) => os.length - i) ((0, none, 0, [])) ?_ ?_ ?_
 ·exact kp
 ·exact ⟨⟨Nat.zero_le _, Sl.none⟩, H4⟩
 rintro ⟨i, key, c, sp⟩ ρ w5 ⟨⟨hi, hS⟩, HL⟩
 let x2 : RW := (key, sob ELb 83 (pickS os x rp i) sp)
 let x1 : Array Value := #[u64 ((os.getD i ot0).p), u64 ((os.getD i ot0).q), u64 ((os.getD i ot0).r), u64 ((os.getD i ot0).s), .bool ((os.getD i ot0).ch)]
 have hll := pickS_len os x rp i
 refine go 1 ?_
 refine condProp (((i : Nat) : Int) < (os.length : Nat)) rfl (fun L0 => ?_) (fun L0 => ?_)
 ·refine go 4 ?_
  intro b7 w8 p1 H9 q1
  refine go 2 ?_
  intro r1 B0 s1
  refine go 0 ?_
  by_cases hq0 : bitq x i = 0#64
  ·have M0 := (B0.pk 2 [1, 0])
   let f0 : List RW := [(rC b7 x1 121)]
   let r0 := fun (b0 : Nat) => (((some b0), sob ELb 83 ([lx (rp.getD (2 * i + 0) lb0) ((os.getD i ot0).p, (os.getD i ot0).q)] : List LbT) ([])) : RW)
   let s0 := fun (b0 : Nat) => (Sl ELb (some b0) ([lx (rp.getD (2 * i + 0) lb0) ((os.getD i ot0).p, (os.getD i ot0).q)] : List LbT) 1 ([]) : Prop)
   let N0 : Tab := [zt2 false false fun _ _ w' => Hp No w w' (x2 :: f0), zt2 true false fun v16 _ w' => ∃ b0, v16 = sO (some b0) 1 1 ∧ (s0 b0) ∧ Hp No w w' ((r0 b0) :: x2 :: f0), zt2 true true fun v16 v17 w' => ∃ b0 h0 k0 l0, v16 = sO (some b0) 1 1 ∧ v17 = sO h0 (i + 1) k0 ∧ (s0 b0) ∧ Sl ELb h0 (pickS os x rp (i + 1)) k0 l0 ∧ Hp No w w' ((r0 b0) :: (h0, sob ELb 83 (pickS os x rp (i + 1)) l0) :: f0)]
   refine drawH (m := 19) [0, 0, 0, 4, 0, 0, 48, 112, 240, 508, 1022, 2046, 0, 4096, 12288, 32766, 65534, 131071, 262143] [16, 17] f0 N0 mixed (fun _ e => M0.ext e) (A_ (fun _ _ h => h.drop1) (A_ (fun _ _ ⟨_, _, _, h⟩ => h.drop1.drop1) (A_ (fun _ _ ⟨_, _, _, _, _, _, _, _, h⟩ => h.drop1.drop1) trivial))) (fun C0 => ?_)
   refine gk 3 ?_
   refine lkH (iN (2 * i)) (fun _ uw hcx => (r_mulI rfl rfl om).as (v' := iN (2 * i)) (by exact congrArg i64 om)) ?_
   refine gk 3 ?_
   refine lkH (u64 0#64) (fun _ uw hcx => (r_and64 (a := x >>> (i : Nat)) (b := 1#64) rfl rfl).as (v' := u64 0#64) (by exact congrArg u64 hq0)) (lkH (iN 0) (fun _ uw hcx => (r_64toI und34 und3 (a := 0#64) rfl).as (v' := iN 0) (by rfl)) (lkH (iN (2 * i + 0)) (fun _ uw hcx => (r_addI rfl rfl om).as (v' := iN (2 * i + 0)) (by exact congrArg i64 om)) ?_))
   refine gk 5 ?_
   refine lkW (.agg (cel E64 [(lx (rp.getD (2 * i + 0) lb0) ((os.getD i ot0).p, (os.getD i ot0).q)).1, (lx (rp.getD (2 * i + 0) lb0) ((os.getD i ot0).p, (os.getD i ot0).q)).2]).toArray) (fun _ uw hcx => Gives.call rfl (Enters.callL call28 rfl) (lxor_ok (rp.getD (2 * i + 0) lb0) ((os.getD i ot0).p, (os.getD i ot0).q) uw)) (WalkT.eff C0 0 ?_ ?_)
   ·refine A_ (fun r w0 uw hF hE => ?_) trivial
    have t1 := hF.ext hE
    exact gW fun Q' hK => (bS (E := ELb) (l := ([lx (rp.getD (2 * i + 0) lb0) ((os.getD i ot0).p, (os.getD i ot0).q)] : List LbT)) fun O0 u1 P0 Q0 y1 => hK _ _ (E_ O0 (A_ rfl (A_ P0 Q0))))
   refine WalkT.eff C0 1 ?_ ?_
   ·refine A_ (fun r w0 uw hF hE => ?_) trivial
    obtain ⟨b0, e0, u0, D0⟩ := hF
    replace D0 := D0.ext hE
    dsimp only
    rw [e0]
    refine gW fun Q' hK => ?_
    refine apq ?_
    refine ⟨by rw [pickS_len], by rfl, om, ?_⟩
    intro R0 S0 T0 A1 U0 B1 V0
    have W0 : (pickS os x rp i) ++ ([lx (rp.getD (2 * i + 0) lb0) ((os.getD i ot0).p, (os.getD i ot0).q)] : List LbT) = pickS os x rp (i + 1) := by rw [pickS, hq0, oR0]; rfl
    have E0 := U0
    have F0 := V0
    rw [W0] at E0 F0
    exact hK _ _ (E_ b0 (E_ R0 (E_ S0 (E_ T0 (A_ e0 (A_ rfl (A_ u0 (A_ E0 F0))))))))
   refine WalkT.hand (fun r => r 17) (fun r r' h => h 17 (by decide) rfl) (fun _ _ => r_assign rfl) (WalkT.nil fun r w0 C1 hF hE => ?_)
   obtain ⟨b0, h0, k0, l0, e0, x0, u0, X0, m0⟩ := hF
   replace m0 := m0.ext hE
   dsimp only
   rw [e0, x0]
   dsimp only [s0] at u0
   dsimp only [f0, r0] at m0
   refine go 2 ?_
   exact ⟨(i + 1, h0, k0, l0), _, rfl, kp, ⟨⟨om, X0⟩, ((m0.dropk 2).dropk 0)⟩, vd⟩
  ·have Y0 := (B0.pk 2 [1, 0])
   let i0 : List RW := [(rC b7 x1 121)]
   let y0 := fun (d0 : Nat) => (((some d0), sob ELb 83 ([lx (rp.getD (2 * i + 1) lb0) ((os.getD i ot0).p, (os.getD i ot0).q)] : List LbT) ([])) : RW)
   let z0 := fun (d0 : Nat) => (Sl ELb (some d0) ([lx (rp.getD (2 * i + 1) lb0) ((os.getD i ot0).p, (os.getD i ot0).q)] : List LbT) 1 ([]) : Prop)
   let Z0 : Tab := [zt2 false false fun _ _ w' => Hp No w w' (x2 :: i0), zt2 true false fun v16 _ w' => ∃ d0, v16 = sO (some d0) 1 1 ∧ (z0 d0) ∧ Hp No w w' ((y0 d0) :: x2 :: i0), zt2 true true fun v16 v17 w' => ∃ d0 j0 o0 p0, v16 = sO (some d0) 1 1 ∧ v17 = sO j0 (i + 1) o0 ∧ (z0 d0) ∧ Sl ELb j0 (pickS os x rp (i + 1)) o0 p0 ∧ Hp No w w' ((y0 d0) :: (j0, sob ELb 83 (pickS os x rp (i + 1)) p0) :: i0)]
   refine drawH (m := 19) [0, 0, 0, 4, 0, 0, 48, 112, 240, 508, 1022, 2046, 0, 4096, 12288, 32766, 65534, 131071, 262143] [16, 17] i0 Z0 mixed (fun _ e => Y0.ext e) (A_ (fun _ _ h => h.drop1) (A_ (fun _ _ ⟨_, _, _, h⟩ => h.drop1.drop1) (A_ (fun _ _ ⟨_, _, _, _, _, _, _, _, h⟩ => h.drop1.drop1) trivial))) (fun G0 => ?_)
   refine gk 3 ?_
   refine lkH (iN (2 * i)) (fun _ uw hcx => (r_mulI rfl rfl om).as (v' := iN (2 * i)) (by exact congrArg i64 om)) ?_
   refine gk 3 ?_
   refine lkH (u64 1#64) (fun _ uw hcx => (r_and64 (a := x >>> (i : Nat)) (b := 1#64) rfl rfl).as (v' := u64 1#64) (by exact congrArg u64 (bitq_one hq0))) (lkH (iN 1) (fun _ uw hcx => (r_64toI und34 und3 (a := 1#64) rfl).as (v' := iN 1) (by rfl)) (lkH (iN (2 * i + 1)) (fun _ uw hcx => (r_addI rfl rfl om).as (v' := iN (2 * i + 1)) (by exact congrArg i64 om)) ?_))
   refine gk 5 ?_
   refine lkW (.agg (cel E64 [(lx (rp.getD (2 * i + 1) lb0) ((os.getD i ot0).p, (os.getD i ot0).q)).1, (lx (rp.getD (2 * i + 1) lb0) ((os.getD i ot0).p, (os.getD i ot0).q)).2]).toArray) (fun _ uw hcx => Gives.call rfl (Enters.callL call28 rfl) (lxor_ok (rp.getD (2 * i + 1) lb0) ((os.getD i ot0).p, (os.getD i ot0).q) uw)) (WalkT.eff G0 0 ?_ ?_)
   ·refine A_ (fun r w0 uw hF hE => ?_) trivial
    have D1 := hF.ext hE
    exact gW fun Q' hK => (bS (E := ELb) (l := ([lx (rp.getD (2 * i + 1) lb0) ((os.getD i ot0).p, (os.getD i ot0).q)] : List LbT)) fun d1 E1 e1 g1 F1 => hK _ _ (E_ d1 (A_ rfl (A_ e1 g1))))
   refine WalkT.eff G0 1 ?_ ?_
   ·refine A_ (fun r w0 uw hF hE => ?_) trivial
    obtain ⟨d0, e0, A0, H0⟩ := hF
    replace H0 := H0.ext hE
    dsimp only
    rw [e0]
    refine gW fun Q' hK => ?_
    refine apq ?_
    refine ⟨by rw [pickS_len], by rfl, om, ?_⟩
    intro h1 i1 j1 G1 l1 H1 m1
    have n1 : (pickS os x rp i) ++ ([lx (rp.getD (2 * i + 1) lb0) ((os.getD i ot0).p, (os.getD i ot0).q)] : List LbT) = pickS os x rp (i + 1) := by rw [pickS, bitq_one hq0, oR0]; rfl
    have I0 := l1
    have J0 := m1
    rw [n1] at I0 J0
    exact hK _ _ (E_ d0 (E_ h1 (E_ i1 (E_ j1 (A_ e0 (A_ rfl (A_ A0 (A_ I0 J0))))))))
   refine WalkT.hand (fun r => r 17) (fun r r' h => h 17 (by decide) rfl) (fun _ _ => r_assign rfl) (WalkT.nil fun r w0 I1 hF hE => ?_)
   obtain ⟨d0, j0, o0, p0, e0, x0, A0, o1, q0⟩ := hF
   replace q0 := q0.ext hE
   dsimp only
   rw [e0, x0]
   dsimp only [z0] at A0
   dsimp only [i0, y0] at q0
   refine go 2 ?_
   exact ⟨(i + 1, j0, o0, p0), _, rfl, kp, ⟨⟨om, o1⟩, ((q0.dropk 2).dropk 0)⟩, vd⟩
 ·have hie : i = 64 := by omega
  rw [hie] at HL hS
  rw [hie]
  refine go 3 ?_
  exact ⟨_, rfl, key, c, sp, rfl, hS, HL⟩
end Go.Proofs.YtohngnahcgbfmaaGreatDoor.Gb
namespace Go.Proofs.YtohngnahcgbfmaaGreatDoor.Ms
open Go Vc Er Ek Circ Mi
open Co Cm
open Go.Proofs.YtohngnahcgbfmaaGreatDoor (Gb.lhash)
open Gb (lb0 lx lw gS eS oL colS askS repS pickS)
theorem agg104 : isAgg' Tryz.prog 104 = true := by kernel_rfl
theorem arr87 : arr Tryz.prog 87 = some (2, 1) := by kernel_rfl
theorem arr92 : arr Tryz.prog 92 = some (2, 6) := by kernel_rfl
theorem call70 : callable Tryz.prog 70 = true := by kernel_rfl
theorem fits87 : Fits Tryz.prog 87 ELb := fitsLb (by kernel_rfl) (by kernel_rfl)
theorem siz104 : siz Tryz.prog 104 = some 3 := by kernel_rfl
theorem sli182 : sli Tryz.prog 182 = some (87, 2) := by kernel_rfl
theorem garble_okM (n : Int) (gs : List Gt) (ol : List Int) (ga oa : Option Addr) (gc oc mg mo : Nat) (hmg : mg = gs.length) (hmo : mo = ol.length) (δ : Mi.Lb) (zs : List Mi.Lb) (za : Option Addr) (zc : Nat) (first : BitVec 64) (m0 : Nat) (hm0 : m0 = zs.length) (w : World) (hG : Gl w) (hGs : Rd EG w ga gs) (hOl : Rd EI w oa ol) (hgl : gs.length ≤ 140737488355328) (hol : ol.length ≤ 140737488355328) (hZ : Rd ELb w za zs) (hg : IsC n gs ol) (hm : (zs.length : Int) = n) (hc : Gb.col δ = true) : Calls Tryz.prog 69 [.agg #[i64 n, .slice ga mg gc, .slice oa mo oc], .agg (cel E64 [(δ).1, (δ).2]).toArray, .slice za m0 zc, u64 first].toArray w (Ret fun v w' => ∃ (k1 : Option Nat) (c1 : Nat) (z1 : LV) (k2 : Option Nat) (c2 : Nat) (z2 : LV), v = .tuple #[sO k1 ((gS Gb.lhash δ first gs zs gs.length).2).length c1, sO k2 (oL (gS Gb.lhash δ first gs zs gs.length).1 ol ol.length).length c2, .nilIface] ∧ Sl ELb k1 ((gS Gb.lhash δ first gs zs gs.length).2) c1 z1 ∧ Sl ELb k2 (oL (gS Gb.lhash δ first gs zs gs.length).1 ol ol.length) c2 z2 ∧ Hp No w w' [(k1, sob ELb 83 ((gS Gb.lhash δ first gs zs gs.length).2) z1), (k2, sob ELb 83 (oL (gS Gb.lhash δ first gs zs gs.length).1 ol ol.length) z2)]) := by
 subst hmg hmo hm0; exact Gb.garble_ok n gs ol ga oa gc oc δ zs za zc first w hG hGs hOl hgl hol hZ hg hm hc
theorem eval_okM (n : Int) (gs : List Gt) (ol : List Int) (ga oa : Option Addr) (gc oc mg mo : Nat) (hmg : mg = gs.length) (hmo : mo = ol.length) (ls tb : List Mi.Lb) (lsa tsa : Option Addr) (lsc tsc : Nat) (first : BitVec 64) (m1 m2 : Nat) (hm1 : m1 = ls.length) (hm2 : m2 = tb.length) (w : World) (hG : Gl w) (hGs : Rd EG w ga gs) (hOl : Rd EI w oa ol) (hgl : gs.length ≤ 140737488355328) (hol : ol.length ≤ 140737488355328) (hLs : Rd ELb w lsa ls) (hTb : Rd ELb w tsa tb) (hg : IsC n gs ol) (hm : (ls.length : Int) = n) (hc : tb.length = 2 * andsS gs gs.length) : Calls Tryz.prog 74 [.agg #[i64 n, .slice ga mg gc, .slice oa mo oc], .slice lsa m1 lsc, .slice tsa m2 tsc, u64 first].toArray w (Ret fun v w' => ∃ (k1 : Option Nat) (c1 : Nat) (z1 : LV), v = .tuple #[sO k1 ol.length c1, .nilIface] ∧ Sl ELb k1 (oL (eS Gb.lhash first gs tb ls gs.length).1 ol ol.length) c1 z1 ∧ Hp No w w' [(k1, sob ELb 83 (oL (eS Gb.lhash first gs tb ls gs.length).1 ol ol.length) z1)]) := by
 subst hmg hmo hm1 hm2; exact Gb.eval_ok n gs ol ga oa gc oc ls tb lsa tsa lsc tsc first w hG hGs hOl hgl hol hLs hTb hg hm hc
theorem garbled_ok (o : Mo) (q : Int) (a b : W2) (d0 d1 : Dr) (zs : List Mi.Lb) (os0 os1 : List Ot) (δ : W2) (hcd : Gb.col δ = true) (hng : nopS o.k o.c ≠ 0) (hzl : zs.length = 128 * opG o) (h0l : os0.length = 64 * opG o) (h1l : os1.length = 64 * opG o) (hz : d0.zs.n = zs.length) (hzc : zs.length ≤ d0.zs.c) (h0n : d0.os.n = os0.length) (h0c : os0.length ≤ d0.os.c) (h1n : d1.os.n = os1.length) (h1c : os1.length ≤ d1.os.c) (w : World) (hG : Gl w) (hZ : Rd ELb w d0.zs.a zs) (hO0 : Rd EOt w d0.os.a os0) (hO1 : Rd EOt w d1.os.a os1) : Calls Tryz.prog 49 [.agg #[i64 (o.kd), i64 (o.a), i64 (o.b), i64 (o.k), u64 (o.c), i64 (o.pt)], i64 q, .agg (cel E64 [a.1, a.2]).toArray, .agg (cel E64 [b.1, b.2]).toArray, .agg #[u64 (d0.w), u64 (d0.t.a), u64 (d0.t.b), u64 (d0.t.c), .slice d0.os.a d0.os.n d0.os.c, .slice d0.zs.a d0.zs.n d0.zs.c, u64 (d1.w), u64 (d1.t.a), u64 (d1.t.b), u64 (d1.t.c), .slice d1.os.a d1.os.n d1.os.c, .slice d1.zs.a d1.zs.n d1.zs.c], .agg (cel E64 [(δ).1, (δ).2]).toArray].toArray w (Ret fun v w' => v = .agg (cel E64 [(garS Gb.lhash o q a b δ zs os0 os1).1, (garS Gb.lhash o q a b δ zs os0 os1).2]).toArray ∧ Ext w w') := by
 let x1 : Array Value := #[u64 (d0.w), u64 (d0.t.a), u64 (d0.t.b), u64 (d0.t.c), .slice d0.os.a d0.os.n d0.os.c, .slice d0.zs.a d0.zs.n d0.zs.c, u64 (d1.w), u64 (d1.t.a), u64 (d1.t.b), u64 (d1.t.c), .slice d1.os.a d1.os.n d1.os.c, .slice d1.zs.a d1.zs.n d1.zs.c]
 have hog := opG_le o
 have hA := makeG_ans o hng []
 have hol := makeG_outs o
 have hgl := makeG_len o
 have hzn : ((zs.length : Nat) : Int) = ((128 * opG o : Nat) : Int) := by rw [hzl]
 have H := Hp.start No w
 refine enter (n := 156) Tryz.func49 rfl rfl (bLe rfl) ?_
 refine go 1 ?_
 intro n0 w2 y2 z2 A2
 refine go 1 ?_
 intro o0 B2 C2 D2 E2
 refine go 1 ?_
 intro p0 F2 G2 H2 I2
 refine go 1 ?_
 intro e0 J2 K2 L2 M2
 refine go 1 ?_
 intro f0 N2 O2 P2 Q2
 refine go 1 ?_
 intro h0 c1 R2 e1 S2
 refine go 4 ?_
 refine Vc.cl (make_all o hng c1) ?_
 rintro _ T2 ⟨c0, i0, g1, l0, rfl, U2, h1⟩
 let x4 : Option Addr := some ⟨l0, 0, none⟩
 have V2 := (e1.join h1).a8 rfl
 refine go 4 ?_
 intro j0 X2 Y2 Z2 c3
 refine go 1 ?_
 intro i1 j1 d3
 refine go 7 ?_
 refine sq ((r_shl64 (a := BitVec.ofInt 64 q) (c := 32) rfl rfl).as (v' := u64 (fsS q)) (by rfl)) ?_
 refine go 5 ?_
 refine Vc.cl (garble_okM ((128 * opG o) : Nat) ((makeG o).1) ((makeG o).2) (ownA c0) x4 i0 64 ((makeG o).1.length) 64 (by rfl) (by exact (makeG_outs _).symm) δ zs d0.zs.a d0.zs.c (fsS q) d0.zs.n (by exact hz) i1 vGl vRd (Rd.row vGa) om om vRd hA.is hzn hcd) ?_
 rintro _ e3 ⟨y0, J0, k1, z0, K0, l1, rfl, m1, n1, L0⟩
 obtain ⟨tb, htb⟩ : ∃ x, x = (gS Gb.lhash δ (fsS q) (makeG o).1 zs (makeG o).1.length).2 := ⟨_, rfl⟩
 let x5 : RW := (y0, sob ELb 83 tb k1)
 obtain ⟨ot, hot⟩ : ∃ x, x = oL (gS Gb.lhash δ (fsS q) (makeG o).1 zs (makeG o).1.length).1 (makeG o).2 (makeG o).2.length := ⟨_, rfl⟩
 let x7 : RW := (z0, sob ELb 83 ot l1)
 let x6 : RW := (c0, sob EG 154 ((makeG o).1) g1)
 let x2 : Array Value := #[i64 (o.kd), i64 (o.a), i64 (o.b), i64 (o.k), u64 (o.c), i64 (o.pt)]
 rw [← htb] at m1 L0 ⊢
 rw [← hot] at n1 L0 ⊢
 have o1 := (j1.join L0).a11 rfl
 refine go 8 ?_
 have p1 := o1.nil (sob ELb 83 [] [])
 refine go 0 ?_
 let A0 : List RW := [(none, sob ELb 83 ([]) ([])), x5, x7, (rC j0 #[iN (128 * opG o), sO c0 ((makeG o).1.length) i0, .slice x4 64 64] 104), x6, (rX l0 EI ((makeG o).2) 145), (rX h0 E64 ([0#64, 0#64]) 87), (rX f0 E64 ([(δ).1, (δ).2]) 83), (rC e0 x1 92), (rX p0 E64 ([b.1, b.2]) 87), (rX o0 E64 ([a.1, a.2]) 87), (rC n0 x2 36)]
 let q1 : Tab := [zt1 false fun _ w' => Hp No w w' A0, zt1 true fun v2 w' => ∃ b0, v2 = sO (some b0) 2 2 ∧ Sl ELb (some b0) ([a, b] : List LbT) 2 ([]) ∧ Hp No w w' (((some b0), sob ELb 87 ([a, b] : List LbT) ([])) :: A0)]
 refine drawH (m := 8) [0, 0, 3, 0, 8, 31, 63, 0] [2] A0 q1 mixed (fun _ e => p1.ext e) (A_ (fun _ _ h => h) (A_ (fun _ _ ⟨_, _, _, h⟩ => h.drop1) trivial)) (fun r1 => ?_)
 refine gk 2 ?_
 refine WalkT.eff r1 0 ?_ ?_
 ·refine A_ (fun r w0 uw hF hE => ?_) trivial
  have f3 := hF.ext hE
  exact gW fun Q' hK => (bS (E := ELb) (l := ([a, b] : List LbT)) fun s1 g3 t1 u1 h3 => hK _ _ (E_ s1 (A_ rfl (A_ t1 u1))))
 refine gk 1 ?_
 refine lkW (iN (opG o)) (fun _ uw hcx => Gives.call rfl (Enters.callL call36 rfl) (opnds_ok o uw)) (WalkT.lookS (fun r => cutV (r 2) (opG o)) (fun r r' h => by rw [h 2 (by decide) rfl]) ?_ ?_)
 ·refine A_ (fun r w0 uw hF hE => ?_) trivial
  obtain ⟨b0, e2, B0, HH⟩ := hF
  replace HH := HH.ext hE
  dsimp only
  rw [e2]
  exact Gives.run rfl ((r_sliceS (l := 0) (h := opG o) sli182 rfl (.inr ⟨rfl, rfl⟩) (.inl ⟨_, _, _, rfl, rfl, by first | rfl | omega | (simp; omega)⟩) om om).as (v' := .slice (if 2 = 0 then ownA (some b0) else adr (ownA (some b0)) (0 * 2)) (opG o) (2 - 0)) (by first | rfl | (congr 1; omega) | (simp; omega) | simp)) ⟨rfl, Chg.refl _ _⟩
 refine WalkT.lookS (fun _ => iN (opG o)) (fun _ _ _ => rfl) ?_ ?_
 ·refine A_ (fun r w0 uw hF hE => ?_) trivial
  obtain ⟨b0, e2, B0, HH⟩ := hF
  replace HH := HH.ext hE
  dsimp only
  rw [e2]
  exact vGr
 refine gk 1 ?_
 refine WalkT.nil fun r w0 i3 hF hE => ?_
 obtain ⟨b0, e2, B0, C0⟩ := hF
 let x3 : RW := ((some b0), sob ELb 87 ([a, b] : List LbT) ([]))
 replace C0 := C0.ext hE
 dsimp only
 rw [e2]
 dsimp only [A0] at C0
 refine go 0 ?_
 refine loopAny (σ := Nat × Option Nat × Nat × LV) (fun (k, kl, cl, sl) => [(10, pT e0), (11, pT f0), (12, pT h0), (13, pT j0), (15, .slice d0.zs.a d0.zs.n d0.zs.c), (16, u64 (fsS q)), (17, sO y0 tb.length J0), (18, sO z0 ot.length K0), (20, sO kl (128 * k) cl), (62, .slice (if 2 = 0 then ownA (some b0) else adr (ownA (some b0)) (0 * 2)) (opG o) (2 - 0)), (63, iN (opG o)), (64, iN k)]) (fun (k, kl, cl, sl) w' => (k ≤ opG o ∧ Sl ELb kl (alL δ zs os0 os1 a b k) cl sl) ∧ Hp No w w' [(kl, sob ELb 83 (alL δ zs os0 os1 a b k) sl), x3, x5, x7, (rC j0 #[iN (128 * opG o), sO c0 ((makeG o).1.length) i0, .slice x4 64 64] 104), x6, (rX l0 EI ((makeG o).2) 145), (rX h0 E64 ([0#64, 0#64]) 87), (rX f0 E64 ([(δ).1, (δ).2]) 83), (rC e0 x1 92), (rX p0 E64 ([b.1, b.2]) 87), (rX o0 E64 ([a.1, a.2]) 87), (rC n0 x2 36)]) (fun (k, kl, cl, sl) => opG o - k) ((0, none, 0, ([]))) ?_ ?_ ?_
 ·exact kp
 ·exact ⟨⟨Nat.zero_le _, Sl.none⟩, (C0.pk 13 [1, 0, 2, 3, 4, 5, 6, 7, 8, 9, 10, 11, 12])⟩
 rintro ⟨k, kl, cl, sl⟩ ρ w1 ⟨⟨hk, hSl⟩, HL⟩
 refine go 1 ?_
 refine condProp (((k : Nat) : Int) < (opG o : Nat)) rfl (fun y1 => ?_) (fun y1 => ?_)
 ·refine go 1 ?_
  refine sq (r_idxS (E := ELb) (l := (([a, b] : List LbT).drop 0).take (opG o)) (j := k) sli182 (Rd.sub (HL.rd (k := 1) rfl B0) 0 (opG o) (m := 2) (fun e => by first | exact absurd e om | (rw [show opG o = 0 by omega]; rfl))) rfl rfl vo (by first | rfl | omega | (simp; omega) | (simp at *; omega)) (by rw [List.length_take, List.length_drop]; show k < min (opG o) (2 - 0); omega)) (sq (((r_ldS (E := ELb) (l := (([a, b] : List LbT).drop 0).take (opG o)) (j := k) (v := ((([a, b] : List LbT).drop 0).take (opG o)).getD k lb0) fits87 (Rd.sub (HL.rd (k := 1) rfl B0) 0 (opG o) (m := 2) (fun e => by first | exact absurd e om | (rw [show opG o = 0 by omega]; rfl))) rfl rfl (at_getD (by rw [List.length_take, List.length_drop]; show k < min (opG o) (2 - 0); omega))).as (v' := .agg (cel E64 [(((([a, b] : List LbT).drop 0).take (opG o)).getD k lb0).1, (((([a, b] : List LbT).drop 0).take (opG o)).getD k lb0).2]).toArray) rfl).as (v' := .agg (cel E64 [((if k = 0 then a else b)).1, ((if k = 0 then a else b)).2]).toArray) (by rw [ab_at a b k (opG o) om om])) ?_)
  refine go 1 ?_
  intro D0 j3 k3 l3 m3
  refine go 2 ?_
  intro n3 z1 o3
  refine go 1 ?_
  refine loopAny (σ := Nat × Option Nat × Nat × LV) (fun (i, km, cm, sm) => [(10, pT e0), (11, pT f0), (12, pT h0), (13, pT j0), (15, .slice d0.zs.a d0.zs.n d0.zs.c), (16, u64 (fsS q)), (17, sO y0 tb.length J0), (18, sO z0 ot.length K0), (20, sO km (128 * k + i) cm), (21, iN k), (22, pT D0), (62, .slice (if 2 = 0 then ownA (some b0) else adr (ownA (some b0)) (0 * 2)) (opG o) (2 - 0)), (63, iN (opG o)), (64, iN k), (69, iN i)]) (fun (i, km, cm, sm) w' => (i ≤ 64 ∧ Sl ELb km (alL δ zs os0 os1 a b k ++ myL δ zs k (if k = 0 then a else b).1 i) cm sm) ∧ Hp No w w' [(km, sob ELb 83 (alL δ zs os0 os1 a b k ++ myL δ zs k (if k = 0 then a else b).1 i) sm), (rX D0 E64 ([((if k = 0 then a else b)).1, ((if k = 0 then a else b)).2]) 87), x3, x5, x7, (rC j0 #[iN (128 * opG o), sO c0 ((makeG o).1.length) i0, .slice x4 64 64] 104), x6, (rX l0 EI ((makeG o).2) 145), (rX h0 E64 ([0#64, 0#64]) 87), (rX f0 E64 ([(δ).1, (δ).2]) 83), (rC e0 x1 92), (rX p0 E64 ([b.1, b.2]) 87), (rX o0 E64 ([a.1, a.2]) 87), (rC n0 x2 36)]) (fun (i, km, cm, sm) => 64 - i) ((0, kl, cl, sl)) ?_ ?_ ?_
  ·exact kp
  ·exact ⟨⟨Nat.zero_le _, by rw [myL, List.append_nil]; exact hSl⟩, by rw [myL, List.append_nil]; exact (z1.pk 14 [1, 0, 2, 3, 4, 5, 6, 7, 8, 9, 10, 11, 12, 13])⟩
  rintro ⟨i, km, cm, sm⟩ ρ A1 ⟨⟨hi, hSm⟩, HM⟩
  refine go 1 ?_
  refine condProp (((i : Nat) : Int) < (64 : Int)) rfl (fun B1 => ?_) (fun B1 => ?_)
  ·refine go 2 ?_
   let q0 : List RW := [(rX D0 E64 ([((if k = 0 then a else b)).1, ((if k = 0 then a else b)).2]) 87), x3, x5, x7, (rC j0 #[iN (128 * opG o), sO c0 ((makeG o).1.length) i0, .slice x4 64 64] 104), x6, (rX l0 EI ((makeG o).2) 145), (rX h0 E64 ([0#64, 0#64]) 87), (rX f0 E64 ([(δ).1, (δ).2]) 83), (rC e0 x1 92), (rX p0 E64 ([b.1, b.2]) 87), (rX o0 E64 ([a.1, a.2]) 87), (rC n0 x2 36)]
   let M0 := fun (a0 : Nat) => (((some a0), sob ELb 83 ([lx (zs.getD (128 * k + i) lb0) (lw (decide ((((((if k = 0 then a else b)).1) >>> (i : Nat)) &&& (1#64)) = (1#64))) δ)] : List LbT) ([])) : RW)
   let Q0 := ((km, sob ELb 83 (alL δ zs os0 os1 a b k ++ myL δ zs k (if k = 0 then a else b).1 i) sm) : RW)
   let N0 := fun (a0 : Nat) => (Sl ELb (some a0) ([lx (zs.getD (128 * k + i) lb0) (lw (decide ((((((if k = 0 then a else b)).1) >>> (i : Nat)) &&& (1#64)) = (1#64))) δ)] : List LbT) 1 ([]) : Prop)
   let C1 : Tab := [zt2 false false fun _ _ w' => Hp No w w' (Q0 :: q0), zt2 true false fun v16 _ w' => ∃ a0, v16 = sO (some a0) 1 1 ∧ (N0 a0) ∧ Hp No w w' ((M0 a0) :: Q0 :: q0), zt2 true true fun v16 v17 w' => ∃ a0 r0 E0 F0, v16 = sO (some a0) 1 1 ∧ v17 = sO r0 ((128 * k + i) + 1) E0 ∧ (N0 a0) ∧ Sl ELb r0 (alL δ zs os0 os1 a b k ++ myL δ zs k (if k = 0 then a else b).1 (i + 1)) E0 F0 ∧ Hp No w w' ((M0 a0) :: (r0, sob ELb 83 (alL δ zs os0 os1 a b k ++ myL δ zs k (if k = 0 then a else b).1 (i + 1)) F0) :: q0)]
   refine drawH (m := 19) [0, 0, 0, 4, 0, 28, 62, 126, 0, 0, 512, 0, 3584, 7680, 15872, 32766, 65534, 131071, 262143] [16, 17] q0 C1 mixed (fun _ e => HM.ext e) (A_ (fun _ _ h => h.drop1) (A_ (fun _ _ ⟨_, _, _, h⟩ => h.drop1.drop1) (A_ (fun _ _ ⟨_, _, _, _, _, _, _, _, h⟩ => h.drop1.drop1) trivial))) (fun R0 => ?_)
   refine gk 15 ?_
   refine lkW (.agg (cel E64 [(lx (zs.getD (128 * k + i) lb0) (lw (decide ((((((if k = 0 then a else b)).1) >>> (i : Nat)) &&& (1#64)) = (1#64))) δ)).1, (lx (zs.getD (128 * k + i) lb0) (lw (decide ((((((if k = 0 then a else b)).1) >>> (i : Nat)) &&& (1#64)) = (1#64))) δ)).2]).toArray) (fun _ uw hcx => Gives.call rfl (Enters.callL call70 rfl) (Gb.label_ok (zs.getD (128 * k + i) lb0) δ (decide ((((((if k = 0 then a else b)).1) >>> (i : Nat)) &&& (1#64)) = (1#64))) uw)) (WalkT.eff R0 0 ?_ ?_)
   ·refine A_ (fun r w0 uw hF hE => ?_) trivial
    have p3 := hF.ext hE
    exact gW fun Q' hK => (bS (E := ELb) (l := ([lx (zs.getD (128 * k + i) lb0) (lw (decide ((((((if k = 0 then a else b)).1) >>> (i : Nat)) &&& (1#64)) = (1#64))) δ)] : List LbT)) fun D1 q3 E1 F1 r3 => hK _ _ (E_ D1 (A_ rfl (A_ E1 F1))))
   refine WalkT.eff R0 1 ?_ ?_
   ·refine A_ (fun r w0 uw hF hE => ?_) trivial
    obtain ⟨a0, G0, O0, S0⟩ := hF
    replace S0 := S0.ext hE
    dsimp only
    rw [G0]
    refine gW fun Q' hK => ?_
    refine apq ?_
    refine ⟨by rw [List.length_append, alL_len, myL_len], by rfl, om, ?_⟩
    intro G1 H1 I1 s3 J1 t3 K1
    have L1 : (alL δ zs os0 os1 a b k ++ myL δ zs k (if k = 0 then a else b).1 i) ++ ([lx (zs.getD (128 * k + i) lb0) (lw (decide ((((((if k = 0 then a else b)).1) >>> (i : Nat)) &&& (1#64)) = (1#64))) δ)] : List LbT) = alL δ zs os0 os1 a b k ++ myL δ zs k (if k = 0 then a else b).1 (i + 1) := by rw [myL, List.append_assoc]
    have T0 := J1
    have U0 := K1
    rw [L1] at T0 U0
    exact hK _ _ (E_ a0 (E_ G1 (E_ H1 (E_ I1 (A_ G0 (A_ rfl (A_ O0 (A_ T0 U0))))))))
   refine WalkT.hand (fun r => r 17) (fun r r' h => h 17 (by decide) rfl) (fun _ _ => r_assign rfl) (WalkT.nil fun r w0 u3 hF hE => ?_)
   obtain ⟨a0, r0, E0, F0, G0, M1, O0, N1, H0⟩ := hF
   replace H0 := H0.ext hE
   dsimp only
   rw [G0, M1]
   dsimp only [N0] at O0
   dsimp only [q0, M0] at H0
   refine go 2 ?_
   exact ⟨(i + 1, r0, E0, F0), _, rfl, kp, ⟨⟨om, N1⟩, (H0.dropk 0)⟩, vd⟩
  ·obtain rfl : i = 64 := by omega
   refine go 0 ?_
   refine drawAny (K := [none, none, none, none, none, none, none, none, none, none, none, none, none, none, none, none, none, none, none, none]) [0, 1, 3, 0, 8, 0, 32, 96, 255, 0, 512, 1536, 0, 4096, 0, 16384, 49152, 130560, 511, 524287] (fun w' => Ext A1 w') (fun w' w'' => Ext w' w'') mixed (by kernel_rfl) (Ext.drew _) (fun _ _ h h' => h.trans h') ?_ ?_
   ·exact relNone (by decide)
   refine gk 8 ?_
   refine ⟨.slice (if d1.os.c = 64 * k then d1.os.a else adr d1.os.a ((64 * k) * 5)) 64 (d1.os.c - (64 * k)), fun _ w3 y3 _ => Gives.run rfl ((r_sliceS (l := 64 * k) (h := 64 * k + 64) sli40 rfl (.inl ⟨_, _, _, rfl, rfl, by first | rfl | omega | (simp; omega)⟩) (.inl ⟨_, _, _, rfl, rfl, by first | rfl | omega | (simp; omega)⟩) om om).as (v' := .slice (if d1.os.c = 64 * k then d1.os.a else adr d1.os.a ((64 * k) * 5)) 64 (d1.os.c - (64 * k))) (by rw [show (64 * k + 64) - (64 * k) = 64 by omega])) ⟨rfl, Chg.refl _ _⟩, ?_⟩
   refine gk 8 ?_
   refine ⟨.slice (if d0.os.c = 64 * k then d0.os.a else adr d0.os.a ((64 * k) * 5)) 64 (d0.os.c - (64 * k)), fun _ z3 A3 _ => Gives.run rfl ((r_sliceS (l := 64 * k) (h := 64 * k + 64) sli40 rfl (.inl ⟨_, _, _, rfl, rfl, by first | rfl | omega | (simp; omega)⟩) (.inl ⟨_, _, _, rfl, rfl, by first | rfl | omega | (simp; omega)⟩) om om).as (v' := .slice (if d0.os.c = 64 * k then d0.os.a else adr d0.os.a ((64 * k) * 5)) 64 (d0.os.c - (64 * k))) (by rw [show (64 * k + 64) - (64 * k) = 64 by omega])) ⟨rfl, Chg.refl _ _⟩, ?_⟩
   refine gk 2 ?_
   intro r230 O1 P1 hF
   have V0 := HM.ext P1
   have hml : ((os1.drop (64 * k)).take 64).length = 64 := by rw [List.length_take, List.length_drop]; omega
   have htl : ((os0.drop (64 * k)).take 64).length = 64 := by rw [List.length_take, List.length_drop]; omega
   have hzl2 : ((zs.drop (128 * k + 64)).take 64).length = 64 := by rw [List.length_take, List.length_drop]; omega
   refine go 3 ?_
   refine Vc.cl (Gb.ask_ok ((os1.drop (64 * k)).take (64)) (if d1.os.c = 64 * k then d1.os.a else adr d1.os.a ((64 * k) * 5)) 64 (d1.os.c - (64 * k)) (by first | rfl | omega | (simp; omega) | (simp at *; omega)) hml (((if k = 0 then a else b)).2) O1 (Rd.sub (hO1.ext V0.chg) (64 * k) (64) (m := d1.os.c) (fun e => by first | exact absurd e om | (rw [show 64 = 0 by omega]; rfl)))) ?_
   rintro _ B3 ⟨rfl, Q1⟩
   have R1 := V0.ext Q1
   refine go 5 ?_
   let I0 : List RW := [(km, sob ELb 83 (alL δ zs os0 os1 a b k ++ myL δ zs k (if k = 0 then a else b).1 64) sm), (rX D0 E64 ([((if k = 0 then a else b)).1, ((if k = 0 then a else b)).2]) 87), x3, x5, x7, (rC j0 #[iN (128 * opG o), sO c0 ((makeG o).1.length) i0, .slice x4 64 64] 104), x6, (rX l0 EI ((makeG o).2) 145), (rX h0 E64 ([0#64, 0#64]) 87), (rX f0 E64 ([(δ).1, (δ).2]) 83), (rC e0 x1 92), (rX p0 E64 ([b.1, b.2]) 87), (rX o0 E64 ([a.1, a.2]) 87), (rC n0 x2 36)]
   let S1 : Tab := [zt1 false fun _ w' => Hp No w w' I0, zt1 true fun v11 w' => ∃ k0 m0 s0, v11 = .tuple #[sO k0 128 m0, .nilIface] ∧ Sl ELb k0 (repS ((os0.drop (64 * k)).take (64)) (askS ((os1.drop (64 * k)).take (64)) (((if k = 0 then a else b)).2) 64) ((zs.drop (128 * k + 64)).take (64)) δ 64) m0 s0 ∧ Hp No w w' ((k0, sob ELb 83 (repS ((os0.drop (64 * k)).take (64)) (askS ((os1.drop (64 * k)).take (64)) (((if k = 0 then a else b)).2) 64) ((zs.drop (128 * k + 64)).take (64)) δ 64) s0) :: I0)]
   refine drawH (m := 17) [0, 0, 0, 0, 8, 24, 0, 64, 192, 508, 0, 2047, 4095, 8191, 8191, 16383, 65535] [11] I0 S1 mixed (fun _ e => R1.ext e) (A_ (fun _ _ h => h) (A_ (fun _ _ ⟨_, _, _, _, _, h⟩ => h.drop1) trivial)) (fun T1 => ?_)
   refine gk 9 ?_
   refine lkH (.slice (if d0.zs.c = 128 * k + 64 then d0.zs.a else adr d0.zs.a ((128 * k + 64) * 2)) 64 (d0.zs.c - (128 * k + 64))) (fun _ uw hcx => (r_sliceS (l := 128 * k + 64) (h := 128 * k + 128) sli89 rfl (.inl ⟨_, _, _, rfl, rfl, by first | rfl | omega | (simp; omega)⟩) (.inl ⟨_, _, _, rfl, rfl, by first | rfl | omega | (simp; omega)⟩) om om).as (v' := .slice (if d0.zs.c = 128 * k + 64 then d0.zs.a else adr d0.zs.a ((128 * k + 64) * 2)) 64 (d0.zs.c - (128 * k + 64))) (by rw [show (128 * k + 128) - (128 * k + 64) = 64 by omega])) ?_
   refine gk 1 ?_
   refine WalkT.eff T1 0 ?_ ?_
   ·refine A_ (fun r w0 uw hF hE => ?_) trivial
    have P0 := hF.ext hE
    refine gW fun Q' hK => (Vc.cl (Gb.reply_ok ((os0.drop (64 * k)).take (64)) (if d0.os.c = 64 * k then d0.os.a else adr d0.os.a ((64 * k) * 5)) 64 (d0.os.c - (64 * k)) (by first | rfl | omega | (simp; omega) | (simp at *; omega)) htl (askS ((os1.drop (64 * k)).take (64)) (((if k = 0 then a else b)).2) 64) ((zs.drop (128 * k + 64)).take (64)) (if d0.zs.c = 128 * k + 64 then d0.zs.a else adr d0.zs.a ((128 * k + 64) * 2)) 64 (d0.zs.c - (128 * k + 64)) (by first | rfl | omega | (simp; omega) | (simp at *; omega)) hzl2 δ uw (Rd.sub (hO0.ext P0.chg) (64 * k) (64) (m := d0.os.c) (fun e => by first | exact absurd e om | (rw [show 64 = 0 by omega]; rfl))) (Rd.sub (hZ.ext P0.chg) (128 * k + 64) (64) (m := d0.zs.c) (fun e => by first | exact absurd e om | (rw [show 64 = 0 by omega]; rfl)))) ?_)
    rintro _ C3 ⟨U1, V1, W1, rfl, X1, Y1⟩
    have Z1 := (P0.join Y1).a15 rfl
    exact hK _ _ (E_ U1 (E_ V1 (E_ W1 (A_ rfl (A_ X1 Z1)))))
   refine WalkT.hand (fun r => r 11) (fun r r' h => h 11 (by decide) rfl) (fun _ _ => r_move rfl) (WalkT.lookS (fun r => proj (r 11) 0) (fun r r' h => by rw [h 11 (by decide) rfl]) ?_ ?_)
   ·refine A_ (fun r w0 uw hF hE => ?_) trivial
    obtain ⟨k0, m0, s0, u0, W0, HH⟩ := hF
    replace HH := HH.ext hE
    dsimp only
    rw [u0]
    exact vGr
   refine WalkT.lookS (fun r => proj (r 11) 1) (fun r r' h => by rw [h 11 (by decide) rfl]) ?_ ?_
   ·refine A_ (fun r w0 uw hF hE => ?_) trivial
    obtain ⟨k0, m0, s0, u0, W0, HH⟩ := hF
    replace HH := HH.ext hE
    dsimp only
    rw [u0]
    exact vGr
   refine WalkT.hand (fun r => proj (r 11) 0) (fun r r' h => by rw [h 11 (by decide) rfl]) (fun _ _ => r_assign rfl) (WalkT.hand (fun r => proj (r 11) 1) (fun r r' h => by rw [h 11 (by decide) rfl]) (fun _ _ => r_assign rfl) (WalkT.nil fun r w0 c2 hF hE => ?_))
   obtain ⟨k0, m0, s0, u0, W0, x0⟩ := hF
   replace x0 := x0.ext hE
   dsimp only
   rw [u0]
   dsimp only [I0] at x0
   refine go 4 ?_
   refine Vc.cl (Gb.pick_ok ((os1.drop (64 * k)).take (64)) (if d1.os.c = 64 * k then d1.os.a else adr d1.os.a ((64 * k) * 5)) 64 (d1.os.c - (64 * k)) (by first | rfl | omega | (simp; omega) | (simp at *; omega)) hml (((if k = 0 then a else b)).2) (repS ((os0.drop (64 * k)).take (64)) (askS ((os1.drop (64 * k)).take (64)) (((if k = 0 then a else b)).2) 64) ((zs.drop (128 * k + 64)).take (64)) δ 64) (ownA k0) 128 m0 (by rw [Gb.repS_len]) (Gb.repS_len _ _ _ _ _) c2 (Rd.sub (hO1.ext x0.chg) (64 * k) (64) (m := d1.os.c) (fun e => by first | exact absurd e om | (rw [show 64 = 0 by omega]; rfl))) vRd) ?_
   rintro _ D3 ⟨E3, F3, G3, rfl, H3, d2⟩
   have I3 := (x0.join d2).a16 rfl
   refine go 7 ?_
   refine apq ?_
   refine ⟨by rw [List.length_append, alL_len, myL_len], by rw [Gb.pickS_len], om, ?_⟩
   intro f2 g2 h2 J3 i2 K3 j2
   have k2 : (alL δ zs os0 os1 a b k ++ myL δ zs k (if k = 0 then a else b).1 64) ++ (pickS ((os1.drop (64 * k)).take (64)) (((if k = 0 then a else b)).2) (repS ((os0.drop (64 * k)).take (64)) (askS ((os1.drop (64 * k)).take (64)) (((if k = 0 then a else b)).2) 64) ((zs.drop (128 * k + 64)).take (64)) δ 64) 64) = alL δ zs os0 os1 a b (k + 1) := by rw [alL, List.append_assoc]; rfl
   have X0 := i2
   have Y0 := j2
   rw [k2] at X0 Y0
   refine go 3 ?_
   exact ⟨(k + 1, f2, g2, h2), _, rfl, kp, ⟨⟨om, X0⟩, (((Y0.dropk 3).dropk 1).dropk 0)⟩, vd⟩
 ·obtain rfl : k = opG o := by omega
  have hln : ((alL δ zs os0 os1 a b (opG o)).length : Int) = ((128 * opG o : Nat) : Int) := by rw [alL_len]
  have htbl : tb.length = 2 * andsS (makeG o).1 (makeG o).1.length := by rw [htb]; exact Gb.gS_ands (fun i hi => by have := hA.is.gok i hi; unfold gokP at this; omega) _ (Nat.le_refl _)
  have hot1 : ot.length = (makeG o).2.length := by rw [hot, Gb.oL_len]
  refine go 4 ?_
  refine Vc.cl (eval_okM ((128 * opG o) : Nat) ((makeG o).1) ((makeG o).2) (ownA c0) x4 i0 64 ((makeG o).1.length) 64 (by rfl) (by exact (makeG_outs _).symm) (alL δ zs os0 os1 a b (opG o)) tb (ownA kl) (ownA y0) cl J0 (fsS q) (128 * (opG o)) tb.length (by exact (alL_len _ _ _ _ _ _ _).symm) (by first | rfl | omega | (simp; omega) | (simp at *; omega)) w1 vGl vRd (Rd.row vGa) om om vRd vRd hA.is hln htbl) ?_
  rintro _ l2 ⟨m2, n2, L3, rfl, o2, Z0⟩
  obtain ⟨el, hel⟩ : ∃ x, x = oL (eS Gb.lhash (fsS q) (makeG o).1 tb (alL δ zs os0 os1 a b (opG o)) (makeG o).1.length).1 (makeG o).2 (makeG o).2.length := ⟨_, rfl⟩
  rw [← hel] at o2 Z0
  have p2 := (HL.join Z0).a14 rfl
  have hell : el.length = (makeG o).2.length := by rw [hel, Gb.oL_len]
  refine go 6 ?_
  refine Vc.cl (Gb.colours_ok ot (ownA z0) ot.length K0 (by first | rfl | omega | (simp; omega) | (simp at *; omega)) om l2 vRd) ?_
  rintro _ q2 ⟨rfl, r2⟩
  have s2 := p2.ext r2
  refine go 1 ?_
  refine Vc.cl (Gb.colours_ok el (ownA m2) ((makeG o).2.length) n2 (by exact hell.symm) om q2 vRd) ?_
  rintro _ M3 ⟨rfl, t2⟩
  have N3 := s2.ext t2
  refine go 2 ?_
  intro O3 u2 P3
  refine go 0 ?_
  have hr : garS Gb.lhash o q a b δ zs os0 os1 = (colS ot (min ot.length 64), colS el (min el.length 64)) := by
   rw [garS, hell, hA.outs, Nat.min_self, show ot.length = 64 by rw [hot, Gb.oL_len, hA.outs], Nat.min_self, hot, hel, htb, hA.outs]
  exact ⟨_, rfl, by rw [hr] <;> rfl, u2.chg⟩
end Go.Proofs.YtohngnahcgbfmaaGreatDoor.Ms
namespace Go.Proofs.YtohngnahcgbfmaaGreatDoor.Ms
open Go Vc Er Ek Circ Mi
open Co Cm
open Go.Proofs.YtohngnahcgbfmaaGreatDoor (Gb.lhash)
open Gb (lb0 lx lw gS eS oL colS askS repS pickS)
theorem arr24 : arr Tryz.prog 24 = some (2, 1) := by kernel_rfl
theorem call50 : callable Tryz.prog 50 = true := by kernel_rfl
theorem one23 : isOne Tryz.prog 23 = true := by kernel_rfl
theorem sli23 : sli Tryz.prog 23 = some (34, 1) := by kernel_rfl
theorem one_ok (o : Mo) (q : Int) (a b : W2) (in0 in1 : List (BitVec 64)) (na0 na1 : Option Addr) (nc0 nc1 : Nat) (d0 d1 : Dr) (δ : W2) (zs : List Mi.Lb) (os0 os1 : List Ot) (hkp : KdP o in0.length in1.length) (w : World) (hG : Gl w) (hN0 : Rd E64 w na0 in0) (hN1 : Rd E64 w na1 in1) (hgar : o.kd = 17 → GarP o d0 d1 zs os0 os1 δ) (hrds : o.kd = 17 → Rd ELb w d0.zs.a zs ∧ Rd EOt w d0.os.a os0 ∧ Rd EOt w d1.os.a os1) : Calls Tryz.prog 29 [.agg #[i64 (o.kd), i64 (o.a), i64 (o.b), i64 (o.k), u64 (o.c), i64 (o.pt)], i64 q, .agg (cel E64 [a.1, a.2]).toArray, .agg (cel E64 [b.1, b.2]).toArray, .agg #[.slice na0 in0.length nc0, .slice na1 in1.length nc1], .agg #[u64 (d0.w), u64 (d0.t.a), u64 (d0.t.b), u64 (d0.t.c), .slice d0.os.a d0.os.n d0.os.c, .slice d0.zs.a d0.zs.n d0.zs.c, u64 (d1.w), u64 (d1.t.a), u64 (d1.t.b), u64 (d1.t.c), .slice d1.os.a d1.os.n d1.os.c, .slice d1.zs.a d1.zs.n d1.zs.c], .agg (cel E64 [(δ).1, (δ).2]).toArray].toArray w (Ret fun v w' => v = .agg (cel E64 [(oneS Gb.lhash o q a b in0 in1 d0.w d1.w d0.t d1.t δ zs os0 os1).1, (oneS Gb.lhash o q a b in0 in1 d0.w d1.w d0.t d1.t δ zs os0 os1).2]).toArray ∧ Ext w w') := by
 let x6 : Array Value := #[u64 0#64, u64 0#64, u64 0#64]
 let x5 : Array Value := #[u64 (d1.t.a), u64 (d1.t.b), u64 (d1.t.c)]
 let x4 : Array Value := #[u64 (d0.t.a), u64 (d0.t.b), u64 (d0.t.c)]
 let x3 : Array Value := #[.slice na0 in0.length nc0, .slice na1 in1.length nc1]
 let x2 : Array Value := #[i64 (o.kd), i64 (o.a), i64 (o.b), i64 (o.k), u64 (o.c), i64 (o.pt)]
 let x1 : Array Value := #[u64 (d0.w), u64 (d0.t.a), u64 (d0.t.b), u64 (d0.t.c), .slice d0.os.a d0.os.n d0.os.c, .slice d0.zs.a d0.zs.n d0.zs.c, u64 (d1.w), u64 (d1.t.a), u64 (d1.t.b), u64 (d1.t.c), .slice d1.os.a d1.os.n d1.os.c, .slice d1.zs.a d1.zs.n d1.zs.c]
 have hk := hkp.k0
 have H := Hp.start No w
 refine enter (n := 211) Tryz.func29 rfl rfl (bLe rfl) ?_
 refine go 1 ?_
 intro z0 P1 Q1 R1 S1
 refine go 1 ?_
 intro A0 T1 U1 V1 W1
 refine go 1 ?_
 intro B0 X1 Y1 Z1 c2
 refine go 1 ?_
 intro h0 d2 e2 f2 g2
 refine go 1 ?_
 intro i0 h2 i2 j2 k2
 refine go 1 ?_
 intro C0 l2 m2 n2 o2
 refine go 1 ?_
 intro D0 p2 q2 N0 r2
 refine go 0 ?_
 let f0 : List RW := [(rX D0 E64 ([0#64, 0#64]) 87), (rX C0 E64 ([(δ).1, (δ).2]) 83), (rC i0 x1 92), (rC h0 x3 24), (rX B0 E64 ([b.1, b.2]) 87), (rX A0 E64 ([a.1, a.2]) 87), (rC z0 x2 36)]
 let F0 := fun (b0 : Nat) => ((rC b0 x6 66) : RW)
 let G0 := fun (a0 : Nat) => ((rC a0 x6 66) : RW)
 let E0 := fun (a0 : Nat) => ((rC a0 x4 66) : RW)
 let O0 : Tab := [zt4 false false false false fun _ _ _ _ w' => Hp No w w' f0, zt4 true false false false fun v6 _ _ _ w' => ∃ a0, v6 = pT a0 ∧ Hp No w w' ((G0 a0) :: f0), zt4 false true false false fun _ v7 _ _ w' => ∃ s0, v7 = pT s0 ∧ Hp No w w' ((rC s0 x6 66) :: f0), zt4 true true false false fun v6 v7 _ _ w' => ∃ a0 b0, v6 = pT a0 ∧ v7 = pT b0 ∧ Hp No w w' ((F0 b0) :: (G0 a0) :: f0), zt4 true true true false fun v6 v7 _ _ w' => ∃ a0 b0, v6 = pT a0 ∧ v7 = pT b0 ∧ Hp No w w' ((F0 b0) :: (E0 a0) :: f0), zt4 true true true true fun v6 v7 _ _ w' => ∃ a0 b0, v6 = pT a0 ∧ v7 = pT b0 ∧ Hp No w w' ((rC b0 x5 66) :: (E0 a0) :: f0)]
 refine drawH (m := 10) [0, 1, 3, 0, 8, 24, 0, 0, 199, 511] [6, 7, 8, 9] f0 O0 mixed (fun _ e => N0.ext e) (A_ (fun _ _ h => h) (A_ (fun _ _ ⟨_, _, h⟩ => h.drop1) (A_ (fun _ _ ⟨_, _, h⟩ => h.drop1) (A_ (fun _ _ ⟨_, _, _, _, h⟩ => h.drop1.drop1) (A_ (fun _ _ ⟨_, _, _, _, h⟩ => h.drop1.drop1) (A_ (fun _ _ ⟨_, _, _, _, h⟩ => h.drop1.drop1) trivial)))))) (fun u0 => ?_)
 refine gk 6 ?_
 refine WalkT.eff u0 0 ?_ ?_
 ·refine A_ (fun r w0 uw hF hE => ?_) (A_ (fun r w0 uw hF hE => ?_) trivial)
  ·have s2 := hF.ext hE
   refine gW fun Q' hK => ?_
   refine go 1 ?_
   intro P0 t2 u2 Q0 w2
   exact hK _ _ (E_ P0 (A_ rfl Q0))
  ·obtain ⟨s0, e7, H0⟩ := hF
   replace H0 := H0.ext hE
   refine gW fun Q' hK => ?_
   refine go 1 ?_
   intro R0 y2 z2 S0 A2
   exact hK _ _ (E_ R0 (E_ s0 (A_ rfl (A_ e7 ((S0.pk 2 [1, 0]))))))
 refine WalkT.eff u0 1 ?_ ?_
 ·refine A_ (fun r w0 uw hF hE => ?_) (A_ (fun r w0 uw hF hE => ?_) trivial)
  ·have B2 := hF.ext hE
   refine gW fun Q' hK => ?_
   refine go 1 ?_
   intro T0 C2 D2 U0 E2
   exact hK _ _ (E_ T0 (A_ rfl U0))
  ·obtain ⟨a0, e6, I0⟩ := hF
   replace I0 := I0.ext hE
   refine gW fun Q' hK => ?_
   refine go 1 ?_
   intro V0 F2 G2 W0 H2
   exact hK _ _ (E_ a0 (E_ V0 (A_ e6 (A_ rfl W0))))
 refine WalkT.eff u0 2 ?_ ?_
 ·refine A_ (fun r w0 uw hF hE => ?_) trivial
  obtain ⟨a0, b0, e6, e7, J0⟩ := hF
  replace J0 := J0.ext hE
  dsimp only
  rw [e6]
  refine gW0 fun Q' hK => ?_
  refine go 1 ?_
  intro I2 X0 J2
  exact hK _ (fun _ => (E_ a0 (E_ b0 (A_ e6 (A_ e7 X0)))))
 refine WalkT.eff u0 3 ?_ ?_
 ·refine A_ (fun r w0 uw hF hE => ?_) trivial
  obtain ⟨a0, b0, e6, e7, K0⟩ := hF
  replace K0 := K0.ext hE
  dsimp only
  rw [e7]
  refine gW0 fun Q' hK => ?_
  refine go 1 ?_
  intro K2 Y0 L2
  exact hK _ (fun _ => (E_ a0 (E_ b0 (A_ e6 (A_ e7 Y0)))))
 refine WalkT.nil fun r w0 x0 hF hE => ?_
 obtain ⟨a0, b0, e6, e7, e0⟩ := hF
 replace e0 := e0.ext hE
 dsimp only
 rw [e6, e7]
 dsimp only [f0, E0] at e0
 refine go 4 ?_
 refine condProp ((o.kd : Int) = (1 : Int)) rfl (fun k1 => ?_) (fun k1 => ?_)
 ·have M2 := hkp.k k1
  by_cases hp : o.pt = 0
  ·refine go 2 ?_
   refine sq (r_indexA (off' := 0) (j := 0) arr92 (b := i0) (off := 0) rfl rfl vo om om) (sq (r_fieldAddr (off' := 0) fld91_0 (by decide) (b := i0) (off := 0) rfl om) (sq (r_loadC (v := u64 (d0.w)) one34 (e0.get (k := 4) rfl) (off := 0) rfl (by rfl)) ?_))
   refine go 2 ?_
   intro j0 N2 O2 Z0 P2
   refine go 0 ?_
   let o0 : List RW := [(rC b0 x5 66), (rC a0 x4 66), (rX D0 E64 ([0#64, 0#64]) 87), (rX C0 E64 ([(δ).1, (δ).2]) 83), (rC i0 x1 92), (rC h0 x3 24), (rX B0 E64 ([b.1, b.2]) 87), (rX A0 E64 ([a.1, a.2]) 87), (rC z0 x2 36)]
   let e1 : Tab := [zt2 false false fun _ _ w' => Hp No w w' ((rX j0 E64 ([0#64, 0#64]) 87) :: o0), zt2 true false fun _ _ w' => Hp No w w' ((rX j0 E64 ([d0.w, 0#64]) 87) :: o0), zt2 true true fun _ _ w' => Hp No w w' ((rX j0 E64 ([d0.w, (in0.getD o.k.toNat 0#64) - d0.w]) 87) :: o0)]
   refine drawH (m := 20) [0, 1, 0, 4, 12, 0, 0, 64, 192, 448, 0, 1024, 4032, 8128, 0, 32704, 35, 65571, 262143, 524287] [17, 19] o0 e1 mixed (fun _ e => Z0.ext e) (A_ (fun _ _ h => h.drop1) (A_ (fun _ _ h => h.drop1) (A_ (fun _ _ h => h.drop1) trivial))) (fun L0 => ?_)
   refine gk 8 ?_
   refine lkH (pT h0) (fun _ uw hcx => r_indexA (off' := 0) (j := 0) arr24 (b := h0) (off := 0) rfl rfl vo om om) (lkH (.slice na0 in0.length nc0) (fun _ uw hcx => r_loadC (v := .slice na0 in0.length nc0) one23 (hcx.get (k := 5) rfl) (off := 0) rfl (by rfl)) ?_)
   refine gk 6 ?_
   refine lkH (pT j0) (fun _ uw hcx => r_indexA (off' := 0) (j := 0) arr87 (b := j0) (off := 0) rfl rfl vo om om) (WalkT.eff L0 0 ?_ ?_)
   ·refine A_ (fun r w0 uw hF hE => ?_) trivial
    have g1 := hF.ext hE
    refine gW0 fun Q' hK => (d_store (k := 0) (v := u64 (d0.w)) (cs' := (cel E64 ([d0.w, 0#64])).toArray) g1 rfl rfl rfl siz34 (by rfl) (by exact E64.one _) (by rw [List.size_toArray, cel_length]; show _ ≤ _ * 1; first | omega | (simp only [List.length_set]; omega) | exact bLe rfl | (simp <;> omega)) (by exact put1 (E := E64) rfl _ _ _) fun Q2 h1 R2 => ?_)
    have i1 := h1.a10 rfl
    exact hK _ (fun _ => i1)
   refine lkH (.pointer (some ⟨j0, 1, none⟩)) (fun _ uw hcx => r_indexA (off' := 1) (j := 1) arr87 (b := j0) (off := 0) rfl rfl vo om om) (WalkT.eff L0 1 ?_ ?_)
   ·refine A_ (fun r w0 uw hF hE => ?_) trivial
    have j1 := hF.ext hE
    refine gW0 fun Q' hK => (d_store (k := 0) (v := u64 ((in0.getD o.k.toNat 0#64) - d0.w)) (cs' := (cel E64 ([d0.w, (in0.getD o.k.toNat 0#64) - d0.w])).toArray) j1 rfl rfl rfl siz34 (by rfl) (by exact E64.one _) (by rw [List.size_toArray, cel_length]; show _ ≤ _ * 1; first | omega | (simp only [List.length_set]; omega) | exact bLe rfl | (simp <;> omega)) (by exact put1 (E := E64) rfl _ _ _) fun S2 m1 T2 => ?_)
    have o1 := m1.a10 rfl
    exact hK _ (fun _ => o1)
   refine WalkT.nil fun r w0 U2 hF hE => ?_
   have p1 := hF.ext hE
   dsimp only
   dsimp only [o0] at p1
   refine go 2 ?_
   intro V2 q1 X2
   refine go 0 ?_
   have hr : oneS Gb.lhash o q a b in0 in1 d0.w d1.w d0.t d1.t δ zs os0 os1 = (d0.w, (in0.getD o.k.toNat 0#64) - d0.w) := by rw [oneS, if_pos k1, if_pos hp] <;> rfl
   exact ⟨_, rfl, by rw [hr] <;> rfl, q1.chg⟩
  ·refine go 0 ?_
   have hp1 : o.pt = 1 := by omega
   refine go 2 ?_
   refine sq (r_indexA (off' := 6) (j := 1) arr92 (b := i0) (off := 0) rfl rfl vo om om) (sq (r_fieldAddr (off' := 6) fld91_0 (by decide) (b := i0) (off := 6) rfl om) (sq (r_loadC (v := u64 (d1.w)) one34 (e0.get (k := 4) rfl) (off := 6) rfl (by rfl)) ?_))
   refine go 2 ?_
   intro m0 Y2 Z2 r1 c3
   refine go 0 ?_
   let p0 : List RW := [(rC b0 x5 66), (rC a0 x4 66), (rX D0 E64 ([0#64, 0#64]) 87), (rX C0 E64 ([(δ).1, (δ).2]) 83), (rC i0 x1 92), (rC h0 x3 24), (rX B0 E64 ([b.1, b.2]) 87), (rX A0 E64 ([a.1, a.2]) 87), (rC z0 x2 36)]
   let s1 : Tab := [zt2 false false fun _ _ w' => Hp No w w' ((rX m0 E64 ([0#64, 0#64]) 87) :: p0), zt2 true false fun _ _ w' => Hp No w w' ((rX m0 E64 ([0#64, d1.w]) 87) :: p0), zt2 true true fun _ _ w' => Hp No w w' ((rX m0 E64 ([(in1.getD o.k.toNat 0#64) - d1.w, d1.w]) 87) :: p0)]
   refine drawH (m := 20) [0, 1, 0, 4, 12, 0, 0, 64, 192, 448, 0, 1024, 4032, 8128, 0, 32704, 35, 65571, 262143, 524287] [17, 19] p0 s1 mixed (fun _ e => r1.ext e) (A_ (fun _ _ h => h.drop1) (A_ (fun _ _ h => h.drop1) (A_ (fun _ _ h => h.drop1) trivial))) (fun M0 => ?_)
   refine gk 8 ?_
   refine lkH (.pointer (some ⟨h0, 1, none⟩)) (fun _ uw hcx => r_indexA (off' := 1) (j := 1) arr24 (b := h0) (off := 0) rfl rfl vo om om) (lkH (.slice na1 in1.length nc1) (fun _ uw hcx => r_loadC (v := .slice na1 in1.length nc1) one23 (hcx.get (k := 5) rfl) (off := 1) rfl (by rfl)) ?_)
   refine gk 6 ?_
   refine lkH (.pointer (some ⟨m0, 1, none⟩)) (fun _ uw hcx => r_indexA (off' := 1) (j := 1) arr87 (b := m0) (off := 0) rfl rfl vo om om) (WalkT.eff M0 0 ?_ ?_)
   ·refine A_ (fun r w0 uw hF hE => ?_) trivial
    have t1 := hF.ext hE
    refine gW0 fun Q' hK => (d_store (k := 0) (v := u64 (d1.w)) (cs' := (cel E64 ([0#64, d1.w])).toArray) t1 rfl rfl rfl siz34 (by rfl) (by exact E64.one _) (by rw [List.size_toArray, cel_length]; show _ ≤ _ * 1; first | omega | (simp only [List.length_set]; omega) | exact bLe rfl | (simp <;> omega)) (by exact put1 (E := E64) rfl _ _ _) fun d3 u1 e3 => ?_)
    have w1 := u1.a10 rfl
    exact hK _ (fun _ => w1)
   refine lkH (pT m0) (fun _ uw hcx => r_indexA (off' := 0) (j := 0) arr87 (b := m0) (off := 0) rfl rfl vo om om) (WalkT.eff M0 1 ?_ ?_)
   ·refine A_ (fun r w0 uw hF hE => ?_) trivial
    have y1 := hF.ext hE
    refine gW0 fun Q' hK => (d_store (k := 0) (v := u64 ((in1.getD o.k.toNat 0#64) - d1.w)) (cs' := (cel E64 ([(in1.getD o.k.toNat 0#64) - d1.w, d1.w])).toArray) y1 rfl rfl rfl siz34 (by rfl) (by exact E64.one _) (by rw [List.size_toArray, cel_length]; show _ ≤ _ * 1; first | omega | (simp only [List.length_set]; omega) | exact bLe rfl | (simp <;> omega)) (by exact put1 (E := E64) rfl _ _ _) fun f3 z1 g3 => ?_)
    have A1 := z1.a10 rfl
    exact hK _ (fun _ => A1)
   refine WalkT.nil fun r w0 h3 hF hE => ?_
   have B1 := hF.ext hE
   dsimp only
   dsimp only [p0] at B1
   refine go 2 ?_
   intro i3 C1 j3
   refine go 0 ?_
   have hr : oneS Gb.lhash o q a b in0 in1 d0.w d1.w d0.t d1.t δ zs os0 os1 = ((in1.getD o.k.toNat 0#64) - d1.w, d1.w) := by rw [oneS, if_pos k1, if_neg hp] <;> rfl
   exact ⟨_, rfl, by rw [hr] <;> rfl, C1.chg⟩
 ·refine go 2 ?_
  refine condProp ((o.kd : Int) = (6 : Int)) rfl (fun k6 => ?_) (fun k6 => ?_)
  ·refine go 0 ?_
   refine drawAny (K := [none, none, none, none, none, none, none, none, none, none, none, none, none, none, none, none, none, none, none, none, none, none, none, none]) [0, 1, 0, 4, 15, 0, 32, 127, 0, 256, 1023, 0, 2048, 0, 8192, 30720, 0, 65536, 260096, 0, 524288, 2095104, 2047, 8388607] (fun w' => Ext x0 w') (fun w' w'' => Ext w' w'') mixed (by kernel_rfl) (Ext.drew _) (fun _ _ h h' => h.trans h') ?_ ?_
   ·exact relNone (by decide)
   refine gk 24 ?_
   intro r274 k3 D1 hF
   have l3 := e0.ext D1
   refine go 30 ?_
   intro m3 E1 n3
   refine go 0 ?_
   have hr : oneS Gb.lhash o q a b in0 in1 d0.w d1.w d0.t d1.t δ zs os0 os1 = (((d0.t.c + (((((a.1) + (a.2)) - d0.t.a) - d1.t.a) * d0.t.b)) + (((((b.1) + (b.2)) - d0.t.b) - d1.t.b) * d0.t.a)) + (((((a.1) + (a.2)) - d0.t.a) - d1.t.a) * ((((b.1) + (b.2)) - d0.t.b) - d1.t.b)), (d1.t.c + (((((a.1) + (a.2)) - d0.t.a) - d1.t.a) * d1.t.b)) + (((((b.1) + (b.2)) - d0.t.b) - d1.t.b) * d1.t.a)) := by rw [oneS, if_neg k1, if_pos k6] <;> rfl
   exact ⟨_, rfl, by rw [hr] <;> rfl, E1.chg⟩
  ·refine go 2 ?_
   refine condProp ((o.kd : Int) = (9 : Int)) rfl (fun k9 => ?_) (fun k9 => ?_)
   ·refine go 0 ?_
    refine drawAny (K := [none, none, none, none, none, none, none, none, none, none, none, none, none, none, none, none, none, none, none, none, none, none, none, none]) [0, 1, 0, 4, 15, 0, 32, 127, 0, 256, 1023, 0, 2048, 0, 8192, 30720, 0, 65536, 260096, 0, 524288, 2095104, 2047, 8388607] (fun w' => Ext x0 w') (fun w' w'' => Ext w' w'') mixed (by kernel_rfl) (Ext.drew _) (fun _ _ h h' => h.trans h') ?_ ?_
    ·exact relNone (by decide)
    refine gk 24 ?_
    intro r329 o3 F1 hF
    have p3 := e0.ext F1
    refine go 30 ?_
    intro q3 G1 r3
    refine go 0 ?_
    have hr : oneS Gb.lhash o q a b in0 in1 d0.w d1.w d0.t d1.t δ zs os0 os1 = (((d0.t.c ^^^ (((((a.1) ^^^ (a.2)) ^^^ d0.t.a) ^^^ d1.t.a) &&& d0.t.b)) ^^^ (((((b.1) ^^^ (b.2)) ^^^ d0.t.b) ^^^ d1.t.b) &&& d0.t.a)) ^^^ (((((a.1) ^^^ (a.2)) ^^^ d0.t.a) ^^^ d1.t.a) &&& ((((b.1) ^^^ (b.2)) ^^^ d0.t.b) ^^^ d1.t.b)), (d1.t.c ^^^ (((((a.1) ^^^ (a.2)) ^^^ d0.t.a) ^^^ d1.t.a) &&& d1.t.b)) ^^^ (((((b.1) ^^^ (b.2)) ^^^ d0.t.b) ^^^ d1.t.b) &&& d1.t.a)) := by rw [oneS, if_neg k1, if_neg k6, if_pos k9] <;> rfl
    exact ⟨_, rfl, by rw [hr] <;> rfl, G1.chg⟩
   ·refine go 2 ?_
    refine condProp ((o.kd : Int) = (18 : Int)) rfl (fun q0 => ?_) (fun q0 => ?_)
    ·refine go 12 ?_
     intro s3 H1 t3
     refine go 0 ?_
     have hr : oneS Gb.lhash o q a b in0 in1 d0.w d1.w d0.t d1.t δ zs os0 os1 = ((a.1) + (a.2), (a.1) + (a.2)) := by rw [oneS, if_neg k1, if_neg k6, if_neg k9, if_pos q0] <;> rfl
     exact ⟨_, rfl, by rw [hr] <;> rfl, H1.chg⟩
    ·refine go 2 ?_
     refine condProp ((o.kd : Int) = (19 : Int)) rfl (fun y0 => ?_) (fun y0 => ?_)
     ·refine go 12 ?_
      intro u3 I1 w3
      refine go 0 ?_
      have hr : oneS Gb.lhash o q a b in0 in1 d0.w d1.w d0.t d1.t δ zs os0 os1 = ((a.1) ^^^ (a.2), (a.1) ^^^ (a.2)) := by rw [oneS, if_neg k1, if_neg k6, if_neg k9, if_neg q0, if_pos y0] <;> rfl
      exact ⟨_, rfl, by rw [hr] <;> rfl, I1.chg⟩
     ·refine go 2 ?_
      refine condProp ((o.kd : Int) = (17 : Int)) rfl (fun r0 => ?_) (fun r0 => ?_)
      ·have hgp := hgar r0
       have hrd := hrds r0
       refine go 6 ?_
       refine cl (garbled_ok o q a b d0 d1 zs os0 os1 δ hgp.cd hgp.ng hgp.zl hgp.l0 hgp.l1 hgp.z hgp.zc hgp.n0 hgp.c0 hgp.n1 hgp.c1 x0 vGl (hrd.1.ext e0.chg) (hrd.2.1.ext e0.chg) (hrd.2.2.ext e0.chg)) ?_
       rintro _ y3 ⟨rfl, J1⟩
       have z3 := e0.ext J1
       refine go 1 ?_
       intro A3 K1 B3
       refine go 0 ?_
       have hr : oneS Gb.lhash o q a b in0 in1 d0.w d1.w d0.t d1.t δ zs os0 os1 = (((garS Gb.lhash o q a b δ zs os0 os1)).1, ((garS Gb.lhash o q a b δ zs os0 os1)).2) := by rw [oneS, if_neg k1, if_neg k6, if_neg k9, if_neg q0, if_neg y0, if_pos r0] <;> rfl
       exact ⟨_, rfl, by rw [hr] <;> rfl, K1.chg⟩
      ·refine go 0 ?_
       refine drawAny (K := [none, none, none, none, none, none, none, none, none, none, none, none, none]) [0, 0, 2, 0, 8, 31, 0, 0, 128, 0, 512, 2047, 4095, 8191] (fun w' => Ext x0 w') (fun w' w'' => Ext w' w'') mixed (by kernel_rfl) (Ext.drew _) (fun _ _ h h' => h.trans h') ?_ ?_
       ·exact relNone (by decide)
       refine gk 5 ?_
       refine ⟨u64 (locS o (0 : Int) (a.1) (b.1)), fun _ L1 C3 _ => Gives.call rfl (Enters.callL (vs := [.agg x2, i64 0, u64 (a.1), u64 (b.1)]) call50 rfl) (local_ok o (0 : Int) (by decide) (a.1) (b.1) hk L1), ?_⟩
       refine gk 5 ?_
       refine ⟨u64 (locS o (1 : Int) (a.2) (b.2)), fun _ M1 D3 _ => Gives.call rfl (Enters.callL (vs := [.agg x2, i64 1, u64 (a.2), u64 (b.2)]) call50 rfl) (local_ok o (1 : Int) (by decide) (a.2) (b.2) hk M1), ?_⟩
       refine gk 1 ?_
       intro r374 E3 N1 hF
       have F3 := e0.ext N1
       refine go 1 ?_
       intro G3 O1 H3
       refine go 0 ?_
       have hr : oneS Gb.lhash o q a b in0 in1 d0.w d1.w d0.t d1.t δ zs os0 os1 = (locS o (0 : Int) (a.1) (b.1), locS o (1 : Int) (a.2) (b.2)) := by rw [oneS, if_neg k1, if_neg k6, if_neg k9, if_neg q0, if_neg y0, if_neg r0] <;> rfl
       exact ⟨_, rfl, by rw [hr] <;> rfl, O1.chg⟩
end Go.Proofs.YtohngnahcgbfmaaGreatDoor.Ms
namespace Go.Proofs.YtohngnahcgbfmaaGreatDoor.Ms
open Go Vc Er Ek Circ Mi
open Co Cm
open Go.Proofs.YtohngnahcgbfmaaGreatDoor (Gb.lhash)
open Gb (lb0 lx lw gS eS oL colS askS repS pickS)
theorem agg29 : isAgg' Tryz.prog 29 = true := by kernel_rfl
theorem arr29 : arr Tryz.prog 29 = some (2, 1) := by kernel_rfl
theorem byt34 : byt Tryz.prog 34 = some 8 := by kernel_rfl
theorem call28 : callable Tryz.prog 28 = true := by kernel_rfl
theorem call8 : callable Tryz.prog 8 = true := by kernel_rfl
theorem fits3 : Fits Tryz.prog 3 EI := fitsI (by kernel_rfl) (by kernel_rfl)
theorem fld36_1 : fld Tryz.prog 36 1 = some (1, 1, 3) := by kernel_rfl
theorem fld36_2 : fld Tryz.prog 36 2 = some (2, 1, 3) := by kernel_rfl
theorem siz29 : siz Tryz.prog 29 = some 2 := by kernel_rfl
theorem zer34 : zer Tryz.prog 34 = some (.int .u64 0) := by kernel_rfl
theorem sim_ok (ops : List Mo) (oa : Option Addr) (oc : Nat) (in0 in1 : List (BitVec 64)) (na0 na1 : Option Addr) (nc0 nc1 : Nat) (tb0 : Nat) (tk0 : Option Nat) (tc0 : Nat) (ts0 : LV) (ws0 : List (BitVec 64)) (hSw0 : Sl E64 tk0 ws0 tc0 ts0) (hwl0 : ws0.length ≤ 140737488355328) (tb1 : Nat) (tk1 : Option Nat) (tc1 : Nat) (ts1 : LV) (ws1 : List (BitVec 64)) (hSw1 : Sl E64 tk1 ws1 tc1 ts1) (hwl1 : ws1.length ≤ 140737488355328) (sb0 sb1 : Nat) (st0 st1 : Sk) (hst0 : st0.ok) (hst1 : st1.ok) (R : List RW) (w₀ w : World) (hG : Gl w₀) (hgd : Mi.Good ops ((in0.length : Nat) : Int) ((in1.length : Nat) : Int)) (hT0 : dlN 0 ops + cntS (fTm 0) ops ops.length ≤ ws0.length) (hA0 : cntS fA ops ops.length ≤ st0.t.l.length) (hB0 : cntS fB ops ops.length ≤ st0.b.l.length) (hC0 : cntS fO ops ops.length ≤ st0.o.l.length) (hT1 : dlN 1 ops + cntS (fTm 1) ops ops.length ≤ ws1.length) (hA1 : cntS fA ops ops.length ≤ st1.t.l.length) (hB1 : cntS fB ops ops.length ≤ st1.b.l.length) (hC1 : cntS fO ops ops.length ≤ st1.o.l.length) (hO : ∀ w', Ext w₀ w' → (∀ p ∈ R, ∀ b, p.1 = some b → w'.heap[b]? = some p.2) → Rd EMo w' oa ops) (hN0 : ∀ w', Ext w₀ w' → (∀ p ∈ R, ∀ b, p.1 = some b → w'.heap[b]? = some p.2) → Rd E64 w' na0 in0) (hN1 : ∀ w', Ext w₀ w' → (∀ p ∈ R, ∀ b, p.1 = some b → w'.heap[b]? = some p.2) → Rd E64 w' na1 in1) (H : Hp No w₀ w ((rC tb0 #[sO tk0 ws0.length tc0, .pointer none, iN ws0.length, iN 0] 96) :: (tk0, sob E64 34 ws0 ts0) :: (rC tb1 #[sO tk1 ws1.length tc1, .pointer none, iN ws1.length, iN 0] 96) :: (tk1, sob E64 34 ws1 ts1) :: (skR 66 121 114 sb0 st0 ++ (skR 66 121 114 sb1 st1 ++ R)))) : Calls Tryz.prog 10 [.slice oa ops.length oc, .agg (cel EI [((in0.length : Nat) : Int), ((in1.length : Nat) : Int)]).toArray, .agg #[.slice na0 in0.length nc0, .slice na1 in1.length nc1], .agg #[pT tb0, pT tb1], .agg #[pT sb0, pT sb1]].toArray w (Ret fun v w' => ∃ (k0 : Option Nat) (c0 : Nat) (z0 : LV) (k1 : Option Nat) (c1 : Nat) (z1 : LV) (u0 u1 : Sk), v = .tuple #[.agg #[sO k0 ops.length c0, sO k1 ops.length c1], .nilIface] ∧ Sl E64 k0 (simS Gb.lhash ops in0 in1 ws0 ws1 (dwS ops ((0 : Nat) : Int) (fTm 0) ws0 (dlN 0 ops)) (dwS ops ((1 : Nat) : Int) (fTm 1) ws1 (dlN 1 ops)) (dtS ops st0.t.l st0.b.l) (dtS ops st1.t.l st1.b.l) st0.o.l st1.o.l ops.length).1 c0 z0 ∧ Sl E64 k1 (simS Gb.lhash ops in0 in1 ws0 ws1 (dwS ops ((0 : Nat) : Int) (fTm 0) ws0 (dlN 0 ops)) (dwS ops ((1 : Nat) : Int) (fTm 1) ws1 (dlN 1 ops)) (dtS ops st0.t.l st0.b.l) (dtS ops st1.t.l st1.b.l) st0.o.l st1.o.l ops.length).2 c1 z1 ∧ u0.ok ∧ u0.t.l = st0.t.l.drop (cntS fA ops ops.length) ∧ u0.b.l = st0.b.l.drop (cntS fB ops ops.length) ∧ u0.o.l = st0.o.l.drop (cntS fO ops ops.length) ∧ u1.ok ∧ u1.t.l = st1.t.l.drop (cntS fA ops ops.length) ∧ u1.b.l = st1.b.l.drop (cntS fB ops ops.length) ∧ u1.o.l = st1.o.l.drop (cntS fO ops ops.length) ∧ Hp No w₀ w' ((k0, sob E64 34 (simS Gb.lhash ops in0 in1 ws0 ws1 (dwS ops ((0 : Nat) : Int) (fTm 0) ws0 (dlN 0 ops)) (dwS ops ((1 : Nat) : Int) (fTm 1) ws1 (dlN 1 ops)) (dtS ops st0.t.l st0.b.l) (dtS ops st1.t.l st1.b.l) st0.o.l st1.o.l ops.length).1 z0) :: (k1, sob E64 34 (simS Gb.lhash ops in0 in1 ws0 ws1 (dwS ops ((0 : Nat) : Int) (fTm 0) ws0 (dlN 0 ops)) (dwS ops ((1 : Nat) : Int) (fTm 1) ws1 (dlN 1 ops)) (dtS ops st0.t.l st0.b.l) (dtS ops st1.t.l st1.b.l) st0.o.l st1.o.l ops.length).2 z1) :: (rC tb0 #[sO tk0 ws0.length tc0, .pointer none, iN ws0.length, iN (dlN 0 ops + cntS (fTm 0) ops ops.length)] 96) :: (tk0, sob E64 34 ws0 ts0) :: (rC tb1 #[sO tk1 ws1.length tc1, .pointer none, iN ws1.length, iN (dlN 1 ops + cntS (fTm 1) ops ops.length)] 96) :: (tk1, sob E64 34 ws1 ts1) :: (skR 66 121 114 sb0 u0 ++ (skR 66 121 114 sb1 u1 ++ R)))) := by
 let A2 : Value := sO tk1 ws1.length tc1
 let B2 : Value := sO tk0 ws0.length tc0
 let G0 : Array Value := #[pT tb0, pT tb1]
 let H0 : Array Value := #[pT sb0, pT sb1]
 let S1 : Array Value := #[B2, .pointer none, iN ws0.length, iN 0]
 let C0 : RW := (tk1, sob E64 34 ws1 ts1)
 let x9 : RW := (tk0, sob E64 34 ws0 ts0)
 let x7 : Array Value := #[A2, .pointer none, iN ws1.length, iN (dlN 1 ops + cntS (fTm 1) ops ops.length)]
 let x5 : Array Value := #[A2, .pointer none, iN ws1.length, iN 0]
 let x3 : Array Value := #[.slice na0 in0.length nc0, .slice na1 in1.length nc1]
 let x1 : Array Value := #[B2, .pointer none, iN ws0.length, iN (dlN 0 ops + cntS (fTm 0) ops ops.length)]
 have hop := hgd.len
 refine enter (n := 149) Tryz.func10 rfl rfl (bLe rfl) ?_
 refine go 1 ?_
 intro y0 Q6 R6 S6 T6
 refine go 1 ?_
 intro h0 U6 V6 W6 X6
 refine go 1 ?_
 intro A0 Y6 Z6 c7 d7
 refine go 1 ?_
 intro B0 e7 f7 g7 h7
 refine go 1 ?_
 intro i0 T3 i7 C2 j7
 refine go 3 ?_
 refine cl (mcheck_yes ops oa oc ((in0.length : Nat) : Int) ((in1.length : Nat) : Int) ops.length (by rfl) T3 vGl (hO _ C2.chg (fun p hp => C2.has p (mT (mT (mT (mT (mT (mT (mT (mT (mT ((List.mem_append_right _ (List.mem_append_right _ hp)))))))))))))) om hgd) ?_
 rintro _ k7 ⟨rfl, U3⟩
 have V3 := C2.ext U3
 refine go 2 ?_
 refine sq ((r_neqNN isI31 rfl rfl).as (v' := .bool false) (by rfl)) ?_
 refine go 1 ?_
 refine loopAny (σ := Nat) (fun q => [(0, .slice oa ops.length oc), (6, pT y0), (7, pT h0), (8, pT A0), (9, pT B0), (10, pT i0), (11, .nilIface), (33, iN q)]) (fun q w' => q ≤ 2 ∧ Hp No w₀ w' ((rC i0 #[sN0, sN0] 24) :: (rC B0 H0 38) :: (rC A0 G0 50) :: (rC h0 x3 24) :: (rX y0 EI ([((in0.length : Nat) : Int), ((in1.length : Nat) : Int)]) 29) :: (rC tb0 S1 96) :: x9 :: (rC tb1 x5 96) :: C0 :: (skR 66 121 114 sb0 st0 ++ (skR 66 121 114 sb1 st1 ++ R)))) (fun q => 2 - q) (0) ?_ ?_ ?_
 ·exact kp
 ·exact ⟨Nat.zero_le _, V3⟩
 rintro q ρ d3 ⟨hq, HL⟩
 rcases (show q = 0 ∨ q = 1 ∨ q = 2 by omega) with rfl | rfl | rfl
 ·refine go 0 ?_
  refine sq ((r_lssI rfl rfl).as (v' := .bool true) (by rfl)) ?_
  refine go 2 ?_
  refine drawAny (K := [none, none, none, none, none, none, none, none]) [0, 1, 3, 7, 0, 16, 48, 127] (fun w' => Ext d3 w') (fun w' w'' => Ext w' w'') mixed (by kernel_rfl) (Ext.drew _) (fun _ _ h h' => h.trans h') ?_ ?_
  ·exact relNone (by decide)
  refine gk 7 ?_
  refine ⟨.bool false, fun _ l7 m7 _ => Gives.run rfl ((r_neqI rfl rfl).as (v' := .bool false) (by exact congrArg Value.bool (decide_eq_false om))) ⟨rfl, Chg.refl _ _⟩, ?_⟩
  intro r245 n7 W3 hF
  have X3 := HL.ext W3
  refine go 2 ?_
  exact ⟨0 + 1, _, rfl, kp, ⟨om, X3⟩, vd⟩
 ·refine go 0 ?_
  refine sq ((r_lssI rfl rfl).as (v' := .bool true) (by rfl)) ?_
  refine go 2 ?_
  refine drawAny (K := [none, none, none, none, none, none, none, none]) [0, 1, 3, 7, 0, 16, 48, 127] (fun w' => Ext d3 w') (fun w' w'' => Ext w' w'') mixed (by kernel_rfl) (Ext.drew _) (fun _ _ h h' => h.trans h') ?_ ?_
  ·exact relNone (by decide)
  refine gk 7 ?_
  refine ⟨.bool false, fun _ o7 p7 _ => Gives.run rfl ((r_neqI rfl rfl).as (v' := .bool false) (by exact congrArg Value.bool (decide_eq_false om))) ⟨rfl, Chg.refl _ _⟩, ?_⟩
  intro r265 q7 Y3 hF
  have Z3 := HL.ext Y3
  refine go 2 ?_
  exact ⟨1 + 1, _, rfl, kp, ⟨om, Z3⟩, vd⟩
 ·refine go 0 ?_
  refine sq ((r_lssI rfl rfl).as (v' := .bool false) (by rfl)) ?_
  refine go 1 ?_
  intro j0 r7 s7 t7 u7
  refine go 1 ?_
  intro l0 w7 y7 c4 z7
  refine go 1 ?_
  refine loopAny (σ := Nat × List RW) (fun (q, LL) => [(0, .slice oa ops.length oc), (6, pT y0), (7, pT h0), (8, pT A0), (9, pT B0), (10, pT i0), (11, .nilIface), (14, pT j0), (15, pT l0), (49, iN q)]) (fun (q, LL) w' => (q ≤ 2 ∧ ((q = 0 ∧ LL = ((rX l0 E64 ([0#64, 0#64]) 83) :: (rC j0 #[sN0, sN0] 81) :: (rC i0 #[sN0, sN0] 24) :: (rC B0 H0 38) :: (rC A0 G0 50) :: (rC h0 x3 24) :: (rX y0 EI ([((in0.length : Nat) : Int), ((in1.length : Nat) : Int)]) 29) :: (rC tb0 S1 96) :: x9 :: (rC tb1 x5 96) :: C0 :: (skR 66 121 114 sb0 st0 ++ (skR 66 121 114 sb1 st1 ++ R)))) ∨ (q = 1 ∧ ∃ (e0 : Option Nat) (R0 : Nat) (I0 : LV) (a0 : List Dr) (d0 : Sk) (F0 : List RW), (Sl EDr e0 a0 R0 I0) ∧ (DrN (dwS ops ((0 : Nat) : Int) (fTm 0) ws0 (dlN 0 ops)) (dtS ops st0.t.l st0.b.l) ops.length a0 ops.length) ∧ (d0.ok) ∧ (d0.t.l = st0.t.l.drop (cntS fA ops ops.length)) ∧ (d0.b.l = st0.b.l.drop (cntS fB ops ops.length)) ∧ (d0.o.l = st0.o.l.drop (cntS fO ops ops.length)) ∧ (DrG 121 83 F0 0 ops st0.o.l ws0 (dlN 0 ops) a0 ops.length) ∧ LL = ((e0, sob EDr 91 a0 I0) :: (rX l0 E64 ([((0#64) ^^^ ((dlL 0 ops ws0).1)), ((0#64) ^^^ ((dlL 0 ops ws0).2))]) 83) :: (rC j0 #[sO e0 ops.length R0, sN0] 81) :: (rC i0 #[sN0, sN0] 24) :: (rC B0 H0 38) :: (rC A0 G0 50) :: (rC h0 x3 24) :: (rX y0 EI ([((in0.length : Nat) : Int), ((in1.length : Nat) : Int)]) 29) :: (rC tb0 x1 96) :: x9 :: (rC tb1 x5 96) :: C0 :: (skR 66 121 114 sb0 d0 ++ (skR 66 121 114 sb1 st1 ++ (F0 ++ R))))) ∨ (q = 2 ∧ ∃ (e0 : Option Nat) (R0 : Nat) (I0 : LV) (a0 : List Dr) (d0 : Sk) (F0 : List RW) (W0 : Option Nat) (T1 : Nat) (G1 : LV) (m0 : List Dr) (V0 : Sk) (F1 : List RW), (Sl EDr e0 a0 R0 I0) ∧ (DrN (dwS ops ((0 : Nat) : Int) (fTm 0) ws0 (dlN 0 ops)) (dtS ops st0.t.l st0.b.l) ops.length a0 ops.length) ∧ (d0.ok) ∧ (d0.t.l = st0.t.l.drop (cntS fA ops ops.length)) ∧ (d0.b.l = st0.b.l.drop (cntS fB ops ops.length)) ∧ (d0.o.l = st0.o.l.drop (cntS fO ops ops.length)) ∧ (DrG 121 83 F0 0 ops st0.o.l ws0 (dlN 0 ops) a0 ops.length) ∧ (Sl EDr W0 m0 T1 G1) ∧ (DrN (dwS ops ((1 : Nat) : Int) (fTm 1) ws1 (dlN 1 ops)) (dtS ops st1.t.l st1.b.l) ops.length m0 ops.length) ∧ (V0.ok) ∧ (V0.t.l = st1.t.l.drop (cntS fA ops ops.length)) ∧ (V0.b.l = st1.b.l.drop (cntS fB ops ops.length)) ∧ (V0.o.l = st1.o.l.drop (cntS fO ops ops.length)) ∧ (DrG 121 83 F1 1 ops st1.o.l ws1 (dlN 1 ops) m0 ops.length) ∧ LL = ((e0, sob EDr 91 a0 I0) :: (W0, sob EDr 91 m0 G1) :: (rX l0 E64 ([(dlS ops ws0 ws1).1, (dlS ops ws0 ws1).2]) 83) :: (rC j0 #[sO e0 ops.length R0, sO W0 ops.length T1] 81) :: (rC i0 #[sN0, sN0] 24) :: (rC B0 H0 38) :: (rC A0 G0 50) :: (rC h0 x3 24) :: (rX y0 EI ([((in0.length : Nat) : Int), ((in1.length : Nat) : Int)]) 29) :: (rC tb0 x1 96) :: x9 :: (rC tb1 x7 96) :: C0 :: (skR 66 121 114 sb0 d0 ++ (skR 66 121 114 sb1 V0 ++ (F1 ++ (F0 ++ R)))))))) ∧ Hp No w₀ w' LL) (fun (q, LL) => 2 - q) ((0, ((rX l0 E64 ([0#64, 0#64]) 83) :: (rC j0 #[sN0, sN0] 81) :: (rC i0 #[sN0, sN0] 24) :: (rC B0 H0 38) :: (rC A0 G0 50) :: (rC h0 x3 24) :: (rX y0 EI ([((in0.length : Nat) : Int), ((in1.length : Nat) : Int)]) 29) :: (rC tb0 S1 96) :: x9 :: (rC tb1 x5 96) :: C0 :: (skR 66 121 114 sb0 st0 ++ (skR 66 121 114 sb1 st1 ++ R))))) ?_ ?_ ?_
  ·exact kp
  ·exact ⟨⟨Nat.zero_le _, .inl ⟨rfl, rfl⟩⟩, c4⟩
  rintro ⟨q, LL⟩ ρ A7 ⟨⟨hq2, hstg⟩, HL⟩
  rcases hstg with ⟨rfl, rfl⟩ | ⟨rfl, e0, R0, I0, a0, d0, F0, e3, h2, D2, hst0, E2, F2, U1, rfl⟩ | ⟨rfl, e0, R0, I0, a0, d0, F0, W0, T1, G1, m0, V0, F1, e3, h2, D2, hst0, E2, F2, U1, B7, G2, d4, hst1, f4, g4, p2, rfl⟩
  ·refine go 0 ?_
   refine sq ((r_lssI rfl rfl).as (v' := .bool true) (by rfl)) ?_
   refine go 2 ?_
   have h4 := (HL.pk 11 [7, 0, 1, 2, 3, 4, 5, 6, 8, 9, 10])
   let M1 : List RW := [(rX l0 E64 ([0#64, 0#64]) 83), (rC j0 #[sN0, sN0] 81), (rC i0 #[sN0, sN0] 24), (rC B0 H0 38), (rC A0 G0 50), (rC h0 x3 24), (rX y0 EI ([((in0.length : Nat) : Int), ((in1.length : Nat) : Int)]) 29), x9, (rC tb1 x5 96), C0]
   let q2 := ((rC tb0 x1 96) : RW)
   let f3 := ((rC tb0 S1 96) : RW)
   let i4 : Tab := [zt3 false false false fun _ _ _ w' => Hp No w₀ w' (f3 :: (M1 ++ (skR 66 121 114 sb0 st0 ++ (skR 66 121 114 sb1 st1 ++ R)))), zt3 true false false fun v8 _ _ w' => ∃ D0 K0 L0 r0 n0 M0, v8 = .tuple #[sO D0 ops.length K0, .agg (cel E64 [(dlL 0 ops ws0).1, (dlL 0 ops ws0).2]).toArray, .nilIface] ∧ Sl EDr D0 r0 K0 L0 ∧ DrN (dwS ops ((0 : Nat) : Int) (fTm 0) ws0 (dlN 0 ops)) (dtS ops st0.t.l st0.b.l) ops.length r0 ops.length ∧ n0.ok ∧ n0.t.l = st0.t.l.drop (cntS fA ops ops.length) ∧ n0.b.l = st0.b.l.drop (cntS fB ops ops.length) ∧ n0.o.l = st0.o.l.drop (cntS fO ops ops.length) ∧ DrG 121 83 M0 0 ops st0.o.l ws0 (dlN 0 ops) r0 ops.length ∧ Hp No w₀ w' ((D0, sob EDr 91 r0 L0) :: q2 :: (M1 ++ (skR 66 121 114 sb0 n0 ++ (skR 66 121 114 sb1 st1 ++ (M0 ++ R))))), zt3 false true false fun _ v13 _ w' => ∃ H1, v13 = pT H1 ∧ Hp No w₀ w' ((rX H1 E64 ([0#64, 0#64]) 83) :: f3 :: (M1 ++ (skR 66 121 114 sb0 st0 ++ (skR 66 121 114 sb1 st1 ++ R)))), zt3 true true false fun v8 v13 _ w' => ∃ D0 K0 L0 r0 n0 M0 X0, v8 = .tuple #[sO D0 ops.length K0, .agg (cel E64 [(dlL 0 ops ws0).1, (dlL 0 ops ws0).2]).toArray, .nilIface] ∧ v13 = pT X0 ∧ Sl EDr D0 r0 K0 L0 ∧ DrN (dwS ops ((0 : Nat) : Int) (fTm 0) ws0 (dlN 0 ops)) (dtS ops st0.t.l st0.b.l) ops.length r0 ops.length ∧ n0.ok ∧ n0.t.l = st0.t.l.drop (cntS fA ops ops.length) ∧ n0.b.l = st0.b.l.drop (cntS fB ops ops.length) ∧ n0.o.l = st0.o.l.drop (cntS fO ops ops.length) ∧ DrG 121 83 M0 0 ops st0.o.l ws0 (dlN 0 ops) r0 ops.length ∧ Hp No w₀ w' ((rX X0 E64 ([0#64, 0#64]) 83) :: (D0, sob EDr 91 r0 L0) :: q2 :: (M1 ++ (skR 66 121 114 sb0 n0 ++ (skR 66 121 114 sb1 st1 ++ (M0 ++ R))))), zt3 true true true fun v8 v13 _ w' => ∃ D0 K0 L0 r0 n0 M0 X0, v8 = .tuple #[sO D0 ops.length K0, .agg (cel E64 [(dlL 0 ops ws0).1, (dlL 0 ops ws0).2]).toArray, .nilIface] ∧ v13 = pT X0 ∧ Sl EDr D0 r0 K0 L0 ∧ DrN (dwS ops ((0 : Nat) : Int) (fTm 0) ws0 (dlN 0 ops)) (dtS ops st0.t.l st0.b.l) ops.length r0 ops.length ∧ n0.ok ∧ n0.t.l = st0.t.l.drop (cntS fA ops ops.length) ∧ n0.b.l = st0.b.l.drop (cntS fB ops ops.length) ∧ n0.o.l = st0.o.l.drop (cntS fO ops ops.length) ∧ DrG 121 83 M0 0 ops st0.o.l ws0 (dlN 0 ops) r0 ops.length ∧ Hp No w₀ w' ((rX X0 E64 ([(dlL 0 ops ws0).1, (dlL 0 ops ws0).2]) 83) :: (D0, sob EDr 91 r0 L0) :: q2 :: (M1 ++ (skR 66 121 114 sb0 n0 ++ (skR 66 121 114 sb1 st1 ++ (M0 ++ R)))))]
   refine drawH (m := 17) [0, 0, 0, 4, 12, 0, 32, 96, 255, 511, 1023, 1023, 1023, 0, 10239, 28671, 65535] [8, 13, 15] M1 i4 mixed (fun _ e => h4.ext e) (A_ (fun _ _ h => h.drop1.lft) (A_ (fun _ _ ⟨_, _, _, _, _, _, _, _, _, _, _, _, _, _, h⟩ => h.drop1.drop1.lft) (A_ (fun _ _ ⟨_, _, h⟩ => h.drop1.drop1.lft) (A_ (fun _ _ ⟨_, _, _, _, _, _, _, _, _, _, _, _, _, _, _, _, h⟩ => h.drop1.drop1.drop1.lft) (A_ (fun _ _ ⟨_, _, _, _, _, _, _, _, _, _, _, _, _, _, _, _, h⟩ => h.drop1.drop1.drop1.lft) trivial))))) (fun H2 => ?_)
   refine gk 8 ?_
   refine WalkT.eff H2 0 ?_ ?_
   ·refine A_ (fun r w0 uw hF hE => ?_) (A_ (fun r w0 uw hF hE => ?_) trivial)
    ·have j4 := hF.ext hE
     refine gW fun Q' hK => ?_
     have k4 := (Hp.segT (S := [[(rC tb0 S1 96), x9], [(rX l0 E64 ([0#64, 0#64]) 83), (rC j0 #[sN0, sN0] 81), (rC i0 #[sN0, sN0] 24), (rC B0 H0 38), (rC A0 G0 50), (rC h0 x3 24), (rX y0 EI ([((in0.length : Nat) : Int), ((in1.length : Nat) : Int)]) 29), (rC tb1 x5 96), C0], skR 66 121 114 sb0 st0, skR 66 121 114 sb1 st1]) (Y := R) (j4.pk 11 [0, 8, 1, 2, 3, 4, 5, 6, 7, 9, 10]) 4 rfl [0, 2, 1, 3] [] (by decide)).as (L' := (_ :: _ :: (skR 66 121 114 sb0 st0 ++ ([(rX l0 E64 ([0#64, 0#64]) 83), (rC j0 #[sN0, sN0] 81), (rC i0 #[sN0, sN0] 24), (rC B0 H0 38), (rC A0 G0 50), (rC h0 x3 24), (rX y0 EI ([((in0.length : Nat) : Int), ((in1.length : Nat) : Int)]) 29), (rC tb1 x5 96), C0] ++ (skR 66 121 114 sb1 st1 ++ R))))) rfl
     refine cl (drawg_ok ops oa oc 0 (by decide) tb0 tk0 tc0 ts0 ws0 hSw0 hwl0 sb0 st0 hst0 ([(rX l0 E64 ([0#64, 0#64]) 83), (rC j0 #[sN0, sN0] 81), (rC i0 #[sN0, sN0] 24), (rC B0 H0 38), (rC A0 G0 50), (rC h0 x3 24), (rX y0 EI ([((in0.length : Nat) : Int), ((in1.length : Nat) : Int)]) 29), (rC tb1 x5 96), C0] ++ (skR 66 121 114 sb1 st1 ++ R)) w₀ uw hop hT0 hA0 hB0 hC0 (fun w1 hE hp => hO w1 hE (fun p hp2 => hp p (List.mem_append_right _ (List.mem_append_right _ hp2)))) k4) ?_
     rintro _ C7 ⟨g3, l4, h3, i3, I2, J2, rfl, m4, n4, o4, p4, q4, r4, s4, t4⟩
     have u4 := (Hp.segT (S := [[(g3, sob EDr 91 i3 h3), (rC tb0 x1 96), x9], skR 66 121 114 sb0 I2, J2, [(rX l0 E64 ([0#64, 0#64]) 83), (rC j0 #[sN0, sN0] 81), (rC i0 #[sN0, sN0] 24), (rC B0 H0 38), (rC A0 G0 50), (rC h0 x3 24), (rX y0 EI ([((in0.length : Nat) : Int), ((in1.length : Nat) : Int)]) 29), (rC tb1 x5 96), C0], skR 66 121 114 sb1 st1]) (Y := R) t4 5 rfl [0, 3, 1, 4, 2] [] (by decide)).as (L' := (_ :: _ :: _ :: _ :: _ :: _ :: _ :: _ :: _ :: _ :: _ :: _ :: (skR 66 121 114 sb0 I2 ++ (skR 66 121 114 sb1 st1 ++ (J2 ++ R))))) rfl
     exact hK _ _ (E_ g3 (E_ l4 (E_ h3 (E_ i3 (E_ I2 (E_ J2 (A_ rfl (A_ m4 (A_ n4 (A_ o4 (A_ p4 (A_ q4 (A_ r4 (A_ s4 ((u4.pk 12 [0, 1, 3, 4, 5, 6, 7, 8, 9, 2, 10, 11]))))))))))))))))
    ·obtain ⟨H1, N0, K2⟩ := hF
     replace K2 := K2.ext hE
     refine gW fun Q' hK => ?_
     have w4 := (Hp.segT (S := [[(rC tb0 S1 96), x9], [(rX H1 E64 ([0#64, 0#64]) 83), (rX l0 E64 ([0#64, 0#64]) 83), (rC j0 #[sN0, sN0] 81), (rC i0 #[sN0, sN0] 24), (rC B0 H0 38), (rC A0 G0 50), (rC h0 x3 24), (rX y0 EI ([((in0.length : Nat) : Int), ((in1.length : Nat) : Int)]) 29), (rC tb1 x5 96), C0], skR 66 121 114 sb0 st0, skR 66 121 114 sb1 st1]) (Y := R) (K2.pk 12 [1, 9, 0, 2, 3, 4, 5, 6, 7, 8, 10, 11]) 4 rfl [0, 2, 1, 3] [] (by decide)).as (L' := (_ :: _ :: (skR 66 121 114 sb0 st0 ++ ([(rX H1 E64 ([0#64, 0#64]) 83), (rX l0 E64 ([0#64, 0#64]) 83), (rC j0 #[sN0, sN0] 81), (rC i0 #[sN0, sN0] 24), (rC B0 H0 38), (rC A0 G0 50), (rC h0 x3 24), (rX y0 EI ([((in0.length : Nat) : Int), ((in1.length : Nat) : Int)]) 29), (rC tb1 x5 96), C0] ++ (skR 66 121 114 sb1 st1 ++ R))))) rfl
     refine cl (drawg_ok ops oa oc 0 (by decide) tb0 tk0 tc0 ts0 ws0 hSw0 hwl0 sb0 st0 hst0 ([(rX H1 E64 ([0#64, 0#64]) 83), (rX l0 E64 ([0#64, 0#64]) 83), (rC j0 #[sN0, sN0] 81), (rC i0 #[sN0, sN0] 24), (rC B0 H0 38), (rC A0 G0 50), (rC h0 x3 24), (rX y0 EI ([((in0.length : Nat) : Int), ((in1.length : Nat) : Int)]) 29), (rC tb1 x5 96), C0] ++ (skR 66 121 114 sb1 st1 ++ R)) w₀ uw hop hT0 hA0 hB0 hC0 (fun w1 hE hp => hO w1 hE (fun p hp2 => hp p (List.mem_append_right _ (List.mem_append_right _ hp2)))) w4) ?_
     rintro _ D7 ⟨j3, y4, k3, l3, L2, M2, rfl, z4, A4, B4, C4, D4, F4, G4, H4⟩
     have I4 := (Hp.segT (S := [[(j3, sob EDr 91 l3 k3), (rC tb0 x1 96), x9], skR 66 121 114 sb0 L2, M2, [(rX H1 E64 ([0#64, 0#64]) 83), (rX l0 E64 ([0#64, 0#64]) 83), (rC j0 #[sN0, sN0] 81), (rC i0 #[sN0, sN0] 24), (rC B0 H0 38), (rC A0 G0 50), (rC h0 x3 24), (rX y0 EI ([((in0.length : Nat) : Int), ((in1.length : Nat) : Int)]) 29), (rC tb1 x5 96), C0], skR 66 121 114 sb1 st1]) (Y := R) H4 5 rfl [0, 3, 1, 4, 2] [] (by decide)).as (L' := (_ :: _ :: _ :: _ :: _ :: _ :: _ :: _ :: _ :: _ :: _ :: _ :: _ :: (skR 66 121 114 sb0 L2 ++ (skR 66 121 114 sb1 st1 ++ (M2 ++ R))))) rfl
     exact hK _ _ (E_ j3 (E_ y4 (E_ k3 (E_ l3 (E_ L2 (E_ M2 (E_ H1 (A_ rfl (A_ N0 (A_ z4 (A_ A4 (A_ B4 (A_ C4 (A_ D4 (A_ F4 (A_ G4 ((I4.pk 13 [3, 0, 1, 4, 5, 6, 7, 8, 9, 10, 2, 11, 12]))))))))))))))))))
   refine WalkT.hand (fun r => r 8) (fun r r' h => h 8 (by decide) rfl) (fun _ _ => r_move rfl) (WalkT.lookS (fun r => proj (r 8) 0) (fun r r' h => by rw [h 8 (by decide) rfl]) ?_ ?_)
   ·refine A_ (fun r w0 uw hF hE => ?_) (A_ (fun r w0 uw hF hE => ?_) trivial)
    ·obtain ⟨D0, K0, L0, r0, n0, M0, e8, Y0, Z0, d1, e1, g1, h1, i1, HH⟩ := hF
     replace HH := HH.ext hE
     dsimp only
     rw [e8]
     exact vGr
    ·obtain ⟨D0, K0, L0, r0, n0, M0, X0, e8, N0, Y0, Z0, d1, e1, g1, h1, i1, HH⟩ := hF
     replace HH := HH.ext hE
     dsimp only
     rw [e8]
     exact vGr
   refine WalkT.lookS (fun r => proj (r 8) 1) (fun r r' h => by rw [h 8 (by decide) rfl]) ?_ ?_
   ·refine A_ (fun r w0 uw hF hE => ?_) (A_ (fun r w0 uw hF hE => ?_) trivial)
    ·obtain ⟨D0, K0, L0, r0, n0, M0, e8, Y0, Z0, d1, e1, g1, h1, i1, HH⟩ := hF
     replace HH := HH.ext hE
     dsimp only
     rw [e8]
     exact vGr
    ·obtain ⟨D0, K0, L0, r0, n0, M0, X0, e8, N0, Y0, Z0, d1, e1, g1, h1, i1, HH⟩ := hF
     replace HH := HH.ext hE
     dsimp only
     rw [e8]
     exact vGr
   refine WalkT.lookS (fun r => proj (r 8) 2) (fun r r' h => by rw [h 8 (by decide) rfl]) ?_ ?_
   ·refine A_ (fun r w0 uw hF hE => ?_) (A_ (fun r w0 uw hF hE => ?_) (A_ (fun r w0 uw hF hE => ?_) trivial))
    ·obtain ⟨D0, K0, L0, r0, n0, M0, e8, Y0, Z0, d1, e1, g1, h1, i1, HH⟩ := hF
     replace HH := HH.ext hE
     dsimp only
     rw [e8]
     exact vGr
    ·obtain ⟨D0, K0, L0, r0, n0, M0, X0, e8, N0, Y0, Z0, d1, e1, g1, h1, i1, HH⟩ := hF
     replace HH := HH.ext hE
     dsimp only
     rw [e8]
     exact vGr
    ·obtain ⟨D0, K0, L0, r0, n0, M0, X0, e8, N0, Y0, Z0, d1, e1, g1, h1, i1, HH⟩ := hF
     replace HH := HH.ext hE
     dsimp only
     rw [e8]
     exact vGr
   refine WalkT.eff H2 1 ?_ ?_
   ·refine A_ (fun r w0 uw hF hE => ?_) (A_ (fun r w0 uw hF hE => ?_) trivial)
    ·have E7 := hF.ext hE
     refine gW fun Q' hK => ?_
     refine go 1 ?_
     intro J4 F7 G7 K4 H7
     exact hK _ _ (E_ J4 (A_ rfl K4))
    ·obtain ⟨D0, K0, L0, r0, n0, M0, e8, Y0, Z0, d1, e1, g1, h1, i1, m3⟩ := hF
     replace m3 := m3.ext hE
     refine gW fun Q' hK => ?_
     refine go 1 ?_
     intro L4 I7 J7 M4 K7
     exact hK _ _ (E_ D0 (E_ K0 (E_ L0 (E_ r0 (E_ n0 (E_ M0 (E_ L4 (A_ e8 (A_ rfl (A_ Y0 (A_ Z0 (A_ d1 (A_ e1 (A_ g1 (A_ h1 (A_ i1 M4))))))))))))))))
   refine WalkT.hand (fun r => proj (r 8) 0) (fun r r' h => by rw [h 8 (by decide) rfl]) (fun _ _ => r_assign rfl) (WalkT.eff H2 2 ?_ ?_)
   ·refine A_ (fun r w0 uw hF hE => ?_) trivial
    obtain ⟨D0, K0, L0, r0, n0, M0, X0, e8, N0, Y0, Z0, d1, e1, g1, h1, i1, n3⟩ := hF
    replace n3 := n3.ext hE
    dsimp only
    rw [N0, e8]
    refine gW0 fun Q' hK => ?_
    refine go 1 ?_
    intro L7 N4 M7
    exact hK _ (fun _ => (E_ D0 (E_ K0 (E_ L0 (E_ r0 (E_ n0 (E_ M0 (E_ X0 (A_ e8 (A_ N0 (A_ Y0 (A_ Z0 (A_ d1 (A_ e1 (A_ g1 (A_ h1 (A_ i1 N4)))))))))))))))))
   refine WalkT.hand (fun r => proj (r 8) 2) (fun r r' h => by rw [h 8 (by decide) rfl]) (fun _ _ => r_assign rfl) (WalkT.nil fun r w0 N7 hF hE => ?_)
   obtain ⟨D0, K0, L0, r0, n0, M0, X0, e8, N0, Y0, Z0, d1, e1, g1, h1, i1, N2⟩ := hF
   replace N2 := N2.ext hE
   dsimp only
   rw [e8, N0]
   dsimp only [M1, q2] at N2
   refine go 1 ?_
   refine sq ((r_neqNN isI31 rfl rfl).as (v' := .bool false) (by rfl)) ?_
   refine go 4 ?_
   intro O4 P4 O7
   refine go 2 ?_
   refine cl (rxor_ok (0#64) (0#64) ((dlL 0 ops ws0).1) ((dlL 0 ops ws0).2) O4) ?_
   rintro _ P7 ⟨rfl, Q4⟩
   have Q7 := P4.ext Q4
   refine go 1 ?_
   intro R7 R4 S7
   refine go 2 ?_
   exact ⟨(0 + 1, _), _, rfl, kp, ⟨⟨om, .inr (.inl ⟨rfl, D0, K0, L0, r0, n0, M0, Y0, Z0, d1, e1, g1, h1, i1, rfl⟩)⟩, (R4.pk 13 [1, 3, 4, 5, 6, 7, 8, 9, 2, 10, 11, 12])⟩, vd⟩
  ·refine go 0 ?_
   refine sq ((r_lssI rfl rfl).as (v' := .bool true) (by rfl)) ?_
   refine go 2 ?_
   have S4 := (HL.pk 12 [10, 0, 1, 2, 3, 4, 5, 6, 7, 8, 9, 11])
   let N1 : List RW := [(e0, sob EDr 91 a0 I0), (rX l0 E64 ([((0#64) ^^^ ((dlL 0 ops ws0).1)), ((0#64) ^^^ ((dlL 0 ops ws0).2))]) 83), (rC j0 #[sO e0 ops.length R0, sN0] 81), (rC i0 #[sN0, sN0] 24), (rC B0 H0 38), (rC A0 G0 50), (rC h0 x3 24), (rX y0 EI ([((in0.length : Nat) : Int), ((in1.length : Nat) : Int)]) 29), (rC tb0 x1 96), x9, C0]
   let r2 := ((rC tb1 x7 96) : RW)
   let o3 := ((rC tb1 x5 96) : RW)
   let T4 : Tab := [zt3 false false false fun _ _ _ w' => Hp No w₀ w' (o3 :: (N1 ++ (skR 66 121 114 sb0 d0 ++ (skR 66 121 114 sb1 st1 ++ (F0 ++ R))))), zt3 true false false fun v8 _ _ w' => ∃ E0 O0 P0 s0 o0 Q0, v8 = .tuple #[sO E0 ops.length O0, .agg (cel E64 [(dlL 1 ops ws1).1, (dlL 1 ops ws1).2]).toArray, .nilIface] ∧ Sl EDr E0 s0 O0 P0 ∧ DrN (dwS ops ((1 : Nat) : Int) (fTm 1) ws1 (dlN 1 ops)) (dtS ops st1.t.l st1.b.l) ops.length s0 ops.length ∧ o0.ok ∧ o0.t.l = st1.t.l.drop (cntS fA ops ops.length) ∧ o0.b.l = st1.b.l.drop (cntS fB ops ops.length) ∧ o0.o.l = st1.o.l.drop (cntS fO ops ops.length) ∧ DrG 121 83 Q0 1 ops st1.o.l ws1 (dlN 1 ops) s0 ops.length ∧ Hp No w₀ w' ((E0, sob EDr 91 s0 P0) :: r2 :: (N1 ++ (skR 66 121 114 sb0 d0 ++ (skR 66 121 114 sb1 o0 ++ (Q0 ++ (F0 ++ R)))))), zt3 false true false fun _ v13 _ w' => ∃ I1, v13 = pT I1 ∧ Hp No w₀ w' ((rX I1 E64 ([0#64, 0#64]) 83) :: o3 :: (N1 ++ (skR 66 121 114 sb0 d0 ++ (skR 66 121 114 sb1 st1 ++ (F0 ++ R))))), zt3 true true false fun v8 v13 _ w' => ∃ E0 O0 P0 s0 o0 Q0 j1, v8 = .tuple #[sO E0 ops.length O0, .agg (cel E64 [(dlL 1 ops ws1).1, (dlL 1 ops ws1).2]).toArray, .nilIface] ∧ v13 = pT j1 ∧ Sl EDr E0 s0 O0 P0 ∧ DrN (dwS ops ((1 : Nat) : Int) (fTm 1) ws1 (dlN 1 ops)) (dtS ops st1.t.l st1.b.l) ops.length s0 ops.length ∧ o0.ok ∧ o0.t.l = st1.t.l.drop (cntS fA ops ops.length) ∧ o0.b.l = st1.b.l.drop (cntS fB ops ops.length) ∧ o0.o.l = st1.o.l.drop (cntS fO ops ops.length) ∧ DrG 121 83 Q0 1 ops st1.o.l ws1 (dlN 1 ops) s0 ops.length ∧ Hp No w₀ w' ((rX j1 E64 ([0#64, 0#64]) 83) :: (E0, sob EDr 91 s0 P0) :: r2 :: (N1 ++ (skR 66 121 114 sb0 d0 ++ (skR 66 121 114 sb1 o0 ++ (Q0 ++ (F0 ++ R)))))), zt3 true true true fun v8 v13 _ w' => ∃ E0 O0 P0 s0 o0 Q0 j1, v8 = .tuple #[sO E0 ops.length O0, .agg (cel E64 [(dlL 1 ops ws1).1, (dlL 1 ops ws1).2]).toArray, .nilIface] ∧ v13 = pT j1 ∧ Sl EDr E0 s0 O0 P0 ∧ DrN (dwS ops ((1 : Nat) : Int) (fTm 1) ws1 (dlN 1 ops)) (dtS ops st1.t.l st1.b.l) ops.length s0 ops.length ∧ o0.ok ∧ o0.t.l = st1.t.l.drop (cntS fA ops ops.length) ∧ o0.b.l = st1.b.l.drop (cntS fB ops ops.length) ∧ o0.o.l = st1.o.l.drop (cntS fO ops ops.length) ∧ DrG 121 83 Q0 1 ops st1.o.l ws1 (dlN 1 ops) s0 ops.length ∧ Hp No w₀ w' ((rX j1 E64 ([(dlL 1 ops ws1).1, (dlL 1 ops ws1).2]) 83) :: (E0, sob EDr 91 s0 P0) :: r2 :: (N1 ++ (skR 66 121 114 sb0 d0 ++ (skR 66 121 114 sb1 o0 ++ (Q0 ++ (F0 ++ R))))))]
   refine drawH (m := 17) [0, 0, 0, 4, 12, 0, 32, 96, 255, 511, 1023, 1023, 1023, 0, 10239, 28671, 65535] [8, 13, 15] N1 T4 mixed (fun _ e => S4.ext e) (A_ (fun _ _ h => h.drop1.lft) (A_ (fun _ _ ⟨_, _, _, _, _, _, _, _, _, _, _, _, _, _, h⟩ => h.drop1.drop1.lft) (A_ (fun _ _ ⟨_, _, h⟩ => h.drop1.drop1.lft) (A_ (fun _ _ ⟨_, _, _, _, _, _, _, _, _, _, _, _, _, _, _, _, h⟩ => h.drop1.drop1.drop1.lft) (A_ (fun _ _ ⟨_, _, _, _, _, _, _, _, _, _, _, _, _, _, _, _, h⟩ => h.drop1.drop1.drop1.lft) trivial))))) (fun O2 => ?_)
   refine gk 8 ?_
   refine WalkT.eff O2 0 ?_ ?_
   ·refine A_ (fun r w0 uw hF hE => ?_) (A_ (fun r w0 uw hF hE => ?_) trivial)
    ·have U4 := hF.ext hE
     refine gW fun Q' hK => ?_
     have V4 := (Hp.segT (S := [[(rC tb1 x5 96), C0], [(e0, sob EDr 91 a0 I0), (rX l0 E64 ([((0#64) ^^^ ((dlL 0 ops ws0).1)), ((0#64) ^^^ ((dlL 0 ops ws0).2))]) 83), (rC j0 #[sO e0 ops.length R0, sN0] 81), (rC i0 #[sN0, sN0] 24), (rC B0 H0 38), (rC A0 G0 50), (rC h0 x3 24), (rX y0 EI ([((in0.length : Nat) : Int), ((in1.length : Nat) : Int)]) 29), (rC tb0 x1 96), x9], skR 66 121 114 sb0 d0, skR 66 121 114 sb1 st1]) (Y := (F0 ++ R)) (U4.pk 12 [0, 11, 1, 2, 3, 4, 5, 6, 7, 8, 9, 10]) 4 rfl [0, 3, 1, 2] [] (by decide)).as (L' := (_ :: _ :: (skR 66 121 114 sb1 st1 ++ ([(e0, sob EDr 91 a0 I0), (rX l0 E64 ([((0#64) ^^^ ((dlL 0 ops ws0).1)), ((0#64) ^^^ ((dlL 0 ops ws0).2))]) 83), (rC j0 #[sO e0 ops.length R0, sN0] 81), (rC i0 #[sN0, sN0] 24), (rC B0 H0 38), (rC A0 G0 50), (rC h0 x3 24), (rX y0 EI ([((in0.length : Nat) : Int), ((in1.length : Nat) : Int)]) 29), (rC tb0 x1 96), x9] ++ (skR 66 121 114 sb0 d0 ++ (F0 ++ R)))))) rfl
     refine cl (drawg_ok ops oa oc 1 (by decide) tb1 tk1 tc1 ts1 ws1 hSw1 hwl1 sb1 st1 hst1 ([(e0, sob EDr 91 a0 I0), (rX l0 E64 ([((0#64) ^^^ ((dlL 0 ops ws0).1)), ((0#64) ^^^ ((dlL 0 ops ws0).2))]) 83), (rC j0 #[sO e0 ops.length R0, sN0] 81), (rC i0 #[sN0, sN0] 24), (rC B0 H0 38), (rC A0 G0 50), (rC h0 x3 24), (rX y0 EI ([((in0.length : Nat) : Int), ((in1.length : Nat) : Int)]) 29), (rC tb0 x1 96), x9] ++ (skR 66 121 114 sb0 d0 ++ (F0 ++ R))) w₀ uw hop hT1 hA1 hB1 hC1 (fun w1 hE hp => hO w1 hE (fun p hp2 => hp p (List.mem_append_right _ (List.mem_append_right _ (List.mem_append_right _ hp2))))) V4) ?_
     rintro _ T7 ⟨p3, W4, q3, r3, P2, Q2, rfl, X4, Y4, Z4, c5, d5, f5, g5, h5⟩
     have i5 := (Hp.segT (S := [[(p3, sob EDr 91 r3 q3), (rC tb1 x7 96), C0], skR 66 121 114 sb1 P2, Q2, [(e0, sob EDr 91 a0 I0), (rX l0 E64 ([((0#64) ^^^ ((dlL 0 ops ws0).1)), ((0#64) ^^^ ((dlL 0 ops ws0).2))]) 83), (rC j0 #[sO e0 ops.length R0, sN0] 81), (rC i0 #[sN0, sN0] 24), (rC B0 H0 38), (rC A0 G0 50), (rC h0 x3 24), (rX y0 EI ([((in0.length : Nat) : Int), ((in1.length : Nat) : Int)]) 29), (rC tb0 x1 96), x9], skR 66 121 114 sb0 d0]) (Y := (F0 ++ R)) h5 5 rfl [0, 3, 4, 1, 2] [] (by decide)).as (L' := (_ :: _ :: _ :: _ :: _ :: _ :: _ :: _ :: _ :: _ :: _ :: _ :: _ :: (skR 66 121 114 sb0 d0 ++ (skR 66 121 114 sb1 P2 ++ (Q2 ++ (F0 ++ R)))))) rfl
     exact hK _ _ (E_ p3 (E_ W4 (E_ q3 (E_ r3 (E_ P2 (E_ Q2 (A_ rfl (A_ X4 (A_ Y4 (A_ Z4 (A_ c5 (A_ d5 (A_ f5 (A_ g5 ((i5.pk 13 [0, 1, 3, 4, 5, 6, 7, 8, 9, 10, 11, 12, 2]))))))))))))))))
    ·obtain ⟨I1, N0, R2⟩ := hF
     replace R2 := R2.ext hE
     refine gW fun Q' hK => ?_
     have j5 := (Hp.segT (S := [[(rC tb1 x5 96), C0], [(rX I1 E64 ([0#64, 0#64]) 83), (e0, sob EDr 91 a0 I0), (rX l0 E64 ([((0#64) ^^^ ((dlL 0 ops ws0).1)), ((0#64) ^^^ ((dlL 0 ops ws0).2))]) 83), (rC j0 #[sO e0 ops.length R0, sN0] 81), (rC i0 #[sN0, sN0] 24), (rC B0 H0 38), (rC A0 G0 50), (rC h0 x3 24), (rX y0 EI ([((in0.length : Nat) : Int), ((in1.length : Nat) : Int)]) 29), (rC tb0 x1 96), x9], skR 66 121 114 sb0 d0, skR 66 121 114 sb1 st1]) (Y := (F0 ++ R)) (R2.pk 13 [1, 12, 0, 2, 3, 4, 5, 6, 7, 8, 9, 10, 11]) 4 rfl [0, 3, 1, 2] [] (by decide)).as (L' := (_ :: _ :: (skR 66 121 114 sb1 st1 ++ ([(rX I1 E64 ([0#64, 0#64]) 83), (e0, sob EDr 91 a0 I0), (rX l0 E64 ([((0#64) ^^^ ((dlL 0 ops ws0).1)), ((0#64) ^^^ ((dlL 0 ops ws0).2))]) 83), (rC j0 #[sO e0 ops.length R0, sN0] 81), (rC i0 #[sN0, sN0] 24), (rC B0 H0 38), (rC A0 G0 50), (rC h0 x3 24), (rX y0 EI ([((in0.length : Nat) : Int), ((in1.length : Nat) : Int)]) 29), (rC tb0 x1 96), x9] ++ (skR 66 121 114 sb0 d0 ++ (F0 ++ R)))))) rfl
     refine cl (drawg_ok ops oa oc 1 (by decide) tb1 tk1 tc1 ts1 ws1 hSw1 hwl1 sb1 st1 hst1 ([(rX I1 E64 ([0#64, 0#64]) 83), (e0, sob EDr 91 a0 I0), (rX l0 E64 ([((0#64) ^^^ ((dlL 0 ops ws0).1)), ((0#64) ^^^ ((dlL 0 ops ws0).2))]) 83), (rC j0 #[sO e0 ops.length R0, sN0] 81), (rC i0 #[sN0, sN0] 24), (rC B0 H0 38), (rC A0 G0 50), (rC h0 x3 24), (rX y0 EI ([((in0.length : Nat) : Int), ((in1.length : Nat) : Int)]) 29), (rC tb0 x1 96), x9] ++ (skR 66 121 114 sb0 d0 ++ (F0 ++ R))) w₀ uw hop hT1 hA1 hB1 hC1 (fun w1 hE hp => hO w1 hE (fun p hp2 => hp p (List.mem_append_right _ (List.mem_append_right _ (List.mem_append_right _ hp2))))) j5) ?_
     rintro _ U7 ⟨s3, k5, t3, u3, S2, T2, rfl, l5, m5, n5, o5, p5, q5, r5, s5⟩
     have t5 := (Hp.segT (S := [[(s3, sob EDr 91 u3 t3), (rC tb1 x7 96), C0], skR 66 121 114 sb1 S2, T2, [(rX I1 E64 ([0#64, 0#64]) 83), (e0, sob EDr 91 a0 I0), (rX l0 E64 ([((0#64) ^^^ ((dlL 0 ops ws0).1)), ((0#64) ^^^ ((dlL 0 ops ws0).2))]) 83), (rC j0 #[sO e0 ops.length R0, sN0] 81), (rC i0 #[sN0, sN0] 24), (rC B0 H0 38), (rC A0 G0 50), (rC h0 x3 24), (rX y0 EI ([((in0.length : Nat) : Int), ((in1.length : Nat) : Int)]) 29), (rC tb0 x1 96), x9], skR 66 121 114 sb0 d0]) (Y := (F0 ++ R)) s5 5 rfl [0, 3, 4, 1, 2] [] (by decide)).as (L' := (_ :: _ :: _ :: _ :: _ :: _ :: _ :: _ :: _ :: _ :: _ :: _ :: _ :: _ :: (skR 66 121 114 sb0 d0 ++ (skR 66 121 114 sb1 S2 ++ (T2 ++ (F0 ++ R)))))) rfl
     exact hK _ _ (E_ s3 (E_ k5 (E_ t3 (E_ u3 (E_ S2 (E_ T2 (E_ I1 (A_ rfl (A_ N0 (A_ l5 (A_ m5 (A_ n5 (A_ o5 (A_ p5 (A_ q5 (A_ r5 ((t5.pk 14 [3, 0, 1, 4, 5, 6, 7, 8, 9, 10, 11, 12, 13, 2]))))))))))))))))))
   refine WalkT.hand (fun r => r 8) (fun r r' h => h 8 (by decide) rfl) (fun _ _ => r_move rfl) (WalkT.lookS (fun r => proj (r 8) 0) (fun r r' h => by rw [h 8 (by decide) rfl]) ?_ ?_)
   ·refine A_ (fun r w0 uw hF hE => ?_) (A_ (fun r w0 uw hF hE => ?_) trivial)
    ·obtain ⟨E0, O0, P0, s0, o0, Q0, e8, l1, m1, n1, o1, p1, r1, s1, HH⟩ := hF
     replace HH := HH.ext hE
     dsimp only
     rw [e8]
     exact vGr
    ·obtain ⟨E0, O0, P0, s0, o0, Q0, j1, e8, N0, l1, m1, n1, o1, p1, r1, s1, HH⟩ := hF
     replace HH := HH.ext hE
     dsimp only
     rw [e8]
     exact vGr
   refine WalkT.lookS (fun r => proj (r 8) 1) (fun r r' h => by rw [h 8 (by decide) rfl]) ?_ ?_
   ·refine A_ (fun r w0 uw hF hE => ?_) (A_ (fun r w0 uw hF hE => ?_) trivial)
    ·obtain ⟨E0, O0, P0, s0, o0, Q0, e8, l1, m1, n1, o1, p1, r1, s1, HH⟩ := hF
     replace HH := HH.ext hE
     dsimp only
     rw [e8]
     exact vGr
    ·obtain ⟨E0, O0, P0, s0, o0, Q0, j1, e8, N0, l1, m1, n1, o1, p1, r1, s1, HH⟩ := hF
     replace HH := HH.ext hE
     dsimp only
     rw [e8]
     exact vGr
   refine WalkT.lookS (fun r => proj (r 8) 2) (fun r r' h => by rw [h 8 (by decide) rfl]) ?_ ?_
   ·refine A_ (fun r w0 uw hF hE => ?_) (A_ (fun r w0 uw hF hE => ?_) (A_ (fun r w0 uw hF hE => ?_) trivial))
    ·obtain ⟨E0, O0, P0, s0, o0, Q0, e8, l1, m1, n1, o1, p1, r1, s1, HH⟩ := hF
     replace HH := HH.ext hE
     dsimp only
     rw [e8]
     exact vGr
    ·obtain ⟨E0, O0, P0, s0, o0, Q0, j1, e8, N0, l1, m1, n1, o1, p1, r1, s1, HH⟩ := hF
     replace HH := HH.ext hE
     dsimp only
     rw [e8]
     exact vGr
    ·obtain ⟨E0, O0, P0, s0, o0, Q0, j1, e8, N0, l1, m1, n1, o1, p1, r1, s1, HH⟩ := hF
     replace HH := HH.ext hE
     dsimp only
     rw [e8]
     exact vGr
   refine WalkT.eff O2 1 ?_ ?_
   ·refine A_ (fun r w0 uw hF hE => ?_) (A_ (fun r w0 uw hF hE => ?_) trivial)
    ·have V7 := hF.ext hE
     refine gW fun Q' hK => ?_
     refine go 1 ?_
     intro u5 W7 X7 w5 Y7
     exact hK _ _ (E_ u5 (A_ rfl w5))
    ·obtain ⟨E0, O0, P0, s0, o0, Q0, e8, l1, m1, n1, o1, p1, r1, s1, w3⟩ := hF
     replace w3 := w3.ext hE
     refine gW fun Q' hK => ?_
     refine go 1 ?_
     intro y5 Z7 c8 z5 d8
     exact hK _ _ (E_ E0 (E_ O0 (E_ P0 (E_ s0 (E_ o0 (E_ Q0 (E_ y5 (A_ e8 (A_ rfl (A_ l1 (A_ m1 (A_ n1 (A_ o1 (A_ p1 (A_ r1 (A_ s1 z5))))))))))))))))
   refine WalkT.hand (fun r => proj (r 8) 0) (fun r r' h => by rw [h 8 (by decide) rfl]) (fun _ _ => r_assign rfl) (WalkT.eff O2 2 ?_ ?_)
   ·refine A_ (fun r w0 uw hF hE => ?_) trivial
    obtain ⟨E0, O0, P0, s0, o0, Q0, j1, e8, N0, l1, m1, n1, o1, p1, r1, s1, y3⟩ := hF
    replace y3 := y3.ext hE
    dsimp only
    rw [N0, e8]
    refine gW0 fun Q' hK => ?_
    refine go 1 ?_
    intro f8 A5 g8
    exact hK _ (fun _ => (E_ E0 (E_ O0 (E_ P0 (E_ s0 (E_ o0 (E_ Q0 (E_ j1 (A_ e8 (A_ N0 (A_ l1 (A_ m1 (A_ n1 (A_ o1 (A_ p1 (A_ r1 (A_ s1 A5)))))))))))))))))
   refine WalkT.hand (fun r => proj (r 8) 2) (fun r r' h => by rw [h 8 (by decide) rfl]) (fun _ _ => r_assign rfl) (WalkT.nil fun r w0 h8 hF hE => ?_)
   obtain ⟨E0, O0, P0, s0, o0, Q0, j1, e8, N0, l1, m1, n1, o1, p1, r1, s1, U2⟩ := hF
   replace U2 := U2.ext hE
   dsimp only
   rw [e8, N0]
   dsimp only [N1, r2] at U2
   refine go 1 ?_
   refine sq ((r_neqNN isI31 rfl rfl).as (v' := .bool false) (by rfl)) ?_
   refine go 4 ?_
   intro B5 C5 j8
   refine go 2 ?_
   refine cl (rxor_ok ((0#64) ^^^ ((dlL 0 ops ws0).1)) ((0#64) ^^^ ((dlL 0 ops ws0).2)) ((dlL 1 ops ws1).1) ((dlL 1 ops ws1).2) B5) ?_
   rintro _ k8 ⟨rfl, D5⟩
   have l8 := C5.ext D5
   refine go 1 ?_
   intro m8 E5 n8
   refine go 2 ?_
   exact ⟨(1 + 1, _), _, rfl, kp, ⟨⟨om, .inr (.inr ⟨rfl, e0, R0, I0, a0, d0, F0, E0, O0, P0, s0, o0, Q0, e3, h2, D2, hst0, E2, F2, U1, l1, m1, n1, o1, p1, r1, s1, rfl⟩)⟩, (E5.pk 14 [3, 1, 4, 5, 6, 7, 8, 9, 10, 11, 12, 2, 13])⟩, vd⟩
  ·refine go 0 ?_
   refine sq ((r_lssI rfl rfl).as (v' := .bool false) (by rfl)) ?_
   refine go 1 ?_
   intro B1 o8 p8 F5 q8
   refine go 3 ?_
   refine loopAny (σ := Nat × Option Nat × Nat × LV × Option Nat × Nat × LV) (fun (i, kw0, J1, sw0, kw1, C1, sw1) => [(7, pT h0), (10, pT i0), (11, .nilIface), (14, pT j0), (15, pT l0), (20, pT B1), (78, .slice oa ops.length oc), (79, iN ops.length), (80, iN i)]) (fun (i, kw0, J1, sw0, kw1, C1, sw1) w' => (i ≤ ops.length ∧ Sl E64 kw0 (simS Gb.lhash ops in0 in1 ws0 ws1 (dwS ops ((0 : Nat) : Int) (fTm 0) ws0 (dlN 0 ops)) (dwS ops ((1 : Nat) : Int) (fTm 1) ws1 (dlN 1 ops)) (dtS ops st0.t.l st0.b.l) (dtS ops st1.t.l st1.b.l) st0.o.l st1.o.l i).1 J1 sw0 ∧ Sl E64 kw1 (simS Gb.lhash ops in0 in1 ws0 ws1 (dwS ops ((0 : Nat) : Int) (fTm 0) ws0 (dlN 0 ops)) (dwS ops ((1 : Nat) : Int) (fTm 1) ws1 (dlN 1 ops)) (dtS ops st0.t.l st0.b.l) (dtS ops st1.t.l st1.b.l) st0.o.l st1.o.l i).2 C1 sw1) ∧ Hp No w₀ w' ((kw0, sob E64 34 ((simS Gb.lhash ops in0 in1 ws0 ws1 (dwS ops ((0 : Nat) : Int) (fTm 0) ws0 (dlN 0 ops)) (dwS ops ((1 : Nat) : Int) (fTm 1) ws1 (dlN 1 ops)) (dtS ops st0.t.l st0.b.l) (dtS ops st1.t.l st1.b.l) st0.o.l st1.o.l i).1) sw0) :: (kw1, sob E64 34 ((simS Gb.lhash ops in0 in1 ws0 ws1 (dwS ops ((0 : Nat) : Int) (fTm 0) ws0 (dlN 0 ops)) (dwS ops ((1 : Nat) : Int) (fTm 1) ws1 (dlN 1 ops)) (dtS ops st0.t.l st0.b.l) (dtS ops st1.t.l st1.b.l) st0.o.l st1.o.l i).2) sw1) :: (rC B1 #[sO kw0 i J1, sO kw1 i C1] 24) :: (e0, sob EDr 91 a0 I0) :: (W0, sob EDr 91 m0 G1) :: (rC j0 #[sO e0 ops.length R0, sO W0 ops.length T1] 81) :: (rX l0 E64 ([(dlS ops ws0 ws1).1, (dlS ops ws0 ws1).2]) 83) :: (rC h0 x3 24) :: (rC i0 #[sN0, sN0] 24) :: (rC tb0 x1 96) :: x9 :: (rC tb1 x7 96) :: C0 :: (skR 66 121 114 sb0 d0 ++ (skR 66 121 114 sb1 V0 ++ (F1 ++ (F0 ++ R)))))) (fun (i, kw0, J1, sw0, kw1, C1, sw1) => ops.length - i) ((0, none, 0, [], none, 0, [])) ?_ ?_ ?_
   ·exact kp
   have G5 := ((F5.pk 14 [0, 1, 2, 4, 3, 8, 5, 10, 11, 12, 13]).nil (sob E64 34 [] [])).nil (sob E64 34 [] [])
   ·exact ⟨⟨Nat.zero_le _, Sl.none, Sl.none⟩, G5⟩
   rintro ⟨i, kw0, J1, sw0, kw1, C1, sw1⟩ ρ r8 ⟨⟨hq3, hSk0, hSk1⟩, s2⟩
   have hdl0 := h2.len
   have hdl1 := G2.len
   obtain ⟨hwl0, hwl1⟩ := simS_len Gb.lhash ops in0 in1 ws0 ws1 (dwS ops ((0 : Nat) : Int) (fTm 0) ws0 (dlN 0 ops)) (dwS ops ((1 : Nat) : Int) (fTm 1) ws1 (dlN 1 ops)) (dtS ops st0.t.l st0.b.l) (dtS ops st1.t.l st1.b.l) st0.o.l st1.o.l i
   refine go 1 ?_
   refine condProp (((i : Nat) : Int) < (ops.length : Nat)) rfl (fun H5 => ?_) (fun H5 => ?_)
   ·refine go 1 ?_
    refine sq (r_idxS (E := EMo) (l := ops) (j := i) sli22 (hO _ s2.chg (fun p hp => s2.has p (mT (mT (mT (mT (mT (mT (mT (mT (mT (mT (mT (mT (mT ((List.mem_append_right _ (List.mem_append_right _ (List.mem_append_right _ (List.mem_append_right _ hp)))))))))))))))))))) rfl rfl vo (by rfl) om) (sq ((r_ldS (E := EMo) (l := ops) (j := i) (v := ops.getD i mo0) fits36 (hO _ s2.chg (fun p hp => s2.has p (mT (mT (mT (mT (mT (mT (mT (mT (mT (mT (mT (mT (mT ((List.mem_append_right _ (List.mem_append_right _ (List.mem_append_right _ (List.mem_append_right _ hp)))))))))))))))))))) rfl rfl (at_getD om)).as (v' := .agg #[i64 ((ops.getD i mo0).kd), i64 ((ops.getD i mo0).a), i64 ((ops.getD i mo0).b), i64 ((ops.getD i mo0).k), u64 ((ops.getD i mo0).c), i64 ((ops.getD i mo0).pt)]) rfl) ?_)
    refine go 1 ?_
    intro i2 s8 t8 w8 y8
    refine go 2 ?_
    intro z8 I5 A8
    obtain ⟨o, ho⟩ : ∃ q1, q1 = ops.getD i mo0 := ⟨_, rfl⟩
    let V2 : Array Value := #[sO kw0 i J1, sO kw1 i C1]
    let X2 : Array Value := #[i64 (o.kd), i64 (o.a), i64 (o.b), i64 (o.k), u64 (o.c), i64 (o.pt)]
    let Y2 : Array Value := #[sO e0 ops.length R0, sO W0 ops.length T1]
    let x8 : Array Value := #[A2, .pointer none, iN ws1.length, iN (dlN 1 ops + cntS (fTm 1) ops ops.length)]
    let x6 : Array Value := #[B2, .pointer none, iN ws0.length, iN (dlN 0 ops + cntS (fTm 0) ops ops.length)]
    let x4 : RW := (kw1, sob E64 34 ((simS Gb.lhash ops in0 in1 ws0 ws1 (dwS ops ((0 : Nat) : Int) (fTm 0) ws0 (dlN 0 ops)) (dwS ops ((1 : Nat) : Int) (fTm 1) ws1 (dlN 1 ops)) (dtS ops st0.t.l st0.b.l) (dtS ops st1.t.l st1.b.l) st0.o.l st1.o.l i).2) sw1)
    let x2 : RW := (kw0, sob E64 34 ((simS Gb.lhash ops in0 in1 ws0 ws1 (dwS ops ((0 : Nat) : Int) (fTm 0) ws0 (dlN 0 ops)) (dwS ops ((1 : Nat) : Int) (fTm 1) ws1 (dlN 1 ops)) (dtS ops st0.t.l st0.b.l) (dtS ops st1.t.l st1.b.l) st0.o.l st1.o.l i).1) sw0)
    rw [← ho] at I5 ⊢
    have hgo := hgd.at' i om
    rw [← ho] at hgo
    have hkp := kdP_of hgo
    have hra := good_rng hgo.a
    have hrb := good_rng hgo.b
    refine go 1 ?_
    intro V1 B8 C8 D8 F8
    refine go 1 ?_
    intro W1 G8 H8 z3 I8
    refine gj 0 ?_
    refine seqJoin (σ := W2 × W2) (fun (pa, pb) => [(7, pT h0), (10, pT i0), (11, .nilIface), (14, pT j0), (15, pT l0), (20, pT B1), (21, iN i), (22, pT i2), (23, pT V1), (24, pT W1), (78, .slice oa ops.length oc), (79, iN ops.length), (80, iN i)]) (fun (pa, pb) w' => (pa = ((simS Gb.lhash ops in0 in1 ws0 ws1 (dwS ops ((0 : Nat) : Int) (fTm 0) ws0 (dlN 0 ops)) (dwS ops ((1 : Nat) : Int) (fTm 1) ws1 (dlN 1 ops)) (dtS ops st0.t.l st0.b.l) (dtS ops st1.t.l st1.b.l) st0.o.l st1.o.l i).1.getD o.a.toNat 0#64, (simS Gb.lhash ops in0 in1 ws0 ws1 (dwS ops ((0 : Nat) : Int) (fTm 0) ws0 (dlN 0 ops)) (dwS ops ((1 : Nat) : Int) (fTm 1) ws1 (dlN 1 ops)) (dtS ops st0.t.l st0.b.l) (dtS ops st1.t.l st1.b.l) st0.o.l st1.o.l i).2.getD o.a.toNat 0#64) ∧ pb = ((simS Gb.lhash ops in0 in1 ws0 ws1 (dwS ops ((0 : Nat) : Int) (fTm 0) ws0 (dlN 0 ops)) (dwS ops ((1 : Nat) : Int) (fTm 1) ws1 (dlN 1 ops)) (dtS ops st0.t.l st0.b.l) (dtS ops st1.t.l st1.b.l) st0.o.l st1.o.l i).1.getD o.b.toNat 0#64, (simS Gb.lhash ops in0 in1 ws0 ws1 (dwS ops ((0 : Nat) : Int) (fTm 0) ws0 (dlN 0 ops)) (dwS ops ((1 : Nat) : Int) (fTm 1) ws1 (dlN 1 ops)) (dtS ops st0.t.l st0.b.l) (dtS ops st1.t.l st1.b.l) st0.o.l st1.o.l i).2.getD o.b.toNat 0#64)) ∧ Hp No w₀ w' (x2 :: x4 :: (rC B1 V2 24) :: (e0, sob EDr 91 a0 I0) :: (W0, sob EDr 91 m0 G1) :: (rC j0 Y2 81) :: (rX l0 E64 ([(dlS ops ws0 ws1).1, (dlS ops ws0 ws1).2]) 83) :: (rC h0 x3 24) :: (rC i0 #[sN0, sN0] 24) :: (rC tb0 x6 96) :: x9 :: (rC tb1 x8 96) :: C0 :: (rC i2 X2 36) :: (rX V1 E64 ([pa.1, pa.2]) 87) :: (rX W1 E64 ([pb.1, pb.2]) 87) :: (skR 66 121 114 sb0 d0 ++ (skR 66 121 114 sb1 V0 ++ (F1 ++ (F0 ++ R)))))) ?_ (fun A3 => ?_)
    ·rintro ⟨pa, pb⟩ ρ J8 ⟨⟨hpa, hpb⟩, J5⟩
     refine go 0 ?_
     let O1 : List RW := (x2 :: x4 :: (rC B1 V2 24) :: (e0, sob EDr 91 a0 I0) :: (W0, sob EDr 91 m0 G1) :: (rC j0 Y2 81) :: (rX l0 E64 ([(dlS ops ws0 ws1).1, (dlS ops ws0 ws1).2]) 83) :: (rC h0 x3 24) :: (rC i0 #[sN0, sN0] 24) :: (rC tb0 x6 96) :: x9 :: (rC tb1 x8 96) :: C0 :: (rC i2 X2 36) :: (rX V1 E64 ([pa.1, pa.2]) 87) :: (rX W1 E64 ([pb.1, pb.2]) 87) :: (skR 66 121 114 sb0 d0 ++ (skR 66 121 114 sb1 V0 ++ (F1 ++ (F0 ++ R)))))
     let K5 : Tab := [zt3 false false false fun _ _ _ w' => Hp No w₀ w' O1, zt3 true false false fun v17 _ _ w' => v17 = .agg (cel E64 [(oneS Gb.lhash o (i : Nat) pa pb in0 in1 (a0.getD i dr0).w (m0.getD i dr0).w (a0.getD i dr0).t (m0.getD i dr0).t (dlS ops ws0 ws1) (ZSf ops ws0 i) (OSf ops st0.o.l i) (OSf ops st1.o.l i)).1, (oneS Gb.lhash o (i : Nat) pa pb in0 in1 (a0.getD i dr0).w (m0.getD i dr0).w (a0.getD i dr0).t (m0.getD i dr0).t (dlS ops ws0 ws1) (ZSf ops ws0 i) (OSf ops st0.o.l i) (OSf ops st1.o.l i)).2]).toArray ∧ Hp No w₀ w' O1, zt3 false true false fun _ v18 _ w' => ∃ t2, v18 = pT t2 ∧ Hp No w₀ w' ((rX t2 E64 ([0#64, 0#64]) 87) :: O1), zt3 true true false fun v17 v18 _ w' => ∃ D1, v17 = .agg (cel E64 [(oneS Gb.lhash o (i : Nat) pa pb in0 in1 (a0.getD i dr0).w (m0.getD i dr0).w (a0.getD i dr0).t (m0.getD i dr0).t (dlS ops ws0 ws1) (ZSf ops ws0 i) (OSf ops st0.o.l i) (OSf ops st1.o.l i)).1, (oneS Gb.lhash o (i : Nat) pa pb in0 in1 (a0.getD i dr0).w (m0.getD i dr0).w (a0.getD i dr0).t (m0.getD i dr0).t (dlS ops ws0 ws1) (ZSf ops ws0 i) (OSf ops st0.o.l i) (OSf ops st1.o.l i)).2]).toArray ∧ v18 = pT D1 ∧ Hp No w₀ w' ((rX D1 E64 ([0#64, 0#64]) 87) :: O1), zt3 true true true fun v17 v18 _ w' => ∃ D1, v17 = .agg (cel E64 [(oneS Gb.lhash o (i : Nat) pa pb in0 in1 (a0.getD i dr0).w (m0.getD i dr0).w (a0.getD i dr0).t (m0.getD i dr0).t (dlS ops ws0 ws1) (ZSf ops ws0 i) (OSf ops st0.o.l i) (OSf ops st1.o.l i)).1, (oneS Gb.lhash o (i : Nat) pa pb in0 in1 (a0.getD i dr0).w (m0.getD i dr0).w (a0.getD i dr0).t (m0.getD i dr0).t (dlS ops ws0 ws1) (ZSf ops ws0 i) (OSf ops st0.o.l i) (OSf ops st1.o.l i)).2]).toArray ∧ v18 = pT D1 ∧ Hp No w₀ w' ((rX D1 E64 ([(oneS Gb.lhash o (i : Nat) pa pb in0 in1 (a0.getD i dr0).w (m0.getD i dr0).w (a0.getD i dr0).t (m0.getD i dr0).t (dlS ops ws0 ws1) (ZSf ops ws0 i) (OSf ops st0.o.l i) (OSf ops st1.o.l i)).1, (oneS Gb.lhash o (i : Nat) pa pb in0 in1 (a0.getD i dr0).w (m0.getD i dr0).w (a0.getD i dr0).t (m0.getD i dr0).t (dlS ops ws0 ws1) (ZSf ops ws0 i) (OSf ops st0.o.l i) (OSf ops st1.o.l i)).2]) 87) :: O1)]
     refine drawH (m := 20) [0, 0, 0, 0, 0, 0, 32, 0, 224, 480, 0, 1024, 0, 7168, 15360, 32736, 0, 131071, 0, 524287] [17, 18, 19] O1 K5 mixed (fun _ e => J5.ext e) (A_ (fun _ _ h => h) (A_ (fun _ _ ⟨_, h⟩ => h) (A_ (fun _ _ ⟨_, _, h⟩ => h.drop1) (A_ (fun _ _ ⟨_, _, _, h⟩ => h.drop1) (A_ (fun _ _ ⟨_, _, _, h⟩ => h.drop1) trivial))))) (fun Z2 => ?_)
     refine gk 17 ?_
     refine WalkT.eff Z2 0 ?_ ?_
     ·refine A_ (fun r w0 uw hF hE => ?_) (A_ (fun r w0 uw hF hE => ?_) trivial)
      ·have P1 := hF.ext hE
       refine gW fun Q' hK => (cl (one_ok o (i : Nat) pa pb in0 in1 na0 na1 nc0 nc1 (a0.getD i dr0) (m0.getD i dr0) (dlS ops ws0 ws1) (ZSf ops ws0 i) (OSf ops st0.o.l i) (OSf ops st1.o.l i) hkp uw vGl (hN0 _ P1.chg (fun p hp => P1.has p (mT (mT (mT (mT (mT (mT (mT (mT (mT (mT (mT (mT (mT (mT (mT (mT ((List.mem_append_right _ (List.mem_append_right _ (List.mem_append_right _ (List.mem_append_right _ hp))))))))))))))))))))))) (hN1 _ P1.chg (fun p hp => P1.has p (mT (mT (mT (mT (mT (mT (mT (mT (mT (mT (mT (mT (mT (mT (mT (mT ((List.mem_append_right _ (List.mem_append_right _ (List.mem_append_right _ (List.mem_append_right _ hp))))))))))))))))))))))) (fun h17 => garP_of U1 p2 rfl ho om h17 (garb_of h17 hgo.ok).1 hC0 hC1) (fun h17 => rds_of U1 p2 rfl ho om h17 (fun p hp => P1.has p (mT (mT (mT (mT (mT (mT (mT (mT (mT (mT (mT (mT (mT (mT (mT (mT ((List.mem_append_right _ (List.mem_append_right _ (List.mem_append_right _ (List.mem_append_left _ hp)))))))))))))))))))))) (fun p hp => P1.has p (mT (mT (mT (mT (mT (mT (mT (mT (mT (mT (mT (mT (mT (mT (mT (mT ((List.mem_append_right _ (List.mem_append_right _ (List.mem_append_left _ hp))))))))))))))))))))))) ?_)
       rintro _ K8 ⟨rfl, L5⟩
       have M5 := P1.ext L5
       exact hK _ _ (A_ rfl M5)
      ·obtain ⟨t2, X1, E1⟩ := hF
       replace E1 := E1.ext hE
       refine gW fun Q' hK => (cl (one_ok o (i : Nat) pa pb in0 in1 na0 na1 nc0 nc1 (a0.getD i dr0) (m0.getD i dr0) (dlS ops ws0 ws1) (ZSf ops ws0 i) (OSf ops st0.o.l i) (OSf ops st1.o.l i) hkp uw vGl (hN0 _ E1.chg (fun p hp => E1.has p (mT (mT (mT (mT (mT (mT (mT (mT (mT (mT (mT (mT (mT (mT (mT (mT (mT ((List.mem_append_right _ (List.mem_append_right _ (List.mem_append_right _ (List.mem_append_right _ hp)))))))))))))))))))))))) (hN1 _ E1.chg (fun p hp => E1.has p (mT (mT (mT (mT (mT (mT (mT (mT (mT (mT (mT (mT (mT (mT (mT (mT (mT ((List.mem_append_right _ (List.mem_append_right _ (List.mem_append_right _ (List.mem_append_right _ hp)))))))))))))))))))))))) (fun h17 => garP_of U1 p2 rfl ho om h17 (garb_of h17 hgo.ok).1 hC0 hC1) (fun h17 => rds_of U1 p2 rfl ho om h17 (fun p hp => E1.has p (mT (mT (mT (mT (mT (mT (mT (mT (mT (mT (mT (mT (mT (mT (mT (mT (mT ((List.mem_append_right _ (List.mem_append_right _ (List.mem_append_right _ (List.mem_append_left _ hp))))))))))))))))))))))) (fun p hp => E1.has p (mT (mT (mT (mT (mT (mT (mT (mT (mT (mT (mT (mT (mT (mT (mT (mT (mT ((List.mem_append_right _ (List.mem_append_right _ (List.mem_append_left _ hp)))))))))))))))))))))))) ?_)
       rintro _ L8 ⟨rfl, N5⟩
       have O5 := E1.ext N5
       exact hK _ _ (E_ t2 (A_ rfl (A_ X1 O5)))
     refine WalkT.eff Z2 1 ?_ ?_
     ·refine A_ (fun r w0 uw hF hE => ?_) (A_ (fun r w0 uw hF hE => ?_) trivial)
      ·have M8 := hF.ext hE
       refine gW fun Q' hK => ?_
       refine go 1 ?_
       intro P5 N8 O8 Q5 P8
       exact hK _ _ (E_ P5 (A_ rfl Q5))
      ·obtain ⟨Y1, B3⟩ := hF
       replace B3 := B3.ext hE
       refine gW fun Q' hK => ?_
       refine go 1 ?_
       intro R5 Q8 R8 S5 S8
       exact hK _ _ (E_ R5 (A_ Y1 (A_ rfl S5)))
     refine WalkT.eff Z2 2 ?_ ?_
     ·refine A_ (fun r w0 uw hF hE => ?_) trivial
      obtain ⟨D1, Y1, X1, C3⟩ := hF
      replace C3 := C3.ext hE
      dsimp only
      rw [Y1, X1]
      refine gW0 fun Q' hK => ?_
      refine go 1 ?_
      intro T8 T5 U8
      exact hK _ (fun _ => (E_ D1 (A_ Y1 (A_ X1 T5))))
     refine WalkT.nil fun r w0 V8 hF hE => ?_
     obtain ⟨D1, Y1, X1, j2⟩ := hF
     replace j2 := j2.ext hE
     dsimp only
     rw [Y1, X1]
     dsimp only [O1] at j2
     obtain ⟨xp, hxp⟩ : ∃ q, q = (oneS Gb.lhash o (i : Nat) pa pb in0 in1 (a0.getD i dr0).w (m0.getD i dr0).w (a0.getD i dr0).t (m0.getD i dr0).t (dlS ops ws0 ws1) (ZSf ops ws0 i) (OSf ops st0.o.l i) (OSf ops st1.o.l i)) := ⟨_, rfl⟩
     rw [← hxp] at j2
     have hsx : (simS Gb.lhash ops in0 in1 ws0 ws1 (dwS ops ((0 : Nat) : Int) (fTm 0) ws0 (dlN 0 ops)) (dwS ops ((1 : Nat) : Int) (fTm 1) ws1 (dlN 1 ops)) (dtS ops st0.t.l st0.b.l) (dtS ops st1.t.l st1.b.l) st0.o.l st1.o.l (i + 1)) = ((simS Gb.lhash ops in0 in1 ws0 ws1 (dwS ops ((0 : Nat) : Int) (fTm 0) ws0 (dlN 0 ops)) (dwS ops ((1 : Nat) : Int) (fTm 1) ws1 (dlN 1 ops)) (dtS ops st0.t.l st0.b.l) (dtS ops st1.t.l st1.b.l) st0.o.l st1.o.l i).1 ++ [xp.1], (simS Gb.lhash ops in0 in1 ws0 ws1 (dwS ops ((0 : Nat) : Int) (fTm 0) ws0 (dlN 0 ops)) (dwS ops ((1 : Nat) : Int) (fTm 1) ws1 (dlN 1 ops)) (dtS ops st0.t.l st0.b.l) (dtS ops st1.t.l st1.b.l) st0.o.l st1.o.l i).2 ++ [xp.2]) := by rw [simS, ← ho, hxp, hpa, hpb, h2.w i om, G2.w i om, h2.t i om, G2.t i om]
     refine go 0 ?_
     have U5 := (j2.pk 17 [1, 2, 3, 0, 4, 5, 6, 7, 8, 9, 10, 11, 12, 13, 14, 15, 16])
     let y1 : List RW := ((rX D1 E64 ([xp.1, xp.2]) 87) :: (e0, sob EDr 91 a0 I0) :: (W0, sob EDr 91 m0 G1) :: (rC j0 #[sO e0 ops.length R0, sO W0 ops.length T1] 81) :: (rX l0 E64 ([(dlS ops ws0 ws1).1, (dlS ops ws0 ws1).2]) 83) :: (rC h0 #[.slice na0 in0.length nc0, .slice na1 in1.length nc1] 24) :: (rC i0 #[sN0, sN0] 24) :: (rC tb0 #[sO tk0 ws0.length tc0, .pointer none, iN ws0.length, iN (dlN 0 ops + cntS (fTm 0) ops ops.length)] 96) :: (tk0, sob E64 34 ws0 ts0) :: (rC tb1 #[sO tk1 ws1.length tc1, .pointer none, iN ws1.length, iN (dlN 1 ops + cntS (fTm 1) ops ops.length)] 96) :: (tk1, sob E64 34 ws1 ts1) :: (rC i2 #[i64 (o.kd), i64 (o.a), i64 (o.b), i64 (o.k), u64 (o.c), i64 (o.pt)] 36) :: (rX V1 E64 ([pa.1, pa.2]) 87) :: (rX W1 E64 ([pb.1, pb.2]) 87) :: (skR 66 121 114 sb0 d0 ++ (skR 66 121 114 sb1 V0 ++ (F1 ++ (F0 ++ R)))))
     let K1 := fun (b0 : Nat) => (((some b0), sob E64 34 ([xp.1]) ([])) : RW)
     let k2 := fun (x0 : Nat) => (((some x0), sob E64 34 ([xp.2]) ([])) : RW)
     let Z1 := fun (f0 : Option Nat) (p0 : LV) => ((f0, sob E64 34 (((simS Gb.lhash ops in0 in1 ws0 ws1 (dwS ops ((0 : Nat) : Int) (fTm 0) ws0 (dlN 0 ops)) (dwS ops ((1 : Nat) : Int) (fTm 1) ws1 (dlN 1 ops)) (dtS ops st0.t.l st0.b.l) (dtS ops st1.t.l st1.b.l) st0.o.l st1.o.l i).1) ++ ([xp.1])) p0) : RW)
     let u2 := fun (J0 : Option Nat) (S0 : LV) => ((J0, sob E64 34 (((simS Gb.lhash ops in0 in1 ws0 ws1 (dwS ops ((0 : Nat) : Int) (fTm 0) ws0 (dlN 0 ops)) (dwS ops ((1 : Nat) : Int) (fTm 1) ws1 (dlN 1 ops)) (dtS ops st0.t.l st0.b.l) (dtS ops st1.t.l st1.b.l) st0.o.l st1.o.l i).2) ++ ([xp.2])) S0) : RW)
     let w2 := ((kw0, sob E64 34 ((simS Gb.lhash ops in0 in1 ws0 ws1 (dwS ops ((0 : Nat) : Int) (fTm 0) ws0 (dlN 0 ops)) (dwS ops ((1 : Nat) : Int) (fTm 1) ws1 (dlN 1 ops)) (dtS ops st0.t.l st0.b.l) (dtS ops st1.t.l st1.b.l) st0.o.l st1.o.l i).1) sw0) : RW)
     let c2 := ((kw1, sob E64 34 ((simS Gb.lhash ops in0 in1 ws0 ws1 (dwS ops ((0 : Nat) : Int) (fTm 0) ws0 (dlN 0 ops)) (dwS ops ((1 : Nat) : Int) (fTm 1) ws1 (dlN 1 ops)) (dtS ops st0.t.l st0.b.l) (dtS ops st1.t.l st1.b.l) st0.o.l st1.o.l i).2) sw1) : RW)
     let Q1 := ((rC B1 #[sO kw0 i J1, sO kw1 i C1] 24) : RW)
     let L1 := fun (b0 : Nat) => (Sl E64 (some b0) ([xp.1]) 1 ([]) : Prop)
     let l2 := fun (x0 : Nat) => (Sl E64 (some x0) ([xp.2]) 1 ([]) : Prop)
     let d2 := fun (f0 : Option Nat) (q0 : Nat) (p0 : LV) => (Sl E64 f0 (((simS Gb.lhash ops in0 in1 ws0 ws1 (dwS ops ((0 : Nat) : Int) (fTm 0) ws0 (dlN 0 ops)) (dwS ops ((1 : Nat) : Int) (fTm 1) ws1 (dlN 1 ops)) (dtS ops st0.t.l st0.b.l) (dtS ops st1.t.l st1.b.l) st0.o.l st1.o.l i).1) ++ ([xp.1])) q0 p0 : Prop)
     let y2 := fun (J0 : Option Nat) (T0 : Nat) (S0 : LV) => (Sl E64 J0 (((simS Gb.lhash ops in0 in1 ws0 ws1 (dwS ops ((0 : Nat) : Int) (fTm 0) ws0 (dlN 0 ops)) (dwS ops ((1 : Nat) : Int) (fTm 1) ws1 (dlN 1 ops)) (dtS ops st0.t.l st0.b.l) (dtS ops st1.t.l st1.b.l) st0.o.l st1.o.l i).2) ++ ([xp.2])) T0 S0 : Prop)
     let V5 : Tab := [zt6 false false false false false false fun _ _ _ _ _ _ w' => Hp No w₀ w' (w2 :: c2 :: Q1 :: y1), zt6 true false false false false false fun v4 _ _ _ _ _ w' => ∃ b0, v4 = sO (some b0) 1 1 ∧ (L1 b0) ∧ Hp No w₀ w' ((K1 b0) :: w2 :: c2 :: Q1 :: y1), zt6 true true false false false false fun v4 v5 _ _ _ _ w' => ∃ b0 f0 q0 p0, v4 = sO (some b0) 1 1 ∧ v5 = sO f0 (i + 1) q0 ∧ (L1 b0) ∧ (d2 f0 q0 p0) ∧ Hp No w₀ w' ((K1 b0) :: (Z1 f0 p0) :: c2 :: Q1 :: y1), zt6 false false true false false false fun _ _ v10 _ _ _ w' => ∃ m2, v10 = sO (some m2) 1 1 ∧ Sl E64 (some m2) ([xp.2]) 1 ([]) ∧ Hp No w₀ w' (((some m2), sob E64 34 ([xp.2]) ([])) :: w2 :: c2 :: Q1 :: y1), zt6 true false true false false false fun v4 _ v10 _ _ _ w' => ∃ b0 n2, v4 = sO (some b0) 1 1 ∧ v10 = sO (some n2) 1 1 ∧ Sl E64 (some n2) ([xp.2]) 1 ([]) ∧ (L1 b0) ∧ Hp No w₀ w' (((some n2), sob E64 34 ([xp.2]) ([])) :: (K1 b0) :: w2 :: c2 :: Q1 :: y1), zt6 true true true false false false fun v4 v5 v10 _ _ _ w' => ∃ b0 f0 q0 p0 x0, v4 = sO (some b0) 1 1 ∧ v5 = sO f0 (i + 1) q0 ∧ v10 = sO (some x0) 1 1 ∧ (l2 x0) ∧ (L1 b0) ∧ (d2 f0 q0 p0) ∧ Hp No w₀ w' ((k2 x0) :: (K1 b0) :: (Z1 f0 p0) :: c2 :: Q1 :: y1), zt6 true true true true false false fun v4 v5 v10 v11 _ _ w' => ∃ b0 f0 q0 p0 x0 J0 T0 S0, v4 = sO (some b0) 1 1 ∧ v5 = sO f0 (i + 1) q0 ∧ v10 = sO (some x0) 1 1 ∧ v11 = sO J0 (i + 1) T0 ∧ (l2 x0) ∧ (L1 b0) ∧ (d2 f0 q0 p0) ∧ (y2 J0 T0 S0) ∧ Hp No w₀ w' ((k2 x0) :: (K1 b0) :: (Z1 f0 p0) :: (u2 J0 S0) :: Q1 :: y1), zt6 true true true true true false fun v4 v5 v10 v11 _ _ w' => ∃ b0 f0 q0 p0 x0 J0 T0 S0, v4 = sO (some b0) 1 1 ∧ v5 = sO f0 (i + 1) q0 ∧ v10 = sO (some x0) 1 1 ∧ v11 = sO J0 (i + 1) T0 ∧ (l2 x0) ∧ (L1 b0) ∧ (d2 f0 q0 p0) ∧ (y2 J0 T0 S0) ∧ Hp No w₀ w' ((k2 x0) :: (K1 b0) :: (Z1 f0 p0) :: (u2 J0 S0) :: (rC B1 #[sO f0 (i + 1) q0, sO kw1 i C1] 24) :: y1), zt6 true true true true true true fun v4 v5 v10 v11 _ _ w' => ∃ b0 f0 q0 p0 x0 J0 T0 S0, v4 = sO (some b0) 1 1 ∧ v5 = sO f0 (i + 1) q0 ∧ v10 = sO (some x0) 1 1 ∧ v11 = sO J0 (i + 1) T0 ∧ (l2 x0) ∧ (L1 b0) ∧ (d2 f0 q0 p0) ∧ (y2 J0 T0 S0) ∧ Hp No w₀ w' ((k2 x0) :: (K1 b0) :: (Z1 f0 p0) :: (u2 J0 S0) :: (rC B1 #[sO f0 (i + 1) q0, sO J0 (i + 1) T0] 24) :: y1)]
     refine drawH (m := 16) [0, 1, 0, 4, 12, 31, 0, 64, 0, 256, 768, 2047, 255, 8191, 16383, 32767] [4, 5, 10, 11, 13, 15] y1 V5 mixed (fun _ e => U5.ext e) (A_ (fun _ _ h => h.drop1.drop1.drop1) (A_ (fun _ _ ⟨_, _, _, h⟩ => h.drop1.drop1.drop1.drop1) (A_ (fun _ _ ⟨_, _, _, _, _, _, _, _, h⟩ => h.drop1.drop1.drop1.drop1) (A_ (fun _ _ ⟨_, _, _, h⟩ => h.drop1.drop1.drop1.drop1) (A_ (fun _ _ ⟨_, _, _, _, _, _, h⟩ => h.drop1.drop1.drop1.drop1.drop1) (A_ (fun _ _ ⟨_, _, _, _, _, _, _, _, _, _, _, h⟩ => h.drop1.drop1.drop1.drop1.drop1) (A_ (fun _ _ ⟨_, _, _, _, _, _, _, _, _, _, _, _, _, _, _, _, h⟩ => h.drop1.drop1.drop1.drop1.drop1) (A_ (fun _ _ ⟨_, _, _, _, _, _, _, _, _, _, _, _, _, _, _, _, h⟩ => h.drop1.drop1.drop1.drop1.drop1) (A_ (fun _ _ ⟨_, _, _, _, _, _, _, _, _, _, _, _, _, _, _, _, h⟩ => h.drop1.drop1.drop1.drop1.drop1) trivial))))))))) (fun e2 => ?_)
     refine gk 4 ?_
     refine WalkT.eff e2 0 ?_ ?_
     ·refine A_ (fun r w0 uw hF hE => ?_) (A_ (fun r w0 uw hF hE => ?_) trivial)
      ·have W8 := hF.ext hE
       exact gW fun Q' hK => (bS (E := E64) (l := [xp.1]) fun W5 X8 X5 Y5 Y8 => hK _ _ (E_ W5 (A_ rfl (A_ X5 Y5))))
      ·obtain ⟨m2, t1, Z5, D3⟩ := hF
       replace D3 := D3.ext hE
       exact gW fun Q' hK => (bS (E := E64) (l := [xp.1]) fun c6 Z8 d6 e6 c9 => hK _ _ (E_ c6 (E_ m2 (A_ rfl (A_ t1 (A_ Z5 (A_ d6 ((e6.pk 5 [1, 0, 2, 3, 4])))))))))
     refine WalkT.eff e2 1 ?_ ?_
     ·refine A_ (fun r w0 uw hF hE => ?_) (A_ (fun r w0 uw hF hE => ?_) trivial)
      ·obtain ⟨b0, e4, U0, E3⟩ := hF
       replace E3 := E3.ext hE
       dsimp only
       rw [e4]
       refine gW fun Q' hK => ?_
       refine apq ?_
       refine ⟨by exact hwl0.symm, by rfl, om, ?_⟩
       intro f6 g6 h6 d9 i6 e9 j6
       exact hK _ _ (E_ b0 (E_ f6 (E_ g6 (E_ h6 (A_ e4 (A_ rfl (A_ U0 (A_ i6 j6))))))))
      ·obtain ⟨b0, n2, e4, t1, k6, U0, F3⟩ := hF
       replace F3 := F3.ext hE
       dsimp only
       rw [e4]
       refine gW fun Q' hK => ?_
       refine apq ?_
       refine ⟨by exact hwl0.symm, by rfl, om, ?_⟩
       intro l6 m6 n6 f9 o6 g9 p6
       exact hK _ _ (E_ b0 (E_ l6 (E_ m6 (E_ n6 (E_ n2 (A_ e4 (A_ rfl (A_ t1 (A_ k6 (A_ U0 (A_ o6 p6)))))))))))
     refine gk 4 ?_
     refine WalkT.eff e2 2 ?_ ?_
     ·refine A_ (fun r w0 uw hF hE => ?_) (A_ (fun r w0 uw hF hE => ?_) (A_ (fun r w0 uw hF hE => ?_) trivial))
      ·have h9 := hF.ext hE
       exact gW fun Q' hK => (bS (E := E64) (l := [xp.2]) fun q6 i9 r6 s6 j9 => hK _ _ (E_ q6 (A_ rfl (A_ r6 s6))))
      ·obtain ⟨b0, e4, U0, G3⟩ := hF
       replace G3 := G3.ext hE
       exact gW fun Q' hK => (bS (E := E64) (l := [xp.2]) fun t6 k9 u6 w6 l9 => hK _ _ (E_ b0 (E_ t6 (A_ e4 (A_ rfl (A_ u6 (A_ U0 w6)))))))
      ·obtain ⟨b0, f0, q0, p0, e4, e5, U0, A1, H3⟩ := hF
       replace H3 := H3.ext hE
       exact gW fun Q' hK => (bS (E := E64) (l := [xp.2]) fun y6 m9 z6 A6 n9 => hK _ _ (E_ b0 (E_ f0 (E_ q0 (E_ p0 (E_ y6 (A_ e4 (A_ e5 (A_ rfl (A_ z6 (A_ U0 (A_ A1 A6))))))))))))
     refine WalkT.eff e2 3 ?_ ?_
     ·refine A_ (fun r w0 uw hF hE => ?_) trivial
      obtain ⟨b0, f0, q0, p0, x0, e4, e5, t1, R1, U0, A1, I3⟩ := hF
      replace I3 := I3.ext hE
      dsimp only
      rw [t1]
      refine gW fun Q' hK => ?_
      refine apq ?_
      refine ⟨by exact hwl1.symm, by rfl, om, ?_⟩
      intro B6 C6 D6 o9 E6 p9 F6
      exact hK _ _ (E_ b0 (E_ f0 (E_ q0 (E_ p0 (E_ x0 (E_ B6 (E_ C6 (E_ D6 (A_ e4 (A_ e5 (A_ t1 (A_ rfl (A_ R1 (A_ U0 (A_ A1 (A_ E6 F6))))))))))))))))
     refine gk 1 ?_
     refine WalkT.eff e2 4 ?_ ?_
     ·refine A_ (fun r w0 uw hF hE => ?_) trivial
      obtain ⟨b0, f0, q0, p0, x0, J0, T0, S0, e4, e5, t1, f2, R1, U0, A1, g2, J3⟩ := hF
      replace J3 := J3.ext hE
      dsimp only
      rw [e5]
      refine gW0 fun Q' hK => ?_
      refine go 1 ?_
      intro q9 G6 r9
      exact hK _ (fun _ => (E_ b0 (E_ f0 (E_ q0 (E_ p0 (E_ x0 (E_ J0 (E_ T0 (E_ S0 (A_ e4 (A_ e5 (A_ t1 (A_ f2 (A_ R1 (A_ U0 (A_ A1 (A_ g2 G6)))))))))))))))))
     refine gk 1 ?_
     refine WalkT.eff e2 5 ?_ ?_
     ·refine A_ (fun r w0 uw hF hE => ?_) trivial
      obtain ⟨b0, f0, q0, p0, x0, J0, T0, S0, e4, e5, t1, f2, R1, U0, A1, g2, K3⟩ := hF
      replace K3 := K3.ext hE
      dsimp only
      rw [f2]
      refine gW0 fun Q' hK => ?_
      refine go 1 ?_
      intro s9 H6 t9
      exact hK _ (fun _ => (E_ b0 (E_ f0 (E_ q0 (E_ p0 (E_ x0 (E_ J0 (E_ T0 (E_ S0 (A_ e4 (A_ e5 (A_ t1 (A_ f2 (A_ R1 (A_ U0 (A_ A1 (A_ g2 H6)))))))))))))))))
     refine WalkT.nil fun r w0 u9 hF hE => ?_
     obtain ⟨b0, f0, q0, p0, x0, J0, T0, S0, e4, e5, t1, f2, R1, U0, A1, g2, z2⟩ := hF
     replace z2 := z2.ext hE
     dsimp only
     rw [e4, e5, t1, f2]
     dsimp only [l2] at R1
     dsimp only [L1] at U0
     dsimp only [d2] at A1
     dsimp only [y2] at g2
     dsimp only [y1, k2, K1, Z1, u2] at z2
     refine go 2 ?_
     have I6 : ((simS Gb.lhash ops in0 in1 ws0 ws1 (dwS ops ((0 : Nat) : Int) (fTm 0) ws0 (dlN 0 ops)) (dwS ops ((1 : Nat) : Int) (fTm 1) ws1 (dlN 1 ops)) (dtS ops st0.t.l st0.b.l) (dtS ops st1.t.l st1.b.l) st0.o.l st1.o.l i).1) ++ ([xp.1]) = (simS Gb.lhash ops in0 in1 ws0 ws1 (dwS ops ((0 : Nat) : Int) (fTm 0) ws0 (dlN 0 ops)) (dwS ops ((1 : Nat) : Int) (fTm 1) ws1 (dlN 1 ops)) (dtS ops st0.t.l st0.b.l) (dtS ops st1.t.l st1.b.l) st0.o.l st1.o.l (i + 1)).1 := by rw [hsx]
     have L3 := A1
     have M3 := z2
     rw [I6] at L3 M3
     have J6 : ((simS Gb.lhash ops in0 in1 ws0 ws1 (dwS ops ((0 : Nat) : Int) (fTm 0) ws0 (dlN 0 ops)) (dwS ops ((1 : Nat) : Int) (fTm 1) ws1 (dlN 1 ops)) (dtS ops st0.t.l st0.b.l) (dtS ops st1.t.l st1.b.l) st0.o.l st1.o.l i).2) ++ ([xp.2]) = (simS Gb.lhash ops in0 in1 ws0 ws1 (dwS ops ((0 : Nat) : Int) (fTm 0) ws0 (dlN 0 ops)) (dwS ops ((1 : Nat) : Int) (fTm 1) ws1 (dlN 1 ops)) (dtS ops st0.t.l st0.b.l) (dtS ops st1.t.l st1.b.l) st0.o.l st1.o.l (i + 1)).2 := by rw [hsx]
     have N3 := g2
     have O3 := M3
     rw [J6] at N3 O3
     exact ⟨(i + 1, f0, q0, p0, J0, T0, S0), _, rfl, kp, ⟨⟨om, L3, N3⟩, ((((((O3.dropk 18).dropk 17).dropk 16).dropk 5).dropk 1).dropk 0)⟩, vd⟩
    ·refine go 4 ?_
     refine condProp (((0 : Int) : Int) < (i : Nat)) rfl (fun K6 => ?_) (fun K6 => ?_)
     ·let o2 : List RW := ((rC i2 X2 36) :: x2 :: x4 :: (rC B1 V2 24) :: (e0, sob EDr 91 a0 I0) :: (W0, sob EDr 91 m0 G1) :: (rC j0 Y2 81) :: (rX l0 E64 ([(dlS ops ws0 ws1).1, (dlS ops ws0 ws1).2]) 83) :: (rC h0 x3 24) :: (rC i0 #[sN0, sN0] 24) :: (rC tb0 x6 96) :: x9 :: (rC tb1 x8 96) :: C0 :: (skR 66 121 114 sb0 d0 ++ (skR 66 121 114 sb1 V0 ++ (F1 ++ (F0 ++ R)))))
      let c3 := ((rX V1 E64 ([((simS Gb.lhash ops in0 in1 ws0 ws1 (dwS ops ((0 : Nat) : Int) (fTm 0) ws0 (dlN 0 ops)) (dwS ops ((1 : Nat) : Int) (fTm 1) ws1 (dlN 1 ops)) (dtS ops st0.t.l st0.b.l) (dtS ops st1.t.l st1.b.l) st0.o.l st1.o.l i).1).getD o.a.toNat 0#64, ((simS Gb.lhash ops in0 in1 ws0 ws1 (dwS ops ((0 : Nat) : Int) (fTm 0) ws0 (dlN 0 ops)) (dwS ops ((1 : Nat) : Int) (fTm 1) ws1 (dlN 1 ops)) (dtS ops st0.t.l st0.b.l) (dtS ops st1.t.l st1.b.l) st0.o.l st1.o.l i).2).getD o.a.toNat 0#64]) 87) : RW)
      let P3 := ((rX W1 E64 ([0#64, 0#64]) 87) : RW)
      let L6 : Tab := [zt2 false false fun _ _ w' => Hp No w₀ w' (P3 :: (rX V1 E64 ([0#64, 0#64]) 87) :: o2), zt2 true false fun _ _ w' => Hp No w₀ w' (P3 :: c3 :: o2), zt2 true true fun _ _ w' => Hp No w₀ w' ((rX W1 E64 ([((simS Gb.lhash ops in0 in1 ws0 ws1 (dwS ops ((0 : Nat) : Int) (fTm 0) ws0 (dlN 0 ops)) (dwS ops ((1 : Nat) : Int) (fTm 1) ws1 (dlN 1 ops)) (dtS ops st0.t.l st0.b.l) (dtS ops st1.t.l st1.b.l) st0.o.l st1.o.l i).1).getD o.b.toNat 0#64, ((simS Gb.lhash ops in0 in1 ws0 ws1 (dwS ops ((0 : Nat) : Int) (fTm 0) ws0 (dlN 0 ops)) (dwS ops ((1 : Nat) : Int) (fTm 1) ws1 (dlN 1 ops)) (dtS ops st0.t.l st0.b.l) (dtS ops st1.t.l st1.b.l) st0.o.l st1.o.l i).2).getD o.b.toNat 0#64]) 87) :: c3 :: o2)]
      refine drawH (m := 28) [0, 1, 0, 4, 15, 31, 0, 64, 0, 256, 960, 1984, 4095, 0, 8192, 0, 32768, 122880, 253952, 0, 524288, 0, 2097152, 7864320, 16252928, 33546240, 8191, 134217727] [26, 27] o2 L6 mixed (fun _ e => z3.ext e) (A_ (fun _ _ h => h.drop1.drop1) (A_ (fun _ _ h => h.drop1.drop1) (A_ (fun _ _ h => h.drop1.drop1) trivial))) (fun Q3 => ?_)
      refine gk 26 ?_
      refine WalkT.eff Q3 0 ?_ ?_
      ·refine A_ (fun r w0 uw hF hE => ?_) trivial
       have w9 := hF.ext hE
       refine gW0 fun Q' hK => ?_
       refine go 1 ?_
       intro y9 M6 z9
       exact hK _ (fun _ => M6)
      refine WalkT.eff Q3 1 ?_ ?_
      ·refine A_ (fun r w0 uw hF hE => ?_) trivial
       have A9 := hF.ext hE
       refine gW0 fun Q' hK => ?_
       refine go 1 ?_
       intro B9 N6 C9
       exact hK _ (fun _ => N6)
      refine WalkT.nil fun r w0 D9 hF hE => ?_
      have R3 := hF.ext hE
      dsimp only
      dsimp only [o2, c3] at R3
      exact wnil (thenNormal (A3 (((simS Gb.lhash ops in0 in1 ws0 ws1 (dwS ops ((0 : Nat) : Int) (fTm 0) ws0 (dlN 0 ops)) (dwS ops ((1 : Nat) : Int) (fTm 1) ws1 (dlN 1 ops)) (dtS ops st0.t.l st0.b.l) (dtS ops st1.t.l st1.b.l) st0.o.l st1.o.l i).1.getD o.a.toNat 0#64, (simS Gb.lhash ops in0 in1 ws0 ws1 (dwS ops ((0 : Nat) : Int) (fTm 0) ws0 (dlN 0 ops)) (dwS ops ((1 : Nat) : Int) (fTm 1) ws1 (dlN 1 ops)) (dtS ops st0.t.l st0.b.l) (dtS ops st1.t.l st1.b.l) st0.o.l st1.o.l i).2.getD o.a.toNat 0#64), ((simS Gb.lhash ops in0 in1 ws0 ws1 (dwS ops ((0 : Nat) : Int) (fTm 0) ws0 (dlN 0 ops)) (dwS ops ((1 : Nat) : Int) (fTm 1) ws1 (dlN 1 ops)) (dtS ops st0.t.l st0.b.l) (dtS ops st1.t.l st1.b.l) st0.o.l st1.o.l i).1.getD o.b.toNat 0#64, (simS Gb.lhash ops in0 in1 ws0 ws1 (dwS ops ((0 : Nat) : Int) (fTm 0) ws0 (dlN 0 ops)) (dwS ops ((1 : Nat) : Int) (fTm 1) ws1 (dlN 1 ops)) (dtS ops st0.t.l st0.b.l) (dtS ops st1.t.l st1.b.l) st0.o.l st1.o.l i).2.getD o.b.toNat 0#64)) _ _ kp ⟨⟨rfl, rfl⟩, (R3.pk 16 [3, 4, 5, 6, 7, 8, 9, 10, 11, 12, 13, 14, 15, 2, 1, 0])⟩))
     ·refine skipAny (thenNormal ?_)
      have S3 : i = 0 := by omega
      have hz1 : ((0#64, 0#64) : W2) = ((simS Gb.lhash ops in0 in1 ws0 ws1 (dwS ops ((0 : Nat) : Int) (fTm 0) ws0 (dlN 0 ops)) (dwS ops ((1 : Nat) : Int) (fTm 1) ws1 (dlN 1 ops)) (dtS ops st0.t.l st0.b.l) (dtS ops st1.t.l st1.b.l) st0.o.l st1.o.l i).1.getD o.a.toNat 0#64, (simS Gb.lhash ops in0 in1 ws0 ws1 (dwS ops ((0 : Nat) : Int) (fTm 0) ws0 (dlN 0 ops)) (dwS ops ((1 : Nat) : Int) (fTm 1) ws1 (dlN 1 ops)) (dtS ops st0.t.l st0.b.l) (dtS ops st1.t.l st1.b.l) st0.o.l st1.o.l i).2.getD o.a.toNat 0#64) := by subst S3; rfl
      have hz2 : ((0#64, 0#64) : W2) = ((simS Gb.lhash ops in0 in1 ws0 ws1 (dwS ops ((0 : Nat) : Int) (fTm 0) ws0 (dlN 0 ops)) (dwS ops ((1 : Nat) : Int) (fTm 1) ws1 (dlN 1 ops)) (dtS ops st0.t.l st0.b.l) (dtS ops st1.t.l st1.b.l) st0.o.l st1.o.l i).1.getD o.b.toNat 0#64, (simS Gb.lhash ops in0 in1 ws0 ws1 (dwS ops ((0 : Nat) : Int) (fTm 0) ws0 (dlN 0 ops)) (dwS ops ((1 : Nat) : Int) (fTm 1) ws1 (dlN 1 ops)) (dtS ops st0.t.l st0.b.l) (dtS ops st1.t.l st1.b.l) st0.o.l st1.o.l i).2.getD o.b.toNat 0#64) := by subst S3; rfl
      exact A3 ((0#64, 0#64), (0#64, 0#64)) _ _ kp ⟨⟨hz1, hz2⟩, (z3.pk 16 [3, 4, 5, 6, 7, 8, 9, 10, 11, 12, 13, 14, 15, 2, 1, 0])⟩
   ·have hie : i = ops.length := by omega
    subst hie
    refine go 2 ?_
    intro E9 O6 F9
    refine go 1 ?_
    have P6 := (Hp.segT (S := [[(kw0, sob E64 34 ((simS Gb.lhash ops in0 in1 ws0 ws1 (dwS ops ((0 : Nat) : Int) (fTm 0) ws0 (dlN 0 ops)) (dwS ops ((1 : Nat) : Int) (fTm 1) ws1 (dlN 1 ops)) (dtS ops st0.t.l st0.b.l) (dtS ops st1.t.l st1.b.l) st0.o.l st1.o.l ops.length).1) sw0), (kw1, sob E64 34 ((simS Gb.lhash ops in0 in1 ws0 ws1 (dwS ops ((0 : Nat) : Int) (fTm 0) ws0 (dlN 0 ops)) (dwS ops ((1 : Nat) : Int) (fTm 1) ws1 (dlN 1 ops)) (dtS ops st0.t.l st0.b.l) (dtS ops st1.t.l st1.b.l) st0.o.l st1.o.l ops.length).2) sw1), (rC tb0 x1 96), x9, (rC tb1 x7 96), C0], skR 66 121 114 sb0 d0, skR 66 121 114 sb1 V0, F1, F0]) (Y := R) (((((((O6.dropk 8).dropk 7).dropk 6).dropk 5).dropk 4).dropk 3).dropk 2) 5 rfl [0, 1, 2] [3, 4] (by decide)).as (L' := (_ :: _ :: _ :: _ :: _ :: _ :: (skR 66 121 114 sb0 d0 ++ (skR 66 121 114 sb1 V0 ++ R)))) rfl
    exact ⟨_, rfl, kw0, J1, sw0, kw1, C1, sw1, d0, V0, rfl, hSk0, hSk1, D2, hst0, E2, F2, d4, hst1, f4, g4, P6⟩
end Go.Proofs.YtohngnahcgbfmaaGreatDoor.Ms
namespace Go.Proofs.YtohngnahcgbfmaaGreatDoor.Ms
open Go Vc Er Ek Circ Mi
open Co Cm
open Go.Proofs.YtohngnahcgbfmaaGreatDoor (Gb.lhash)
open Gb (lb0 lx lw gS eS oL colS askS repS pickS)
theorem sima_ok (ops : List Mo) (oa : Option Addr) (oc : Nat) (in0 in1 : List (BitVec 64)) (na0 na1 : Option Addr) (nc0 nc1 : Nat) (tb0 : Nat) (tk0 : Option Nat) (tc0 : Nat) (ts0 : LV) (ws0 : List (BitVec 64)) (hSw0 : Sl E64 tk0 ws0 tc0 ts0) (hwl0 : ws0.length ≤ 140737488355328) (tb1 : Nat) (tk1 : Option Nat) (tc1 : Nat) (ts1 : LV) (ws1 : List (BitVec 64)) (hSw1 : Sl E64 tk1 ws1 tc1 ts1) (hwl1 : ws1.length ≤ 140737488355328) (sb0 sb1 : Nat) (st0 st1 : Sk) (hst0 : st0.ok) (hst1 : st1.ok) (R : List RW) (w₀ w : World) (hG : Gl w₀) (hgd : Mi.Good ops ((in0.length : Nat) : Int) ((in1.length : Nat) : Int)) (hkd : ∀ j, j < ops.length → KdA (ops.getD j mo0) in0.length in1.length) (hT0 : cntS (fIn ((0 : Nat) : Int)) ops ops.length ≤ ws0.length) (hA0 : cntS fA ops ops.length ≤ st0.t.l.length) (hB0 : cntS fB ops ops.length ≤ st0.b.l.length) (hT1 : cntS (fIn ((1 : Nat) : Int)) ops ops.length ≤ ws1.length) (hA1 : cntS fA ops ops.length ≤ st1.t.l.length) (hB1 : cntS fB ops ops.length ≤ st1.b.l.length) (hO : ∀ w', Ext w₀ w' → (∀ p ∈ R, ∀ b, p.1 = some b → w'.heap[b]? = some p.2) → Rd EMo w' oa ops) (hN0 : ∀ w', Ext w₀ w' → (∀ p ∈ R, ∀ b, p.1 = some b → w'.heap[b]? = some p.2) → Rd E64 w' na0 in0) (hN1 : ∀ w', Ext w₀ w' → (∀ p ∈ R, ∀ b, p.1 = some b → w'.heap[b]? = some p.2) → Rd E64 w' na1 in1) (H : Hp No w₀ w ((rC tb0 #[sO tk0 ws0.length tc0, .pointer none, iN ws0.length, iN 0] 96) :: (tk0, sob E64 34 ws0 ts0) :: (rC tb1 #[sO tk1 ws1.length tc1, .pointer none, iN ws1.length, iN 0] 96) :: (tk1, sob E64 34 ws1 ts1) :: (skR 66 121 114 sb0 st0 ++ (skR 66 121 114 sb1 st1 ++ R)))) : Calls Tryz.prog 10 [.slice oa ops.length oc, .agg (cel EI [((in0.length : Nat) : Int), ((in1.length : Nat) : Int)]).toArray, .agg #[.slice na0 in0.length nc0, .slice na1 in1.length nc1], .agg #[pT tb0, pT tb1], .agg #[pT sb0, pT sb1]].toArray w (Ret fun v w' => ∃ (k0 : Option Nat) (c0 : Nat) (z0 : LV) (k1 : Option Nat) (c1 : Nat) (z1 : LV) (u0 u1 : Sk), v = .tuple #[.agg #[sO k0 ops.length c0, sO k1 ops.length c1], .nilIface] ∧ Sl E64 k0 (simA ops in0 in1 (dwS ops ((0 : Nat) : Int) (fIn ((0 : Nat) : Int)) ws0 0) (dwS ops ((1 : Nat) : Int) (fIn ((1 : Nat) : Int)) ws1 0) (dtS ops st0.t.l st0.b.l) (dtS ops st1.t.l st1.b.l) ops.length).1 c0 z0 ∧ Sl E64 k1 (simA ops in0 in1 (dwS ops ((0 : Nat) : Int) (fIn ((0 : Nat) : Int)) ws0 0) (dwS ops ((1 : Nat) : Int) (fIn ((1 : Nat) : Int)) ws1 0) (dtS ops st0.t.l st0.b.l) (dtS ops st1.t.l st1.b.l) ops.length).2 c1 z1 ∧ Hp No w₀ w' ((k0, sob E64 34 (simA ops in0 in1 (dwS ops ((0 : Nat) : Int) (fIn ((0 : Nat) : Int)) ws0 0) (dwS ops ((1 : Nat) : Int) (fIn ((1 : Nat) : Int)) ws1 0) (dtS ops st0.t.l st0.b.l) (dtS ops st1.t.l st1.b.l) ops.length).1 z0) :: (k1, sob E64 34 (simA ops in0 in1 (dwS ops ((0 : Nat) : Int) (fIn ((0 : Nat) : Int)) ws0 0) (dwS ops ((1 : Nat) : Int) (fIn ((1 : Nat) : Int)) ws1 0) (dtS ops st0.t.l st0.b.l) (dtS ops st1.t.l st1.b.l) ops.length).2 z1) :: (skR 66 121 114 sb0 u0 ++ (skR 66 121 114 sb1 u1 ++ R)))) := by
 have hng : ∀ j, j < ops.length → (ops.getD j mo0).kd ≠ 17 := fun j hj e => by have := (hkd j hj).kd; omega
 have hn := noG hng
 have t0 := hn.t0 ops.length (Nat.le_refl _)
 have t1 := hn.t1 ops.length (Nat.le_refl _)
 have hs : (simS Gb.lhash ops in0 in1 ws0 ws1 (dwS ops ((0 : Nat) : Int) (fTm 0) ws0 (dlN 0 ops)) (dwS ops ((1 : Nat) : Int) (fTm 1) ws1 (dlN 1 ops)) (dtS ops st0.t.l st0.b.l) (dtS ops st1.t.l st1.b.l) st0.o.l st1.o.l ops.length) = (simA ops in0 in1 (dwS ops ((0 : Nat) : Int) (fIn ((0 : Nat) : Int)) ws0 0) (dwS ops ((1 : Nat) : Int) (fIn ((1 : Nat) : Int)) ws1 0) (dtS ops st0.t.l st0.b.l) (dtS ops st1.t.l st1.b.l) ops.length) := sim_plain ops.length (Nat.le_refl _) hkd (fun j hj => dw_eq (hn.t0 j om)) (fun j hj => dw_eq (hn.t1 j om))
 refine (sim_ok ops oa oc in0 in1 na0 na1 nc0 nc1 tb0 tk0 tc0 ts0 ws0 hSw0 hwl0 tb1 tk1 tc1 ts1 ws1 hSw1 hwl1 sb0 sb1 st0 st1 hst0 hst1 R w₀ w hG hgd om hA0 hB0 (by rw [hn.o]; exact Nat.zero_le _) om hA1 hB1 (by rw [hn.o]; exact Nat.zero_le _) hO hN0 hN1 H).mono fun e w' he => ?_
 obtain ⟨v, rfl, k0, c0, z0, k1, c1, z1, u0, u1, rfl, h0, h1, _, _, _, _, _, _, _, _, HN⟩ := he
 rw [hs] at h0 h1 HN
 exact ⟨_, rfl, k0, c0, z0, k1, c1, z1, u0, u1, rfl, h0, h1, ((((HN.dropk 5).dropk 4).dropk 3).dropk 2)⟩
end Go.Proofs.YtohngnahcgbfmaaGreatDoor.Ms
