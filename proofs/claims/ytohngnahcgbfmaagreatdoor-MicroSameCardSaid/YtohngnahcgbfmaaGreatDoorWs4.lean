/- What the claim has need of: Mi, Mi2, Mi3, Mi4, Mi5, Mi6, TapeW, Corr, Corr2, Mi7, Mi8, Mi9, Mi10, Mi11, Cm8, Cm9, Cm10, Cm11, Cm12, Mi12, Cm13, Cm14. -/
import Derived.Test.YtohngnahcgbfmaaGreatDoorWs3
set_option linter.unusedVariables false
set_option maxHeartbeats 16000000
set_option maxRecDepth 20000
namespace Go.Proofs.YtohngnahcgbfmaaGreatDoor.Mi
open Go Vc Er Ek Circ
theorem agg29 : isAgg' Tryz.prog 29 = true := by kernel_rfl
theorem arr29 : arr Tryz.prog 29 = some (2, 1) := by kernel_rfl
theorem call64 : callable Tryz.prog 64 = true := by kernel_rfl
theorem fits127 : Fits Tryz.prog 127 EI := fitsI (by kernel_rfl) (by kernel_rfl)
theorem fits3 : Fits Tryz.prog 3 EI := fitsI (by kernel_rfl) (by kernel_rfl)
theorem fld129_1 : fld Tryz.prog 129 1 = some (1, 1, 127) := by kernel_rfl
theorem fld36_0 : fld Tryz.prog 36 0 = some (0, 1, 33) := by kernel_rfl
theorem fld36_3 : fld Tryz.prog 36 3 = some (3, 1, 3) := by kernel_rfl
theorem fld36_4 : fld Tryz.prog 36 4 = some (4, 1, 34) := by kernel_rfl
theorem fld36_5 : fld Tryz.prog 36 5 = some (5, 1, 3) := by kernel_rfl
theorem isI31 : isI Tryz.prog 31 = true := by kernel_rfl
theorem mixed : Tryz.prog.follows .mixedOrders = true := by kernel_rfl
theorem one3 : isOne Tryz.prog 3 = true := by kernel_rfl
theorem one33 : isOne Tryz.prog 33 = true := by kernel_rfl
theorem one34 : isOne Tryz.prog 34 = true := by kernel_rfl
theorem pls129 : pls Tryz.prog 129 = some #[(0, 1), (1, 1), (2, 1), (3, 1), (4, 1), (5, 1), (6, 1)] := by kernel_rfl
theorem siz104 : siz Tryz.prog 104 = some 3 := by kernel_rfl
theorem siz129 : siz Tryz.prog 129 = some 7 := by kernel_rfl
theorem siz29 : siz Tryz.prog 29 = some 2 := by kernel_rfl
theorem sli74 : sli Tryz.prog 74 = some (127, 1) := by kernel_rfl
theorem zer129 : zer Tryz.prog 129 = some (.agg #[.int .i64 0, .int .i64 0, .int .i64 0, .int .i64 0, .bool false, .bool false, .int .i64 0]) := by kernel_rfl
theorem zer29 : zer Tryz.prog 29 = some (.agg (List.replicate 2 (.int .i64 0)).toArray) := by kernel_rfl
theorem formof_ok (x : BitVec 64) (w : World) : Calls Tryz.prog 81 [u64 x].toArray w (Ret fun v w' => v = i64 (foS x) ∧ Ext w w') := by
 have H := Hp.start No w
 refine enter (n := 6) Tryz.func81 rfl rfl (bLe rfl) ?_
 refine go 4 ?_
 refine condProp ((x &&& (1#64)) = (1#64)) rfl (fun c5 => ?_) (fun c5 => ?_)
 ·refine go 1 ?_
  exact ⟨_, rfl, congrArg i64 (by rw [foS, if_pos c5]), H.chg⟩
 ·refine go 1 ?_
  exact ⟨_, rfl, congrArg i64 (by rw [foS, if_neg c5]), H.chg⟩
theorem fits_ok (m q : Int) (w : World) : Calls Tryz.prog 64 [i64 m, i64 q].toArray w (Ret fun v w' => v = .bool (fitB m q) ∧ Ext w w') := by
 have H := Hp.start No w
 refine enter (n := 16) Tryz.func64 rfl rfl (bLe rfl) ?_
 refine go 5 ?_
 refine sqGv (B := (!(decide ((m : Int) = q)))) (v := i64 m) (wantedH (d' := 8) (B := true) rfl rfl rfl) (fun hB => r_move (v := i64 m) rfl) (sqGv (B := (!(decide ((m : Int) = q)))) (v := .bool (decide ((m : Int) = (3 : Int)))) (wantedH (d' := 8) (B := true) rfl rfl rfl) (fun hB => by simp only [gvT (v := _) (h := hB)]; exact r_eqlI rfl rfl) (sqGv (B := (!(decide ((m : Int) = q)))) (v := .bool (decide ((m : Int) = (3 : Int)))) (wantedH (d' := 8) (B := true) rfl rfl rfl) (fun hB => by simp only [gvT (v := _) (h := hB)]; exact r_move (v := .bool (decide ((m : Int) = (3 : Int)))) rfl) (sqGv (B := ((!(decide ((m : Int) = q))) && (decide ((m : Int) = (3 : Int))))) (v := i64 q) (wantedG (d' := 11) (B := (!(decide ((m : Int) = q)))) rfl rfl rfl) (fun hB => r_move (v := i64 q) rfl) (sqGv (B := ((!(decide ((m : Int) = q))) && (decide ((m : Int) = (3 : Int))))) (v := .bool (decide ((q : Int) ≠ (0 : Int)))) (wantedG (d' := 11) (B := (!(decide ((m : Int) = q)))) rfl rfl rfl) (fun hB => by simp only [gvT (v := _) (h := hB)]; exact r_neqI rfl rfl) (sqGv (B := (!(decide ((m : Int) = q)))) (v := .bool ((decide ((m : Int) = (3 : Int)) && decide ((q : Int) ≠ (0 : Int))))) (wantedH (d' := 8) (B := true) rfl rfl rfl) (fun hB => r_pickAnd (B := (!(decide ((m : Int) = q)))) hB rfl rfl rfl) (sq (r_pickOr (B := true) rfl rfl rfl rfl) ?_))))))
 refine go 1 ?_
 exact ⟨_, rfl, rfl, H.chg⟩
theorem told_ok (o : Mo) (w : World) : Calls Tryz.prog 32 [.agg #[i64 (o.kd), i64 (o.a), i64 (o.b), i64 (o.k), u64 (o.c), i64 (o.pt)]].toArray w (Ret fun v w' => v = .bool (decide (tld o)) ∧ Ext w w') := by
 have H := Hp.start No w
 refine enter (n := 11) Tryz.func32 rfl rfl (bLe rfl) ?_
 refine go 1 ?_
 intro b1 w2 a0 H3 b0
 refine go 5 ?_
 refine sqGv (B := (!(decide ((o.kd : Int) = (18 : Int))))) (v := pT b1) (wantedH (d' := 6) (B := true) rfl rfl rfl) (fun hB => r_fieldAddr (off' := 0) fld36_0 (by decide) (b := b1) (off := 0) rfl om) (sqGv (B := (!(decide ((o.kd : Int) = (18 : Int))))) (v := i64 (o.kd)) (wantedH (d' := 6) (B := true) rfl rfl rfl) (fun hB => by simp only [gvT (v := _) (h := hB)]; exact r_loadC (v := i64 (o.kd)) one33 (H3.get (k := 0) rfl) (off := 0) rfl (by rfl)) (sqGv (B := (!(decide ((o.kd : Int) = (18 : Int))))) (v := .bool (decide ((o.kd : Int) = (19 : Int)))) (wantedH (d' := 6) (B := true) rfl rfl rfl) (fun hB => by simp only [gvT (v := _) (h := hB)]; exact r_eqlI rfl rfl) (sq ((r_pickOr (B := true) rfl rfl rfl rfl).as (v' := .bool (decide (tld o))) (by exact congrArg Value.bool (told_b o))) ?_)))
 refine go 1 ?_
 exact ⟨_, rfl, rfl, H3.chg⟩
theorem opnds_ok (o : Mo) (w : World) : Calls Tryz.prog 36 [.agg #[i64 (o.kd), i64 (o.a), i64 (o.b), i64 (o.k), u64 (o.c), i64 (o.pt)]].toArray w (Ret fun v w' => v = i64 ((opG o : Nat) : Int) ∧ Ext w w') := by
 have H := Hp.start No w
 refine enter (n := 6) Tryz.func36 rfl rfl (bLe rfl) ?_
 refine go 1 ?_
 intro b1 w2 a0 H3 b0
 refine go 4 ?_
 refine condProp ((o.k : Int) = (1 : Int)) rfl (fun c5 => ?_) (fun c5 => ?_)
 ·refine go 1 ?_
  exact ⟨_, rfl, by rw [opG, if_pos c5]; rfl, H3.chg⟩
 ·refine go 1 ?_
  exact ⟨_, rfl, by rw [opG, if_neg c5]; rfl, H3.chg⟩
theorem all_ok (w : World) : Calls Tryz.prog 31 [].toArray w (Ret fun v w' => v = .agg (cel EI [65536, 65536]).toArray ∧ Ext w w') := by
 have H := Hp.start No w
 refine enter (n := 2) Tryz.func31 rfl rfl (bLe rfl) ?_
 refine go 1 ?_
 intro b1 w2 b0 H3 c0
 refine go 2 ?_
 intro w5 a0 d0
 refine go 0 ?_
 exact ⟨_, rfl, rfl, a0.chg⟩
theorem make_all (o : Mo) (h : nopS o.k o.c ≠ 0) (w : World) : Calls Tryz.prog 35 [i64 o.k, u64 o.c].toArray w (Ret fun v w' => ∃ (key : Option Nat) (c : Nat) (sp : LV) (b : Nat), v = .tuple #[.agg #[i64 (((128 * opG o) : Nat) : Int), sO key (makeG o).1.length c, .slice (some ⟨b, 0, none⟩) 64 64], .nilIface] ∧ Sl EG key (makeG o).1 c sp ∧ Hp No w w' [(key, sob EG 154 (makeG o).1 sp), (rX b EI (makeG o).2 145)]) := by
 unfold nopS at h
 by_cases h1 : o.k = 1 ∧ o.c.toNat < 2
 ·have e1 : opG o = 1 := if_pos h1.1
  have e2 : makeG o = mk1 (fbS o.c 0) := if_pos h1.1
  rw [e1, e2, h1.1]; exact Cm.make_k1 o.c h1.2 w
 ·rw [if_neg h1] at h
  by_cases h2 : (o.k = 2 ∨ o.k = 3) ∧ o.c.toNat < 4
  ·have e1 : opG o = 2 := if_neg om
   rcases h2 with ⟨h3 | h3, h4⟩
   ·have e2 : makeG o = mk2 (fbS o.c 0) (fbS o.c 1) := (if_neg om).trans (if_pos h3)
    rw [e1, e2, h3]; exact Cm.make_k2 o.c h4 w
   ·have e2 : makeG o = mk3 (fbS o.c 0) (fbS o.c 1) := (if_neg om).trans (if_neg om)
    rw [e1, e2, h3]; exact Cm.make_k3 o.c h4 w
  ·rw [if_neg h2] at h; exact absurd rfl h
theorem make_none (o : Mo) (h : nopS o.k o.c = 0) (w : World) (hG : Gl w) : Calls Tryz.prog 35 [i64 o.k, u64 o.c].toArray w (Ret fun v w' => (∃ ev, v = .tuple #[.agg #[i64 (0 : Int), sN0, sN0], ev] ∧ Er w.heap.size w' 1 1 ev) ∧ Ext w w') := by
 refine Cm.make_bad o.k o.c w hG ⟨fun h1 => ?_, fun h1 => ?_⟩ <;> unfold nopS at h
 ·rw [if_pos ⟨h1.1, h1.2⟩] at h; exact absurd h (by decide)
 ·rw [if_neg om, if_pos ⟨h1.1, h1.2⟩] at h; exact absurd h (by decide)
theorem grule_no (o : Mo) (h : nopS o.k o.c = 0) (w : World) (hG : Gl w) : Calls Tryz.prog 63 [.agg #[i64 (o.kd), i64 (o.a), i64 (o.b), i64 (o.k), u64 (o.c), i64 (o.pt)]].toArray w (Ret fun v w' => v = .tuple #[.agg #[i64 ((gruS o).1.a), i64 ((gruS o).1.b), i64 ((gruS o).1.m), i64 ((gruS o).1.k), .bool ((gruS o).1.c), .bool ((gruS o).1.p), i64 ((gruS o).1.r)], .bool (gruS o).2] ∧ Ext w w') := by
 have H := Hp.start No w
 refine enter (n := 31) Tryz.func63 rfl rfl (bLe rfl) ?_
 refine go 1 ?_
 intro b1 w2 d0 H3 e0
 refine go 1 ?_
 intro b5 w6 f0 H7 h0
 refine go 5 ?_
 refine cl (make_none o h w6 vGl) ?_
 rintro _ w9 ⟨⟨i0, rfl, a0⟩, b0⟩
 have j0 := H7.ext b0
 obtain ⟨k0, l0, rfl⟩ := a0.iface
 refine go 4 ?_
 intro m0 n0 o0 p0 q0
 refine go 1 ?_
 intro r0 s0 u0
 refine go 2 ?_
 refine sq ((r_neqIN isI31 rfl rfl).as (v' := .bool true) (by rfl)) ?_
 refine go 2 ?_
 intro w0 c0 x0
 refine go 1 ?_
 exact ⟨_, rfl, by unfold gruS; rw [if_pos h] <;> rfl, c0.chg⟩
theorem grule_yes (o : Mo) (h : nopS o.k o.c ≠ 0) (w : World) : Calls Tryz.prog 63 [.agg #[i64 (o.kd), i64 (o.a), i64 (o.b), i64 (o.k), u64 (o.c), i64 (o.pt)]].toArray w (Ret fun v w' => v = .tuple #[.agg #[i64 ((gruS o).1.a), i64 ((gruS o).1.b), i64 ((gruS o).1.m), i64 ((gruS o).1.k), .bool ((gruS o).1.c), .bool ((gruS o).1.p), i64 ((gruS o).1.r)], .bool (gruS o).2] ∧ Ext w w') := by
 have H := Hp.start No w
 refine enter (n := 31) Tryz.func63 rfl rfl (bLe rfl) ?_
 refine go 1 ?_
 intro b1 w2 l0 H3 m0
 refine go 1 ?_
 intro b5 w6 n0 H7 o0
 refine go 5 ?_
 refine cl (make_all o h w6) ?_
 rintro _ w9 ⟨p0, q0, r0, s0, rfl, u0, b0⟩
 have w0 := (H7.join b0).a4 rfl
 refine go 4 ?_
 intro x0 y0 z0 A0 B0
 refine go 1 ?_
 intro c0 d0 C0
 refine go 2 ?_
 refine sq ((r_neqNN isI31 rfl rfl).as (v' := .bool false) (by rfl)) ?_
 refine go 2 ?_
 refine cl (formof_ok o.c c0) ?_
 rintro _ D0 ⟨rfl, e0⟩
 have E0 := d0.ext e0
 refine go 2 ?_
 intro F0 G0 H0 I0 J0
 refine go 1 ?_
 intro f0 h0 K0
 refine go 3 ?_
 refine condProp ((o.k : Int) ≠ (1 : Int)) rfl (fun a0 => ?_) (fun a0 => ?_)
 ·refine go 3 ?_
  refine cl (formof_ok (o.c >>> (1 : Nat)) f0) ?_
  rintro _ L0 ⟨rfl, i0⟩
  have M0 := h0.ext i0
  refine go 2 ?_
  intro N0 O0 P0
  refine go 2 ?_
  intro Q0 j0 R0
  refine go 1 ?_
  exact ⟨_, rfl, by unfold gruS; rw [if_neg h, if_neg (by simpa using a0)] <;> rfl, j0.chg⟩
 ·refine go 2 ?_
  intro S0 k0 T0
  refine go 1 ?_
  exact ⟨_, rfl, by unfold gruS; rw [if_neg h, if_pos (by simpa using a0)] <;> rfl, k0.chg⟩
theorem grule_ok (o : Mo) (w : World) (hG : Gl w) : Calls Tryz.prog 63 [.agg #[i64 (o.kd), i64 (o.a), i64 (o.b), i64 (o.k), u64 (o.c), i64 (o.pt)]].toArray w (Ret fun v w' => v = .tuple #[.agg #[i64 ((gruS o).1.a), i64 ((gruS o).1.b), i64 ((gruS o).1.m), i64 ((gruS o).1.k), .bool ((gruS o).1.c), .bool ((gruS o).1.p), i64 ((gruS o).1.r)], .bool (gruS o).2] ∧ Ext w w') := by
 by_cases h : nopS o.k o.c = 0
 ·exact grule_no o h w hG
 ·exact grule_yes o h w
theorem rule_ok (o : Mo) (e0 e1 : Int) (w : World) (hG : Gl w) : Calls Tryz.prog 42 [.agg #[i64 (o.kd), i64 (o.a), i64 (o.b), i64 (o.k), u64 (o.c), i64 (o.pt)], .agg (cel EI [e0, e1]).toArray].toArray w (Ret fun v w' => v = .tuple #[.agg #[i64 ((ruleS o e0 e1).1.a), i64 ((ruleS o e0 e1).1.b), i64 ((ruleS o e0 e1).1.m), i64 ((ruleS o e0 e1).1.k), .bool ((ruleS o e0 e1).1.c), .bool ((ruleS o e0 e1).1.p), i64 ((ruleS o e0 e1).1.r)], .bool (ruleS o e0 e1).2] ∧ Ext w w') := by
 let x6 : Array Value := #[i64 0, i64 0, i64 0, i64 0, .bool false, .bool false, i64 0]
 let x5 : Array Value := #[i64 (o.kd), i64 (o.a), i64 (o.b), i64 (o.k), u64 (o.c), i64 (o.pt)]
 let x4 : Array Value := #[i64 0, i64 0, i64 1, i64 e1, .bool false, .bool true, i64 1]
 let x1 : Array Value := #[i64 0, i64 0, i64 1, i64 e0, .bool false, .bool true, i64 1]
 have H := Hp.start No w
 refine enter (n := 79) Tryz.func42 rfl rfl (bLe rfl) ?_
 refine go 1 ?_
 intro b1 w2 u1 H3 w1
 let x2 : Value := .pointer (some ⟨b1, 5, none⟩)
 refine go 1 ?_
 intro b5 w6 y1 H7 z1
 let x3 : Value := .pointer (some ⟨b5, 1, none⟩)
 refine go 1 ?_
 intro b9 z0 A1 a0 B1
 refine go 5 ?_
 refine condProp ((o.kd : Int) = (1 : Int)) rfl (fun k1 => ?_) (fun k1 => ?_)
 ·refine go 4 ?_
  refine sqGv (B := (decide ((o.pt : Int) ≠ (0 : Int)))) (v := .pointer (some ⟨b1, 5, none⟩)) (wantedG (d' := 13) (B := true) rfl rfl rfl) (fun hB => r_fieldAddr (off' := 5) fld36_5 (by decide) (b := b1) (off := 0) rfl om) (sqGv (B := (decide ((o.pt : Int) ≠ (0 : Int)))) (v := i64 (o.pt)) (wantedG (d' := 13) (B := true) rfl rfl rfl) (fun hB => by simp only [gvT (v := _) (h := hB)]; exact r_loadC (v := i64 (o.pt)) one3 (a0.get (k := 2) rfl) (off := 5) rfl (by rfl)) (sqGv (B := (decide ((o.pt : Int) ≠ (0 : Int)))) (v := .bool (decide ((o.pt : Int) ≠ (1 : Int)))) (wantedG (d' := 13) (B := true) rfl rfl rfl) (fun hB => by simp only [gvT (v := _) (h := hB)]; exact r_neqI rfl rfl) (sq (r_pickAnd (B := true) rfl rfl rfl rfl) ?_)))
  refine go 0 ?_
  refine condBool ((decide ((o.pt : Int) ≠ (0 : Int)) && decide ((o.pt : Int) ≠ (1 : Int)))) rfl (fun b0 => ?_) (fun b0 => ?_)
  ·simp only [Bool.and_eq_true, decide_eq_true_eq] at b0
   refine go 2 ?_
   intro C1 A0 D1
   refine go 1 ?_
   have hr : ruleS o e0 e1 = (⟨(0 : Int), (0 : Int), (0 : Int), (0 : Int), false, false, (0 : Int)⟩, false) := by simp [ruleS, k1, b0.1, b0.2, ru0]
   exact ⟨_, rfl, by rw [hr] <;> rfl, A0.chg⟩
  ·have hpt : o.pt = 0 ∨ o.pt = 1 := by
    rcases Decidable.em (o.pt = 0) with h | h
    ·exact .inl h
    ·exact .inr (by simpa [h] using b0)
   refine go 0 ?_
   by_cases hp : o.pt = 0
   ·refine go 0 ?_
    by_cases hp : o.pt = 0
    ·let c0 : List RW := [(rX b5 EI ([e0, e1]) 29), (rC b1 x5 36)]
     let B0 : Tab := [zt1 false fun _ w' => Hp No w w' ((rC b9 x6 129) :: c0), zt1 true fun _ w' => Hp No w w' ((rC b9 x1 129) :: c0)]
     refine drawH (m := 12) [0, 1, 3, 7, 15, 0, 32, 96, 224, 480, 31, 2047] [10] c0 B0 mixed (fun _ e => a0.ext e) (A_ (fun _ _ h => h.drop1) (A_ (fun _ _ h => h.drop1) trivial)) (fun C0 => ?_)
     refine lkH x2 (fun _ uw hcx => r_fieldAddr (off' := 5) fld36_5 (by decide) (b := b1) (off := 0) rfl om) (lkH (i64 (o.pt)) (fun _ uw hcx => r_loadC (v := i64 (o.pt)) one3 (hcx.get (k := 1) rfl) (off := 5) rfl (by rfl)) (lkH (pT b5) (fun _ uw hcx => r_indexA (off' := 0) (j := 0) arr29 (b := b5) (off := 0) rfl rfl vo om om) (lkH (i64 e0) (fun _ uw hcx => r_ld1 (E := EI) (l := [e0, e1]) (j := 0) (a := e0) fits3 (hcx.get (k := 0) rfl) (by rfl) rfl rfl) (lkH (.agg x1) (fun _ uw hcx => r_build (cs' := x1) (ps := [(2, i64 1), (3, i64 e0), (5, .bool true), (6, i64 1)]) zer129 pls129 rfl (by rfl)) (lkH x2 (fun _ uw hcx => r_fieldAddr (off' := 5) fld36_5 (by decide) (b := b1) (off := 0) rfl om) (lkH (i64 (o.pt)) (fun _ uw hcx => r_loadC (v := i64 (o.pt)) one3 (hcx.get (k := 1) rfl) (off := 5) rfl (by rfl)) (lkH (pT b5) (fun _ uw hcx => r_indexA (off' := 0) (j := 0) arr29 (b := b5) (off := 0) rfl rfl vo om om) (lkH (i64 e0) (fun _ uw hcx => r_ld1 (E := EI) (l := [e0, e1]) (j := 0) (a := e0) fits3 (hcx.get (k := 0) rfl) (by rfl) rfl rfl) (lkH (.bool (decide (((0 : Int) : Int) < e0))) (fun _ uw hcx => r_gtrI rfl rfl) (WalkT.eff C0 0 ?_ ?_))))))))))
     ·refine A_ (fun r w0 uw hF hE => ?_) trivial
      have D0 := hF.ext hE
      refine gW0 fun Q' hK => (d_store (k := 0) (v := .agg x1) (cs' := x1) D0 rfl rfl rfl siz129 (by rfl) (oneL rfl) (by exact bLe rfl) (by rfl) fun E1 E0 F1 => ?_)
      have F0 := E0.a3 rfl
      exact hK _ (fun _ => F0)
     refine gk 1 ?_
     refine WalkT.nil fun r w0 G1 hF hE => ?_
     have s0 := hF.ext hE
     dsimp only
     dsimp only [c0] at s0
     refine go 0 ?_
     have hr : ruleS o e0 e1 = (⟨(0 : Int), (0 : Int), (1 : Int), e0, false, true, (1 : Int)⟩, decide (((0 : Int) : Int) < e0)) := by simp [ruleS, inK, k1, hp]
     exact ⟨_, rfl, by rw [hr] <;> rfl, s0.chg⟩
    ·let d0 : List RW := [(rX b5 EI ([e0, e1]) 29), (rC b1 x5 36)]
     let G0 : Tab := [zt1 false fun _ w' => Hp No w w' ((rC b9 x6 129) :: d0), zt1 true fun _ w' => Hp No w w' ((rC b9 x4 129) :: d0)]
     refine drawH (m := 12) [0, 1, 3, 7, 15, 0, 32, 96, 224, 480, 31, 2047] [10] d0 G0 mixed (fun _ e => a0.ext e) (A_ (fun _ _ h => h.drop1) (A_ (fun _ _ h => h.drop1) trivial)) (fun H0 => ?_)
     refine lkH x2 (fun _ uw hcx => r_fieldAddr (off' := 5) fld36_5 (by decide) (b := b1) (off := 0) rfl om) (lkH (i64 (o.pt)) (fun _ uw hcx => r_loadC (v := i64 (o.pt)) one3 (hcx.get (k := 1) rfl) (off := 5) rfl (by rfl)) (lkH x3 (fun _ uw hcx => r_indexA (off' := 1) (j := 1) arr29 (b := b5) (off := 0) rfl rfl vo om om) (lkH (i64 e1) (fun _ uw hcx => r_ld1 (E := EI) (l := [e0, e1]) (j := 1) (a := e1) fits3 (hcx.get (k := 0) rfl) (by rfl) rfl rfl) (lkH (.agg x4) (fun _ uw hcx => r_build (cs' := x4) (ps := [(2, i64 1), (3, i64 e1), (5, .bool true), (6, i64 1)]) zer129 pls129 rfl (by rfl)) (lkH x2 (fun _ uw hcx => r_fieldAddr (off' := 5) fld36_5 (by decide) (b := b1) (off := 0) rfl om) (lkH (i64 (o.pt)) (fun _ uw hcx => r_loadC (v := i64 (o.pt)) one3 (hcx.get (k := 1) rfl) (off := 5) rfl (by rfl)) (lkH x3 (fun _ uw hcx => r_indexA (off' := 1) (j := 1) arr29 (b := b5) (off := 0) rfl rfl vo om om) (lkH (i64 e1) (fun _ uw hcx => r_ld1 (E := EI) (l := [e0, e1]) (j := 1) (a := e1) fits3 (hcx.get (k := 0) rfl) (by rfl) rfl rfl) (lkH (.bool (decide (((0 : Int) : Int) < e1))) (fun _ uw hcx => r_gtrI rfl rfl) (WalkT.eff H0 0 ?_ ?_))))))))))
     ·refine A_ (fun r w0 uw hF hE => ?_) trivial
      have I0 := hF.ext hE
      refine gW0 fun Q' hK => (d_store (k := 0) (v := .agg x4) (cs' := x4) I0 rfl rfl rfl siz129 (by rfl) (oneL rfl) (by exact bLe rfl) (by rfl) fun H1 J0 I1 => ?_)
      have K0 := J0.a3 rfl
      exact hK _ (fun _ => K0)
     refine gk 1 ?_
     refine WalkT.nil fun r w0 J1 hF hE => ?_
     have u0 := hF.ext hE
     dsimp only
     dsimp only [d0] at u0
     have hp1 : o.pt = 1 := by omega
     refine go 0 ?_
     have hr : ruleS o e0 e1 = (⟨(0 : Int), (0 : Int), (1 : Int), e1, false, true, (1 : Int)⟩, decide (((0 : Int) : Int) < e1)) := by simp [ruleS, inK, k1, hp1]
     exact ⟨_, rfl, by rw [hr] <;> rfl, u0.chg⟩
   ·refine go 0 ?_
    by_cases hp : o.pt = 0
    ·let f0 : List RW := [(rX b5 EI ([e0, e1]) 29), (rC b1 x5 36)]
     let L0 : Tab := [zt1 false fun _ w' => Hp No w w' ((rC b9 x6 129) :: f0), zt1 true fun _ w' => Hp No w w' ((rC b9 x1 129) :: f0)]
     refine drawH (m := 12) [0, 1, 3, 7, 15, 0, 32, 96, 224, 480, 31, 2047] [10] f0 L0 mixed (fun _ e => a0.ext e) (A_ (fun _ _ h => h.drop1) (A_ (fun _ _ h => h.drop1) trivial)) (fun M0 => ?_)
     refine lkH x2 (fun _ uw hcx => r_fieldAddr (off' := 5) fld36_5 (by decide) (b := b1) (off := 0) rfl om) (lkH (i64 (o.pt)) (fun _ uw hcx => r_loadC (v := i64 (o.pt)) one3 (hcx.get (k := 1) rfl) (off := 5) rfl (by rfl)) (lkH (pT b5) (fun _ uw hcx => r_indexA (off' := 0) (j := 0) arr29 (b := b5) (off := 0) rfl rfl vo om om) (lkH (i64 e0) (fun _ uw hcx => r_ld1 (E := EI) (l := [e0, e1]) (j := 0) (a := e0) fits3 (hcx.get (k := 0) rfl) (by rfl) rfl rfl) (lkH (.agg x1) (fun _ uw hcx => r_build (cs' := x1) (ps := [(2, i64 1), (3, i64 e0), (5, .bool true), (6, i64 1)]) zer129 pls129 rfl (by rfl)) (lkH x2 (fun _ uw hcx => r_fieldAddr (off' := 5) fld36_5 (by decide) (b := b1) (off := 0) rfl om) (lkH (i64 (o.pt)) (fun _ uw hcx => r_loadC (v := i64 (o.pt)) one3 (hcx.get (k := 1) rfl) (off := 5) rfl (by rfl)) (lkH (pT b5) (fun _ uw hcx => r_indexA (off' := 0) (j := 0) arr29 (b := b5) (off := 0) rfl rfl vo om om) (lkH (i64 e0) (fun _ uw hcx => r_ld1 (E := EI) (l := [e0, e1]) (j := 0) (a := e0) fits3 (hcx.get (k := 0) rfl) (by rfl) rfl rfl) (lkH (.bool (decide (((0 : Int) : Int) < e0))) (fun _ uw hcx => r_gtrI rfl rfl) (WalkT.eff M0 0 ?_ ?_))))))))))
     ·refine A_ (fun r w0 uw hF hE => ?_) trivial
      have N0 := hF.ext hE
      refine gW0 fun Q' hK => (d_store (k := 0) (v := .agg x1) (cs' := x1) N0 rfl rfl rfl siz129 (by rfl) (oneL rfl) (by exact bLe rfl) (by rfl) fun K1 O0 L1 => ?_)
      have P0 := O0.a3 rfl
      exact hK _ (fun _ => P0)
     refine gk 1 ?_
     refine WalkT.nil fun r w0 M1 hF hE => ?_
     have x0 := hF.ext hE
     dsimp only
     dsimp only [f0] at x0
     refine go 0 ?_
     have hr : ruleS o e0 e1 = (⟨(0 : Int), (0 : Int), (1 : Int), e0, false, true, (1 : Int)⟩, decide (((0 : Int) : Int) < e0)) := by simp [ruleS, inK, k1, hp]
     exact ⟨_, rfl, by rw [hr] <;> rfl, x0.chg⟩
    ·let h0 : List RW := [(rX b5 EI ([e0, e1]) 29), (rC b1 x5 36)]
     let Q0 : Tab := [zt1 false fun _ w' => Hp No w w' ((rC b9 x6 129) :: h0), zt1 true fun _ w' => Hp No w w' ((rC b9 x4 129) :: h0)]
     refine drawH (m := 12) [0, 1, 3, 7, 15, 0, 32, 96, 224, 480, 31, 2047] [10] h0 Q0 mixed (fun _ e => a0.ext e) (A_ (fun _ _ h => h.drop1) (A_ (fun _ _ h => h.drop1) trivial)) (fun R0 => ?_)
     refine lkH x2 (fun _ uw hcx => r_fieldAddr (off' := 5) fld36_5 (by decide) (b := b1) (off := 0) rfl om) (lkH (i64 (o.pt)) (fun _ uw hcx => r_loadC (v := i64 (o.pt)) one3 (hcx.get (k := 1) rfl) (off := 5) rfl (by rfl)) (lkH x3 (fun _ uw hcx => r_indexA (off' := 1) (j := 1) arr29 (b := b5) (off := 0) rfl rfl vo om om) (lkH (i64 e1) (fun _ uw hcx => r_ld1 (E := EI) (l := [e0, e1]) (j := 1) (a := e1) fits3 (hcx.get (k := 0) rfl) (by rfl) rfl rfl) (lkH (.agg x4) (fun _ uw hcx => r_build (cs' := x4) (ps := [(2, i64 1), (3, i64 e1), (5, .bool true), (6, i64 1)]) zer129 pls129 rfl (by rfl)) (lkH x2 (fun _ uw hcx => r_fieldAddr (off' := 5) fld36_5 (by decide) (b := b1) (off := 0) rfl om) (lkH (i64 (o.pt)) (fun _ uw hcx => r_loadC (v := i64 (o.pt)) one3 (hcx.get (k := 1) rfl) (off := 5) rfl (by rfl)) (lkH x3 (fun _ uw hcx => r_indexA (off' := 1) (j := 1) arr29 (b := b5) (off := 0) rfl rfl vo om om) (lkH (i64 e1) (fun _ uw hcx => r_ld1 (E := EI) (l := [e0, e1]) (j := 1) (a := e1) fits3 (hcx.get (k := 0) rfl) (by rfl) rfl rfl) (lkH (.bool (decide (((0 : Int) : Int) < e1))) (fun _ uw hcx => r_gtrI rfl rfl) (WalkT.eff R0 0 ?_ ?_))))))))))
     ·refine A_ (fun r w0 uw hF hE => ?_) trivial
      have S0 := hF.ext hE
      refine gW0 fun Q' hK => (d_store (k := 0) (v := .agg x4) (cs' := x4) S0 rfl rfl rfl siz129 (by rfl) (oneL rfl) (by exact bLe rfl) (by rfl) fun N1 T0 O1 => ?_)
      have U0 := T0.a3 rfl
      exact hK _ (fun _ => U0)
     refine gk 1 ?_
     refine WalkT.nil fun r w0 P1 hF hE => ?_
     have y0 := hF.ext hE
     dsimp only
     dsimp only [h0] at y0
     have hp1 : o.pt = 1 := by omega
     refine go 0 ?_
     have hr : ruleS o e0 e1 = (⟨(0 : Int), (0 : Int), (1 : Int), e1, false, true, (1 : Int)⟩, decide (((0 : Int) : Int) < e1)) := by simp [ruleS, inK, k1, hp1]
     exact ⟨_, rfl, by rw [hr] <;> rfl, y0.chg⟩
 ·refine go 2 ?_
  refine condProp ((o.kd : Int) = (2 : Int)) rfl (fun k2 => ?_) (fun k2 => ?_)
  ·refine go 2 ?_
   intro Q1 V0 R1
   refine go 1 ?_
   have hr : ruleS o e0 e1 = (⟨(0 : Int), (0 : Int), (3 : Int), (0 : Int), true, false, (0 : Int)⟩, true) := by simp [ruleS, k2]
   exact ⟨_, rfl, by rw [hr] <;> rfl, V0.chg⟩
  ·refine go 2 ?_
   refine condProp ((o.kd : Int) = (3 : Int)) rfl (fun k3 => ?_) (fun k3 => ?_)
   ·refine go 0 ?_
    refine condTrue (congrArg Value.bool (decide_eq_true k3)) ?_
    refine go 2 ?_
    intro S1 W0 T1
    refine go 1 ?_
    have hr : ruleS o e0 e1 = (⟨(1 : Int), (1 : Int), (1 : Int), (0 : Int), false, false, (0 : Int)⟩, true) := by simp [ruleS, k3]
    exact ⟨_, rfl, by rw [hr] <;> rfl, W0.chg⟩
   ·refine go 2 ?_
    refine condProp ((o.kd : Int) = (4 : Int)) rfl (fun k4 => ?_) (fun k4 => ?_)
    ·refine go 2 ?_
     intro U1 X0 V1
     refine go 1 ?_
     have hr : ruleS o e0 e1 = (⟨(1 : Int), (1 : Int), (1 : Int), (0 : Int), false, false, (0 : Int)⟩, true) := by simp [ruleS, k4]
     exact ⟨_, rfl, by rw [hr] <;> rfl, X0.chg⟩
    ·refine go 2 ?_
     refine condProp ((o.kd : Int) = (5 : Int)) rfl (fun k5 => ?_) (fun k5 => ?_)
     ·refine go 2 ?_
      intro W1 Y0 X1
      refine go 1 ?_
      have hr : ruleS o e0 e1 = (⟨(1 : Int), (0 : Int), (1 : Int), (0 : Int), true, false, (0 : Int)⟩, true) := by simp [ruleS, k5]
      exact ⟨_, rfl, by rw [hr] <;> rfl, Y0.chg⟩
     ·refine go 2 ?_
      refine condProp ((o.kd : Int) = (6 : Int)) rfl (fun k6 => ?_) (fun k6 => ?_)
      ·refine go 2 ?_
       intro Y1 Z0 Z1
       refine go 1 ?_
       have hr : ruleS o e0 e1 = (⟨(1 : Int), (1 : Int), (1 : Int), (0 : Int), false, false, (1 : Int)⟩, true) := by simp [ruleS, k6]
       exact ⟨_, rfl, by rw [hr] <;> rfl, Z0.chg⟩
      ·refine go 2 ?_
       refine condProp ((o.kd : Int) = (7 : Int)) rfl (fun k7 => ?_) (fun k7 => ?_)
       ·refine go 2 ?_
        intro c2 c1 d2
        refine go 1 ?_
        have hr : ruleS o e0 e1 = (⟨(2 : Int), (2 : Int), (2 : Int), (0 : Int), false, false, (0 : Int)⟩, true) := by simp [ruleS, k7]
        exact ⟨_, rfl, by rw [hr] <;> rfl, c1.chg⟩
       ·refine go 2 ?_
        refine condProp ((o.kd : Int) = (8 : Int)) rfl (fun k8 => ?_) (fun k8 => ?_)
        ·refine go 0 ?_
         refine condTrue (congrArg Value.bool (decide_eq_true k8)) ?_
         refine go 2 ?_
         intro e2 d1 f2
         refine go 1 ?_
         have hr : ruleS o e0 e1 = (⟨(2 : Int), (0 : Int), (2 : Int), (0 : Int), true, false, (0 : Int)⟩, true) := by simp [ruleS, k8]
         exact ⟨_, rfl, by rw [hr] <;> rfl, d1.chg⟩
        ·refine go 2 ?_
         refine condProp ((o.kd : Int) = (10 : Int)) rfl (fun k0 => ?_) (fun k0 => ?_)
         ·refine go 2 ?_
          intro g2 g1 h2
          refine go 1 ?_
          have hr : ruleS o e0 e1 = (⟨(2 : Int), (0 : Int), (2 : Int), (0 : Int), true, false, (0 : Int)⟩, true) := by simp [ruleS, k0]
          exact ⟨_, rfl, by rw [hr] <;> rfl, g1.chg⟩
         ·refine go 2 ?_
          refine condProp ((o.kd : Int) = (9 : Int)) rfl (fun k9 => ?_) (fun k9 => ?_)
          ·refine go 2 ?_
           intro i2 h1 j2
           refine go 1 ?_
           have hr : ruleS o e0 e1 = (⟨(2 : Int), (2 : Int), (2 : Int), (0 : Int), false, false, (1 : Int)⟩, true) := by simp [ruleS, k9]
           exact ⟨_, rfl, by rw [hr] <;> rfl, h1.chg⟩
          ·refine go 2 ?_
           refine condProp ((o.kd : Int) = (11 : Int)) rfl (fun i0 => ?_) (fun i0 => ?_)
           ·refine go 0 ?_
            refine condTrue (congrArg Value.bool (decide_eq_true i0)) ?_
            refine go 2 ?_
            intro l2 i1 m2
            refine go 1 ?_
            have hr : ruleS o e0 e1 = (⟨(2 : Int), (0 : Int), (2 : Int), (64 : Int), false, false, (0 : Int)⟩, true) := by simp [ruleS, i0]
            exact ⟨_, rfl, by rw [hr] <;> rfl, i1.chg⟩
           ·refine go 2 ?_
            refine condProp ((o.kd : Int) = (12 : Int)) rfl (fun j0 => ?_) (fun j0 => ?_)
            ·refine go 0 ?_
             refine condTrue (congrArg Value.bool (decide_eq_true j0)) ?_
             refine go 2 ?_
             intro n2 j1 o2
             refine go 1 ?_
             have hr : ruleS o e0 e1 = (⟨(2 : Int), (0 : Int), (2 : Int), (64 : Int), false, false, (0 : Int)⟩, true) := by simp [ruleS, j0]
             exact ⟨_, rfl, by rw [hr] <;> rfl, j1.chg⟩
            ·refine go 2 ?_
             refine condProp ((o.kd : Int) = (13 : Int)) rfl (fun l0 => ?_) (fun l0 => ?_)
             ·refine go 2 ?_
              intro p2 l1 q2
              refine go 1 ?_
              have hr : ruleS o e0 e1 = (⟨(2 : Int), (0 : Int), (2 : Int), (64 : Int), false, false, (0 : Int)⟩, true) := by simp [ruleS, l0]
              exact ⟨_, rfl, by rw [hr] <;> rfl, l1.chg⟩
             ·refine go 2 ?_
              refine condProp ((o.kd : Int) = (14 : Int)) rfl (fun m0 => ?_) (fun m0 => ?_)
              ·refine go 2 ?_
               intro r2 m1 s2
               refine go 1 ?_
               have hr : ruleS o e0 e1 = (⟨(2 : Int), (0 : Int), (2 : Int), (0 : Int), false, false, (0 : Int)⟩, true) := by simp [ruleS, m0]
               exact ⟨_, rfl, by rw [hr] <;> rfl, m1.chg⟩
              ·refine go 2 ?_
               refine condProp ((o.kd : Int) = (15 : Int)) rfl (fun n0 => ?_) (fun n0 => ?_)
               ·refine go 2 ?_
                intro t2 n1 u2
                refine go 1 ?_
                have hr : ruleS o e0 e1 = (⟨(1 : Int), (0 : Int), (2 : Int), (0 : Int), false, true, (0 : Int)⟩, true) := by simp [ruleS, n0]
                exact ⟨_, rfl, by rw [hr] <;> rfl, n1.chg⟩
               ·refine go 2 ?_
                refine condProp ((o.kd : Int) = (16 : Int)) rfl (fun o0 => ?_) (fun o0 => ?_)
                ·refine go 2 ?_
                 intro y2 o1 z2
                 refine go 1 ?_
                 have hr : ruleS o e0 e1 = (⟨(2 : Int), (0 : Int), (1 : Int), (64 : Int), false, true, (0 : Int)⟩, true) := by simp [ruleS, o0]
                 exact ⟨_, rfl, by rw [hr] <;> rfl, o1.chg⟩
                ·refine go 2 ?_
                 refine condProp ((o.kd : Int) = (17 : Int)) rfl (fun p0 => ?_) (fun p0 => ?_)
                 ·refine go 1 ?_
                  refine cl (grule_ok o z0 vGl) ?_
                  rintro _ A2 ⟨rfl, p1⟩
                  have B2 := a0.ext p1
                  refine go 3 ?_
                  intro C2 q1 D2
                  refine go 1 ?_
                  exact ⟨_, rfl, by rw [show ruleS o e0 e1 = gruS o from by simp [ruleS, p0]] <;> rfl, q1.chg⟩
                 ·refine go 2 ?_
                  refine condProp ((o.kd : Int) = (18 : Int)) rfl (fun q0 => ?_) (fun q0 => ?_)
                  ·refine go 2 ?_
                   intro E2 r1 F2
                   refine go 1 ?_
                   have hr : ruleS o e0 e1 = (⟨(1 : Int), (0 : Int), (0 : Int), (0 : Int), false, false, (1 : Int)⟩, true) := by simp [ruleS, q0]
                   exact ⟨_, rfl, by rw [hr] <;> rfl, r1.chg⟩
                  ·refine go 2 ?_
                   refine condProp ((o.kd : Int) = (19 : Int)) rfl (fun r0 => ?_) (fun r0 => ?_)
                   ·refine go 2 ?_
                    intro G2 s1 H2
                    refine go 1 ?_
                    have hr : ruleS o e0 e1 = (⟨(2 : Int), (0 : Int), (0 : Int), (0 : Int), false, false, (1 : Int)⟩, true) := by simp [ruleS, r0]
                    exact ⟨_, rfl, by rw [hr] <;> rfl, s1.chg⟩
                   ·refine go 2 ?_
                    intro I2 t1 J2
                    refine go 1 ?_
                    have hr : ruleS o e0 e1 = (⟨(0 : Int), (0 : Int), (0 : Int), (0 : Int), false, false, (0 : Int)⟩, false) := by simp [ruleS, k1, k2, k3, k4, k5, k6, k7, k8, k0, k9, i0, j0, l0, m0, n0, o0, p0, q0, r0, ru0]
                    exact ⟨_, rfl, by rw [hr] <;> rfl, t1.chg⟩
theorem wants_ok (ops : List Mo) (i : Nat) (at' q : Int) (fa : Option Addr) (fc : Nat) (w : World) (hF : Rd EI w fa (formL ops i)) : Calls Tryz.prog 43 [.slice fa i fc, i64 at', i64 q].toArray w (Ret fun v w' => v = .bool (wantB ops i at' q) ∧ Ext w w') := by
 have H := Hp.start No w
 refine enter (n := 27) Tryz.func43 rfl rfl (bLe rfl) ?_
 refine go 3 ?_
 refine condProp ((q : Int) = (0 : Int)) rfl (fun c8 => ?_) (fun c8 => ?_)
 ·refine go 3 ?_
  exact ⟨_, rfl, congrArg Value.bool (want_zero c8), H.chg⟩
 ·refine go 3 ?_
  refine sqGv (B := (decide (((0 : Int) : Int) ≤ at'))) (v := i64 at') (wantedG (d' := 13) (B := true) rfl rfl rfl) (fun hB => r_move (v := i64 at') rfl) (sqGv (B := (decide (((0 : Int) : Int) ≤ at'))) (v := .slice fa i fc) (wantedG (d' := 13) (B := true) rfl rfl rfl) (fun hB => r_move (v := .slice fa i fc) rfl) (sqGv (B := (decide (((0 : Int) : Int) ≤ at'))) (v := iN i) (wantedG (d' := 13) (B := true) rfl rfl rfl) (fun hB => by simp only [gvT (v := _) (h := hB)]; exact r_lenS sli74 (a := fa) (m := i) (c := fc) rfl) (sqGv (B := (decide (((0 : Int) : Int) ≤ at'))) (v := .bool (decide ((at' : Int) < (i : Nat)))) (wantedG (d' := 13) (B := true) rfl rfl rfl) (fun hB => by simp only [gvT (v := _) (h := hB)]; exact r_lssI rfl rfl) (sq (r_pickAnd (B := true) rfl rfl rfl rfl) ?_))))
  refine go 1 ?_
  refine sqGv (B := ((decide (((0 : Int) : Int) ≤ at') && decide ((at' : Int) < (i : Nat))))) (v := .slice fa i fc) (wantedG (d' := 19) (B := true) rfl rfl rfl) (fun hB => r_move (v := .slice fa i fc) rfl) (sqGv (B := ((decide (((0 : Int) : Int) ≤ at') && decide ((at' : Int) < (i : Nat))))) (v := i64 at') (wantedG (d' := 19) (B := true) rfl rfl rfl) (fun hB => r_move (v := i64 at') rfl) (sqGv (B := ((decide (((0 : Int) : Int) ≤ at') && decide ((at' : Int) < (i : Nat))))) (v := .pointer (adr fa (at'.toNat * 1))) (wantedG (d' := 19) (B := true) rfl rfl rfl) (fun hB => by have hB2 := hB; simp only [Bool.and_eq_true, decide_eq_true_eq] at hB2; simp only [gvT (v := _) (h := hB)]; exact r_idxS (E := EI) (l := formL ops i) (j := at'.toNat) sli74 (hF.ext H.chg) rfl rfl om (by exact (formL_len ops i).symm) (by rw [formL_len]; omega)) (sqGv (B := ((decide (((0 : Int) : Int) ≤ at') && decide ((at' : Int) < (i : Nat))))) (v := i64 ((formL ops i).getD at'.toNat 0)) (wantedG (d' := 19) (B := true) rfl rfl rfl) (fun hB => by have hB2 := hB; simp only [Bool.and_eq_true, decide_eq_true_eq] at hB2; simp only [gvT (v := _) (h := hB)]; exact r_ldS (E := EI) (l := formL ops i) (j := at'.toNat) (v := (formL ops i).getD at'.toNat 0) fits127 (hF.ext H.chg) rfl rfl (at_getD (by rw [formL_len]; omega))) (sqGv (B := ((decide (((0 : Int) : Int) ≤ at') && decide ((at' : Int) < (i : Nat))))) (v := i64 q) (wantedG (d' := 19) (B := true) rfl rfl rfl) (fun hB => r_move (v := i64 q) rfl) (caGv (B := ((decide (((0 : Int) : Int) ≤ at') && decide ((at' : Int) < (i : Nat))))) (v := .bool (fitB ((formL ops i).getD at'.toNat 0) q)) (wantedG (d' := 19) (B := true) rfl rfl rfl) (fun hB => by simp only [gvT (v := _) (h := hB)]; exact Enters.callL (vs := [i64 ((formL ops i).getD at'.toNat 0), i64 q]) call64 rfl) (fun hB => by exact fits_ok ((formL ops i).getD at'.toNat 0) q w) fun w1 a0 => ?_)))))
  have H3 := H.ext a0
  refine sq (r_pickAnd (B := true) rfl rfl rfl rfl) ?_
  refine go 1 ?_
  exact ⟨_, rfl, congrArg Value.bool (want_some c8), H3.chg⟩
end Go.Proofs.YtohngnahcgbfmaaGreatDoor.Mi
namespace Go.Proofs.YtohngnahcgbfmaaGreatDoor.Mi
open Go Vc Er Ek Circ
theorem byt3 : byt Tryz.prog 3 = some 8 := by kernel_rfl
theorem call43 : callable Tryz.prog 43 = true := by kernel_rfl
theorem fits36 : Fits Tryz.prog 36 EMo := fitsMo (by kernel_rfl) (by kernel_rfl)
theorem fld129_0 : fld Tryz.prog 129 0 = some (0, 1, 127) := by kernel_rfl
theorem fld129_3 : fld Tryz.prog 129 3 = some (3, 1, 3) := by kernel_rfl
theorem fld129_4 : fld Tryz.prog 129 4 = some (4, 1, 4) := by kernel_rfl
theorem fld129_5 : fld Tryz.prog 129 5 = some (5, 1, 4) := by kernel_rfl
theorem fld36_1 : fld Tryz.prog 36 1 = some (1, 1, 3) := by kernel_rfl
theorem fld36_2 : fld Tryz.prog 36 2 = some (2, 1, 3) := by kernel_rfl
theorem one127 : isOne Tryz.prog 127 = true := by kernel_rfl
theorem one4 : isOne Tryz.prog 4 = true := by kernel_rfl
theorem siz3 : siz Tryz.prog 3 = some 1 := by kernel_rfl
theorem sli100 : sli Tryz.prog 100 = some (3, 1) := by kernel_rfl
theorem sli22 : sli Tryz.prog 22 = some (36, 6) := by kernel_rfl
theorem zer3 : zer Tryz.prog 3 = some (.int .i64 0) := by kernel_rfl
theorem forms_ok (ops : List Mo) (oa : Option Addr) (oc : Nat) (e0 e1 : Int) (w : World) (hG : Gl w) (hO : Rd EMo w oa ops) (hol : ops.length ≤ 16384) : Calls Tryz.prog 23 [.slice oa ops.length oc, .agg (cel EI [e0, e1]).toArray].toArray w (Ret fun v w' => (((∃ x, v = .tuple #[x, .nilIface]) ∧ ∀ j, j < ops.length → GoodAt ops e0 e1 j (ops.getD j mo0)) ∨ (∃ ev, v = .tuple #[sN0, ev] ∧ Er w.heap.size w' 110 1 ev ∧ ¬ ∀ j, j < ops.length → GoodAt ops e0 e1 j (ops.getD j mo0))) ∧ Ext w w') := by
 have H := Hp.start No w
 refine enter (n := 150) Tryz.func23 rfl rfl (bLe rfl) ?_
 refine go 1 ?_
 intro b1 w2 Z0 H3 c1
 refine go 7 ?_
 refine loopAny (σ := Nat) (fun i => [(0, .slice oa ops.length oc), (3, pT b1), (4, sN0), (5, .nilIface), (6, sN0), (7, iN (cntS fTold ops i)), (15, .slice oa ops.length oc), (16, iN ops.length), (17, iN i)]) (fun i w' => i ≤ ops.length ∧ Hp No w w' [(rX b1 EI ([e0, e1]) 29)]) (fun i => ops.length - i) (0) ?_ ?_ ?_
 ·exact kp
 ·exact ⟨Nat.zero_le _, H3⟩
 rintro i ρ w5 ⟨hq, HL⟩
 have hct := cnt_bound fTold_le ops i
 refine go 1 ?_
 refine condProp (((i : Nat) : Int) < (ops.length : Nat)) rfl (fun w0 => ?_) (fun w0 => ?_)
 ·refine go 3 ?_
  intro b7 w8 d1 H9 g1
  refine go 1 ?_
  intro x0 y0 h1
  refine go 1 ?_
  refine cl (told_ok (ops.getD i mo0) x0) ?_
  rintro _ i1 ⟨rfl, A0⟩
  have o0 := y0.ext A0
  refine go 0 ?_
  refine condProp (tld (ops.getD i mo0)) rfl (fun j0 => ?_) (fun j0 => ?_)
  ·refine go 5 ?_
   exact ⟨i + 1, _, rfl, ⟨rfl, rfl, rfl, rfl, rfl, congrArg i64 (by rw [cntS, fTold, if_pos j0] <;> omega), rfl, rfl, rfl, trivial⟩, ⟨om, (o0.dropk 0)⟩, vd⟩
  ·refine go 2 ?_
   exact ⟨i + 1, _, rfl, ⟨rfl, rfl, rfl, rfl, rfl, congrArg i64 (by rw [cntS, fTold, if_neg j0] <;> omega), rfl, rfl, rfl, trivial⟩, ⟨om, (o0.dropk 0)⟩, vd⟩
 ·have hie : i = ops.length := by omega
  subst hie
  have hob := cnt_bound fTold_le ops ops.length
  rw [show cntS fTold ops ops.length = outsS ops from rfl] at hob ⊢
  refine go 1 ?_
  refine q_makeSlice (E := EI) (m := (outsS ops)) (c := (outsS ops)) (z0 := 0) HL sli100 zer3 rfl byt3 rfl rfl vo vo om om fun f0 j1 B0 C0 k1 => ?_
  refine go 4 ?_
  have D0 := C0.nil (sob EI 127 [] [])
  refine go 0 ?_
  refine loopAny (σ := Nat × Option Nat × Nat × LV × List Int) (fun (i, kf, cf, sf, sl) => [(3, pT b1), (4, sN0), (5, .nilIface), (6, sO kf i cf), (7, iN (outsS ops)), (10, sO (some f0) (outsS ops) (outsS ops)), (28, .slice oa ops.length oc), (29, iN ops.length), (30, iN i)]) (fun (i, kf, cf, sf, sl) w' => (i ≤ ops.length ∧ (∀ j, j < i → GoodAt ops e0 e1 j (ops.getD j mo0)) ∧ sl.length = outsS ops ∧ SeenS ops sl i ∧ Sl EI kf (formL ops i) cf sf ∧ Sl EI (some f0) sl (outsS ops) (cel EI (List.replicate ((outsS ops) - (outsS ops)) 0))) ∧ Hp No w w' [(kf, sob EI 127 (formL ops i) sf), ((some f0), sob EI 3 sl (cel EI (List.replicate ((outsS ops) - (outsS ops)) 0))), (rX b1 EI ([e0, e1]) 29)]) (fun (i, kf, cf, sf, sl) => ops.length - i) ((0, none, 0, [], List.replicate (outsS ops) 0)) ?_ ?_ ?_
  ·exact kp
  ·exact ⟨⟨Nat.zero_le _, fun j h => absurd h (Nat.not_lt_zero _), List.length_replicate, seen_zero _ _, Sl.none, B0⟩, D0⟩
  rintro ⟨i, kf, cf, sf, sl⟩ ρ l1 ⟨⟨hq2, hga, hsl, hsn, hSf, hSs⟩, E0⟩
  have hfl := formL_len ops i
  refine go 1 ?_
  refine condProp (((i : Nat) : Int) < (ops.length : Nat)) rfl (fun F0 => ?_) (fun F0 => ?_)
  ·refine go 4 ?_
   intro a0 m1 n1 o1 p1
   let y1 : Option Addr := some ⟨a0, 3, none⟩
   refine go 2 ?_
   intro G0 p0 r1
   obtain ⟨o, ho⟩ : ∃ q1, q1 = ops.getD i mo0 := ⟨_, rfl⟩
   rw [← ho] at p0 ⊢
   refine go 2 ?_
   refine cl (rule_ok o e0 e1 G0 vGl) ?_
   rintro _ s1 ⟨rfl, H0⟩
   have t1 := p0.ext H0
   refine go 4 ?_
   intro c0 u1 w1 x1 z1
   refine go 1 ?_
   intro I0 q0 A1
   refine sAv ?_
   obtain ⟨r, hr⟩ : ∃ q1, q1 = ruleS o e0 e1 := ⟨_, rfl⟩
   rw [← hr] at q0 ⊢
   refine wend (seqJoin (σ := List Int × Int × Bool) (fun (sl2, rk, ob) => [(3, pT b1), (4, sN0), (5, .nilIface), (6, sO kf i cf), (7, iN (outsS ops)), (10, sO (some f0) (outsS ops) (outsS ops)), (11, iN i), (12, pT a0), (13, pT c0), (14, .bool ob), (28, .slice oa ops.length oc), (29, iN ops.length), (30, iN i)]) (fun (sl2, rk, ob) w' => (rk = rkS ops o e0 e1 ∧ (ob = true ↔ r.2 = true ∧ (tld o → ToldS ops i o)) ∧ sl2.length = outsS ops ∧ (ob = true → SeenS ops sl2 (i + 1)) ∧ Sl EI (some f0) sl2 (outsS ops) (cel EI (List.replicate ((outsS ops) - (outsS ops)) 0))) ∧ Hp No w w' [(kf, sob EI 127 (formL ops i) sf), ((some f0), sob EI 3 sl2 (cel EI (List.replicate ((outsS ops) - (outsS ops)) 0))), (rX b1 EI ([e0, e1]) 29), (rC a0 #[i64 (o.kd), i64 (o.a), i64 (o.b), i64 (o.k), u64 (o.c), i64 (o.pt)] 36), (rC c0 #[i64 (r.1.a), i64 (r.1.b), i64 (r.1.m), i64 rk, .bool (r.1.c), .bool (r.1.p), i64 (r.1.r)] 129)]) ?_ (fun k0 => ?_))
   ·rintro ⟨sl2, rk, ob⟩ ρ J0 ⟨⟨hrk, hob, hsl2, hsn2, hSs2⟩, l0⟩
    refine go 2 ?_
    refine sqGv (B := ob) (v := sO kf i cf) (wantedG (d' := 71) (B := true) rfl rfl rfl) (fun hB => r_move (v := sO kf i cf) rfl) (sqGv (B := ob) (v := .pointer (some ⟨a0, 1, none⟩)) (wantedG (d' := 71) (B := true) rfl rfl rfl) (fun hB => r_fieldAddr (off' := 1) fld36_1 (by decide) (b := a0) (off := 0) rfl om) (sqGv (B := ob) (v := i64 (o.a)) (wantedG (d' := 71) (B := true) rfl rfl rfl) (fun hB => by simp only [gvT (v := _) (h := hB)]; exact r_loadC (v := i64 (o.a)) one3 (l0.get (k := 3) rfl) (off := 1) rfl (by rfl)) (sqGv (B := ob) (v := pT c0) (wantedG (d' := 71) (B := true) rfl rfl rfl) (fun hB => r_fieldAddr (off' := 0) fld129_0 (by decide) (b := c0) (off := 0) rfl om) (sqGv (B := ob) (v := i64 (r.1.a)) (wantedG (d' := 71) (B := true) rfl rfl rfl) (fun hB => by simp only [gvT (v := _) (h := hB)]; exact r_loadC (v := i64 (r.1.a)) one127 (l0.get (k := 4) rfl) (off := 0) rfl (by rfl)) (caGv (B := ob) (v := .bool (wantB ops i o.a r.1.a)) (wantedG (d' := 71) (B := true) rfl rfl rfl) (fun hB => by simp only [gvT (v := _) (h := hB)]; exact Enters.callL (vs := [sO kf i cf, i64 (o.a), i64 (r.1.a)]) call43 rfl) (fun hB => by exact wants_ok ops i o.a r.1.a (ownA kf) cf J0 vRd) fun K0 L0 => ?_)))))
    have m0 := l0.ext L0
    refine sq (r_pickAnd (B := true) rfl rfl rfl rfl) ?_
    refine go 1 ?_
    refine sqGv (B := ((ob && wantB ops i o.a r.1.a))) (v := sO kf i cf) (wantedG (d' := 79) (B := true) rfl rfl rfl) (fun hB => r_move (v := sO kf i cf) rfl) (sqGv (B := ((ob && wantB ops i o.a r.1.a))) (v := .pointer (some ⟨a0, 2, none⟩)) (wantedG (d' := 79) (B := true) rfl rfl rfl) (fun hB => r_fieldAddr (off' := 2) fld36_2 (by decide) (b := a0) (off := 0) rfl om) (sqGv (B := ((ob && wantB ops i o.a r.1.a))) (v := i64 (o.b)) (wantedG (d' := 79) (B := true) rfl rfl rfl) (fun hB => by simp only [gvT (v := _) (h := hB)]; exact r_loadC (v := i64 (o.b)) one3 (m0.get (k := 3) rfl) (off := 2) rfl (by rfl)) (sqGv (B := ((ob && wantB ops i o.a r.1.a))) (v := .pointer (some ⟨c0, 1, none⟩)) (wantedG (d' := 79) (B := true) rfl rfl rfl) (fun hB => r_fieldAddr (off' := 1) fld129_1 (by decide) (b := c0) (off := 0) rfl om) (sqGv (B := ((ob && wantB ops i o.a r.1.a))) (v := i64 (r.1.b)) (wantedG (d' := 79) (B := true) rfl rfl rfl) (fun hB => by simp only [gvT (v := _) (h := hB)]; exact r_loadC (v := i64 (r.1.b)) one127 (m0.get (k := 4) rfl) (off := 1) rfl (by rfl)) (caGv (B := ((ob && wantB ops i o.a r.1.a))) (v := .bool (wantB ops i o.b r.1.b)) (wantedG (d' := 79) (B := true) rfl rfl rfl) (fun hB => by simp only [gvT (v := _) (h := hB)]; exact Enters.callL (vs := [sO kf i cf, i64 (o.b), i64 (r.1.b)]) call43 rfl) (fun hB => by exact wants_ok ops i o.b r.1.b (ownA kf) cf K0 vRd) fun M0 N0 => ?_)))))
    have b0 := m0.ext N0
    refine sq (r_pickAnd (B := true) rfl rfl rfl rfl) ?_
    refine go 1 ?_
    obtain ⟨o3, ho3⟩ : ∃ q : Bool, q = ((ob && wantB ops i o.a r.1.a) && wantB ops i o.b r.1.b) := ⟨_, rfl⟩
    rw [← ho3]
    refine go 2 ?_
    refine sqGv (B := o3) (v := .pointer (some ⟨c0, 3, none⟩)) (wantedG (d' := 88) (B := true) rfl rfl rfl) (fun hB => r_fieldAddr (off' := 3) fld129_3 (by decide) (b := c0) (off := 0) rfl om) (sqGv (B := o3) (v := i64 rk) (wantedG (d' := 88) (B := true) rfl rfl rfl) (fun hB => by simp only [gvT (v := _) (h := hB)]; exact r_loadC (v := i64 rk) one3 (b0.get (k := 4) rfl) (off := 3) rfl (by rfl)) (sqGv (B := o3) (v := .bool (decide (((0 : Int) : Int) < rk))) (wantedG (d' := 88) (B := true) rfl rfl rfl) (fun hB => by simp only [gvT (v := _) (h := hB)]; exact r_gtrI rfl rfl) (sqGv (B := o3) (v := .bool (decide (((0 : Int) : Int) < rk))) (wantedG (d' := 88) (B := true) rfl rfl rfl) (fun hB => by simp only [gvT (v := _) (h := hB)]; exact r_move (v := .bool (decide (((0 : Int) : Int) < rk))) rfl) (sqGv (B := (o3 && (decide (((0 : Int) : Int) < rk)))) (v := .pointer y1) (wantedG (d' := 92) (B := o3) rfl rfl rfl) (fun hB => r_fieldAddr (off' := 3) fld36_3 (by decide) (b := a0) (off := 0) rfl om) (sqGv (B := (o3 && (decide (((0 : Int) : Int) < rk)))) (v := i64 (o.k)) (wantedG (d' := 92) (B := o3) rfl rfl rfl) (fun hB => by simp only [gvT (v := _) (h := hB)]; exact r_loadC (v := i64 (o.k)) one3 (b0.get (k := 3) rfl) (off := 3) rfl (by rfl)) (sqGv (B := (o3 && (decide (((0 : Int) : Int) < rk)))) (v := .bool (decide (((0 : Int) : Int) ≤ o.k))) (wantedG (d' := 92) (B := o3) rfl rfl rfl) (fun hB => by simp only [gvT (v := _) (h := hB)]; exact r_geqI rfl rfl) (sqGv (B := o3) (v := .bool ((decide (((0 : Int) : Int) < rk) && decide (((0 : Int) : Int) ≤ o.k)))) (wantedG (d' := 88) (B := true) rfl rfl rfl) (fun hB => r_pickAnd (B := o3) hB rfl rfl rfl) (sqGv (B := o3) (v := .bool ((decide (((0 : Int) : Int) < rk) && decide (((0 : Int) : Int) ≤ o.k)))) (wantedG (d' := 88) (B := true) rfl rfl rfl) (fun hB => by simp only [gvT (v := _) (h := hB)]; exact r_move (v := .bool ((decide (((0 : Int) : Int) < rk) && decide (((0 : Int) : Int) ≤ o.k)))) rfl) (sqGv (B := (o3 && ((decide (((0 : Int) : Int) < rk) && decide (((0 : Int) : Int) ≤ o.k))))) (v := .pointer y1) (wantedG (d' := 97) (B := o3) rfl rfl rfl) (fun hB => r_fieldAddr (off' := 3) fld36_3 (by decide) (b := a0) (off := 0) rfl om) (sqGv (B := (o3 && ((decide (((0 : Int) : Int) < rk) && decide (((0 : Int) : Int) ≤ o.k))))) (v := i64 (o.k)) (wantedG (d' := 97) (B := o3) rfl rfl rfl) (fun hB => by simp only [gvT (v := _) (h := hB)]; exact r_loadC (v := i64 (o.k)) one3 (b0.get (k := 3) rfl) (off := 3) rfl (by rfl)) (sqGv (B := (o3 && ((decide (((0 : Int) : Int) < rk) && decide (((0 : Int) : Int) ≤ o.k))))) (v := .pointer (some ⟨c0, 3, none⟩)) (wantedG (d' := 97) (B := o3) rfl rfl rfl) (fun hB => r_fieldAddr (off' := 3) fld129_3 (by decide) (b := c0) (off := 0) rfl om) (sqGv (B := (o3 && ((decide (((0 : Int) : Int) < rk) && decide (((0 : Int) : Int) ≤ o.k))))) (v := i64 rk) (wantedG (d' := 97) (B := o3) rfl rfl rfl) (fun hB => by simp only [gvT (v := _) (h := hB)]; exact r_loadC (v := i64 rk) one3 (b0.get (k := 4) rfl) (off := 3) rfl (by rfl)) (sqGv (B := (o3 && ((decide (((0 : Int) : Int) < rk) && decide (((0 : Int) : Int) ≤ o.k))))) (v := .bool (decide ((o.k : Int) < rk))) (wantedG (d' := 97) (B := o3) rfl rfl rfl) (fun hB => by simp only [gvT (v := _) (h := hB)]; exact r_lssI rfl rfl) (sqGv (B := o3) (v := .bool (((decide (((0 : Int) : Int) < rk) && decide (((0 : Int) : Int) ≤ o.k)) && decide ((o.k : Int) < rk)))) (wantedG (d' := 88) (B := true) rfl rfl rfl) (fun hB => r_pickAnd (B := o3) hB rfl rfl rfl) ?_))))))))))))))
    refine sqGv (B := o3) (v := .bool (((decide (((0 : Int) : Int) < rk) && decide (((0 : Int) : Int) ≤ o.k)) && decide ((o.k : Int) < rk)))) (wantedG (d' := 88) (B := true) rfl rfl rfl) (fun hB => by simp only [gvT (v := _) (h := hB)]; exact r_move (v := .bool (((decide (((0 : Int) : Int) < rk) && decide (((0 : Int) : Int) ≤ o.k)) && decide ((o.k : Int) < rk)))) rfl) (sqGv (B := (o3 && (!((decide (((0 : Int) : Int) < rk) && decide (((0 : Int) : Int) ≤ o.k)) && decide ((o.k : Int) < rk))))) (v := .pointer y1) (wantedH (d' := 104) (B := o3) rfl rfl rfl) (fun hB => r_fieldAddr (off' := 3) fld36_3 (by decide) (b := a0) (off := 0) rfl om) (sqGv (B := (o3 && (!((decide (((0 : Int) : Int) < rk) && decide (((0 : Int) : Int) ≤ o.k)) && decide ((o.k : Int) < rk))))) (v := i64 (o.k)) (wantedH (d' := 104) (B := o3) rfl rfl rfl) (fun hB => by simp only [gvT (v := _) (h := hB)]; exact r_loadC (v := i64 (o.k)) one3 (b0.get (k := 3) rfl) (off := 3) rfl (by rfl)) (sqGv (B := (o3 && (!((decide (((0 : Int) : Int) < rk) && decide (((0 : Int) : Int) ≤ o.k)) && decide ((o.k : Int) < rk))))) (v := .bool (decide ((o.k : Int) = (0 : Int)))) (wantedH (d' := 104) (B := o3) rfl rfl rfl) (fun hB => by simp only [gvT (v := _) (h := hB)]; exact r_eqlI rfl rfl) (sqGv (B := o3) (v := .bool ((((decide (((0 : Int) : Int) < rk) && decide (((0 : Int) : Int) ≤ o.k)) && decide ((o.k : Int) < rk)) || decide ((o.k : Int) = (0 : Int))))) (wantedG (d' := 88) (B := true) rfl rfl rfl) (fun hB => r_pickOr (B := o3) hB rfl rfl rfl) (sq (r_pickAnd (B := true) rfl rfl rfl rfl) ?_)))))
    refine go 1 ?_
    refine sqGv (B := ((o3 && (((decide (((0 : Int) : Int) < rk) && decide (((0 : Int) : Int) ≤ o.k)) && decide ((o.k : Int) < rk)) || decide ((o.k : Int) = (0 : Int)))))) (v := .pointer (some ⟨c0, 4, none⟩)) (wantedG (d' := 110) (B := true) rfl rfl rfl) (fun hB => r_fieldAddr (off' := 4) fld129_4 (by decide) (b := c0) (off := 0) rfl om) (sqGv (B := ((o3 && (((decide (((0 : Int) : Int) < rk) && decide (((0 : Int) : Int) ≤ o.k)) && decide ((o.k : Int) < rk)) || decide ((o.k : Int) = (0 : Int)))))) (v := .bool (r.1.c)) (wantedG (d' := 110) (B := true) rfl rfl rfl) (fun hB => by simp only [gvT (v := _) (h := hB)]; exact r_loadC (v := .bool (r.1.c)) one4 (b0.get (k := 4) rfl) (off := 4) rfl (by rfl)) (sqGv (B := ((o3 && (((decide (((0 : Int) : Int) < rk) && decide (((0 : Int) : Int) ≤ o.k)) && decide ((o.k : Int) < rk)) || decide ((o.k : Int) = (0 : Int)))))) (v := .bool (r.1.c)) (wantedG (d' := 110) (B := true) rfl rfl rfl) (fun hB => by simp only [gvT (v := _) (h := hB)]; exact r_move (v := .bool (r.1.c)) rfl) (sqGv (B := (((o3 && (((decide (((0 : Int) : Int) < rk) && decide (((0 : Int) : Int) ≤ o.k)) && decide ((o.k : Int) < rk)) || decide ((o.k : Int) = (0 : Int))))) && (!r.1.c))) (v := .pointer (some ⟨a0, 4, none⟩)) (wantedH (d' := 113) (B := ((o3 && (((decide (((0 : Int) : Int) < rk) && decide (((0 : Int) : Int) ≤ o.k)) && decide ((o.k : Int) < rk)) || decide ((o.k : Int) = (0 : Int)))))) rfl rfl rfl) (fun hB => r_fieldAddr (off' := 4) fld36_4 (by decide) (b := a0) (off := 0) rfl om) (sqGv (B := (((o3 && (((decide (((0 : Int) : Int) < rk) && decide (((0 : Int) : Int) ≤ o.k)) && decide ((o.k : Int) < rk)) || decide ((o.k : Int) = (0 : Int))))) && (!r.1.c))) (v := u64 (o.c)) (wantedH (d' := 113) (B := ((o3 && (((decide (((0 : Int) : Int) < rk) && decide (((0 : Int) : Int) ≤ o.k)) && decide ((o.k : Int) < rk)) || decide ((o.k : Int) = (0 : Int)))))) rfl rfl rfl) (fun hB => by simp only [gvT (v := _) (h := hB)]; exact r_loadC (v := u64 (o.c)) one34 (b0.get (k := 3) rfl) (off := 4) rfl (by rfl)) (sqGv (B := (((o3 && (((decide (((0 : Int) : Int) < rk) && decide (((0 : Int) : Int) ≤ o.k)) && decide ((o.k : Int) < rk)) || decide ((o.k : Int) = (0 : Int))))) && (!r.1.c))) (v := .bool (decide (o.c = (0#64)))) (wantedH (d' := 113) (B := ((o3 && (((decide (((0 : Int) : Int) < rk) && decide (((0 : Int) : Int) ≤ o.k)) && decide ((o.k : Int) < rk)) || decide ((o.k : Int) = (0 : Int)))))) rfl rfl rfl) (fun hB => by simp only [gvT (v := _) (h := hB)]; exact r_eql64 (a := o.c) (b := 0#64) rfl rfl) (sqGv (B := ((o3 && (((decide (((0 : Int) : Int) < rk) && decide (((0 : Int) : Int) ≤ o.k)) && decide ((o.k : Int) < rk)) || decide ((o.k : Int) = (0 : Int)))))) (v := .bool ((r.1.c || decide (o.c = (0#64))))) (wantedG (d' := 110) (B := true) rfl rfl rfl) (fun hB => r_pickOr (B := ((o3 && (((decide (((0 : Int) : Int) < rk) && decide (((0 : Int) : Int) ≤ o.k)) && decide ((o.k : Int) < rk)) || decide ((o.k : Int) = (0 : Int)))))) hB rfl rfl rfl) (sq (r_pickAnd (B := true) rfl rfl rfl rfl) ?_)))))))
    refine go 1 ?_
    refine sqGv (B := (((o3 && (((decide (((0 : Int) : Int) < rk) && decide (((0 : Int) : Int) ≤ o.k)) && decide ((o.k : Int) < rk)) || decide ((o.k : Int) = (0 : Int)))) && (r.1.c || decide (o.c = (0#64)))))) (v := .pointer (some ⟨c0, 5, none⟩)) (wantedG (d' := 119) (B := true) rfl rfl rfl) (fun hB => r_fieldAddr (off' := 5) fld129_5 (by decide) (b := c0) (off := 0) rfl om) (sqGv (B := (((o3 && (((decide (((0 : Int) : Int) < rk) && decide (((0 : Int) : Int) ≤ o.k)) && decide ((o.k : Int) < rk)) || decide ((o.k : Int) = (0 : Int)))) && (r.1.c || decide (o.c = (0#64)))))) (v := .bool (r.1.p)) (wantedG (d' := 119) (B := true) rfl rfl rfl) (fun hB => by simp only [gvT (v := _) (h := hB)]; exact r_loadC (v := .bool (r.1.p)) one4 (b0.get (k := 4) rfl) (off := 5) rfl (by rfl)) (sqGv (B := (((o3 && (((decide (((0 : Int) : Int) < rk) && decide (((0 : Int) : Int) ≤ o.k)) && decide ((o.k : Int) < rk)) || decide ((o.k : Int) = (0 : Int)))) && (r.1.c || decide (o.c = (0#64)))))) (v := .bool (r.1.p)) (wantedG (d' := 119) (B := true) rfl rfl rfl) (fun hB => by simp only [gvT (v := _) (h := hB)]; exact r_move (v := .bool (r.1.p)) rfl) (sqGv (B := ((((o3 && (((decide (((0 : Int) : Int) < rk) && decide (((0 : Int) : Int) ≤ o.k)) && decide ((o.k : Int) < rk)) || decide ((o.k : Int) = (0 : Int)))) && (r.1.c || decide (o.c = (0#64))))) && r.1.p)) (v := .pointer (some ⟨a0, 5, none⟩)) (wantedG (d' := 122) (B := (((o3 && (((decide (((0 : Int) : Int) < rk) && decide (((0 : Int) : Int) ≤ o.k)) && decide ((o.k : Int) < rk)) || decide ((o.k : Int) = (0 : Int)))) && (r.1.c || decide (o.c = (0#64)))))) rfl rfl rfl) (fun hB => r_fieldAddr (off' := 5) fld36_5 (by decide) (b := a0) (off := 0) rfl om) (sqGv (B := ((((o3 && (((decide (((0 : Int) : Int) < rk) && decide (((0 : Int) : Int) ≤ o.k)) && decide ((o.k : Int) < rk)) || decide ((o.k : Int) = (0 : Int)))) && (r.1.c || decide (o.c = (0#64))))) && r.1.p)) (v := i64 (o.pt)) (wantedG (d' := 122) (B := (((o3 && (((decide (((0 : Int) : Int) < rk) && decide (((0 : Int) : Int) ≤ o.k)) && decide ((o.k : Int) < rk)) || decide ((o.k : Int) = (0 : Int)))) && (r.1.c || decide (o.c = (0#64)))))) rfl rfl rfl) (fun hB => by simp only [gvT (v := _) (h := hB)]; exact r_loadC (v := i64 (o.pt)) one3 (b0.get (k := 3) rfl) (off := 5) rfl (by rfl)) (sqGv (B := ((((o3 && (((decide (((0 : Int) : Int) < rk) && decide (((0 : Int) : Int) ≤ o.k)) && decide ((o.k : Int) < rk)) || decide ((o.k : Int) = (0 : Int)))) && (r.1.c || decide (o.c = (0#64))))) && r.1.p)) (v := .bool (decide ((o.pt : Int) = (0 : Int)))) (wantedG (d' := 122) (B := (((o3 && (((decide (((0 : Int) : Int) < rk) && decide (((0 : Int) : Int) ≤ o.k)) && decide ((o.k : Int) < rk)) || decide ((o.k : Int) = (0 : Int)))) && (r.1.c || decide (o.c = (0#64)))))) rfl rfl rfl) (fun hB => by simp only [gvT (v := _) (h := hB)]; exact r_eqlI rfl rfl) (sqGv (B := ((((o3 && (((decide (((0 : Int) : Int) < rk) && decide (((0 : Int) : Int) ≤ o.k)) && decide ((o.k : Int) < rk)) || decide ((o.k : Int) = (0 : Int)))) && (r.1.c || decide (o.c = (0#64))))) && r.1.p)) (v := .bool (decide ((o.pt : Int) = (0 : Int)))) (wantedG (d' := 122) (B := (((o3 && (((decide (((0 : Int) : Int) < rk) && decide (((0 : Int) : Int) ≤ o.k)) && decide ((o.k : Int) < rk)) || decide ((o.k : Int) = (0 : Int)))) && (r.1.c || decide (o.c = (0#64)))))) rfl rfl rfl) (fun hB => by simp only [gvT (v := _) (h := hB)]; exact r_move (v := .bool (decide ((o.pt : Int) = (0 : Int)))) rfl) (sqGv (B := (((((o3 && (((decide (((0 : Int) : Int) < rk) && decide (((0 : Int) : Int) ≤ o.k)) && decide ((o.k : Int) < rk)) || decide ((o.k : Int) = (0 : Int)))) && (r.1.c || decide (o.c = (0#64))))) && r.1.p) && (!(decide ((o.pt : Int) = (0 : Int)))))) (v := .pointer (some ⟨a0, 5, none⟩)) (wantedH (d' := 126) (B := ((((o3 && (((decide (((0 : Int) : Int) < rk) && decide (((0 : Int) : Int) ≤ o.k)) && decide ((o.k : Int) < rk)) || decide ((o.k : Int) = (0 : Int)))) && (r.1.c || decide (o.c = (0#64))))) && r.1.p)) rfl rfl rfl) (fun hB => r_fieldAddr (off' := 5) fld36_5 (by decide) (b := a0) (off := 0) rfl om) (sqGv (B := (((((o3 && (((decide (((0 : Int) : Int) < rk) && decide (((0 : Int) : Int) ≤ o.k)) && decide ((o.k : Int) < rk)) || decide ((o.k : Int) = (0 : Int)))) && (r.1.c || decide (o.c = (0#64))))) && r.1.p) && (!(decide ((o.pt : Int) = (0 : Int)))))) (v := i64 (o.pt)) (wantedH (d' := 126) (B := ((((o3 && (((decide (((0 : Int) : Int) < rk) && decide (((0 : Int) : Int) ≤ o.k)) && decide ((o.k : Int) < rk)) || decide ((o.k : Int) = (0 : Int)))) && (r.1.c || decide (o.c = (0#64))))) && r.1.p)) rfl rfl rfl) (fun hB => by simp only [gvT (v := _) (h := hB)]; exact r_loadC (v := i64 (o.pt)) one3 (b0.get (k := 3) rfl) (off := 5) rfl (by rfl)) (sqGv (B := (((((o3 && (((decide (((0 : Int) : Int) < rk) && decide (((0 : Int) : Int) ≤ o.k)) && decide ((o.k : Int) < rk)) || decide ((o.k : Int) = (0 : Int)))) && (r.1.c || decide (o.c = (0#64))))) && r.1.p) && (!(decide ((o.pt : Int) = (0 : Int)))))) (v := .bool (decide ((o.pt : Int) = (1 : Int)))) (wantedH (d' := 126) (B := ((((o3 && (((decide (((0 : Int) : Int) < rk) && decide (((0 : Int) : Int) ≤ o.k)) && decide ((o.k : Int) < rk)) || decide ((o.k : Int) = (0 : Int)))) && (r.1.c || decide (o.c = (0#64))))) && r.1.p)) rfl rfl rfl) (fun hB => by simp only [gvT (v := _) (h := hB)]; exact r_eqlI rfl rfl) (sqGv (B := ((((o3 && (((decide (((0 : Int) : Int) < rk) && decide (((0 : Int) : Int) ≤ o.k)) && decide ((o.k : Int) < rk)) || decide ((o.k : Int) = (0 : Int)))) && (r.1.c || decide (o.c = (0#64))))) && r.1.p)) (v := .bool ((decide ((o.pt : Int) = (0 : Int)) || decide ((o.pt : Int) = (1 : Int))))) (wantedG (d' := 122) (B := (((o3 && (((decide (((0 : Int) : Int) < rk) && decide (((0 : Int) : Int) ≤ o.k)) && decide ((o.k : Int) < rk)) || decide ((o.k : Int) = (0 : Int)))) && (r.1.c || decide (o.c = (0#64)))))) rfl rfl rfl) (fun hB => r_pickOr (B := ((((o3 && (((decide (((0 : Int) : Int) < rk) && decide (((0 : Int) : Int) ≤ o.k)) && decide ((o.k : Int) < rk)) || decide ((o.k : Int) = (0 : Int)))) && (r.1.c || decide (o.c = (0#64))))) && r.1.p)) hB rfl rfl rfl) (sqGv (B := (((o3 && (((decide (((0 : Int) : Int) < rk) && decide (((0 : Int) : Int) ≤ o.k)) && decide ((o.k : Int) < rk)) || decide ((o.k : Int) = (0 : Int)))) && (r.1.c || decide (o.c = (0#64)))))) (v := .bool ((r.1.p && (decide ((o.pt : Int) = (0 : Int)) || decide ((o.pt : Int) = (1 : Int)))))) (wantedG (d' := 119) (B := true) rfl rfl rfl) (fun hB => r_pickAnd (B := (((o3 && (((decide (((0 : Int) : Int) < rk) && decide (((0 : Int) : Int) ≤ o.k)) && decide ((o.k : Int) < rk)) || decide ((o.k : Int) = (0 : Int)))) && (r.1.c || decide (o.c = (0#64)))))) hB rfl rfl rfl) (sqGv (B := (((o3 && (((decide (((0 : Int) : Int) < rk) && decide (((0 : Int) : Int) ≤ o.k)) && decide ((o.k : Int) < rk)) || decide ((o.k : Int) = (0 : Int)))) && (r.1.c || decide (o.c = (0#64)))))) (v := .bool ((r.1.p && (decide ((o.pt : Int) = (0 : Int)) || decide ((o.pt : Int) = (1 : Int)))))) (wantedG (d' := 119) (B := true) rfl rfl rfl) (fun hB => by simp only [gvT (v := _) (h := hB)]; exact r_move (v := .bool ((r.1.p && (decide ((o.pt : Int) = (0 : Int)) || decide ((o.pt : Int) = (1 : Int)))))) rfl) (sqGv (B := ((((o3 && (((decide (((0 : Int) : Int) < rk) && decide (((0 : Int) : Int) ≤ o.k)) && decide ((o.k : Int) < rk)) || decide ((o.k : Int) = (0 : Int)))) && (r.1.c || decide (o.c = (0#64))))) && (!(r.1.p && (decide ((o.pt : Int) = (0 : Int)) || decide ((o.pt : Int) = (1 : Int))))))) (v := .pointer (some ⟨a0, 5, none⟩)) (wantedH (d' := 132) (B := (((o3 && (((decide (((0 : Int) : Int) < rk) && decide (((0 : Int) : Int) ≤ o.k)) && decide ((o.k : Int) < rk)) || decide ((o.k : Int) = (0 : Int)))) && (r.1.c || decide (o.c = (0#64)))))) rfl rfl rfl) (fun hB => r_fieldAddr (off' := 5) fld36_5 (by decide) (b := a0) (off := 0) rfl om) (sqGv (B := ((((o3 && (((decide (((0 : Int) : Int) < rk) && decide (((0 : Int) : Int) ≤ o.k)) && decide ((o.k : Int) < rk)) || decide ((o.k : Int) = (0 : Int)))) && (r.1.c || decide (o.c = (0#64))))) && (!(r.1.p && (decide ((o.pt : Int) = (0 : Int)) || decide ((o.pt : Int) = (1 : Int))))))) (v := i64 (o.pt)) (wantedH (d' := 132) (B := (((o3 && (((decide (((0 : Int) : Int) < rk) && decide (((0 : Int) : Int) ≤ o.k)) && decide ((o.k : Int) < rk)) || decide ((o.k : Int) = (0 : Int)))) && (r.1.c || decide (o.c = (0#64)))))) rfl rfl rfl) (fun hB => by simp only [gvT (v := _) (h := hB)]; exact r_loadC (v := i64 (o.pt)) one3 (b0.get (k := 3) rfl) (off := 5) rfl (by rfl)) ?_))))))))))))))
    refine sqGv (B := ((((o3 && (((decide (((0 : Int) : Int) < rk) && decide (((0 : Int) : Int) ≤ o.k)) && decide ((o.k : Int) < rk)) || decide ((o.k : Int) = (0 : Int)))) && (r.1.c || decide (o.c = (0#64))))) && (!(r.1.p && (decide ((o.pt : Int) = (0 : Int)) || decide ((o.pt : Int) = (1 : Int))))))) (v := .bool (decide ((o.pt : Int) = (0 : Int)))) (wantedH (d' := 132) (B := (((o3 && (((decide (((0 : Int) : Int) < rk) && decide (((0 : Int) : Int) ≤ o.k)) && decide ((o.k : Int) < rk)) || decide ((o.k : Int) = (0 : Int)))) && (r.1.c || decide (o.c = (0#64)))))) rfl rfl rfl) (fun hB => by simp only [gvT (v := _) (h := hB)]; exact r_eqlI rfl rfl) (sqGv (B := (((o3 && (((decide (((0 : Int) : Int) < rk) && decide (((0 : Int) : Int) ≤ o.k)) && decide ((o.k : Int) < rk)) || decide ((o.k : Int) = (0 : Int)))) && (r.1.c || decide (o.c = (0#64)))))) (v := .bool (((r.1.p && (decide ((o.pt : Int) = (0 : Int)) || decide ((o.pt : Int) = (1 : Int)))) || decide ((o.pt : Int) = (0 : Int))))) (wantedG (d' := 119) (B := true) rfl rfl rfl) (fun hB => r_pickOr (B := (((o3 && (((decide (((0 : Int) : Int) < rk) && decide (((0 : Int) : Int) ≤ o.k)) && decide ((o.k : Int) < rk)) || decide ((o.k : Int) = (0 : Int)))) && (r.1.c || decide (o.c = (0#64)))))) hB rfl rfl rfl) (sq (r_pickAnd (B := true) rfl rfl rfl rfl) ?_))
    refine go 1 ?_
    obtain ⟨o4, ho4⟩ : ∃ q : Bool, q = (((o3 && (((decide (((0 : Int) : Int) < rk) && decide (((0 : Int) : Int) ≤ o.k)) && decide ((o.k : Int) < rk)) || decide ((o.k : Int) = (0 : Int)))) && (r.1.c || decide (o.c = (0#64)))) && ((r.1.p && (decide ((o.pt : Int) = (0 : Int)) || decide ((o.pt : Int) = (1 : Int)))) || decide ((o.pt : Int) = (0 : Int)))) := ⟨_, rfl⟩
    rw [← ho4]
    rw [ho3] at ho4
    have hgb : o4 = true ↔ GoodAt ops e0 e1 i o := by rw [ho4]; exact good_iff hr hrk hob
    have hsn2 : GoodAt ops e0 e1 i o → SeenS ops sl2 (i + 1) := fun h => hsn2 (hob.2 ⟨hr ▸ h.ok, h.told⟩)
    refine go 2 ?_
    refine condBool (!o4) rfl (fun n0 => ?_) (fun n0 => ?_)
    ·have hgo2 : o4 = false := by simpa using n0
     refine go 2 ?_
     have := b0.lt (List.mem_of_getElem? (i := 2) rfl) rfl
     have := b0.lt (List.mem_of_getElem? (i := 3) rfl) rfl
     have := b0.lt (List.mem_of_getElem? (i := 4) rfl) rfl
     refine cl (wrap0_ok (110 : Int) (i : Nat) ({data := #[111, 112]}) M0 vGl) ?_
     rintro v53 B1 ⟨r0, O0⟩
     have P0 := b0.ext O0
     obtain ⟨C1, D1, rfl⟩ := r0.iface
     refine go 2 ?_
     exact ⟨_, rfl, .inr ⟨_, rfl, r0.mono b0.chg.size, fun h => absurd ((hgb.2 (by have h2 := h i om; rw [← ho] at h2; exact h2)).symm.trans hgo2) (by decide)⟩, P0.chg⟩
    ·have hgo2 : o4 = true := by simpa using n0
     have hgo := hgb.1 hgo2
     refine go 3 ?_
     refine bS (E := EI) (l := [r.1.m]) fun E1 F1 G1 H1 I1 => ?_
     refine apq ?_
     refine ⟨by exact (formL_len ops i).symm, by rfl, om, ?_⟩
     intro Q0 h0 R0 J1 S0 K1 T0
     have U0 : (formL ops i) ++ ([r.1.m]) = formL ops (i + 1) := by rw [formL, ← ho, ← rule_m o e0 e1, ← hr]
     have s0 := S0
     have u0 := T0
     rw [U0] at s0 u0
     refine go 3 ?_
     exact ⟨(i + 1, Q0, h0, R0, sl2), _, rfl, kp, ⟨⟨om, fun j hj => if h : j < i then hga j h else by (rw [show j = i by omega, ← ho]; exact hgo), hsl2, hsn2 (hgb.1 hgo2), s0, hSs2⟩, (((u0.dropk 5).dropk 4).dropk 0)⟩, vd⟩
   ·refine go 1 ?_
    refine cl (told_ok o I0) ?_
    rintro _ L1 ⟨rfl, V0⟩
    have W0 := q0.ext V0
    refine go 0 ?_
    refine condProp (tld o) rfl (fun d0 => ?_) (fun d0 => ?_)
    ·refine go 3 ?_
     intro M1 i0 N1
     refine go 2 ?_
     refine sqGv (B := r.2) (v := .pointer y1) (wantedG (d' := 46) (B := true) rfl rfl rfl) (fun hB => r_fieldAddr (off' := 3) fld36_3 (by decide) (b := a0) (off := 0) rfl om) (sqGv (B := r.2) (v := i64 (o.k)) (wantedG (d' := 46) (B := true) rfl rfl rfl) (fun hB => by simp only [gvT (v := _) (h := hB)]; exact r_loadC (v := i64 (o.k)) one3 (i0.get (k := 1) rfl) (off := 3) rfl (by rfl)) (sqGv (B := r.2) (v := .bool (decide (((0 : Int) : Int) ≤ o.k))) (wantedG (d' := 46) (B := true) rfl rfl rfl) (fun hB => by simp only [gvT (v := _) (h := hB)]; exact r_geqI rfl rfl) (sq (r_pickAnd (B := true) rfl rfl rfl rfl) ?_)))
     refine go 1 ?_
     refine sqGv (B := ((r.2 && decide (((0 : Int) : Int) ≤ o.k)))) (v := .pointer y1) (wantedG (d' := 51) (B := true) rfl rfl rfl) (fun hB => r_fieldAddr (off' := 3) fld36_3 (by decide) (b := a0) (off := 0) rfl om) (sqGv (B := ((r.2 && decide (((0 : Int) : Int) ≤ o.k)))) (v := i64 (o.k)) (wantedG (d' := 51) (B := true) rfl rfl rfl) (fun hB => by simp only [gvT (v := _) (h := hB)]; exact r_loadC (v := i64 (o.k)) one3 (i0.get (k := 1) rfl) (off := 3) rfl (by rfl)) (sqGv (B := ((r.2 && decide (((0 : Int) : Int) ≤ o.k)))) (v := iN (outsS ops)) (wantedG (d' := 51) (B := true) rfl rfl rfl) (fun hB => r_move (v := iN (outsS ops)) rfl) (sqGv (B := ((r.2 && decide (((0 : Int) : Int) ≤ o.k)))) (v := .bool (decide ((o.k : Int) < ((outsS ops) : Nat)))) (wantedG (d' := 51) (B := true) rfl rfl rfl) (fun hB => by simp only [gvT (v := _) (h := hB)]; exact r_lssI rfl rfl) (sq (r_pickAnd (B := true) rfl rfl rfl rfl) ?_))))
     refine go 1 ?_
     refine sqGv (B := (((r.2 && decide (((0 : Int) : Int) ≤ o.k)) && decide ((o.k : Int) < ((outsS ops) : Nat))))) (v := sO (some f0) (outsS ops) (outsS ops)) (wantedG (d' := 57) (B := true) rfl rfl rfl) (fun hB => r_move (v := sO (some f0) (outsS ops) (outsS ops)) rfl) (sqGv (B := (((r.2 && decide (((0 : Int) : Int) ≤ o.k)) && decide ((o.k : Int) < ((outsS ops) : Nat))))) (v := .pointer y1) (wantedG (d' := 57) (B := true) rfl rfl rfl) (fun hB => r_fieldAddr (off' := 3) fld36_3 (by decide) (b := a0) (off := 0) rfl om) (sqGv (B := (((r.2 && decide (((0 : Int) : Int) ≤ o.k)) && decide ((o.k : Int) < ((outsS ops) : Nat))))) (v := i64 (o.k)) (wantedG (d' := 57) (B := true) rfl rfl rfl) (fun hB => by simp only [gvT (v := _) (h := hB)]; exact r_loadC (v := i64 (o.k)) one3 (i0.get (k := 1) rfl) (off := 3) rfl (by rfl)) (sqGv (B := (((r.2 && decide (((0 : Int) : Int) ≤ o.k)) && decide ((o.k : Int) < ((outsS ops) : Nat))))) (v := .pointer (adr (ownA (some f0)) (o.k.toNat * 1))) (wantedG (d' := 57) (B := true) rfl rfl rfl) (fun hB => by have hB2 := hB; simp only [Bool.and_eq_true, decide_eq_true_eq] at hB2; simp only [gvT (v := _) (h := hB)]; exact r_idxS (E := EI) (l := sl) (j := o.k.toNat) sli100 (i0.rd (k := 3) rfl hSs) rfl rfl om (by exact hsl.symm) om) (sqGv (B := (((r.2 && decide (((0 : Int) : Int) ≤ o.k)) && decide ((o.k : Int) < ((outsS ops) : Nat))))) (v := i64 (sl.getD o.k.toNat 0)) (wantedG (d' := 57) (B := true) rfl rfl rfl) (fun hB => by have hB2 := hB; simp only [Bool.and_eq_true, decide_eq_true_eq] at hB2; simp only [gvT (v := _) (h := hB)]; exact r_ldS (E := EI) (l := sl) (j := o.k.toNat) (v := sl.getD o.k.toNat 0) fits3 (i0.rd (k := 3) rfl hSs) rfl rfl (at_getD om)) (sqGv (B := (((r.2 && decide (((0 : Int) : Int) ≤ o.k)) && decide ((o.k : Int) < ((outsS ops) : Nat))))) (v := .bool (decide ((sl.getD o.k.toNat 0 : Int) = (0 : Int)))) (wantedG (d' := 57) (B := true) rfl rfl rfl) (fun hB => by simp only [gvT (v := _) (h := hB)]; exact r_eqlI rfl rfl) (sq (r_pickAnd (B := true) rfl rfl rfl rfl) ?_))))))
     refine go 2 ?_
     refine condBool ((((r.2 && decide (((0 : Int) : Int) ≤ o.k)) && decide ((o.k : Int) < ((outsS ops) : Nat))) && decide ((sl.getD o.k.toNat 0 : Int) = (0 : Int)))) rfl (fun h0 => ?_) (fun h0 => ?_)
     ·have hkt := ((told_iff hsn d0).1 h0).2 d0
      unfold ToldS at hkt
      refine go 5 ?_
      intro O1 X0 Y0
      exact wnil (thenNormal (k0 (sl.set o.k.toNat (1 : Int), ((outsS ops) : Nat), (((r.2 && decide (((0 : Int) : Int) ≤ o.k)) && decide ((o.k : Int) < ((outsS ops) : Nat))) && decide ((sl.getD o.k.toNat 0 : Int) = (0 : Int)))) _ _ kp ⟨⟨by rw [rkS, if_pos d0], told_iff hsn d0, by rw [List.length_set]; exact hsl, fun _ => by have h := (told_iff hsn d0).1 h0; have h2 := h.2 d0; exact seen_set ho hsn hsl d0 ⟨h2.1, h2.2.1⟩, X0⟩, (Y0.pk 5 [2, 3, 4, 1, 0])⟩))
     ·exact skipAny (thenNormal (k0 (sl, ((outsS ops) : Nat), (((r.2 && decide (((0 : Int) : Int) ≤ o.k)) && decide ((o.k : Int) < ((outsS ops) : Nat))) && decide ((sl.getD o.k.toNat 0 : Int) = (0 : Int)))) _ _ kp ⟨⟨by rw [rkS, if_pos d0], told_iff hsn d0, hsl, fun h => absurd (h0.symm.trans h) (by decide), hSs⟩, (i0.pk 5 [2, 3, 4, 1, 0])⟩))
    ·exact skipAny (thenNormal (k0 (sl, r.1.k, r.2) _ _ kp ⟨⟨by rw [rkS, if_neg d0, ← hr], ⟨fun h => ⟨h, fun t => absurd t d0⟩, fun h => h.1⟩, hsl, fun _ => seen_skip ho hsn d0, hSs⟩, (W0.pk 5 [2, 3, 4, 1, 0])⟩))
  ·have hie : i = ops.length := by omega
   refine go 3 ?_
   exact ⟨_, rfl, .inl ⟨⟨_, rfl⟩, fun j hj => hga j om⟩, E0.chg⟩
end Go.Proofs.YtohngnahcgbfmaaGreatDoor.Mi
namespace Go.Proofs.YtohngnahcgbfmaaGreatDoor.Mi
open Go Vc Er Ek Circ
theorem und29 : Tryz.prog.underlying 29 = some (.array 2 3) := by kernel_rfl
theorem mcheck_ok (ops : List Mo) (oa : Option Addr) (oc : Nat) (e0 e1 : Int) (w : World) (hG : Gl w) (hO : Rd EMo w oa ops) (hol : ops.length ≤ 140737488355328) : Calls Tryz.prog 8 [.slice oa ops.length oc, .agg (cel EI [e0, e1]).toArray].toArray w (Ret fun v w' => ((v = .nilIface ∧ Good ops e0 e1) ∨ (Er w.heap.size w' 110 1 v ∧ ¬ Good ops e0 e1)) ∧ Ext w w') := by
 have H := Hp.start No w
 refine enter (n := 37) Tryz.func8 rfl rfl (bLe rfl) ?_
 refine go 1 ?_
 intro b1 w2 u0 H3 w0
 refine go 3 ?_
 refine loopAny (σ := Nat) (fun q => [(0, .slice oa ops.length oc), (3, pT b1), (4, .nilIface), (9, .agg (cel EI ([e0, e1])).toArray), (10, iN q)]) (fun q w' => (q ≤ 2 ∧ ∀ j, j < q → 0 ≤ [e0, e1].getD j 0 ∧ [e0, e1].getD j 0 ≤ 65536) ∧ Hp No w w' [(rX b1 EI ([e0, e1]) 29)]) (fun q => 2 - q) (0) ?_ ?_ ?_
 ·exact kp
 ·exact ⟨⟨Nat.zero_le _, fun j h => absurd h (Nat.not_lt_zero _)⟩, H3⟩
 rintro q ρ w5 ⟨⟨hq, hqa⟩, HL⟩
 refine go 1 ?_
 refine condProp (((q : Nat) : Int) < (2 : Int)) rfl (fun j0 => ?_) (fun j0 => ?_)
 ·refine go 0 ?_
  refine sq (r_idxE (E := EI) (l := [e0, e1]) (j := q) (a := ([e0, e1]).getD q 0) rfl und29 one3 siz3 rfl rfl vo om (by exact at_getD (by show q < 2; omega)) (fun _ => rfl)) ?_
  refine go 4 ?_
  by_cases g7 : (([e0, e1]).getD q 0 : Int) < (0 : Int)
  ·refine skAny (wantedSome (d' := 15) (b := true) rfl rfl (congrArg Value.bool (decide_eq_true g7))) (skAny (wantedSome (d' := 15) (b := true) rfl rfl (congrArg Value.bool (decide_eq_true g7))) (sq (r_pickT (u := .bool true) (congrArg Value.bool (decide_eq_true g7)) rfl) ?_))
   refine go 2 ?_
   have := HL.lt (List.mem_of_getElem? (i := 0) rfl) rfl
   refine cl (wrap0_ok (110 : Int) (([e0, e1]).getD q 0) ({data := #[101, 108, 101, 109, 101, 110, 116, 115]}) w5 vGl) ?_
   rintro v10 w8 ⟨b0, k0⟩
   have m0 := HL.ext k0
   obtain ⟨x0, y0, rfl⟩ := b0.iface
   refine go 1 ?_
   exact ⟨_, rfl, .inr ⟨b0.mono HL.chg.size, fun h => by
    have hgd : 0 ≤ [e0, e1].getD q 0 ∧ [e0, e1].getD q 0 ≤ 65536 := by
     rcases (show q = 0 ∨ q = 1 by omega) with rfl | rfl
     ·exact ⟨h.l0, h.h0⟩
     ·exact ⟨h.l1, h.h1⟩
    omega⟩, m0.chg⟩
  ·refine sqAny (v := i64 (([e0, e1]).getD q 0)) (w' := w5) (wantedSome (d' := 15) (b := false) rfl rfl (congrArg Value.bool (decide_eq_false g7))) (r_move (v := i64 (([e0, e1]).getD q 0)) rfl) (sqAny (v := .bool (decide (((65536 : Int) : Int) < (([e0, e1]).getD q 0)))) (w' := w5) (wantedSome (d' := 15) (b := false) rfl rfl (congrArg Value.bool (decide_eq_false g7))) (r_gtrI rfl rfl) (sq (r_pickF (v := .bool (decide (((65536 : Int) : Int) < (([e0, e1]).getD q 0)))) (congrArg Value.bool (decide_eq_false g7)) rfl) ?_))
   refine go 0 ?_
   refine condProp (((65536 : Int) : Int) < (([e0, e1]).getD q 0)) rfl (fun n0 => ?_) (fun n0 => ?_)
   ·refine go 2 ?_
    have := HL.lt (List.mem_of_getElem? (i := 0) rfl) rfl
    refine cl (wrap0_ok (110 : Int) (([e0, e1]).getD q 0) ({data := #[101, 108, 101, 109, 101, 110, 116, 115]}) w5 vGl) ?_
    rintro v18 z0 ⟨c0, o0⟩
    have p0 := HL.ext o0
    obtain ⟨A0, B0, rfl⟩ := c0.iface
    refine go 1 ?_
    exact ⟨_, rfl, .inr ⟨c0.mono HL.chg.size, fun h => by
     have hgd : 0 ≤ [e0, e1].getD q 0 ∧ [e0, e1].getD q 0 ≤ 65536 := by
      rcases (show q = 0 ∨ q = 1 by omega) with rfl | rfl
      ·exact ⟨h.l0, h.h0⟩
      ·exact ⟨h.l1, h.h1⟩
     omega⟩, p0.chg⟩
   ·refine go 2 ?_
    exact ⟨q + 1, _, rfl, kp, ⟨⟨om, fun j hj => if h : j < q then hqa j h else by (rw [show j = q by omega]; omega)⟩, HL⟩, vd⟩
 ·have hz0 : 0 ≤ e0 ∧ e0 ≤ 65536 := hqa 0 om
  have hz1 : 0 ≤ e1 ∧ e1 ≤ 65536 := hqa 1 om
  refine go 3 ?_
  refine condProp (((16384 : Int) : Int) < (ops.length : Nat)) rfl (fun q0 => ?_) (fun q0 => ?_)
  ·refine go 3 ?_
   have := HL.lt (List.mem_of_getElem? (i := 0) rfl) rfl
   refine cl (wrap0_ok (110 : Int) (ops.length : Nat) ({data := #[111, 112, 115]}) w5 vGl) ?_
   rintro v26 C0 ⟨d0, r0⟩
   have s0 := HL.ext r0
   obtain ⟨D0, E0, rfl⟩ := d0.iface
   refine go 1 ?_
   exact ⟨_, rfl, .inr ⟨d0.mono HL.chg.size, fun h => by have := h.len; omega⟩, s0.chg⟩
  ·refine go 2 ?_
   have := HL.lt (List.mem_of_getElem? (i := 0) rfl) rfl
   refine cl (forms_ok ops oa oc e0 e1 w5 vGl vRd om) ?_
   rintro _ F0 ⟨⟨⟨G0, rfl⟩, hga35⟩ | ⟨H0, rfl, f0, hbd38⟩, i0⟩
   ·have a0 := HL.ext i0
    refine go 7 ?_
    exact ⟨_, rfl, .inl ⟨rfl, ⟨hz0.1, hz0.2, hz1.1, hz1.2, by omega, hga35⟩⟩, a0.chg⟩
   ·have a0 := HL.ext i0
    obtain ⟨I0, J0, rfl⟩ := f0.iface
    refine go 7 ?_
    exact ⟨_, rfl, .inr ⟨f0.mono HL.chg.size, fun h => hbd38 h.at'⟩, a0.chg⟩
theorem mcheck_yes (ops : List Mo) (oa : Option Addr) (oc : Nat) (e0 e1 : Int) (mo : Nat) (hmo : mo = ops.length) (w : World) (hG : Gl w) (hO : Rd EMo w oa ops) (hol : ops.length ≤ 140737488355328) (hg : Good ops e0 e1) : Calls Tryz.prog 8 [.slice oa mo oc, .agg (cel EI [e0, e1]).toArray].toArray w (Ret fun v w' => v = .nilIface ∧ Ext w w') := by
 subst hmo
 refine (mcheck_ok ops oa oc e0 e1 w hG hO hol).mono fun e w' ⟨v, he, h, hE⟩ => ?_
 rcases h with ⟨h, _⟩ | ⟨_, h⟩
 ·exact ⟨v, he, h, hE⟩
 ·exact absurd hg h
theorem mcheck_no (ops : List Mo) (oa : Option Addr) (oc : Nat) (e0 e1 : Int) (mo : Nat) (hmo : mo = ops.length) (w : World) (hG : Gl w) (hO : Rd EMo w oa ops) (hol : ops.length ≤ 140737488355328) (hg : ¬ Good ops e0 e1) : Calls Tryz.prog 8 [.slice oa mo oc, .agg (cel EI [e0, e1]).toArray].toArray w (Ret fun v w' => Er w.heap.size w' 110 1 v ∧ Ext w w') := by
 subst hmo
 refine (mcheck_ok ops oa oc e0 e1 w hG hO hol).mono fun e w' ⟨v, he, h, hE⟩ => ?_
 rcases h with ⟨_, h⟩ | ⟨h, _⟩
 ·exact absurd h hg
 ·exact ⟨v, he, h, hE⟩
end Go.Proofs.YtohngnahcgbfmaaGreatDoor.Mi
namespace Go.Proofs.YtohngnahcgbfmaaGreatDoor.Mi
open Go Vc Er Ek Circ
theorem call8 : callable Tryz.prog 8 = true := by kernel_rfl
theorem rounds_ok (ops : List Mo) (oa : Option Addr) (oc : Nat) (w : World) (hG : Gl w) (hO : Rd EMo w oa ops) (hol : ops.length ≤ 140737488355328) (hg : Good ops 65536 65536) : Calls Tryz.prog 34 [.slice oa ops.length oc].toArray w (Ret fun v w' => SlRes EI 3 (rdS ops ops.length) w v w' ∧ Ext w w') := by
 let x1 : Array Value := #[i64 0, i64 0, i64 0, i64 0, .bool false, .bool false, i64 0]
 have hlen := hg.len
 have H := Hp.start No w
 refine enter (n := 52) Tryz.func34 rfl rfl (bLe rfl) ?_
 refine go 2 ?_
 refine cl (all_ok w) ?_
 rintro _ w1 ⟨rfl, B0⟩
 have H3 := H.ext B0
 refine cl (mcheck_yes ops oa oc 65536 65536 ops.length (by rfl) w1 vGl vRd om hg) ?_
 rintro _ w4 ⟨rfl, C0⟩
 have H6 := H3.ext C0
 refine sq ((r_neqNN isI31 rfl rfl).as (v' := .bool false) (by rfl)) ?_
 refine go 4 ?_
 have H7 := H6.nil (sob EI 3 [] [])
 refine go 0 ?_
 refine loopAny (σ := Nat × Option Nat × Nat × LV) (fun (i, kf, cf, sf) => [(2, sN0), (3, sO kf i cf), (13, .slice oa ops.length oc), (14, iN ops.length), (15, iN i)]) (fun (i, kf, cf, sf) w' => (i ≤ ops.length ∧ Sl EI kf (rdS ops i) cf sf) ∧ Hp No w w' [(kf, sob EI 3 (rdS ops i) sf)]) (fun (i, kf, cf, sf) => ops.length - i) ((0, none, 0, [])) ?_ ?_ ?_
 ·exact kp
 ·exact ⟨⟨Nat.zero_le _, Sl.none⟩, H7⟩
 rintro ⟨i, kf, cf, sf⟩ ρ w8 ⟨⟨hq, hSf⟩, HL⟩
 have hfl := rdS_len ops i
 have hrb0 := rd_bound ops i
 refine go 1 ?_
 refine condProp (((i : Nat) : Int) < (ops.length : Nat)) rfl (fun D0 => ?_) (fun D0 => ?_)
 ·refine go 3 ?_
  intro E0 D1 E1 F1 G1
  refine go 1 ?_
  intro H1 m0 I1
  obtain ⟨o, ho⟩ : ∃ q1, q1 = ops.getD i mo0 := ⟨_, rfl⟩
  rw [← ho] at m0 ⊢
  refine go 0 ?_
  let b0 : List RW := [(rC E0 #[i64 (o.kd), i64 (o.a), i64 (o.b), i64 (o.k), u64 (o.c), i64 (o.pt)] 36), (kf, sob EI 3 (rdS ops i) sf)]
  let F0 : Tab := [zt4 false false false false fun _ _ _ _ w' => Hp No w w' b0, zt4 true false false false fun v1 _ _ _ w' => v1 = .agg (cel EI [65536, 65536]).toArray ∧ Hp No w w' b0, zt4 true true false false fun v1 v2 _ _ w' => v1 = .agg (cel EI [65536, 65536]).toArray ∧ v2 = .tuple #[.agg #[i64 ((ruleS o 65536 65536).1.a), i64 ((ruleS o 65536 65536).1.b), i64 ((ruleS o 65536 65536).1.m), i64 ((ruleS o 65536 65536).1.k), .bool ((ruleS o 65536 65536).1.c), .bool ((ruleS o 65536 65536).1.p), i64 ((ruleS o 65536 65536).1.r)], .bool ((ruleS o 65536 65536).2)] ∧ Hp No w w' b0, zt4 false false true false fun _ _ v6 _ w' => ∃ d0, v6 = pT d0 ∧ Hp No w w' ((rC d0 x1 129) :: b0), zt4 true false true false fun v1 _ v6 _ w' => ∃ e0, v1 = .agg (cel EI [65536, 65536]).toArray ∧ v6 = pT e0 ∧ Hp No w w' ((rC e0 x1 129) :: b0), zt4 true true true false fun v1 v2 v6 _ w' => ∃ a0, v1 = .agg (cel EI [65536, 65536]).toArray ∧ v2 = .tuple #[.agg #[i64 ((ruleS o 65536 65536).1.a), i64 ((ruleS o 65536 65536).1.b), i64 ((ruleS o 65536 65536).1.m), i64 ((ruleS o 65536 65536).1.k), .bool ((ruleS o 65536 65536).1.c), .bool ((ruleS o 65536 65536).1.p), i64 ((ruleS o 65536 65536).1.r)], .bool ((ruleS o 65536 65536).2)] ∧ v6 = pT a0 ∧ Hp No w w' ((rC a0 x1 129) :: b0), zt4 true true true true fun v1 v2 v6 _ w' => ∃ a0, v1 = .agg (cel EI [65536, 65536]).toArray ∧ v2 = .tuple #[.agg #[i64 ((ruleS o 65536 65536).1.a), i64 ((ruleS o 65536 65536).1.b), i64 ((ruleS o 65536 65536).1.m), i64 ((ruleS o 65536 65536).1.k), .bool ((ruleS o 65536 65536).1.c), .bool ((ruleS o 65536 65536).1.p), i64 ((ruleS o 65536 65536).1.r)], .bool ((ruleS o 65536 65536).2)] ∧ v6 = pT a0 ∧ Hp No w w' ((rC a0 #[i64 ((ruleS o 65536 65536).1.a), i64 ((ruleS o 65536 65536).1.b), i64 ((ruleS o 65536 65536).1.m), i64 ((ruleS o 65536 65536).1.k), .bool ((ruleS o 65536 65536).1.c), .bool ((ruleS o 65536 65536).1.p), i64 ((ruleS o 65536 65536).1.r)] 129) :: b0)]
  refine drawH (m := 9) [0, 0, 3, 7, 15, 15, 0, 95, 255] [1, 2, 6, 7] b0 F0 mixed (fun _ e => m0.ext e) (A_ (fun _ _ h => h) (A_ (fun _ _ ⟨_, h⟩ => h) (A_ (fun _ _ ⟨_, _, h⟩ => h) (A_ (fun _ _ ⟨_, _, h⟩ => h.drop1) (A_ (fun _ _ ⟨_, _, _, h⟩ => h.drop1) (A_ (fun _ _ ⟨_, _, _, _, h⟩ => h.drop1) (A_ (fun _ _ ⟨_, _, _, _, h⟩ => h.drop1) trivial))))))) (fun f0 => ?_)
  refine gk 1 ?_
  refine WalkT.eff f0 0 ?_ ?_
  ·refine A_ (fun r w0 uw hF hE => ?_) (A_ (fun r w0 uw hF hE => ?_) trivial)
   ·have G0 := hF.ext hE
    refine gW fun Q' hK => (cl (all_ok uw) ?_)
    rintro _ J1 ⟨rfl, H0⟩
    have I0 := G0.ext H0
    exact hK _ _ (A_ rfl I0)
   ·obtain ⟨d0, e6, i0⟩ := hF
    replace i0 := i0.ext hE
    refine gW fun Q' hK => (cl (all_ok uw) ?_)
    rintro _ K1 ⟨rfl, J0⟩
    have K0 := i0.ext J0
    exact hK _ _ (E_ d0 (A_ rfl (A_ e6 K0)))
  refine WalkT.eff f0 1 ?_ ?_
  ·refine A_ (fun r w0 uw hF hE => ?_) (A_ (fun r w0 uw hF hE => ?_) trivial)
   ·obtain ⟨e1, j0⟩ := hF
    replace j0 := j0.ext hE
    dsimp only
    rw [e1]
    refine gW fun Q' hK => (cl (rule_ok o 65536 65536 uw vGl) ?_)
    rintro _ L1 ⟨rfl, L0⟩
    have M0 := j0.ext L0
    exact hK _ _ (A_ e1 (A_ rfl M0))
   ·obtain ⟨e0, e1, e6, k0⟩ := hF
    replace k0 := k0.ext hE
    dsimp only
    rw [e1]
    refine gW fun Q' hK => (cl (rule_ok o 65536 65536 uw vGl) ?_)
    rintro _ M1 ⟨rfl, N0⟩
    have O0 := k0.ext N0
    exact hK _ _ (E_ e0 (A_ e1 (A_ rfl (A_ e6 O0))))
  refine WalkT.hand (fun r => r 2) (fun r r' h => h 2 (by decide) rfl) (fun _ _ => r_move rfl) (WalkT.lookS (fun r => proj (r 2) 0) (fun r r' h => by rw [h 2 (by decide) rfl]) ?_ ?_)
  ·refine A_ (fun r w0 uw hF hE => ?_) (A_ (fun r w0 uw hF hE => ?_) trivial)
   ·obtain ⟨e1, e2, HH⟩ := hF
    replace HH := HH.ext hE
    dsimp only
    rw [e2]
    exact vGr
   ·obtain ⟨a0, e1, e2, e6, HH⟩ := hF
    replace HH := HH.ext hE
    dsimp only
    rw [e2]
    exact vGr
  refine WalkT.lookS (fun r => proj (r 2) 1) (fun r r' h => by rw [h 2 (by decide) rfl]) ?_ ?_
  ·refine A_ (fun r w0 uw hF hE => ?_) (A_ (fun r w0 uw hF hE => ?_) (A_ (fun r w0 uw hF hE => ?_) trivial))
   ·obtain ⟨e1, e2, HH⟩ := hF
    replace HH := HH.ext hE
    dsimp only
    rw [e2]
    exact vGr
   ·obtain ⟨a0, e1, e2, e6, HH⟩ := hF
    replace HH := HH.ext hE
    dsimp only
    rw [e2]
    exact vGr
   ·obtain ⟨a0, e1, e2, e6, HH⟩ := hF
    replace HH := HH.ext hE
    dsimp only
    rw [e2]
    exact vGr
  refine WalkT.eff f0 2 ?_ ?_
  ·refine A_ (fun r w0 uw hF hE => ?_) (A_ (fun r w0 uw hF hE => ?_) (A_ (fun r w0 uw hF hE => ?_) trivial))
   ·have N1 := hF.ext hE
    refine gW fun Q' hK => ?_
    refine go 1 ?_
    intro P0 O1 P1 Q0 Q1
    exact hK _ _ (E_ P0 (A_ rfl Q0))
   ·obtain ⟨e1, n0⟩ := hF
    replace n0 := n0.ext hE
    refine gW fun Q' hK => ?_
    refine go 1 ?_
    intro R0 R1 S1 S0 T1
    exact hK _ _ (E_ R0 (A_ e1 (A_ rfl S0)))
   ·obtain ⟨e1, e2, o0⟩ := hF
    replace o0 := o0.ext hE
    refine gW fun Q' hK => ?_
    refine go 1 ?_
    intro T0 U1 V1 U0 W1
    exact hK _ _ (E_ T0 (A_ e1 (A_ e2 (A_ rfl U0))))
  refine WalkT.eff f0 3 ?_ ?_
  ·refine A_ (fun r w0 uw hF hE => ?_) trivial
   obtain ⟨a0, e1, e2, e6, p0⟩ := hF
   replace p0 := p0.ext hE
   dsimp only
   rw [e2, e6]
   refine gW0 fun Q' hK => ?_
   refine go 1 ?_
   intro X1 V0 Y1
   exact hK _ (fun _ => (E_ a0 (A_ e1 (A_ e2 (A_ e6 V0)))))
  refine WalkT.hand (fun r => proj (r 2) 1) (fun r r' h => by rw [h 2 (by decide) rfl]) (fun _ _ => r_assign rfl) (WalkT.nil fun r w0 Z1 hF hE => ?_)
  obtain ⟨a0, e1, e2, e6, h0⟩ := hF
  replace h0 := h0.ext hE
  dsimp only
  rw [e1, e2, e6]
  dsimp only [b0] at h0
  obtain ⟨r, hr⟩ : ∃ q1, q1 = ruleS o 65536 65536 := ⟨_, rfl⟩
  rw [← hr] at h0 ⊢
  have hgo := hg.at' i om
  rw [← ho] at hgo
  have hwa := hgo.a
  have hwb := hgo.b
  rw [← hr] at hwa hwb
  unfold wantP at hwa hwb
  refine go 4 ?_
  refine condProp ((r.1.a : Int) ≠ (0 : Int)) rfl (fun l0 => ?_) (fun l0 => ?_)
  ·have hra : r.1.a ≠ 0 := by simpa using l0
   rw [if_neg hra] at hwa
   refine go 9 ?_
   refine condProp ((r.1.b : Int) ≠ (0 : Int)) rfl (fun c0 => ?_) (fun c0 => ?_)
   ·have hrb : r.1.b ≠ 0 := by simpa using c0
    rw [if_neg hrb] at hwb
    refine go 12 ?_
    refine sq (r_addI rfl rfl (by have h1 := hrb0.2 o.a.toNat; have h2 := hrb0.2 o.b.toNat; have h3 := rule_r o 65536 65536; rw [← hr] at h3; omega)) (bS (E := EI) (l := [(max ((rdS ops i).getD o.a.toNat 0) ((rdS ops i).getD o.b.toNat 0)) + r.1.r]) fun c2 d2 f2 g2 i2 => ?_)
    refine apq ?_
    refine ⟨by exact (rdS_len ops i).symm, by rfl, om, ?_⟩
    intro W0 X0 Y0 j2 Z0 k2 c1
    have d1 : (rdS ops i) ++ ([(max ((rdS ops i).getD o.a.toNat 0) ((rdS ops i).getD o.b.toNat 0)) + r.1.r]) = rdS ops (i + 1) := by rw [rdS, ← ho, ← hr, aheadS, if_neg hrb, if_neg hra]
    have q0 := Z0
    have r0 := c1
    rw [d1] at q0 r0
    refine go 3 ?_
    exact ⟨(i + 1, W0, X0, Y0), _, rfl, kp, ⟨⟨om, q0⟩, (((r0.dropk 2).dropk 1).dropk 0)⟩, vd⟩
   ·have hrb : r.1.b = 0 := by simpa using c0
    rw [if_pos hrb] at hwb
    refine go 4 ?_
    refine sq (r_addI rfl rfl (by have h1 := hrb0.2 o.a.toNat; have h2 := hrb0.2 o.b.toNat; have h3 := rule_r o 65536 65536; rw [← hr] at h3; omega)) (bS (E := EI) (l := [((rdS ops i).getD o.a.toNat 0) + r.1.r]) fun l2 m2 n2 o2 p2 => ?_)
    refine apq ?_
    refine ⟨by exact (rdS_len ops i).symm, by rfl, om, ?_⟩
    intro g1 i1 j1 q2 k1 r2 l1
    have m1 : (rdS ops i) ++ ([((rdS ops i).getD o.a.toNat 0) + r.1.r]) = rdS ops (i + 1) := by rw [rdS, ← ho, ← hr, aheadS, if_pos hrb, if_neg hra]
    have s0 := k1
    have u0 := l1
    rw [m1] at s0 u0
    refine go 3 ?_
    exact ⟨(i + 1, g1, i1, j1), _, rfl, kp, ⟨⟨om, s0⟩, (((u0.dropk 2).dropk 1).dropk 0)⟩, vd⟩
  ·have hra : r.1.a = 0 := by simpa using l0
   rw [if_pos hra] at hwa
   refine go 3 ?_
   refine condProp ((r.1.b : Int) ≠ (0 : Int)) rfl (fun c0 => ?_) (fun c0 => ?_)
   ·have hrb : r.1.b ≠ 0 := by simpa using c0
    rw [if_neg hrb] at hwb
    refine go 12 ?_
    refine sq (r_addI rfl rfl (by have h1 := hrb0.2 o.a.toNat; have h2 := hrb0.2 o.b.toNat; have h3 := rule_r o 65536 65536; rw [← hr] at h3; omega)) (bS (E := EI) (l := [(max (0 : Int) ((rdS ops i).getD o.b.toNat 0)) + r.1.r]) fun s2 t2 u2 w2 x2 => ?_)
    refine apq ?_
    refine ⟨by exact (rdS_len ops i).symm, by rfl, om, ?_⟩
    intro n1 o1 p1 y2 r1 z2 s1
    have t1 : (rdS ops i) ++ ([(max (0 : Int) ((rdS ops i).getD o.b.toNat 0)) + r.1.r]) = rdS ops (i + 1) := by rw [rdS, ← ho, ← hr, aheadS, if_neg hrb, if_pos hra]
    have x0 := r1
    have y0 := s1
    rw [t1] at x0 y0
    refine go 3 ?_
    exact ⟨(i + 1, n1, o1, p1), _, rfl, kp, ⟨⟨om, x0⟩, (((y0.dropk 2).dropk 1).dropk 0)⟩, vd⟩
   ·have hrb : r.1.b = 0 := by simpa using c0
    rw [if_pos hrb] at hwb
    refine go 4 ?_
    refine sq (r_addI rfl rfl (by have h1 := hrb0.2 o.a.toNat; have h2 := hrb0.2 o.b.toNat; have h3 := rule_r o 65536 65536; rw [← hr] at h3; omega)) (bS (E := EI) (l := [(0 : Int) + r.1.r]) fun A2 B2 C2 D2 E2 => ?_)
    refine apq ?_
    refine ⟨by exact (rdS_len ops i).symm, by rfl, om, ?_⟩
    intro u1 y1 z1 F2 A1 G2 B1
    have C1 : (rdS ops i) ++ ([(0 : Int) + r.1.r]) = rdS ops (i + 1) := by rw [rdS, ← ho, ← hr, aheadS, if_pos hrb, if_pos hra]
    have z0 := A1
    have A0 := B1
    rw [C1] at z0 A0
    refine go 3 ?_
    exact ⟨(i + 1, u1, y1, z1), _, rfl, kp, ⟨⟨om, z0⟩, (((A0.dropk 2).dropk 1).dropk 0)⟩, vd⟩
 ·have hie : i = ops.length := by omega
  subst hie
  refine go 2 ?_
  exact ⟨_, rfl, HL.resN (k := 0) rfl hSf (rdS_len _ _).symm, HL.chg⟩
end Go.Proofs.YtohngnahcgbfmaaGreatDoor.Mi
namespace Go.Proofs.YtohngnahcgbfmaaGreatDoor.Mi
open Go Vc Er Ek Circ
theorem agg104 : isAgg' Tryz.prog 104 = true := by kernel_rfl
theorem call36 : callable Tryz.prog 36 = true := by kernel_rfl
theorem fld104_0 : fld Tryz.prog 104 0 = some (0, 1, 3) := by kernel_rfl
theorem zer57 : zer Tryz.prog 57 = some (.agg #[.int .i64 0, .int .i64 0, .int .i64 0, .int .i64 0, .int .i64 0, .int .i64 0, .int .i64 0, .int .i64 0]) := by kernel_rfl
theorem ands_okN (n : Int) (gs : List Gt) (ol : List Int) (ga oa : Option Addr) (gc oc mg mo : Nat) (hmg : mg = gs.length) (hmo : mo = ol.length) (w : World) (hGs : Rd EG w ga gs) (hgl : gs.length ≤ 140737488355328) : Calls Tryz.prog 37 [.agg #[i64 n, .slice ga mg gc, .slice oa mo oc]].toArray w (Ret fun v w' => v = iN (andsS gs gs.length) ∧ Ext w w') := by
 subst hmg hmo; exact ands_ok n gs ol ga oa gc oc w hGs hgl
theorem need_ok (ops : List Mo) (oa : Option Addr) (oc : Nat) (w : World) (hG : Gl w) (hO : Rd EMo w oa ops) (hol : ops.length ≤ 140737488355328) (hg : Good ops 65536 65536) : Calls Tryz.prog 15 [.slice oa ops.length oc].toArray w (Ret fun v w' => v = .agg #[iN (nA ops), iN (nB ops), iN (nO ops), iN (nT0 ops), iN (nT1 ops), i64 (nR ops), iN (nW0 ops), iN (nW1 ops)] ∧ Ext w w') := by
 let x1 : Array Value := #[i64 0, i64 0, i64 0, i64 0, i64 0, i64 0, i64 0, i64 0]
 have hlen := hg.len
 have H := Hp.start No w
 refine enter (n := 166) Tryz.func15 rfl rfl (bLe rfl) ?_
 refine go 1 ?_
 intro b1 w2 B1 H3 C1
 refine go 1 ?_
 intro b5 w6 D1 H7 E1
 refine go 1 ?_
 refine cl (rounds_ok ops oa oc w6 vGl vRd om hg) ?_
 rintro _ w9 ⟨⟨j0, q0, r0, rfl, F1, s0⟩, u0⟩
 rw [show (rdS ops ops.length).length = ops.length from rdS_len _ _]
 have x0 := H7.add u0 s0
 refine go 2 ?_
 refine loopAny (σ := Nat) (fun i => [(0, .slice oa ops.length oc), (2, pT b1), (3, pT b5), (13, sO j0 ops.length q0), (14, iN ops.length), (15, iN i)]) (fun i w' => i ≤ ops.length ∧ Hp No w w' [(rC b5 #[i64 0, i64 0, i64 0, i64 0, i64 0, i64 (mxS (rdS ops ops.length) i), i64 0, i64 0] 57), (rC b1 x1 57), (j0, sob EI 3 (rdS ops ops.length) r0)]) (fun i => ops.length - i) (0) ?_ ?_ ?_
 ·exact kp
 ·exact ⟨Nat.zero_le _, (x0.pk 3 [1, 2, 0])⟩
 rintro i ρ y0 ⟨hq, HL⟩
 have hrl := rdS_len ops ops.length
 have hmx := mx_bound ops ops.length i
 have hrb := rd_bound ops ops.length
 refine go 1 ?_
 refine condProp (((i : Nat) : Int) < (ops.length : Nat)) rfl (fun z0 => ?_) (fun z0 => ?_)
 ·refine go 9 ?_
  intro G1 A0 H1
  refine go 2 ?_
  exact ⟨i + 1, _, rfl, kp, ⟨om, A0⟩, vd⟩
 ·have hie : i = ops.length := by omega
  rw [hie, show mxS (rdS ops ops.length) ops.length = nR ops from rfl] at HL
  refine go 1 ?_
  refine cl (all_ok y0) ?_
  rintro _ B0 ⟨rfl, C0⟩
  have D0 := HL.ext C0
  refine cl (mcheck_yes ops oa oc 65536 65536 ops.length (by rfl) B0 vGl vRd om hg) ?_
  rintro _ I1 ⟨rfl, E0⟩
  have F0 := D0.ext E0
  refine sq ((r_neqNN isI31 rfl rfl).as (v' := .bool false) (by rfl)) ?_
  refine go 4 ?_
  refine loopAny (σ := Nat) (fun i => [(2, pT b1), (3, pT b5), (6, iN (cntS fG ops i)), (30, .slice oa ops.length oc), (31, iN ops.length), (32, iN i)]) (fun i w' => i ≤ ops.length ∧ Hp No w w' [(rC b5 #[iN (cntS fA ops i), iN (cntS fB ops i), iN (cntS fO ops i), iN (cntS fT0 ops i), iN (cntS fT1 ops i), i64 (nR ops), iN (cntS fW0 ops i), iN (cntS fW1 ops i)] 57), (rC b1 x1 57)]) (fun i => ops.length - i) (0) ?_ ?_ ?_
  ·exact kp
  ·exact ⟨Nat.zero_le _, (F0.dropk 2)⟩
  rintro i ρ J1 ⟨hq2, K1⟩
  obtain ⟨hcA, hcB, hcO, hcT0, hcT1, hcW0, hcW1, hcG⟩ := cntLe ops i
  refine go 1 ?_
  refine condProp (((i : Nat) : Int) < (ops.length : Nat)) rfl (fun G0 => ?_) (fun G0 => ?_)
  ·refine go 3 ?_
   intro H0 L1 M1 N1 O1
   refine go 1 ?_
   intro I0 a0 P1
   obtain ⟨o, ho⟩ : ∃ q1, q1 = ops.getD i mo0 := ⟨_, rfl⟩
   let x5 : Value := i64 (((cntS fT0 ops i) : Nat) + ((256 * opG o) : Nat))
   let x4 : Value := iN (cntS fW1 ops i)
   let x3 : Value := iN (cntS fB ops i)
   let x2 : Value := iN (cntS fA ops i)
   rw [← ho] at a0 ⊢
   have hgo := hg.at' i om
   rw [← ho] at hgo
   have hog := opG_le o
   have hag := andG_le o
   refine go 4 ?_
   refine condProp ((o.kd : Int) = (1 : Int)) rfl (fun k1 => ?_) (fun k1 => ?_)
   ·by_cases hp : o.pt = 0
    ·refine go 3 ?_
     refine sq (r_indexA (off' := 3) (j := 0) arr29 (b := b5) (off := 3) rfl rfl vo om om) (sq (r_loadC (v := iN (cntS fT0 ops i)) one3 (a0.get (k := 1) rfl) (off := 3) rfl (by rfl)) ?_)
     refine go 2 ?_
     refine sq (r_indexA (off' := 3) (j := 0) arr29 (b := b5) (off := 3) rfl rfl vo om om) (d_store (k := 1) (v := i64 (((cntS fT0 ops i) : Nat) + (1 : Int))) (cs' := #[x2, x3, iN (cntS fO ops i), i64 (((cntS fT0 ops i) : Nat) + (1 : Int)), iN (cntS fT1 ops i), i64 (nR ops), iN (cntS fW0 ops i), x4]) a0 rfl rfl rfl siz3 (by rfl) (by exact EI.one _) (by exact bLe rfl) (by rfl) fun Q1 J0 R1 => ?_)
     have k0 := J0.a3 rfl
     refine go 3 ?_
     refine sq (r_indexA (off' := 6) (j := 0) arr29 (b := b5) (off := 6) rfl rfl vo om om) (sq (r_loadC (v := iN (cntS fW0 ops i)) one3 (k0.get (k := 1) rfl) (off := 6) rfl (by rfl)) ?_)
     refine go 2 ?_
     refine sq (r_indexA (off' := 6) (j := 0) arr29 (b := b5) (off := 6) rfl rfl vo om om) (d_store (k := 1) (v := i64 (((cntS fW0 ops i) : Nat) + (1 : Int))) (cs' := #[x2, x3, iN (cntS fO ops i), i64 (((cntS fT0 ops i) : Nat) + (1 : Int)), iN (cntS fT1 ops i), i64 (nR ops), i64 (((cntS fW0 ops i) : Nat) + (1 : Int)), x4]) k0 rfl rfl rfl siz3 (by rfl) (by exact EI.one _) (by exact bLe rfl) (by rfl) fun S1 K0 U1 => ?_)
     have L0 := K0.a3 rfl
     refine go 2 ?_
     have hi := inc1a k1 hp
     have M0 := ((L0.dropk 0)).as (L' := [(rC b5 #[iN (cntS fA ops (i + 1)), iN (cntS fB ops (i + 1)), iN (cntS fO ops (i + 1)), iN (cntS fT0 ops (i + 1)), iN (cntS fT1 ops (i + 1)), i64 (nR ops), iN (cntS fW0 ops (i + 1)), iN (cntS fW1 ops (i + 1))] 57), (rC b1 #[i64 0, i64 0, i64 0, i64 0, i64 0, i64 0, i64 0, i64 0] 57)]) (by rw [cnt_succ ho hi.A, cnt_succ ho hi.B, cnt_succ ho hi.O, cnt_succ ho hi.T0, cnt_succ ho hi.T1, cnt_succ ho hi.W0, cnt_succ ho hi.W1] <;> rfl)
     exact ⟨i + 1, _, rfl, ⟨rfl, rfl, congrArg (fun q : Nat => i64 (q : Int)) (cnt_succ ho hi.G).symm, rfl, rfl, rfl, trivial⟩, ⟨om, M0⟩, vd⟩
    ·refine go 0 ?_
     have hp1 : o.pt = 1 := by have := hgo.p; omega
     refine go 3 ?_
     refine sq (r_indexA (off' := 4) (j := 1) arr29 (b := b5) (off := 3) rfl rfl vo om om) (sq (r_loadC (v := iN (cntS fT1 ops i)) one3 (a0.get (k := 1) rfl) (off := 4) rfl (by rfl)) ?_)
     refine go 2 ?_
     refine sq (r_indexA (off' := 4) (j := 1) arr29 (b := b5) (off := 3) rfl rfl vo om om) (d_store (k := 1) (v := i64 (((cntS fT1 ops i) : Nat) + (1 : Int))) (cs' := #[x2, x3, iN (cntS fO ops i), iN (cntS fT0 ops i), i64 (((cntS fT1 ops i) : Nat) + (1 : Int)), i64 (nR ops), iN (cntS fW0 ops i), x4]) a0 rfl rfl rfl siz3 (by rfl) (by exact EI.one _) (by exact bLe rfl) (by rfl) fun V1 N0 X1 => ?_)
     have l0 := N0.a3 rfl
     refine go 3 ?_
     refine sq (r_indexA (off' := 7) (j := 1) arr29 (b := b5) (off := 6) rfl rfl vo om om) (sq (r_loadC (v := iN (cntS fW1 ops i)) one3 (l0.get (k := 1) rfl) (off := 7) rfl (by rfl)) ?_)
     refine go 2 ?_
     refine sq (r_indexA (off' := 7) (j := 1) arr29 (b := b5) (off := 6) rfl rfl vo om om) (d_store (k := 1) (v := i64 (((cntS fW1 ops i) : Nat) + (1 : Int))) (cs' := #[x2, x3, iN (cntS fO ops i), iN (cntS fT0 ops i), i64 (((cntS fT1 ops i) : Nat) + (1 : Int)), i64 (nR ops), iN (cntS fW0 ops i), i64 (((cntS fW1 ops i) : Nat) + (1 : Int))]) l0 rfl rfl rfl siz3 (by rfl) (by exact EI.one _) (by exact bLe rfl) (by rfl) fun Y1 O0 Z1 => ?_)
     have P0 := O0.a3 rfl
     refine go 2 ?_
     have hi := inc1b k1 hp1
     have Q0 := ((P0.dropk 0)).as (L' := [(rC b5 #[iN (cntS fA ops (i + 1)), iN (cntS fB ops (i + 1)), iN (cntS fO ops (i + 1)), iN (cntS fT0 ops (i + 1)), iN (cntS fT1 ops (i + 1)), i64 (nR ops), iN (cntS fW0 ops (i + 1)), iN (cntS fW1 ops (i + 1))] 57), (rC b1 #[i64 0, i64 0, i64 0, i64 0, i64 0, i64 0, i64 0, i64 0] 57)]) (by rw [cnt_succ ho hi.A, cnt_succ ho hi.B, cnt_succ ho hi.O, cnt_succ ho hi.T0, cnt_succ ho hi.T1, cnt_succ ho hi.W0, cnt_succ ho hi.W1] <;> rfl)
     exact ⟨i + 1, _, rfl, ⟨rfl, rfl, congrArg (fun q : Nat => i64 (q : Int)) (cnt_succ ho hi.G).symm, rfl, rfl, rfl, trivial⟩, ⟨om, Q0⟩, vd⟩
   ·refine go 2 ?_
    refine condProp ((o.kd : Int) = (6 : Int)) rfl (fun k6 => ?_) (fun k6 => ?_)
    ·refine go 5 ?_
     intro c2 d2 e2
     refine go 7 ?_
     intro f2 g2 h2
     refine go 7 ?_
     intro i2 R0 j2
     refine go 2 ?_
     have hi := inc6 k6
     have S0 := ((R0.dropk 0)).as (L' := [(rC b5 #[iN (cntS fA ops (i + 1)), iN (cntS fB ops (i + 1)), iN (cntS fO ops (i + 1)), iN (cntS fT0 ops (i + 1)), iN (cntS fT1 ops (i + 1)), i64 (nR ops), iN (cntS fW0 ops (i + 1)), iN (cntS fW1 ops (i + 1))] 57), (rC b1 #[i64 0, i64 0, i64 0, i64 0, i64 0, i64 0, i64 0, i64 0] 57)]) (by rw [cnt_succ ho hi.A, cnt_succ ho hi.B, cnt_succ ho hi.O, cnt_succ ho hi.T0, cnt_succ ho hi.T1, cnt_succ ho hi.W0, cnt_succ ho hi.W1] <;> rfl)
     exact ⟨i + 1, _, rfl, ⟨rfl, rfl, congrArg (fun q : Nat => i64 (q : Int)) (cnt_succ ho hi.G).symm, rfl, rfl, rfl, trivial⟩, ⟨om, S0⟩, vd⟩
    ·refine go 2 ?_
     refine condProp ((o.kd : Int) = (9 : Int)) rfl (fun k9 => ?_) (fun k9 => ?_)
     ·refine go 5 ?_
      intro k2 l2 m2
      refine go 7 ?_
      intro n2 o2 p2
      refine go 7 ?_
      intro q2 U0 r2
      refine go 2 ?_
      have hi := inc9 k9
      have V0 := ((U0.dropk 0)).as (L' := [(rC b5 #[iN (cntS fA ops (i + 1)), iN (cntS fB ops (i + 1)), iN (cntS fO ops (i + 1)), iN (cntS fT0 ops (i + 1)), iN (cntS fT1 ops (i + 1)), i64 (nR ops), iN (cntS fW0 ops (i + 1)), iN (cntS fW1 ops (i + 1))] 57), (rC b1 #[i64 0, i64 0, i64 0, i64 0, i64 0, i64 0, i64 0, i64 0] 57)]) (by rw [cnt_succ ho hi.A, cnt_succ ho hi.B, cnt_succ ho hi.O, cnt_succ ho hi.T0, cnt_succ ho hi.T1, cnt_succ ho hi.W0, cnt_succ ho hi.W1] <;> rfl)
      exact ⟨i + 1, _, rfl, ⟨rfl, rfl, congrArg (fun q : Nat => i64 (q : Int)) (cnt_succ ho hi.G).symm, rfl, rfl, rfl, trivial⟩, ⟨om, V0⟩, vd⟩
     ·refine go 2 ?_
      refine condProp ((o.kd : Int) = (18 : Int)) rfl (fun c0 => ?_) (fun c0 => ?_)
      ·refine go 0 ?_
       refine condTrue (congrArg Value.bool (decide_eq_true c0)) ?_
       refine go 7 ?_
       intro s2 t2 u2
       refine go 7 ?_
       intro y2 X0 z2
       refine go 2 ?_
       have hi := incT (.inl c0)
       have Y0 := ((X0.dropk 0)).as (L' := [(rC b5 #[iN (cntS fA ops (i + 1)), iN (cntS fB ops (i + 1)), iN (cntS fO ops (i + 1)), iN (cntS fT0 ops (i + 1)), iN (cntS fT1 ops (i + 1)), i64 (nR ops), iN (cntS fW0 ops (i + 1)), iN (cntS fW1 ops (i + 1))] 57), (rC b1 #[i64 0, i64 0, i64 0, i64 0, i64 0, i64 0, i64 0, i64 0] 57)]) (by rw [cnt_succ ho hi.A, cnt_succ ho hi.B, cnt_succ ho hi.O, cnt_succ ho hi.T0, cnt_succ ho hi.T1, cnt_succ ho hi.W0, cnt_succ ho hi.W1] <;> rfl)
       exact ⟨i + 1, _, rfl, ⟨rfl, rfl, congrArg (fun q : Nat => i64 (q : Int)) (cnt_succ ho hi.G).symm, rfl, rfl, rfl, trivial⟩, ⟨om, Y0⟩, vd⟩
      ·refine go 2 ?_
       refine condProp ((o.kd : Int) = (19 : Int)) rfl (fun e0 => ?_) (fun e0 => ?_)
       ·refine go 7 ?_
        intro A2 B2 C2
        refine go 7 ?_
        intro D2 Z0 E2
        refine go 2 ?_
        have hi := incT (.inr e0)
        have c1 := ((Z0.dropk 0)).as (L' := [(rC b5 #[iN (cntS fA ops (i + 1)), iN (cntS fB ops (i + 1)), iN (cntS fO ops (i + 1)), iN (cntS fT0 ops (i + 1)), iN (cntS fT1 ops (i + 1)), i64 (nR ops), iN (cntS fW0 ops (i + 1)), iN (cntS fW1 ops (i + 1))] 57), (rC b1 #[i64 0, i64 0, i64 0, i64 0, i64 0, i64 0, i64 0, i64 0] 57)]) (by rw [cnt_succ ho hi.A, cnt_succ ho hi.B, cnt_succ ho hi.O, cnt_succ ho hi.T0, cnt_succ ho hi.T1, cnt_succ ho hi.W0, cnt_succ ho hi.W1] <;> rfl)
        exact ⟨i + 1, _, rfl, ⟨rfl, rfl, congrArg (fun q : Nat => i64 (q : Int)) (cnt_succ ho hi.G).symm, rfl, rfl, rfl, trivial⟩, ⟨om, c1⟩, vd⟩
       ·refine go 2 ?_
        refine condProp ((o.kd : Int) = (17 : Int)) rfl (fun d0 => ?_) (fun d0 => ?_)
        ·refine go 4 ?_
         refine cl (make_all o (garb_of d0 hgo.ok).1 I0) ?_
         rintro _ F2 ⟨f0, m0, d1, h0, rfl, G2, e1⟩
         have H2 := (a0.join e1).a5 rfl
         refine go 4 ?_
         intro g1 I2 J2 K2 L2
         refine go 1 ?_
         intro h1 i1 M2
         refine go 2 ?_
         refine cl (opnds_ok o h1) ?_
         rintro _ N2 ⟨rfl, j1⟩
         have O2 := i1.ext j1
         refine go 7 ?_
         refine sq ((r_mulI rfl rfl om).as (v' := iN (64 * opG o)) (by rfl)) (sq ((r_addI rfl rfl om).as (v' := iN (cntS fO ops i + 64 * opG o)) (by rfl)) ?_)
         refine go 2 ?_
         intro P2 Q2 R2
         refine go 5 ?_
         refine sq ((r_mulI rfl rfl om).as (v' := iN (256 * opG o)) (by exact congrArg i64 om)) ?_
         refine go 4 ?_
         intro S2 l1 T2
         refine go 0 ?_
         have m1 := (l1.pk 6 [4, 0, 1, 2, 3, 5])
         let b0 : List RW := [(rC g1 #[iN (128 * opG o), sO f0 ((makeG o).1.length) m0, .slice (some ⟨h0, 0, none⟩) 64 64] 104), (f0, sob EG 154 ((makeG o).1) d1), (rX h0 EI ((makeG o).2) 145), (rC H0 #[i64 (o.kd), i64 (o.a), i64 (o.b), i64 (o.k), u64 (o.c), i64 (o.pt)] 36), (rC b1 x1 57)]
         let n0 := ((rC b5 #[x2, x3, iN (cntS fO ops i + 64 * opG o), x5, iN (cntS fT1 ops i), i64 (nR ops), iN (cntS fW0 ops i), x4] 57) : RW)
         let n1 : Tab := [zt2 false false fun _ _ w' => Hp No w w' (n0 :: b0), zt2 true false fun v6 _ w' => v6 = iN (andG o) ∧ Hp No w w' (n0 :: b0), zt2 true true fun v6 _ w' => v6 = iN (andG o) ∧ Hp No w w' ((rC b5 #[x2, x3, iN (cntS fO ops i + 64 * opG o), x5, iN (cntS fT1 ops i), i64 (nR ops), i64 (((cntS fW0 ops i) : Nat) + ((2 * (192 * opG o + 2 * andG o)) : Nat)), x4] 57) :: b0)]
         refine drawH (m := 14) [0, 1, 3, 0, 8, 0, 32, 96, 248, 504, 1023, 0, 4095, 8191] [6, 13] b0 n1 mixed (fun _ e => m1.ext e) (A_ (fun _ _ h => h.drop1) (A_ (fun _ _ ⟨_, h⟩ => h.drop1) (A_ (fun _ _ ⟨_, h⟩ => h.drop1) trivial))) (fun o0 => ?_)
         refine gk 6 ?_
         refine WalkT.eff o0 0 ?_ ?_
         ·refine A_ (fun r w0 uw hF hE => ?_) trivial
          have o1 := hF.ext hE
          refine gW fun Q' hK => (cl (ands_okN ((128 * opG o) : Nat) (makeG o).1 (makeG o).2 (ownA f0) (some ⟨h0, 0, none⟩) m0 64 ((makeG o).1.length) 64 (by rfl) (by exact (makeG_outs _).symm) uw vRd (by have := makeG_len o; omega)) ?_)
          rintro _ U2 ⟨rfl, p1⟩
          have r1 := o1.ext p1
          exact hK _ _ (A_ rfl r1)
         refine WalkT.lookS (fun _ => i64 ((2 : Int) * (andG o : Nat))) (fun _ _ _ => rfl) ?_ ?_
         ·refine A_ (fun r w0 uw hF hE => ?_) trivial
          obtain ⟨e6, HH⟩ := hF
          replace HH := HH.ext hE
          dsimp only
          rw [e6]
          exact vGr
         refine gk 1 ?_
         refine lkH (iN (2 * (192 * opG o + 2 * andG o))) (fun _ uw hcx => (r_mulI rfl rfl om).as (v' := iN (2 * (192 * opG o + 2 * andG o))) (by rfl)) ?_
         refine gk 3 ?_
         refine WalkT.eff o0 1 ?_ ?_
         ·refine A_ (fun r w0 uw hF hE => ?_) trivial
          obtain ⟨e6, p0⟩ := hF
          replace p0 := p0.ext hE
          refine gW0 fun Q' hK => ?_
          refine go 1 ?_
          intro V2 s1 X2
          exact hK _ (fun _ => (A_ e6 s1))
         refine WalkT.nil fun r w0 Y2 hF hE => ?_
         obtain ⟨e6, i0⟩ := hF
         replace i0 := i0.ext hE
         dsimp only
         rw [e6]
         dsimp only [b0] at i0
         refine go 8 ?_
         intro Z2 t1 c3
         refine go 2 ?_
         have hi := inc17 d0
         have u1 := (((((t1.dropk 4).dropk 3).dropk 2).dropk 1)).as (L' := [(rC b5 #[iN (cntS fA ops (i + 1)), iN (cntS fB ops (i + 1)), iN (cntS fO ops (i + 1)), iN (cntS fT0 ops (i + 1)), iN (cntS fT1 ops (i + 1)), i64 (nR ops), iN (cntS fW0 ops (i + 1)), iN (cntS fW1 ops (i + 1))] 57), (rC b1 #[i64 0, i64 0, i64 0, i64 0, i64 0, i64 0, i64 0, i64 0] 57)]) (by rw [cnt_succ ho hi.A, cnt_succ ho hi.B, cnt_succ ho hi.O, cnt_succ ho hi.T0, cnt_succ ho hi.T1, cnt_succ ho hi.W0, cnt_succ ho hi.W1] <;> rfl)
         exact ⟨i + 1, _, rfl, ⟨rfl, rfl, congrArg (fun q : Nat => i64 (q : Int)) (cnt_succ ho hi.G).symm, rfl, rfl, rfl, trivial⟩, ⟨om, u1⟩, vd⟩
        ·refine go 2 ?_
         have hi := inc0 k1 k6 k9 c0 e0 d0
         have w1 := ((a0.dropk 0)).as (L' := [(rC b5 #[iN (cntS fA ops (i + 1)), iN (cntS fB ops (i + 1)), iN (cntS fO ops (i + 1)), iN (cntS fT0 ops (i + 1)), iN (cntS fT1 ops (i + 1)), i64 (nR ops), iN (cntS fW0 ops (i + 1)), iN (cntS fW1 ops (i + 1))] 57), (rC b1 #[i64 0, i64 0, i64 0, i64 0, i64 0, i64 0, i64 0, i64 0] 57)]) (by rw [cnt_succ ho hi.A, cnt_succ ho hi.B, cnt_succ ho hi.O, cnt_succ ho hi.T0, cnt_succ ho hi.T1, cnt_succ ho hi.W0, cnt_succ ho hi.W1] <;> rfl)
         exact ⟨i + 1, _, rfl, ⟨rfl, rfl, congrArg (fun q : Nat => i64 (q : Int)) (cnt_succ ho hi.G).symm, rfl, rfl, rfl, trivial⟩, ⟨om, w1⟩, vd⟩
  ·have hie : i = ops.length := by omega
   subst hie
   refine go 2 ?_
   refine condProp (((0 : Int) : Int) < ((cntS fG ops ops.length) : Nat)) rfl (fun y1 => ?_) (fun y1 => ?_)
   ·refine go 7 ?_
    intro d3 e3 f3
    refine go 2 ?_
    intro g3 z1 h3
    refine go 0 ?_
    have hd : nT0 ops = cntS fT0 ops ops.length + 2 := by unfold nT0 dlt; rw [if_pos om]
    exact ⟨_, rfl, by rw [hd] <;> rfl, z1.chg⟩
   ·refine go 2 ?_
    intro i3 A1 j3
    refine go 0 ?_
    have hd : nT0 ops = cntS fT0 ops ops.length + 0 := by unfold nT0 dlt; rw [if_neg om]
    exact ⟨_, rfl, by rw [hd] <;> rfl, A1.chg⟩
end Go.Proofs.YtohngnahcgbfmaaGreatDoor.Mi
namespace Go.Proofs.YtohngnahcgbfmaaGreatDoor.Mi
open Go Vc Er Ek Circ
theorem byt34 : byt Tryz.prog 34 = some 8 := by kernel_rfl
theorem fits34 : Fits Tryz.prog 34 E64 := fits64 (by kernel_rfl) (by kernel_rfl)
theorem siz34 : siz Tryz.prog 34 = some 1 := by kernel_rfl
theorem sli23 : sli Tryz.prog 23 = some (34, 1) := by kernel_rfl
theorem zer34 : zer Tryz.prog 34 = some (.int .u64 0) := by kernel_rfl
theorem outs_okH (ops : List Mo) (oa : Option Addr) (oc : Nat) (sh : List (BitVec 64)) (ha : Option Addr) (hc n0 n1 : Nat) (hn0 : n0 = ops.length) (hn1 : n1 = sh.length) (w : World) (hG : Gl w) (hO : Rd EMo w oa ops) (hol : ops.length ≤ 140737488355328) (hSh : Rd E64 w ha sh) (hsl : sh.length = ops.length) (hg : Good ops 65536 65536) : Calls Tryz.prog 13 [.slice oa n0 oc, .slice ha n1 hc].toArray w (Ret fun v w' => ∃ (key : Option Nat) (c : Nat) (sp : LV) (a : Option Addr), v = .slice a (outsS ops) (outsS ops) ∧ Sl E64 key (otS ops sh ops.length) c sp ∧ (∀ w2, Rd E64 w2 (ownA key) (otS ops sh ops.length) → Rd E64 w2 a (outsL ops sh)) ∧ Hp No w w' [(key, sob E64 34 (otS ops sh ops.length) sp)]) := by
 subst hn0 hn1
 have hlen := hg.len
 have H := Hp.start No w
 refine enter (n := 47) Tryz.func13 rfl rfl (bLe rfl) ?_
 refine go 2 ?_
 refine cl (all_ok w) ?_
 rintro _ w1 ⟨rfl, k0⟩
 have H3 := H.ext k0
 refine cl (mcheck_yes ops oa oc 65536 65536 ops.length (by rfl) w1 vGl vRd om hg) ?_
 rintro _ w4 ⟨rfl, l0⟩
 have H6 := H3.ext l0
 refine sq ((r_neqNN isI31 rfl rfl).as (v' := .bool false) (by rfl)) ?_
 refine go 5 ?_
 refine sqAny (v := .bool false) (w' := w4) (wantedSome (d' := 13) (b := false) rfl rfl rfl) ((r_neqI rfl rfl).as (v' := .bool false) (by exact congrArg Value.bool (decide_eq_false om))) ?_
 refine go 3 ?_
 refine q_makeSlice (E := E64) (m := ops.length) (c := ops.length) (z0 := 0#64) H6 sli23 zer34 rfl byt34 rfl rfl vo vo om om fun b7 w9 m0 o0 F0 => ?_
 refine go 5 ?_
 refine loopAny (σ := Nat) (fun i => [(0, .slice oa ops.length oc), (1, .slice ha sh.length hc), (5, sO (some b7) ops.length ops.length), (6, iN (cntS fTold ops i)), (23, .slice oa ops.length oc), (24, iN ops.length), (25, iN i)]) (fun i w' => (i ≤ ops.length ∧ Sl E64 (some b7) (otS ops sh i) ops.length (cel E64 (List.replicate (ops.length - ops.length) 0#64))) ∧ Hp No w w' [((some b7), sob E64 34 (otS ops sh i) (cel E64 (List.replicate (ops.length - ops.length) 0#64)))]) (fun i => ops.length - i) (0) ?_ ?_ ?_
 ·exact kp
 ·exact ⟨⟨Nat.zero_le _, m0⟩, o0⟩
 rintro i ρ G0 ⟨⟨hq, hSo⟩, HL⟩
 have hol2 := otS_len ops sh i
 have hct := cnt_bound fTold_le ops i
 refine go 1 ?_
 refine condProp (((i : Nat) : Int) < (ops.length : Nat)) rfl (fun p0 => ?_) (fun p0 => ?_)
 ·refine go 4 ?_
  intro q0 H0 I0 J0 K0
  refine go 2 ?_
  intro r0 d0 L0
  obtain ⟨o, ho⟩ : ∃ q1, q1 = ops.getD i mo0 := ⟨_, rfl⟩
  rw [← ho] at d0 ⊢
  refine go 1 ?_
  refine cl (told_ok o r0) ?_
  rintro _ M0 ⟨rfl, s0⟩
  have e0 := d0.ext s0
  refine go 0 ?_
  refine condProp (tld o) rfl (fun a0 => ?_) (fun a0 => ?_)
  ·have hgo := hg.at' i om
   rw [← ho] at hgo
   have hkt := hgo.told a0
   have hou := outs_le ops
   refine go 0 ?_
   have u0 := (e0.pk 2 [1, 0])
   let b0 : List RW := [(rC q0 #[i64 (o.kd), i64 (o.a), i64 (o.b), i64 (o.k), u64 (o.c), i64 (o.pt)] 36)]
   let x0 : Tab := [zt1 false fun _ w' => Hp No w w' (((some b7), sob E64 34 (otS ops sh i) (cel E64 (List.replicate (ops.length - ops.length) 0#64))) :: b0), zt1 true fun _ w' => Sl E64 (some b7) ((otS ops sh i).set o.k.toNat (sh.getD i 0#64)) ops.length (cel E64 (List.replicate (ops.length - ops.length) 0#64)) ∧ Hp No w w' (((some b7), sob E64 34 ((otS ops sh i).set o.k.toNat (sh.getD i 0#64)) (cel E64 (List.replicate (ops.length - ops.length) 0#64))) :: b0)]
   refine drawH (m := 9) [0, 0, 2, 0, 0, 24, 56, 127, 255] [8] b0 x0 mixed (fun _ e => u0.ext e) (A_ (fun _ _ h => h.drop1) (A_ (fun _ _ ⟨_, h⟩ => h.drop1) trivial)) (fun y0 => ?_)
   refine gk 8 ?_
   refine WalkT.eff y0 0 ?_ ?_
   ·refine A_ (fun r w0 uw hF hE => ?_) trivial
    have N0 := hF.ext hE
    refine gW0 fun Q' hK => ?_
    refine go 1 ?_
    intro O0 A0 B0
    exact hK _ (fun _ => (A_ A0 B0))
   refine WalkT.nil fun r w0 P0 hF hE => ?_
   obtain ⟨C0, c0⟩ := hF
   replace c0 := c0.ext hE
   dsimp only
   dsimp only [b0] at c0
   refine go 5 ?_
   have D0 : (otS ops sh i).set o.k.toNat (sh.getD i 0#64) = otS ops sh (i + 1) := by rw [otS, ← ho, if_pos a0]
   have f0 := C0
   have h0 := c0
   rw [D0] at f0 h0
   exact ⟨i + 1, _, rfl, ⟨rfl, rfl, rfl, congrArg i64 (by rw [cntS, ← ho, fTold, if_pos a0] <;> omega), rfl, rfl, rfl, trivial⟩, ⟨⟨om, f0⟩, (h0.dropk 1)⟩, vd⟩
  ·refine go 2 ?_
   have E0 : otS ops sh i = otS ops sh (i + 1) := by rw [otS, ← ho, if_neg a0]
   have i0 := hSo
   have j0 := e0
   rw [E0] at i0 j0
   exact ⟨i + 1, _, rfl, ⟨rfl, rfl, rfl, congrArg i64 (by rw [cntS, ← ho, fTold, if_neg a0] <;> omega), rfl, rfl, rfl, trivial⟩, ⟨⟨om, i0⟩, (j0.dropk 0)⟩, vd⟩
 ·have hie : i = ops.length := by omega
  subst hie
  have hou := outs_le ops
  rw [show cntS fTold ops ops.length = outsS ops from rfl]
  refine go 3 ?_
  refine sq (r_slice3n (h := (outsS ops)) (q := (outsS ops)) sli23 rfl rfl rfl vo vo om om) ?_
  refine go 1 ?_
  exact ⟨_, rfl, (some b7), ops.length, (cel E64 (List.replicate (ops.length - ops.length) 0#64)), _, rfl, hSo, fun w2 hr => Rd.sub hr 0 (outsS ops) (m := (outsS ops)) (fun e => by rw [e]; rfl), HL⟩
theorem outs_ok (ops : List Mo) (oa : Option Addr) (oc : Nat) (sh : List (BitVec 64)) (ha : Option Addr) (hc n0 n1 : Nat) (hn0 : n0 = ops.length) (hn1 : n1 = sh.length) (w : World) (hG : Gl w) (hO : Rd EMo w oa ops) (hol : ops.length ≤ 140737488355328) (hSh : Rd E64 w ha sh) (hsl : sh.length = ops.length) (hg : Good ops 65536 65536) : Calls Tryz.prog 13 [.slice oa n0 oc, .slice ha n1 hc].toArray w (Ret fun v w' => (∃ a, v = .slice a (outsS ops) (outsS ops) ∧ Rd E64 w' a (outsL ops sh)) ∧ Ext w w') :=
 (outs_okH ops oa oc sh ha hc n0 n1 hn0 hn1 w hG hO hol hSh hsl hg).mono fun e w' ⟨v, he, key, c, sp, a, hv, hS, hr, HN⟩ => ⟨v, he, ⟨a, hv, hr _ (HN.rd (k := 0) rfl hS)⟩, HN.chg⟩
end Go.Proofs.YtohngnahcgbfmaaGreatDoor.Mi
namespace Go.Proofs.YtohngnahcgbfmaaGreatDoor.Er
open Go Vc
theorem agg83 : isAgg' Tryz.prog 83 = true := by kernel_rfl
theorem arr83 : arr Tryz.prog 83 = some (2, 1) := by kernel_rfl
theorem byt34 : byt Tryz.prog 34 = some 8 := by kernel_rfl
theorem fits34 : Fits Tryz.prog 34 E64 := fits64 (by kernel_rfl) (by kernel_rfl)
theorem mixed : Tryz.prog.follows .mixedOrders = true := by kernel_rfl
theorem one23 : isOne Tryz.prog 23 = true := by kernel_rfl
theorem siz3 : siz Tryz.prog 3 = some 1 := by kernel_rfl
theorem siz83 : siz Tryz.prog 83 = some 2 := by kernel_rfl
theorem sli23 : sli Tryz.prog 23 = some (34, 1) := by kernel_rfl
theorem und23 : Tryz.prog.underlying 23 = some (.slice 34) := by kernel_rfl
theorem und94 : Tryz.prog.underlying 94 = some (.pointer 232) := by kernel_rfl
theorem zer34 : zer Tryz.prog 34 = some (.int .u64 0) := by kernel_rfl
theorem zer83 : zer Tryz.prog 83 = some (.agg (List.replicate 2 (.int .u64 0)).toArray) := by kernel_rfl
theorem clone64_ok (ws : List (BitVec 64)) (hroom : ws.length * 8 ≤ 140737488355328) (a0 : Option Addr) (n0 c0 : Nat) (hn0 : n0 = ws.length) (w : World) (hW : Rd E64 w a0 ws) : Calls Tryz.prog 30 [.slice a0 n0 c0].toArray w (Ret fun v w' => SlRes E64 34 ws w v w' ∧ Ext w w') := by
 subst hn0
 have H := Hp.start No w
 refine enter (n := 8) Tryz.func30 rfl rfl (bLe rfl) ?_
 refine go 2 ?_
 refine sq (r_eqlSN und23 rfl rfl) ?_
 refine go 0 ?_
 refine condBool (a0.isNone) rfl (fun c4 => ?_) (fun c4 => ?_)
 ·refine go 1 ?_
  obtain rfl := nilOfRd hW c4
  exact ⟨_, rfl, ⟨none, 0, [], rfl, Sl.none, fun _ h => by cases h⟩, H.chg⟩
 ·refine go 0 ?_
  refine bS (E := E64) (l := []) fun b1 w3 i0 H4 j0 => ?_
  refine go 2 ?_
  intro k0 c7 l0 m0 e0 o0 f0
  have h0 : ([]) ++ ws = ws := by rw [List.nil_append]
  have d0 := e0
  have b0 := f0
  rw [h0] at d0 b0
  refine go 1 ?_
  exact ⟨_, rfl, b0.resN (k := 0) rfl d0 (Nat.zero_add _), b0.chg⟩
theorem load_ok (ws : List (BitVec 64)) (hroom : ws.length * 8 ≤ 140737488355328) (a0 : Option Addr) (n0 c0 : Nat) (hn0 : n0 = ws.length) (w : World) (hW : Rd E64 w a0 ws) : Calls Tryz.prog 11 [.slice a0 n0 c0].toArray w (Ret fun v w' => (∃ b key c sp, v = pT b ∧ Sl E64 key ws c sp ∧ Hp No w w' [(rC b #[sO key ws.length c, .pointer none, iN ws.length, iN 0] 96), (key, sob E64 34 ws sp)]) ∧ Ext w w') := by
 subst hn0
 have H := Hp.start No w
 refine enter (n := 9) Tryz.func11 rfl rfl (bLe rfl) ?_
 refine go 2 ?_
 refine cl (clone64_ok ws om a0 ws.length c0 (by rfl) w vRd) ?_
 rintro _ w1 ⟨⟨d0, c4, e0, rfl, f0, h0⟩, i0⟩
 rw [show ws.length = ws.length from rfl]
 have H9 := H.add i0 h0
 refine go 4 ?_
 intro j0 k0 l0 b0 m0
 refine go 1 ?_
 exact ⟨_, rfl, ⟨j0, d0, c4, e0, rfl, f0, b0⟩, b0.chg⟩
theorem left_ok (b n u : Nat) (x0 x1 : Value) (w : World) (hb : w.heap[b]? = some (.cells #[x0, x1, iN n, iN u] 96 (0, 0))) (hu : u ≤ n) (hn : n ≤ 140737488355328) : Calls Tryz.prog 17 [pT b].toArray w (Ret fun v w' => v = i64 ((n : Nat) - (u : Nat)) ∧ Ext w w') := by
 have H := Hp.start No w
 refine enter (n := 12) Tryz.func17 rfl rfl (bLe rfl) ?_
 refine go 1 ?_
 refine drawAny (K := [none, none, none, none, none, none, none, none, none, none]) [0, 1, 3, 7, 0, 16, 48, 112, 255, 511] (fun w' => Ext w w') (fun w' w'' => Ext w' w'') mixed (by kernel_rfl) (Ext.drew _) (fun _ _ h h' => h.trans h') ?_ ?_
 ·exact relNone (by decide)
 refine gk 10 ?_
 intro r24 c0 a0 hF
 have b0 := H.ext a0
 refine go 0 ?_
 exact ⟨_, rfl, rfl, b0.chg⟩
theorem next_hit (b c u : Nat) (a : Option Addr) (ws : List (BitVec 64)) (w : World) (hb : w.heap[b]? = some (.cells #[.slice a ws.length c, .pointer none, iN ws.length, iN u] 96 (0, 0))) (hR : ∀ w', Chg (· = b) w w' → Rd E64 w' a ws) (hlen : ws.length ≤ 140737488355328) (hu : u < ws.length) : Calls Tryz.prog 47 [pT b].toArray w (Ret fun v w' => v = .tuple #[u64 (ws.getD u 0#64), .nilIface] ∧ Chg (· = b) w w' ∧ w'.heap[b]? = some (.cells #[.slice a ws.length c, .pointer none, iN ws.length, iN (u + 1)] 96 (0, 0))) := by
 have H := Hp.start1 (M := (· = b)) rfl hb
 refine enter (n := 50) Tryz.func47 rfl rfl (bLe rfl) ?_
 refine go 2 ?_
 refine drawAny (K := [none, none, none, none, none, none, none, none, none]) [0, 1, 3, 7, 0, 16, 48, 112, 255] (fun w' => Ext w w') (fun w' w'' => Ext w' w'') mixed (by kernel_rfl) (Ext.drew _) (fun _ _ h h' => h.trans h') ?_ ?_
 ·exact relNone (by decide)
 refine gk 9 ?_
 intro r22 d0 b0 hF
 have e0 := H.ext b0
 refine go 0 ?_
 refine condProp (((ws.length : Nat) : Int) ≤ (u : Nat)) rfl (fun c0 => ?_) (fun c0 => ?_)
 ·exfalso
  omega
 ·refine go 13 ?_
  intro f0 a0 h0
  refine go 4 ?_
  refine sq (r_neqPO und94 rfl rfl) ?_
  refine go 5 ?_
  refine sq (r_idxS (E := E64) (l := ws) (j := u) sli23 (hR _ a0.chg) rfl rfl vo (by rfl) om) (sq (r_ldS (E := E64) (l := ws) (j := u) (v := ws.getD u 0#64) fits34 (hR _ a0.chg) rfl rfl (at_getD om)) ?_)
  refine go 2 ?_
  exact ⟨_, rfl, rfl, a0.chg, a0.get (k := 0) rfl⟩
theorem label_hit (b c u : Nat) (a : Option Addr) (ws : List (BitVec 64)) (w : World) (hb : w.heap[b]? = some (.cells #[.slice a ws.length c, .pointer none, iN ws.length, iN u] 96 (0, 0))) (hR : ∀ w', Chg (· = b) w w' → Rd E64 w' a ws) (hlen : ws.length ≤ 140737488355328) (hu : u + 2 ≤ ws.length) : Calls Tryz.prog 46 [pT b].toArray w (Ret fun v w' => v = .tuple #[.agg (cel E64 [ws.getD u 0#64, ws.getD (u + 1) 0#64]).toArray, .nilIface] ∧ Chg (· = b) w w' ∧ w'.heap[b]? = some (.cells #[.slice a ws.length c, .pointer none, iN ws.length, iN (u + 2)] 96 (0, 0))) := by
 have H := Hp.start1 (M := (· = b)) rfl hb
 refine enter (n := 31) Tryz.func46 rfl rfl (bLe rfl) ?_
 refine go 1 ?_
 intro b1 w2 j0 H3 k0
 refine go 2 ?_
 refine cl (left_ok b ws.length u (.slice a ws.length c) (.pointer none) w2 vGa om om) ?_
 rintro _ w5 ⟨rfl, c0⟩
 have H7 := H3.ext c0
 refine go 1 ?_
 refine condProp (((ws.length : Nat) - (u : Nat) : Int) < (2 : Int)) rfl (fun d0 => ?_) (fun d0 => ?_)
 ·exfalso
  omega
 ·refine go 1 ?_
  refine cl (next_hit b c u a ws w5 vGa (fun w' h => hR w' (H7.chg.trans h)) om om) ?_
  rintro _ w8 ⟨rfl, e0, f0⟩
  have a0 := (H7.set (k := 1) rfl e0 f0).a2 rfl
  refine go 6 ?_
  refine cl (next_hit b c (u + 1) a ws w8 vGa (fun w' h => hR w' (a0.chg.trans h)) om om) ?_
  rintro _ l0 ⟨rfl, h0, i0⟩
  have m0 := (a0.set (k := 1) rfl h0 i0).a2 rfl
  refine go 9 ?_
  intro n0 b0 o0
  refine go 1 ?_
  exact ⟨_, rfl, rfl, b0.chg, b0.get (k := 1) rfl⟩
end Go.Proofs.YtohngnahcgbfmaaGreatDoor.Er
namespace Go.Proofs.YtohngnahcgbfmaaGreatDoor.Co
open Go Vc Er
theorem agg117 : isAgg' Tryz.prog 117 = true := by kernel_rfl
theorem fits121 : Fits Tryz.prog 121 EOt := fitsOt (by kernel_rfl) (by kernel_rfl)
theorem fits66 : Fits Tryz.prog 66 ETr := fitsTr (by kernel_rfl) (by kernel_rfl)
theorem mixed : Tryz.prog.follows .mixedOrders = true := by kernel_rfl
theorem one40 : isOne Tryz.prog 40 = true := by kernel_rfl
theorem siz117 : siz Tryz.prog 117 = some 5 := by kernel_rfl
theorem siz34 : siz Tryz.prog 34 = some 1 := by kernel_rfl
theorem siz40 : siz Tryz.prog 40 = some 1 := by kernel_rfl
theorem siz66 : siz Tryz.prog 66 = some 3 := by kernel_rfl
theorem sli39 : sli Tryz.prog 39 = some (66, 3) := by kernel_rfl
theorem sli40 : sli Tryz.prog 40 = some (121, 5) := by kernel_rfl
theorem five_ok (b : Nat) (key : Option Nat) (c : Nat) (sp : LV) (ws : List (BitVec 64)) (hSw : Sl E64 key ws c sp) (hlen : ws.length ≤ 140737488355328) (u : Nat) (hu : u + 5 ≤ ws.length) (R : List RW) (w₀ w : World) (H : Hp No w₀ w ((rC b #[sO key ws.length c, .pointer none, iN ws.length, iN u] 96) :: (key, sob E64 34 ws sp) :: R)) : Calls Tryz.prog 40 [pT b].toArray w (Ret fun v w' => v = .agg (cel E64 [ws.getD u 0#64, ws.getD (u + 1) 0#64, ws.getD (u + 2) 0#64, ws.getD (u + 3) 0#64, ws.getD (u + 4) 0#64]).toArray ∧ Hp No w₀ w' ((rC b #[sO key ws.length c, .pointer none, iN ws.length, iN (u + 5)] 96) :: (key, sob E64 34 ws sp) :: R)) := by
 skip
 refine enter (n := 17) Tryz.func40 rfl rfl (bLe rfl) ?_
 refine go 1 ?_
 intro b1 w2 h0 H3 i0
 refine go 1 ?_
 intro b5 w6 j0 H7 k0
 refine go 1 ?_
 refine loopAny (σ := Nat) (fun q => [(0, pT b), (2, pT b1), (3, pT b5), (5, iN q)]) (fun q w' => q ≤ 5 ∧ Hp No w₀ w' ((rX b5 E64 (fiveL ws u q) 117) :: (rX b1 E64 (List.replicate 5 0#64) 117) :: (rC b #[sO key ws.length c, .pointer none, iN ws.length, iN (u + q)] 96) :: (key, sob E64 34 ws sp) :: R)) (fun q => 5 - q) (0) ?_ ?_ ?_
 ·exact kp
 ·exact ⟨om, H7⟩
 rintro q ρ w9 ⟨hq, HL⟩
 refine go 1 ?_
 refine condProp (((q : Nat) : Int) < (5 : Int)) rfl (fun c6 => ?_) (fun c6 => ?_)
 ·have c6 : q < 5 := by omega
  refine go 4 ?_
  refine cl (next_hit b c (u + q) (ownA key) ws w9 vGa (hpRdSt HL (i := 2) (j := 3) rfl rfl rfl hSw) om om) ?_
  rintro _ l0 ⟨rfl, b0, c0⟩
  have d0 := (HL.set (k := 2) rfl b0 c0).b4 rfl
  refine go 4 ?_
  refine d_store (k := 0) (v := u64 (ws.getD (u + q) 0#64)) (cs' := (cel E64 ((fiveL ws u q).set q (ws.getD (u + q) 0#64))).toArray) d0 rfl rfl rfl siz34 (by rfl) (by exact E64.one _) (by rw [List.size_toArray, cel_length]; show _ ≤ _ * 1; rw [fiveL_len]; omega) (by exact put1 (E := E64) rfl _ _ _) fun m0 e0 n0 => ?_
  have a0 := e0.b4 rfl
  refine go 2 ?_
  rw [five_set (ws := ws) (u := u) c6] at a0
  exact ⟨q + 1, _, rfl, kp, ⟨om, a0⟩, vd⟩
 ·obtain rfl : q = 5 := by omega
  refine go 0 ?_
  refine sq ((r_loadA (cs' := (cel E64 (fiveL ws u 5)).toArray) agg117 siz117 (HL.get (k := 0) rfl) (off := 0) rfl (by rw [List.size_toArray, cel_length, fiveL_len]; exact Nat.le_refl _) (by exact ext_all (by rw [cel_length, fiveL_len]; rfl))).as (v' := .agg (cel E64 [ws.getD u 0#64, ws.getD (u + 1) 0#64, ws.getD (u + 2) 0#64, ws.getD (u + 3) 0#64, ws.getD (u + 4) 0#64]).toArray) (by rfl)) ?_
  refine go 1 ?_
  intro o0 f0 p0
  refine go 0 ?_
  exact ⟨_, rfl, rfl, ((f0.dropk 1).dropk 0)⟩
theorem next0_hit (b : Nat) (s : Sk) (hs : s.ok) (R : List RW) (w₀ w : World) (H : Hp No w₀ w (skR 66 121 114 b s ++ R)) (kd : Int) (hl : 0 < s.t.l.length) : Calls Tryz.prog 38 [pT b, i64 kd].toArray w (Ret fun v w' => v = .tuple #[.agg #[u64 ((s.t.l).getD 0 tr0).a, u64 ((s.t.l).getD 0 tr0).b, u64 ((s.t.l).getD 0 tr0).c], .nilIface] ∧ ∃ s' : Sk, Hp No w₀ w' (skR 66 121 114 b s' ++ R) ∧ s'.ok ∧ s'.t.l = s.t.l.drop 1 ∧ s'.b = s.b ∧ s'.o = s.o) := by
 have hct := hs.t.cap
 have hcb := hs.b.cap
 have hco := hs.o.cap
 have H := H.b4 rfl
 refine enter (n := 33) Tryz.func38 rfl rfl (bLe rfl) ?_
 refine go 1 ?_
 intro b1 w2 b0 H3 c0
 refine go 2 ?_
 intro b5 w6 d0 H7 e0
 refine go 5 ?_
 refine sq ((r_eqlI rfl rfl).as (v' := .bool false) (by exact congrArg Value.bool (decide_eq_false om))) ?_
 refine go 5 ?_
 refine sq (((r_ldS (E := ETr) (l := s.t.l) (j := 0) (v := (s.t.l).getD 0 tr0) fits66 (H7.rdP (k := 3) rfl hs.t) rfl rfl (at_getD om)).as (v' := .agg #[u64 (((s.t.l).getD 0 tr0).a), u64 (((s.t.l).getD 0 tr0).b), u64 (((s.t.l).getD 0 tr0).c)]) rfl).as (v' := .agg #[u64 ((s.t.l).getD 0 tr0).a, u64 ((s.t.l).getD 0 tr0).b, u64 ((s.t.l).getD 0 tr0).c]) (by rfl)) ?_
 refine go 1 ?_
 intro b9 f0 h0 i0 j0
 refine go 1 ?_
 intro k0 l0 m0
 refine go 5 ?_
 refine sq ((r_sliceS (l := 1) (h := s.t.l.length) sli39 rfl (.inl ⟨_, _, _, rfl, rfl, by first | rfl | omega | (simp; omega)⟩) (.inr ⟨rfl, rfl⟩) om om).as (v' := .slice (if s.t.c = 1 then s.t.a else adr s.t.a (1 * 3)) (s.t.l.length - 1) (s.t.c - 1)) (by first | rfl | (congr 1; omega) | (simp; omega) | simp)) ?_
 refine go 3 ?_
 intro n0 o0 p0
 refine go 2 ?_
 intro q0 a0 r0
 refine go 1 ?_
 refine ⟨_, rfl, rfl, { s with t := s.t.cut ETr }, ?_, ⟨Cp.cut_ok hs.t om, hs.b, hs.o⟩, rfl, rfl, rfl⟩
 unfold skR Sk.ob
 dsimp only
 rw [Cp.cut_row (E := ETr) om]
 unfold Cp.cut
 dsimp only
 rw [List.length_drop]
 exact (((a0.dropk 2).dropk 1).dropk 0)
theorem take0_hit (b : Nat) (s : Sk) (hs : s.ok) (R : List RW) (w₀ w : World) (H : Hp No w₀ w (skR 66 121 114 b s ++ R)) (hl : 0 < s.t.l.length) : Calls Tryz.prog 18 [pT b].toArray w (Ret fun v w' => v = .tuple #[.agg #[u64 ((s.t.l).getD 0 tr0).a, u64 ((s.t.l).getD 0 tr0).b, u64 ((s.t.l).getD 0 tr0).c], .nilIface] ∧ ∃ s' : Sk, Hp No w₀ w' (skR 66 121 114 b s' ++ R) ∧ s'.ok ∧ s'.t.l = s.t.l.drop 1 ∧ s'.b = s.b ∧ s'.o = s.o) := by
 have hct := hs.t.cap
 have hcb := hs.b.cap
 have hco := hs.o.cap
 have H := H.b4 rfl
 refine enter (n := 10) Tryz.func18 rfl rfl (bLe rfl) ?_
 refine go 1 ?_
 intro b1 w2 h0 H3 i0
 refine go 4 ?_
 have H5 := (Hp.midQ (X := [(rC b1 #[u64 0#64, u64 0#64, u64 0#64] 66)]) (A := skR 66 121 114 b s) (Y := R) H3).as (L' := skR 66 121 114 b s ++ ([(rC b1 #[u64 0#64, u64 0#64, u64 0#64] 66)] ++ R)) rfl
 refine cl (next0_hit b s hs ([(rC b1 #[u64 0#64, u64 0#64, u64 0#64] 66)] ++ R) w₀ w2 H5 (0 : Int) hl) ?_
 rintro _ w6 ⟨rfl, s8, a0, b0, c0, d0, e0⟩
 have j0 := (Hp.midQ (X := skR 66 121 114 b s8) (A := [(rC b1 #[u64 0#64, u64 0#64, u64 0#64] 66)]) (Y := R) a0).as (L' := (_ :: (skR 66 121 114 b s8 ++ R))) rfl
 refine go 3 ?_
 intro k0 f0 l0
 refine go 1 ?_
 exact ⟨_, rfl, rfl, s8, (f0.dropk 0), b0, c0, d0, e0⟩
theorem next1_hit (b : Nat) (s : Sk) (hs : s.ok) (R : List RW) (w₀ w : World) (H : Hp No w₀ w (skR 66 121 114 b s ++ R)) (kd : Int) (hl : 0 < s.b.l.length) : Calls Tryz.prog 38 [.pointer (some ⟨b, 1, none⟩), i64 kd].toArray w (Ret fun v w' => v = .tuple #[.agg #[u64 ((s.b.l).getD 0 tr0).a, u64 ((s.b.l).getD 0 tr0).b, u64 ((s.b.l).getD 0 tr0).c], .nilIface] ∧ ∃ s' : Sk, Hp No w₀ w' (skR 66 121 114 b s' ++ R) ∧ s'.ok ∧ s'.b.l = s.b.l.drop 1 ∧ s'.t = s.t ∧ s'.o = s.o) := by
 have hct := hs.t.cap
 have hcb := hs.b.cap
 have hco := hs.o.cap
 have H := H.b4 rfl
 refine enter (n := 33) Tryz.func38 rfl rfl (bLe rfl) ?_
 refine go 1 ?_
 intro b1 w2 b0 H3 c0
 refine go 2 ?_
 intro b5 w6 d0 H7 e0
 refine go 5 ?_
 refine sq ((r_eqlI rfl rfl).as (v' := .bool false) (by exact congrArg Value.bool (decide_eq_false om))) ?_
 refine go 5 ?_
 refine sq (((r_ldS (E := ETr) (l := s.b.l) (j := 0) (v := (s.b.l).getD 0 tr0) fits66 (H7.rdP (k := 4) rfl hs.b) rfl rfl (at_getD om)).as (v' := .agg #[u64 (((s.b.l).getD 0 tr0).a), u64 (((s.b.l).getD 0 tr0).b), u64 (((s.b.l).getD 0 tr0).c)]) rfl).as (v' := .agg #[u64 ((s.b.l).getD 0 tr0).a, u64 ((s.b.l).getD 0 tr0).b, u64 ((s.b.l).getD 0 tr0).c]) (by rfl)) ?_
 refine go 1 ?_
 intro b9 f0 h0 i0 j0
 refine go 1 ?_
 intro k0 l0 m0
 refine go 5 ?_
 refine sq ((r_sliceS (l := 1) (h := s.b.l.length) sli39 rfl (.inl ⟨_, _, _, rfl, rfl, by first | rfl | omega | (simp; omega)⟩) (.inr ⟨rfl, rfl⟩) om om).as (v' := .slice (if s.b.c = 1 then s.b.a else adr s.b.a (1 * 3)) (s.b.l.length - 1) (s.b.c - 1)) (by first | rfl | (congr 1; omega) | (simp; omega) | simp)) ?_
 refine go 3 ?_
 intro n0 o0 p0
 refine go 2 ?_
 intro q0 a0 r0
 refine go 1 ?_
 refine ⟨_, rfl, rfl, { s with b := s.b.cut ETr }, ?_, ⟨hs.t, Cp.cut_ok hs.b om, hs.o⟩, rfl, rfl, rfl⟩
 unfold skR Sk.ob
 dsimp only
 rw [Cp.cut_row (E := ETr) om]
 unfold Cp.cut
 dsimp only
 rw [List.length_drop]
 exact (((a0.dropk 2).dropk 1).dropk 0)
theorem take1_hit (b : Nat) (s : Sk) (hs : s.ok) (R : List RW) (w₀ w : World) (H : Hp No w₀ w (skR 66 121 114 b s ++ R)) (hl : 0 < s.b.l.length) : Calls Tryz.prog 19 [pT b].toArray w (Ret fun v w' => v = .tuple #[.agg #[u64 ((s.b.l).getD 0 tr0).a, u64 ((s.b.l).getD 0 tr0).b, u64 ((s.b.l).getD 0 tr0).c], .nilIface] ∧ ∃ s' : Sk, Hp No w₀ w' (skR 66 121 114 b s' ++ R) ∧ s'.ok ∧ s'.b.l = s.b.l.drop 1 ∧ s'.t = s.t ∧ s'.o = s.o) := by
 have hct := hs.t.cap
 have hcb := hs.b.cap
 have hco := hs.o.cap
 have H := H.b4 rfl
 refine enter (n := 10) Tryz.func19 rfl rfl (bLe rfl) ?_
 refine go 1 ?_
 intro b1 w2 h0 H3 i0
 refine go 4 ?_
 have H5 := (Hp.midQ (X := [(rC b1 #[u64 0#64, u64 0#64, u64 0#64] 66)]) (A := skR 66 121 114 b s) (Y := R) H3).as (L' := skR 66 121 114 b s ++ ([(rC b1 #[u64 0#64, u64 0#64, u64 0#64] 66)] ++ R)) rfl
 refine cl (next1_hit b s hs ([(rC b1 #[u64 0#64, u64 0#64, u64 0#64] 66)] ++ R) w₀ w2 H5 (1 : Int) hl) ?_
 rintro _ w6 ⟨rfl, s8, a0, b0, c0, d0, e0⟩
 have j0 := (Hp.midQ (X := skR 66 121 114 b s8) (A := [(rC b1 #[u64 0#64, u64 0#64, u64 0#64] 66)]) (Y := R) a0).as (L' := (_ :: (skR 66 121 114 b s8 ++ R))) rfl
 refine go 3 ?_
 intro k0 f0 l0
 refine go 1 ?_
 exact ⟨_, rfl, rfl, s8, (f0.dropk 0), b0, c0, d0, e0⟩
theorem next2_hit (b : Nat) (s : Sk) (hs : s.ok) (R : List RW) (w₀ w : World) (H : Hp No w₀ w (skR 66 121 114 b s ++ R)) (kd : Int) (hl : 0 < s.o.l.length) : Calls Tryz.prog 88 [.pointer (some ⟨b, 2, none⟩), i64 kd].toArray w (Ret fun v w' => v = .tuple #[.agg #[u64 (((s.o.l).getD 0 ot0).p), u64 (((s.o.l).getD 0 ot0).q), u64 (((s.o.l).getD 0 ot0).r), u64 (((s.o.l).getD 0 ot0).s), .bool (((s.o.l).getD 0 ot0).ch)], .nilIface] ∧ ∃ s' : Sk, Hp No w₀ w' (skR 66 121 114 b s' ++ R) ∧ s'.ok ∧ s'.o.l = s.o.l.drop 1 ∧ s'.t = s.t ∧ s'.b = s.b) := by
 have hct := hs.t.cap
 have hcb := hs.b.cap
 have hco := hs.o.cap
 have H := H.b4 rfl
 refine enter (n := 33) Tryz.func88 rfl rfl (bLe rfl) ?_
 refine go 1 ?_
 intro b1 w2 b0 H3 c0
 refine go 2 ?_
 intro b5 w6 d0 H7 e0
 refine go 5 ?_
 refine sq ((r_eqlI rfl rfl).as (v' := .bool false) (by exact congrArg Value.bool (decide_eq_false om))) ?_
 refine go 5 ?_
 refine sq (((r_ldS (E := EOt) (l := s.o.l) (j := 0) (v := (s.o.l).getD 0 ot0) fits121 (H7.rdP (k := 5) rfl hs.o) rfl rfl (at_getD om)).as (v' := .agg #[u64 (((s.o.l).getD 0 ot0).p), u64 (((s.o.l).getD 0 ot0).q), u64 (((s.o.l).getD 0 ot0).r), u64 (((s.o.l).getD 0 ot0).s), .bool (((s.o.l).getD 0 ot0).ch)]) rfl).as (v' := .agg #[u64 (((s.o.l).getD 0 ot0).p), u64 (((s.o.l).getD 0 ot0).q), u64 (((s.o.l).getD 0 ot0).r), u64 (((s.o.l).getD 0 ot0).s), .bool (((s.o.l).getD 0 ot0).ch)]) (by rfl)) ?_
 refine go 1 ?_
 intro b9 f0 h0 i0 j0
 refine go 1 ?_
 intro k0 l0 m0
 refine go 5 ?_
 refine sq ((r_sliceS (l := 1) (h := s.o.l.length) sli40 rfl (.inl ⟨_, _, _, rfl, rfl, by first | rfl | omega | (simp; omega)⟩) (.inr ⟨rfl, rfl⟩) om om).as (v' := .slice (if s.o.c = 1 then s.o.a else adr s.o.a (1 * 5)) (s.o.l.length - 1) (s.o.c - 1)) (by first | rfl | (congr 1; omega) | (simp; omega) | simp)) ?_
 refine go 3 ?_
 intro n0 o0 p0
 refine go 2 ?_
 intro q0 a0 r0
 refine go 1 ?_
 refine ⟨_, rfl, rfl, { s with o := s.o.cut EOt }, ?_, ⟨hs.t, hs.b, Cp.cut_ok hs.o om⟩, rfl, rfl, rfl⟩
 unfold skR Sk.ob
 dsimp only
 rw [Cp.cut_row (E := EOt) om]
 unfold Cp.cut
 dsimp only
 rw [List.length_drop]
 exact (((a0.dropk 2).dropk 1).dropk 0)
theorem take2_hit (b : Nat) (s : Sk) (hs : s.ok) (R : List RW) (w₀ w : World) (H : Hp No w₀ w (skR 66 121 114 b s ++ R)) (hl : 0 < s.o.l.length) : Calls Tryz.prog 68 [pT b].toArray w (Ret fun v w' => v = .tuple #[.agg #[u64 (((s.o.l).getD 0 ot0).p), u64 (((s.o.l).getD 0 ot0).q), u64 (((s.o.l).getD 0 ot0).r), u64 (((s.o.l).getD 0 ot0).s), .bool (((s.o.l).getD 0 ot0).ch)], .nilIface] ∧ ∃ s' : Sk, Hp No w₀ w' (skR 66 121 114 b s' ++ R) ∧ s'.ok ∧ s'.o.l = s.o.l.drop 1 ∧ s'.t = s.t ∧ s'.b = s.b) := by
 have hct := hs.t.cap
 have hcb := hs.b.cap
 have hco := hs.o.cap
 have H := H.b4 rfl
 refine enter (n := 10) Tryz.func68 rfl rfl (bLe rfl) ?_
 refine go 1 ?_
 intro b1 w2 h0 H3 i0
 refine go 4 ?_
 have H5 := (Hp.midQ (X := [(rC b1 #[u64 0#64, u64 0#64, u64 0#64, u64 0#64, .bool false] 121)]) (A := skR 66 121 114 b s) (Y := R) H3).as (L' := skR 66 121 114 b s ++ ([(rC b1 #[u64 0#64, u64 0#64, u64 0#64, u64 0#64, .bool false] 121)] ++ R)) rfl
 refine cl (next2_hit b s hs ([(rC b1 #[u64 0#64, u64 0#64, u64 0#64, u64 0#64, .bool false] 121)] ++ R) w₀ w2 H5 (2 : Int) hl) ?_
 rintro _ w6 ⟨rfl, s8, a0, b0, c0, d0, e0⟩
 have j0 := (Hp.midQ (X := skR 66 121 114 b s8) (A := [(rC b1 #[u64 0#64, u64 0#64, u64 0#64, u64 0#64, .bool false] 121)]) (Y := R) a0).as (L' := (_ :: (skR 66 121 114 b s8 ++ R))) rfl
 refine go 3 ?_
 intro k0 f0 l0
 refine go 1 ?_
 exact ⟨_, rfl, rfl, s8, (f0.dropk 0), b0, c0, d0, e0⟩
end Go.Proofs.YtohngnahcgbfmaaGreatDoor.Co
namespace Go.Proofs.YtohngnahcgbfmaaGreatDoor.Co
open Go Vc Er
theorem agg38 : isAgg' Tryz.prog 38 = true := by kernel_rfl
theorem agg83 : isAgg' Tryz.prog 83 = true := by kernel_rfl
theorem arr83 : arr Tryz.prog 83 = some (2, 1) := by kernel_rfl
theorem fits3 : Fits Tryz.prog 3 EI := fitsI (by kernel_rfl) (by kernel_rfl)
theorem fits34 : Fits Tryz.prog 34 E64 := fits64 (by kernel_rfl) (by kernel_rfl)
theorem siz38 : siz Tryz.prog 38 = some 2 := by kernel_rfl
theorem siz83 : siz Tryz.prog 83 = some 2 := by kernel_rfl
theorem sli100 : sli Tryz.prog 100 = some (3, 1) := by kernel_rfl
theorem zer3 : zer Tryz.prog 3 = some (.int .i64 0) := by kernel_rfl
theorem zer83 : zer Tryz.prog 83 = some (.agg (List.replicate 2 (.int .u64 0)).toArray) := by kernel_rfl
theorem deal_ok (b : Nat) (key : Option Nat) (c : Nat) (sp : LV) (ws : List (BitVec 64)) (hSw : Sl E64 key ws c sp) (hlen : ws.length ≤ 140737488355328) (n1 n2 n3 : Nat) (hn1 : n1 ≤ 65536) (hn2 : n2 ≤ 65536) (hn3 : n3 ≤ 65536) (hfit : 5 * (n1 + n2 + n3) ≤ ws.length) (R : List RW) (w₀ w : World) (H : Hp No w₀ w ((rC b #[sO key ws.length c, .pointer none, iN ws.length, iN 0] 96) :: (key, sob E64 34 ws sp) :: R)) : Calls Tryz.prog 21 [pT b, iN n1, iN n2, iN n3].toArray w (Ret fun v w' => ∃ (b1 b2 : Nat) (s1 s2 : Sk), v = .tuple #[.agg #[pT b1, pT b2], .nilIface] ∧ s1.ok ∧ s2.ok ∧ Dealt ws n1 n2 n3 s1 s2 ∧ Hp No w₀ w' (skR 66 121 114 b1 s1 ++ (skR 66 121 114 b2 s2 ++ ((rC b #[sO key ws.length c, .pointer none, iN ws.length, iN (5 * (n1 + n2) + 5 * n3)] 96) :: (key, sob E64 34 ws sp) :: R)))) := by
 let u0 : RW := (key, sob E64 34 ws sp)
 let x2 : Array Value := #[.pointer none, .pointer none]
 have hin : ∀ q, q < 3 → 0 ≤ ([((n1 : Nat) : Int), ((n2 : Nat) : Int), ((n3 : Nat) : Int)] : List Int).getD q 0 ∧ ([((n1 : Nat) : Int), ((n2 : Nat) : Int), ((n3 : Nat) : Int)] : List Int).getD q 0 ≤ 65536 := by
  intro q hq
  rcases (show q = 0 ∨ q = 1 ∨ q = 2 by omega) with rfl | rfl | rfl <;> exact ⟨by simp, by simp; omega⟩
 refine enter (n := 230) Tryz.func21 rfl rfl (bLe rfl) ?_
 refine go 1 ?_
 intro b1 w2 c6 H3 d6
 refine go 4 ?_
 refine bS (E := EI) (l := ([(n1 : Nat), (n2 : Nat), (n3 : Nat)] : List Int)) fun b5 w7 G3 H8 e6 => ?_
 refine go 2 ?_
 refine loopAny (σ := Nat) (fun q => [(0, pT b), (1, iN n1), (2, iN n2), (3, iN n3), (8, pT b1), (9, .nilIface), (21, sO (some b5) 3 3), (22, iN 3), (23, iN q)]) (fun q w' => q ≤ 3 ∧ Hp No w₀ w' (((some b5), sob EI 3 ([(n1 : Nat), (n2 : Nat), (n3 : Nat)] : List Int) ([])) :: (rC b1 x2 38) :: (rC b #[sO key ws.length c, .pointer none, iN ws.length, iN 0] 96) :: u0 :: R)) (fun q => 3 - q) (0) ?_ ?_ ?_
 ·exact kp
 ·exact ⟨Nat.zero_le _, H8⟩
 rintro q ρ G2 ⟨hq, HQ⟩
 refine go 1 ?_
 refine condProp (((q : Nat) : Int) < (3 : Nat)) rfl (fun I3 => ?_) (fun I3 => ?_)
 ·refine go 1 ?_
  refine sq (r_ldS (E := EI) (l := ([(n1 : Nat), (n2 : Nat), (n3 : Nat)] : List Int)) (j := q) (v := (([(n1 : Nat), (n2 : Nat), (n3 : Nat)] : List Int)).getD q 0) fits3 (HQ.rd (k := 0) rfl G3) rfl rfl (at_getD (l := ([((n1 : Nat) : Int), ((n2 : Nat) : Int), ((n3 : Nat) : Int)] : List Int)) (j := q) (by show q < 3; omega))) ?_
  refine go 2 ?_
  refine sq ((r_lssI rfl rfl).as (v' := .bool false) (by exact congrArg Value.bool (decide_eq_false (by have := hin q om; omega)))) ?_
  refine go 2 ?_
  refine sqAny (v := .bool false) (w' := G2) (wantedSome (d' := 29) (b := false) rfl rfl rfl) ((r_gtrI rfl rfl).as (v' := .bool false) (by exact congrArg Value.bool (decide_eq_false (by have := hin q om; omega)))) ?_
  refine go 3 ?_
  exact ⟨q + 1, _, rfl, kp, ⟨om, HQ⟩, vd⟩
 ·obtain rfl : q = 3 := by omega
  refine go 1 ?_
  refine cl (left_ok b ws.length 0 (sO key ws.length c) (.pointer none) G2 vGa om om) ?_
  rintro _ f6 ⟨rfl, J3⟩
  have g6 := HQ.ext J3
  refine go 6 ?_
  refine sq ((r_lssI rfl rfl).as (v' := .bool false) (by exact congrArg Value.bool (decide_eq_false om))) ?_
  refine go 2 ?_
  intro f0 h6 i6 j6 k6
  refine go 2 ?_
  intro h0 l6 m6 n6 o6
  let x5 : Array Value := #[pT f0, pT h0]
  refine go 2 ?_
  intro m0 p6 q6 K3 r6
  refine d_store (k := 0) (v := .agg x5) (cs' := x5) K3 rfl rfl rfl siz38 (by rfl) (oneL rfl) (by exact bLe rfl) (by rfl) fun s6 L3 t6 => ?_
  have H2 := L3.b7 rfl
  refine go 2 ?_
  refine loopAny (σ := Nat × Option Nat × Nat × LV × Option Nat × Nat × LV) (fun (zi, kyta, ccta, zzta, kytb, cctb, zztb) => [(0, pT b), (1, iN n1), (2, iN n2), (3, iN n3), (8, pT b1), (9, .nilIface), (12, pT m0), (57, iN n1), (58, iN zi)]) (fun (zi, kyta, ccta, zzta, kytb, cctb, zztb) w' => (zi ≤ n1 ∧ Sl ETr kyta (rowsOf (trA ws) 0 zi) ccta zzta ∧ Sl ETr kytb (rowsOf (trB ws) 0 zi) cctb zztb) ∧ Hp No w₀ w' ((rC m0 x5 38) :: (rC f0 #[sO kyta zi ccta, sN0, sN0] 114) :: (rC h0 #[sO kytb zi cctb, sN0, sN0] 114) :: (kyta, sob ETr 66 (rowsOf (trA ws) 0 zi) zzta) :: (kytb, sob ETr 66 (rowsOf (trB ws) 0 zi) zztb) :: (rC b1 x2 38) :: (rC b #[sO key ws.length c, .pointer none, iN ws.length, iN (0 + 5 * zi)] 96) :: u0 :: R)) (fun (zi, kyta, ccta, zzta, kytb, cctb, zztb) => n1 - zi) ((0, none, 0, [], none, 0, [])) ?_ ?_ ?_
  ·exact kp
  rw [show 0 = 0 + 5 * 0 by omega] at H2
  ·exact ⟨⟨Nat.zero_le _, Sl.none, Sl.none⟩, (((H2.nil (sob ETr 66 [] [])).nil (sob ETr 66 [] [])).pk 9 [2, 4, 3, 1, 0, 6, 7, 8])⟩
  rintro ⟨zi, kyta, ccta, zzta, kytb, cctb, zztb⟩ ρ M3 ⟨⟨hzi, hkyta, hkytb⟩, T1⟩
  let U1 : Array Value := #[sO kytb zi cctb, sN0, sN0]
  let x7 : RW := (kytb, sob ETr 66 (rowsOf (trB ws) 0 zi) zztb)
  refine go 1 ?_
  refine condProp (((zi : Nat) : Int) < (n1 : Nat)) rfl (fun N3 => ?_) (fun N3 => ?_)
  ·refine go 1 ?_
   have O3 := ((T1.pk 8 [6, 7, 0, 1, 2, 3, 4, 5])).b2 rfl
   refine cl (five_ok b key c sp ws hSw hlen (0 + 5 * zi) om ((rC m0 x5 38) :: (rC f0 #[sO kyta zi ccta, sN0, sN0] 114) :: (rC h0 U1 114) :: (kyta, sob ETr 66 (rowsOf (trA ws) 0 zi) zzta) :: x7 :: (rC b1 x2 38) :: R) w₀ M3 O3) ?_
   rintro _ u6 ⟨rfl, P3⟩
   have w6 := P3.b8 rfl
   refine go 1 ?_
   intro I2 y6 z6 A6 B6
   refine go 1 ?_
   intro C6 Q3 D6
   refine go 0 ?_
   have R3 := (Q3.pk 9 [4, 6, 0, 1, 2, 3, 5, 7, 8])
   let U0 : List RW := ((rX I2 E64 ([ws.getD (0 + 5 * zi) 0#64, ws.getD ((0 + 5 * zi) + 1) 0#64, ws.getD ((0 + 5 * zi) + 2) 0#64, ws.getD ((0 + 5 * zi) + 3) 0#64, ws.getD ((0 + 5 * zi) + 4) 0#64]) 117) :: (rC b #[sO key ws.length c, .pointer none, iN ws.length, iN ((0 + 5 * zi) + 5)] 96) :: u0 :: (rC m0 x5 38) :: (rC h0 U1 114) :: x7 :: (rC b1 x2 38) :: R)
   let w1 := fun (b0 : Nat) => (((some b0), sob ETr 66 ([⟨ws.getD (0 + 5 * zi) 0#64, ws.getD ((0 + 5 * zi) + 2) 0#64, ws.getD ((0 + 5 * zi) + 4) 0#64⟩] : List Tr) ([])) : RW)
   let J2 := ((kyta, sob ETr 66 (rowsOf (trA ws) 0 zi) zzta) : RW)
   let V1 := ((rC f0 #[sO kyta zi ccta, sN0, sN0] 114) : RW)
   let y1 := fun (b0 : Nat) => (Sl ETr (some b0) ([⟨ws.getD (0 + 5 * zi) 0#64, ws.getD ((0 + 5 * zi) + 2) 0#64, ws.getD ((0 + 5 * zi) + 4) 0#64⟩] : List Tr) 1 ([]) : Prop)
   let S3 : Tab := [zt3 false false false fun _ _ _ w' => Hp No w₀ w' (V1 :: J2 :: U0), zt3 true false false fun v15 _ _ w' => ∃ b0, v15 = sO (some b0) 1 1 ∧ (y1 b0) ∧ Hp No w₀ w' ((w1 b0) :: V1 :: J2 :: U0), zt3 true true false fun v15 v16 _ w' => ∃ b0 n0 B0 F0, v15 = sO (some b0) 1 1 ∧ v16 = sO n0 (zi + 1) B0 ∧ (y1 b0) ∧ Sl ETr n0 (rowsOf (trA ws) 0 (zi + 1)) B0 F0 ∧ Hp No w₀ w' ((w1 b0) :: V1 :: (n0, sob ETr 66 (rowsOf (trA ws) 0 (zi + 1)) F0) :: U0), zt3 true true true fun v15 v16 _ w' => ∃ b0 n0 B0 F0, v15 = sO (some b0) 1 1 ∧ v16 = sO n0 (zi + 1) B0 ∧ (y1 b0) ∧ Sl ETr n0 (rowsOf (trA ws) 0 (zi + 1)) B0 F0 ∧ Hp No w₀ w' ((w1 b0) :: (rC f0 #[sO n0 (zi + 1) B0, sN0, sN0] 114) :: (n0, sob ETr 66 (rowsOf (trA ws) 0 (zi + 1)) F0) :: U0)]
   refine drawH (m := 21) [0, 1, 0, 4, 12, 28, 60, 124, 0, 256, 0, 1024, 0, 4096, 16128, 32512, 65532, 131071, 262143, 524287, 1048575] [15, 16, 20] U0 S3 mixed (fun _ e => R3.ext e) (A_ (fun _ _ h => h.drop1.drop1) (A_ (fun _ _ ⟨_, _, _, h⟩ => h.drop1.drop1.drop1) (A_ (fun _ _ ⟨_, _, _, _, _, _, _, _, h⟩ => h.drop1.drop1.drop1) (A_ (fun _ _ ⟨_, _, _, _, _, _, _, _, h⟩ => h.drop1.drop1.drop1) trivial)))) (fun W1 => ?_)
   refine gk 15 ?_
   refine WalkT.eff W1 0 ?_ ?_
   ·refine A_ (fun r w0 uw hF hE => ?_) trivial
    have E6 := hF.ext hE
    exact gW fun Q' hK => (bS (E := ETr) (l := ([⟨ws.getD (0 + 5 * zi) 0#64, ws.getD ((0 + 5 * zi) + 2) 0#64, ws.getD ((0 + 5 * zi) + 4) 0#64⟩] : List Tr)) fun T3 F6 U3 V3 G6 => hK _ _ (E_ T3 (A_ rfl (A_ U3 V3))))
   refine WalkT.eff W1 1 ?_ ?_
   ·refine A_ (fun r w0 uw hF hE => ?_) trivial
    obtain ⟨b0, r0, g1, K2⟩ := hF
    replace K2 := K2.ext hE
    dsimp only
    rw [r0]
    refine gW fun Q' hK => ?_
    refine apq ?_
    refine ⟨by rw [rowsOf_len], by rfl, om, ?_⟩
    intro W3 X3 Y3 H6 Z3 I6 c4
    have d4 : (rowsOf (trA ws) 0 zi) ++ ([⟨ws.getD (0 + 5 * zi) 0#64, ws.getD ((0 + 5 * zi) + 2) 0#64, ws.getD ((0 + 5 * zi) + 4) 0#64⟩] : List Tr) = rowsOf (trA ws) 0 (zi + 1) := by rw [rowsOf_succ]; rfl
    have L2 := Z3
    have M2 := c4
    rw [d4] at L2 M2
    exact hK _ _ (E_ b0 (E_ W3 (E_ X3 (E_ Y3 (A_ r0 (A_ rfl (A_ g1 (A_ L2 M2))))))))
   refine gk 3 ?_
   refine WalkT.eff W1 2 ?_ ?_
   ·refine A_ (fun r w0 uw hF hE => ?_) trivial
    obtain ⟨b0, n0, B0, F0, r0, a0, g1, X1, N2⟩ := hF
    replace N2 := N2.ext hE
    dsimp only
    rw [a0]
    refine gW0 fun Q' hK => ?_
    refine go 1 ?_
    intro J6 e4 K6
    exact hK _ (fun _ => (E_ b0 (E_ n0 (E_ B0 (E_ F0 (A_ r0 (A_ a0 (A_ g1 (A_ X1 e4)))))))))
   refine WalkT.nil fun r w0 L6 hF hE => ?_
   obtain ⟨b0, n0, B0, F0, r0, a0, g1, X1, z1⟩ := hF
   replace z1 := z1.ext hE
   dsimp only
   rw [r0, a0]
   dsimp only [y1] at g1
   dsimp only [U0, w1] at z1
   refine go 0 ?_
   have f4 := (z1.pk 10 [7, 8, 0, 1, 2, 3, 4, 5, 6, 9])
   let V0 : List RW := (((some b0), sob ETr 66 ([⟨ws.getD (0 + 5 * zi) 0#64, ws.getD ((0 + 5 * zi) + 2) 0#64, ws.getD ((0 + 5 * zi) + 4) 0#64⟩] : List Tr) ([])) :: (rC f0 #[sO n0 (zi + 1) B0, sN0, sN0] 114) :: (n0, sob ETr 66 (rowsOf (trA ws) 0 (zi + 1)) F0) :: (rX I2 E64 ([ws.getD (0 + 5 * zi) 0#64, ws.getD ((0 + 5 * zi) + 1) 0#64, ws.getD ((0 + 5 * zi) + 2) 0#64, ws.getD ((0 + 5 * zi) + 3) 0#64, ws.getD ((0 + 5 * zi) + 4) 0#64]) 117) :: (rC b #[sO key ws.length c, .pointer none, iN ws.length, iN ((0 + 5 * zi) + 5)] 96) :: u0 :: (rC m0 x5 38) :: (rC b1 x2 38) :: R)
   let A1 := fun (i0 : Nat) => (((some i0), sob ETr 66 ([⟨ws.getD ((0 + 5 * zi) + 1) 0#64, ws.getD ((0 + 5 * zi) + 3) 0#64, (((ws.getD (0 + 5 * zi) 0#64) + (ws.getD ((0 + 5 * zi) + 1) 0#64)) * ((ws.getD ((0 + 5 * zi) + 2) 0#64) + (ws.getD ((0 + 5 * zi) + 3) 0#64))) - (ws.getD ((0 + 5 * zi) + 4) 0#64)⟩] : List Tr) ([])) : RW)
   let O2 := (x7 : RW)
   let Y1 := ((rC h0 U1 114) : RW)
   let B1 := fun (i0 : Nat) => (Sl ETr (some i0) ([⟨ws.getD ((0 + 5 * zi) + 1) 0#64, ws.getD ((0 + 5 * zi) + 3) 0#64, (((ws.getD (0 + 5 * zi) 0#64) + (ws.getD ((0 + 5 * zi) + 1) 0#64)) * ((ws.getD ((0 + 5 * zi) + 2) 0#64) + (ws.getD ((0 + 5 * zi) + 3) 0#64))) - (ws.getD ((0 + 5 * zi) + 4) 0#64)⟩] : List Tr) 1 ([]) : Prop)
   let g4 : Tab := [zt3 false false false fun _ _ _ w' => Hp No w₀ w' (Y1 :: O2 :: V0), zt3 true false false fun v27 _ _ w' => ∃ i0, v27 = sO (some i0) 1 1 ∧ (B1 i0) ∧ Hp No w₀ w' ((A1 i0) :: Y1 :: O2 :: V0), zt3 true true false fun v27 v28 _ w' => ∃ i0 x0 G0 N0, v27 = sO (some i0) 1 1 ∧ v28 = sO x0 (zi + 1) G0 ∧ (B1 i0) ∧ Sl ETr x0 (rowsOf (trB ws) 0 (zi + 1)) G0 N0 ∧ Hp No w₀ w' ((A1 i0) :: Y1 :: (x0, sob ETr 66 (rowsOf (trB ws) 0 (zi + 1)) N0) :: V0), zt3 true true true fun v27 v28 _ w' => ∃ i0 x0 G0 N0, v27 = sO (some i0) 1 1 ∧ v28 = sO x0 (zi + 1) G0 ∧ (B1 i0) ∧ Sl ETr x0 (rowsOf (trB ws) 0 (zi + 1)) G0 N0 ∧ Hp No w₀ w' ((A1 i0) :: (rC h0 #[sO x0 (zi + 1) G0, sN0, sN0] 114) :: (x0, sob ETr 66 (rowsOf (trB ws) 0 (zi + 1)) N0) :: V0)]
   refine drawH (m := 33) [0, 1, 0, 4, 12, 28, 60, 124, 0, 256, 0, 1024, 0, 4096, 0, 16384, 61440, 0, 131072, 0, 524288, 1966080, 4190208, 0, 8388608, 33550336, 67108608, 134217472, 268435452, 536870911, 1073741823, 2147483647, 4294967295] [27, 28, 32] V0 g4 mixed (fun _ e => f4.ext e) (A_ (fun _ _ h => h.drop1.drop1) (A_ (fun _ _ ⟨_, _, _, h⟩ => h.drop1.drop1.drop1) (A_ (fun _ _ ⟨_, _, _, _, _, _, _, _, h⟩ => h.drop1.drop1.drop1) (A_ (fun _ _ ⟨_, _, _, _, _, _, _, _, h⟩ => h.drop1.drop1.drop1) trivial)))) (fun Z1 => ?_)
   refine gk 27 ?_
   refine WalkT.eff Z1 0 ?_ ?_
   ·refine A_ (fun r w0 uw hF hE => ?_) trivial
    have M6 := hF.ext hE
    exact gW fun Q' hK => (bS (E := ETr) (l := ([⟨ws.getD ((0 + 5 * zi) + 1) 0#64, ws.getD ((0 + 5 * zi) + 3) 0#64, (((ws.getD (0 + 5 * zi) 0#64) + (ws.getD ((0 + 5 * zi) + 1) 0#64)) * ((ws.getD ((0 + 5 * zi) + 2) 0#64) + (ws.getD ((0 + 5 * zi) + 3) 0#64))) - (ws.getD ((0 + 5 * zi) + 4) 0#64)⟩] : List Tr)) fun h4 N6 i4 j4 O6 => hK _ _ (E_ h4 (A_ rfl (A_ i4 j4))))
   refine WalkT.eff Z1 1 ?_ ?_
   ·refine A_ (fun r w0 uw hF hE => ?_) trivial
    obtain ⟨i0, s0, h1, P2⟩ := hF
    replace P2 := P2.ext hE
    dsimp only
    rw [s0]
    refine gW fun Q' hK => ?_
    refine apq ?_
    refine ⟨by rw [rowsOf_len], by rfl, om, ?_⟩
    intro k4 c2 l4 P6 m4 Q6 n4
    have o4 : (rowsOf (trB ws) 0 zi) ++ ([⟨ws.getD ((0 + 5 * zi) + 1) 0#64, ws.getD ((0 + 5 * zi) + 3) 0#64, (((ws.getD (0 + 5 * zi) 0#64) + (ws.getD ((0 + 5 * zi) + 1) 0#64)) * ((ws.getD ((0 + 5 * zi) + 2) 0#64) + (ws.getD ((0 + 5 * zi) + 3) 0#64))) - (ws.getD ((0 + 5 * zi) + 4) 0#64)⟩] : List Tr) = rowsOf (trB ws) 0 (zi + 1) := by rw [rowsOf_succ]; rfl
    have Q2 := m4
    have R2 := n4
    rw [o4] at Q2 R2
    exact hK _ _ (E_ i0 (E_ k4 (E_ c2 (E_ l4 (A_ s0 (A_ rfl (A_ h1 (A_ Q2 R2))))))))
   refine gk 3 ?_
   refine WalkT.eff Z1 2 ?_ ?_
   ·refine A_ (fun r w0 uw hF hE => ?_) trivial
    obtain ⟨i0, x0, G0, N0, s0, O0, h1, d2, S2⟩ := hF
    replace S2 := S2.ext hE
    dsimp only
    rw [O0]
    refine gW0 fun Q' hK => ?_
    refine go 1 ?_
    intro R6 p4 S6
    exact hK _ (fun _ => (E_ i0 (E_ x0 (E_ G0 (E_ N0 (A_ s0 (A_ O0 (A_ h1 (A_ d2 p4)))))))))
   refine WalkT.nil fun r w0 T6 hF hE => ?_
   obtain ⟨i0, x0, G0, N0, s0, O0, h1, d2, i1⟩ := hF
   replace i1 := i1.ext hE
   dsimp only
   rw [s0, O0]
   dsimp only [B1] at h1
   dsimp only [V0, A1] at i1
   refine go 2 ?_
   rw [show (0 + 5 * zi) + 5 = 0 + 5 * (zi + 1) by omega] at i1
   exact ⟨(zi + 1, n0, B0, F0, x0, G0, N0), _, rfl, kp, ⟨⟨om, X1, d2⟩, (i1.pk 11 [9, 4, 1, 5, 2, 10, 7, 8])⟩, vd⟩
  ·obtain rfl : n1 = zi := by omega
   let e2 : Value := sO kyta n1 ccta
   let x8 : RW := (kytb, sob ETr 66 (rowsOf (trB ws) 0 n1) zztb)
   let x3 : RW := (kyta, sob ETr 66 (rowsOf (trA ws) 0 n1) zzta)
   refine go 2 ?_
   refine loopAny (σ := Nat × Option Nat × Nat × LV × Option Nat × Nat × LV) (fun (zi, kyba, ccba, zzba, kybb, ccbb, zzbb) => [(0, pT b), (1, iN n1), (2, iN n2), (3, iN n3), (8, pT b1), (9, .nilIface), (12, pT m0), (115, iN n2), (116, iN zi)]) (fun (zi, kyba, ccba, zzba, kybb, ccbb, zzbb) w' => (zi ≤ n2 ∧ Sl ETr kyba (rowsOf (trA ws) (5 * n1) zi) ccba zzba ∧ Sl ETr kybb (rowsOf (biB ws) (5 * n1) zi) ccbb zzbb) ∧ Hp No w₀ w' ((rC m0 x5 38) :: (rC f0 #[sO kyta n1 ccta, sO kyba zi ccba, sN0] 114) :: (rC h0 #[sO kytb n1 cctb, sO kybb zi ccbb, sN0] 114) :: x3 :: x8 :: (kyba, sob ETr 66 (rowsOf (trA ws) (5 * n1) zi) zzba) :: (kybb, sob ETr 66 (rowsOf (biB ws) (5 * n1) zi) zzbb) :: (rC b1 x2 38) :: (rC b #[sO key ws.length c, .pointer none, iN ws.length, iN (5 * n1 + 5 * zi)] 96) :: u0 :: R)) (fun (zi, kyba, ccba, zzba, kybb, ccbb, zzbb) => n2 - zi) ((0, none, 0, [], none, 0, [])) ?_ ?_ ?_
   ·exact kp
   rw [show 0 + 5 * n1 = 5 * n1 + 5 * 0 by omega] at T1
   ·exact ⟨⟨Nat.zero_le _, Sl.none, Sl.none⟩, (((T1.nil (sob ETr 66 [] [])).nil (sob ETr 66 [] [])).pk 10 [2, 3, 4, 5, 6, 1, 0, 7, 8, 9])⟩
   rintro ⟨zi, kyba, ccba, zzba, kybb, ccbb, zzbb⟩ ρ q4 ⟨⟨hzi, hkyba, hkybb⟩, f2⟩
   let g2 : RW := (kybb, sob ETr 66 (rowsOf (biB ws) (5 * n1) zi) zzbb)
   let x6 : Array Value := #[sO kytb n1 cctb, sO kybb zi ccbb, sN0]
   refine go 1 ?_
   refine condProp (((zi : Nat) : Int) < (n2 : Nat)) rfl (fun r4 => ?_) (fun r4 => ?_)
   ·refine go 1 ?_
    have s4 := ((f2.pk 10 [8, 9, 0, 1, 2, 3, 4, 5, 6, 7])).b2 rfl
    refine cl (five_ok b key c sp ws hSw hlen (5 * n1 + 5 * zi) om ((rC m0 x5 38) :: (rC f0 #[e2, sO kyba zi ccba, sN0] 114) :: (rC h0 x6 114) :: x3 :: x8 :: (kyba, sob ETr 66 (rowsOf (trA ws) (5 * n1) zi) zzba) :: g2 :: (rC b1 x2 38) :: R) w₀ q4 s4) ?_
    rintro _ U6 ⟨rfl, t4⟩
    have V6 := t4.b10 rfl
    refine go 1 ?_
    intro T2 W6 X6 Y6 Z6
    refine go 1 ?_
    intro c7 u4 d7
    refine go 0 ?_
    have w4 := (u4.pk 11 [4, 8, 0, 1, 2, 3, 5, 6, 7, 9, 10])
    let W0 : List RW := ((rX T2 E64 ([ws.getD (5 * n1 + 5 * zi) 0#64, ws.getD ((5 * n1 + 5 * zi) + 1) 0#64, ws.getD ((5 * n1 + 5 * zi) + 2) 0#64, ws.getD ((5 * n1 + 5 * zi) + 3) 0#64, ws.getD ((5 * n1 + 5 * zi) + 4) 0#64]) 117) :: (rC b #[sO key ws.length c, .pointer none, iN ws.length, iN ((5 * n1 + 5 * zi) + 5)] 96) :: u0 :: (rC m0 x5 38) :: (rC h0 x6 114) :: x3 :: x8 :: g2 :: (rC b1 x2 38) :: R)
    let C1 := fun (c0 : Nat) => (((some c0), sob ETr 66 ([⟨ws.getD (5 * n1 + 5 * zi) 0#64, ws.getD ((5 * n1 + 5 * zi) + 2) 0#64, ws.getD ((5 * n1 + 5 * zi) + 4) 0#64⟩] : List Tr) ([])) : RW)
    let U2 := ((kyba, sob ETr 66 (rowsOf (trA ws) (5 * n1) zi) zzba) : RW)
    let h2 := ((rC f0 #[e2, sO kyba zi ccba, sN0] 114) : RW)
    let D1 := fun (c0 : Nat) => (Sl ETr (some c0) ([⟨ws.getD (5 * n1 + 5 * zi) 0#64, ws.getD ((5 * n1 + 5 * zi) + 2) 0#64, ws.getD ((5 * n1 + 5 * zi) + 4) 0#64⟩] : List Tr) 1 ([]) : Prop)
    let y4 : Tab := [zt3 false false false fun _ _ _ w' => Hp No w₀ w' (h2 :: U2 :: W0), zt3 true false false fun v15 _ _ w' => ∃ c0, v15 = sO (some c0) 1 1 ∧ (D1 c0) ∧ Hp No w₀ w' ((C1 c0) :: h2 :: U2 :: W0), zt3 true true false fun v15 v16 _ w' => ∃ c0 o0 C0 H0, v15 = sO (some c0) 1 1 ∧ v16 = sO o0 (zi + 1) C0 ∧ (D1 c0) ∧ Sl ETr o0 (rowsOf (trA ws) (5 * n1) (zi + 1)) C0 H0 ∧ Hp No w₀ w' ((C1 c0) :: h2 :: (o0, sob ETr 66 (rowsOf (trA ws) (5 * n1) (zi + 1)) H0) :: W0), zt3 true true true fun v15 v16 _ w' => ∃ c0 o0 C0 H0, v15 = sO (some c0) 1 1 ∧ v16 = sO o0 (zi + 1) C0 ∧ (D1 c0) ∧ Sl ETr o0 (rowsOf (trA ws) (5 * n1) (zi + 1)) C0 H0 ∧ Hp No w₀ w' ((C1 c0) :: (rC f0 #[sO kyta n1 ccta, sO o0 (zi + 1) C0, sN0] 114) :: (o0, sob ETr 66 (rowsOf (trA ws) (5 * n1) (zi + 1)) H0) :: W0)]
    refine drawH (m := 21) [0, 1, 0, 4, 12, 28, 60, 124, 0, 256, 0, 1024, 0, 4096, 16128, 32512, 65532, 131071, 262143, 524287, 1048575] [15, 16, 20] W0 y4 mixed (fun _ e => w4.ext e) (A_ (fun _ _ h => h.drop1.drop1) (A_ (fun _ _ ⟨_, _, _, h⟩ => h.drop1.drop1.drop1) (A_ (fun _ _ ⟨_, _, _, _, _, _, _, _, h⟩ => h.drop1.drop1.drop1) (A_ (fun _ _ ⟨_, _, _, _, _, _, _, _, h⟩ => h.drop1.drop1.drop1) trivial)))) (fun i2 => ?_)
    refine gk 15 ?_
    refine WalkT.eff i2 0 ?_ ?_
    ·refine A_ (fun r w0 uw hF hE => ?_) trivial
     have e7 := hF.ext hE
     exact gW fun Q' hK => (bS (E := ETr) (l := ([⟨ws.getD (5 * n1 + 5 * zi) 0#64, ws.getD ((5 * n1 + 5 * zi) + 2) 0#64, ws.getD ((5 * n1 + 5 * zi) + 4) 0#64⟩] : List Tr)) fun z4 f7 A4 B4 g7 => hK _ _ (E_ z4 (A_ rfl (A_ A4 B4))))
    refine WalkT.eff i2 1 ?_ ?_
    ·refine A_ (fun r w0 uw hF hE => ?_) trivial
     obtain ⟨c0, r0, j1, V2⟩ := hF
     replace V2 := V2.ext hE
     dsimp only
     rw [r0]
     refine gW fun Q' hK => ?_
     refine apq ?_
     refine ⟨by rw [rowsOf_len], by rfl, om, ?_⟩
     intro C4 D4 F4 h7 G4 i7 H4
     have I4 : (rowsOf (trA ws) (5 * n1) zi) ++ ([⟨ws.getD (5 * n1 + 5 * zi) 0#64, ws.getD ((5 * n1 + 5 * zi) + 2) 0#64, ws.getD ((5 * n1 + 5 * zi) + 4) 0#64⟩] : List Tr) = rowsOf (trA ws) (5 * n1) (zi + 1) := by rw [rowsOf_succ]; rfl
     have X2 := G4
     have Y2 := H4
     rw [I4] at X2 Y2
     exact hK _ _ (E_ c0 (E_ C4 (E_ D4 (E_ F4 (A_ r0 (A_ rfl (A_ j1 (A_ X2 Y2))))))))
    refine gk 3 ?_
    refine WalkT.eff i2 2 ?_ ?_
    ·refine A_ (fun r w0 uw hF hE => ?_) trivial
     obtain ⟨c0, o0, C0, H0, r0, a0, j1, j2, Z2⟩ := hF
     replace Z2 := Z2.ext hE
     dsimp only
     rw [a0]
     refine gW0 fun Q' hK => ?_
     refine go 1 ?_
     intro j7 J4 k7
     exact hK _ (fun _ => (E_ c0 (E_ o0 (E_ C0 (E_ H0 (A_ r0 (A_ a0 (A_ j1 (A_ j2 J4)))))))))
    refine WalkT.nil fun r w0 l7 hF hE => ?_
    obtain ⟨c0, o0, C0, H0, r0, a0, j1, j2, E1⟩ := hF
    replace E1 := E1.ext hE
    dsimp only
    rw [r0, a0]
    dsimp only [D1] at j1
    dsimp only [W0, C1] at E1
    refine go 0 ?_
    have K4 := (E1.pk 12 [7, 10, 0, 1, 2, 3, 4, 5, 6, 8, 9, 11])
    let X0 : List RW := (((some c0), sob ETr 66 ([⟨ws.getD (5 * n1 + 5 * zi) 0#64, ws.getD ((5 * n1 + 5 * zi) + 2) 0#64, ws.getD ((5 * n1 + 5 * zi) + 4) 0#64⟩] : List Tr) ([])) :: (rC f0 #[sO kyta n1 ccta, sO o0 (zi + 1) C0, sN0] 114) :: (o0, sob ETr 66 (rowsOf (trA ws) (5 * n1) (zi + 1)) H0) :: (rX T2 E64 ([ws.getD (5 * n1 + 5 * zi) 0#64, ws.getD ((5 * n1 + 5 * zi) + 1) 0#64, ws.getD ((5 * n1 + 5 * zi) + 2) 0#64, ws.getD ((5 * n1 + 5 * zi) + 3) 0#64, ws.getD ((5 * n1 + 5 * zi) + 4) 0#64]) 117) :: (rC b #[sO key ws.length c, .pointer none, iN ws.length, iN ((5 * n1 + 5 * zi) + 5)] 96) :: u0 :: (rC m0 x5 38) :: x3 :: x8 :: (rC b1 x2 38) :: R)
    let F1 := fun (j0 : Nat) => (((some j0), sob ETr 66 ([⟨ws.getD ((5 * n1 + 5 * zi) + 1) 0#64, ws.getD ((5 * n1 + 5 * zi) + 3) 0#64, (((ws.getD (5 * n1 + 5 * zi) 0#64) ^^^ (ws.getD ((5 * n1 + 5 * zi) + 1) 0#64)) &&& ((ws.getD ((5 * n1 + 5 * zi) + 2) 0#64) ^^^ (ws.getD ((5 * n1 + 5 * zi) + 3) 0#64))) ^^^ (ws.getD ((5 * n1 + 5 * zi) + 4) 0#64)⟩] : List Tr) ([])) : RW)
    let c3 := (g2 : RW)
    let k2 := ((rC h0 x6 114) : RW)
    let G1 := fun (j0 : Nat) => (Sl ETr (some j0) ([⟨ws.getD ((5 * n1 + 5 * zi) + 1) 0#64, ws.getD ((5 * n1 + 5 * zi) + 3) 0#64, (((ws.getD (5 * n1 + 5 * zi) 0#64) ^^^ (ws.getD ((5 * n1 + 5 * zi) + 1) 0#64)) &&& ((ws.getD ((5 * n1 + 5 * zi) + 2) 0#64) ^^^ (ws.getD ((5 * n1 + 5 * zi) + 3) 0#64))) ^^^ (ws.getD ((5 * n1 + 5 * zi) + 4) 0#64)⟩] : List Tr) 1 ([]) : Prop)
    let L4 : Tab := [zt3 false false false fun _ _ _ w' => Hp No w₀ w' (k2 :: c3 :: X0), zt3 true false false fun v27 _ _ w' => ∃ j0, v27 = sO (some j0) 1 1 ∧ (G1 j0) ∧ Hp No w₀ w' ((F1 j0) :: k2 :: c3 :: X0), zt3 true true false fun v27 v28 _ w' => ∃ j0 y0 I0 P0, v27 = sO (some j0) 1 1 ∧ v28 = sO y0 (zi + 1) I0 ∧ (G1 j0) ∧ Sl ETr y0 (rowsOf (biB ws) (5 * n1) (zi + 1)) I0 P0 ∧ Hp No w₀ w' ((F1 j0) :: k2 :: (y0, sob ETr 66 (rowsOf (biB ws) (5 * n1) (zi + 1)) P0) :: X0), zt3 true true true fun v27 v28 _ w' => ∃ j0 y0 I0 P0, v27 = sO (some j0) 1 1 ∧ v28 = sO y0 (zi + 1) I0 ∧ (G1 j0) ∧ Sl ETr y0 (rowsOf (biB ws) (5 * n1) (zi + 1)) I0 P0 ∧ Hp No w₀ w' ((F1 j0) :: (rC h0 #[sO kytb n1 cctb, sO y0 (zi + 1) I0, sN0] 114) :: (y0, sob ETr 66 (rowsOf (biB ws) (5 * n1) (zi + 1)) P0) :: X0)]
    refine drawH (m := 33) [0, 1, 0, 4, 12, 28, 60, 124, 0, 256, 0, 1024, 0, 4096, 0, 16384, 61440, 0, 131072, 0, 524288, 1966080, 4190208, 0, 8388608, 33550336, 67108608, 134217472, 268435452, 536870911, 1073741823, 2147483647, 4294967295] [27, 28, 32] X0 L4 mixed (fun _ e => K4.ext e) (A_ (fun _ _ h => h.drop1.drop1) (A_ (fun _ _ ⟨_, _, _, h⟩ => h.drop1.drop1.drop1) (A_ (fun _ _ ⟨_, _, _, _, _, _, _, _, h⟩ => h.drop1.drop1.drop1) (A_ (fun _ _ ⟨_, _, _, _, _, _, _, _, h⟩ => h.drop1.drop1.drop1) trivial)))) (fun l2 => ?_)
    refine gk 27 ?_
    refine WalkT.eff l2 0 ?_ ?_
    ·refine A_ (fun r w0 uw hF hE => ?_) trivial
     have m7 := hF.ext hE
     exact gW fun Q' hK => (bS (E := ETr) (l := ([⟨ws.getD ((5 * n1 + 5 * zi) + 1) 0#64, ws.getD ((5 * n1 + 5 * zi) + 3) 0#64, (((ws.getD (5 * n1 + 5 * zi) 0#64) ^^^ (ws.getD ((5 * n1 + 5 * zi) + 1) 0#64)) &&& ((ws.getD ((5 * n1 + 5 * zi) + 2) 0#64) ^^^ (ws.getD ((5 * n1 + 5 * zi) + 3) 0#64))) ^^^ (ws.getD ((5 * n1 + 5 * zi) + 4) 0#64)⟩] : List Tr)) fun M4 n7 N4 O4 o7 => hK _ _ (E_ M4 (A_ rfl (A_ N4 O4))))
    refine WalkT.eff l2 1 ?_ ?_
    ·refine A_ (fun r w0 uw hF hE => ?_) trivial
     obtain ⟨j0, s0, k1, d3⟩ := hF
     replace d3 := d3.ext hE
     dsimp only
     rw [s0]
     refine gW fun Q' hK => ?_
     refine apq ?_
     refine ⟨by rw [rowsOf_len], by rfl, om, ?_⟩
     intro P4 Q4 R4 p7 S4 q7 T4
     have U4 : (rowsOf (biB ws) (5 * n1) zi) ++ ([⟨ws.getD ((5 * n1 + 5 * zi) + 1) 0#64, ws.getD ((5 * n1 + 5 * zi) + 3) 0#64, (((ws.getD (5 * n1 + 5 * zi) 0#64) ^^^ (ws.getD ((5 * n1 + 5 * zi) + 1) 0#64)) &&& ((ws.getD ((5 * n1 + 5 * zi) + 2) 0#64) ^^^ (ws.getD ((5 * n1 + 5 * zi) + 3) 0#64))) ^^^ (ws.getD ((5 * n1 + 5 * zi) + 4) 0#64)⟩] : List Tr) = rowsOf (biB ws) (5 * n1) (zi + 1) := by rw [rowsOf_succ]; rfl
     have e3 := S4
     have f3 := T4
     rw [U4] at e3 f3
     exact hK _ _ (E_ j0 (E_ P4 (E_ Q4 (E_ R4 (A_ s0 (A_ rfl (A_ k1 (A_ e3 f3))))))))
    refine gk 3 ?_
    refine WalkT.eff l2 2 ?_ ?_
    ·refine A_ (fun r w0 uw hF hE => ?_) trivial
     obtain ⟨j0, y0, I0, P0, s0, O0, k1, m2, g3⟩ := hF
     replace g3 := g3.ext hE
     dsimp only
     rw [O0]
     refine gW0 fun Q' hK => ?_
     refine go 1 ?_
     intro r7 V4 s7
     exact hK _ (fun _ => (E_ j0 (E_ y0 (E_ I0 (E_ P0 (A_ s0 (A_ O0 (A_ k1 (A_ m2 V4)))))))))
    refine WalkT.nil fun r w0 t7 hF hE => ?_
    obtain ⟨j0, y0, I0, P0, s0, O0, k1, m2, l1⟩ := hF
    replace l1 := l1.ext hE
    dsimp only
    rw [s0, O0]
    dsimp only [G1] at k1
    dsimp only [X0, F1] at l1
    refine go 2 ?_
    rw [show (5 * n1 + 5 * zi) + 5 = 5 * n1 + 5 * (zi + 1) by omega] at l1
    exact ⟨(zi + 1, o0, C0, H0, y0, I0, P0), _, rfl, kp, ⟨⟨om, j2, m2⟩, (l1.pk 13 [9, 4, 1, 10, 11, 5, 2, 12, 7, 8])⟩, vd⟩
   ·obtain rfl : n2 = zi := by omega
    let Y0 : RW := (kybb, sob ETr 66 (rowsOf (biB ws) (5 * n1) n2) zzbb)
    let x4 : RW := (kyba, sob ETr 66 (rowsOf (trA ws) (5 * n1) n2) zzba)
    refine go 2 ?_
    refine loopAny (σ := Nat × Option Nat × Nat × LV × Option Nat × Nat × LV) (fun (zi, kyoa, ccoa, zzoa, kyob, ccob, zzob) => [(0, pT b), (1, iN n1), (2, iN n2), (3, iN n3), (8, pT b1), (9, .nilIface), (12, pT m0), (173, iN n3), (174, iN zi)]) (fun (zi, kyoa, ccoa, zzoa, kyob, ccob, zzob) w' => (zi ≤ n3 ∧ Sl EOt kyoa (rowsOf (otA ws) (5 * (n1 + n2)) zi) ccoa zzoa ∧ Sl EOt kyob (rowsOf (otB ws) (5 * (n1 + n2)) zi) ccob zzob) ∧ Hp No w₀ w' ((rC m0 x5 38) :: (rC f0 #[sO kyta n1 ccta, sO kyba n2 ccba, sO kyoa zi ccoa] 114) :: (rC h0 #[sO kytb n1 cctb, sO kybb n2 ccbb, sO kyob zi ccob] 114) :: x3 :: x8 :: x4 :: Y0 :: (kyoa, sob EOt 121 (rowsOf (otA ws) (5 * (n1 + n2)) zi) zzoa) :: (kyob, sob EOt 121 (rowsOf (otB ws) (5 * (n1 + n2)) zi) zzob) :: (rC b1 x2 38) :: (rC b #[sO key ws.length c, .pointer none, iN ws.length, iN (5 * (n1 + n2) + 5 * zi)] 96) :: u0 :: R)) (fun (zi, kyoa, ccoa, zzoa, kyob, ccob, zzob) => n3 - zi) ((0, none, 0, [], none, 0, [])) ?_ ?_ ?_
    ·exact kp
    rw [show 5 * n1 + 5 * n2 = 5 * (n1 + n2) + 5 * 0 by omega] at f2
    ·exact ⟨⟨Nat.zero_le _, Sl.none, Sl.none⟩, (((f2.nil (sob EOt 121 [] [])).nil (sob EOt 121 [] [])).pk 12 [2, 3, 4, 5, 6, 7, 8, 1, 0, 9, 10, 11])⟩
    rintro ⟨zi, kyoa, ccoa, zzoa, kyob, ccob, zzob⟩ ρ W4 ⟨⟨hzi, hkyoa, hkyob⟩, h3⟩
    let o2 : RW := (kyoa, sob EOt 121 (rowsOf (otA ws) (5 * (n1 + n2)) zi) zzoa)
    let p2 : Array Value := #[e2, sO kyba n2 ccba, sO kyoa zi ccoa]
    let m1 : RW := (kyob, sob EOt 121 (rowsOf (otB ws) (5 * (n1 + n2)) zi) zzob)
    let x9 : Array Value := #[sO kytb n1 cctb, sO kybb n2 ccbb, sO kyob zi ccob]
    let x1 : Array Value := #[u64 (ws.getD (5 * (n1 + n2) + 5 * zi) 0#64), u64 (ws.getD ((5 * (n1 + n2) + 5 * zi) + 1) 0#64), u64 (ws.getD ((5 * (n1 + n2) + 5 * zi) + 2) 0#64), u64 (ws.getD ((5 * (n1 + n2) + 5 * zi) + 3) 0#64), .bool false]
    refine go 1 ?_
    refine condProp (((zi : Nat) : Int) < (n3 : Nat)) rfl (fun c2 => ?_) (fun c2 => ?_)
    ·refine go 1 ?_
     have X4 := ((h3.pk 12 [10, 11, 0, 1, 2, 3, 4, 5, 6, 7, 8, 9])).b2 rfl
     refine cl (five_ok b key c sp ws hSw hlen (5 * (n1 + n2) + 5 * zi) om ((rC m0 x5 38) :: (rC f0 p2 114) :: (rC h0 x9 114) :: x3 :: x8 :: x4 :: Y0 :: o2 :: m1 :: (rC b1 x2 38) :: R) w₀ W4 X4) ?_
     rintro _ u7 ⟨rfl, Y4⟩
     have y7 := Y4.b12 rfl
     refine go 1 ?_
     intro H1 z7 A7 B7 C7
     refine go 1 ?_
     intro D7 E7 F7
     refine go 13 ?_
     intro I1 G7 H7 I7 J7
     refine go 1 ?_
     intro K7 i3 L7
     refine go 0 ?_
     by_cases hodd : gt ws (5 * (n1 + n2) + 5 * zi + 4) &&& 1#64 = 1#64
     ·refine go 2 ?_
      refine sq ((r_and64 (a := ws.getD ((5 * (n1 + n2) + 5 * zi) + 4) 0#64) (b := 1#64) rfl rfl).as (v' := u64 1#64) (by exact congrArg u64 hodd)) ?_
      refine go 1 ?_
      have Z4 := (i3.pk 14 [5, 11, 0, 1, 2, 3, 4, 6, 7, 8, 9, 10, 12, 13])
      let Z0 : List RW := ((rC I1 x1 121) :: (rX H1 E64 ([ws.getD (5 * (n1 + n2) + 5 * zi) 0#64, ws.getD ((5 * (n1 + n2) + 5 * zi) + 1) 0#64, ws.getD ((5 * (n1 + n2) + 5 * zi) + 2) 0#64, ws.getD ((5 * (n1 + n2) + 5 * zi) + 3) 0#64, ws.getD ((5 * (n1 + n2) + 5 * zi) + 4) 0#64]) 117) :: (rC b #[sO key ws.length c, .pointer none, iN ws.length, iN ((5 * (n1 + n2) + 5 * zi) + 5)] 96) :: u0 :: (rC m0 x5 38) :: (rC h0 x9 114) :: x3 :: x8 :: x4 :: Y0 :: m1 :: (rC b1 x2 38) :: R)
      let J1 := fun (d0 : Nat) => (((some d0), sob EOt 121 ([⟨ws.getD (5 * (n1 + n2) + 5 * zi) 0#64, ws.getD ((5 * (n1 + n2) + 5 * zi) + 1) 0#64, ws.getD ((5 * (n1 + n2) + 5 * zi) + 2) 0#64, ws.getD ((5 * (n1 + n2) + 5 * zi) + 3) 0#64, false⟩] : List Ot) ([])) : RW)
      let j3 := (o2 : RW)
      let q2 := ((rC f0 p2 114) : RW)
      let K1 := fun (d0 : Nat) => (Sl EOt (some d0) ([⟨ws.getD (5 * (n1 + n2) + 5 * zi) 0#64, ws.getD ((5 * (n1 + n2) + 5 * zi) + 1) 0#64, ws.getD ((5 * (n1 + n2) + 5 * zi) + 2) 0#64, ws.getD ((5 * (n1 + n2) + 5 * zi) + 3) 0#64, false⟩] : List Ot) 1 ([]) : Prop)
      let c5 : Tab := [zt3 false false false fun _ _ _ w' => Hp No w₀ w' (q2 :: j3 :: Z0), zt3 true false false fun v9 _ _ w' => ∃ d0, v9 = sO (some d0) 1 1 ∧ (K1 d0) ∧ Hp No w₀ w' ((J1 d0) :: q2 :: j3 :: Z0), zt3 true true false fun v9 v10 _ w' => ∃ d0 p0 D0 J0, v9 = sO (some d0) 1 1 ∧ v10 = sO p0 (zi + 1) D0 ∧ (K1 d0) ∧ Sl EOt p0 (rowsOf (otA ws) (5 * (n1 + n2)) (zi + 1)) D0 J0 ∧ Hp No w₀ w' ((J1 d0) :: q2 :: (p0, sob EOt 121 (rowsOf (otA ws) (5 * (n1 + n2)) (zi + 1)) J0) :: Z0), zt3 true true true fun v9 v10 _ w' => ∃ d0 p0 D0 J0, v9 = sO (some d0) 1 1 ∧ v10 = sO p0 (zi + 1) D0 ∧ (K1 d0) ∧ Sl EOt p0 (rowsOf (otA ws) (5 * (n1 + n2)) (zi + 1)) D0 J0 ∧ Hp No w₀ w' ((J1 d0) :: (rC f0 #[sO kyta n1 ccta, sO kyba n2 ccba, sO p0 (zi + 1) D0] 114) :: (p0, sob EOt 121 (rowsOf (otA ws) (5 * (n1 + n2)) (zi + 1)) J0) :: Z0)]
      refine drawH (m := 15) [0, 1, 0, 4, 12, 28, 60, 124, 0, 256, 1020, 2047, 4095, 8191, 16383] [9, 10, 14] Z0 c5 mixed (fun _ e => Z4.ext e) (A_ (fun _ _ h => h.drop1.drop1) (A_ (fun _ _ ⟨_, _, _, h⟩ => h.drop1.drop1.drop1) (A_ (fun _ _ ⟨_, _, _, _, _, _, _, _, h⟩ => h.drop1.drop1.drop1) (A_ (fun _ _ ⟨_, _, _, _, _, _, _, _, h⟩ => h.drop1.drop1.drop1) trivial)))) (fun r2 => ?_)
      refine gk 9 ?_
      refine WalkT.eff r2 0 ?_ ?_
      ·refine A_ (fun r w0 uw hF hE => ?_) trivial
       have M7 := hF.ext hE
       exact gW fun Q' hK => (bS (E := EOt) (l := ([⟨ws.getD (5 * (n1 + n2) + 5 * zi) 0#64, ws.getD ((5 * (n1 + n2) + 5 * zi) + 1) 0#64, ws.getD ((5 * (n1 + n2) + 5 * zi) + 2) 0#64, ws.getD ((5 * (n1 + n2) + 5 * zi) + 3) 0#64, false⟩] : List Ot)) fun d5 N7 e5 f5 O7 => hK _ _ (E_ d5 (A_ rfl (A_ e5 f5))))
      refine WalkT.eff r2 1 ?_ ?_
      ·refine A_ (fun r w0 uw hF hE => ?_) trivial
       obtain ⟨d0, e9, o1, k3⟩ := hF
       replace k3 := k3.ext hE
       dsimp only
       rw [e9]
       refine gW fun Q' hK => ?_
       refine apq ?_
       refine ⟨by rw [rowsOf_len], by rfl, om, ?_⟩
       intro g5 h5 i5 P7 j5 Q7 k5
       have l5 : (rowsOf (otA ws) (5 * (n1 + n2)) zi) ++ ([⟨ws.getD (5 * (n1 + n2) + 5 * zi) 0#64, ws.getD ((5 * (n1 + n2) + 5 * zi) + 1) 0#64, ws.getD ((5 * (n1 + n2) + 5 * zi) + 2) 0#64, ws.getD ((5 * (n1 + n2) + 5 * zi) + 3) 0#64, false⟩] : List Ot) = rowsOf (otA ws) (5 * (n1 + n2)) (zi + 1) := by rw [rowsOf_succ]; rfl
       have l3 := j5
       have m3 := k5
       rw [l5] at l3 m3
       exact hK _ _ (E_ d0 (E_ g5 (E_ h5 (E_ i5 (A_ e9 (A_ rfl (A_ o1 (A_ l3 m3))))))))
      refine gk 3 ?_
      refine WalkT.eff r2 2 ?_ ?_
      ·refine A_ (fun r w0 uw hF hE => ?_) trivial
       obtain ⟨d0, p0, D0, J0, e9, Q0, o1, t2, o3⟩ := hF
       replace o3 := o3.ext hE
       dsimp only
       rw [Q0]
       refine gW0 fun Q' hK => ?_
       refine go 1 ?_
       intro R7 m5 S7
       exact hK _ (fun _ => (E_ d0 (E_ p0 (E_ D0 (E_ J0 (A_ e9 (A_ Q0 (A_ o1 (A_ t2 m5)))))))))
      refine WalkT.nil fun r w0 T7 hF hE => ?_
      obtain ⟨d0, p0, D0, J0, e9, Q0, o1, t2, L1⟩ := hF
      replace L1 := L1.ext hE
      dsimp only
      rw [e9, Q0]
      dsimp only [K1] at o1
      dsimp only [Z0, J1] at L1
      refine go 0 ?_
      have n5 := (L1.pk 15 [8, 13, 0, 1, 2, 3, 4, 5, 6, 7, 9, 10, 11, 12, 14])
      let c1 : List RW := (((some d0), sob EOt 121 ([⟨ws.getD (5 * (n1 + n2) + 5 * zi) 0#64, ws.getD ((5 * (n1 + n2) + 5 * zi) + 1) 0#64, ws.getD ((5 * (n1 + n2) + 5 * zi) + 2) 0#64, ws.getD ((5 * (n1 + n2) + 5 * zi) + 3) 0#64, false⟩] : List Ot) ([])) :: (rC f0 #[sO kyta n1 ccta, sO kyba n2 ccba, sO p0 (zi + 1) D0] 114) :: (p0, sob EOt 121 (rowsOf (otA ws) (5 * (n1 + n2)) (zi + 1)) J0) :: (rC I1 x1 121) :: (rX H1 E64 ([ws.getD (5 * (n1 + n2) + 5 * zi) 0#64, ws.getD ((5 * (n1 + n2) + 5 * zi) + 1) 0#64, ws.getD ((5 * (n1 + n2) + 5 * zi) + 2) 0#64, ws.getD ((5 * (n1 + n2) + 5 * zi) + 3) 0#64, ws.getD ((5 * (n1 + n2) + 5 * zi) + 4) 0#64]) 117) :: (rC b #[sO key ws.length c, .pointer none, iN ws.length, iN ((5 * (n1 + n2) + 5 * zi) + 5)] 96) :: u0 :: (rC m0 x5 38) :: x3 :: x8 :: x4 :: Y0 :: (rC b1 x2 38) :: R)
      let M1 := fun (k0 : Nat) => (((some k0), sob EOt 121 ([⟨ws.getD ((5 * (n1 + n2) + 5 * zi) + 2) 0#64, ws.getD ((5 * (n1 + n2) + 5 * zi) + 3) 0#64, 0#64, 0#64, true⟩] : List Ot) ([])) : RW)
      let p3 := (m1 : RW)
      let u2 := ((rC h0 x9 114) : RW)
      let N1 := fun (k0 : Nat) => (Sl EOt (some k0) ([⟨ws.getD ((5 * (n1 + n2) + 5 * zi) + 2) 0#64, ws.getD ((5 * (n1 + n2) + 5 * zi) + 3) 0#64, 0#64, 0#64, true⟩] : List Ot) 1 ([]) : Prop)
      let o5 : Tab := [zt3 false false false fun _ _ _ w' => Hp No w₀ w' (u2 :: p3 :: c1), zt3 true false false fun v16 _ _ w' => ∃ k0, v16 = sO (some k0) 1 1 ∧ (N1 k0) ∧ Hp No w₀ w' ((M1 k0) :: u2 :: p3 :: c1), zt3 true true false fun v16 v17 _ w' => ∃ k0 z0 K0 R0, v16 = sO (some k0) 1 1 ∧ v17 = sO z0 (zi + 1) K0 ∧ (N1 k0) ∧ Sl EOt z0 (rowsOf (otB ws) (5 * (n1 + n2)) (zi + 1)) K0 R0 ∧ Hp No w₀ w' ((M1 k0) :: u2 :: (z0, sob EOt 121 (rowsOf (otB ws) (5 * (n1 + n2)) (zi + 1)) R0) :: c1), zt3 true true true fun v16 v17 _ w' => ∃ k0 z0 K0 R0, v16 = sO (some k0) 1 1 ∧ v17 = sO z0 (zi + 1) K0 ∧ (N1 k0) ∧ Sl EOt z0 (rowsOf (otB ws) (5 * (n1 + n2)) (zi + 1)) K0 R0 ∧ Hp No w₀ w' ((M1 k0) :: (rC h0 #[sO kytb n1 cctb, sO kybb n2 ccbb, sO z0 (zi + 1) K0] 114) :: (z0, sob EOt 121 (rowsOf (otB ws) (5 * (n1 + n2)) (zi + 1)) R0) :: c1)]
      refine drawH (m := 22) [0, 1, 0, 4, 12, 28, 60, 124, 0, 0, 768, 1792, 3840, 0, 8192, 32512, 65280, 131068, 262143, 524287, 1048575, 2097151] [16, 17, 21] c1 o5 mixed (fun _ e => n5.ext e) (A_ (fun _ _ h => h.drop1.drop1) (A_ (fun _ _ ⟨_, _, _, h⟩ => h.drop1.drop1.drop1) (A_ (fun _ _ ⟨_, _, _, _, _, _, _, _, h⟩ => h.drop1.drop1.drop1) (A_ (fun _ _ ⟨_, _, _, _, _, _, _, _, h⟩ => h.drop1.drop1.drop1) trivial)))) (fun y2 => ?_)
      refine gk 11 ?_
      refine lkH (.agg (cel E64 [ws.getD ((5 * (n1 + n2) + 5 * zi) + 2) 0#64, ws.getD ((5 * (n1 + n2) + 5 * zi) + 3) 0#64]).toArray) (fun _ uw hcx => r_loadA (cs' := (cel E64 [ws.getD ((5 * (n1 + n2) + 5 * zi) + 2) 0#64, ws.getD ((5 * (n1 + n2) + 5 * zi) + 3) 0#64]).toArray) agg83 siz83 (hcx.get (k := 3) rfl) (off := 2) rfl (by exact bLe rfl) (by rfl)) ?_
      refine gk 2 ?_
      refine lkH (.bool true) (fun _ uw hcx => (r_eql64 (a := 1#64) (b := 1#64) rfl rfl).as (v' := .bool true) (by rfl)) ?_
      refine gk 1 ?_
      refine WalkT.eff y2 0 ?_ ?_
      ·refine A_ (fun r w0 uw hF hE => ?_) trivial
       have U7 := hF.ext hE
       exact gW fun Q' hK => (bS (E := EOt) (l := ([⟨ws.getD ((5 * (n1 + n2) + 5 * zi) + 2) 0#64, ws.getD ((5 * (n1 + n2) + 5 * zi) + 3) 0#64, 0#64, 0#64, true⟩] : List Ot)) fun p5 V7 q5 r5 W7 => hK _ _ (E_ p5 (A_ rfl (A_ q5 r5))))
      refine WalkT.eff y2 1 ?_ ?_
      ·refine A_ (fun r w0 uw hF hE => ?_) trivial
       obtain ⟨k0, a0, p1, q3⟩ := hF
       replace q3 := q3.ext hE
       dsimp only
       rw [a0]
       refine gW fun Q' hK => ?_
       refine apq ?_
       refine ⟨by rw [rowsOf_len], by rfl, om, ?_⟩
       intro s5 t5 u5 X7 w5 Y7 y5
       have z5 : (rowsOf (otB ws) (5 * (n1 + n2)) zi) ++ ([⟨ws.getD ((5 * (n1 + n2) + 5 * zi) + 2) 0#64, ws.getD ((5 * (n1 + n2) + 5 * zi) + 3) 0#64, 0#64, 0#64, true⟩] : List Ot) = rowsOf (otB ws) (5 * (n1 + n2)) (zi + 1) := by rw [rowsOf_succ, otB_t hodd]; rfl
       have r3 := w5
       have s3 := y5
       rw [z5] at r3 s3
       exact hK _ _ (E_ k0 (E_ s5 (E_ t5 (E_ u5 (A_ a0 (A_ rfl (A_ p1 (A_ r3 s3))))))))
      refine gk 3 ?_
      refine WalkT.eff y2 2 ?_ ?_
      ·refine A_ (fun r w0 uw hF hE => ?_) trivial
       obtain ⟨k0, z0, K0, R0, a0, S0, p1, z2, t3⟩ := hF
       replace t3 := t3.ext hE
       dsimp only
       rw [S0]
       refine gW0 fun Q' hK => ?_
       refine go 1 ?_
       intro Z7 A5 c8
       exact hK _ (fun _ => (E_ k0 (E_ z0 (E_ K0 (E_ R0 (A_ a0 (A_ S0 (A_ p1 (A_ z2 A5)))))))))
      refine WalkT.nil fun r w0 d8 hF hE => ?_
      obtain ⟨k0, z0, K0, R0, a0, S0, p1, z2, q1⟩ := hF
      replace q1 := q1.ext hE
      dsimp only
      rw [a0, S0]
      dsimp only [N1] at p1
      dsimp only [c1, M1] at q1
      refine wnil ?_
      refine go 2 ?_
      rw [show (5 * (n1 + n2) + 5 * zi) + 5 = 5 * (n1 + n2) + 5 * (zi + 1) by omega] at q1
      exact ⟨(zi + 1, p0, D0, J0, z0, K0, R0), _, rfl, kp, ⟨⟨om, t2, z2⟩, (q1.pk 16 [10, 4, 1, 11, 12, 13, 14, 5, 2, 15, 8, 9])⟩, vd⟩
     ·refine go 0 ?_
      have hodd0 := (odd_and _).resolve_right hodd
      refine go 2 ?_
      refine sq ((r_and64 (a := ws.getD ((5 * (n1 + n2) + 5 * zi) + 4) 0#64) (b := 1#64) rfl rfl).as (v' := u64 0#64) (by exact congrArg u64 hodd0)) ?_
      refine go 1 ?_
      have B5 := (i3.pk 14 [5, 11, 0, 1, 2, 3, 4, 6, 7, 8, 9, 10, 12, 13])
      let d1 : List RW := ((rC I1 x1 121) :: (rX H1 E64 ([ws.getD (5 * (n1 + n2) + 5 * zi) 0#64, ws.getD ((5 * (n1 + n2) + 5 * zi) + 1) 0#64, ws.getD ((5 * (n1 + n2) + 5 * zi) + 2) 0#64, ws.getD ((5 * (n1 + n2) + 5 * zi) + 3) 0#64, ws.getD ((5 * (n1 + n2) + 5 * zi) + 4) 0#64]) 117) :: (rC b #[sO key ws.length c, .pointer none, iN ws.length, iN ((5 * (n1 + n2) + 5 * zi) + 5)] 96) :: u0 :: (rC m0 x5 38) :: (rC h0 x9 114) :: x3 :: x8 :: x4 :: Y0 :: m1 :: (rC b1 x2 38) :: R)
      let O1 := fun (e0 : Nat) => (((some e0), sob EOt 121 ([⟨ws.getD (5 * (n1 + n2) + 5 * zi) 0#64, ws.getD ((5 * (n1 + n2) + 5 * zi) + 1) 0#64, ws.getD ((5 * (n1 + n2) + 5 * zi) + 2) 0#64, ws.getD ((5 * (n1 + n2) + 5 * zi) + 3) 0#64, false⟩] : List Ot) ([])) : RW)
      let u3 := (o2 : RW)
      let A2 := ((rC f0 p2 114) : RW)
      let P1 := fun (e0 : Nat) => (Sl EOt (some e0) ([⟨ws.getD (5 * (n1 + n2) + 5 * zi) 0#64, ws.getD ((5 * (n1 + n2) + 5 * zi) + 1) 0#64, ws.getD ((5 * (n1 + n2) + 5 * zi) + 2) 0#64, ws.getD ((5 * (n1 + n2) + 5 * zi) + 3) 0#64, false⟩] : List Ot) 1 ([]) : Prop)
      let C5 : Tab := [zt3 false false false fun _ _ _ w' => Hp No w₀ w' (A2 :: u3 :: d1), zt3 true false false fun v9 _ _ w' => ∃ e0, v9 = sO (some e0) 1 1 ∧ (P1 e0) ∧ Hp No w₀ w' ((O1 e0) :: A2 :: u3 :: d1), zt3 true true false fun v9 v10 _ w' => ∃ e0 q0 E0 L0, v9 = sO (some e0) 1 1 ∧ v10 = sO q0 (zi + 1) E0 ∧ (P1 e0) ∧ Sl EOt q0 (rowsOf (otA ws) (5 * (n1 + n2)) (zi + 1)) E0 L0 ∧ Hp No w₀ w' ((O1 e0) :: A2 :: (q0, sob EOt 121 (rowsOf (otA ws) (5 * (n1 + n2)) (zi + 1)) L0) :: d1), zt3 true true true fun v9 v10 _ w' => ∃ e0 q0 E0 L0, v9 = sO (some e0) 1 1 ∧ v10 = sO q0 (zi + 1) E0 ∧ (P1 e0) ∧ Sl EOt q0 (rowsOf (otA ws) (5 * (n1 + n2)) (zi + 1)) E0 L0 ∧ Hp No w₀ w' ((O1 e0) :: (rC f0 #[sO kyta n1 ccta, sO kyba n2 ccba, sO q0 (zi + 1) E0] 114) :: (q0, sob EOt 121 (rowsOf (otA ws) (5 * (n1 + n2)) (zi + 1)) L0) :: d1)]
      refine drawH (m := 15) [0, 1, 0, 4, 12, 28, 60, 124, 0, 256, 1020, 2047, 4095, 8191, 16383] [9, 10, 14] d1 C5 mixed (fun _ e => B5.ext e) (A_ (fun _ _ h => h.drop1.drop1) (A_ (fun _ _ ⟨_, _, _, h⟩ => h.drop1.drop1.drop1) (A_ (fun _ _ ⟨_, _, _, _, _, _, _, _, h⟩ => h.drop1.drop1.drop1) (A_ (fun _ _ ⟨_, _, _, _, _, _, _, _, h⟩ => h.drop1.drop1.drop1) trivial)))) (fun B2 => ?_)
      refine gk 9 ?_
      refine WalkT.eff B2 0 ?_ ?_
      ·refine A_ (fun r w0 uw hF hE => ?_) trivial
       have e8 := hF.ext hE
       exact gW fun Q' hK => (bS (E := EOt) (l := ([⟨ws.getD (5 * (n1 + n2) + 5 * zi) 0#64, ws.getD ((5 * (n1 + n2) + 5 * zi) + 1) 0#64, ws.getD ((5 * (n1 + n2) + 5 * zi) + 2) 0#64, ws.getD ((5 * (n1 + n2) + 5 * zi) + 3) 0#64, false⟩] : List Ot)) fun D5 f8 E5 F5 g8 => hK _ _ (E_ D5 (A_ rfl (A_ E5 F5))))
      refine WalkT.eff B2 1 ?_ ?_
      ·refine A_ (fun r w0 uw hF hE => ?_) trivial
       obtain ⟨e0, e9, r1, w3⟩ := hF
       replace w3 := w3.ext hE
       dsimp only
       rw [e9]
       refine gW fun Q' hK => ?_
       refine apq ?_
       refine ⟨by rw [rowsOf_len], by rfl, om, ?_⟩
       intro G5 H5 I5 h8 J5 j8 K5
       have L5 : (rowsOf (otA ws) (5 * (n1 + n2)) zi) ++ ([⟨ws.getD (5 * (n1 + n2) + 5 * zi) 0#64, ws.getD ((5 * (n1 + n2) + 5 * zi) + 1) 0#64, ws.getD ((5 * (n1 + n2) + 5 * zi) + 2) 0#64, ws.getD ((5 * (n1 + n2) + 5 * zi) + 3) 0#64, false⟩] : List Ot) = rowsOf (otA ws) (5 * (n1 + n2)) (zi + 1) := by rw [rowsOf_succ]; rfl
       have y3 := J5
       have z3 := K5
       rw [L5] at y3 z3
       exact hK _ _ (E_ e0 (E_ G5 (E_ H5 (E_ I5 (A_ e9 (A_ rfl (A_ r1 (A_ y3 z3))))))))
      refine gk 3 ?_
      refine WalkT.eff B2 2 ?_ ?_
      ·refine A_ (fun r w0 uw hF hE => ?_) trivial
       obtain ⟨e0, q0, E0, L0, e9, Q0, r1, C2, A3⟩ := hF
       replace A3 := A3.ext hE
       dsimp only
       rw [Q0]
       refine gW0 fun Q' hK => ?_
       refine go 1 ?_
       intro k8 M5 l8
       exact hK _ (fun _ => (E_ e0 (E_ q0 (E_ E0 (E_ L0 (A_ e9 (A_ Q0 (A_ r1 (A_ C2 M5)))))))))
      refine WalkT.nil fun r w0 m8 hF hE => ?_
      obtain ⟨e0, q0, E0, L0, e9, Q0, r1, C2, Q1⟩ := hF
      replace Q1 := Q1.ext hE
      dsimp only
      rw [e9, Q0]
      dsimp only [P1] at r1
      dsimp only [d1, O1] at Q1
      refine go 0 ?_
      have N5 := (Q1.pk 15 [8, 13, 0, 1, 2, 3, 4, 5, 6, 7, 9, 10, 11, 12, 14])
      let e1 : List RW := (((some e0), sob EOt 121 ([⟨ws.getD (5 * (n1 + n2) + 5 * zi) 0#64, ws.getD ((5 * (n1 + n2) + 5 * zi) + 1) 0#64, ws.getD ((5 * (n1 + n2) + 5 * zi) + 2) 0#64, ws.getD ((5 * (n1 + n2) + 5 * zi) + 3) 0#64, false⟩] : List Ot) ([])) :: (rC f0 #[sO kyta n1 ccta, sO kyba n2 ccba, sO q0 (zi + 1) E0] 114) :: (q0, sob EOt 121 (rowsOf (otA ws) (5 * (n1 + n2)) (zi + 1)) L0) :: (rC I1 x1 121) :: (rX H1 E64 ([ws.getD (5 * (n1 + n2) + 5 * zi) 0#64, ws.getD ((5 * (n1 + n2) + 5 * zi) + 1) 0#64, ws.getD ((5 * (n1 + n2) + 5 * zi) + 2) 0#64, ws.getD ((5 * (n1 + n2) + 5 * zi) + 3) 0#64, ws.getD ((5 * (n1 + n2) + 5 * zi) + 4) 0#64]) 117) :: (rC b #[sO key ws.length c, .pointer none, iN ws.length, iN ((5 * (n1 + n2) + 5 * zi) + 5)] 96) :: u0 :: (rC m0 x5 38) :: x3 :: x8 :: x4 :: Y0 :: (rC b1 x2 38) :: R)
      let R1 := fun (l0 : Nat) => (((some l0), sob EOt 121 ([⟨ws.getD (5 * (n1 + n2) + 5 * zi) 0#64, ws.getD ((5 * (n1 + n2) + 5 * zi) + 1) 0#64, 0#64, 0#64, false⟩] : List Ot) ([])) : RW)
      let B3 := (m1 : RW)
      let D2 := ((rC h0 x9 114) : RW)
      let S1 := fun (l0 : Nat) => (Sl EOt (some l0) ([⟨ws.getD (5 * (n1 + n2) + 5 * zi) 0#64, ws.getD ((5 * (n1 + n2) + 5 * zi) + 1) 0#64, 0#64, 0#64, false⟩] : List Ot) 1 ([]) : Prop)
      let O5 : Tab := [zt3 false false false fun _ _ _ w' => Hp No w₀ w' (D2 :: B3 :: e1), zt3 true false false fun v16 _ _ w' => ∃ l0, v16 = sO (some l0) 1 1 ∧ (S1 l0) ∧ Hp No w₀ w' ((R1 l0) :: D2 :: B3 :: e1), zt3 true true false fun v16 v17 _ w' => ∃ l0 A0 M0 T0, v16 = sO (some l0) 1 1 ∧ v17 = sO A0 (zi + 1) M0 ∧ (S1 l0) ∧ Sl EOt A0 (rowsOf (otB ws) (5 * (n1 + n2)) (zi + 1)) M0 T0 ∧ Hp No w₀ w' ((R1 l0) :: D2 :: (A0, sob EOt 121 (rowsOf (otB ws) (5 * (n1 + n2)) (zi + 1)) T0) :: e1), zt3 true true true fun v16 v17 _ w' => ∃ l0 A0 M0 T0, v16 = sO (some l0) 1 1 ∧ v17 = sO A0 (zi + 1) M0 ∧ (S1 l0) ∧ Sl EOt A0 (rowsOf (otB ws) (5 * (n1 + n2)) (zi + 1)) M0 T0 ∧ Hp No w₀ w' ((R1 l0) :: (rC h0 #[sO kytb n1 cctb, sO kybb n2 ccbb, sO A0 (zi + 1) M0] 114) :: (A0, sob EOt 121 (rowsOf (otB ws) (5 * (n1 + n2)) (zi + 1)) T0) :: e1)]
      refine drawH (m := 22) [0, 1, 0, 4, 12, 28, 60, 124, 0, 0, 768, 1792, 3840, 0, 8192, 32512, 65280, 131068, 262143, 524287, 1048575, 2097151] [16, 17, 21] e1 O5 mixed (fun _ e => N5.ext e) (A_ (fun _ _ h => h.drop1.drop1) (A_ (fun _ _ ⟨_, _, _, h⟩ => h.drop1.drop1.drop1) (A_ (fun _ _ ⟨_, _, _, _, _, _, _, _, h⟩ => h.drop1.drop1.drop1) (A_ (fun _ _ ⟨_, _, _, _, _, _, _, _, h⟩ => h.drop1.drop1.drop1) trivial)))) (fun E2 => ?_)
      refine gk 11 ?_
      refine lkH (.agg (cel E64 [ws.getD (5 * (n1 + n2) + 5 * zi) 0#64, ws.getD ((5 * (n1 + n2) + 5 * zi) + 1) 0#64]).toArray) (fun _ uw hcx => r_loadA (cs' := (cel E64 [ws.getD (5 * (n1 + n2) + 5 * zi) 0#64, ws.getD ((5 * (n1 + n2) + 5 * zi) + 1) 0#64]).toArray) agg83 siz83 (hcx.get (k := 3) rfl) (off := 0) rfl (by exact bLe rfl) (by rfl)) ?_
      refine gk 2 ?_
      refine lkH (.bool false) (fun _ uw hcx => (r_eql64 (a := 0#64) (b := 1#64) rfl rfl).as (v' := .bool false) (by rfl)) ?_
      refine gk 1 ?_
      refine WalkT.eff E2 0 ?_ ?_
      ·refine A_ (fun r w0 uw hF hE => ?_) trivial
       have n8 := hF.ext hE
       exact gW fun Q' hK => (bS (E := EOt) (l := ([⟨ws.getD (5 * (n1 + n2) + 5 * zi) 0#64, ws.getD ((5 * (n1 + n2) + 5 * zi) + 1) 0#64, 0#64, 0#64, false⟩] : List Ot)) fun P5 o8 Q5 R5 p8 => hK _ _ (E_ P5 (A_ rfl (A_ Q5 R5))))
      refine WalkT.eff E2 1 ?_ ?_
      ·refine A_ (fun r w0 uw hF hE => ?_) trivial
       obtain ⟨l0, a0, t1, C3⟩ := hF
       replace C3 := C3.ext hE
       dsimp only
       rw [a0]
       refine gW fun Q' hK => ?_
       refine apq ?_
       refine ⟨by rw [rowsOf_len], by rfl, om, ?_⟩
       intro S5 T5 U5 q8 V5 r8 W5
       have X5 : (rowsOf (otB ws) (5 * (n1 + n2)) zi) ++ ([⟨ws.getD (5 * (n1 + n2) + 5 * zi) 0#64, ws.getD ((5 * (n1 + n2) + 5 * zi) + 1) 0#64, 0#64, 0#64, false⟩] : List Ot) = rowsOf (otB ws) (5 * (n1 + n2)) (zi + 1) := by rw [rowsOf_succ, otB_f hodd]; rfl
       have D3 := V5
       have E3 := W5
       rw [X5] at D3 E3
       exact hK _ _ (E_ l0 (E_ S5 (E_ T5 (E_ U5 (A_ a0 (A_ rfl (A_ t1 (A_ D3 E3))))))))
      refine gk 3 ?_
      refine WalkT.eff E2 2 ?_ ?_
      ·refine A_ (fun r w0 uw hF hE => ?_) trivial
       obtain ⟨l0, A0, M0, T0, a0, S0, t1, F2, F3⟩ := hF
       replace F3 := F3.ext hE
       dsimp only
       rw [S0]
       refine gW0 fun Q' hK => ?_
       refine go 1 ?_
       intro s8 Y5 t8
       exact hK _ (fun _ => (E_ l0 (E_ A0 (E_ M0 (E_ T0 (A_ a0 (A_ S0 (A_ t1 (A_ F2 Y5)))))))))
      refine WalkT.nil fun r w0 w8 hF hE => ?_
      obtain ⟨l0, A0, M0, T0, a0, S0, t1, F2, u1⟩ := hF
      replace u1 := u1.ext hE
      dsimp only
      rw [a0, S0]
      dsimp only [S1] at t1
      dsimp only [e1, R1] at u1
      refine go 2 ?_
      rw [show (5 * (n1 + n2) + 5 * zi) + 5 = 5 * (n1 + n2) + 5 * (zi + 1) by omega] at u1
      exact ⟨(zi + 1, q0, E0, L0, A0, M0, T0), _, rfl, kp, ⟨⟨om, C2, F2⟩, (u1.pk 16 [10, 4, 1, 11, 12, 13, 14, 5, 2, 15, 8, 9])⟩, vd⟩
    ·obtain rfl : n3 = zi := by omega
     refine go 0 ?_
     refine sq (r_loadA (cs' := x5) agg38 siz38 (h3.get (k := 0) rfl) (off := 0) rfl (by exact bLe rfl) (by rfl)) ?_
     refine go 1 ?_
     intro y8 Z5 z8
     refine go 1 ?_
     refine ⟨_, rfl, f0, h0, ⟨cpOf kyta ccta zzta (rowsOf (trA ws) 0 n1), cpOf kyba ccba zzba (rowsOf (trA ws) (5 * n1) n2), cpOf kyoa ccoa zzoa (rowsOf (otA ws) (5 * (n1 + n2)) n3)⟩, ⟨cpOf kytb cctb zztb (rowsOf (trB ws) 0 n1), cpOf kybb ccbb zzbb (rowsOf (biB ws) (5 * n1) n2), cpOf kyob ccob zzob (rowsOf (otB ws) (5 * (n1 + n2)) n3)⟩, rfl, ⟨cpOf_ok hkyta, cpOf_ok hkyba, cpOf_ok hkyoa⟩, ⟨cpOf_ok hkytb, cpOf_ok hkybb, cpOf_ok hkyob⟩, ⟨rfl, rfl, rfl, rfl, rfl, rfl⟩, ?_⟩
     unfold skR Sk.ob cpOf
     dsimp only
     simp only [rowsOf_len]
     exact (Z5.pk 12 [1, 3, 5, 7, 2, 4, 6, 8, 10, 11])
end Go.Proofs.YtohngnahcgbfmaaGreatDoor.Co
namespace Go.Proofs.YtohngnahcgbfmaaGreatDoor.Mi
open Go Vc Er Ek Circ
theorem agg83 : isAgg' Tryz.prog 83 = true := by kernel_rfl
theorem byt91 : byt Tryz.prog 91 = some 80 := by kernel_rfl
theorem fld91_0 : fld Tryz.prog 91 0 = some (0, 1, 34) := by kernel_rfl
theorem siz66 : siz Tryz.prog 66 = some 3 := by kernel_rfl
theorem siz83 : siz Tryz.prog 83 = some 2 := by kernel_rfl
theorem sli80 : sli Tryz.prog 80 = some (91, 6) := by kernel_rfl
theorem zer83 : zer Tryz.prog 83 = some (.agg (List.replicate 2 (.int .u64 0)).toArray) := by kernel_rfl
theorem zer91 : zer Tryz.prog 91 = some (.agg #[.int .u64 0, .int .u64 0, .int .u64 0, .int .u64 0, sN0, sN0]) := by kernel_rfl
end Go.Proofs.YtohngnahcgbfmaaGreatDoor.Mi
namespace Go.Proofs.YtohngnahcgbfmaaGreatDoor.Mi
open Go Vc Er Ek Circ
theorem arr24 : arr Tryz.prog 24 = some (2, 1) := by kernel_rfl
theorem arr87 : arr Tryz.prog 87 = some (2, 1) := by kernel_rfl
theorem arr92 : arr Tryz.prog 92 = some (2, 6) := by kernel_rfl
theorem one23 : isOne Tryz.prog 23 = true := by kernel_rfl
end Go.Proofs.YtohngnahcgbfmaaGreatDoor.Mi
namespace Go.Proofs.YtohngnahcgbfmaaGreatDoor.Mi
open Go Vc Er Ek Circ
theorem arr83 : arr Tryz.prog 83 = some (2, 1) := by kernel_rfl
theorem call28 : callable Tryz.prog 28 = true := by kernel_rfl
theorem rxor_ok (a b c d : BitVec 64) (w : World) : Calls Tryz.prog 28 [.agg (cel E64 [a, b]).toArray, .agg (cel E64 [c, d]).toArray].toArray w (Ret fun v w' => v = .agg (cel E64 [(a ^^^ c), (b ^^^ d)]).toArray ∧ Ext w w') := by
 have H := Hp.start No w
 refine enter (n := 16) Tryz.func28 rfl rfl (bLe rfl) ?_
 refine go 1 ?_
 intro b1 w2 b0 H3 c0
 refine go 1 ?_
 intro b5 w6 d0 H7 e0
 refine go 1 ?_
 intro b9 f0 h0 i0 j0
 refine go 12 ?_
 intro k0 a0 l0
 refine go 0 ?_
 exact ⟨_, rfl, rfl, a0.chg⟩
end Go.Proofs.YtohngnahcgbfmaaGreatDoor.Mi
namespace Go.Proofs.YtohngnahcgbfmaaGreatDoor.Mi
open Go Vc Er Ek Circ
open Co Cm
theorem agg38 : isAgg' Tryz.prog 38 = true := by kernel_rfl
theorem call13 : callable Tryz.prog 13 = true := by kernel_rfl
theorem gty29 : Tryz.prog.eqGuardType Tryz.prog.depth 29 = false := by kernel_rfl
theorem siz38 : siz Tryz.prog 38 = some 2 := by kernel_rfl
theorem und3 : Tryz.prog.underlying 3 = some (.int .i64) := by kernel_rfl
end Go.Proofs.YtohngnahcgbfmaaGreatDoor.Mi
namespace Go.Proofs.YtohngnahcgbfmaaGreatDoor.Mi
open Go Vc Er Ek Circ
open Co Cm
theorem light_ok (ops : List Mo) (oa : Option Addr) (oc : Nat) (w : World) (hG : Gl w) (hO : Rd EMo w oa ops) (hol : ops.length ≤ 140737488355328) : Calls Tryz.prog 7 [.slice oa ops.length oc].toArray w (Ret fun v w' => v = .bool ((decide (((ops.length : Nat) : Int) ≤ (400 : Int)) && decide (((cntS fG ops ops.length : Nat) : Int) ≤ (3 : Int)))) ∧ Ext w w') := by
 have H := Hp.start No w
 refine enter (n := 26) Tryz.func7 rfl rfl (bLe rfl) ?_
 refine go 5 ?_
 refine loopAny (σ := Nat) (fun i => [(0, .slice oa ops.length oc), (3, iN (cntS fG ops i)), (6, iN ops.length), (7, iN i)]) (fun i w' => i ≤ ops.length ∧ Hp No w w' []) (fun i => ops.length - i) (0) ?_ ?_ ?_
 ·exact kp
 ·exact ⟨Nat.zero_le _, H⟩
 rintro i ρ w1 ⟨hk, H2⟩
 have hct := cnt_bound (f := fG) (c := 1) (fun o => by unfold fG; split <;> omega) ops i
 refine go 1 ?_
 refine condProp (((i : Nat) : Int) < (ops.length : Nat)) rfl (fun c8 => ?_) (fun c8 => ?_)
 ·refine go 6 ?_
  refine sq (r_ldP (E := EMo) (l := ops) (j := i) (o := 0) (v := (ops.getD i mo0)) (u := i64 ((ops.getD i mo0).kd)) one33 (hO.ext H2.chg) (at_getD om) rfl rfl rfl) ?_
  refine go 1 ?_
  refine condProp (((ops.getD i mo0).kd : Int) = (17 : Int)) rfl (fun a0 => ?_) (fun a0 => ?_)
  ·refine go 5 ?_
   exact ⟨i + 1, _, rfl, ⟨rfl, congrArg i64 (by rw [cntS, fG, if_pos a0] <;> omega), rfl, rfl, trivial⟩, ⟨om, H2⟩, vd⟩
  ·refine go 2 ?_
   exact ⟨i + 1, _, rfl, ⟨rfl, congrArg i64 (by rw [cntS, fG, if_neg a0] <;> omega), rfl, rfl, trivial⟩, ⟨om, H2⟩, vd⟩
 ·have hie : i = ops.length := by omega
  subst hie
  refine go 4 ?_
  refine sqGv (B := (decide (((ops.length : Nat) : Int) ≤ (400 : Int)))) (v := iN (cntS fG ops ops.length)) (wantedG (d' := 22) (B := true) rfl rfl rfl) (fun hB => r_move (v := iN (cntS fG ops ops.length)) rfl) (sqGv (B := (decide (((ops.length : Nat) : Int) ≤ (400 : Int)))) (v := .bool (decide ((((cntS fG ops ops.length) : Nat) : Int) ≤ (3 : Int)))) (wantedG (d' := 22) (B := true) rfl rfl rfl) (fun hB => by simp only [gvT (v := _) (h := hB)]; exact r_leqI rfl rfl) (sq (r_pickAnd (B := true) rfl rfl rfl rfl) ?_))
  refine go 1 ?_
  exact ⟨_, rfl, rfl, H2.chg⟩
end Go.Proofs.YtohngnahcgbfmaaGreatDoor.Mi
namespace Go.Proofs.YtohngnahcgbfmaaGreatDoor.Cm
open Go Vc Er Circ
theorem rput_ok (n : Nat) (key : Option Nat) (c : Nat) (sp : LV) (gs : List Gt) (hSw : Sl EG key gs c sp) (hn : n ≤ 1000) (hlen : gs.length ≤ 4000) (oa : Option Addr) (on oc : Nat) (kd xa xb : Int) (R : List RW) (w₀ w : World) (H : Hp No w₀ w ((key, sob EG 210 gs sp) :: R)) : Calls Tryz.prog 83 [.agg #[iN n, sO key (List.length gs) c, .slice oa on oc], i64 kd, i64 xa, i64 xb].toArray w (Ret fun v w' => ∃ (wx : Int) (key' : Option Nat) (c' : Nat) (sp' : LV), wx = wrW n gs ∧ v = .tuple #[.agg #[iN n, sO key' (List.length (gs ++ [(⟨kd, xa, xb⟩ : Gt)])) c', .slice oa on oc], i64 wx] ∧ Sl EG key' (gs ++ [(⟨kd, xa, xb⟩ : Gt)]) c' sp' ∧ Hp No w₀ w' ((key', sob EG 210 (gs ++ [(⟨kd, xa, xb⟩ : Gt)]) sp') :: R)) := by
 skip
 refine enter (n := 27) Tryz.func83 rfl rfl (bLe rfl) ?_
 refine go 1 ?_
 intro b1 w2 q0 H3 r0
 refine go 1 ?_
 intro b5 w6 s0 H7 u0
 refine go 7 ?_
 refine bS (E := EG) (l := ([⟨kd, xa, xb⟩] : List Gt)) fun b9 x0 y0 z0 A0 => ?_
 refine go 1 ?_
 intro a0 c0 d0 B0 h0 C0 i0
 have j0 : gs ++ ([⟨kd, xa, xb⟩] : List Gt) = gs ++ [(⟨kd, xa, xb⟩ : Gt)] := by rfl
 have e0 := h0
 have k0 := i0
 rw [j0] at e0 k0
 refine go 2 ?_
 intro D0 l0 E0
 refine go 0 ?_
 have m0 := (l0.pk 4 [1, 0, 2, 3])
 let b0 : List RW := (((some b9), sob EG 210 ([⟨kd, xa, xb⟩] : List Gt) ([])) :: (rC b1 #[iN n, sO a0 ((List.length gs) + 1) c0, .slice oa on oc] 175) :: (a0, sob EG 210 (gs ++ [(⟨kd, xa, xb⟩ : Gt)]) d0) :: R)
 let n0 : Tab := [zt1 false fun _ w' => Hp No w₀ w' ((rC b5 #[i64 0, sN0, sN0] 175) :: b0), zt1 true fun _ w' => Hp No w₀ w' ((rC b5 #[iN n, sO a0 ((List.length gs) + 1) c0, .slice oa on oc] 175) :: b0)]
 refine drawH (m := 10) [0, 0, 2, 0, 8, 24, 62, 126, 1, 511] [8] b0 n0 mixed (fun _ e => m0.ext e) (A_ (fun _ _ h => h.drop1) (A_ (fun _ _ h => h.drop1) trivial)) (fun o0 => ?_)
 refine gk 7 ?_
 refine lkH (i64 (wrW n gs)) (fun _ uw hcx => (r_subI rfl rfl om).as (v' := i64 (wrW n gs)) (by exact congrArg i64 (by unfold wrW; omega))) (WalkT.eff o0 0 ?_ ?_)
 ·refine A_ (fun r w0 uw hF hE => ?_) trivial
  have F0 := hF.ext hE
  refine gW0 fun Q' hK => ?_
  refine go 1 ?_
  intro G0 p0 H0
  exact hK _ (fun _ => p0)
 refine gk 1 ?_
 refine WalkT.nil fun r w0 I0 hF hE => ?_
 have f0 := hF.ext hE
 dsimp only
 dsimp only [b0] at f0
 refine go 0 ?_
 refine ⟨_, rfl, _, a0, c0, d0, rfl, ?_, e0, (((f0.dropk 2).dropk 1).dropk 0)⟩
 rw [List.length_append]
 rfl
theorem rcarry_ok (n : Nat) (key : Option Nat) (c : Nat) (sp : LV) (gs : List Gt) (hSw : Sl EG key gs c sp) (hn : n ≤ 1000) (hlen : gs.length ≤ 3900) (oa : Option Addr) (on oc : Nat) (xa xb xc : Int) (R : List RW) (w₀ w : World) (H : Hp No w₀ w ((key, sob EG 210 gs sp) :: R)) : Calls Tryz.prog 97 [.agg #[iN n, sO key (List.length gs) c, .slice oa on oc], i64 xa, i64 xb, i64 xc].toArray w (Ret fun v w' => ∃ (wx : Int) (key' : Option Nat) (c' : Nat) (sp' : LV), wx = caW n gs ∧ v = .tuple #[.agg #[iN n, sO key' (List.length (caG n gs xa xb xc)) c', .slice oa on oc], i64 wx] ∧ Sl EG key' (caG n gs xa xb xc) c' sp' ∧ Hp No w₀ w' ((key', sob EG 210 (caG n gs xa xb xc) sp') :: R)) := by
 let x1 : Array Value := #[i64 0, sN0, sN0]
 skip
 refine enter (n := 40) Tryz.func97 rfl rfl (bLe rfl) ?_
 refine go 1 ?_
 intro b1 w2 S0 H3 T0
 refine go 1 ?_
 intro b5 w6 U0 H7 V0
 refine go 4 ?_
 have H9 := ((H7.pk 3 [2, 0, 1])).b1 rfl
 refine cl (rput_ok n key c sp gs hSw hn om oa on oc (1 : Int) xa xc ((rC b5 x1 175) :: (rC b1 #[iN n, sO key (List.length gs) c, .slice oa on oc] 175) :: R) w₀ w6 H9) ?_
 rintro _ W0 ⟨a0, e0, f0, o0, p0, rfl, q0, r0⟩
 have X0 := r0.b3 rfl
 refine go 4 ?_
 intro s0 u0 Y0
 refine go 4 ?_
 have w0 := u0.as (L' := (_ :: ((rC b5 x1 175) :: (rC b1 #[iN n, sO e0 (List.length (gs ++ [(⟨(1 : Int), xa, xc⟩ : Gt)])) f0, .slice oa on oc] 175) :: R))) rfl
 refine cl (rput_ok n e0 f0 o0 (gs ++ [(⟨(1 : Int), xa, xc⟩ : Gt)]) q0 hn (by simp only [List.length_append, List.length_cons, List.length_nil]; omega) oa on oc (1 : Int) xb xc ((rC b5 x1 175) :: (rC b1 #[iN n, sO e0 (List.length (gs ++ [(⟨(1 : Int), xa, xc⟩ : Gt)])) f0, .slice oa on oc] 175) :: R) w₀ s0 w0) ?_
 rintro _ Z0 ⟨b0, h0, i0, x0, y0, rfl, z0, A0⟩
 have c1 := A0.b3 rfl
 refine go 4 ?_
 intro B0 C0 d1
 refine go 4 ?_
 have D0 := C0.as (L' := (_ :: ((rC b5 x1 175) :: (rC b1 #[iN n, sO h0 (List.length (gs ++ [(⟨(1 : Int), xa, xc⟩ : Gt)] ++ [(⟨(1 : Int), xb, xc⟩ : Gt)])) i0, .slice oa on oc] 175) :: R))) rfl
 refine cl (rput_ok n h0 i0 x0 (gs ++ [(⟨(1 : Int), xa, xc⟩ : Gt)] ++ [(⟨(1 : Int), xb, xc⟩ : Gt)]) z0 hn (by simp only [List.length_append, List.length_cons, List.length_nil]; omega) oa on oc (2 : Int) a0 b0 ((rC b5 x1 175) :: (rC b1 #[iN n, sO h0 (List.length (gs ++ [(⟨(1 : Int), xa, xc⟩ : Gt)] ++ [(⟨(1 : Int), xb, xc⟩ : Gt)])) i0, .slice oa on oc] 175) :: R) w₀ B0 D0) ?_
 rintro _ e1 ⟨E0, c0, d0, F0, G0, rfl, H0, I0⟩
 have g1 := I0.b3 rfl
 refine go 4 ?_
 intro J0 K0 h1
 refine go 4 ?_
 have L0 := K0.as (L' := (_ :: ((rC b5 x1 175) :: (rC b1 #[iN n, sO c0 (List.length (gs ++ [(⟨(1 : Int), xa, xc⟩ : Gt)] ++ [(⟨(1 : Int), xb, xc⟩ : Gt)] ++ [(⟨(2 : Int), a0, b0⟩ : Gt)])) d0, .slice oa on oc] 175) :: R))) rfl
 refine cl (rput_ok n c0 d0 F0 (gs ++ [(⟨(1 : Int), xa, xc⟩ : Gt)] ++ [(⟨(1 : Int), xb, xc⟩ : Gt)] ++ [(⟨(2 : Int), a0, b0⟩ : Gt)]) H0 hn (by simp only [List.length_append, List.length_cons, List.length_nil]; omega) oa on oc (1 : Int) xc E0 ((rC b5 x1 175) :: (rC b1 #[iN n, sO c0 (List.length (gs ++ [(⟨(1 : Int), xa, xc⟩ : Gt)] ++ [(⟨(1 : Int), xb, xc⟩ : Gt)] ++ [(⟨(2 : Int), a0, b0⟩ : Gt)])) d0, .slice oa on oc] 175) :: R) w₀ J0 L0) ?_
 rintro _ i1 ⟨j1, j0, k0, l0, M0, rfl, N0, O0⟩
 have k1 := O0.b3 rfl
 refine go 3 ?_
 intro P0 Q0 l1
 refine go 1 ?_
 subst M0
 subst G0
 subst y0
 subst p0
 have m0 : gs ++ [(⟨(1 : Int), xa, xc⟩ : Gt)] ++ [(⟨(1 : Int), xb, xc⟩ : Gt)] ++ [(⟨(2 : Int), (wrW n gs), (wrW n (gs ++ [(⟨(1 : Int), xa, xc⟩ : Gt)]))⟩ : Gt)] ++ [(⟨(1 : Int), xc, (wrW n (gs ++ [(⟨(1 : Int), xa, xc⟩ : Gt)] ++ [(⟨(1 : Int), xb, xc⟩ : Gt)]))⟩ : Gt)] = caG n gs xa xb xc := by rfl
 have n0 := N0
 rw [m0] at n0
 have R0 : Hp No w₀ P0 ((j0, sob EG 210 (caG n gs xa xb xc) l0) :: (rC b5 #[iN n, sO j0 (List.length (caG n gs xa xb xc)) k0, .slice oa on oc] 175) :: (rC b1 #[iN n, sO c0 (List.length (gs ++ [(⟨(1 : Int), xa, xc⟩ : Gt)] ++ [(⟨(1 : Int), xb, xc⟩ : Gt)] ++ [(⟨(2 : Int), (wrW n gs), (wrW n (gs ++ [(⟨(1 : Int), xa, xc⟩ : Gt)]))⟩ : Gt)])) d0, .slice oa on oc] 175) :: R) := by rw [← m0]; exact Q0
 exact ⟨_, rfl, _, j0, k0, l0, by unfold caW wrW; simp only [List.length_append, List.length_cons, List.length_nil], rfl, n0, ((R0.dropk 2).dropk 1)⟩
end Go.Proofs.YtohngnahcgbfmaaGreatDoor.Cm
namespace Go.Proofs.YtohngnahcgbfmaaGreatDoor.Cm
open Go Vc Er Circ
theorem byt3 : byt Tryz.prog 3 = some 8 := by kernel_rfl
theorem sli100 : sli Tryz.prog 100 = some (3, 1) := by kernel_rfl
theorem zer3 : zer Tryz.prog 3 = some (.int .i64 0) := by kernel_rfl
theorem ropx_ok (n : Nat) (key : Option Nat) (c : Nat) (sp : LV) (gs : List Gt) (hSw : Sl EG key gs c sp) (hn : n ≤ 1000) (hlen : gs.length ≤ 3000) (oa : Option Addr) (on oc : Nat) (pa pb : Nat) (hpa : pa ≤ 1000) (hpb : pb ≤ 1000) (R : List RW) (w₀ w : World) (H : Hp No w₀ w ((key, sob EG 210 gs sp) :: R)) : Calls Tryz.prog 82 [.agg #[iN n, sO key (List.length gs) c, .slice oa on oc], i64 ((pa : Nat) : Int), i64 ((pb : Nat) : Int), .bool true].toArray w (Ret fun v w' => ∃ (key' : Option Nat) (c' : Nat) (sp' : LV) (ko : Option Nat) (co : Nat) (so : LV), v = .tuple #[.agg #[iN n, sO key' (List.length ((xoS n gs (inW pa 64) (inW pb 64) 64).1)) c', .slice oa on oc], sO ko 64 co] ∧ Sl EG key' ((xoS n gs (inW pa 64) (inW pb 64) 64).1) c' sp' ∧ Sl EI ko ((xoS n gs (inW pa 64) (inW pb 64) 64).2) co so ∧ Hp No w₀ w' ((key', sob EG 210 ((xoS n gs (inW pa 64) (inW pb 64) 64).1) sp') :: (ko, sob EI 3 ((xoS n gs (inW pa 64) (inW pb 64) 64).2) so) :: R)) := by
 skip
 refine enter (n := 70) Tryz.func82 rfl rfl (bLe rfl) ?_
 refine go 1 ?_
 intro b1 w2 B0 H3 C0
 refine go 1 ?_
 intro b5 w6 D0 H7 E0
 refine go 2 ?_
 have H9 := H7.nil (sob EI 3 [] [])
 refine go 2 ?_
 refine loopAny (σ := Nat × Option Nat × Nat × LV × Option Nat × Nat × LV) (fun (i, kz, cz, sz, ko, co, so) => [(1, iN pa), (2, iN pb), (3, .bool true), (4, pT b1), (8, pT b5), (10, sO ko i co), (12, iN i)]) (fun (i, kz, cz, sz, ko, co, so) w' => (i ≤ 64 ∧ Sl EG kz (xoS n gs (inW pa 64) (inW pb 64) i).1 cz sz ∧ Sl EI ko (xoS n gs (inW pa 64) (inW pb 64) i).2 co so) ∧ Hp No w₀ w' ((kz, sob EG 210 ((xoS n gs (inW pa 64) (inW pb 64) i).1) sz) :: (ko, sob EI 3 ((xoS n gs (inW pa 64) (inW pb 64) i).2) so) :: (rC b1 #[iN n, sO kz (List.length ((xoS n gs (inW pa 64) (inW pb 64) i).1)) cz, .slice oa on oc] 175) :: (rC b5 #[i64 0, sN0, sN0] 175) :: R)) (fun (i, kz, cz, sz, ko, co, so) => 64 - i) ((0, key, c, sp, none, 0, [])) ?_ ?_ ?_
 ·exact kp
 ·exact ⟨⟨om, hSw, Sl.none⟩, (H9.pk 4 [3, 0, 2, 1])⟩
 rintro ⟨i, kz, cz, sz, ko, co, so⟩ ρ k0 ⟨⟨hq, hSz, hSo⟩, HL⟩
 have hol := xoS_len n gs (inW pa 64) (inW pb 64) i
 refine go 2 ?_
 refine condProp (((i : Nat) : Int) < (64 : Int)) rfl (fun l0 => ?_) (fun l0 => ?_)
 ·refine go 4 ?_
  refine sq ((r_addI rfl rfl om).as (v' := i64 ((inW pa 64).getD i 0)) (by exact congrArg i64 (by rw [inW_at _ _ _ om]; omega))) ?_
  refine go 2 ?_
  refine sq ((r_addI rfl rfl om).as (v' := i64 ((inW pb 64).getD i 0)) (by exact congrArg i64 (by rw [inW_at _ _ _ om]; omega))) ?_
  have m0 := HL.b1 rfl
  refine cl (rput_ok n kz cz sz ((xoS n gs (inW pa 64) (inW pb 64) i).1) hSz hn om oa on oc (1 : Int) ((inW pa 64).getD i 0) ((inW pb 64).getD i 0) ((ko, sob EI 3 ((xoS n gs (inW pa 64) (inW pb 64) i).2) so) :: (rC b1 #[iN n, sO kz (List.length ((xoS n gs (inW pa 64) (inW pb 64) i).1)) cz, .slice oa on oc] 175) :: (rC b5 #[i64 0, sN0, sN0] 175) :: R) w₀ k0 m0) ?_
  rintro _ F0 ⟨n0, a0, b0, c0, o0, rfl, p0, q0⟩
  have G0 := q0.b4 rfl
  refine go 4 ?_
  intro H0 I0 J0
  refine go 4 ?_
  refine bS (E := EI) (l := [n0]) fun r0 K0 L0 M0 N0 => ?_
  refine apq ?_
  refine ⟨by exact hol.2.symm, by rfl, om, ?_⟩
  intro d0 s0 e0 u0 w0 O0 x0
  refine go 4 ?_
  subst o0
  have f0 : ((xoS n gs (inW pa 64) (inW pb 64) i).1) ++ [(⟨(1 : Int), (inW pa 64).getD i 0, (inW pb 64).getD i 0⟩ : Gt)] = (xoS n gs (inW pa 64) (inW pb 64) (i + 1)).1 := by rfl
  have h0 := p0
  rw [f0] at h0
  have y0 : Hp No w₀ u0 (((some r0), sob EI 3 ([(wrW n ((xoS n gs (inW pa 64) (inW pb 64) i).1))]) ([])) :: (a0, sob EG 210 ((xoS n gs (inW pa 64) (inW pb 64) (i + 1)).1) c0) :: (d0, sob EI 3 (((xoS n gs (inW pa 64) (inW pb 64) i).2) ++ ([(wrW n ((xoS n gs (inW pa 64) (inW pb 64) i).1))])) e0) :: (rC b1 #[iN n, sO a0 (List.length ((xoS n gs (inW pa 64) (inW pb 64) (i + 1)).1)) b0, .slice oa on oc] 175) :: (rC b5 #[i64 0, sN0, sN0] 175) :: R) := by rw [← f0]; exact x0
  have z0 : ((xoS n gs (inW pa 64) (inW pb 64) i).2) ++ ([(wrW n ((xoS n gs (inW pa 64) (inW pb 64) i).1))]) = (xoS n gs (inW pa 64) (inW pb 64) (i + 1)).2 := by rfl
  have i0 := w0
  have j0 := y0
  rw [z0] at i0 j0
  exact ⟨(i + 1, a0, b0, c0, d0, s0, e0), _, rfl, ⟨rfl, rfl, rfl, rfl, rfl, congrArg (fun q => Value.slice _ q _) om, congrArg i64 om, trivial⟩, ⟨⟨om, h0, i0⟩, (j0.dropk 0)⟩, vd⟩
 ·have hie : i = 64 := by omega
  refine go 3 ?_
  intro P0 A0 Q0
  refine go 1 ?_
  subst hie
  exact ⟨_, rfl, kz, cz, sz, ko, co, so, rfl, hSz, hSo, ((A0.dropk 3).dropk 2)⟩
end Go.Proofs.YtohngnahcgbfmaaGreatDoor.Cm
namespace Go.Proofs.YtohngnahcgbfmaaGreatDoor.Cm
open Go Vc Er Circ
theorem ropa_ok (n : Nat) (key : Option Nat) (c : Nat) (sp : LV) (gs : List Gt) (hSw : Sl EG key gs c sp) (hn : n ≤ 1000) (hlen : gs.length ≤ 3000) (oa : Option Addr) (on oc : Nat) (pa pb : Nat) (hpa : pa ≤ 1000) (hpb : pb ≤ 1000) (R : List RW) (w₀ w : World) (H : Hp No w₀ w ((key, sob EG 210 gs sp) :: R)) : Calls Tryz.prog 82 [.agg #[iN n, sO key (List.length gs) c, .slice oa on oc], i64 ((pa : Nat) : Int), i64 ((pb : Nat) : Int), .bool false].toArray w (Ret fun v w' => ∃ (key' : Option Nat) (c' : Nat) (sp' : LV) (ko : Option Nat) (co : Nat) (so : LV), v = .tuple #[.agg #[iN n, sO key' (List.length ((adT n gs (inW pa 64) (inW pb 64) 64).1)) c', .slice oa on oc], sO ko 64 co] ∧ Sl EG key' ((adT n gs (inW pa 64) (inW pb 64) 64).1) c' sp' ∧ Sl EI ko ((adT n gs (inW pa 64) (inW pb 64) 64).2.1) co so ∧ Hp No w₀ w' ((key', sob EG 210 ((adT n gs (inW pa 64) (inW pb 64) 64).1) sp') :: (ko, sob EI 3 ((adT n gs (inW pa 64) (inW pb 64) 64).2.1) so) :: R)) := by
 let x2 : Array Value := #[i64 0, sN0, sN0]
 skip
 refine enter (n := 70) Tryz.func82 rfl rfl (bLe rfl) ?_
 refine go 1 ?_
 intro b1 w2 I1 H3 J1
 refine go 1 ?_
 intro b5 w6 K1 H7 L1
 refine go 2 ?_
 have H9 := H7.nil (sob EI 3 [] [])
 refine go 2 ?_
 refine loopAny (σ := Nat × Option Nat × Nat × LV × Option Nat × Nat × LV) (fun (i, kz, cz, sz, ko, co, so) => [(1, iN pa), (2, iN pb), (3, .bool false), (4, pT b1), (8, pT b5), (10, sO ko i co), (11, i64 ((adT n gs (inW pa 64) (inW pb 64) i).2.2)), (12, iN i)]) (fun (i, kz, cz, sz, ko, co, so) w' => (i ≤ 64 ∧ Sl EG kz (adT n gs (inW pa 64) (inW pb 64) i).1 cz sz ∧ Sl EI ko (adT n gs (inW pa 64) (inW pb 64) i).2.1 co so) ∧ Hp No w₀ w' ((kz, sob EG 210 ((adT n gs (inW pa 64) (inW pb 64) i).1) sz) :: (ko, sob EI 3 ((adT n gs (inW pa 64) (inW pb 64) i).2.1) so) :: (rC b1 #[iN n, sO kz (List.length ((adT n gs (inW pa 64) (inW pb 64) i).1)) cz, .slice oa on oc] 175) :: (rC b5 x2 175) :: R)) (fun (i, kz, cz, sz, ko, co, so) => 64 - i) ((0, key, c, sp, none, 0, [])) ?_ ?_ ?_
 ·exact kp
 ·exact ⟨⟨om, hSw, Sl.none⟩, (H9.pk 4 [3, 0, 2, 1])⟩
 rintro ⟨i, kz, cz, sz, ko, co, so⟩ ρ P0 ⟨⟨hq, hSz, hSo⟩, HL⟩
 have hol := adT_len n gs (inW pa 64) (inW pb 64) i
 refine go 2 ?_
 refine condProp (((i : Nat) : Int) < (64 : Int)) rfl (fun Q0 => ?_) (fun Q0 => ?_)
 ·refine go 4 ?_
  refine sq ((r_addI rfl rfl om).as (v' := i64 ((inW pa 64).getD i 0)) (by exact congrArg i64 (by rw [inW_at _ _ _ om]; omega))) ?_
  refine go 2 ?_
  refine sq ((r_addI rfl rfl om).as (v' := i64 ((inW pb 64).getD i 0)) (by exact congrArg i64 (by rw [inW_at _ _ _ om]; omega))) ?_
  have R0 := HL.b1 rfl
  refine cl (rput_ok n kz cz sz ((adT n gs (inW pa 64) (inW pb 64) i).1) hSz hn om oa on oc (1 : Int) ((inW pa 64).getD i 0) ((inW pb 64).getD i 0) ((ko, sob EI 3 ((adT n gs (inW pa 64) (inW pb 64) i).2.1) so) :: (rC b1 #[iN n, sO kz (List.length ((adT n gs (inW pa 64) (inW pb 64) i).1)) cz, .slice oa on oc] 175) :: (rC b5 x2 175) :: R) w₀ P0 R0) ?_
  rintro _ M1 ⟨d0, a0, b0, k0, f0, rfl, l0, S0⟩
  have N1 := S0.b4 rfl
  refine go 4 ?_
  intro m0 n0 O1
  refine go 4 ?_
  refine condProp (((i : Nat) : Int) = (0 : Int)) rfl (fun T0 => ?_) (fun T0 => ?_)
  ·obtain rfl : i = 0 := by omega
   refine go 1 ?_
   refine sq ((r_move (v := iN pa) rfl).as (v' := i64 ((inW pa 64).getD 0 0)) (by exact congrArg i64 (by rw [inW_at _ _ _ om]; omega))) (sq ((r_move (v := iN pb) rfl).as (v' := i64 ((inW pb 64).getD 0 0)) (by exact congrArg i64 (by rw [inW_at _ _ _ om]; omega))) ?_)
   have U0 := n0.as (L' := (_ :: ((ko, sob EI 3 ((adT n gs (inW pa 64) (inW pb 64) 0).2.1) so) :: (rC b1 #[iN n, sO a0 (List.length (((adT n gs (inW pa 64) (inW pb 64) 0).1) ++ [(⟨(1 : Int), (inW pa 64).getD 0 0, (inW pb 64).getD 0 0⟩ : Gt)])) b0, .slice oa on oc] 175) :: (rC b5 x2 175) :: R))) rfl
   refine cl (rput_ok n a0 b0 k0 (((adT n gs (inW pa 64) (inW pb 64) 0).1) ++ [(⟨(1 : Int), (inW pa 64).getD 0 0, (inW pb 64).getD 0 0⟩ : Gt)]) l0 hn (by simp only [List.length_append, List.length_cons, List.length_nil]; omega) oa on oc (2 : Int) ((inW pa 64).getD 0 0) ((inW pb 64).getD 0 0) ((ko, sob EI 3 ((adT n gs (inW pa 64) (inW pb 64) 0).2.1) so) :: (rC b1 #[iN n, sO a0 (List.length (((adT n gs (inW pa 64) (inW pb 64) 0).1) ++ [(⟨(1 : Int), (inW pa 64).getD 0 0, (inW pb 64).getD 0 0⟩ : Gt)])) b0, .slice oa on oc] 175) :: (rC b5 x2 175) :: R) w₀ m0 U0) ?_
   rintro _ P1 ⟨Q1, h0, o0, p0, V0, rfl, W0, X0⟩
   have R1 := X0.b4 rfl
   refine go 4 ?_
   intro S1 T1 U1
   refine go 3 ?_
   refine bS (E := EI) (l := [d0]) fun Y0 V1 W1 X1 Y1 => ?_
   refine apq ?_
   refine ⟨by exact hol.2.symm, by rfl, om, ?_⟩
   intro q0 Z0 r0 c1 d1 Z1 e1
   refine go 4 ?_
   subst V0
   subst f0
   have s0 : ((adT n gs (inW pa 64) (inW pb 64) 0).1) ++ [(⟨(1 : Int), (inW pa 64).getD 0 0, (inW pb 64).getD 0 0⟩ : Gt)] ++ [(⟨(2 : Int), (inW pa 64).getD 0 0, (inW pb 64).getD 0 0⟩ : Gt)] = (adT n gs (inW pa 64) (inW pb 64) (0 + 1)).1 := by rfl
   have u0 := W0
   rw [s0] at u0
   have g1 : Hp No w₀ c1 (((some Y0), sob EI 3 ([(wrW n ((adT n gs (inW pa 64) (inW pb 64) 0).1))]) ([])) :: (h0, sob EG 210 ((adT n gs (inW pa 64) (inW pb 64) (0 + 1)).1) p0) :: (q0, sob EI 3 (((adT n gs (inW pa 64) (inW pb 64) 0).2.1) ++ ([(wrW n ((adT n gs (inW pa 64) (inW pb 64) 0).1))])) r0) :: (rC b1 #[iN n, sO h0 (List.length ((adT n gs (inW pa 64) (inW pb 64) (0 + 1)).1)) o0, .slice oa on oc] 175) :: (rC b5 x2 175) :: R) := by rw [← s0]; exact e1
   have h1 : ((adT n gs (inW pa 64) (inW pb 64) 0).2.1) ++ ([(wrW n ((adT n gs (inW pa 64) (inW pb 64) 0).1))]) = (adT n gs (inW pa 64) (inW pb 64) (0 + 1)).2.1 := by rfl
   have w0 := d1
   have x0 := g1
   rw [h1] at w0 x0
   exact ⟨(0 + 1, h0, o0, p0, q0, Z0, r0), _, rfl, ⟨rfl, rfl, rfl, rfl, rfl, congrArg (fun q => Value.slice _ q _) om, congrArg i64 (by rfl), congrArg i64 om, trivial⟩, ⟨⟨om, u0, w0⟩, (x0.dropk 0)⟩, vd⟩
  ·obtain ⟨j, rfl⟩ : ∃ j, i = j + 1 := ⟨i - 1, by omega⟩
   let x1 : RW := (ko, sob EI 3 ((adT n gs (inW pa 64) (inW pb 64) (j + 1)).2.1) so)
   refine go 3 ?_
   have i1 := n0.as (L' := (_ :: (x1 :: (rC b1 #[iN n, sO a0 (List.length (((adT n gs (inW pa 64) (inW pb 64) (j + 1)).1) ++ [(⟨(1 : Int), (inW pa 64).getD (j + 1) 0, (inW pb 64).getD (j + 1) 0⟩ : Gt)])) b0, .slice oa on oc] 175) :: (rC b5 x2 175) :: R))) rfl
   refine cl (rput_ok n a0 b0 k0 (((adT n gs (inW pa 64) (inW pb 64) (j + 1)).1) ++ [(⟨(1 : Int), (inW pa 64).getD (j + 1) 0, (inW pb 64).getD (j + 1) 0⟩ : Gt)]) l0 hn (by simp only [List.length_append, List.length_cons, List.length_nil]; omega) oa on oc (1 : Int) d0 ((adT n gs (inW pa 64) (inW pb 64) (j + 1)).2.2) (x1 :: (rC b1 #[iN n, sO a0 (List.length (((adT n gs (inW pa 64) (inW pb 64) (j + 1)).1) ++ [(⟨(1 : Int), (inW pa 64).getD (j + 1) 0, (inW pb 64).getD (j + 1) 0⟩ : Gt)])) b0, .slice oa on oc] 175) :: (rC b5 x2 175) :: R) w₀ m0 i1) ?_
   rintro _ c2 ⟨y0, c0, e0, i0, z0, rfl, A0, j1⟩
   have d2 := j1.b4 rfl
   refine go 4 ?_
   intro k1 l1 e2
   refine go 3 ?_
   refine condProp ((((j + 1) : Nat) : Int) < (63 : Int)) rfl (fun m1 => ?_) (fun m1 => ?_)
   ·refine go 3 ?_
    refine sq ((r_addI rfl rfl om).as (v' := i64 ((inW pa 64).getD (j + 1) 0)) (by exact congrArg i64 (by rw [inW_at _ _ _ om]; omega))) ?_
    refine go 2 ?_
    refine sq ((r_addI rfl rfl om).as (v' := i64 ((inW pb 64).getD (j + 1) 0)) (by exact congrArg i64 (by rw [inW_at _ _ _ om]; omega))) ?_
    refine go 1 ?_
    have n1 := l1.as (L' := (_ :: (x1 :: (rC b1 #[iN n, sO c0 (List.length (((adT n gs (inW pa 64) (inW pb 64) (j + 1)).1) ++ [(⟨(1 : Int), (inW pa 64).getD (j + 1) 0, (inW pb 64).getD (j + 1) 0⟩ : Gt)] ++ [(⟨(1 : Int), d0, (adT n gs (inW pa 64) (inW pb 64) (j + 1)).2.2⟩ : Gt)])) e0, .slice oa on oc] 175) :: (rC b5 x2 175) :: R))) rfl
    refine cl (rcarry_ok n c0 e0 i0 (((adT n gs (inW pa 64) (inW pb 64) (j + 1)).1) ++ [(⟨(1 : Int), (inW pa 64).getD (j + 1) 0, (inW pb 64).getD (j + 1) 0⟩ : Gt)] ++ [(⟨(1 : Int), d0, (adT n gs (inW pa 64) (inW pb 64) (j + 1)).2.2⟩ : Gt)]) A0 hn (by simp only [List.length_append, List.length_cons, List.length_nil]; omega) oa on oc ((inW pa 64).getD (j + 1) 0) ((inW pb 64).getD (j + 1) 0) ((adT n gs (inW pa 64) (inW pb 64) (j + 1)).2.2) (x1 :: (rC b1 #[iN n, sO c0 (List.length (((adT n gs (inW pa 64) (inW pb 64) (j + 1)).1) ++ [(⟨(1 : Int), (inW pa 64).getD (j + 1) 0, (inW pb 64).getD (j + 1) 0⟩ : Gt)] ++ [(⟨(1 : Int), d0, (adT n gs (inW pa 64) (inW pb 64) (j + 1)).2.2⟩ : Gt)])) e0, .slice oa on oc] 175) :: (rC b5 x2 175) :: R) w₀ k1 n1) ?_
    rintro _ f2 ⟨g2, j0, B0, C0, o1, rfl, p1, q1⟩
    have h2 := q1.b4 rfl
    refine go 4 ?_
    intro i2 j2 k2
    refine go 3 ?_
    refine bS (E := EI) (l := [y0]) fun r1 l2 m2 n2 o2 => ?_
    refine apq ?_
    refine ⟨by exact hol.2.symm, by rfl, om, ?_⟩
    intro D0 s1 E0 t1 u1 p2 w1
    refine go 4 ?_
    subst o1
    subst z0
    subst f0
    have F0 : caG n (((adT n gs (inW pa 64) (inW pb 64) (j + 1)).1) ++ [(⟨(1 : Int), (inW pa 64).getD (j + 1) 0, (inW pb 64).getD (j + 1) 0⟩ : Gt)] ++ [(⟨(1 : Int), (wrW n ((adT n gs (inW pa 64) (inW pb 64) (j + 1)).1)), (adT n gs (inW pa 64) (inW pb 64) (j + 1)).2.2⟩ : Gt)]) ((inW pa 64).getD (j + 1) 0) ((inW pb 64).getD (j + 1) 0) ((adT n gs (inW pa 64) (inW pb 64) (j + 1)).2.2) = (adT n gs (inW pa 64) (inW pb 64) (j + 1 + 1)).1 := by show _ = (adS n gs (inW pa 64) (inW pb 64) (j + 1)).1; rw [adS, if_pos om] <;> rfl
    have G0 := p1
    rw [F0] at G0
    have y1 : Hp No w₀ t1 (((some r1), sob EI 3 ([(wrW n (((adT n gs (inW pa 64) (inW pb 64) (j + 1)).1) ++ [(⟨(1 : Int), (inW pa 64).getD (j + 1) 0, (inW pb 64).getD (j + 1) 0⟩ : Gt)]))]) ([])) :: (j0, sob EG 210 ((adT n gs (inW pa 64) (inW pb 64) (j + 1 + 1)).1) C0) :: (D0, sob EI 3 (((adT n gs (inW pa 64) (inW pb 64) (j + 1)).2.1) ++ ([(wrW n (((adT n gs (inW pa 64) (inW pb 64) (j + 1)).1) ++ [(⟨(1 : Int), (inW pa 64).getD (j + 1) 0, (inW pb 64).getD (j + 1) 0⟩ : Gt)]))])) E0) :: (rC b1 #[iN n, sO j0 (List.length ((adT n gs (inW pa 64) (inW pb 64) (j + 1 + 1)).1)) B0, .slice oa on oc] 175) :: (rC b5 x2 175) :: R) := by rw [← F0]; exact w1
    have z1 : ((adT n gs (inW pa 64) (inW pb 64) (j + 1)).2.1) ++ ([(wrW n (((adT n gs (inW pa 64) (inW pb 64) (j + 1)).1) ++ [(⟨(1 : Int), (inW pa 64).getD (j + 1) 0, (inW pb 64).getD (j + 1) 0⟩ : Gt)]))]) = (adT n gs (inW pa 64) (inW pb 64) (j + 1 + 1)).2.1 := by show _ = (adS n gs (inW pa 64) (inW pb 64) (j + 1)).2.1; rw [adS, if_pos om] <;> rfl
    have H0 := u1
    have I0 := y1
    rw [z1] at H0 I0
    exact ⟨(j + 1 + 1, j0, B0, C0, D0, s1, E0), _, rfl, ⟨rfl, rfl, rfl, rfl, rfl, congrArg (fun q => Value.slice _ q _) om, congrArg i64 (by show _ = (adS n gs (inW pa 64) (inW pb 64) (j + 1)).2.2; rw [adS, if_pos om] <;> rfl), congrArg i64 om, trivial⟩, ⟨⟨om, G0, H0⟩, (I0.dropk 0)⟩, vd⟩
   ·refine go 2 ?_
    refine bS (E := EI) (l := [y0]) fun A1 q2 r2 s2 t2 => ?_
    refine apq ?_
    refine ⟨by exact hol.2.symm, by rfl, om, ?_⟩
    intro J0 B1 K0 C1 D1 u2 E1
    refine go 4 ?_
    subst z0
    subst f0
    have L0 : ((adT n gs (inW pa 64) (inW pb 64) (j + 1)).1) ++ [(⟨(1 : Int), (inW pa 64).getD (j + 1) 0, (inW pb 64).getD (j + 1) 0⟩ : Gt)] ++ [(⟨(1 : Int), (wrW n ((adT n gs (inW pa 64) (inW pb 64) (j + 1)).1)), (adT n gs (inW pa 64) (inW pb 64) (j + 1)).2.2⟩ : Gt)] = (adT n gs (inW pa 64) (inW pb 64) (j + 1 + 1)).1 := by show _ = (adS n gs (inW pa 64) (inW pb 64) (j + 1)).1; rw [adS, if_neg om] <;> rfl
    have M0 := A0
    rw [L0] at M0
    have F1 : Hp No w₀ C1 (((some A1), sob EI 3 ([(wrW n (((adT n gs (inW pa 64) (inW pb 64) (j + 1)).1) ++ [(⟨(1 : Int), (inW pa 64).getD (j + 1) 0, (inW pb 64).getD (j + 1) 0⟩ : Gt)]))]) ([])) :: (c0, sob EG 210 ((adT n gs (inW pa 64) (inW pb 64) (j + 1 + 1)).1) i0) :: (J0, sob EI 3 (((adT n gs (inW pa 64) (inW pb 64) (j + 1)).2.1) ++ ([(wrW n (((adT n gs (inW pa 64) (inW pb 64) (j + 1)).1) ++ [(⟨(1 : Int), (inW pa 64).getD (j + 1) 0, (inW pb 64).getD (j + 1) 0⟩ : Gt)]))])) K0) :: (rC b1 #[iN n, sO c0 (List.length ((adT n gs (inW pa 64) (inW pb 64) (j + 1 + 1)).1)) e0, .slice oa on oc] 175) :: (rC b5 x2 175) :: R) := by rw [← L0]; exact E1
    have G1 : ((adT n gs (inW pa 64) (inW pb 64) (j + 1)).2.1) ++ ([(wrW n (((adT n gs (inW pa 64) (inW pb 64) (j + 1)).1) ++ [(⟨(1 : Int), (inW pa 64).getD (j + 1) 0, (inW pb 64).getD (j + 1) 0⟩ : Gt)]))]) = (adT n gs (inW pa 64) (inW pb 64) (j + 1 + 1)).2.1 := by show _ = (adS n gs (inW pa 64) (inW pb 64) (j + 1)).2.1; rw [adS, if_neg om] <;> rfl
    have N0 := D1
    have O0 := F1
    rw [G1] at N0 O0
    exact ⟨(j + 1 + 1, c0, e0, i0, J0, B1, K0), _, rfl, ⟨rfl, rfl, rfl, rfl, rfl, congrArg (fun q => Value.slice _ q _) om, congrArg i64 (by show _ = (adS n gs (inW pa 64) (inW pb 64) (j + 1)).2.2; rw [adS, if_neg om] <;> rfl), congrArg i64 om, trivial⟩, ⟨⟨om, M0, N0⟩, (O0.dropk 0)⟩, vd⟩
 ·have hie : i = 64 := by omega
  refine go 3 ?_
  intro y2 H1 z2
  refine go 1 ?_
  subst hie
  exact ⟨_, rfl, kz, cz, sz, ko, co, so, rfl, hSz, hSo, ((H1.dropk 3).dropk 2)⟩
theorem rop_ok (n : Nat) (key : Option Nat) (c : Nat) (sp : LV) (gs : List Gt) (hSw : Sl EG key gs c sp) (hn : n ≤ 1000) (hlen : gs.length ≤ 3000) (oa : Option Addr) (on oc : Nat) (pa pb : Nat) (hpa : pa ≤ 1000) (hpb : pb ≤ 1000) (x : Bool) (R : List RW) (w₀ w : World) (H : Hp No w₀ w ((key, sob EG 210 gs sp) :: R)) : Calls Tryz.prog 82 [.agg #[iN n, sO key (List.length gs) c, .slice oa on oc], i64 ((pa : Nat) : Int), i64 ((pb : Nat) : Int), .bool x].toArray w (Ret fun v w' => ∃ (key' : Option Nat) (c' : Nat) (sp' : LV) (ko : Option Nat) (co : Nat) (so : LV), v = .tuple #[.agg #[iN n, sO key' (List.length ((opS n gs pa pb x).1)) c', .slice oa on oc], sO ko 64 co] ∧ Sl EG key' ((opS n gs pa pb x).1) c' sp' ∧ Sl EI ko ((opS n gs pa pb x).2) co so ∧ Hp No w₀ w' ((key', sob EG 210 ((opS n gs pa pb x).1) sp') :: (ko, sob EI 3 ((opS n gs pa pb x).2) so) :: R)) := by
 cases x
 ·exact ropa_ok n key c sp gs hSw hn hlen oa on oc pa pb hpa hpb R w₀ w H
 ·exact ropx_ok n key c sp gs hSw hn hlen oa on oc pa pb hpa hpb R w₀ w H
end Go.Proofs.YtohngnahcgbfmaaGreatDoor.Cm
namespace Go.Proofs.YtohngnahcgbfmaaGreatDoor.Cm
open Go Vc Er Circ
theorem rless_ok (n : Nat) (key : Option Nat) (c : Nat) (sp : LV) (gs : List Gt) (hSw : Sl EG key gs c sp) (hn : n ≤ 1000) (hlen : gs.length ≤ 3000) (oa : Option Addr) (on oc : Nat) (ra rb : List Int) (hra : ra.length = 64) (hrb : rb.length = 64) (aa ab : Option Addr) (ca cb : Nat) (R : List RW) (w₀ w : World) (hA : (∀ w', Ext w₀ w' → (∀ p ∈ R, ∀ b, p.1 = some b → w'.heap[b]? = some p.2) → Rd EI w' aa ra)) (hB : (∀ w', Ext w₀ w' → (∀ p ∈ R, ∀ b, p.1 = some b → w'.heap[b]? = some p.2) → Rd EI w' ab rb)) (H : Hp No w₀ w ((key, sob EG 210 gs sp) :: R)) : Calls Tryz.prog 84 [.agg #[iN n, sO key (List.length gs) c, .slice oa on oc], .slice aa 64 ca, .slice ab 64 cb].toArray w (Ret fun v w' => ∃ (wx : Int) (key' : Option Nat) (c' : Nat) (sp' : LV), wx = (leG n gs ra rb).2 ∧ v = .tuple #[.agg #[iN n, sO key' (List.length ((leG n gs ra rb).1)) c', .slice oa on oc], i64 wx] ∧ Sl EG key' ((leG n gs ra rb).1) c' sp' ∧ Hp No w₀ w' ((key', sob EG 210 ((leG n gs ra rb).1) sp') :: R)) := by
 let x4 : Array Value := #[iN n, sO key (List.length gs) c, .slice oa on oc]
 let x1 : Array Value := #[i64 0, sN0, sN0]
 skip
 refine enter (n := 69) Tryz.func84 rfl rfl (bLe rfl) ?_
 refine go 1 ?_
 intro b1 w2 A3 H3 B3
 refine go 1 ?_
 intro b5 w6 C3 H7 D3
 let x3 := (rC b5 x1 175) :: R
 refine go 1 ?_
 have N1 := (H7.pk 3 [1, 2, 0])
 let N0 : List RW := x3
 let o1 := ((rC b1 x4 175) : RW)
 let O1 : Tab := [zt2 false false fun _ _ w' => Hp No w₀ w' (o1 :: (key, sob EG 210 gs sp) :: N0), zt2 true false fun v4 _ w' => ∃ f0 n0 s0 u0, v4 = .tuple #[.agg #[iN n, sO f0 (List.length (gs ++ [(⟨(3 : Int), ra.getD 0 0, (0 : Int)⟩ : Gt)])) n0, .slice oa on oc], i64 u0] ∧ Sl EG f0 (gs ++ [(⟨(3 : Int), ra.getD 0 0, (0 : Int)⟩ : Gt)]) n0 s0 ∧ u0 = wrW n gs ∧ Hp No w₀ w' ((f0, sob EG 210 (gs ++ [(⟨(3 : Int), ra.getD 0 0, (0 : Int)⟩ : Gt)]) s0) :: o1 :: N0), zt2 true true fun v4 _ w' => ∃ f0 n0 s0 u0, v4 = .tuple #[.agg #[iN n, sO f0 (List.length (gs ++ [(⟨(3 : Int), ra.getD 0 0, (0 : Int)⟩ : Gt)])) n0, .slice oa on oc], i64 u0] ∧ Sl EG f0 (gs ++ [(⟨(3 : Int), ra.getD 0 0, (0 : Int)⟩ : Gt)]) n0 s0 ∧ u0 = wrW n gs ∧ Hp No w₀ w' ((f0, sob EG 210 (gs ++ [(⟨(3 : Int), ra.getD 0 0, (0 : Int)⟩ : Gt)]) s0) :: (rC b1 #[iN n, sO f0 (List.length (gs ++ [(⟨(3 : Int), ra.getD 0 0, (0 : Int)⟩ : Gt)])) n0, .slice oa on oc] 175) :: N0)]
 refine drawH (m := 10) [0, 0, 2, 6, 15, 31, 63, 63, 127, 511] [4, 8] N0 O1 mixed (fun _ e => N1.ext e) (A_ (fun _ _ h => h.drop1.drop1) (A_ (fun _ _ ⟨_, _, _, _, _, _, _, h⟩ => h.drop1.drop1) (A_ (fun _ _ ⟨_, _, _, _, _, _, _, h⟩ => h.drop1.drop1) trivial))) (fun p1 => ?_)
 refine gk 2 ?_
 refine lkH (.pointer (adr aa (0 * 1))) (fun _ uw hcx => r_idxS (E := EI) (l := ra) (j := 0) sli100 (hA _ hcx.chg (fun p hp => hcx.has p (List.mem_cons_of_mem _ hp))) rfl rfl vo (by exact hra.symm) om) (lkH (i64 (ra.getD 0 0)) (fun _ uw hcx => r_ldS (E := EI) (l := ra) (j := 0) (v := ra.getD 0 0) fits3 (hA _ hcx.chg (fun p hp => hcx.has p (List.mem_cons_of_mem _ hp))) rfl rfl (at_getD om)) (WalkT.eff p1 0 ?_ ?_))
 ·refine A_ (fun r w0 uw hF hE => ?_) trivial
  have P1 := hF.ext hE
  refine gW fun Q' hK => ?_
  have Q1 := ((P1.pk 3 [1, 0, 2])).b1 rfl
  refine cl (rput_ok n key c sp gs hSw hn om oa on oc (3 : Int) (ra.getD 0 0) (0 : Int) ((rC b1 x4 175) :: (rC b5 x1 175) :: R) w₀ uw Q1) ?_
  rintro _ E3 ⟨R1, S1, T1, U1, V1, rfl, W1, X1⟩
  have Y1 := X1.b3 rfl
  exact hK _ _ (E_ S1 (E_ T1 (E_ U1 (E_ R1 (A_ rfl (A_ W1 (A_ V1 Y1)))))))
 refine WalkT.hand (fun r => r 4) (fun r r' h => h 4 (by decide) rfl) (fun _ _ => r_move rfl) (WalkT.lookS (fun r => proj (r 4) 0) (fun r r' h => by rw [h 4 (by decide) rfl]) ?_ ?_)
 ·refine A_ (fun r w0 uw hF hE => ?_) trivial
  obtain ⟨f0, n0, s0, u0, e4, G0, H0, HH⟩ := hF
  replace HH := HH.ext hE
  dsimp only
  rw [e4]
  exact vGr
 refine WalkT.lookS (fun r => proj (r 4) 1) (fun r r' h => by rw [h 4 (by decide) rfl]) ?_ ?_
 ·refine A_ (fun r w0 uw hF hE => ?_) (A_ (fun r w0 uw hF hE => ?_) trivial)
  ·obtain ⟨f0, n0, s0, u0, e4, G0, H0, HH⟩ := hF
   replace HH := HH.ext hE
   dsimp only
   rw [e4]
   exact vGr
  ·obtain ⟨f0, n0, s0, u0, e4, G0, H0, HH⟩ := hF
   replace HH := HH.ext hE
   dsimp only
   rw [e4]
   exact vGr
 refine WalkT.eff p1 1 ?_ ?_
 ·refine A_ (fun r w0 uw hF hE => ?_) trivial
  obtain ⟨f0, n0, s0, u0, e4, G0, H0, q1⟩ := hF
  replace q1 := q1.ext hE
  dsimp only
  rw [e4]
  refine gW0 fun Q' hK => ?_
  refine go 1 ?_
  intro F3 Z1 G3
  exact hK _ (fun _ => (E_ f0 (E_ n0 (E_ s0 (E_ u0 (A_ e4 (A_ G0 (A_ H0 Z1))))))))
 refine WalkT.hand (fun r => proj (r 4) 1) (fun r r' h => by rw [h 4 (by decide) rfl]) (fun _ _ => r_assign rfl) (WalkT.nil fun r w0 I3 hF hE => ?_)
 obtain ⟨f0, n0, s0, u0, e4, G0, H0, U0⟩ := hF
 replace U0 := U0.ext hE
 dsimp only
 rw [e4]
 dsimp only [N0] at U0
 subst H0
 refine go 0 ?_
 let O0 : List RW := x3
 let c1 := fun (c0 : Option Nat) (j0 : LV) => ((c0, sob EG 210 (gs ++ [(⟨(3 : Int), ra.getD 0 0, (0 : Int)⟩ : Gt)] ++ [(⟨(2 : Int), (wrW n gs), rb.getD 0 0⟩ : Gt)]) j0) : RW)
 let r1 := ((rC b1 #[iN n, sO f0 (List.length (gs ++ [(⟨(3 : Int), ra.getD 0 0, (0 : Int)⟩ : Gt)])) n0, .slice oa on oc] 175) : RW)
 let d1 := fun (c0 : Option Nat) (o0 : Nat) (j0 : LV) => (Sl EG c0 (gs ++ [(⟨(3 : Int), ra.getD 0 0, (0 : Int)⟩ : Gt)] ++ [(⟨(2 : Int), (wrW n gs), rb.getD 0 0⟩ : Gt)]) o0 j0 : Prop)
 let c2 : Tab := [zt2 false false fun _ _ w' => Hp No w₀ w' ((f0, sob EG 210 (gs ++ [(⟨(3 : Int), ra.getD 0 0, (0 : Int)⟩ : Gt)]) s0) :: r1 :: O0), zt2 true false fun v5 _ w' => ∃ c0 o0 j0 x0, v5 = .tuple #[.agg #[iN n, sO c0 (List.length (gs ++ [(⟨(3 : Int), ra.getD 0 0, (0 : Int)⟩ : Gt)] ++ [(⟨(2 : Int), (wrW n gs), rb.getD 0 0⟩ : Gt)])) o0, .slice oa on oc], i64 x0] ∧ (d1 c0 o0 j0) ∧ x0 = wrW n (gs ++ [(⟨(3 : Int), ra.getD 0 0, (0 : Int)⟩ : Gt)]) ∧ Hp No w₀ w' ((c1 c0 j0) :: r1 :: O0), zt2 true true fun v5 _ w' => ∃ c0 o0 j0 x0, v5 = .tuple #[.agg #[iN n, sO c0 (List.length (gs ++ [(⟨(3 : Int), ra.getD 0 0, (0 : Int)⟩ : Gt)] ++ [(⟨(2 : Int), (wrW n gs), rb.getD 0 0⟩ : Gt)])) o0, .slice oa on oc], i64 x0] ∧ (d1 c0 o0 j0) ∧ x0 = wrW n (gs ++ [(⟨(3 : Int), ra.getD 0 0, (0 : Int)⟩ : Gt)]) ∧ Hp No w₀ w' ((c1 c0 j0) :: (rC b1 #[iN n, sO c0 (List.length (gs ++ [(⟨(3 : Int), ra.getD 0 0, (0 : Int)⟩ : Gt)] ++ [(⟨(2 : Int), (wrW n gs), rb.getD 0 0⟩ : Gt)])) o0, .slice oa on oc] 175) :: O0)]
 refine drawH (m := 11) [0, 0, 0, 4, 12, 31, 63, 127, 127, 255, 1023] [5, 9] O0 c2 mixed (fun _ e => U0.ext e) (A_ (fun _ _ h => h.drop1.drop1) (A_ (fun _ _ ⟨_, _, _, _, _, _, _, h⟩ => h.drop1.drop1) (A_ (fun _ _ ⟨_, _, _, _, _, _, _, h⟩ => h.drop1.drop1) trivial))) (fun s1 => ?_)
 refine gk 3 ?_
 refine lkH (.pointer (adr ab (0 * 1))) (fun _ uw hcx => r_idxS (E := EI) (l := rb) (j := 0) sli100 (hB _ hcx.chg (fun p hp => hcx.has p (List.mem_cons_of_mem _ hp))) rfl rfl vo (by exact hrb.symm) om) (lkH (i64 (rb.getD 0 0)) (fun _ uw hcx => r_ldS (E := EI) (l := rb) (j := 0) (v := rb.getD 0 0) fits3 (hB _ hcx.chg (fun p hp => hcx.has p (List.mem_cons_of_mem _ hp))) rfl rfl (at_getD om)) (WalkT.eff s1 0 ?_ ?_))
 ·refine A_ (fun r w0 uw hF hE => ?_) trivial
  have d2 := hF.ext hE
  refine gW fun Q' hK => ?_
  have e2 := d2.as (L' := (_ :: ((rC b1 #[iN n, sO f0 (List.length (gs ++ [(⟨(3 : Int), ra.getD 0 0, (0 : Int)⟩ : Gt)])) n0, .slice oa on oc] 175) :: (rC b5 x1 175) :: R))) rfl
  refine cl (rput_ok n f0 n0 s0 (gs ++ [(⟨(3 : Int), ra.getD 0 0, (0 : Int)⟩ : Gt)]) G0 hn (by simp only [List.length_append, List.length_cons, List.length_nil]; omega) oa on oc (2 : Int) (wrW n gs) (rb.getD 0 0) ((rC b1 #[iN n, sO f0 (List.length (gs ++ [(⟨(3 : Int), ra.getD 0 0, (0 : Int)⟩ : Gt)])) n0, .slice oa on oc] 175) :: (rC b5 x1 175) :: R) w₀ uw e2) ?_
  rintro _ J3 ⟨f2, g2, h2, i2, j2, rfl, k2, l2⟩
  have m2 := l2.b3 rfl
  exact hK _ _ (E_ g2 (E_ h2 (E_ i2 (E_ f2 (A_ rfl (A_ k2 (A_ j2 m2)))))))
 refine WalkT.hand (fun r => r 5) (fun r r' h => h 5 (by decide) rfl) (fun _ _ => r_move rfl) (WalkT.lookS (fun r => proj (r 5) 0) (fun r r' h => by rw [h 5 (by decide) rfl]) ?_ ?_)
 ·refine A_ (fun r w0 uw hF hE => ?_) trivial
  obtain ⟨c0, o0, j0, x0, e5, C0, I0, HH⟩ := hF
  replace HH := HH.ext hE
  dsimp only
  rw [e5]
  exact vGr
 refine WalkT.lookS (fun r => proj (r 5) 1) (fun r r' h => by rw [h 5 (by decide) rfl]) ?_ ?_
 ·refine A_ (fun r w0 uw hF hE => ?_) (A_ (fun r w0 uw hF hE => ?_) trivial)
  ·obtain ⟨c0, o0, j0, x0, e5, C0, I0, HH⟩ := hF
   replace HH := HH.ext hE
   dsimp only
   rw [e5]
   exact vGr
  ·obtain ⟨c0, o0, j0, x0, e5, C0, I0, HH⟩ := hF
   replace HH := HH.ext hE
   dsimp only
   rw [e5]
   exact vGr
 refine WalkT.eff s1 1 ?_ ?_
 ·refine A_ (fun r w0 uw hF hE => ?_) trivial
  obtain ⟨c0, o0, j0, x0, e5, C0, I0, t1⟩ := hF
  replace t1 := t1.ext hE
  dsimp only
  rw [e5]
  refine gW0 fun Q' hK => ?_
  refine go 1 ?_
  intro K3 n2 L3
  exact hK _ (fun _ => (E_ c0 (E_ o0 (E_ j0 (E_ x0 (A_ e5 (A_ C0 (A_ I0 n2))))))))
 refine WalkT.hand (fun r => proj (r 5) 1) (fun r r' h => by rw [h 5 (by decide) rfl]) (fun _ _ => r_assign rfl) (WalkT.nil fun r w0 o2 hF hE => ?_)
 obtain ⟨c0, o0, j0, x0, e5, C0, I0, V0⟩ := hF
 replace V0 := V0.ext hE
 dsimp only
 rw [e5]
 dsimp only [d1] at C0
 dsimp only [O0, c1] at V0
 subst I0
 have u1 : gs ++ [(⟨(3 : Int), ra.getD 0 0, (0 : Int)⟩ : Gt)] ++ [(⟨(2 : Int), (wrW n gs), rb.getD 0 0⟩ : Gt)] = (leS n gs ra rb 0).1 := by rfl
 have w1 := C0
 rw [u1] at w1
 have p2 : Hp No w₀ o2 ((c0, sob EG 210 ((leS n gs ra rb 0).1) j0) :: (rC b1 #[iN n, sO c0 (List.length ((leS n gs ra rb 0).1)) o0, .slice oa on oc] 175) :: (rC b5 x1 175) :: R) := by rw [← u1]; exact V0
 refine go 1 ?_
 refine loopAny (σ := Nat × Option Nat × Nat × LV) (fun (i, kz, cz, sz) => [(1, .slice aa 64 ca), (2, .slice ab 64 cb), (3, pT b1), (6, pT b5), (9, i64 ((leS n gs ra rb i).2)), (10, iN (i + 1))]) (fun (i, kz, cz, sz) w' => (i ≤ 62 ∧ Sl EG kz (leS n gs ra rb i).1 cz sz) ∧ Hp No w₀ w' ((kz, sob EG 210 ((leS n gs ra rb i).1) sz) :: (rC b1 #[iN n, sO kz (List.length ((leS n gs ra rb i).1)) cz, .slice oa on oc] 175) :: (rC b5 x1 175) :: R)) (fun (i, kz, cz, sz) => 62 - i) ((0, c0, o0, j0)) ?_ ?_ ?_
 ·exact kp
 ·exact ⟨⟨om, w1⟩, p2⟩
 rintro ⟨i, kz, cz, sz⟩ ρ M3 ⟨⟨hq, hSz⟩, HL⟩
 let x2 : Array Value := #[iN n, sO kz (List.length ((leS n gs ra rb i).1)) cz, .slice oa on oc]
 have hll := leS_len n gs ra rb i
 refine go 2 ?_
 refine condProp ((((i + 1) : Nat) : Int) < (63 : Int)) rfl (fun q2 => ?_) (fun q2 => ?_)
 ·refine go 0 ?_
  let P0 : List RW := x3
  let e1 := fun (b0 : Option Nat) (k0 : LV) => ((b0, sob EG 210 (((leS n gs ra rb i).1) ++ [(⟨(3 : Int), ra.getD (i + 1) 0, (0 : Int)⟩ : Gt)]) k0) : RW)
  let y1 := ((rC b1 x2 175) : RW)
  let g1 := fun (b0 : Option Nat) (i0 : Nat) (k0 : LV) => (Sl EG b0 (((leS n gs ra rb i).1) ++ [(⟨(3 : Int), ra.getD (i + 1) 0, (0 : Int)⟩ : Gt)]) i0 k0 : Prop)
  let r2 : Tab := [zt2 false false fun _ _ w' => Hp No w₀ w' ((kz, sob EG 210 ((leS n gs ra rb i).1) sz) :: y1 :: P0), zt2 true false fun v5 _ w' => ∃ b0 i0 k0 y0, v5 = .tuple #[.agg #[iN n, sO b0 (List.length (((leS n gs ra rb i).1) ++ [(⟨(3 : Int), ra.getD (i + 1) 0, (0 : Int)⟩ : Gt)])) i0, .slice oa on oc], i64 y0] ∧ (g1 b0 i0 k0) ∧ y0 = wrW n ((leS n gs ra rb i).1) ∧ Hp No w₀ w' ((e1 b0 k0) :: y1 :: P0), zt2 true true fun v5 _ w' => ∃ b0 i0 k0 y0, v5 = .tuple #[.agg #[iN n, sO b0 (List.length (((leS n gs ra rb i).1) ++ [(⟨(3 : Int), ra.getD (i + 1) 0, (0 : Int)⟩ : Gt)])) i0, .slice oa on oc], i64 y0] ∧ (g1 b0 i0 k0) ∧ y0 = wrW n ((leS n gs ra rb i).1) ∧ Hp No w₀ w' ((e1 b0 k0) :: (rC b1 #[iN n, sO b0 (List.length (((leS n gs ra rb i).1) ++ [(⟨(3 : Int), ra.getD (i + 1) 0, (0 : Int)⟩ : Gt)])) i0, .slice oa on oc] 175) :: P0)]
  refine drawH (m := 11) [0, 0, 0, 6, 14, 31, 63, 127, 127, 255, 1023] [5, 9] P0 r2 mixed (fun _ e => HL.ext e) (A_ (fun _ _ h => h.drop1.drop1) (A_ (fun _ _ ⟨_, _, _, _, _, _, _, h⟩ => h.drop1.drop1) (A_ (fun _ _ ⟨_, _, _, _, _, _, _, h⟩ => h.drop1.drop1) trivial))) (fun z1 => ?_)
  refine gk 3 ?_
  refine lkH (.pointer (adr aa ((i + 1) * 1))) (fun _ uw hcx => r_idxS (E := EI) (l := ra) (j := (i + 1)) sli100 (hA _ hcx.chg (fun p hp => hcx.has p (List.mem_cons_of_mem _ hp))) rfl rfl vo (by exact hra.symm) om) (lkH (i64 (ra.getD (i + 1) 0)) (fun _ uw hcx => r_ldS (E := EI) (l := ra) (j := (i + 1)) (v := ra.getD (i + 1) 0) fits3 (hA _ hcx.chg (fun p hp => hcx.has p (List.mem_cons_of_mem _ hp))) rfl rfl (at_getD om)) (WalkT.eff z1 0 ?_ ?_))
  ·refine A_ (fun r w0 uw hF hE => ?_) trivial
   have s2 := hF.ext hE
   refine gW fun Q' hK => ?_
   have t2 := s2.b1 rfl
   refine cl (rput_ok n kz cz sz ((leS n gs ra rb i).1) hSz hn om oa on oc (3 : Int) (ra.getD (i + 1) 0) (0 : Int) ((rC b1 x2 175) :: (rC b5 x1 175) :: R) w₀ uw t2) ?_
   rintro _ N3 ⟨u2, y2, z2, A2, B2, rfl, C2, D2⟩
   have E2 := D2.b3 rfl
   exact hK _ _ (E_ y2 (E_ z2 (E_ A2 (E_ u2 (A_ rfl (A_ C2 (A_ B2 E2)))))))
  refine WalkT.hand (fun r => r 5) (fun r r' h => h 5 (by decide) rfl) (fun _ _ => r_move rfl) (WalkT.lookS (fun r => proj (r 5) 0) (fun r r' h => by rw [h 5 (by decide) rfl]) ?_ ?_)
  ·refine A_ (fun r w0 uw hF hE => ?_) trivial
   obtain ⟨b0, i0, k0, y0, e5, D0, J0, HH⟩ := hF
   replace HH := HH.ext hE
   dsimp only
   rw [e5]
   exact vGr
  refine WalkT.lookS (fun r => proj (r 5) 1) (fun r r' h => by rw [h 5 (by decide) rfl]) ?_ ?_
  ·refine A_ (fun r w0 uw hF hE => ?_) (A_ (fun r w0 uw hF hE => ?_) trivial)
   ·obtain ⟨b0, i0, k0, y0, e5, D0, J0, HH⟩ := hF
    replace HH := HH.ext hE
    dsimp only
    rw [e5]
    exact vGr
   ·obtain ⟨b0, i0, k0, y0, e5, D0, J0, HH⟩ := hF
    replace HH := HH.ext hE
    dsimp only
    rw [e5]
    exact vGr
  refine WalkT.eff z1 1 ?_ ?_
  ·refine A_ (fun r w0 uw hF hE => ?_) trivial
   obtain ⟨b0, i0, k0, y0, e5, D0, J0, A1⟩ := hF
   replace A1 := A1.ext hE
   dsimp only
   rw [e5]
   refine gW0 fun Q' hK => ?_
   refine go 1 ?_
   intro O3 F2 P3
   exact hK _ (fun _ => (E_ b0 (E_ i0 (E_ k0 (E_ y0 (A_ e5 (A_ D0 (A_ J0 F2))))))))
  refine WalkT.hand (fun r => proj (r 5) 1) (fun r r' h => by rw [h 5 (by decide) rfl]) (fun _ _ => r_assign rfl) (WalkT.nil fun r w0 Q3 hF hE => ?_)
  obtain ⟨b0, i0, k0, y0, e5, D0, J0, W0⟩ := hF
  replace W0 := W0.ext hE
  dsimp only
  rw [e5]
  dsimp only [g1] at D0
  dsimp only [P0, e1] at W0
  subst J0
  refine go 0 ?_
  let Q0 : List RW := x3
  let h1 := fun (d0 : Option Nat) (l0 : LV) => ((d0, sob EG 210 (caG n (((leS n gs ra rb i).1) ++ [(⟨(3 : Int), ra.getD (i + 1) 0, (0 : Int)⟩ : Gt)]) (wrW n ((leS n gs ra rb i).1)) (rb.getD (i + 1) 0) ((leS n gs ra rb i).2)) l0) : RW)
  let B1 := ((rC b1 #[iN n, sO b0 (List.length (((leS n gs ra rb i).1) ++ [(⟨(3 : Int), ra.getD (i + 1) 0, (0 : Int)⟩ : Gt)])) i0, .slice oa on oc] 175) : RW)
  let i1 := fun (d0 : Option Nat) (p0 : Nat) (l0 : LV) => (Sl EG d0 (caG n (((leS n gs ra rb i).1) ++ [(⟨(3 : Int), ra.getD (i + 1) 0, (0 : Int)⟩ : Gt)]) (wrW n ((leS n gs ra rb i).1)) (rb.getD (i + 1) 0) ((leS n gs ra rb i).2)) p0 l0 : Prop)
  let G2 : Tab := [zt2 false false fun _ _ w' => Hp No w₀ w' ((b0, sob EG 210 (((leS n gs ra rb i).1) ++ [(⟨(3 : Int), ra.getD (i + 1) 0, (0 : Int)⟩ : Gt)]) k0) :: B1 :: Q0), zt2 true false fun v7 _ w' => ∃ d0 p0 l0 z0, v7 = .tuple #[.agg #[iN n, sO d0 (List.length (caG n (((leS n gs ra rb i).1) ++ [(⟨(3 : Int), ra.getD (i + 1) 0, (0 : Int)⟩ : Gt)]) (wrW n ((leS n gs ra rb i).1)) (rb.getD (i + 1) 0) ((leS n gs ra rb i).2))) p0, .slice oa on oc], i64 z0] ∧ (i1 d0 p0 l0) ∧ z0 = caW n (((leS n gs ra rb i).1) ++ [(⟨(3 : Int), ra.getD (i + 1) 0, (0 : Int)⟩ : Gt)]) ∧ Hp No w₀ w' ((h1 d0 l0) :: B1 :: Q0), zt2 true true fun v7 _ w' => ∃ d0 p0 l0 z0, v7 = .tuple #[.agg #[iN n, sO d0 (List.length (caG n (((leS n gs ra rb i).1) ++ [(⟨(3 : Int), ra.getD (i + 1) 0, (0 : Int)⟩ : Gt)]) (wrW n ((leS n gs ra rb i).1)) (rb.getD (i + 1) 0) ((leS n gs ra rb i).2))) p0, .slice oa on oc], i64 z0] ∧ (i1 d0 p0 l0) ∧ z0 = caW n (((leS n gs ra rb i).1) ++ [(⟨(3 : Int), ra.getD (i + 1) 0, (0 : Int)⟩ : Gt)]) ∧ Hp No w₀ w' ((h1 d0 l0) :: (rC b1 #[iN n, sO d0 (List.length (caG n (((leS n gs ra rb i).1) ++ [(⟨(3 : Int), ra.getD (i + 1) 0, (0 : Int)⟩ : Gt)]) (wrW n ((leS n gs ra rb i).1)) (rb.getD (i + 1) 0) ((leS n gs ra rb i).2))) p0, .slice oa on oc] 175) :: Q0)]
  refine drawH (m := 13) [0, 0, 0, 0, 12, 28, 0, 127, 255, 511, 511, 1023, 4095] [7, 11] Q0 G2 mixed (fun _ e => W0.ext e) (A_ (fun _ _ h => h.drop1.drop1) (A_ (fun _ _ ⟨_, _, _, _, _, _, _, h⟩ => h.drop1.drop1) (A_ (fun _ _ ⟨_, _, _, _, _, _, _, h⟩ => h.drop1.drop1) trivial))) (fun C1 => ?_)
  refine gk 4 ?_
  refine lkH (.pointer (adr ab ((i + 1) * 1))) (fun _ uw hcx => r_idxS (E := EI) (l := rb) (j := (i + 1)) sli100 (hB _ hcx.chg (fun p hp => hcx.has p (List.mem_cons_of_mem _ hp))) rfl rfl vo (by exact hrb.symm) om) (lkH (i64 (rb.getD (i + 1) 0)) (fun _ uw hcx => r_ldS (E := EI) (l := rb) (j := (i + 1)) (v := rb.getD (i + 1) 0) fits3 (hB _ hcx.chg (fun p hp => hcx.has p (List.mem_cons_of_mem _ hp))) rfl rfl (at_getD om)) ?_)
  refine gk 1 ?_
  refine WalkT.eff C1 0 ?_ ?_
  ·refine A_ (fun r w0 uw hF hE => ?_) trivial
   have H2 := hF.ext hE
   refine gW fun Q' hK => ?_
   have I2 := H2.as (L' := (_ :: ((rC b1 #[iN n, sO b0 (List.length (((leS n gs ra rb i).1) ++ [(⟨(3 : Int), ra.getD (i + 1) 0, (0 : Int)⟩ : Gt)])) i0, .slice oa on oc] 175) :: (rC b5 x1 175) :: R))) rfl
   refine cl (rcarry_ok n b0 i0 k0 (((leS n gs ra rb i).1) ++ [(⟨(3 : Int), ra.getD (i + 1) 0, (0 : Int)⟩ : Gt)]) D0 hn (by simp only [List.length_append, List.length_cons, List.length_nil]; omega) oa on oc (wrW n ((leS n gs ra rb i).1)) (rb.getD (i + 1) 0) ((leS n gs ra rb i).2) ((rC b1 #[iN n, sO b0 (List.length (((leS n gs ra rb i).1) ++ [(⟨(3 : Int), ra.getD (i + 1) 0, (0 : Int)⟩ : Gt)])) i0, .slice oa on oc] 175) :: (rC b5 x1 175) :: R) w₀ uw I2) ?_
   rintro _ R3 ⟨J2, K2, L2, M2, N2, rfl, O2, P2⟩
   have Q2 := P2.b3 rfl
   exact hK _ _ (E_ K2 (E_ L2 (E_ M2 (E_ J2 (A_ rfl (A_ O2 (A_ N2 Q2)))))))
  refine WalkT.hand (fun r => r 7) (fun r r' h => h 7 (by decide) rfl) (fun _ _ => r_move rfl) (WalkT.lookS (fun r => proj (r 7) 0) (fun r r' h => by rw [h 7 (by decide) rfl]) ?_ ?_)
  ·refine A_ (fun r w0 uw hF hE => ?_) trivial
   obtain ⟨d0, p0, l0, z0, e7, E0, K0, HH⟩ := hF
   replace HH := HH.ext hE
   dsimp only
   rw [e7]
   exact vGr
  refine WalkT.lookS (fun r => proj (r 7) 1) (fun r r' h => by rw [h 7 (by decide) rfl]) ?_ ?_
  ·refine A_ (fun r w0 uw hF hE => ?_) (A_ (fun r w0 uw hF hE => ?_) trivial)
   ·obtain ⟨d0, p0, l0, z0, e7, E0, K0, HH⟩ := hF
    replace HH := HH.ext hE
    dsimp only
    rw [e7]
    exact vGr
   ·obtain ⟨d0, p0, l0, z0, e7, E0, K0, HH⟩ := hF
    replace HH := HH.ext hE
    dsimp only
    rw [e7]
    exact vGr
  refine WalkT.eff C1 1 ?_ ?_
  ·refine A_ (fun r w0 uw hF hE => ?_) trivial
   obtain ⟨d0, p0, l0, z0, e7, E0, K0, D1⟩ := hF
   replace D1 := D1.ext hE
   dsimp only
   rw [e7]
   refine gW0 fun Q' hK => ?_
   refine go 1 ?_
   intro S3 R2 T3
   exact hK _ (fun _ => (E_ d0 (E_ p0 (E_ l0 (E_ z0 (A_ e7 (A_ E0 (A_ K0 R2))))))))
  refine WalkT.hand (fun r => proj (r 7) 1) (fun r r' h => by rw [h 7 (by decide) rfl]) (fun _ _ => r_assign rfl) (WalkT.nil fun r w0 S2 hF hE => ?_)
  obtain ⟨d0, p0, l0, z0, e7, E0, K0, X0⟩ := hF
  replace X0 := X0.ext hE
  dsimp only
  rw [e7]
  dsimp only [i1] at E0
  dsimp only [Q0, h1] at X0
  subst K0
  refine go 1 ?_
  refine sq ((r_addI rfl rfl om).as (v' := iN (i + 1 + 1)) (by rfl)) ?_
  refine go 1 ?_
  have E1 : caG n (((leS n gs ra rb i).1) ++ [(⟨(3 : Int), ra.getD (i + 1) 0, (0 : Int)⟩ : Gt)]) (wrW n ((leS n gs ra rb i).1)) (rb.getD (i + 1) 0) ((leS n gs ra rb i).2) = (leS n gs ra rb (i + 1)).1 := by rfl
  have F1 := E0
  rw [E1] at F1
  have T2 : Hp No w₀ S2 ((d0, sob EG 210 ((leS n gs ra rb (i + 1)).1) l0) :: (rC b1 #[iN n, sO d0 (List.length ((leS n gs ra rb (i + 1)).1)) p0, .slice oa on oc] 175) :: (rC b5 x1 175) :: R) := by rw [← E1]; exact X0
  exact ⟨(i + 1, d0, p0, l0), _, rfl, kp, ⟨⟨om, F1⟩, T2⟩, vd⟩
 ·have hie : i = 62 := by omega
  refine go 0 ?_
  let R0 : List RW := x3
  let j1 := fun (a0 : Option Nat) (m0 : LV) => ((a0, sob EG 210 (((leS n gs ra rb i).1) ++ [(⟨(3 : Int), rb.getD 63 0, (0 : Int)⟩ : Gt)]) m0) : RW)
  let G1 := ((rC b1 x2 175) : RW)
  let k1 := fun (a0 : Option Nat) (h0 : Nat) (m0 : LV) => (Sl EG a0 (((leS n gs ra rb i).1) ++ [(⟨(3 : Int), rb.getD 63 0, (0 : Int)⟩ : Gt)]) h0 m0 : Prop)
  let U2 : Tab := [zt2 false false fun _ _ w' => Hp No w₀ w' ((kz, sob EG 210 ((leS n gs ra rb i).1) sz) :: G1 :: R0), zt2 true false fun v4 _ w' => ∃ a0 h0 m0 A0, v4 = .tuple #[.agg #[iN n, sO a0 (List.length (((leS n gs ra rb i).1) ++ [(⟨(3 : Int), rb.getD 63 0, (0 : Int)⟩ : Gt)])) h0, .slice oa on oc], i64 A0] ∧ (k1 a0 h0 m0) ∧ A0 = wrW n ((leS n gs ra rb i).1) ∧ Hp No w₀ w' ((j1 a0 m0) :: G1 :: R0), zt2 true true fun v4 _ w' => ∃ a0 h0 m0 A0, v4 = .tuple #[.agg #[iN n, sO a0 (List.length (((leS n gs ra rb i).1) ++ [(⟨(3 : Int), rb.getD 63 0, (0 : Int)⟩ : Gt)])) h0, .slice oa on oc], i64 A0] ∧ (k1 a0 h0 m0) ∧ A0 = wrW n ((leS n gs ra rb i).1) ∧ Hp No w₀ w' ((j1 a0 m0) :: (rC b1 #[iN n, sO a0 (List.length (((leS n gs ra rb i).1) ++ [(⟨(3 : Int), rb.getD 63 0, (0 : Int)⟩ : Gt)])) h0, .slice oa on oc] 175) :: R0)]
  refine drawH (m := 10) [0, 0, 2, 6, 15, 31, 63, 63, 127, 511] [4, 8] R0 U2 mixed (fun _ e => HL.ext e) (A_ (fun _ _ h => h.drop1.drop1) (A_ (fun _ _ ⟨_, _, _, _, _, _, _, h⟩ => h.drop1.drop1) (A_ (fun _ _ ⟨_, _, _, _, _, _, _, h⟩ => h.drop1.drop1) trivial))) (fun H1 => ?_)
  refine gk 2 ?_
  refine lkH (.pointer (adr ab (63 * 1))) (fun _ uw hcx => r_idxS (E := EI) (l := rb) (j := 63) sli100 (hB _ hcx.chg (fun p hp => hcx.has p (List.mem_cons_of_mem _ hp))) rfl rfl vo (by exact hrb.symm) om) (lkH (i64 (rb.getD 63 0)) (fun _ uw hcx => r_ldS (E := EI) (l := rb) (j := 63) (v := rb.getD 63 0) fits3 (hB _ hcx.chg (fun p hp => hcx.has p (List.mem_cons_of_mem _ hp))) rfl rfl (at_getD om)) (WalkT.eff H1 0 ?_ ?_))
  ·refine A_ (fun r w0 uw hF hE => ?_) trivial
   have V2 := hF.ext hE
   refine gW fun Q' hK => ?_
   have X2 := V2.b1 rfl
   refine cl (rput_ok n kz cz sz ((leS n gs ra rb i).1) hSz hn om oa on oc (3 : Int) (rb.getD 63 0) (0 : Int) ((rC b1 x2 175) :: (rC b5 x1 175) :: R) w₀ uw X2) ?_
   rintro _ U3 ⟨Y2, Z2, c3, d3, e3, rfl, f3, g3⟩
   have h3 := g3.b3 rfl
   exact hK _ _ (E_ Z2 (E_ c3 (E_ d3 (E_ Y2 (A_ rfl (A_ f3 (A_ e3 h3)))))))
  refine WalkT.hand (fun r => r 4) (fun r r' h => h 4 (by decide) rfl) (fun _ _ => r_move rfl) (WalkT.lookS (fun r => proj (r 4) 0) (fun r r' h => by rw [h 4 (by decide) rfl]) ?_ ?_)
  ·refine A_ (fun r w0 uw hF hE => ?_) trivial
   obtain ⟨a0, h0, m0, A0, e4, F0, L0, HH⟩ := hF
   replace HH := HH.ext hE
   dsimp only
   rw [e4]
   exact vGr
  refine WalkT.lookS (fun r => proj (r 4) 1) (fun r r' h => by rw [h 4 (by decide) rfl]) ?_ ?_
  ·refine A_ (fun r w0 uw hF hE => ?_) (A_ (fun r w0 uw hF hE => ?_) trivial)
   ·obtain ⟨a0, h0, m0, A0, e4, F0, L0, HH⟩ := hF
    replace HH := HH.ext hE
    dsimp only
    rw [e4]
    exact vGr
   ·obtain ⟨a0, h0, m0, A0, e4, F0, L0, HH⟩ := hF
    replace HH := HH.ext hE
    dsimp only
    rw [e4]
    exact vGr
  refine WalkT.eff H1 1 ?_ ?_
  ·refine A_ (fun r w0 uw hF hE => ?_) trivial
   obtain ⟨a0, h0, m0, A0, e4, F0, L0, I1⟩ := hF
   replace I1 := I1.ext hE
   dsimp only
   rw [e4]
   refine gW0 fun Q' hK => ?_
   refine go 1 ?_
   intro V3 i3 W3
   exact hK _ (fun _ => (E_ a0 (E_ h0 (E_ m0 (E_ A0 (A_ e4 (A_ F0 (A_ L0 i3))))))))
  refine WalkT.hand (fun r => proj (r 4) 1) (fun r r' h => by rw [h 4 (by decide) rfl]) (fun _ _ => r_assign rfl) (WalkT.nil fun r w0 X3 hF hE => ?_)
  obtain ⟨a0, h0, m0, A0, e4, F0, L0, Y0⟩ := hF
  replace Y0 := Y0.ext hE
  dsimp only
  rw [e4]
  dsimp only [k1] at F0
  dsimp only [R0, j1] at Y0
  subst L0
  refine go 0 ?_
  have j3 := (Y0.pk 3 [0, 2, 1])
  let S0 : List RW := ((rC b1 #[iN n, sO a0 (List.length (((leS n gs ra rb i).1) ++ [(⟨(3 : Int), rb.getD 63 0, (0 : Int)⟩ : Gt)])) h0, .slice oa on oc] 175) :: R)
  let l1 := fun (e0 : Option Nat) (q0 : LV) => ((e0, sob EG 210 (caG n (((leS n gs ra rb i).1) ++ [(⟨(3 : Int), rb.getD 63 0, (0 : Int)⟩ : Gt)]) (ra.getD 63 0) (wrW n ((leS n gs ra rb i).1)) ((leS n gs ra rb i).2)) q0) : RW)
  let J1 := ((rC b5 x1 175) : RW)
  let m1 := fun (e0 : Option Nat) (r0 : Nat) (q0 : LV) => (Sl EG e0 (caG n (((leS n gs ra rb i).1) ++ [(⟨(3 : Int), rb.getD 63 0, (0 : Int)⟩ : Gt)]) (ra.getD 63 0) (wrW n ((leS n gs ra rb i).1)) ((leS n gs ra rb i).2)) r0 q0 : Prop)
  let k3 : Tab := [zt2 false false fun _ _ w' => Hp No w₀ w' ((a0, sob EG 210 (((leS n gs ra rb i).1) ++ [(⟨(3 : Int), rb.getD 63 0, (0 : Int)⟩ : Gt)]) m0) :: J1 :: S0), zt2 true false fun v6 _ w' => ∃ e0 r0 q0 B0, v6 = .tuple #[.agg #[iN n, sO e0 (List.length (caG n (((leS n gs ra rb i).1) ++ [(⟨(3 : Int), rb.getD 63 0, (0 : Int)⟩ : Gt)]) (ra.getD 63 0) (wrW n ((leS n gs ra rb i).1)) ((leS n gs ra rb i).2))) r0, .slice oa on oc], i64 B0] ∧ (m1 e0 r0 q0) ∧ B0 = caW n (((leS n gs ra rb i).1) ++ [(⟨(3 : Int), rb.getD 63 0, (0 : Int)⟩ : Gt)]) ∧ Hp No w₀ w' ((l1 e0 q0) :: J1 :: S0), zt2 true true fun v6 _ w' => ∃ e0 r0 q0 B0, v6 = .tuple #[.agg #[iN n, sO e0 (List.length (caG n (((leS n gs ra rb i).1) ++ [(⟨(3 : Int), rb.getD 63 0, (0 : Int)⟩ : Gt)]) (ra.getD 63 0) (wrW n ((leS n gs ra rb i).1)) ((leS n gs ra rb i).2))) r0, .slice oa on oc], i64 B0] ∧ (m1 e0 r0 q0) ∧ B0 = caW n (((leS n gs ra rb i).1) ++ [(⟨(3 : Int), rb.getD 63 0, (0 : Int)⟩ : Gt)]) ∧ Hp No w₀ w' ((l1 e0 q0) :: (rC b5 #[iN n, sO e0 (List.length (caG n (((leS n gs ra rb i).1) ++ [(⟨(3 : Int), rb.getD 63 0, (0 : Int)⟩ : Gt)]) (ra.getD 63 0) (wrW n ((leS n gs ra rb i).1)) ((leS n gs ra rb i).2))) r0, .slice oa on oc] 175) :: S0)]
  refine drawH (m := 11) [0, 0, 2, 6, 0, 0, 63, 127, 127, 511, 1023] [6, 9] S0 k3 mixed (fun _ e => j3.ext e) (A_ (fun _ _ h => h.drop1.drop1) (A_ (fun _ _ ⟨_, _, _, _, _, _, _, h⟩ => h.drop1.drop1) (A_ (fun _ _ ⟨_, _, _, _, _, _, _, h⟩ => h.drop1.drop1) trivial))) (fun K1 => ?_)
  refine gk 2 ?_
  refine lkH (.pointer (adr aa (63 * 1))) (fun _ uw hcx => r_idxS (E := EI) (l := ra) (j := 63) sli100 (hA _ hcx.chg (fun p hp => hcx.has p (List.mem_cons_of_mem _ hp))) rfl rfl vo (by exact hra.symm) om) (lkH (i64 (ra.getD 63 0)) (fun _ uw hcx => r_ldS (E := EI) (l := ra) (j := 63) (v := ra.getD 63 0) fits3 (hA _ hcx.chg (fun p hp => hcx.has p (List.mem_cons_of_mem _ hp))) rfl rfl (at_getD om)) ?_)
  refine gk 2 ?_
  refine WalkT.eff K1 0 ?_ ?_
  ·refine A_ (fun r w0 uw hF hE => ?_) trivial
   have l3 := hF.ext hE
   refine gW fun Q' hK => ?_
   have m3 := l3.as (L' := (_ :: ((rC b5 x1 175) :: (rC b1 #[iN n, sO a0 (List.length (((leS n gs ra rb i).1) ++ [(⟨(3 : Int), rb.getD 63 0, (0 : Int)⟩ : Gt)])) h0, .slice oa on oc] 175) :: R))) rfl
   refine cl (rcarry_ok n a0 h0 m0 (((leS n gs ra rb i).1) ++ [(⟨(3 : Int), rb.getD 63 0, (0 : Int)⟩ : Gt)]) F0 hn (by simp only [List.length_append, List.length_cons, List.length_nil]; omega) oa on oc (ra.getD 63 0) (wrW n ((leS n gs ra rb i).1)) ((leS n gs ra rb i).2) ((rC b5 x1 175) :: (rC b1 #[iN n, sO a0 (List.length (((leS n gs ra rb i).1) ++ [(⟨(3 : Int), rb.getD 63 0, (0 : Int)⟩ : Gt)])) h0, .slice oa on oc] 175) :: R) w₀ uw m3) ?_
   rintro _ Y3 ⟨n3, o3, p3, q3, r3, rfl, s3, t3⟩
   have u3 := t3.b3 rfl
   exact hK _ _ (E_ o3 (E_ p3 (E_ q3 (E_ n3 (A_ rfl (A_ s3 (A_ r3 u3)))))))
  refine WalkT.lookS (fun r => proj (r 6) 0) (fun r r' h => by rw [h 6 (by decide) rfl]) ?_ ?_
  ·refine A_ (fun r w0 uw hF hE => ?_) trivial
   obtain ⟨e0, r0, q0, B0, e6, M0, T0, HH⟩ := hF
   replace HH := HH.ext hE
   dsimp only
   rw [e6]
   exact vGr
  refine WalkT.lookS (fun r => proj (r 6) 1) (fun r r' h => by rw [h 6 (by decide) rfl]) ?_ ?_
  ·refine A_ (fun r w0 uw hF hE => ?_) trivial
   obtain ⟨e0, r0, q0, B0, e6, M0, T0, HH⟩ := hF
   replace HH := HH.ext hE
   dsimp only
   rw [e6]
   exact vGr
  refine WalkT.eff K1 1 ?_ ?_
  ·refine A_ (fun r w0 uw hF hE => ?_) trivial
   obtain ⟨e0, r0, q0, B0, e6, M0, T0, L1⟩ := hF
   replace L1 := L1.ext hE
   dsimp only
   rw [e6]
   refine gW0 fun Q' hK => ?_
   refine go 1 ?_
   intro Z3 w3 c4
   exact hK _ (fun _ => (E_ e0 (E_ r0 (E_ q0 (E_ B0 (A_ e6 (A_ M0 (A_ T0 w3))))))))
  refine WalkT.hand (fun r => proj (r 6) 1) (fun r r' h => by rw [h 6 (by decide) rfl]) (fun _ _ => r_assign rfl) (WalkT.nil fun r w0 y3 hF hE => ?_)
  obtain ⟨e0, r0, q0, B0, e6, M0, T0, Z0⟩ := hF
  replace Z0 := Z0.ext hE
  dsimp only
  rw [e6]
  dsimp only [m1] at M0
  dsimp only [S0, l1] at Z0
  subst T0
  refine go 0 ?_
  have n1 : caG n (((leS n gs ra rb i).1) ++ [(⟨(3 : Int), rb.getD 63 0, (0 : Int)⟩ : Gt)]) (ra.getD 63 0) (wrW n ((leS n gs ra rb i).1)) ((leS n gs ra rb i).2) = (leG n gs ra rb).1 := by rw [leG_eq hie]
  have M1 := M0
  rw [n1] at M1
  have z3 : Hp No w₀ y3 ((e0, sob EG 210 ((leG n gs ra rb).1) q0) :: (rC b5 #[iN n, sO e0 (List.length ((leG n gs ra rb).1)) r0, .slice oa on oc] 175) :: (rC b1 #[iN n, sO a0 (List.length (((leS n gs ra rb i).1) ++ [(⟨(3 : Int), rb.getD 63 0, (0 : Int)⟩ : Gt)])) h0, .slice oa on oc] 175) :: R) := by rw [← n1]; exact Z0
  exact ⟨_, rfl, (caW n (((leS n gs ra rb i).1) ++ [(⟨(3 : Int), rb.getD 63 0, (0 : Int)⟩ : Gt)])), e0, r0, q0, by rw [leG_eq hie], by rw [← n1] <;> rfl, M1, ((z3.dropk 2).dropk 1)⟩
end Go.Proofs.YtohngnahcgbfmaaGreatDoor.Cm
namespace Go.Proofs.YtohngnahcgbfmaaGreatDoor.Cm
open Go Vc Er Circ
theorem rnop_ok (kd : Int) (fm : BitVec 64) (w : World) : Calls Tryz.prog 33 [i64 kd, u64 fm].toArray w (Ret fun v w' => v = i64 ((nopS kd fm : Nat) : Int) ∧ Ext w w') := by
 have H := Hp.start No w
 refine enter (n := 21) Tryz.func33 rfl rfl (bLe rfl) ?_
 refine go 4 ?_
 by_cases g1 : (kd : Int) = (1 : Int)
 ·refine sqAny (v := u64 fm) (w' := w) (wantedSome (d' := 7) (b := true) rfl rfl (congrArg Value.bool (decide_eq_true g1))) (r_move (v := u64 fm) rfl) (sqAny (v := .bool (decide (fm.toNat < (2#64).toNat))) (w' := w) (wantedSome (d' := 7) (b := true) rfl rfl (congrArg Value.bool (decide_eq_true g1))) (r_lss64 (a := fm) (b := 2#64) rfl rfl) (sq (r_pickT (u := .bool (decide (fm.toNat < (2#64).toNat))) (congrArg Value.bool (decide_eq_true g1)) rfl) ?_))
  refine go 0 ?_
  refine condProp (fm.toNat < (2#64).toNat) rfl (fun b0 => ?_) (fun b0 => ?_)
  ·refine go 1 ?_
   exact ⟨_, rfl, congrArg i64 (by have e2 : (2#64 : BitVec 64).toNat = 2 := rfl; have e4 : (4#64 : BitVec 64).toNat = 4 := rfl; unfold nopS; (repeat' split) <;> first | rfl | omega), H.chg⟩
  ·refine go 3 ?_
   by_cases g2 : (kd : Int) = (2 : Int)
   ·refine skAny (wantedSome (d' := 13) (b := true) rfl rfl (congrArg Value.bool (decide_eq_true g2))) (skAny (wantedSome (d' := 13) (b := true) rfl rfl (congrArg Value.bool (decide_eq_true g2))) (sq (r_pickT (u := .bool true) (congrArg Value.bool (decide_eq_true g2)) rfl) ?_))
    refine go 4 ?_
    refine condProp (fm.toNat < (4#64).toNat) rfl (fun a0 => ?_) (fun a0 => ?_)
    ·refine go 1 ?_
     exact ⟨_, rfl, congrArg i64 (by have e2 : (2#64 : BitVec 64).toNat = 2 := rfl; have e4 : (4#64 : BitVec 64).toNat = 4 := rfl; unfold nopS; (repeat' split) <;> first | rfl | omega), H.chg⟩
    ·refine go 1 ?_
     exact ⟨_, rfl, congrArg i64 (by have e2 : (2#64 : BitVec 64).toNat = 2 := rfl; have e4 : (4#64 : BitVec 64).toNat = 4 := rfl; unfold nopS; (repeat' split) <;> first | rfl | omega), H.chg⟩
   ·refine sqAny (v := i64 kd) (w' := w) (wantedSome (d' := 13) (b := false) rfl rfl (congrArg Value.bool (decide_eq_false g2))) (r_move (v := i64 kd) rfl) (sqAny (v := .bool (decide ((kd : Int) = (3 : Int)))) (w' := w) (wantedSome (d' := 13) (b := false) rfl rfl (congrArg Value.bool (decide_eq_false g2))) (r_eqlI rfl rfl) (sq (r_pickF (v := .bool (decide ((kd : Int) = (3 : Int)))) (congrArg Value.bool (decide_eq_false g2)) rfl) ?_))
    refine go 1 ?_
    by_cases g3 : (kd : Int) = (3 : Int)
    ·refine sqAny (v := u64 fm) (w' := w) (wantedSome (d' := 17) (b := true) rfl rfl (congrArg Value.bool (decide_eq_true g3))) (r_move (v := u64 fm) rfl) (sqAny (v := .bool (decide (fm.toNat < (4#64).toNat))) (w' := w) (wantedSome (d' := 17) (b := true) rfl rfl (congrArg Value.bool (decide_eq_true g3))) (r_lss64 (a := fm) (b := 4#64) rfl rfl) (sq (r_pickT (u := .bool (decide (fm.toNat < (4#64).toNat))) (congrArg Value.bool (decide_eq_true g3)) rfl) ?_))
     refine go 0 ?_
     refine condProp (fm.toNat < (4#64).toNat) rfl (fun a0 => ?_) (fun a0 => ?_)
     ·refine go 1 ?_
      exact ⟨_, rfl, congrArg i64 (by have e2 : (2#64 : BitVec 64).toNat = 2 := rfl; have e4 : (4#64 : BitVec 64).toNat = 4 := rfl; unfold nopS; (repeat' split) <;> first | rfl | omega), H.chg⟩
     ·refine go 1 ?_
      exact ⟨_, rfl, congrArg i64 (by have e2 : (2#64 : BitVec 64).toNat = 2 := rfl; have e4 : (4#64 : BitVec 64).toNat = 4 := rfl; unfold nopS; (repeat' split) <;> first | rfl | omega), H.chg⟩
    ·refine skAny (wantedSome (d' := 17) (b := false) rfl rfl (congrArg Value.bool (decide_eq_false g3))) (skAny (wantedSome (d' := 17) (b := false) rfl rfl (congrArg Value.bool (decide_eq_false g3))) (sq (r_pickF (v := .bool false) (congrArg Value.bool (decide_eq_false g3)) rfl) ?_))
     refine go 1 ?_
     exact ⟨_, rfl, congrArg i64 (by have e2 : (2#64 : BitVec 64).toNat = 2 := rfl; have e4 : (4#64 : BitVec 64).toNat = 4 := rfl; unfold nopS; (repeat' split) <;> first | rfl | omega), H.chg⟩
 ·refine skAny (wantedSome (d' := 7) (b := false) rfl rfl (congrArg Value.bool (decide_eq_false g1))) (skAny (wantedSome (d' := 7) (b := false) rfl rfl (congrArg Value.bool (decide_eq_false g1))) (sq (r_pickF (v := .bool false) (congrArg Value.bool (decide_eq_false g1)) rfl) ?_))
  refine go 3 ?_
  by_cases g4 : (kd : Int) = (2 : Int)
  ·refine skAny (wantedSome (d' := 13) (b := true) rfl rfl (congrArg Value.bool (decide_eq_true g4))) (skAny (wantedSome (d' := 13) (b := true) rfl rfl (congrArg Value.bool (decide_eq_true g4))) (sq (r_pickT (u := .bool true) (congrArg Value.bool (decide_eq_true g4)) rfl) ?_))
   refine go 4 ?_
   refine condProp (fm.toNat < (4#64).toNat) rfl (fun a0 => ?_) (fun a0 => ?_)
   ·refine go 1 ?_
    exact ⟨_, rfl, congrArg i64 (by have e2 : (2#64 : BitVec 64).toNat = 2 := rfl; have e4 : (4#64 : BitVec 64).toNat = 4 := rfl; unfold nopS; (repeat' split) <;> first | rfl | omega), H.chg⟩
   ·refine go 1 ?_
    exact ⟨_, rfl, congrArg i64 (by have e2 : (2#64 : BitVec 64).toNat = 2 := rfl; have e4 : (4#64 : BitVec 64).toNat = 4 := rfl; unfold nopS; (repeat' split) <;> first | rfl | omega), H.chg⟩
  ·refine sqAny (v := i64 kd) (w' := w) (wantedSome (d' := 13) (b := false) rfl rfl (congrArg Value.bool (decide_eq_false g4))) (r_move (v := i64 kd) rfl) (sqAny (v := .bool (decide ((kd : Int) = (3 : Int)))) (w' := w) (wantedSome (d' := 13) (b := false) rfl rfl (congrArg Value.bool (decide_eq_false g4))) (r_eqlI rfl rfl) (sq (r_pickF (v := .bool (decide ((kd : Int) = (3 : Int)))) (congrArg Value.bool (decide_eq_false g4)) rfl) ?_))
   refine go 1 ?_
   by_cases g5 : (kd : Int) = (3 : Int)
   ·refine sqAny (v := u64 fm) (w' := w) (wantedSome (d' := 17) (b := true) rfl rfl (congrArg Value.bool (decide_eq_true g5))) (r_move (v := u64 fm) rfl) (sqAny (v := .bool (decide (fm.toNat < (4#64).toNat))) (w' := w) (wantedSome (d' := 17) (b := true) rfl rfl (congrArg Value.bool (decide_eq_true g5))) (r_lss64 (a := fm) (b := 4#64) rfl rfl) (sq (r_pickT (u := .bool (decide (fm.toNat < (4#64).toNat))) (congrArg Value.bool (decide_eq_true g5)) rfl) ?_))
    refine go 0 ?_
    refine condProp (fm.toNat < (4#64).toNat) rfl (fun a0 => ?_) (fun a0 => ?_)
    ·refine go 1 ?_
     exact ⟨_, rfl, congrArg i64 (by have e2 : (2#64 : BitVec 64).toNat = 2 := rfl; have e4 : (4#64 : BitVec 64).toNat = 4 := rfl; unfold nopS; (repeat' split) <;> first | rfl | omega), H.chg⟩
    ·refine go 1 ?_
     exact ⟨_, rfl, congrArg i64 (by have e2 : (2#64 : BitVec 64).toNat = 2 := rfl; have e4 : (4#64 : BitVec 64).toNat = 4 := rfl; unfold nopS; (repeat' split) <;> first | rfl | omega), H.chg⟩
   ·refine skAny (wantedSome (d' := 17) (b := false) rfl rfl (congrArg Value.bool (decide_eq_false g5))) (skAny (wantedSome (d' := 17) (b := false) rfl rfl (congrArg Value.bool (decide_eq_false g5))) (sq (r_pickF (v := .bool false) (congrArg Value.bool (decide_eq_false g5)) rfl) ?_))
    refine go 1 ?_
    exact ⟨_, rfl, congrArg i64 (by have e2 : (2#64 : BitVec 64).toNat = 2 := rfl; have e4 : (4#64 : BitVec 64).toNat = 4 := rfl; unfold nopS; (repeat' split) <;> first | rfl | omega), H.chg⟩
end Go.Proofs.YtohngnahcgbfmaaGreatDoor.Cm
namespace Go.Proofs.YtohngnahcgbfmaaGreatDoor.Mi
open Go Vc Er Ek Circ
open Co Cm
theorem und34 : Tryz.prog.underlying 34 = some (.int .u64) := by kernel_rfl
theorem rwants_ok (o : Mo) (hok : (ruleS o 65536 65536).2 = true) (w : World) : Calls Tryz.prog 14 [.agg #[i64 (o.kd), i64 (o.a), i64 (o.b), i64 (o.k), u64 (o.c), i64 (o.pt)]].toArray w (Ret fun v w' => v = .tuple #[i64 ((ruleS o 65536 65536).1.a), i64 ((ruleS o 65536 65536).1.b), i64 ((ruleS o 65536 65536).1.m), i64 ((ruleS o 65536 65536).1.r)] ∧ Ext w w') := by
 have s0 := rem_rng o.c
 have u0 := rem_rng (o.c / 2#64)
 have H := Hp.start No w
 refine enter (n := 63) Tryz.func14 rfl rfl (bLe rfl) ?_
 refine go 1 ?_
 intro b1 w2 w0 H3 x0
 refine go 8 ?_
 refine condProp ((o.kd : Int) = (1 : Int)) rfl (fun d0 => ?_) (fun d0 => ?_)
 ·refine go 4 ?_
  obtain ⟨r1, r2, r3, r4⟩ := wa1 hok d0
  exact ⟨_, rfl, by rw [r1, r2, r3, r4]; rfl, H3.chg⟩
 ·refine go 2 ?_
  refine condProp ((o.kd : Int) = (2 : Int)) rfl (fun e0 => ?_) (fun e0 => ?_)
  ·refine go 4 ?_
   obtain ⟨r1, r2, r3, r4⟩ := wa2 e0
   exact ⟨_, rfl, by rw [r1, r2, r3, r4]; rfl, H3.chg⟩
  ·refine go 2 ?_
   refine condProp ((o.kd : Int) = (3 : Int)) rfl (fun c0 => ?_) (fun c0 => ?_)
   ·refine go 0 ?_
    refine condTrue (congrArg Value.bool (decide_eq_true c0)) ?_
    refine go 4 ?_
    obtain ⟨r1, r2, r3, r4⟩ := wa3 (o := o) om
    exact ⟨_, rfl, by rw [r1, r2, r3, r4]; rfl, H3.chg⟩
   ·refine go 2 ?_
    refine condProp ((o.kd : Int) = (4 : Int)) rfl (fun c0 => ?_) (fun c0 => ?_)
    ·refine go 4 ?_
     obtain ⟨r1, r2, r3, r4⟩ := wa3 (o := o) om
     exact ⟨_, rfl, by rw [r1, r2, r3, r4]; rfl, H3.chg⟩
    ·refine go 2 ?_
     refine condProp ((o.kd : Int) = (5 : Int)) rfl (fun f0 => ?_) (fun f0 => ?_)
     ·refine go 4 ?_
      obtain ⟨r1, r2, r3, r4⟩ := wa5 f0
      exact ⟨_, rfl, by rw [r1, r2, r3, r4]; rfl, H3.chg⟩
     ·refine go 2 ?_
      refine condProp ((o.kd : Int) = (6 : Int)) rfl (fun h0 => ?_) (fun h0 => ?_)
      ·refine go 4 ?_
       obtain ⟨r1, r2, r3, r4⟩ := wa6 h0
       exact ⟨_, rfl, by rw [r1, r2, r3, r4]; rfl, H3.chg⟩
      ·refine go 2 ?_
       refine condProp ((o.kd : Int) = (7 : Int)) rfl (fun i0 => ?_) (fun i0 => ?_)
       ·refine go 4 ?_
        obtain ⟨r1, r2, r3, r4⟩ := wa7 i0
        exact ⟨_, rfl, by rw [r1, r2, r3, r4]; rfl, H3.chg⟩
       ·refine go 2 ?_
        refine condProp ((o.kd : Int) = (8 : Int)) rfl (fun a0 => ?_) (fun a0 => ?_)
        ·refine go 0 ?_
         refine condTrue (congrArg Value.bool (decide_eq_true a0)) ?_
         refine go 4 ?_
         obtain ⟨r1, r2, r3, r4⟩ := wa8 (o := o) om
         exact ⟨_, rfl, by rw [r1, r2, r3, r4]; rfl, H3.chg⟩
        ·refine go 2 ?_
         refine condProp ((o.kd : Int) = (10 : Int)) rfl (fun a0 => ?_) (fun a0 => ?_)
         ·refine go 0 ?_
          refine condTrue (congrArg Value.bool (decide_eq_true a0)) ?_
          refine go 4 ?_
          obtain ⟨r1, r2, r3, r4⟩ := wa8 (o := o) om
          exact ⟨_, rfl, by rw [r1, r2, r3, r4]; rfl, H3.chg⟩
         ·refine go 2 ?_
          refine condProp ((o.kd : Int) = (11 : Int)) rfl (fun a0 => ?_) (fun a0 => ?_)
          ·refine go 0 ?_
           refine condTrue (congrArg Value.bool (decide_eq_true a0)) ?_
           refine go 4 ?_
           obtain ⟨r1, r2, r3, r4⟩ := wa8 (o := o) om
           exact ⟨_, rfl, by rw [r1, r2, r3, r4]; rfl, H3.chg⟩
          ·refine go 2 ?_
           refine condProp ((o.kd : Int) = (12 : Int)) rfl (fun a0 => ?_) (fun a0 => ?_)
           ·refine go 0 ?_
            refine condTrue (congrArg Value.bool (decide_eq_true a0)) ?_
            refine go 4 ?_
            obtain ⟨r1, r2, r3, r4⟩ := wa8 (o := o) om
            exact ⟨_, rfl, by rw [r1, r2, r3, r4]; rfl, H3.chg⟩
           ·refine go 2 ?_
            refine condProp ((o.kd : Int) = (13 : Int)) rfl (fun a0 => ?_) (fun a0 => ?_)
            ·refine go 0 ?_
             refine condTrue (congrArg Value.bool (decide_eq_true a0)) ?_
             refine go 4 ?_
             obtain ⟨r1, r2, r3, r4⟩ := wa8 (o := o) om
             exact ⟨_, rfl, by rw [r1, r2, r3, r4]; rfl, H3.chg⟩
            ·refine go 2 ?_
             refine condProp ((o.kd : Int) = (14 : Int)) rfl (fun a0 => ?_) (fun a0 => ?_)
             ·refine go 4 ?_
              obtain ⟨r1, r2, r3, r4⟩ := wa8 (o := o) om
              exact ⟨_, rfl, by rw [r1, r2, r3, r4]; rfl, H3.chg⟩
             ·refine go 2 ?_
              refine condProp ((o.kd : Int) = (9 : Int)) rfl (fun j0 => ?_) (fun j0 => ?_)
              ·refine go 4 ?_
               obtain ⟨r1, r2, r3, r4⟩ := wa9 j0
               exact ⟨_, rfl, by rw [r1, r2, r3, r4]; rfl, H3.chg⟩
              ·refine go 2 ?_
               refine condProp ((o.kd : Int) = (15 : Int)) rfl (fun k0 => ?_) (fun k0 => ?_)
               ·refine go 4 ?_
                obtain ⟨r1, r2, r3, r4⟩ := wa15 k0
                exact ⟨_, rfl, by rw [r1, r2, r3, r4]; rfl, H3.chg⟩
               ·refine go 2 ?_
                refine condProp ((o.kd : Int) = (16 : Int)) rfl (fun l0 => ?_) (fun l0 => ?_)
                ·refine go 4 ?_
                 obtain ⟨r1, r2, r3, r4⟩ := wa16 l0
                 exact ⟨_, rfl, by rw [r1, r2, r3, r4]; rfl, H3.chg⟩
                ·refine go 2 ?_
                 refine condProp ((o.kd : Int) = (17 : Int)) rfl (fun b0 => ?_) (fun b0 => ?_)
                 ·obtain ⟨hop1, hop2⟩ := nop_op (garb_of b0 hok).1
                  have hg17 := (garb_of b0 hok).1
                  unfold opG at hop1
                  refine go 4 ?_
                  refine cl (rnop_ok o.k o.c w2) ?_
                  rintro _ w5 ⟨rfl, o0⟩
                  have H7 := H3.ext o0
                  refine go 3 ?_
                  refine condProp (((nopS o.k o.c : Nat) : Int) = (0 : Int)) rfl (fun p0 => ?_) (fun p0 => ?_)
                  ·refine go 4 ?_
                   exact absurd om hg17
                  ·refine go 3 ?_
                   refine condProp (((nopS o.k o.c : Nat) : Int) = (2 : Int)) rfl (fun q0 => ?_) (fun q0 => ?_)
                   ·have r0 : o.k ≠ 1 := fun e => by rw [if_pos e] at hop1; omega
                    refine go 4 ?_
                    refine sq (r_64toI und34 und3 (a := (o.c / (2#64)) % (2#64)) rfl) (sq (r_addI rfl rfl om) (sAv (wnil (thenNormal (sR (sq (r_fieldAddr (off' := 4) fld36_4 (by decide) (b := b1) (off := 0) rfl om) (sq (r_loadC (v := u64 (o.c)) one34 (H7.get (k := 0) rfl) (off := 4) rfl (by rfl)) (sq (r_rem64 (a := o.c) (b := 2#64) rfl rfl (by decide)) (sq (r_64toI und34 und3 (a := o.c % (2#64)) rfl) (sq (r_addI rfl rfl om) ?_))))))))))
                    refine go 5 ?_
                    obtain ⟨r1, r2, r3, r4⟩ := wa17 hok b0
                    exact ⟨_, rfl, by rw [r1, r2, r3, r4, if_neg om, ← fo_rem o.c, ← half_shift, ← fo_rem (o.c / 2#64)]; rfl, H7.chg⟩
                   ·have r0 : o.k = 1 := by
                     by_cases e : o.k = 1
                     ·exact e
                     ·rw [if_neg e] at hop1; omega
                    refine skipAny (thenNormal (sR (sq (r_fieldAddr (off' := 4) fld36_4 (by decide) (b := b1) (off := 0) rfl om) (sq (r_loadC (v := u64 (o.c)) one34 (H7.get (k := 0) rfl) (off := 4) rfl (by rfl)) (sq (r_rem64 (a := o.c) (b := 2#64) rfl rfl (by decide)) (sq (r_64toI und34 und3 (a := o.c % (2#64)) rfl) (sq (r_addI rfl rfl om) ?_)))))))
                    refine go 5 ?_
                    obtain ⟨r1, r2, r3, r4⟩ := wa17 hok b0
                    exact ⟨_, rfl, by rw [r1, r2, r3, r4, if_pos om, ← fo_rem o.c]; rfl, H7.chg⟩
                 ·refine go 2 ?_
                  refine condProp ((o.kd : Int) = (18 : Int)) rfl (fun m0 => ?_) (fun m0 => ?_)
                  ·refine go 4 ?_
                   obtain ⟨r1, r2, r3, r4⟩ := wa18 m0
                   exact ⟨_, rfl, by rw [r1, r2, r3, r4]; rfl, H3.chg⟩
                  ·refine go 2 ?_
                   refine condProp ((o.kd : Int) = (19 : Int)) rfl (fun n0 => ?_) (fun n0 => ?_)
                   ·refine go 4 ?_
                    obtain ⟨r1, r2, r3, r4⟩ := wa19 n0
                    exact ⟨_, rfl, by rw [r1, r2, r3, r4]; rfl, H3.chg⟩
                   ·refine go 4 ?_
                    exact (wa_none hok fun k h1 h2 e => by omega).elim
end Go.Proofs.YtohngnahcgbfmaaGreatDoor.Mi
namespace Go.Proofs.YtohngnahcgbfmaaGreatDoor.Cm
open Go Vc Er Circ
theorem one100 : isOne Tryz.prog 100 = true := by kernel_rfl
theorem rmake_k1 (fm : BitVec 64) (hf : fm < 2#64) (w : World) : Calls Tryz.prog 66 [i64 (1 : Int), u64 fm].toArray w (Ret fun v w' => ∃ (key : Option Nat) (c : Nat) (sp : LV) (ko : Option Nat) (co : Nat) (so : LV), v = .agg #[i64 ((128 : Nat) : Int), sO key (mk1 (fbS fm 0)).1.length c, sO ko 64 co] ∧ Sl EG key (mk1 (fbS fm 0)).1 c sp ∧ Sl EI ko (mk1 (fbS fm 0)).2 co so ∧ Hp No w w' [(key, sob EG 210 (mk1 (fbS fm 0)).1 sp), (ko, sob EI 3 (mk1 (fbS fm 0)).2 so)]) := by
 let x3 : Array Value := #[i64 0, sN0, sN0]
 have H := Hp.start No w
 refine enter (n := 151) Tryz.func66 rfl rfl (bLe rfl) ?_
 refine go 1 ?_
 intro b1 w2 j2 H3 k2
 refine go 2 ?_
 refine cl ((by have h := rnop_ok (1 : Int) fm w2; rw [nop_one fm hf] at h; exact h)) ?_
 rintro _ w5 ⟨rfl, V0⟩
 have H7 := H3.ext V0
 refine go 2 ?_
 refine sq ((r_mulI rfl rfl om).as (v' := iN 128) (by rfl)) ?_
 refine go 2 ?_
 intro b8 w9 l2 m2 n2
 refine go 1 ?_
 intro W0 X0 o2
 have Y0 := X0.nil (sob EG 210 [] [])
 have Z0 := Y0.a3 rfl
 refine go 5 ?_
 refine sq ((r_eql64 (a := fm % (2#64)) (b := 1#64) rfl rfl).as (v' := .bool (fbS fm 0)) (by exact congrArg Value.bool (fb_rem0 fm))) ?_
 have c1 := Z0.b1 rfl
 refine cl (rop_ok 128 none 0 ([]) ([] : List Gt) Sl.none om (by exact Nat.zero_le _) none 0 0 0 64 om om (fbS fm 0) ([(rC b8 #[iN 128, sO none (List.length ([] : List Gt)) 0, sN0] 175), (rC b1 x3 175)]) w W0 c1) ?_
 rintro _ p2 ⟨B0, C0, d1, D0, e1, g1, rfl, E0, hO27, F0⟩
 obtain ⟨o1, ho1⟩ : ∃ q, q = opS 128 ([] : List Gt) 0 64 (fbS fm 0) := ⟨_, rfl⟩
 let x2 : RW := (D0, sob EI 3 o1.2 g1)
 rw [← ho1] at E0 hO27 F0 ⊢
 have G0 := opS_len 128 ([] : List Gt) 0 64 (fbS fm 0)
 rw [← ho1] at G0
 have q2 := F0.a4 rfl
 refine go 4 ?_
 intro h1 i1 r2
 refine go 1 ?_
 simp only [List.length_nil] at G0
 refine go 1 ?_
 refine sq ((r_eqlI rfl rfl).as (v' := .bool false) (by rfl)) ?_
 refine go 1 ?_
 have j1 := i1.b1 rfl
 refine cl (rput_ok 128 B0 C0 d1 o1.1 E0 om om none 0 0 (1 : Int) (0 : Int) (0 : Int) ([x2, (rC b8 #[iN 128, sO B0 (List.length o1.1) C0, sN0] 175), (rC b1 x3 175)]) w h1 j1) ?_
 rintro _ s2 ⟨t2, k0, q0, s0, k1, rfl, l1, m1⟩
 have u2 := m1.a4 rfl
 refine go 4 ?_
 intro n1 p1 y2
 refine go 1 ?_
 subst k1
 have H0 : o1.1 ++ [(⟨(1 : Int), (0 : Int), (0 : Int)⟩ : Gt)] = ze o1.1 := by rfl
 have I0 := l1
 rw [H0] at I0
 have q1 : Hp No w n1 [(k0, sob EG 210 (ze o1.1) s0), x2, (rC b8 #[iN 128, sO k0 (List.length (ze o1.1)) q0, sN0] 175), (rC b1 x3 175)] := by rw [← H0]; exact p1
 have hzl : (ze o1.1).length = o1.1.length + 1 := by simp [ze]
 refine go 1 ?_
 refine sq ((r_eqlI rfl rfl).as (v' := .bool true) (by rfl)) ?_
 refine go 1 ?_
 have r1 := (q1.pk 4 [0, 2, 1, 3])
 let o0 : List RW := [x2, (rC b1 x3 175)]
 let u0 := fun (b0 : Option Nat) (e0 : LV) => ((b0, sob EG 210 ((ze o1.1) ++ [(⟨(3 : Int), (o1.2).getD 63 0, (0 : Int)⟩ : Gt)]) e0) : RW)
 let J0 := ((rC b8 #[iN 128, sO k0 (List.length (ze o1.1)) q0, sN0] 175) : RW)
 let s1 : Tab := [zt2 false false fun _ _ w' => Hp No w w' ((k0, sob EG 210 (ze o1.1) s0) :: J0 :: o0), zt2 true false fun v4 _ w' => ∃ b0 f0 e0 h0, v4 = .tuple #[.agg #[iN 128, sO b0 (List.length ((ze o1.1) ++ [(⟨(3 : Int), (o1.2).getD 63 0, (0 : Int)⟩ : Gt)])) f0, sN0], i64 h0] ∧ Sl EG b0 ((ze o1.1) ++ [(⟨(3 : Int), (o1.2).getD 63 0, (0 : Int)⟩ : Gt)]) f0 e0 ∧ h0 = wrW 128 (ze o1.1) ∧ Hp No w w' ((u0 b0 e0) :: J0 :: o0), zt2 true true fun v4 _ w' => ∃ b0 f0 e0 h0, v4 = .tuple #[.agg #[iN 128, sO b0 (List.length ((ze o1.1) ++ [(⟨(3 : Int), (o1.2).getD 63 0, (0 : Int)⟩ : Gt)])) f0, sN0], i64 h0] ∧ Sl EG b0 ((ze o1.1) ++ [(⟨(3 : Int), (o1.2).getD 63 0, (0 : Int)⟩ : Gt)]) f0 e0 ∧ h0 = wrW 128 (ze o1.1) ∧ Hp No w w' ((u0 b0 e0) :: (rC b8 #[iN 128, sO b0 (List.length ((ze o1.1) ++ [(⟨(3 : Int), (o1.2).getD 63 0, (0 : Int)⟩ : Gt)])) f0, sN0] 175) :: o0)]
 refine drawH (m := 10) [0, 0, 2, 6, 15, 31, 63, 63, 127, 511] [4, 8] o0 s1 mixed (fun _ e => r1.ext e) (A_ (fun _ _ h => h.drop1.drop1) (A_ (fun _ _ ⟨_, _, _, _, _, _, _, h⟩ => h.drop1.drop1) (A_ (fun _ _ ⟨_, _, _, _, _, _, _, h⟩ => h.drop1.drop1) trivial))) (fun K0 => ?_)
 refine gk 4 ?_
 refine WalkT.eff K0 0 ?_ ?_
 ·refine A_ (fun r w0 uw hF hE => ?_) trivial
  have t1 := hF.ext hE
  refine gW fun Q' hK => ?_
  have u1 := t1.b1 rfl
  refine cl (rput_ok 128 k0 q0 s0 (ze o1.1) I0 om om none 0 0 (3 : Int) ((o1.2).getD 63 0) (0 : Int) ([(rC b8 #[iN 128, sO k0 (List.length (ze o1.1)) q0, sN0] 175), x2, (rC b1 x3 175)]) w uw u1) ?_
  rintro _ z2 ⟨w1, y1, z1, A1, B1, rfl, C1, D1⟩
  have E1 := D1.a4 rfl
  exact hK _ _ (E_ y1 (E_ z1 (E_ A1 (E_ w1 (A_ rfl (A_ C1 (A_ B1 E1)))))))
 refine WalkT.hand (fun r => r 4) (fun r r' h => h 4 (by decide) rfl) (fun _ _ => r_move rfl) ?_
 refine WalkT.lookS (fun r => proj (r 4) 0) (fun r r' h => by rw [h 4 (by decide) rfl]) ?_ ?_
 ·refine A_ (fun r w0 uw hF hE => ?_) trivial
  obtain ⟨b0, f0, e0, h0, e4, l0, m0, HH⟩ := hF
  replace HH := HH.ext hE
  dsimp only
  rw [e4]
  exact vGr
 refine WalkT.lookS (fun r => proj (r 4) 1) (fun r r' h => by rw [h 4 (by decide) rfl]) ?_ ?_
 ·refine A_ (fun r w0 uw hF hE => ?_) (A_ (fun r w0 uw hF hE => ?_) trivial)
  ·obtain ⟨b0, f0, e0, h0, e4, l0, m0, HH⟩ := hF
   replace HH := HH.ext hE
   dsimp only
   rw [e4]
   exact vGr
  ·obtain ⟨b0, f0, e0, h0, e4, l0, m0, HH⟩ := hF
   replace HH := HH.ext hE
   dsimp only
   rw [e4]
   exact vGr
 refine WalkT.eff K0 1 ?_ ?_
 ·refine A_ (fun r w0 uw hF hE => ?_) trivial
  obtain ⟨b0, f0, e0, h0, e4, l0, m0, L0⟩ := hF
  replace L0 := L0.ext hE
  dsimp only
  rw [e4]
  refine gW0 fun Q' hK => ?_
  refine go 1 ?_
  intro A2 F1 B2
  exact hK _ (fun _ => (E_ b0 (E_ f0 (E_ e0 (E_ h0 (A_ e4 (A_ l0 (A_ m0 F1))))))))
 refine WalkT.hand (fun r => proj (r 4) 1) (fun r r' h => by rw [h 4 (by decide) rfl]) (fun _ _ => r_assign rfl) ?_
 refine WalkT.nil ?_
 intro r w0 C2 hF hE
 obtain ⟨b0, f0, e0, h0, e4, l0, m0, r0⟩ := hF
 replace r0 := r0.ext hE
 dsimp only
 rw [e4]
 dsimp only [o0, u0] at r0
 subst m0
 have hgl : (ze o1.1 ++ [(⟨3, o1.2.getD 63 0, 0⟩ : Gt)]).length = o1.1.length + 2 := by rw [List.length_append, hzl]; rfl
 have G1 := r0.nil (sob EI 3 [] [])
 have H1 := G1.a5 rfl
 refine go 1 ?_
 refine loopAny (σ := Nat × Option Nat × Nat × LV × Option Nat × Nat × LV) (fun (i, ky, cy, sy, ku, cu, su) => [(4, pT b1), (6, pT b8), (7, sO D0 64 e1), (9, i64 ((wrW 128 o1.1))), (10, i64 ((wrW 128 (ze o1.1)))), (11, iN i)]) (fun (i, ky, cy, sy, ku, cu, su) w' => (i ≤ 63 ∧ Sl EG ky (reS 128 (ze o1.1 ++ [(⟨3, o1.2.getD 63 0, 0⟩ : Gt)]) (wrW 128 (ze o1.1)) o1.2 i).1 cy sy ∧ Sl EI ku (reS 128 (ze o1.1 ++ [(⟨3, o1.2.getD 63 0, 0⟩ : Gt)]) (wrW 128 (ze o1.1)) o1.2 i).2 cu su) ∧ Hp No w w' [(ky, sob EG 210 ((reS 128 (ze o1.1 ++ [(⟨3, o1.2.getD 63 0, 0⟩ : Gt)]) (wrW 128 (ze o1.1)) o1.2 i).1) sy), (ku, sob EI 3 ((reS 128 (ze o1.1 ++ [(⟨3, o1.2.getD 63 0, 0⟩ : Gt)]) (wrW 128 (ze o1.1)) o1.2 i).2) su), (rC b8 #[iN 128, sO ky (List.length ((reS 128 (ze o1.1 ++ [(⟨3, o1.2.getD 63 0, 0⟩ : Gt)]) (wrW 128 (ze o1.1)) o1.2 i).1)) cy, sO ku i cu] 175), (rC b1 x3 175), x2]) (fun (i, ky, cy, sy, ku, cu, su) => 63 - i) ((0, b0, f0, e0, none, 0, [])) ?_ ?_ ?_
 ·exact kp
 ·exact ⟨⟨om, l0, Sl.none⟩, (H1.pk 5 [1, 0, 2, 4, 3])⟩
 rintro ⟨i, ky, cy, sy, ku, cu, su⟩ ρ D2 ⟨⟨hq, hSy, hSu⟩, HL⟩
 let x4 : RW := (ku, sob EI 3 ((reS 128 (ze o1.1 ++ [(⟨3, o1.2.getD 63 0, 0⟩ : Gt)]) (wrW 128 (ze o1.1)) o1.2 i).2) su)
 let x1 : Array Value := #[iN 128, sO ky (List.length ((reS 128 (ze o1.1 ++ [(⟨3, o1.2.getD 63 0, 0⟩ : Gt)]) (wrW 128 (ze o1.1)) o1.2 i).1)) cy, sO ku i cu]
 have hre := reS_len 128 (ze o1.1 ++ [(⟨3, o1.2.getD 63 0, 0⟩ : Gt)]) (wrW 128 (ze o1.1)) o1.2 i
 refine go 2 ?_
 refine condProp (((i : Nat) : Int) < (63 : Int)) rfl (fun I1 => ?_) (fun I1 => ?_)
 ·refine go 1 ?_
  have J1 := (HL.pk 5 [0, 2, 1, 3, 4])
  let p0 : List RW := [x4, (rC b1 x3 175), x2]
  let x0 := fun (a0 : Option Nat) (c0 : LV) => ((a0, sob EG 210 (((reS 128 (ze o1.1 ++ [(⟨3, o1.2.getD 63 0, 0⟩ : Gt)]) (wrW 128 (ze o1.1)) o1.2 i).1) ++ [(⟨(2 : Int), (wrW 128 (ze o1.1)), (o1.2).getD i 0⟩ : Gt)]) c0) : RW)
  let M0 := ((rC b8 x1 175) : RW)
  let y0 := fun (a0 : Option Nat) (d0 : Nat) (c0 : LV) => (Sl EG a0 (((reS 128 (ze o1.1 ++ [(⟨3, o1.2.getD 63 0, 0⟩ : Gt)]) (wrW 128 (ze o1.1)) o1.2 i).1) ++ [(⟨(2 : Int), (wrW 128 (ze o1.1)), (o1.2).getD i 0⟩ : Gt)]) d0 c0 : Prop)
  let K1 : Tab := [zt2 false false fun _ _ w' => Hp No w w' ((ky, sob EG 210 ((reS 128 (ze o1.1 ++ [(⟨3, o1.2.getD 63 0, 0⟩ : Gt)]) (wrW 128 (ze o1.1)) o1.2 i).1) sy) :: M0 :: p0), zt2 true false fun v6 _ w' => ∃ a0 d0 c0 i0, v6 = .tuple #[.agg #[iN 128, sO a0 (List.length (((reS 128 (ze o1.1 ++ [(⟨3, o1.2.getD 63 0, 0⟩ : Gt)]) (wrW 128 (ze o1.1)) o1.2 i).1) ++ [(⟨(2 : Int), (wrW 128 (ze o1.1)), (o1.2).getD i 0⟩ : Gt)])) d0, sO ku i cu], i64 i0] ∧ (y0 a0 d0 c0) ∧ i0 = wrW 128 ((reS 128 (ze o1.1 ++ [(⟨3, o1.2.getD 63 0, 0⟩ : Gt)]) (wrW 128 (ze o1.1)) o1.2 i).1) ∧ Hp No w w' ((x0 a0 c0) :: M0 :: p0), zt2 true true fun v6 _ w' => ∃ a0 d0 c0 i0, v6 = .tuple #[.agg #[iN 128, sO a0 (List.length (((reS 128 (ze o1.1 ++ [(⟨3, o1.2.getD 63 0, 0⟩ : Gt)]) (wrW 128 (ze o1.1)) o1.2 i).1) ++ [(⟨(2 : Int), (wrW 128 (ze o1.1)), (o1.2).getD i 0⟩ : Gt)])) d0, sO ku i cu], i64 i0] ∧ (y0 a0 d0 c0) ∧ i0 = wrW 128 ((reS 128 (ze o1.1 ++ [(⟨3, o1.2.getD 63 0, 0⟩ : Gt)]) (wrW 128 (ze o1.1)) o1.2 i).1) ∧ Hp No w w' ((x0 a0 c0) :: (rC b8 #[iN 128, sO a0 (List.length (((reS 128 (ze o1.1 ++ [(⟨3, o1.2.getD 63 0, 0⟩ : Gt)]) (wrW 128 (ze o1.1)) o1.2 i).1) ++ [(⟨(2 : Int), (wrW 128 (ze o1.1)), (o1.2).getD i 0⟩ : Gt)])) d0, sO ku i cu] 175) :: p0)]
  refine drawH (m := 12) [0, 0, 0, 0, 12, 28, 63, 127, 255, 255, 511, 2047] [6, 10] p0 K1 mixed (fun _ e => J1.ext e) (A_ (fun _ _ h => h.drop1.drop1) (A_ (fun _ _ ⟨_, _, _, _, _, _, _, h⟩ => h.drop1.drop1) (A_ (fun _ _ ⟨_, _, _, _, _, _, _, h⟩ => h.drop1.drop1) trivial))) (fun N0 => ?_)
  refine gk 6 ?_
  refine WalkT.eff N0 0 ?_ ?_
  ·refine A_ (fun r w0 uw hF hE => ?_) trivial
   have L1 := hF.ext hE
   refine gW fun Q' hK => ?_
   have M1 := L1.as (L' := (_ :: ([(rC b8 x1 175), x4, (rC b1 x3 175), x2]))) rfl
   refine cl (rput_ok 128 ky cy sy ((reS 128 (ze o1.1 ++ [(⟨3, o1.2.getD 63 0, 0⟩ : Gt)]) (wrW 128 (ze o1.1)) o1.2 i).1) hSy om om (ownA ku) i cu (2 : Int) (wrW 128 (ze o1.1)) ((o1.2).getD i 0) ([(rC b8 x1 175), x4, (rC b1 x3 175), x2]) w uw M1) ?_
   rintro _ E2 ⟨N1, O1, P1, Q1, R1, rfl, S1, T1⟩
   have U1 := T1.a5 rfl
   exact hK _ _ (E_ O1 (E_ P1 (E_ Q1 (E_ N1 (A_ rfl (A_ S1 (A_ R1 U1)))))))
  refine WalkT.hand (fun r => r 6) (fun r r' h => h 6 (by decide) rfl) (fun _ _ => r_move rfl) ?_
  refine WalkT.lookS (fun r => proj (r 6) 0) (fun r r' h => by rw [h 6 (by decide) rfl]) ?_ ?_
  ·refine A_ (fun r w0 uw hF hE => ?_) trivial
   obtain ⟨a0, d0, c0, i0, e6, j0, n0, HH⟩ := hF
   replace HH := HH.ext hE
   dsimp only
   rw [e6]
   exact vGr
  refine WalkT.lookS (fun r => proj (r 6) 1) (fun r r' h => by rw [h 6 (by decide) rfl]) ?_ ?_
  ·refine A_ (fun r w0 uw hF hE => ?_) (A_ (fun r w0 uw hF hE => ?_) trivial)
   ·obtain ⟨a0, d0, c0, i0, e6, j0, n0, HH⟩ := hF
    replace HH := HH.ext hE
    dsimp only
    rw [e6]
    exact vGr
   ·obtain ⟨a0, d0, c0, i0, e6, j0, n0, HH⟩ := hF
    replace HH := HH.ext hE
    dsimp only
    rw [e6]
    exact vGr
  refine WalkT.eff N0 1 ?_ ?_
  ·refine A_ (fun r w0 uw hF hE => ?_) trivial
   obtain ⟨a0, d0, c0, i0, e6, j0, n0, O0⟩ := hF
   replace O0 := O0.ext hE
   dsimp only
   rw [e6]
   refine gW0 fun Q' hK => ?_
   refine go 1 ?_
   intro F2 V1 G2
   exact hK _ (fun _ => (E_ a0 (E_ d0 (E_ c0 (E_ i0 (A_ e6 (A_ j0 (A_ n0 V1))))))))
  refine WalkT.hand (fun r => proj (r 6) 1) (fun r r' h => by rw [h 6 (by decide) rfl]) (fun _ _ => r_assign rfl) ?_
  refine WalkT.nil ?_
  intro r w0 H2 hF hE
  obtain ⟨a0, d0, c0, i0, e6, j0, n0, z0⟩ := hF
  replace z0 := z0.ext hE
  dsimp only
  rw [e6]
  dsimp only [y0] at j0
  dsimp only [p0, x0] at z0
  subst n0
  refine go 3 ?_
  refine bS (E := EI) (l := [(wrW 128 ((reS 128 (ze o1.1 ++ [(⟨3, o1.2.getD 63 0, 0⟩ : Gt)]) (wrW 128 (ze o1.1)) o1.2 i).1))]) ?_
  intro W1 I2 J2 K2 L2
  refine apq ?_
  refine ⟨by exact hre.2.symm, by rfl, om, ?_⟩
  intro A0 P0 Q0 M2 X1 N2 O2
  refine go 2 ?_
  intro Y1 Z1 P2
  refine go 3 ?_
  have R0 : ((reS 128 (ze o1.1 ++ [(⟨3, o1.2.getD 63 0, 0⟩ : Gt)]) (wrW 128 (ze o1.1)) o1.2 i).1) ++ [(⟨(2 : Int), (wrW 128 (ze o1.1)), (o1.2).getD i 0⟩ : Gt)] = (reS 128 (ze o1.1 ++ [(⟨3, o1.2.getD 63 0, 0⟩ : Gt)]) (wrW 128 (ze o1.1)) o1.2 (i + 1)).1 := by rfl
  have S0 := j0
  rw [R0] at S0
  have c2 : Hp No w Y1 [((some W1), sob EI 3 ([(wrW 128 ((reS 128 (ze o1.1 ++ [(⟨3, o1.2.getD 63 0, 0⟩ : Gt)]) (wrW 128 (ze o1.1)) o1.2 i).1))]) ([])), (a0, sob EG 210 ((reS 128 (ze o1.1 ++ [(⟨3, o1.2.getD 63 0, 0⟩ : Gt)]) (wrW 128 (ze o1.1)) o1.2 (i + 1)).1) c0), (rC b8 #[iN 128, sO a0 (List.length ((reS 128 (ze o1.1 ++ [(⟨3, o1.2.getD 63 0, 0⟩ : Gt)]) (wrW 128 (ze o1.1)) o1.2 (i + 1)).1)) d0, sO A0 (i + 1) P0] 175), (A0, sob EI 3 (((reS 128 (ze o1.1 ++ [(⟨3, o1.2.getD 63 0, 0⟩ : Gt)]) (wrW 128 (ze o1.1)) o1.2 i).2) ++ ([(wrW 128 ((reS 128 (ze o1.1 ++ [(⟨3, o1.2.getD 63 0, 0⟩ : Gt)]) (wrW 128 (ze o1.1)) o1.2 i).1))])) Q0), (rC b1 x3 175), x2] := by rw [← R0]; exact Z1
  have d2 : ((reS 128 (ze o1.1 ++ [(⟨3, o1.2.getD 63 0, 0⟩ : Gt)]) (wrW 128 (ze o1.1)) o1.2 i).2) ++ ([(wrW 128 ((reS 128 (ze o1.1 ++ [(⟨3, o1.2.getD 63 0, 0⟩ : Gt)]) (wrW 128 (ze o1.1)) o1.2 i).1))]) = (reS 128 (ze o1.1 ++ [(⟨3, o1.2.getD 63 0, 0⟩ : Gt)]) (wrW 128 (ze o1.1)) o1.2 (i + 1)).2 := by rfl
  have T0 := X1
  have U0 := c2
  rw [d2] at T0 U0
  exact ⟨(i + 1, a0, d0, c0, A0, P0, Q0), _, rfl, kp, ⟨⟨om, S0, T0⟩, (U0.pk 6 [1, 3, 2, 4, 5])⟩, vd⟩
 ·have hj : i = 63 := by omega
  refine go 3 ?_
  refine bS (E := EI) (l := [(wrW 128 o1.1)]) ?_
  intro Q2 R2 S2 T2 U2
  refine apq ?_
  refine ⟨by exact hre.2.symm, by rfl, om, ?_⟩
  intro e2 f2 g2 V2 h2 X2 Y2
  refine go 2 ?_
  intro Z2 c3 d3
  refine go 2 ?_
  intro e3 i2 f3
  refine go 0 ?_
  subst hj
  rw [show (mk1 (fbS fm 0)) = _ from mk1_eq _, ← ho1]
  exact ⟨_, rfl, ky, cy, sy, e2, f2, g2, rfl, hSy, h2, ((((i2.dropk 5).dropk 4).dropk 3).dropk 0)⟩
end Go.Proofs.YtohngnahcgbfmaaGreatDoor.Cm
namespace Go.Proofs.YtohngnahcgbfmaaGreatDoor.Cm
open Go Vc Er Circ
attribute [local irreducible] leG opS
theorem rmake_k2 (fm : BitVec 64) (hf : fm < 4#64) (w : World) : Calls Tryz.prog 66 [i64 (2 : Int), u64 fm].toArray w (Ret fun v w' => ∃ (key : Option Nat) (c : Nat) (sp : LV) (ko : Option Nat) (co : Nat) (so : LV), v = .agg #[i64 ((256 : Nat) : Int), sO key (mk2 (fbS fm 0) (fbS fm 1)).1.length c, sO ko 64 co] ∧ Sl EG key (mk2 (fbS fm 0) (fbS fm 1)).1 c sp ∧ Sl EI ko (mk2 (fbS fm 0) (fbS fm 1)).2 co so ∧ Hp No w w' [(key, sob EG 210 (mk2 (fbS fm 0) (fbS fm 1)).1 sp), (ko, sob EI 3 (mk2 (fbS fm 0) (fbS fm 1)).2 so)]) := by
 let x1 : Array Value := #[i64 0, sN0, sN0]
 have H := Hp.start No w
 refine enter (n := 151) Tryz.func66 rfl rfl (bLe rfl) ?_
 refine go 1 ?_
 intro b1 w2 C1 H3 D1
 refine go 2 ?_
 refine cl ((by have h := rnop_ok (2 : Int) fm w2; rw [nop_two fm hf] at h; exact h)) ?_
 rintro _ w5 ⟨rfl, E0⟩
 have H7 := H3.ext E0
 refine go 2 ?_
 refine sq ((r_mulI rfl rfl om).as (v' := iN 256) (by rfl)) ?_
 refine go 2 ?_
 intro b8 w9 E1 F1 G1
 refine go 1 ?_
 intro F0 G0 H1
 have H0 := G0.nil (sob EG 210 [] [])
 have I0 := H0.a3 rfl
 refine go 5 ?_
 refine sq ((r_eql64 (a := fm % (2#64)) (b := 1#64) rfl rfl).as (v' := .bool (fbS fm 0)) (by exact congrArg Value.bool (fb_rem0 fm))) ?_
 have J0 := I0.b1 rfl
 refine cl (rop_ok 256 none 0 ([]) ([] : List Gt) Sl.none om (by exact Nat.zero_le _) none 0 0 0 64 om om (fbS fm 0) ([(rC b8 #[iN 256, sO none (List.length ([] : List Gt)) 0, sN0] 175), (rC b1 x1 175)]) w F0 J0) ?_
 rintro _ I1 ⟨f0, h0, K0, b0, L0, i0, rfl, j0, hO27, k0⟩
 obtain ⟨o1, ho1⟩ : ∃ q, q = opS 256 ([] : List Gt) 0 64 (fbS fm 0) := ⟨_, rfl⟩
 rw [← ho1] at j0 hO27 k0 ⊢
 have c0 := opS_len 256 ([] : List Gt) 0 64 (fbS fm 0)
 rw [← ho1] at c0
 have J1 := k0.a4 rfl
 refine go 4 ?_
 intro M0 N0 K1
 refine go 1 ?_
 simp only [List.length_nil] at c0
 refine go 1 ?_
 refine sq ((r_eqlI rfl rfl).as (v' := .bool true) (by rfl)) ?_
 refine go 4 ?_
 refine sq ((r_eql64 (a := (fm / (2#64)) % (2#64)) (b := 1#64) rfl rfl).as (v' := .bool (fbS fm 1)) (by exact congrArg Value.bool (fb_rem1 fm))) ?_
 have O0 := N0.b1 rfl
 refine cl (rop_ok 256 f0 h0 K0 o1.1 j0 om om none 0 0 128 192 om om (fbS fm 1) ([(b0, sob EI 3 o1.2 i0), (rC b8 #[iN 256, sO f0 (List.length o1.1) h0, sN0] 175), (rC b1 x1 175)]) w M0 O0) ?_
 rintro _ L1 ⟨l0, m0, P0, n0, Q0, R0, rfl, o0, hO43, p0⟩
 obtain ⟨o2, ho2⟩ : ∃ q, q = opS 256 o1.1 128 192 (fbS fm 1) := ⟨_, rfl⟩
 let x3 : RW := (b0, sob EI 3 o1.2 i0)
 let x2 : RW := (n0, sob EI 3 o2.2 R0)
 rw [← ho2] at o0 hO43 p0 ⊢
 have q0 := opS_len 256 o1.1 128 192 (fbS fm 1)
 rw [← ho2] at q0
 have M1 := p0.a5 rfl
 refine go 4 ?_
 intro S0 T0 N1
 refine go 2 ?_
 have U0 := T0.b1 rfl
 refine cl (rput_ok 256 l0 m0 P0 o2.1 o0 om om none 0 0 (1 : Int) (0 : Int) (0 : Int) ([x2, x3, (rC b8 #[iN 256, sO l0 (List.length o2.1) m0, sN0] 175), (rC b1 x1 175)]) w S0 U0) ?_
 rintro _ O1 ⟨P1, a0, d0, r0, V0, rfl, W0, X0⟩
 have Q1 := X0.a5 rfl
 refine go 4 ?_
 intro s0 Y0 R1
 refine go 1 ?_
 subst V0
 have u0 : o2.1 ++ [(⟨(1 : Int), (0 : Int), (0 : Int)⟩ : Gt)] = ze o2.1 := by rfl
 have w0 := W0
 rw [u0] at w0
 have Z0 : Hp No w s0 [(a0, sob EG 210 (ze o2.1) r0), x2, x3, (rC b8 #[iN 256, sO a0 (List.length (ze o2.1)) d0, sN0] 175), (rC b1 x1 175)] := by rw [← u0]; exact Y0
 have hzl : (ze o2.1).length = o2.1.length + 1 := by simp [ze]
 refine go 1 ?_
 refine sq ((r_eqlI rfl rfl).as (v' := .bool false) (by rfl)) ?_
 refine go 4 ?_
 have c1 := Z0.b1 rfl
 refine cl (rless_ok 256 a0 d0 r0 (ze o2.1) w0 om om none 0 0 o1.2 o2.2 (by exact c0.2) (by exact q0.2) (ownA b0) (ownA n0) L0 Q0 ([x2, x3, (rC b8 #[iN 256, sO a0 (List.length (ze o2.1)) d0, sN0] 175), (rC b1 x1 175)]) w s0 (fun w' _ hR => rdKept hO27 (List.mem_of_getElem? (i := 1) rfl) hR) (fun w' _ hR => rdKept hO43 (List.mem_of_getElem? (i := 0) rfl) hR) c1) ?_
 rintro _ S1 ⟨T1, e0, x0, y0, d1, rfl, e1, g1⟩
 have U1 := g1.a5 rfl
 refine go 4 ?_
 intro V1 h1 W1
 refine go 1 ?_
 subst d1
 have hlg := leG_len 256 (ze o2.1) o1.2 o2.2
 have i1 := h1.nil (sob EI 3 [] [])
 have X1 := i1.a6 rfl
 refine go 1 ?_
 refine sq ((r_eqlI rfl rfl).as (v' := .bool true) (by rfl)) ?_
 refine go 3 ?_
 refine bS (E := EI) (l := [((leG 256 (ze o2.1) o1.2 o2.2).2)]) ?_
 intro Y1 Z1 j1 z0 c2
 refine q_append (E := EI) (k := 1) (l := ([] : List Int)) (l2 := [((leG 256 (ze o2.1) o1.2 o2.2).2)]) z0 rfl Sl.none sli100 zer3 rfl byt3 (z0.rd (k := 0) rfl j1) rfl (by rfl) rfl (by rfl) om ?_
 intro k1 l1 m1 d2 n1 e2 p1
 have f2 := p1.a7 rfl
 refine go 2 ?_
 intro g2 q1 h2
 have r1 : ([] : List Int) ++ ([((leG 256 (ze o2.1) o1.2 o2.2).2)]) = (leG 256 (ze o2.1) o1.2 o2.2).2 :: List.replicate 0 (wrW 256 o2.1) := by rfl
 have A0 := n1
 have B0 := q1
 rw [r1] at A0 B0
 refine go 1 ?_
 refine loopAny (σ := Nat × Option Nat × Nat × LV) (fun (i, ku, cu, su) => [(4, pT b1), (6, pT b8), (9, i64 ((wrW 256 o2.1))), (14, iN (i + 1))]) (fun (i, ku, cu, su) w' => (i ≤ 63 ∧ Sl EI ku ((leG 256 (ze o2.1) o1.2 o2.2).2 :: List.replicate i (wrW 256 o2.1)) cu su) ∧ Hp No w w' [(e0, sob EG 210 ((leG 256 (ze o2.1) o1.2 o2.2).1) y0), (ku, sob EI 3 ((leG 256 (ze o2.1) o1.2 o2.2).2 :: List.replicate i (wrW 256 o2.1)) su), (rC b8 #[iN 256, sO e0 (List.length ((leG 256 (ze o2.1) o1.2 o2.2).1)) x0, sO ku (i + 1) cu] 175), (rC b1 x1 175), x3, x2]) (fun (i, ku, cu, su) => 63 - i) ((0, k1, l1, m1)) ?_ ?_ ?_
 ·exact kp
 ·exact ⟨⟨om, A0⟩, (B0.pk 7 [2, 1, 5, 6, 4, 3])⟩
 rintro ⟨i, ku, cu, su⟩ ρ i2 ⟨⟨hq, hSu⟩, HL⟩
 refine go 2 ?_
 refine condProp ((((i + 1) : Nat) : Int) < (64 : Int)) rfl (fun s1 => ?_) (fun s1 => ?_)
 ·refine go 3 ?_
  refine bS (E := EI) (l := [(wrW 256 o2.1)]) ?_
  intro j2 k2 m2 n2 p2
  refine apq ?_
  refine ⟨by rw [List.length_cons, List.length_replicate], by rfl, om, ?_⟩
  intro t1 u1 w1 q2 y1 r2 s2
  refine go 2 ?_
  intro t2 z1 u2
  refine go 1 ?_
  refine sq ((r_addI rfl rfl om).as (v' := iN (i + 1 + 1)) (by rfl)) ?_
  refine go 1 ?_
  have A1 : ((leG 256 (ze o2.1) o1.2 o2.2).2 :: List.replicate i (wrW 256 o2.1)) ++ ([(wrW 256 o2.1)]) = (leG 256 (ze o2.1) o1.2 o2.2).2 :: List.replicate (i + 1) (wrW 256 o2.1) := by rw [List.replicate_succ']; rfl
  have C0 := y1
  have D0 := z1
  rw [A1] at C0 D0
  exact ⟨(i + 1, t1, u1, w1), _, rfl, kp, ⟨⟨om, C0⟩, (D0.dropk 0)⟩, vd⟩
 ·have hj : i = 63 := by omega
  refine go 2 ?_
  intro y2 B1 z2
  refine go 0 ?_
  subst hj
  rw [mk2_eq ho1 ho2]
  exact ⟨_, rfl, e0, x0, y0, ku, cu, su, rfl, e1, hSu, ((((B1.dropk 5).dropk 4).dropk 3).dropk 2)⟩
end Go.Proofs.YtohngnahcgbfmaaGreatDoor.Cm
