/- What the claim has need of: Mi, Mi2, Mi3, Mi4, Mi5, Mi6, TapeW, Corr, Corr2, Mi7, Mi8, FaultN, MicroTape, Mu, Mu2, Ms, Ms2, Ms3. -/
import Derived.Test.YtohngnahcgbfmaaGreatDoorWu3
set_option linter.unusedVariables false
set_option maxHeartbeats 16000000
set_option maxRecDepth 20000
namespace Go.Proofs.YtohngnahcgbfmaaGreatDoor.Mi
open Go Vc Er Ek Circ
theorem JW : OA Tryz.prog 29 = true := by kernel_rfl
theorem LT : jD Tryz.prog 29 = some (2, 1) := by kernel_rfl
theorem call64 : mA Tryz.prog 64 = true := by kernel_rfl
theorem iS : wC Tryz.prog 127 EI := OF (by kernel_rfl) (by kernel_rfl)
theorem OC : wC Tryz.prog 3 EI := OF (by kernel_rfl) (by kernel_rfl)
theorem wW : TB Tryz.prog 129 1 = some (1, 1, 127) := by kernel_rfl
theorem RJ : TB Tryz.prog 36 0 = some (0, 1, 33) := by kernel_rfl
theorem wM : TB Tryz.prog 36 3 = some (3, 1, 3) := by kernel_rfl
theorem vM : TB Tryz.prog 36 4 = some (4, 1, 34) := by kernel_rfl
theorem QJ : TB Tryz.prog 36 5 = some (5, 1, 3) := by kernel_rfl
theorem IK : xI Tryz.prog 31 = true := by kernel_rfl
theorem BA : Tryz.prog.follows .mixedOrders = true := by kernel_rfl
theorem mL : NA Tryz.prog 3 = true := by kernel_rfl
theorem yP : NA Tryz.prog 33 = true := by kernel_rfl
theorem dM : NA Tryz.prog 34 = true := by kernel_rfl
theorem pls129 : JI Tryz.prog 129 = some #[(0, 1), (1, 1), (2, 1), (3, 1), (4, 1), (5, 1), (6, 1)] := by kernel_rfl
theorem cL : UB Tryz.prog 104 = some 3 := by kernel_rfl
theorem siz129 : UB Tryz.prog 129 = some 7 := by kernel_rfl
theorem SV : UB Tryz.prog 29 = some 2 := by kernel_rfl
theorem sli74 : eD Tryz.prog 74 = some (127, 1) := by kernel_rfl
theorem zer129 : YB Tryz.prog 129 = some (.agg #[.int .i64 0, .int .i64 0, .int .i64 0, .int .i64 0, .bool false, .bool false, .int .i64 0]) := by kernel_rfl
theorem EV : YB Tryz.prog 29 = some (.agg (List.replicate 2 (.int .i64 0)).toArray) := by kernel_rfl
theorem UI (x : BitVec 64) (w : World) : Ca 81 [u64 x] w fun v w' => v = i64 (aO x) ∧ Ext w w' := by
 have H := Hp.start No w
 refine enter (n := 6) Tryz.func81 rfl rfl (dB rfl) ?_
 refine go 4 ?_
 refine iA ((x &&& (1#64)) = (1#64)) rfl (fun c5 => ?_) (fun c5 => ?_)
 ·refine go 1 ?_
  exact ⟨_, rfl, congrArg i64 (by rw [aO, if_pos c5]), H.chg⟩
 ·refine go 1 ?_
  exact ⟨_, rfl, congrArg i64 (by rw [aO, if_neg c5]), H.chg⟩
theorem fS (m q : Int) (w : World) : Ca 64 [i64 m, i64 q] w fun v w' => v = .bool (NN m q) ∧ Ext w w' := by
 have H := Hp.start No w
 refine enter (n := 16) Tryz.func64 rfl rfl (dB rfl) ?_
 refine go 5 ?_
 refine XA (B := (!(decide ((m : Int) = q)))) (v := i64 m) (eC (d' := 8) (B := true) rfl rfl rfl) (fun hB => CA (v := i64 m) rfl) (XA (B := (!(decide ((m : Int) = q)))) (v := .bool (decide ((m : Int) = (3 : Int)))) (eC (d' := 8) (B := true) rfl rfl rfl) (fun hB => by simp only [vD (v := _) (h := hB)]; exact iB rfl rfl) (XA (B := (!(decide ((m : Int) = q)))) (v := .bool (decide ((m : Int) = (3 : Int)))) (eC (d' := 8) (B := true) rfl rfl rfl) (fun hB => by simp only [vD (v := _) (h := hB)]; exact CA (v := .bool (decide ((m : Int) = (3 : Int)))) rfl) (XA (B := ((!(decide ((m : Int) = q))) && (decide ((m : Int) = (3 : Int))))) (v := i64 q) (wA (d' := 11) (B := (!(decide ((m : Int) = q)))) rfl rfl rfl) (fun hB => CA (v := i64 q) rfl) (XA (B := ((!(decide ((m : Int) = q))) && (decide ((m : Int) = (3 : Int))))) (v := .bool (decide ((q : Int) ≠ (0 : Int)))) (wA (d' := 11) (B := (!(decide ((m : Int) = q)))) rfl rfl rfl) (fun hB => by simp only [vD (v := _) (h := hB)]; exact qD rfl rfl) (XA (B := (!(decide ((m : Int) = q)))) (v := .bool ((decide ((m : Int) = (3 : Int)) && decide ((q : Int) ≠ (0 : Int))))) (eC (d' := 8) (B := true) rfl rfl rfl) (fun hB => yB (B := (!(decide ((m : Int) = q)))) hB rfl rfl rfl) (sq (EE (B := true) rfl rfl rfl rfl) ?_))))))
 refine go 1 ?_
 exact ⟨_, rfl, rfl, H.chg⟩
theorem jJ (o : Mo) (w : World) : Ca 32 [.agg #[i64 (o.kd), i64 (o.a), i64 (o.b), i64 (o.k), u64 (o.c), i64 (o.pt)]] w fun v w' => v = .bool (decide (uF o)) ∧ Ext w w' := by
 have H := Hp.start No w
 refine enter (n := 11) Tryz.func32 rfl rfl (dB rfl) ?_
 refine go 1 ?_
 intro b1 w2 a0 H3 b0
 refine go 5 ?_
 refine XA (B := (!(decide ((o.kd : Int) = (18 : Int))))) (v := pT b1) (eC (d' := 6) (B := true) rfl rfl rfl) (fun hB => rA (off' := 0) vF (by decide) (b := b1) (off := 0) rfl om) (XA (B := (!(decide ((o.kd : Int) = (18 : Int))))) (v := i64 (o.kd)) (eC (d' := 6) (B := true) rfl rfl rfl) (fun hB => by simp only [vD (v := _) (h := hB)]; exact DA (v := i64 (o.kd)) vF (H3.get (k := 0) rfl) (off := 0) rfl (by rfl)) (XA (B := (!(decide ((o.kd : Int) = (18 : Int))))) (v := .bool (decide ((o.kd : Int) = (19 : Int)))) (eC (d' := 6) (B := true) rfl rfl rfl) (fun hB => by simp only [vD (v := _) (h := hB)]; exact iB rfl rfl) (sq ((EE (B := true) rfl rfl rfl rfl).as (v' := .bool (decide (uF o))) (by exact congrArg Value.bool (cU o))) ?_)))
 refine go 1 ?_
 exact ⟨_, rfl, rfl, H3.chg⟩
theorem rG (o : Mo) (w : World) : Ca 36 [.agg #[i64 (o.kd), i64 (o.a), i64 (o.b), i64 (o.k), u64 (o.c), i64 (o.pt)]] w fun v w' => v = i64 ((qB o : Nat) : Int) ∧ Ext w w' := by
 have H := Hp.start No w
 refine enter (n := 6) Tryz.func36 rfl rfl (dB rfl) ?_
 refine go 1 ?_
 intro b1 w2 a0 H3 b0
 refine go 4 ?_
 refine iA ((o.k : Int) = (1 : Int)) rfl (fun c5 => ?_) (fun c5 => ?_)
 ·refine go 1 ?_
  exact ⟨_, rfl, by rw [qB, if_pos c5]; rfl, H3.chg⟩
 ·refine go 1 ?_
  exact ⟨_, rfl, by rw [qB, if_neg c5]; rfl, H3.chg⟩
theorem sI (w : World) : Ca 31 [] w fun v w' => v = .agg (uA EI [65536, 65536]).toArray ∧ Ext w w' := by
 have H := Hp.start No w
 refine enter (n := 2) Tryz.func31 rfl rfl (dB rfl) ?_
 refine go 1 ?_
 intro b1 w2 b0 H3 c0
 refine go 2 ?_
 intro w5 a0 d0
 refine go 0 ?_
 exact ⟨_, rfl, rfl, a0.chg⟩
theorem bI (o : Mo) (h : LC o.k o.c ≠ 0) (w : World) : Ca 35 [i64 o.k, u64 o.c] w fun v w' => ∃ (key : Option Nat) (c : Nat) (sp : LV) (b : Nat), v = .tuple #[.agg #[i64 (((128 * qB o) : Nat) : Int), sO key (SA o).1.length c, .slice (some ⟨b, 0, none⟩) 64 64], .nilIface] ∧ Sl EG key (SA o).1 c sp ∧ Hp No w w' [(key, qA EG 154 (SA o).1 sp), (rX b EI (SA o).2 145)] := by
 unfold LC at h
 by_cases h1 : o.k = 1 ∧ o.c.toNat < 2
 ·have e1 : qB o = 1 := if_pos h1.1
  have e2 : SA o = EJ (CB o.c 0) := if_pos h1.1
  rw [e1, e2, h1.1]; exact Cm.TR o.c h1.2 w
 ·rw [if_neg h1] at h
  by_cases h2 : (o.k = 2 ∨ o.k = 3) ∧ o.c.toNat < 4
  ·have e1 : qB o = 2 := if_neg om
   rcases h2 with ⟨h3 | h3, h4⟩
   ·have e2 : SA o = DJ (CB o.c 0) (CB o.c 1) := (if_neg om).trans (if_pos h3)
    rw [e1, e2, h3]; exact Cm.SR o.c h4 w
   ·have e2 : SA o = dK (CB o.c 0) (CB o.c 1) := (if_neg om).trans (if_neg om)
    rw [e1, e2, h3]; exact Cm.RR o.c h4 w
  ·rw [if_neg h2] at h; exact absurd rfl h
theorem BN (o : Mo) (h : LC o.k o.c = 0) (w : World) (hG : Gl w) : Ca 35 [i64 o.k, u64 o.c] w fun v w' => (∃ ev, v = .tuple #[.agg #[i64 (0 : Int), yA, yA], ev] ∧ Er w.heap.size w' 1 1 ev) ∧ Ext w w' := by
 refine Cm.HP o.k o.c w hG ⟨fun h1 => ?_, fun h1 => ?_⟩ <;> unfold LC at h
 ·rw [if_pos ⟨h1.1, h1.2⟩] at h; exact absurd h (by decide)
 ·rw [if_neg om, if_pos ⟨h1.1, h1.2⟩] at h; exact absurd h (by decide)
theorem UP (o : Mo) (h : LC o.k o.c = 0) (w : World) (hG : Gl w) : Ca 63 [.agg #[i64 (o.kd), i64 (o.a), i64 (o.b), i64 (o.k), u64 (o.c), i64 (o.pt)]] w fun v w' => v = .tuple #[.agg #[i64 ((gD o).1.a), i64 ((gD o).1.b), i64 ((gD o).1.m), i64 ((gD o).1.k), .bool ((gD o).1.c), .bool ((gD o).1.p), i64 ((gD o).1.r)], .bool (gD o).2] ∧ Ext w w' := by
 have H := Hp.start No w
 refine enter (n := 31) Tryz.func63 rfl rfl (dB rfl) ?_
 refine go 1 ?_
 intro b1 w2 d0 H3 e0
 refine go 1 ?_
 intro b5 w6 f0 H7 h0
 refine go 5 ?_
 refine cl (BN o h w6 uC) ?_
 rintro _ w9 ⟨⟨i0, rfl, a0⟩, b0⟩
 have j0 := H7.ext b0
 obtain ⟨k0, l0, rfl⟩ := a0.iface
 refine go 4 ?_
 intro m0 n0 o0 p0 q0
 refine go 1 ?_
 intro r0 s0 u0
 refine go 2 ?_
 refine sq ((oG vF rfl rfl).as (v' := .bool true) (by rfl)) ?_
 refine go 2 ?_
 intro w0 c0 x0
 refine go 1 ?_
 exact ⟨_, rfl, by unfold gD; rw [if_pos h] <;> rfl, c0.chg⟩
theorem IN (o : Mo) (h : LC o.k o.c ≠ 0) (w : World) : Ca 63 [.agg #[i64 (o.kd), i64 (o.a), i64 (o.b), i64 (o.k), u64 (o.c), i64 (o.pt)]] w fun v w' => v = .tuple #[.agg #[i64 ((gD o).1.a), i64 ((gD o).1.b), i64 ((gD o).1.m), i64 ((gD o).1.k), .bool ((gD o).1.c), .bool ((gD o).1.p), i64 ((gD o).1.r)], .bool (gD o).2] ∧ Ext w w' := by
 have H := Hp.start No w
 refine enter (n := 31) Tryz.func63 rfl rfl (dB rfl) ?_
 refine go 1 ?_
 intro b1 w2 l0 H3 m0
 refine go 1 ?_
 intro b5 w6 n0 H7 o0
 refine go 5 ?_
 refine cl (bI o h w6) ?_
 rintro _ w9 ⟨p0, q0, r0, s0, rfl, u0, b0⟩
 have w0 := (H7.join b0).a4 rfl
 refine go 4 ?_
 intro x0 y0 z0 A0 B0
 refine go 1 ?_
 intro c0 d0 C0
 refine go 2 ?_
 refine sq ((rE vF rfl rfl).as (v' := .bool false) (by rfl)) ?_
 refine go 2 ?_
 refine cl (UI o.c c0) ?_
 rintro _ D0 ⟨rfl, e0⟩
 have E0 := d0.ext e0
 refine go 2 ?_
 intro F0 G0 H0 I0 J0
 refine go 1 ?_
 intro f0 h0 K0
 refine go 3 ?_
 refine iA ((o.k : Int) ≠ (1 : Int)) rfl (fun a0 => ?_) (fun a0 => ?_)
 ·refine go 3 ?_
  refine cl (UI (o.c >>> (1 : Nat)) f0) ?_
  rintro _ L0 ⟨rfl, i0⟩
  have M0 := h0.ext i0
  refine go 2 ?_
  intro N0 O0 P0
  refine go 2 ?_
  intro Q0 j0 R0
  refine go 1 ?_
  exact ⟨_, rfl, by unfold gD; rw [if_neg h, if_neg (by simpa using a0)] <;> rfl, j0.chg⟩
 ·refine go 2 ?_
  intro S0 k0 T0
  refine go 1 ?_
  exact ⟨_, rfl, by unfold gD; rw [if_neg h, if_pos (by simpa using a0)] <;> rfl, k0.chg⟩
theorem TP (o : Mo) (w : World) (hG : Gl w) : Ca 63 [.agg #[i64 (o.kd), i64 (o.a), i64 (o.b), i64 (o.k), u64 (o.c), i64 (o.pt)]] w fun v w' => v = .tuple #[.agg #[i64 ((gD o).1.a), i64 ((gD o).1.b), i64 ((gD o).1.m), i64 ((gD o).1.k), .bool ((gD o).1.c), .bool ((gD o).1.p), i64 ((gD o).1.r)], .bool (gD o).2] ∧ Ext w w' := by
 by_cases h : LC o.k o.c = 0
 ·exact UP o h w hG
 ·exact IN o h w
theorem qJ (o : Mo) (e0 e1 : Int) (w : World) (hG : Gl w) : Ca 42 [.agg #[i64 (o.kd), i64 (o.a), i64 (o.b), i64 (o.k), u64 (o.c), i64 (o.pt)], .agg (uA EI [e0, e1]).toArray] w fun v w' => v = .tuple #[.agg #[i64 ((vA o e0 e1).1.a), i64 ((vA o e0 e1).1.b), i64 ((vA o e0 e1).1.m), i64 ((vA o e0 e1).1.k), .bool ((vA o e0 e1).1.c), .bool ((vA o e0 e1).1.p), i64 ((vA o e0 e1).1.r)], .bool (vA o e0 e1).2] ∧ Ext w w' := by
 let x6 : Array Value := #[i64 0, i64 0, i64 0, i64 0, .bool false, .bool false, i64 0]
 let x5 : Array Value := #[i64 (o.kd), i64 (o.a), i64 (o.b), i64 (o.k), u64 (o.c), i64 (o.pt)]
 let x4 : Array Value := #[i64 0, i64 0, i64 1, i64 e1, .bool false, .bool true, i64 1]
 let x1 : Array Value := #[i64 0, i64 0, i64 1, i64 e0, .bool false, .bool true, i64 1]
 have H := Hp.start No w
 refine enter (n := 79) Tryz.func42 rfl rfl (dB rfl) ?_
 refine go 1 ?_
 intro b1 w2 u1 H3 w1
 let x2 : Value := .pointer (some ⟨b1, 5, none⟩)
 refine go 1 ?_
 intro b5 w6 y1 H7 z1
 let x3 : Value := .pointer (some ⟨b5, 1, none⟩)
 refine go 1 ?_
 intro b9 z0 A1 a0 B1
 refine go 5 ?_
 refine iA ((o.kd : Int) = (1 : Int)) rfl (fun k1 => ?_) (fun k1 => ?_)
 ·refine go 4 ?_
  refine XA (B := (decide ((o.pt : Int) ≠ (0 : Int)))) (v := .pointer (some ⟨b1, 5, none⟩)) (wA (d' := 13) (B := true) rfl rfl rfl) (fun hB => rA (off' := 5) vF (by decide) (b := b1) (off := 0) rfl om) (XA (B := (decide ((o.pt : Int) ≠ (0 : Int)))) (v := i64 (o.pt)) (wA (d' := 13) (B := true) rfl rfl rfl) (fun hB => by simp only [vD (v := _) (h := hB)]; exact DA (v := i64 (o.pt)) vF (a0.get (k := 2) rfl) (off := 5) rfl (by rfl)) (XA (B := (decide ((o.pt : Int) ≠ (0 : Int)))) (v := .bool (decide ((o.pt : Int) ≠ (1 : Int)))) (wA (d' := 13) (B := true) rfl rfl rfl) (fun hB => by simp only [vD (v := _) (h := hB)]; exact qD rfl rfl) (sq (yB (B := true) rfl rfl rfl rfl) ?_)))
  refine go 0 ?_
  refine PC ((decide ((o.pt : Int) ≠ (0 : Int)) && decide ((o.pt : Int) ≠ (1 : Int)))) rfl (fun b0 => ?_) (fun b0 => ?_)
  ·simp only [Bool.and_eq_true, decide_eq_true_eq] at b0
   refine go 2 ?_
   intro C1 A0 D1
   refine go 1 ?_
   have hr : vA o e0 e1 = (⟨(0 : Int), (0 : Int), (0 : Int), (0 : Int), false, false, (0 : Int)⟩, false) := by simp [vA, k1, b0.1, b0.2, iU]
   exact ⟨_, rfl, by rw [hr] <;> rfl, A0.chg⟩
  ·have hpt : o.pt = 0 ∨ o.pt = 1 := by
    rcases Decidable.em (o.pt = 0) with h | h
    ·exact .inl h
    ·exact .inr (by simpa [h] using b0)
   refine go 0 ?_
   by_cases hp : o.pt = 0
   ·refine go 0 ?_
    by_cases hp : o.pt = 0
    ·let c0 : List RW := [(rX b5 EI ([e0, e1]) 29), (rC b1 x5 36)]
     let B0 : mC := [XF false fun _ w' => Hp No w w' ((rC b9 x6 129) :: c0), XF true fun _ w' => Hp No w w' ((rC b9 x1 129) :: c0)]
     refine MA (m := 12) [0, 1, 3, 7, 15, 0, 32, 96, 224, 480, 31, 2047] [10] c0 B0 BA (fun _ e => a0.ext e) EC (fun C0 => ?_)
     refine ZB x2 (fun _ uw hcx => rA (off' := 5) vF (by decide) (b := b1) (off := 0) rfl om) (ZB (i64 (o.pt)) (fun _ uw hcx => DA (v := i64 (o.pt)) vF (hcx.get (k := 1) rfl) (off := 5) rfl (by rfl)) (ZB (pT b5) (fun _ uw hcx => IA (off' := 0) (j := 0) vF (b := b5) (off := 0) rfl rfl vo om om) (ZB (i64 e0) (fun _ uw hcx => BD (E := EI) (l := [e0, e1]) (j := 0) (a := e0) OC (hcx.get (k := 0) rfl) (by rfl) rfl rfl) (ZB (.agg x1) (fun _ uw hcx => QE (cs' := x1) (ps := [(2, i64 1), (3, i64 e0), (5, .bool true), (6, i64 1)]) vF vF rfl (by rfl)) (ZB x2 (fun _ uw hcx => rA (off' := 5) vF (by decide) (b := b1) (off := 0) rfl om) (ZB (i64 (o.pt)) (fun _ uw hcx => DA (v := i64 (o.pt)) vF (hcx.get (k := 1) rfl) (off := 5) rfl (by rfl)) (ZB (pT b5) (fun _ uw hcx => IA (off' := 0) (j := 0) vF (b := b5) (off := 0) rfl rfl vo om om) (ZB (i64 e0) (fun _ uw hcx => BD (E := EI) (l := [e0, e1]) (j := 0) (a := e0) OC (hcx.get (k := 0) rfl) (by rfl) rfl rfl) (ZB (.bool (decide ((0 : Int) < e0))) (fun _ uw hcx => UC rfl rfl) (WalkT.eff C0 0 ?_ ?_))))))))))
     ·refine tA fun r w0 uw hF hE => ?_
      have D0 := hF.ext hE
      refine MC fun Q' hK => (GA (k := 0) (v := .agg x1) (cs' := x1) D0 rfl rfl rfl vF (by rfl) (ZH rfl) (by exact dB rfl) (by rfl) fun E1 E0 F1 => ?_)
      have F0 := E0.a3 rfl
      exact hK _ (fun _ => F0)
     refine gk 1 ?_
     refine WalkT.nil fun r w0 G1 hF hE => ?_
     have s0 := hF.ext hE
     dsimp only
     dsimp only [c0] at s0
     refine go 0 ?_
     have hr : vA o e0 e1 = (⟨(0 : Int), (0 : Int), (1 : Int), e0, false, true, (1 : Int)⟩, decide ((0 : Int) < e0)) := by simp [vA, ZN, k1, hp]
     exact ⟨_, rfl, by rw [hr] <;> rfl, s0.chg⟩
    ·let d0 : List RW := [(rX b5 EI ([e0, e1]) 29), (rC b1 x5 36)]
     let G0 : mC := [XF false fun _ w' => Hp No w w' ((rC b9 x6 129) :: d0), XF true fun _ w' => Hp No w w' ((rC b9 x4 129) :: d0)]
     refine MA (m := 12) [0, 1, 3, 7, 15, 0, 32, 96, 224, 480, 31, 2047] [10] d0 G0 BA (fun _ e => a0.ext e) EC (fun H0 => ?_)
     refine ZB x2 (fun _ uw hcx => rA (off' := 5) vF (by decide) (b := b1) (off := 0) rfl om) (ZB (i64 (o.pt)) (fun _ uw hcx => DA (v := i64 (o.pt)) vF (hcx.get (k := 1) rfl) (off := 5) rfl (by rfl)) (ZB x3 (fun _ uw hcx => IA (off' := 1) (j := 1) vF (b := b5) (off := 0) rfl rfl vo om om) (ZB (i64 e1) (fun _ uw hcx => BD (E := EI) (l := [e0, e1]) (j := 1) (a := e1) OC (hcx.get (k := 0) rfl) (by rfl) rfl rfl) (ZB (.agg x4) (fun _ uw hcx => QE (cs' := x4) (ps := [(2, i64 1), (3, i64 e1), (5, .bool true), (6, i64 1)]) vF vF rfl (by rfl)) (ZB x2 (fun _ uw hcx => rA (off' := 5) vF (by decide) (b := b1) (off := 0) rfl om) (ZB (i64 (o.pt)) (fun _ uw hcx => DA (v := i64 (o.pt)) vF (hcx.get (k := 1) rfl) (off := 5) rfl (by rfl)) (ZB x3 (fun _ uw hcx => IA (off' := 1) (j := 1) vF (b := b5) (off := 0) rfl rfl vo om om) (ZB (i64 e1) (fun _ uw hcx => BD (E := EI) (l := [e0, e1]) (j := 1) (a := e1) OC (hcx.get (k := 0) rfl) (by rfl) rfl rfl) (ZB (.bool (decide ((0 : Int) < e1))) (fun _ uw hcx => UC rfl rfl) (WalkT.eff H0 0 ?_ ?_))))))))))
     ·refine tA fun r w0 uw hF hE => ?_
      have I0 := hF.ext hE
      refine MC fun Q' hK => (GA (k := 0) (v := .agg x4) (cs' := x4) I0 rfl rfl rfl vF (by rfl) (ZH rfl) (by exact dB rfl) (by rfl) fun H1 J0 I1 => ?_)
      have K0 := J0.a3 rfl
      exact hK _ (fun _ => K0)
     refine gk 1 ?_
     refine WalkT.nil fun r w0 J1 hF hE => ?_
     have u0 := hF.ext hE
     dsimp only
     dsimp only [d0] at u0
     have hp1 : o.pt = 1 := by omega
     refine go 0 ?_
     have hr : vA o e0 e1 = (⟨(0 : Int), (0 : Int), (1 : Int), e1, false, true, (1 : Int)⟩, decide ((0 : Int) < e1)) := by simp [vA, ZN, k1, hp1]
     exact ⟨_, rfl, by rw [hr] <;> rfl, u0.chg⟩
   ·refine go 0 ?_
    by_cases hp : o.pt = 0
    ·let f0 : List RW := [(rX b5 EI ([e0, e1]) 29), (rC b1 x5 36)]
     let L0 : mC := [XF false fun _ w' => Hp No w w' ((rC b9 x6 129) :: f0), XF true fun _ w' => Hp No w w' ((rC b9 x1 129) :: f0)]
     refine MA (m := 12) [0, 1, 3, 7, 15, 0, 32, 96, 224, 480, 31, 2047] [10] f0 L0 BA (fun _ e => a0.ext e) EC (fun M0 => ?_)
     refine ZB x2 (fun _ uw hcx => rA (off' := 5) vF (by decide) (b := b1) (off := 0) rfl om) (ZB (i64 (o.pt)) (fun _ uw hcx => DA (v := i64 (o.pt)) vF (hcx.get (k := 1) rfl) (off := 5) rfl (by rfl)) (ZB (pT b5) (fun _ uw hcx => IA (off' := 0) (j := 0) vF (b := b5) (off := 0) rfl rfl vo om om) (ZB (i64 e0) (fun _ uw hcx => BD (E := EI) (l := [e0, e1]) (j := 0) (a := e0) OC (hcx.get (k := 0) rfl) (by rfl) rfl rfl) (ZB (.agg x1) (fun _ uw hcx => QE (cs' := x1) (ps := [(2, i64 1), (3, i64 e0), (5, .bool true), (6, i64 1)]) vF vF rfl (by rfl)) (ZB x2 (fun _ uw hcx => rA (off' := 5) vF (by decide) (b := b1) (off := 0) rfl om) (ZB (i64 (o.pt)) (fun _ uw hcx => DA (v := i64 (o.pt)) vF (hcx.get (k := 1) rfl) (off := 5) rfl (by rfl)) (ZB (pT b5) (fun _ uw hcx => IA (off' := 0) (j := 0) vF (b := b5) (off := 0) rfl rfl vo om om) (ZB (i64 e0) (fun _ uw hcx => BD (E := EI) (l := [e0, e1]) (j := 0) (a := e0) OC (hcx.get (k := 0) rfl) (by rfl) rfl rfl) (ZB (.bool (decide ((0 : Int) < e0))) (fun _ uw hcx => UC rfl rfl) (WalkT.eff M0 0 ?_ ?_))))))))))
     ·refine tA fun r w0 uw hF hE => ?_
      have N0 := hF.ext hE
      refine MC fun Q' hK => (GA (k := 0) (v := .agg x1) (cs' := x1) N0 rfl rfl rfl vF (by rfl) (ZH rfl) (by exact dB rfl) (by rfl) fun K1 O0 L1 => ?_)
      have P0 := O0.a3 rfl
      exact hK _ (fun _ => P0)
     refine gk 1 ?_
     refine WalkT.nil fun r w0 M1 hF hE => ?_
     have x0 := hF.ext hE
     dsimp only
     dsimp only [f0] at x0
     refine go 0 ?_
     have hr : vA o e0 e1 = (⟨(0 : Int), (0 : Int), (1 : Int), e0, false, true, (1 : Int)⟩, decide ((0 : Int) < e0)) := by simp [vA, ZN, k1, hp]
     exact ⟨_, rfl, by rw [hr] <;> rfl, x0.chg⟩
    ·let h0 : List RW := [(rX b5 EI ([e0, e1]) 29), (rC b1 x5 36)]
     let Q0 : mC := [XF false fun _ w' => Hp No w w' ((rC b9 x6 129) :: h0), XF true fun _ w' => Hp No w w' ((rC b9 x4 129) :: h0)]
     refine MA (m := 12) [0, 1, 3, 7, 15, 0, 32, 96, 224, 480, 31, 2047] [10] h0 Q0 BA (fun _ e => a0.ext e) EC (fun R0 => ?_)
     refine ZB x2 (fun _ uw hcx => rA (off' := 5) vF (by decide) (b := b1) (off := 0) rfl om) (ZB (i64 (o.pt)) (fun _ uw hcx => DA (v := i64 (o.pt)) vF (hcx.get (k := 1) rfl) (off := 5) rfl (by rfl)) (ZB x3 (fun _ uw hcx => IA (off' := 1) (j := 1) vF (b := b5) (off := 0) rfl rfl vo om om) (ZB (i64 e1) (fun _ uw hcx => BD (E := EI) (l := [e0, e1]) (j := 1) (a := e1) OC (hcx.get (k := 0) rfl) (by rfl) rfl rfl) (ZB (.agg x4) (fun _ uw hcx => QE (cs' := x4) (ps := [(2, i64 1), (3, i64 e1), (5, .bool true), (6, i64 1)]) vF vF rfl (by rfl)) (ZB x2 (fun _ uw hcx => rA (off' := 5) vF (by decide) (b := b1) (off := 0) rfl om) (ZB (i64 (o.pt)) (fun _ uw hcx => DA (v := i64 (o.pt)) vF (hcx.get (k := 1) rfl) (off := 5) rfl (by rfl)) (ZB x3 (fun _ uw hcx => IA (off' := 1) (j := 1) vF (b := b5) (off := 0) rfl rfl vo om om) (ZB (i64 e1) (fun _ uw hcx => BD (E := EI) (l := [e0, e1]) (j := 1) (a := e1) OC (hcx.get (k := 0) rfl) (by rfl) rfl rfl) (ZB (.bool (decide ((0 : Int) < e1))) (fun _ uw hcx => UC rfl rfl) (WalkT.eff R0 0 ?_ ?_))))))))))
     ·refine tA fun r w0 uw hF hE => ?_
      have S0 := hF.ext hE
      refine MC fun Q' hK => (GA (k := 0) (v := .agg x4) (cs' := x4) S0 rfl rfl rfl vF (by rfl) (ZH rfl) (by exact dB rfl) (by rfl) fun N1 T0 O1 => ?_)
      have U0 := T0.a3 rfl
      exact hK _ (fun _ => U0)
     refine gk 1 ?_
     refine WalkT.nil fun r w0 P1 hF hE => ?_
     have y0 := hF.ext hE
     dsimp only
     dsimp only [h0] at y0
     have hp1 : o.pt = 1 := by omega
     refine go 0 ?_
     have hr : vA o e0 e1 = (⟨(0 : Int), (0 : Int), (1 : Int), e1, false, true, (1 : Int)⟩, decide ((0 : Int) < e1)) := by simp [vA, ZN, k1, hp1]
     exact ⟨_, rfl, by rw [hr] <;> rfl, y0.chg⟩
 ·refine go 2 ?_
  refine iA ((o.kd : Int) = (2 : Int)) rfl (fun k2 => ?_) (fun k2 => ?_)
  ·refine go 2 ?_
   intro Q1 V0 R1
   refine go 1 ?_
   have hr : vA o e0 e1 = (⟨(0 : Int), (0 : Int), (3 : Int), (0 : Int), true, false, (0 : Int)⟩, true) := by simp [vA, k2]
   exact ⟨_, rfl, by rw [hr] <;> rfl, V0.chg⟩
  ·refine go 2 ?_
   refine iA ((o.kd : Int) = (3 : Int)) rfl (fun k3 => ?_) (fun k3 => ?_)
   ·refine go 0 ?_
    refine GB (bT (k3)) ?_
    refine go 2 ?_
    intro S1 W0 T1
    refine go 1 ?_
    have hr : vA o e0 e1 = (⟨(1 : Int), (1 : Int), (1 : Int), (0 : Int), false, false, (0 : Int)⟩, true) := by simp [vA, k3]
    exact ⟨_, rfl, by rw [hr] <;> rfl, W0.chg⟩
   ·refine go 2 ?_
    refine iA ((o.kd : Int) = (4 : Int)) rfl (fun k4 => ?_) (fun k4 => ?_)
    ·refine go 2 ?_
     intro U1 X0 V1
     refine go 1 ?_
     have hr : vA o e0 e1 = (⟨(1 : Int), (1 : Int), (1 : Int), (0 : Int), false, false, (0 : Int)⟩, true) := by simp [vA, k4]
     exact ⟨_, rfl, by rw [hr] <;> rfl, X0.chg⟩
    ·refine go 2 ?_
     refine iA ((o.kd : Int) = (5 : Int)) rfl (fun k5 => ?_) (fun k5 => ?_)
     ·refine go 2 ?_
      intro W1 Y0 X1
      refine go 1 ?_
      have hr : vA o e0 e1 = (⟨(1 : Int), (0 : Int), (1 : Int), (0 : Int), true, false, (0 : Int)⟩, true) := by simp [vA, k5]
      exact ⟨_, rfl, by rw [hr] <;> rfl, Y0.chg⟩
     ·refine go 2 ?_
      refine iA ((o.kd : Int) = (6 : Int)) rfl (fun k6 => ?_) (fun k6 => ?_)
      ·refine go 2 ?_
       intro Y1 Z0 Z1
       refine go 1 ?_
       have hr : vA o e0 e1 = (⟨(1 : Int), (1 : Int), (1 : Int), (0 : Int), false, false, (1 : Int)⟩, true) := by simp [vA, k6]
       exact ⟨_, rfl, by rw [hr] <;> rfl, Z0.chg⟩
      ·refine go 2 ?_
       refine iA ((o.kd : Int) = (7 : Int)) rfl (fun k7 => ?_) (fun k7 => ?_)
       ·refine go 2 ?_
        intro c2 c1 d2
        refine go 1 ?_
        have hr : vA o e0 e1 = (⟨(2 : Int), (2 : Int), (2 : Int), (0 : Int), false, false, (0 : Int)⟩, true) := by simp [vA, k7]
        exact ⟨_, rfl, by rw [hr] <;> rfl, c1.chg⟩
       ·refine go 2 ?_
        refine iA ((o.kd : Int) = (8 : Int)) rfl (fun k8 => ?_) (fun k8 => ?_)
        ·refine go 0 ?_
         refine GB (bT (k8)) ?_
         refine go 2 ?_
         intro e2 d1 f2
         refine go 1 ?_
         have hr : vA o e0 e1 = (⟨(2 : Int), (0 : Int), (2 : Int), (0 : Int), true, false, (0 : Int)⟩, true) := by simp [vA, k8]
         exact ⟨_, rfl, by rw [hr] <;> rfl, d1.chg⟩
        ·refine go 2 ?_
         refine iA ((o.kd : Int) = (10 : Int)) rfl (fun k0 => ?_) (fun k0 => ?_)
         ·refine go 2 ?_
          intro g2 g1 h2
          refine go 1 ?_
          have hr : vA o e0 e1 = (⟨(2 : Int), (0 : Int), (2 : Int), (0 : Int), true, false, (0 : Int)⟩, true) := by simp [vA, k0]
          exact ⟨_, rfl, by rw [hr] <;> rfl, g1.chg⟩
         ·refine go 2 ?_
          refine iA ((o.kd : Int) = (9 : Int)) rfl (fun k9 => ?_) (fun k9 => ?_)
          ·refine go 2 ?_
           intro i2 h1 j2
           refine go 1 ?_
           have hr : vA o e0 e1 = (⟨(2 : Int), (2 : Int), (2 : Int), (0 : Int), false, false, (1 : Int)⟩, true) := by simp [vA, k9]
           exact ⟨_, rfl, by rw [hr] <;> rfl, h1.chg⟩
          ·refine go 2 ?_
           refine iA ((o.kd : Int) = (11 : Int)) rfl (fun i0 => ?_) (fun i0 => ?_)
           ·refine go 0 ?_
            refine GB (bT (i0)) ?_
            refine go 2 ?_
            intro l2 i1 m2
            refine go 1 ?_
            have hr : vA o e0 e1 = (⟨(2 : Int), (0 : Int), (2 : Int), (64 : Int), false, false, (0 : Int)⟩, true) := by simp [vA, i0]
            exact ⟨_, rfl, by rw [hr] <;> rfl, i1.chg⟩
           ·refine go 2 ?_
            refine iA ((o.kd : Int) = (12 : Int)) rfl (fun j0 => ?_) (fun j0 => ?_)
            ·refine go 0 ?_
             refine GB (bT (j0)) ?_
             refine go 2 ?_
             intro n2 j1 o2
             refine go 1 ?_
             have hr : vA o e0 e1 = (⟨(2 : Int), (0 : Int), (2 : Int), (64 : Int), false, false, (0 : Int)⟩, true) := by simp [vA, j0]
             exact ⟨_, rfl, by rw [hr] <;> rfl, j1.chg⟩
            ·refine go 2 ?_
             refine iA ((o.kd : Int) = (13 : Int)) rfl (fun l0 => ?_) (fun l0 => ?_)
             ·refine go 2 ?_
              intro p2 l1 q2
              refine go 1 ?_
              have hr : vA o e0 e1 = (⟨(2 : Int), (0 : Int), (2 : Int), (64 : Int), false, false, (0 : Int)⟩, true) := by simp [vA, l0]
              exact ⟨_, rfl, by rw [hr] <;> rfl, l1.chg⟩
             ·refine go 2 ?_
              refine iA ((o.kd : Int) = (14 : Int)) rfl (fun m0 => ?_) (fun m0 => ?_)
              ·refine go 2 ?_
               intro r2 m1 s2
               refine go 1 ?_
               have hr : vA o e0 e1 = (⟨(2 : Int), (0 : Int), (2 : Int), (0 : Int), false, false, (0 : Int)⟩, true) := by simp [vA, m0]
               exact ⟨_, rfl, by rw [hr] <;> rfl, m1.chg⟩
              ·refine go 2 ?_
               refine iA ((o.kd : Int) = (15 : Int)) rfl (fun n0 => ?_) (fun n0 => ?_)
               ·refine go 2 ?_
                intro t2 n1 u2
                refine go 1 ?_
                have hr : vA o e0 e1 = (⟨(1 : Int), (0 : Int), (2 : Int), (0 : Int), false, true, (0 : Int)⟩, true) := by simp [vA, n0]
                exact ⟨_, rfl, by rw [hr] <;> rfl, n1.chg⟩
               ·refine go 2 ?_
                refine iA ((o.kd : Int) = (16 : Int)) rfl (fun o0 => ?_) (fun o0 => ?_)
                ·refine go 2 ?_
                 intro y2 o1 z2
                 refine go 1 ?_
                 have hr : vA o e0 e1 = (⟨(2 : Int), (0 : Int), (1 : Int), (64 : Int), false, true, (0 : Int)⟩, true) := by simp [vA, o0]
                 exact ⟨_, rfl, by rw [hr] <;> rfl, o1.chg⟩
                ·refine go 2 ?_
                 refine iA ((o.kd : Int) = (17 : Int)) rfl (fun p0 => ?_) (fun p0 => ?_)
                 ·refine go 1 ?_
                  refine cl (TP o z0 uC) ?_
                  rintro _ A2 ⟨rfl, p1⟩
                  have B2 := a0.ext p1
                  refine go 3 ?_
                  intro C2 q1 D2
                  refine go 1 ?_
                  exact ⟨_, rfl, by rw [show vA o e0 e1 = gD o from by simp [vA, p0]] <;> rfl, q1.chg⟩
                 ·refine go 2 ?_
                  refine iA ((o.kd : Int) = (18 : Int)) rfl (fun q0 => ?_) (fun q0 => ?_)
                  ·refine go 2 ?_
                   intro E2 r1 F2
                   refine go 1 ?_
                   have hr : vA o e0 e1 = (⟨(1 : Int), (0 : Int), (0 : Int), (0 : Int), false, false, (1 : Int)⟩, true) := by simp [vA, q0]
                   exact ⟨_, rfl, by rw [hr] <;> rfl, r1.chg⟩
                  ·refine go 2 ?_
                   refine iA ((o.kd : Int) = (19 : Int)) rfl (fun r0 => ?_) (fun r0 => ?_)
                   ·refine go 2 ?_
                    intro G2 s1 H2
                    refine go 1 ?_
                    have hr : vA o e0 e1 = (⟨(2 : Int), (0 : Int), (0 : Int), (0 : Int), false, false, (1 : Int)⟩, true) := by simp [vA, r0]
                    exact ⟨_, rfl, by rw [hr] <;> rfl, s1.chg⟩
                   ·refine go 2 ?_
                    intro I2 t1 J2
                    refine go 1 ?_
                    have hr : vA o e0 e1 = (⟨(0 : Int), (0 : Int), (0 : Int), (0 : Int), false, false, (0 : Int)⟩, false) := by simp [vA, k1, k2, k3, k4, k5, k6, k7, k8, k0, k9, i0, j0, l0, m0, n0, o0, p0, q0, r0, iU]
                    exact ⟨_, rfl, by rw [hr] <;> rfl, t1.chg⟩
theorem iK (ops : List Mo) (i : Nat) (at' q : Int) (fa : Option Addr) (fc : Nat) (w : World) (hF : Rd EI w fa (nD ops i)) : Ca 43 [.slice fa i fc, i64 at', i64 q] w fun v w' => v = .bool (zD ops i at' q) ∧ Ext w w' := by
 have H := Hp.start No w
 refine enter (n := 27) Tryz.func43 rfl rfl (dB rfl) ?_
 refine go 3 ?_
 refine iA ((q : Int) = (0 : Int)) rfl (fun c8 => ?_) (fun c8 => ?_)
 ·refine go 3 ?_
  exact ⟨_, rfl, congrArg Value.bool (RM c8), H.chg⟩
 ·refine go 3 ?_
  refine XA (B := (decide ((0 : Int) ≤ at'))) (v := i64 at') (wA (d' := 13) (B := true) rfl rfl rfl) (fun hB => CA (v := i64 at') rfl) (XA (B := (decide ((0 : Int) ≤ at'))) (v := .slice fa i fc) (wA (d' := 13) (B := true) rfl rfl rfl) (fun hB => CA (v := .slice fa i fc) rfl) (XA (B := (decide ((0 : Int) ≤ at'))) (v := iN i) (wA (d' := 13) (B := true) rfl rfl rfl) (fun hB => by simp only [vD (v := _) (h := hB)]; exact VH vF (a := fa) (m := i) (c := fc) rfl) (XA (B := (decide ((0 : Int) ≤ at'))) (v := .bool (decide ((at' : Int) < (i : Nat)))) (wA (d' := 13) (B := true) rfl rfl rfl) (fun hB => by simp only [vD (v := _) (h := hB)]; exact KC rfl rfl) (sq (yB (B := true) rfl rfl rfl rfl) ?_))))
  refine go 1 ?_
  refine XA (B := ((decide ((0 : Int) ≤ at') && decide ((at' : Int) < (i : Nat))))) (v := .slice fa i fc) (wA (d' := 19) (B := true) rfl rfl rfl) (fun hB => CA (v := .slice fa i fc) rfl) (XA (B := ((decide ((0 : Int) ≤ at') && decide ((at' : Int) < (i : Nat))))) (v := i64 at') (wA (d' := 19) (B := true) rfl rfl rfl) (fun hB => CA (v := i64 at') rfl) (XA (B := ((decide ((0 : Int) ≤ at') && decide ((at' : Int) < (i : Nat))))) (v := .pointer (oC fa (at'.toNat * 1))) (wA (d' := 19) (B := true) rfl rfl rfl) (fun hB => by have hB2 := hB; simp only [Bool.and_eq_true, decide_eq_true_eq] at hB2; simp only [vD (v := _) (h := hB)]; exact TC (E := EI) (l := nD ops i) (j := at'.toNat) vF (hF.ext H.chg) rfl rfl om (by exact (mD ops i).symm) (by rw [mD]; omega)) (XA (B := ((decide ((0 : Int) ≤ at') && decide ((at' : Int) < (i : Nat))))) (v := i64 ((nD ops i).getD at'.toNat 0)) (wA (d' := 19) (B := true) rfl rfl rfl) (fun hB => by have hB2 := hB; simp only [Bool.and_eq_true, decide_eq_true_eq] at hB2; simp only [vD (v := _) (h := hB)]; exact AD (E := EI) (l := nD ops i) (j := at'.toNat) (v := (nD ops i).getD at'.toNat 0) iS (hF.ext H.chg) rfl rfl (QA (by rw [mD]; omega))) (XA (B := ((decide ((0 : Int) ≤ at') && decide ((at' : Int) < (i : Nat))))) (v := i64 q) (wA (d' := 19) (B := true) rfl rfl rfl) (fun hB => CA (v := i64 q) rfl) (lV (B := ((decide ((0 : Int) ≤ at') && decide ((at' : Int) < (i : Nat))))) (v := .bool (NN ((nD ops i).getD at'.toNat 0) q)) (wA (d' := 19) (B := true) rfl rfl rfl) (fun hB => by simp only [vD (v := _) (h := hB)]; exact cA (vs := [i64 ((nD ops i).getD at'.toNat 0), i64 q]) vF rfl) (fun hB => by exact fS ((nD ops i).getD at'.toNat 0) q w) fun w1 a0 => ?_)))))
  have H3 := H.ext a0
  refine sq (yB (B := true) rfl rfl rfl rfl) ?_
  refine go 1 ?_
  exact ⟨_, rfl, congrArg Value.bool (SM c8), H3.chg⟩
end Go.Proofs.YtohngnahcgbfmaaGreatDoor.Mi
namespace Go.Proofs.YtohngnahcgbfmaaGreatDoor.Mi
open Go Vc Er Ek Circ
theorem HW : ZF Tryz.prog 3 = some 8 := by kernel_rfl
theorem call43 : mA Tryz.prog 43 = true := by kernel_rfl
theorem eH : wC Tryz.prog 36 xE := kI (by kernel_rfl) (by kernel_rfl)
theorem xW : TB Tryz.prog 129 0 = some (0, 1, 127) := by kernel_rfl
theorem vW : TB Tryz.prog 129 3 = some (3, 1, 3) := by kernel_rfl
theorem uW : TB Tryz.prog 129 4 = some (4, 1, 4) := by kernel_rfl
theorem tW : TB Tryz.prog 129 5 = some (5, 1, 4) := by kernel_rfl
theorem yM : TB Tryz.prog 36 1 = some (1, 1, 3) := by kernel_rfl
theorem xM : TB Tryz.prog 36 2 = some (2, 1, 3) := by kernel_rfl
theorem one127 : NA Tryz.prog 127 = true := by kernel_rfl
theorem one4 : NA Tryz.prog 4 = true := by kernel_rfl
theorem fU : UB Tryz.prog 3 = some 1 := by kernel_rfl
theorem QH : eD Tryz.prog 100 = some (3, 1) := by kernel_rfl
theorem HO : eD Tryz.prog 22 = some (36, 6) := by kernel_rfl
theorem KL : Tryz.prog.underlying 63 = some (.int .i64) := by kernel_rfl
theorem OT : YB Tryz.prog 3 = some (.int .i64 0) := by kernel_rfl
theorem YP (ops : List Mo) (oa : Option Addr) (oc : Nat) (e0 e1 : Int) (w : World) (hG : Gl w) (hO : Rd xE w oa ops) (hol : ops.length ≤ 16384) : Ca 23 [.slice oa ops.length oc, .agg (uA EI [e0, e1]).toArray] w fun v w' => (((∃ x, v = .tuple #[x, .nilIface]) ∧ ∀ j, j < ops.length → GoodAt ops e0 e1 j (ops.getD j DB)) ∨ (∃ ev, v = .tuple #[yA, ev] ∧ Er w.heap.size w' 110 1 ev ∧ ¬ ∀ j, j < ops.length → GoodAt ops e0 e1 j (ops.getD j DB))) ∧ Ext w w' := by
 have H := Hp.start No w
 refine enter (n := 150) Tryz.func23 rfl rfl (dB rfl) ?_
 refine go 1 ?_
 intro b1 w2 Z0 H3 c1
 refine go 7 ?_
 refine AA (σ := Nat) (fun i => [(0, .slice oa ops.length oc), (3, pT b1), (4, yA), (5, .nilIface), (6, yA), (7, iN (jA iD ops i)), (15, .slice oa ops.length oc), (16, iN ops.length), (17, iN i)]) (fun i w' => i ≤ ops.length ∧ Hp No w w' [(rX b1 EI ([e0, e1]) 29)]) (fun i => ops.length - i) (0) ?_ ?_ ?_
 ·exact kp
 ·exact ⟨Nat.zero_le _, H3⟩
 rintro i ρ w5 ⟨hq, HL⟩
 have hct := eE xG ops i
 refine go 1 ?_
 refine iA (((i : Nat) : Int) < (ops.length : Nat)) rfl (fun w0 => ?_) (fun w0 => ?_)
 ·refine go 3 ?_
  intro b7 w8 d1 H9 g1
  refine go 1 ?_
  intro x0 y0 h1
  refine go 1 ?_
  refine cl (jJ (ops.getD i DB) x0) ?_
  rintro _ i1 ⟨rfl, A0⟩
  have o0 := y0.ext A0
  refine go 0 ?_
  refine iA (uF (ops.getD i DB)) rfl (fun j0 => ?_) (fun j0 => ?_)
  ·refine go 5 ?_
   exact ⟨i + 1, _, rfl, ⟨rfl, rfl, rfl, rfl, rfl, congrArg i64 (by rw [jA, iD, if_pos j0] <;> omega), rfl, rfl, rfl, trivial⟩, ⟨om, (o0.dropk 0)⟩, vd⟩
  ·refine go 2 ?_
   exact ⟨i + 1, _, rfl, ⟨rfl, rfl, rfl, rfl, rfl, congrArg i64 (by rw [jA, iD, if_neg j0] <;> omega), rfl, rfl, rfl, trivial⟩, ⟨om, (o0.dropk 0)⟩, vd⟩
 ·have hie : i = ops.length := by omega
  subst hie
  have hob := eE xG ops ops.length
  rw [show jA iD ops ops.length = ZA ops from rfl] at hob ⊢
  refine go 1 ?_
  refine ID (E := EI) (m := (ZA ops)) (c := (ZA ops)) (z0 := 0) HL vF vF rfl vF rfl rfl vo vo om om fun f0 j1 B0 C0 k1 => ?_
  refine go 4 ?_
  have D0 := C0.nil (qA EI 127 [] [])
  refine go 0 ?_
  refine AA (σ := Nat × Option Nat × Nat × LV × List Int) (fun (i, kf, cf, sf, sl) => [(3, pT b1), (4, yA), (5, .nilIface), (6, sO kf i cf), (7, iN (ZA ops)), (10, sO (some f0) (ZA ops) (ZA ops)), (28, .slice oa ops.length oc), (29, iN ops.length), (30, iN i)]) (fun (i, kf, cf, sf, sl) w' => (i ≤ ops.length ∧ (∀ j, j < i → GoodAt ops e0 e1 j (ops.getD j DB)) ∧ sl.length = ZA ops ∧ IG ops sl i ∧ Sl EI kf (nD ops i) cf sf ∧ Sl EI (some f0) sl (ZA ops) (uA EI (List.replicate ((ZA ops) - (ZA ops)) 0))) ∧ Hp No w w' [(kf, qA EI 127 (nD ops i) sf), ((some f0), qA EI 3 sl (uA EI (List.replicate ((ZA ops) - (ZA ops)) 0))), (rX b1 EI ([e0, e1]) 29)]) (fun (i, kf, cf, sf, sl) => ops.length - i) ((0, none, 0, [], List.replicate (ZA ops) 0)) ?_ ?_ ?_
  ·exact kp
  ·exact ⟨⟨Nat.zero_le _, fun j h => absurd h (Nat.not_lt_zero _), List.length_replicate, bN _ _, Sl.none, B0⟩, D0⟩
  rintro ⟨i, kf, cf, sf, sl⟩ ρ l1 ⟨⟨hq2, hga, hsl, hsn, hSf, hSs⟩, E0⟩
  have hfl := mD ops i
  refine go 1 ?_
  refine iA (((i : Nat) : Int) < (ops.length : Nat)) rfl (fun F0 => ?_) (fun F0 => ?_)
  ·refine go 4 ?_
   intro a0 m1 n1 o1 p1
   let y1 : Option Addr := some ⟨a0, 3, none⟩
   refine go 2 ?_
   intro G0 p0 r1
   obtain ⟨o, ho⟩ : ∃ q1, q1 = ops.getD i DB := ⟨_, rfl⟩
   rw [← ho] at p0 ⊢
   refine go 2 ?_
   refine cl (qJ o e0 e1 G0 uC) ?_
   rintro _ s1 ⟨rfl, H0⟩
   have t1 := p0.ext H0
   refine go 4 ?_
   intro c0 u1 w1 x1 z1
   refine go 1 ?_
   intro I0 q0 A1
   refine XK ?_
   obtain ⟨r, hr⟩ : ∃ q1, q1 = vA o e0 e1 := ⟨_, rfl⟩
   rw [← hr] at q0 ⊢
   refine jF (xF (σ := List Int × Int × Bool) (fun (sl2, rk, ob) => [(3, pT b1), (4, yA), (5, .nilIface), (6, sO kf i cf), (7, iN (ZA ops)), (10, sO (some f0) (ZA ops) (ZA ops)), (11, iN i), (12, pT a0), (13, pT c0), (14, .bool ob), (28, .slice oa ops.length oc), (29, iN ops.length), (30, iN i)]) (fun (sl2, rk, ob) w' => (rk = XO ops o e0 e1 ∧ (ob = true ↔ r.2 = true ∧ (uF o → MM ops i o)) ∧ sl2.length = ZA ops ∧ (ob = true → IG ops sl2 (i + 1)) ∧ Sl EI (some f0) sl2 (ZA ops) (uA EI (List.replicate ((ZA ops) - (ZA ops)) 0))) ∧ Hp No w w' [(kf, qA EI 127 (nD ops i) sf), ((some f0), qA EI 3 sl2 (uA EI (List.replicate ((ZA ops) - (ZA ops)) 0))), (rX b1 EI ([e0, e1]) 29), (rC a0 #[i64 (o.kd), i64 (o.a), i64 (o.b), i64 (o.k), u64 (o.c), i64 (o.pt)] 36), (rC c0 #[i64 (r.1.a), i64 (r.1.b), i64 (r.1.m), i64 rk, .bool (r.1.c), .bool (r.1.p), i64 (r.1.r)] 129)]) ?_ (fun k0 => ?_))
   ·rintro ⟨sl2, rk, ob⟩ ρ J0 ⟨⟨hrk, hob, hsl2, hsn2, hSs2⟩, l0⟩
    refine go 2 ?_
    refine XA (B := ob) (v := sO kf i cf) (wA (d' := 71) (B := true) rfl rfl rfl) (fun hB => CA (v := sO kf i cf) rfl) (XA (B := ob) (v := .pointer (some ⟨a0, 1, none⟩)) (wA (d' := 71) (B := true) rfl rfl rfl) (fun hB => rA (off' := 1) vF (by decide) (b := a0) (off := 0) rfl om) (XA (B := ob) (v := i64 (o.a)) (wA (d' := 71) (B := true) rfl rfl rfl) (fun hB => by simp only [vD (v := _) (h := hB)]; exact DA (v := i64 (o.a)) vF (l0.get (k := 3) rfl) (off := 1) rfl (by rfl)) (XA (B := ob) (v := pT c0) (wA (d' := 71) (B := true) rfl rfl rfl) (fun hB => rA (off' := 0) vF (by decide) (b := c0) (off := 0) rfl om) (XA (B := ob) (v := i64 (r.1.a)) (wA (d' := 71) (B := true) rfl rfl rfl) (fun hB => by simp only [vD (v := _) (h := hB)]; exact DA (v := i64 (r.1.a)) vF (l0.get (k := 4) rfl) (off := 0) rfl (by rfl)) (lV (B := ob) (v := .bool (zD ops i o.a r.1.a)) (wA (d' := 71) (B := true) rfl rfl rfl) (fun hB => by simp only [vD (v := _) (h := hB)]; exact cA (vs := [sO kf i cf, i64 (o.a), i64 (r.1.a)]) vF rfl) (fun hB => by exact iK ops i o.a r.1.a (sA kf) cf J0 IC) fun K0 L0 => ?_)))))
    have m0 := l0.ext L0
    refine sq (yB (B := true) rfl rfl rfl rfl) ?_
    refine go 1 ?_
    refine XA (B := ((ob && zD ops i o.a r.1.a))) (v := sO kf i cf) (wA (d' := 79) (B := true) rfl rfl rfl) (fun hB => CA (v := sO kf i cf) rfl) (XA (B := ((ob && zD ops i o.a r.1.a))) (v := .pointer (some ⟨a0, 2, none⟩)) (wA (d' := 79) (B := true) rfl rfl rfl) (fun hB => rA (off' := 2) vF (by decide) (b := a0) (off := 0) rfl om) (XA (B := ((ob && zD ops i o.a r.1.a))) (v := i64 (o.b)) (wA (d' := 79) (B := true) rfl rfl rfl) (fun hB => by simp only [vD (v := _) (h := hB)]; exact DA (v := i64 (o.b)) vF (m0.get (k := 3) rfl) (off := 2) rfl (by rfl)) (XA (B := ((ob && zD ops i o.a r.1.a))) (v := .pointer (some ⟨c0, 1, none⟩)) (wA (d' := 79) (B := true) rfl rfl rfl) (fun hB => rA (off' := 1) vF (by decide) (b := c0) (off := 0) rfl om) (XA (B := ((ob && zD ops i o.a r.1.a))) (v := i64 (r.1.b)) (wA (d' := 79) (B := true) rfl rfl rfl) (fun hB => by simp only [vD (v := _) (h := hB)]; exact DA (v := i64 (r.1.b)) vF (m0.get (k := 4) rfl) (off := 1) rfl (by rfl)) (lV (B := ((ob && zD ops i o.a r.1.a))) (v := .bool (zD ops i o.b r.1.b)) (wA (d' := 79) (B := true) rfl rfl rfl) (fun hB => by simp only [vD (v := _) (h := hB)]; exact cA (vs := [sO kf i cf, i64 (o.b), i64 (r.1.b)]) vF rfl) (fun hB => by exact iK ops i o.b r.1.b (sA kf) cf K0 IC) fun M0 N0 => ?_)))))
    have b0 := m0.ext N0
    refine sq (yB (B := true) rfl rfl rfl rfl) ?_
    refine go 1 ?_
    obtain ⟨o3, ho3⟩ : ∃ q : Bool, q = ((ob && zD ops i o.a r.1.a) && zD ops i o.b r.1.b) := ⟨_, rfl⟩
    rw [← ho3]
    refine go 2 ?_
    refine XA (B := o3) (v := .pointer (some ⟨c0, 3, none⟩)) (wA (d' := 88) (B := true) rfl rfl rfl) (fun hB => rA (off' := 3) vF (by decide) (b := c0) (off := 0) rfl om) (XA (B := o3) (v := i64 rk) (wA (d' := 88) (B := true) rfl rfl rfl) (fun hB => by simp only [vD (v := _) (h := hB)]; exact DA (v := i64 rk) vF (b0.get (k := 4) rfl) (off := 3) rfl (by rfl)) (XA (B := o3) (v := .bool (decide ((0 : Int) < rk))) (wA (d' := 88) (B := true) rfl rfl rfl) (fun hB => by simp only [vD (v := _) (h := hB)]; exact UC rfl rfl) (XA (B := o3) (v := .bool (decide ((0 : Int) < rk))) (wA (d' := 88) (B := true) rfl rfl rfl) (fun hB => by simp only [vD (v := _) (h := hB)]; exact CA (v := .bool (decide ((0 : Int) < rk))) rfl) (XA (B := (o3 && (decide ((0 : Int) < rk)))) (v := .pointer y1) (wA (d' := 92) (B := o3) rfl rfl rfl) (fun hB => rA (off' := 3) vF (by decide) (b := a0) (off := 0) rfl om) (XA (B := (o3 && (decide ((0 : Int) < rk)))) (v := i64 (o.k)) (wA (d' := 92) (B := o3) rfl rfl rfl) (fun hB => by simp only [vD (v := _) (h := hB)]; exact DA (v := i64 (o.k)) vF (b0.get (k := 3) rfl) (off := 3) rfl (by rfl)) (XA (B := (o3 && (decide ((0 : Int) < rk)))) (v := .bool (decide ((0 : Int) ≤ o.k))) (wA (d' := 92) (B := o3) rfl rfl rfl) (fun hB => by simp only [vD (v := _) (h := hB)]; exact WG rfl rfl) (XA (B := o3) (v := .bool ((decide ((0 : Int) < rk) && decide ((0 : Int) ≤ o.k)))) (wA (d' := 88) (B := true) rfl rfl rfl) (fun hB => yB (B := o3) hB rfl rfl rfl) (XA (B := o3) (v := .bool ((decide ((0 : Int) < rk) && decide ((0 : Int) ≤ o.k)))) (wA (d' := 88) (B := true) rfl rfl rfl) (fun hB => by simp only [vD (v := _) (h := hB)]; exact CA (v := .bool ((decide ((0 : Int) < rk) && decide ((0 : Int) ≤ o.k)))) rfl) (XA (B := (o3 && ((decide ((0 : Int) < rk) && decide ((0 : Int) ≤ o.k))))) (v := .pointer y1) (wA (d' := 97) (B := o3) rfl rfl rfl) (fun hB => rA (off' := 3) vF (by decide) (b := a0) (off := 0) rfl om) (XA (B := (o3 && ((decide ((0 : Int) < rk) && decide ((0 : Int) ≤ o.k))))) (v := i64 (o.k)) (wA (d' := 97) (B := o3) rfl rfl rfl) (fun hB => by simp only [vD (v := _) (h := hB)]; exact DA (v := i64 (o.k)) vF (b0.get (k := 3) rfl) (off := 3) rfl (by rfl)) (XA (B := (o3 && ((decide ((0 : Int) < rk) && decide ((0 : Int) ≤ o.k))))) (v := .pointer (some ⟨c0, 3, none⟩)) (wA (d' := 97) (B := o3) rfl rfl rfl) (fun hB => rA (off' := 3) vF (by decide) (b := c0) (off := 0) rfl om) (XA (B := (o3 && ((decide ((0 : Int) < rk) && decide ((0 : Int) ≤ o.k))))) (v := i64 rk) (wA (d' := 97) (B := o3) rfl rfl rfl) (fun hB => by simp only [vD (v := _) (h := hB)]; exact DA (v := i64 rk) vF (b0.get (k := 4) rfl) (off := 3) rfl (by rfl)) (XA (B := (o3 && ((decide ((0 : Int) < rk) && decide ((0 : Int) ≤ o.k))))) (v := .bool (decide ((o.k : Int) < rk))) (wA (d' := 97) (B := o3) rfl rfl rfl) (fun hB => by simp only [vD (v := _) (h := hB)]; exact KC rfl rfl) (XA (B := o3) (v := .bool (((decide ((0 : Int) < rk) && decide ((0 : Int) ≤ o.k)) && decide ((o.k : Int) < rk)))) (wA (d' := 88) (B := true) rfl rfl rfl) (fun hB => yB (B := o3) hB rfl rfl rfl) ?_))))))))))))))
    refine XA (B := o3) (v := .bool (((decide ((0 : Int) < rk) && decide ((0 : Int) ≤ o.k)) && decide ((o.k : Int) < rk)))) (wA (d' := 88) (B := true) rfl rfl rfl) (fun hB => by simp only [vD (v := _) (h := hB)]; exact CA (v := .bool (((decide ((0 : Int) < rk) && decide ((0 : Int) ≤ o.k)) && decide ((o.k : Int) < rk)))) rfl) (XA (B := (o3 && (!((decide ((0 : Int) < rk) && decide ((0 : Int) ≤ o.k)) && decide ((o.k : Int) < rk))))) (v := .pointer y1) (eC (d' := 104) (B := o3) rfl rfl rfl) (fun hB => rA (off' := 3) vF (by decide) (b := a0) (off := 0) rfl om) (XA (B := (o3 && (!((decide ((0 : Int) < rk) && decide ((0 : Int) ≤ o.k)) && decide ((o.k : Int) < rk))))) (v := i64 (o.k)) (eC (d' := 104) (B := o3) rfl rfl rfl) (fun hB => by simp only [vD (v := _) (h := hB)]; exact DA (v := i64 (o.k)) vF (b0.get (k := 3) rfl) (off := 3) rfl (by rfl)) (XA (B := (o3 && (!((decide ((0 : Int) < rk) && decide ((0 : Int) ≤ o.k)) && decide ((o.k : Int) < rk))))) (v := .bool (decide ((o.k : Int) = (0 : Int)))) (eC (d' := 104) (B := o3) rfl rfl rfl) (fun hB => by simp only [vD (v := _) (h := hB)]; exact iB rfl rfl) (XA (B := o3) (v := .bool ((((decide ((0 : Int) < rk) && decide ((0 : Int) ≤ o.k)) && decide ((o.k : Int) < rk)) || decide ((o.k : Int) = (0 : Int))))) (wA (d' := 88) (B := true) rfl rfl rfl) (fun hB => EE (B := o3) hB rfl rfl rfl) (sq (yB (B := true) rfl rfl rfl rfl) ?_)))))
    refine go 1 ?_
    refine XA (B := ((o3 && (((decide ((0 : Int) < rk) && decide ((0 : Int) ≤ o.k)) && decide ((o.k : Int) < rk)) || decide ((o.k : Int) = (0 : Int)))))) (v := .pointer (some ⟨c0, 4, none⟩)) (wA (d' := 110) (B := true) rfl rfl rfl) (fun hB => rA (off' := 4) vF (by decide) (b := c0) (off := 0) rfl om) (XA (B := ((o3 && (((decide ((0 : Int) < rk) && decide ((0 : Int) ≤ o.k)) && decide ((o.k : Int) < rk)) || decide ((o.k : Int) = (0 : Int)))))) (v := .bool (r.1.c)) (wA (d' := 110) (B := true) rfl rfl rfl) (fun hB => by simp only [vD (v := _) (h := hB)]; exact DA (v := .bool (r.1.c)) vF (b0.get (k := 4) rfl) (off := 4) rfl (by rfl)) (XA (B := ((o3 && (((decide ((0 : Int) < rk) && decide ((0 : Int) ≤ o.k)) && decide ((o.k : Int) < rk)) || decide ((o.k : Int) = (0 : Int)))))) (v := .bool (r.1.c)) (wA (d' := 110) (B := true) rfl rfl rfl) (fun hB => by simp only [vD (v := _) (h := hB)]; exact CA (v := .bool (r.1.c)) rfl) (XA (B := (((o3 && (((decide ((0 : Int) < rk) && decide ((0 : Int) ≤ o.k)) && decide ((o.k : Int) < rk)) || decide ((o.k : Int) = (0 : Int))))) && (!r.1.c))) (v := .pointer (some ⟨a0, 4, none⟩)) (eC (d' := 113) (B := ((o3 && (((decide ((0 : Int) < rk) && decide ((0 : Int) ≤ o.k)) && decide ((o.k : Int) < rk)) || decide ((o.k : Int) = (0 : Int)))))) rfl rfl rfl) (fun hB => rA (off' := 4) vF (by decide) (b := a0) (off := 0) rfl om) (XA (B := (((o3 && (((decide ((0 : Int) < rk) && decide ((0 : Int) ≤ o.k)) && decide ((o.k : Int) < rk)) || decide ((o.k : Int) = (0 : Int))))) && (!r.1.c))) (v := u64 (o.c)) (eC (d' := 113) (B := ((o3 && (((decide ((0 : Int) < rk) && decide ((0 : Int) ≤ o.k)) && decide ((o.k : Int) < rk)) || decide ((o.k : Int) = (0 : Int)))))) rfl rfl rfl) (fun hB => by simp only [vD (v := _) (h := hB)]; exact DA (v := u64 (o.c)) vF (b0.get (k := 3) rfl) (off := 4) rfl (by rfl)) (XA (B := (((o3 && (((decide ((0 : Int) < rk) && decide ((0 : Int) ≤ o.k)) && decide ((o.k : Int) < rk)) || decide ((o.k : Int) = (0 : Int))))) && (!r.1.c))) (v := .bool (decide (o.c = (0#64)))) (eC (d' := 113) (B := ((o3 && (((decide ((0 : Int) < rk) && decide ((0 : Int) ≤ o.k)) && decide ((o.k : Int) < rk)) || decide ((o.k : Int) = (0 : Int)))))) rfl rfl rfl) (fun hB => by simp only [vD (v := _) (h := hB)]; exact VD (a := o.c) (b := 0#64) rfl rfl) (XA (B := ((o3 && (((decide ((0 : Int) < rk) && decide ((0 : Int) ≤ o.k)) && decide ((o.k : Int) < rk)) || decide ((o.k : Int) = (0 : Int)))))) (v := .bool ((r.1.c || decide (o.c = (0#64))))) (wA (d' := 110) (B := true) rfl rfl rfl) (fun hB => EE (B := ((o3 && (((decide ((0 : Int) < rk) && decide ((0 : Int) ≤ o.k)) && decide ((o.k : Int) < rk)) || decide ((o.k : Int) = (0 : Int)))))) hB rfl rfl rfl) (sq (yB (B := true) rfl rfl rfl rfl) ?_)))))))
    refine go 1 ?_
    refine XA (B := (((o3 && (((decide ((0 : Int) < rk) && decide ((0 : Int) ≤ o.k)) && decide ((o.k : Int) < rk)) || decide ((o.k : Int) = (0 : Int)))) && (r.1.c || decide (o.c = (0#64)))))) (v := .pointer (some ⟨c0, 5, none⟩)) (wA (d' := 119) (B := true) rfl rfl rfl) (fun hB => rA (off' := 5) vF (by decide) (b := c0) (off := 0) rfl om) (XA (B := (((o3 && (((decide ((0 : Int) < rk) && decide ((0 : Int) ≤ o.k)) && decide ((o.k : Int) < rk)) || decide ((o.k : Int) = (0 : Int)))) && (r.1.c || decide (o.c = (0#64)))))) (v := .bool (r.1.p)) (wA (d' := 119) (B := true) rfl rfl rfl) (fun hB => by simp only [vD (v := _) (h := hB)]; exact DA (v := .bool (r.1.p)) vF (b0.get (k := 4) rfl) (off := 5) rfl (by rfl)) (XA (B := (((o3 && (((decide ((0 : Int) < rk) && decide ((0 : Int) ≤ o.k)) && decide ((o.k : Int) < rk)) || decide ((o.k : Int) = (0 : Int)))) && (r.1.c || decide (o.c = (0#64)))))) (v := .bool (r.1.p)) (wA (d' := 119) (B := true) rfl rfl rfl) (fun hB => by simp only [vD (v := _) (h := hB)]; exact CA (v := .bool (r.1.p)) rfl) (XA (B := ((((o3 && (((decide ((0 : Int) < rk) && decide ((0 : Int) ≤ o.k)) && decide ((o.k : Int) < rk)) || decide ((o.k : Int) = (0 : Int)))) && (r.1.c || decide (o.c = (0#64))))) && r.1.p)) (v := .pointer (some ⟨a0, 5, none⟩)) (wA (d' := 122) (B := (((o3 && (((decide ((0 : Int) < rk) && decide ((0 : Int) ≤ o.k)) && decide ((o.k : Int) < rk)) || decide ((o.k : Int) = (0 : Int)))) && (r.1.c || decide (o.c = (0#64)))))) rfl rfl rfl) (fun hB => rA (off' := 5) vF (by decide) (b := a0) (off := 0) rfl om) (XA (B := ((((o3 && (((decide ((0 : Int) < rk) && decide ((0 : Int) ≤ o.k)) && decide ((o.k : Int) < rk)) || decide ((o.k : Int) = (0 : Int)))) && (r.1.c || decide (o.c = (0#64))))) && r.1.p)) (v := i64 (o.pt)) (wA (d' := 122) (B := (((o3 && (((decide ((0 : Int) < rk) && decide ((0 : Int) ≤ o.k)) && decide ((o.k : Int) < rk)) || decide ((o.k : Int) = (0 : Int)))) && (r.1.c || decide (o.c = (0#64)))))) rfl rfl rfl) (fun hB => by simp only [vD (v := _) (h := hB)]; exact DA (v := i64 (o.pt)) vF (b0.get (k := 3) rfl) (off := 5) rfl (by rfl)) (XA (B := ((((o3 && (((decide ((0 : Int) < rk) && decide ((0 : Int) ≤ o.k)) && decide ((o.k : Int) < rk)) || decide ((o.k : Int) = (0 : Int)))) && (r.1.c || decide (o.c = (0#64))))) && r.1.p)) (v := .bool (decide ((o.pt : Int) = (0 : Int)))) (wA (d' := 122) (B := (((o3 && (((decide ((0 : Int) < rk) && decide ((0 : Int) ≤ o.k)) && decide ((o.k : Int) < rk)) || decide ((o.k : Int) = (0 : Int)))) && (r.1.c || decide (o.c = (0#64)))))) rfl rfl rfl) (fun hB => by simp only [vD (v := _) (h := hB)]; exact iB rfl rfl) (XA (B := ((((o3 && (((decide ((0 : Int) < rk) && decide ((0 : Int) ≤ o.k)) && decide ((o.k : Int) < rk)) || decide ((o.k : Int) = (0 : Int)))) && (r.1.c || decide (o.c = (0#64))))) && r.1.p)) (v := .bool (decide ((o.pt : Int) = (0 : Int)))) (wA (d' := 122) (B := (((o3 && (((decide ((0 : Int) < rk) && decide ((0 : Int) ≤ o.k)) && decide ((o.k : Int) < rk)) || decide ((o.k : Int) = (0 : Int)))) && (r.1.c || decide (o.c = (0#64)))))) rfl rfl rfl) (fun hB => by simp only [vD (v := _) (h := hB)]; exact CA (v := .bool (decide ((o.pt : Int) = (0 : Int)))) rfl) (XA (B := (((((o3 && (((decide ((0 : Int) < rk) && decide ((0 : Int) ≤ o.k)) && decide ((o.k : Int) < rk)) || decide ((o.k : Int) = (0 : Int)))) && (r.1.c || decide (o.c = (0#64))))) && r.1.p) && (!(decide ((o.pt : Int) = (0 : Int)))))) (v := .pointer (some ⟨a0, 5, none⟩)) (eC (d' := 126) (B := ((((o3 && (((decide ((0 : Int) < rk) && decide ((0 : Int) ≤ o.k)) && decide ((o.k : Int) < rk)) || decide ((o.k : Int) = (0 : Int)))) && (r.1.c || decide (o.c = (0#64))))) && r.1.p)) rfl rfl rfl) (fun hB => rA (off' := 5) vF (by decide) (b := a0) (off := 0) rfl om) (XA (B := (((((o3 && (((decide ((0 : Int) < rk) && decide ((0 : Int) ≤ o.k)) && decide ((o.k : Int) < rk)) || decide ((o.k : Int) = (0 : Int)))) && (r.1.c || decide (o.c = (0#64))))) && r.1.p) && (!(decide ((o.pt : Int) = (0 : Int)))))) (v := i64 (o.pt)) (eC (d' := 126) (B := ((((o3 && (((decide ((0 : Int) < rk) && decide ((0 : Int) ≤ o.k)) && decide ((o.k : Int) < rk)) || decide ((o.k : Int) = (0 : Int)))) && (r.1.c || decide (o.c = (0#64))))) && r.1.p)) rfl rfl rfl) (fun hB => by simp only [vD (v := _) (h := hB)]; exact DA (v := i64 (o.pt)) vF (b0.get (k := 3) rfl) (off := 5) rfl (by rfl)) (XA (B := (((((o3 && (((decide ((0 : Int) < rk) && decide ((0 : Int) ≤ o.k)) && decide ((o.k : Int) < rk)) || decide ((o.k : Int) = (0 : Int)))) && (r.1.c || decide (o.c = (0#64))))) && r.1.p) && (!(decide ((o.pt : Int) = (0 : Int)))))) (v := .bool (decide ((o.pt : Int) = (1 : Int)))) (eC (d' := 126) (B := ((((o3 && (((decide ((0 : Int) < rk) && decide ((0 : Int) ≤ o.k)) && decide ((o.k : Int) < rk)) || decide ((o.k : Int) = (0 : Int)))) && (r.1.c || decide (o.c = (0#64))))) && r.1.p)) rfl rfl rfl) (fun hB => by simp only [vD (v := _) (h := hB)]; exact iB rfl rfl) (XA (B := ((((o3 && (((decide ((0 : Int) < rk) && decide ((0 : Int) ≤ o.k)) && decide ((o.k : Int) < rk)) || decide ((o.k : Int) = (0 : Int)))) && (r.1.c || decide (o.c = (0#64))))) && r.1.p)) (v := .bool ((decide ((o.pt : Int) = (0 : Int)) || decide ((o.pt : Int) = (1 : Int))))) (wA (d' := 122) (B := (((o3 && (((decide ((0 : Int) < rk) && decide ((0 : Int) ≤ o.k)) && decide ((o.k : Int) < rk)) || decide ((o.k : Int) = (0 : Int)))) && (r.1.c || decide (o.c = (0#64)))))) rfl rfl rfl) (fun hB => EE (B := ((((o3 && (((decide ((0 : Int) < rk) && decide ((0 : Int) ≤ o.k)) && decide ((o.k : Int) < rk)) || decide ((o.k : Int) = (0 : Int)))) && (r.1.c || decide (o.c = (0#64))))) && r.1.p)) hB rfl rfl rfl) (XA (B := (((o3 && (((decide ((0 : Int) < rk) && decide ((0 : Int) ≤ o.k)) && decide ((o.k : Int) < rk)) || decide ((o.k : Int) = (0 : Int)))) && (r.1.c || decide (o.c = (0#64)))))) (v := .bool ((r.1.p && (decide ((o.pt : Int) = (0 : Int)) || decide ((o.pt : Int) = (1 : Int)))))) (wA (d' := 119) (B := true) rfl rfl rfl) (fun hB => yB (B := (((o3 && (((decide ((0 : Int) < rk) && decide ((0 : Int) ≤ o.k)) && decide ((o.k : Int) < rk)) || decide ((o.k : Int) = (0 : Int)))) && (r.1.c || decide (o.c = (0#64)))))) hB rfl rfl rfl) (XA (B := (((o3 && (((decide ((0 : Int) < rk) && decide ((0 : Int) ≤ o.k)) && decide ((o.k : Int) < rk)) || decide ((o.k : Int) = (0 : Int)))) && (r.1.c || decide (o.c = (0#64)))))) (v := .bool ((r.1.p && (decide ((o.pt : Int) = (0 : Int)) || decide ((o.pt : Int) = (1 : Int)))))) (wA (d' := 119) (B := true) rfl rfl rfl) (fun hB => by simp only [vD (v := _) (h := hB)]; exact CA (v := .bool ((r.1.p && (decide ((o.pt : Int) = (0 : Int)) || decide ((o.pt : Int) = (1 : Int)))))) rfl) (XA (B := ((((o3 && (((decide ((0 : Int) < rk) && decide ((0 : Int) ≤ o.k)) && decide ((o.k : Int) < rk)) || decide ((o.k : Int) = (0 : Int)))) && (r.1.c || decide (o.c = (0#64))))) && (!(r.1.p && (decide ((o.pt : Int) = (0 : Int)) || decide ((o.pt : Int) = (1 : Int))))))) (v := .pointer (some ⟨a0, 5, none⟩)) (eC (d' := 132) (B := (((o3 && (((decide ((0 : Int) < rk) && decide ((0 : Int) ≤ o.k)) && decide ((o.k : Int) < rk)) || decide ((o.k : Int) = (0 : Int)))) && (r.1.c || decide (o.c = (0#64)))))) rfl rfl rfl) (fun hB => rA (off' := 5) vF (by decide) (b := a0) (off := 0) rfl om) (XA (B := ((((o3 && (((decide ((0 : Int) < rk) && decide ((0 : Int) ≤ o.k)) && decide ((o.k : Int) < rk)) || decide ((o.k : Int) = (0 : Int)))) && (r.1.c || decide (o.c = (0#64))))) && (!(r.1.p && (decide ((o.pt : Int) = (0 : Int)) || decide ((o.pt : Int) = (1 : Int))))))) (v := i64 (o.pt)) (eC (d' := 132) (B := (((o3 && (((decide ((0 : Int) < rk) && decide ((0 : Int) ≤ o.k)) && decide ((o.k : Int) < rk)) || decide ((o.k : Int) = (0 : Int)))) && (r.1.c || decide (o.c = (0#64)))))) rfl rfl rfl) (fun hB => by simp only [vD (v := _) (h := hB)]; exact DA (v := i64 (o.pt)) vF (b0.get (k := 3) rfl) (off := 5) rfl (by rfl)) ?_))))))))))))))
    refine XA (B := ((((o3 && (((decide ((0 : Int) < rk) && decide ((0 : Int) ≤ o.k)) && decide ((o.k : Int) < rk)) || decide ((o.k : Int) = (0 : Int)))) && (r.1.c || decide (o.c = (0#64))))) && (!(r.1.p && (decide ((o.pt : Int) = (0 : Int)) || decide ((o.pt : Int) = (1 : Int))))))) (v := .bool (decide ((o.pt : Int) = (0 : Int)))) (eC (d' := 132) (B := (((o3 && (((decide ((0 : Int) < rk) && decide ((0 : Int) ≤ o.k)) && decide ((o.k : Int) < rk)) || decide ((o.k : Int) = (0 : Int)))) && (r.1.c || decide (o.c = (0#64)))))) rfl rfl rfl) (fun hB => by simp only [vD (v := _) (h := hB)]; exact iB rfl rfl) (XA (B := (((o3 && (((decide ((0 : Int) < rk) && decide ((0 : Int) ≤ o.k)) && decide ((o.k : Int) < rk)) || decide ((o.k : Int) = (0 : Int)))) && (r.1.c || decide (o.c = (0#64)))))) (v := .bool (((r.1.p && (decide ((o.pt : Int) = (0 : Int)) || decide ((o.pt : Int) = (1 : Int)))) || decide ((o.pt : Int) = (0 : Int))))) (wA (d' := 119) (B := true) rfl rfl rfl) (fun hB => EE (B := (((o3 && (((decide ((0 : Int) < rk) && decide ((0 : Int) ≤ o.k)) && decide ((o.k : Int) < rk)) || decide ((o.k : Int) = (0 : Int)))) && (r.1.c || decide (o.c = (0#64)))))) hB rfl rfl rfl) (sq (yB (B := true) rfl rfl rfl rfl) ?_))
    refine go 1 ?_
    obtain ⟨o4, ho4⟩ : ∃ q : Bool, q = (((o3 && (((decide ((0 : Int) < rk) && decide ((0 : Int) ≤ o.k)) && decide ((o.k : Int) < rk)) || decide ((o.k : Int) = (0 : Int)))) && (r.1.c || decide (o.c = (0#64)))) && ((r.1.p && (decide ((o.pt : Int) = (0 : Int)) || decide ((o.pt : Int) = (1 : Int)))) || decide ((o.pt : Int) = (0 : Int)))) := ⟨_, rfl⟩
    rw [← ho4]
    rw [ho3] at ho4
    have hgb : o4 = true ↔ GoodAt ops e0 e1 i o := by rw [ho4]; exact VP hr hrk hob
    have hsn2 : GoodAt ops e0 e1 i o → IG ops sl2 (i + 1) := fun h => hsn2 (hob.2 ⟨hr ▸ h.ok, h.told⟩)
    refine go 2 ?_
    refine PC (!o4) rfl (fun n0 => ?_) (fun n0 => ?_)
    ·have hgo2 : o4 = false := by simpa using n0
     refine go 2 ?_
     have := b0.lT 2
     have := b0.lT 3
     have := b0.lT 4
     refine cl (YA (110 : Int) (i : Nat) ({data := #[111, 112]}) M0 uC) ?_
     rintro v53 B1 ⟨r0, O0⟩
     have P0 := b0.ext O0
     obtain ⟨C1, D1, rfl⟩ := r0.iface
     refine go 2 ?_
     exact ⟨_, rfl, .inr ⟨_, rfl, r0.mono b0.chg.size, fun h => absurd ((hgb.2 (by have h2 := h i om; rw [← ho] at h2; exact h2)).symm.trans hgo2) (by decide)⟩, P0.chg⟩
    ·have hgo2 : o4 = true := by simpa using n0
     have hgo := hgb.1 hgo2
     refine go 3 ?_
     refine bS (E := EI) (l := [r.1.m]) fun E1 F1 G1 H1 I1 => ?_
     refine OD ?_
     refine ⟨by exact (mD ops i).symm, by rfl, om, ?_⟩
     intro Q0 h0 R0 J1 S0 K1 T0
     have U0 : (nD ops i) ++ ([r.1.m]) = nD ops (i + 1) := by rw [nD, ← ho, ← hU o e0 e1, ← hr]
     have s0 := S0
     have u0 := T0
     rw [U0] at s0 u0
     refine go 3 ?_
     exact ⟨(i + 1, Q0, h0, R0, sl2), _, rfl, kp, ⟨⟨om, fun j hj => if h : j < i then hga j h else by (rw [show j = i by omega, ← ho]; exact hgo), hsl2, hsn2 (hgb.1 hgo2), s0, hSs2⟩, (((u0.dropk 5).dropk 4).dropk 0)⟩, vd⟩
   ·refine go 1 ?_
    refine cl (jJ o I0) ?_
    rintro _ L1 ⟨rfl, V0⟩
    have W0 := q0.ext V0
    refine go 0 ?_
    refine iA (uF o) rfl (fun d0 => ?_) (fun d0 => ?_)
    ·refine go 3 ?_
     intro M1 i0 N1
     refine go 2 ?_
     refine XA (B := r.2) (v := .pointer y1) (wA (d' := 46) (B := true) rfl rfl rfl) (fun hB => rA (off' := 3) vF (by decide) (b := a0) (off := 0) rfl om) (XA (B := r.2) (v := i64 (o.k)) (wA (d' := 46) (B := true) rfl rfl rfl) (fun hB => by simp only [vD (v := _) (h := hB)]; exact DA (v := i64 (o.k)) vF (i0.get (k := 1) rfl) (off := 3) rfl (by rfl)) (XA (B := r.2) (v := .bool (decide ((0 : Int) ≤ o.k))) (wA (d' := 46) (B := true) rfl rfl rfl) (fun hB => by simp only [vD (v := _) (h := hB)]; exact WG rfl rfl) (sq (yB (B := true) rfl rfl rfl rfl) ?_)))
     refine go 1 ?_
     refine XA (B := ((r.2 && decide ((0 : Int) ≤ o.k)))) (v := .pointer y1) (wA (d' := 51) (B := true) rfl rfl rfl) (fun hB => rA (off' := 3) vF (by decide) (b := a0) (off := 0) rfl om) (XA (B := ((r.2 && decide ((0 : Int) ≤ o.k)))) (v := i64 (o.k)) (wA (d' := 51) (B := true) rfl rfl rfl) (fun hB => by simp only [vD (v := _) (h := hB)]; exact DA (v := i64 (o.k)) vF (i0.get (k := 1) rfl) (off := 3) rfl (by rfl)) (XA (B := ((r.2 && decide ((0 : Int) ≤ o.k)))) (v := iN (ZA ops)) (wA (d' := 51) (B := true) rfl rfl rfl) (fun hB => CA (v := iN (ZA ops)) rfl) (XA (B := ((r.2 && decide ((0 : Int) ≤ o.k)))) (v := .bool (decide ((o.k : Int) < ((ZA ops) : Nat)))) (wA (d' := 51) (B := true) rfl rfl rfl) (fun hB => by simp only [vD (v := _) (h := hB)]; exact KC rfl rfl) (sq (yB (B := true) rfl rfl rfl rfl) ?_))))
     refine go 1 ?_
     refine XA (B := (((r.2 && decide ((0 : Int) ≤ o.k)) && decide ((o.k : Int) < ((ZA ops) : Nat))))) (v := sO (some f0) (ZA ops) (ZA ops)) (wA (d' := 57) (B := true) rfl rfl rfl) (fun hB => CA (v := sO (some f0) (ZA ops) (ZA ops)) rfl) (XA (B := (((r.2 && decide ((0 : Int) ≤ o.k)) && decide ((o.k : Int) < ((ZA ops) : Nat))))) (v := .pointer y1) (wA (d' := 57) (B := true) rfl rfl rfl) (fun hB => rA (off' := 3) vF (by decide) (b := a0) (off := 0) rfl om) (XA (B := (((r.2 && decide ((0 : Int) ≤ o.k)) && decide ((o.k : Int) < ((ZA ops) : Nat))))) (v := i64 (o.k)) (wA (d' := 57) (B := true) rfl rfl rfl) (fun hB => by simp only [vD (v := _) (h := hB)]; exact DA (v := i64 (o.k)) vF (i0.get (k := 1) rfl) (off := 3) rfl (by rfl)) (XA (B := (((r.2 && decide ((0 : Int) ≤ o.k)) && decide ((o.k : Int) < ((ZA ops) : Nat))))) (v := .pointer (oC (sA (some f0)) (o.k.toNat * 1))) (wA (d' := 57) (B := true) rfl rfl rfl) (fun hB => by have hB2 := hB; simp only [Bool.and_eq_true, decide_eq_true_eq] at hB2; simp only [vD (v := _) (h := hB)]; exact TC (E := EI) (l := sl) (j := o.k.toNat) vF (i0.rd (k := 3) rfl hSs) rfl rfl om (by exact hsl.symm) om) (XA (B := (((r.2 && decide ((0 : Int) ≤ o.k)) && decide ((o.k : Int) < ((ZA ops) : Nat))))) (v := i64 (sl.getD o.k.toNat 0)) (wA (d' := 57) (B := true) rfl rfl rfl) (fun hB => by have hB2 := hB; simp only [Bool.and_eq_true, decide_eq_true_eq] at hB2; simp only [vD (v := _) (h := hB)]; exact AD (E := EI) (l := sl) (j := o.k.toNat) (v := sl.getD o.k.toNat 0) OC (i0.rd (k := 3) rfl hSs) rfl rfl (QA om)) (XA (B := (((r.2 && decide ((0 : Int) ≤ o.k)) && decide ((o.k : Int) < ((ZA ops) : Nat))))) (v := .bool (decide ((sl.getD o.k.toNat 0 : Int) = (0 : Int)))) (wA (d' := 57) (B := true) rfl rfl rfl) (fun hB => by simp only [vD (v := _) (h := hB)]; exact iB rfl rfl) (sq (yB (B := true) rfl rfl rfl rfl) ?_))))))
     refine go 2 ?_
     refine PC ((((r.2 && decide ((0 : Int) ≤ o.k)) && decide ((o.k : Int) < ((ZA ops) : Nat))) && decide ((sl.getD o.k.toNat 0 : Int) = (0 : Int)))) rfl (fun h0 => ?_) (fun h0 => ?_)
     ·have hkt := ((gG hsn d0).1 h0).2 d0
      unfold MM at hkt
      refine go 5 ?_
      intro O1 X0 Y0
      exact BE (RA (k0 (sl.set o.k.toNat (1 : Int), ((ZA ops) : Nat), (((r.2 && decide ((0 : Int) ≤ o.k)) && decide ((o.k : Int) < ((ZA ops) : Nat))) && decide ((sl.getD o.k.toNat 0 : Int) = (0 : Int)))) _ _ kp ⟨⟨by rw [XO, if_pos d0], gG hsn d0, by rw [List.length_set]; exact hsl, fun _ => by have h := (gG hsn d0).1 h0; have h2 := h.2 d0; exact PO ho hsn hsl d0 ⟨h2.1, h2.2.1⟩, X0⟩, (Y0.pk 5 [2, 3, 4, 1, 0])⟩))
     ·exact ED (RA (k0 (sl, ((ZA ops) : Nat), (((r.2 && decide ((0 : Int) ≤ o.k)) && decide ((o.k : Int) < ((ZA ops) : Nat))) && decide ((sl.getD o.k.toNat 0 : Int) = (0 : Int)))) _ _ kp ⟨⟨by rw [XO, if_pos d0], gG hsn d0, hsl, fun h => absurd (h0.symm.trans h) (by decide), hSs⟩, (i0.pk 5 [2, 3, 4, 1, 0])⟩))
    ·exact ED (RA (k0 (sl, r.1.k, r.2) _ _ kp ⟨⟨by rw [XO, if_neg d0, ← hr], ⟨fun h => ⟨h, fun t => absurd t d0⟩, fun h => h.1⟩, hsl, fun _ => cN ho hsn d0, hSs⟩, (W0.pk 5 [2, 3, 4, 1, 0])⟩))
  ·have hie : i = ops.length := by omega
   refine go 3 ?_
   exact ⟨_, rfl, .inl ⟨⟨_, rfl⟩, fun j hj => hga j om⟩, E0.chg⟩
end Go.Proofs.YtohngnahcgbfmaaGreatDoor.Mi
namespace Go.Proofs.YtohngnahcgbfmaaGreatDoor.Mi
open Go Vc Er Ek Circ
theorem OV : Tryz.prog.underlying 29 = some (.array 2 3) := by kernel_rfl
theorem NI (ops : List Mo) (oa : Option Addr) (oc : Nat) (e0 e1 : Int) (w : World) (hG : Gl w) (hO : Rd xE w oa ops) (hol : ops.length ≤ 140737488355328) : Ca 8 [.slice oa ops.length oc, .agg (uA EI [e0, e1]).toArray] w fun v w' => ((v = .nilIface ∧ Good ops e0 e1) ∨ (Er w.heap.size w' 110 1 v ∧ ¬ Good ops e0 e1)) ∧ Ext w w' := by
 have H := Hp.start No w
 refine enter (n := 37) Tryz.func8 rfl rfl (dB rfl) ?_
 refine go 1 ?_
 intro b1 w2 u0 H3 w0
 refine go 3 ?_
 refine AA (σ := Nat) (fun q => [(0, .slice oa ops.length oc), (3, pT b1), (4, .nilIface), (9, .agg (uA EI ([e0, e1])).toArray), (10, iN q)]) (fun q w' => (q ≤ 2 ∧ ∀ j, j < q → 0 ≤ [e0, e1].getD j 0 ∧ [e0, e1].getD j 0 ≤ 65536) ∧ Hp No w w' [(rX b1 EI ([e0, e1]) 29)]) (fun q => 2 - q) (0) ?_ ?_ ?_
 ·exact kp
 ·exact ⟨⟨Nat.zero_le _, fun j h => absurd h (Nat.not_lt_zero _)⟩, H3⟩
 rintro q ρ w5 ⟨⟨hq, hqa⟩, HL⟩
 refine go 1 ?_
 refine iA (((q : Nat) : Int) < (2 : Int)) rfl (fun j0 => ?_) (fun j0 => ?_)
 ·refine go 0 ?_
  refine sq (lP (E := EI) (l := [e0, e1]) (j := q) (a := ([e0, e1]).getD q 0) rfl vF vF vF rfl rfl vo om (by exact QA (by show q < 2; omega)) (fun _ => rfl)) ?_
  refine go 4 ?_
  by_cases g7 : (([e0, e1]).getD q 0 : Int) < (0 : Int)
  ·refine cB (gA (d' := 15) (b := true) rfl rfl (bT (g7))) (cB (gA (d' := 15) (b := true) rfl rfl (bT (g7))) (sq (bC (u := .bool true) (bT (g7)) rfl) ?_))
   refine go 2 ?_
   have := HL.lT 0
   refine cl (YA (110 : Int) (([e0, e1]).getD q 0) ({data := #[101, 108, 101, 109, 101, 110, 116, 115]}) w5 uC) ?_
   rintro v10 w8 ⟨b0, k0⟩
   have m0 := HL.ext k0
   obtain ⟨x0, y0, rfl⟩ := b0.iface
   refine go 1 ?_
   exact ⟨_, rfl, .inr ⟨b0.mono HL.chg.size, fun h => by
    have hgd : 0 ≤ [e0, e1].getD q 0 ∧ [e0, e1].getD q 0 ≤ 65536 := by
     rcases (show q = 0 ∨ q = 1 by omega) with rfl | rfl
     ·exact ⟨h.l0, h.h0⟩
     ·exact ⟨h.l1, h.h1⟩
    omega⟩, m0.chg⟩
  ·refine LA (v := i64 (([e0, e1]).getD q 0)) (w' := w5) (gA (d' := 15) (b := false) rfl rfl (bF (g7))) (CA (v := i64 (([e0, e1]).getD q 0)) rfl) (LA (v := .bool (decide (((65536 : Int) : Int) < (([e0, e1]).getD q 0)))) (w' := w5) (gA (d' := 15) (b := false) rfl rfl (bF (g7))) (UC rfl rfl) (sq (WB (v := .bool (decide (((65536 : Int) : Int) < (([e0, e1]).getD q 0)))) (bF (g7)) rfl) ?_))
   refine go 0 ?_
   refine iA (((65536 : Int) : Int) < (([e0, e1]).getD q 0)) rfl (fun n0 => ?_) (fun n0 => ?_)
   ·refine go 2 ?_
    have := HL.lT 0
    refine cl (YA (110 : Int) (([e0, e1]).getD q 0) ({data := #[101, 108, 101, 109, 101, 110, 116, 115]}) w5 uC) ?_
    rintro v18 z0 ⟨c0, o0⟩
    have p0 := HL.ext o0
    obtain ⟨A0, B0, rfl⟩ := c0.iface
    refine go 1 ?_
    exact ⟨_, rfl, .inr ⟨c0.mono HL.chg.size, fun h => by
     have hgd : 0 ≤ [e0, e1].getD q 0 ∧ [e0, e1].getD q 0 ≤ 65536 := by
      rcases (show q = 0 ∨ q = 1 by omega) with rfl | rfl
      ·exact ⟨h.l0, h.h0⟩
      ·exact ⟨h.l1, h.h1⟩
     omega⟩, p0.chg⟩
   ·refine go 2 ?_
    exact ⟨q + 1, _, rfl, kp, ⟨⟨om, fun j hj => if h : j < q then hqa j h else by (rw [show j = q by omega]; omega)⟩, HL⟩, vd⟩
 ·have hz0 : 0 ≤ e0 ∧ e0 ≤ 65536 := hqa 0 om
  have hz1 : 0 ≤ e1 ∧ e1 ≤ 65536 := hqa 1 om
  refine go 3 ?_
  refine iA (((16384 : Int) : Int) < (ops.length : Nat)) rfl (fun q0 => ?_) (fun q0 => ?_)
  ·refine go 3 ?_
   have := HL.lT 0
   refine cl (YA (110 : Int) (ops.length : Nat) ({data := #[111, 112, 115]}) w5 uC) ?_
   rintro v26 C0 ⟨d0, r0⟩
   have s0 := HL.ext r0
   obtain ⟨D0, E0, rfl⟩ := d0.iface
   refine go 1 ?_
   exact ⟨_, rfl, .inr ⟨d0.mono HL.chg.size, fun h => by have := h.len; omega⟩, s0.chg⟩
  ·refine go 2 ?_
   have := HL.lT 0
   refine cl (YP ops oa oc e0 e1 w5 uC IC om) ?_
   rintro _ F0 ⟨⟨⟨G0, rfl⟩, hga35⟩ | ⟨H0, rfl, f0, hbd38⟩, i0⟩
   ·have a0 := HL.ext i0
    refine go 7 ?_
    exact ⟨_, rfl, .inl ⟨rfl, ⟨hz0.1, hz0.2, hz1.1, hz1.2, by omega, hga35⟩⟩, a0.chg⟩
   ·have a0 := HL.ext i0
    obtain ⟨I0, J0, rfl⟩ := f0.iface
    refine go 7 ?_
    exact ⟨_, rfl, .inr ⟨f0.mono HL.chg.size, fun h => hbd38 h.at'⟩, a0.chg⟩
theorem DD (ops : List Mo) (oa : Option Addr) (oc : Nat) (e0 e1 : Int) (mo : Nat) (hmo : mo = ops.length) (w : World) (hG : Gl w) (hO : Rd xE w oa ops) (hol : ops.length ≤ 140737488355328) (hg : Good ops e0 e1) : Ca 8 [.slice oa mo oc, .agg (uA EI [e0, e1]).toArray] w fun v w' => v = .nilIface ∧ Ext w w' := by
 subst hmo
 refine (NI ops oa oc e0 e1 w hG hO hol).mono fun e w' ⟨v, he, h, hE⟩ => ?_
 rcases h with ⟨h, _⟩ | ⟨_, h⟩
 ·exact ⟨v, he, h, hE⟩
 ·exact absurd hg h
theorem AN (ops : List Mo) (oa : Option Addr) (oc : Nat) (e0 e1 : Int) (mo : Nat) (hmo : mo = ops.length) (w : World) (hG : Gl w) (hO : Rd xE w oa ops) (hol : ops.length ≤ 140737488355328) (hg : ¬ Good ops e0 e1) : Ca 8 [.slice oa mo oc, .agg (uA EI [e0, e1]).toArray] w fun v w' => Er w.heap.size w' 110 1 v ∧ Ext w w' := by
 subst hmo
 refine (NI ops oa oc e0 e1 w hG hO hol).mono fun e w' ⟨v, he, h, hE⟩ => ?_
 rcases h with ⟨_, h⟩ | ⟨h, _⟩
 ·exact absurd h hg
 ·exact ⟨v, he, h, hE⟩
end Go.Proofs.YtohngnahcgbfmaaGreatDoor.Mi
namespace Go.Proofs.YtohngnahcgbfmaaGreatDoor.Mi
open Go Vc Er Ek Circ
theorem GW : mA Tryz.prog 8 = true := by kernel_rfl
theorem eN (ops : List Mo) (oa : Option Addr) (oc : Nat) (w : World) (hG : Gl w) (hO : Rd xE w oa ops) (hol : ops.length ≤ 140737488355328) (hg : Good ops 65536 65536) : Ca 34 [.slice oa ops.length oc] w fun v w' => SlRes EI 3 (sC ops ops.length) w v w' ∧ Ext w w' := by
 let x1 : Array Value := #[i64 0, i64 0, i64 0, i64 0, .bool false, .bool false, i64 0]
 have hlen := hg.len
 have H := Hp.start No w
 refine enter (n := 52) Tryz.func34 rfl rfl (dB rfl) ?_
 refine go 2 ?_
 refine cl (sI w) ?_
 rintro _ w1 ⟨rfl, B0⟩
 have H3 := H.ext B0
 refine cl (DD ops oa oc 65536 65536 ops.length (by rfl) w1 uC IC om hg) ?_
 rintro _ w4 ⟨rfl, C0⟩
 have H6 := H3.ext C0
 refine sq ((rE vF rfl rfl).as (v' := .bool false) (by rfl)) ?_
 refine go 4 ?_
 have H7 := H6.nil (qA EI 3 [] [])
 refine go 0 ?_
 refine AA (σ := Nat × Option Nat × Nat × LV) (fun (i, kf, cf, sf) => [(2, yA), (3, sO kf i cf), (13, .slice oa ops.length oc), (14, iN ops.length), (15, iN i)]) (fun (i, kf, cf, sf) w' => (i ≤ ops.length ∧ Sl EI kf (sC ops i) cf sf) ∧ Hp No w w' [(kf, qA EI 3 (sC ops i) sf)]) (fun (i, kf, cf, sf) => ops.length - i) ((0, none, 0, [])) ?_ ?_ ?_
 ·exact kp
 ·exact ⟨⟨Nat.zero_le _, Sl.none⟩, H7⟩
 rintro ⟨i, kf, cf, sf⟩ ρ w8 ⟨⟨hq, hSf⟩, HL⟩
 have hfl := lC ops i
 have hrb0 := nF ops i
 refine go 1 ?_
 refine iA (((i : Nat) : Int) < (ops.length : Nat)) rfl (fun D0 => ?_) (fun D0 => ?_)
 ·refine go 3 ?_
  intro E0 D1 E1 F1 G1
  refine go 1 ?_
  intro H1 m0 I1
  obtain ⟨o, ho⟩ : ∃ q1, q1 = ops.getD i DB := ⟨_, rfl⟩
  rw [← ho] at m0 ⊢
  refine go 0 ?_
  let b0 : List RW := [(rC E0 #[i64 (o.kd), i64 (o.a), i64 (o.b), i64 (o.k), u64 (o.c), i64 (o.pt)] 36), (kf, qA EI 3 (sC ops i) sf)]
  let F0 : mC := [RD false false false false fun _ _ _ _ w' => Hp No w w' b0, RD true false false false fun v1 _ _ _ w' => v1 = .agg (uA EI [65536, 65536]).toArray ∧ Hp No w w' b0, RD true true false false fun v1 v2 _ _ w' => v1 = .agg (uA EI [65536, 65536]).toArray ∧ v2 = .tuple #[.agg #[i64 ((vA o 65536 65536).1.a), i64 ((vA o 65536 65536).1.b), i64 ((vA o 65536 65536).1.m), i64 ((vA o 65536 65536).1.k), .bool ((vA o 65536 65536).1.c), .bool ((vA o 65536 65536).1.p), i64 ((vA o 65536 65536).1.r)], .bool ((vA o 65536 65536).2)] ∧ Hp No w w' b0, RD false false true false fun _ _ v6 _ w' => ∃ d0, v6 = pT d0 ∧ Hp No w w' ((rC d0 x1 129) :: b0), RD true false true false fun v1 _ v6 _ w' => ∃ e0, v1 = .agg (uA EI [65536, 65536]).toArray ∧ v6 = pT e0 ∧ Hp No w w' ((rC e0 x1 129) :: b0), RD true true true false fun v1 v2 v6 _ w' => ∃ a0, v1 = .agg (uA EI [65536, 65536]).toArray ∧ v2 = .tuple #[.agg #[i64 ((vA o 65536 65536).1.a), i64 ((vA o 65536 65536).1.b), i64 ((vA o 65536 65536).1.m), i64 ((vA o 65536 65536).1.k), .bool ((vA o 65536 65536).1.c), .bool ((vA o 65536 65536).1.p), i64 ((vA o 65536 65536).1.r)], .bool ((vA o 65536 65536).2)] ∧ v6 = pT a0 ∧ Hp No w w' ((rC a0 x1 129) :: b0), RD true true true true fun v1 v2 v6 _ w' => ∃ a0, v1 = .agg (uA EI [65536, 65536]).toArray ∧ v2 = .tuple #[.agg #[i64 ((vA o 65536 65536).1.a), i64 ((vA o 65536 65536).1.b), i64 ((vA o 65536 65536).1.m), i64 ((vA o 65536 65536).1.k), .bool ((vA o 65536 65536).1.c), .bool ((vA o 65536 65536).1.p), i64 ((vA o 65536 65536).1.r)], .bool ((vA o 65536 65536).2)] ∧ v6 = pT a0 ∧ Hp No w w' ((rC a0 #[i64 ((vA o 65536 65536).1.a), i64 ((vA o 65536 65536).1.b), i64 ((vA o 65536 65536).1.m), i64 ((vA o 65536 65536).1.k), .bool ((vA o 65536 65536).1.c), .bool ((vA o 65536 65536).1.p), i64 ((vA o 65536 65536).1.r)] 129) :: b0)]
  refine MA (m := 9) [0, 0, 3, 7, 15, 15, 0, 95, 255] [1, 2, 6, 7] b0 F0 BA (fun _ e => m0.ext e) EC (fun f0 => ?_)
  refine gk 1 ?_
  refine WalkT.eff f0 0 ?_ ?_
  ·refine tB (fun r w0 uw hF hE => ?_) fun r w0 uw hF hE => ?_
   ·have G0 := hF.ext hE
    refine gW fun Q' hK => (cl (sI uw) ?_)
    rintro _ J1 ⟨rfl, H0⟩
    have I0 := G0.ext H0
    exact hK _ _ (A_ rfl I0)
   ·obtain ⟨d0, e6, i0⟩ := hF
    replace i0 := i0.ext hE
    refine gW fun Q' hK => (cl (sI uw) ?_)
    rintro _ K1 ⟨rfl, J0⟩
    have K0 := i0.ext J0
    exact hK _ _ (E_ d0 (A_ rfl (A_ e6 K0)))
  refine WalkT.eff f0 1 ?_ ?_
  ·refine tB (fun r w0 uw hF hE => ?_) fun r w0 uw hF hE => ?_
   ·obtain ⟨e1, j0⟩ := hF
    replace j0 := j0.ext hE
    dsimp only
    rw [e1]
    refine gW fun Q' hK => (cl (qJ o 65536 65536 uw uC) ?_)
    rintro _ L1 ⟨rfl, L0⟩
    have M0 := j0.ext L0
    exact hK _ _ (A_ e1 (A_ rfl M0))
   ·obtain ⟨e0, e1, e6, k0⟩ := hF
    replace k0 := k0.ext hE
    dsimp only
    rw [e1]
    refine gW fun Q' hK => (cl (qJ o 65536 65536 uw uC) ?_)
    rintro _ M1 ⟨rfl, N0⟩
    have O0 := k0.ext N0
    exact hK _ _ (E_ e0 (A_ e1 (A_ rfl (A_ e6 O0))))
  refine bA (fun r => r 2) (fun r r' h => h 2 (by decide) rfl) (fun _ _ => CA rfl) (aA (fun r => AB (r 2) 0) (fun r r' h => by rw [h 2 (by decide) rfl]) ?_ ?_)
  ·refine tB (fun r w0 uw hF hE => ?_) fun r w0 uw hF hE => ?_
   ·obtain ⟨e1, e2, HH⟩ := hF
    replace HH := HH.ext hE
    dsimp only
    rw [e2]
    exact xC
   ·obtain ⟨a0, e1, e2, e6, HH⟩ := hF
    replace HH := HH.ext hE
    dsimp only
    rw [e2]
    exact xC
  refine aA (fun r => AB (r 2) 1) (fun r r' h => by rw [h 2 (by decide) rfl]) ?_ ?_
  ·refine A_ (fun r w0 uw hF hE => ?_) (A_ (fun r w0 uw hF hE => ?_) (A_ (fun r w0 uw hF hE => ?_) trivial))
   ·obtain ⟨e1, e2, HH⟩ := hF
    replace HH := HH.ext hE
    dsimp only
    rw [e2]
    exact xC
   ·obtain ⟨a0, e1, e2, e6, HH⟩ := hF
    replace HH := HH.ext hE
    dsimp only
    rw [e2]
    exact xC
   ·obtain ⟨a0, e1, e2, e6, HH⟩ := hF
    replace HH := HH.ext hE
    dsimp only
    rw [e2]
    exact xC
  refine WalkT.eff f0 2 ?_ ?_
  ·refine A_ (fun r w0 uw hF hE => ?_) (A_ (fun r w0 uw hF hE => ?_) (A_ (fun r w0 uw hF hE => ?_) trivial))
   ·have N1 := hF.ext hE
    refine gW fun Q' hK => ?_
    refine go 1 ?_
    intro P0 O1 P1 Q0 Q1
    exact hK _ _ (E_ P0 (A_ rfl Q0))
   ·obtain ⟨e1, n0⟩ := hF
    replace n0 := n0.ext hE
    refine gW fun Q' hK => ?_
    refine go 1 ?_
    intro R0 R1 S1 S0 T1
    exact hK _ _ (E_ R0 (A_ e1 (A_ rfl S0)))
   ·obtain ⟨e1, e2, o0⟩ := hF
    replace o0 := o0.ext hE
    refine gW fun Q' hK => ?_
    refine go 1 ?_
    intro T0 U1 V1 U0 W1
    exact hK _ _ (E_ T0 (A_ e1 (A_ e2 (A_ rfl U0))))
  refine WalkT.eff f0 3 ?_ ?_
  ·refine tA fun r w0 uw hF hE => ?_
   obtain ⟨a0, e1, e2, e6, p0⟩ := hF
   replace p0 := p0.ext hE
   dsimp only
   rw [e2, e6]
   refine MC fun Q' hK => ?_
   refine go 1 ?_
   intro X1 V0 Y1
   exact hK _ (fun _ => (E_ a0 (A_ e1 (A_ e2 (A_ e6 V0)))))
  refine bA (fun r => AB (r 2) 1) (fun r r' h => by rw [h 2 (by decide) rfl]) (fun _ _ => zA rfl) (WalkT.nil fun r w0 Z1 hF hE => ?_)
  obtain ⟨a0, e1, e2, e6, h0⟩ := hF
  replace h0 := h0.ext hE
  dsimp only
  rw [e1, e2, e6]
  dsimp only [b0] at h0
  obtain ⟨r, hr⟩ : ∃ q1, q1 = vA o 65536 65536 := ⟨_, rfl⟩
  rw [← hr] at h0 ⊢
  have hgo := hg.at' i om
  rw [← ho] at hgo
  have hwa := hgo.a
  have hwb := hgo.b
  rw [← hr] at hwa hwb
  unfold KF at hwa hwb
  refine go 4 ?_
  refine iA ((r.1.a : Int) ≠ (0 : Int)) rfl (fun l0 => ?_) (fun l0 => ?_)
  ·have hra : r.1.a ≠ 0 := by simpa using l0
   rw [if_neg hra] at hwa
   refine go 9 ?_
   refine iA ((r.1.b : Int) ≠ (0 : Int)) rfl (fun c0 => ?_) (fun c0 => ?_)
   ·have hrb : r.1.b ≠ 0 := by simpa using c0
    rw [if_neg hrb] at hwb
    refine go 12 ?_
    refine sq (aB rfl rfl (by have h1 := hrb0.2 o.a.toNat; have h2 := hrb0.2 o.b.toNat; have h3 := SG o 65536 65536; rw [← hr] at h3; omega)) (bS (E := EI) (l := [(max ((sC ops i).getD o.a.toNat 0) ((sC ops i).getD o.b.toNat 0)) + r.1.r]) fun c2 d2 f2 g2 i2 => ?_)
    refine OD ?_
    refine ⟨by exact (lC ops i).symm, by rfl, om, ?_⟩
    intro W0 X0 Y0 j2 Z0 k2 c1
    have d1 : (sC ops i) ++ ([(max ((sC ops i).getD o.a.toNat 0) ((sC ops i).getD o.b.toNat 0)) + r.1.r]) = sC ops (i + 1) := by rw [sC, ← ho, ← hr, nE, if_neg hrb, if_neg hra]
    have q0 := Z0
    have r0 := c1
    rw [d1] at q0 r0
    refine go 3 ?_
    exact ⟨(i + 1, W0, X0, Y0), _, rfl, kp, ⟨⟨om, q0⟩, (((r0.dropk 2).dropk 1).dropk 0)⟩, vd⟩
   ·have hrb : r.1.b = 0 := by simpa using c0
    rw [if_pos hrb] at hwb
    refine go 4 ?_
    refine sq (aB rfl rfl (by have h1 := hrb0.2 o.a.toNat; have h2 := hrb0.2 o.b.toNat; have h3 := SG o 65536 65536; rw [← hr] at h3; omega)) (bS (E := EI) (l := [((sC ops i).getD o.a.toNat 0) + r.1.r]) fun l2 m2 n2 o2 p2 => ?_)
    refine OD ?_
    refine ⟨by exact (lC ops i).symm, by rfl, om, ?_⟩
    intro g1 i1 j1 q2 k1 r2 l1
    have m1 : (sC ops i) ++ ([((sC ops i).getD o.a.toNat 0) + r.1.r]) = sC ops (i + 1) := by rw [sC, ← ho, ← hr, nE, if_pos hrb, if_neg hra]
    have s0 := k1
    have u0 := l1
    rw [m1] at s0 u0
    refine go 3 ?_
    exact ⟨(i + 1, g1, i1, j1), _, rfl, kp, ⟨⟨om, s0⟩, (((u0.dropk 2).dropk 1).dropk 0)⟩, vd⟩
  ·have hra : r.1.a = 0 := by simpa using l0
   rw [if_pos hra] at hwa
   refine go 3 ?_
   refine iA ((r.1.b : Int) ≠ (0 : Int)) rfl (fun c0 => ?_) (fun c0 => ?_)
   ·have hrb : r.1.b ≠ 0 := by simpa using c0
    rw [if_neg hrb] at hwb
    refine go 12 ?_
    refine sq (aB rfl rfl (by have h1 := hrb0.2 o.a.toNat; have h2 := hrb0.2 o.b.toNat; have h3 := SG o 65536 65536; rw [← hr] at h3; omega)) (bS (E := EI) (l := [(max (0 : Int) ((sC ops i).getD o.b.toNat 0)) + r.1.r]) fun s2 t2 u2 w2 x2 => ?_)
    refine OD ?_
    refine ⟨by exact (lC ops i).symm, by rfl, om, ?_⟩
    intro n1 o1 p1 y2 r1 z2 s1
    have t1 : (sC ops i) ++ ([(max (0 : Int) ((sC ops i).getD o.b.toNat 0)) + r.1.r]) = sC ops (i + 1) := by rw [sC, ← ho, ← hr, nE, if_neg hrb, if_pos hra]
    have x0 := r1
    have y0 := s1
    rw [t1] at x0 y0
    refine go 3 ?_
    exact ⟨(i + 1, n1, o1, p1), _, rfl, kp, ⟨⟨om, x0⟩, (((y0.dropk 2).dropk 1).dropk 0)⟩, vd⟩
   ·have hrb : r.1.b = 0 := by simpa using c0
    rw [if_pos hrb] at hwb
    refine go 4 ?_
    refine sq (aB rfl rfl (by have h1 := hrb0.2 o.a.toNat; have h2 := hrb0.2 o.b.toNat; have h3 := SG o 65536 65536; rw [← hr] at h3; omega)) (bS (E := EI) (l := [(0 : Int) + r.1.r]) fun A2 B2 C2 D2 E2 => ?_)
    refine OD ?_
    refine ⟨by exact (lC ops i).symm, by rfl, om, ?_⟩
    intro u1 y1 z1 F2 A1 G2 B1
    have C1 : (sC ops i) ++ ([(0 : Int) + r.1.r]) = sC ops (i + 1) := by rw [sC, ← ho, ← hr, nE, if_pos hrb, if_pos hra]
    have z0 := A1
    have A0 := B1
    rw [C1] at z0 A0
    refine go 3 ?_
    exact ⟨(i + 1, u1, y1, z1), _, rfl, kp, ⟨⟨om, z0⟩, (((A0.dropk 2).dropk 1).dropk 0)⟩, vd⟩
 ·have hie : i = ops.length := by omega
  subst hie
  refine go 2 ?_
  exact ⟨_, rfl, HL.resN (k := 0) rfl hSf (lC _ _).symm, HL.chg⟩
end Go.Proofs.YtohngnahcgbfmaaGreatDoor.Mi
namespace Go.Proofs.YtohngnahcgbfmaaGreatDoor.Mi
open Go Vc Er Ek Circ
theorem GL : OA Tryz.prog 104 = true := by kernel_rfl
theorem tQ : mA Tryz.prog 36 = true := by kernel_rfl
theorem iI : TB Tryz.prog 104 0 = some (0, 1, 3) := by kernel_rfl
theorem uM : TB Tryz.prog 57 0 = some (0, 1, 3) := by kernel_rfl
theorem tM : TB Tryz.prog 57 1 = some (1, 1, 3) := by kernel_rfl
theorem ZS : YB Tryz.prog 57 = some (.agg #[.int .i64 0, .int .i64 0, .int .i64 0, .int .i64 0, .int .i64 0, .int .i64 0, .int .i64 0, .int .i64 0]) := by kernel_rfl
theorem DQ (n : Int) (gs : List Gt) (ol : List Int) (ga oa : Option Addr) (gc oc mg mo : Nat) (hmg : mg = gs.length) (hmo : mo = ol.length) (w : World) (hGs : Rd EG w ga gs) (hgl : gs.length ≤ 140737488355328) : Ca 37 [.agg #[i64 n, .slice ga mg gc, .slice oa mo oc]] w fun v w' => v = iN (FB gs gs.length) ∧ Ext w w' := by
 subst hmg hmo; exact IM n gs ol ga oa gc oc w hGs hgl
theorem gM (ops : List Mo) (oa : Option Addr) (oc : Nat) (w : World) (hG : Gl w) (hO : Rd xE w oa ops) (hol : ops.length ≤ 140737488355328) (hg : Good ops 65536 65536) : Ca 15 [.slice oa ops.length oc] w fun v w' => v = .agg #[iN (nA ops), iN (nB ops), iN (nO ops), iN (pE ops), iN (dF ops), i64 (nR ops), iN (PR ops), iN (OR ops)] ∧ Ext w w' := by
 let x1 : Array Value := #[i64 0, i64 0, i64 0, i64 0, i64 0, i64 0, i64 0, i64 0]
 have hlen := hg.len
 have H := Hp.start No w
 refine enter (n := 166) Tryz.func15 rfl rfl (dB rfl) ?_
 refine go 1 ?_
 intro b1 w2 B1 H3 C1
 refine go 1 ?_
 intro b5 w6 D1 H7 E1
 refine go 1 ?_
 refine cl (eN ops oa oc w6 uC IC om hg) ?_
 rintro _ w9 ⟨⟨j0, q0, r0, rfl, F1, s0⟩, u0⟩
 rw [show (sC ops ops.length).length = ops.length from lC _ _]
 have x0 := H7.add u0 s0
 refine go 2 ?_
 refine AA (σ := Nat) (fun i => [(0, .slice oa ops.length oc), (2, pT b1), (3, pT b5), (13, sO j0 ops.length q0), (14, iN ops.length), (15, iN i)]) (fun i w' => i ≤ ops.length ∧ Hp No w w' [(rC b5 #[i64 0, i64 0, i64 0, i64 0, i64 0, i64 (aI (sC ops ops.length) i), i64 0, i64 0] 57), (rC b1 x1 57), (j0, qA EI 3 (sC ops ops.length) r0)]) (fun i => ops.length - i) (0) ?_ ?_ ?_
 ·exact kp
 ·exact ⟨Nat.zero_le _, (x0.pk 3 [1, 2, 0])⟩
 rintro i ρ y0 ⟨hq, HL⟩
 have hrl := lC ops ops.length
 have hmx := zK ops ops.length i
 have hrb := nF ops ops.length
 refine go 1 ?_
 refine iA (((i : Nat) : Int) < (ops.length : Nat)) rfl (fun z0 => ?_) (fun z0 => ?_)
 ·refine go 9 ?_
  intro G1 A0 H1
  refine go 2 ?_
  exact ⟨i + 1, _, rfl, kp, ⟨om, A0⟩, vd⟩
 ·have hie : i = ops.length := by omega
  rw [hie, show aI (sC ops ops.length) ops.length = nR ops from rfl] at HL
  refine go 1 ?_
  refine cl (sI y0) ?_
  rintro _ B0 ⟨rfl, C0⟩
  have D0 := HL.ext C0
  refine cl (DD ops oa oc 65536 65536 ops.length (by rfl) B0 uC IC om hg) ?_
  rintro _ I1 ⟨rfl, E0⟩
  have F0 := D0.ext E0
  refine sq ((rE vF rfl rfl).as (v' := .bool false) (by rfl)) ?_
  refine go 4 ?_
  refine AA (σ := Nat) (fun i => [(2, pT b1), (3, pT b5), (6, iN (jA fG ops i)), (30, .slice oa ops.length oc), (31, iN ops.length), (32, iN i)]) (fun i w' => i ≤ ops.length ∧ Hp No w w' [(rC b5 #[iN (jA fA ops i), iN (jA fB ops i), iN (jA fO ops i), iN (jA ND ops i), iN (jA cE ops i), i64 (nR ops), iN (jA wE ops i), iN (jA WE ops i)] 57), (rC b1 x1 57)]) (fun i => ops.length - i) (0) ?_ ?_ ?_
  ·exact kp
  ·exact ⟨Nat.zero_le _, (F0.dropk 2)⟩
  rintro i ρ J1 ⟨hq2, K1⟩
  obtain ⟨hcA, hcB, hcO, hcT0, hcT1, hcW0, hcW1, hcG⟩ := FM ops i
  refine go 1 ?_
  refine iA (((i : Nat) : Int) < (ops.length : Nat)) rfl (fun G0 => ?_) (fun G0 => ?_)
  ·refine go 3 ?_
   intro H0 L1 M1 N1 O1
   refine go 1 ?_
   intro I0 a0 P1
   obtain ⟨o, ho⟩ : ∃ q1, q1 = ops.getD i DB := ⟨_, rfl⟩
   let x5 : Value := i64 (((jA ND ops i) : Nat) + ((256 * qB o) : Nat))
   let x4 : Value := iN (jA WE ops i)
   let x3 : Value := iN (jA fB ops i)
   let x2 : Value := iN (jA fA ops i)
   rw [← ho] at a0 ⊢
   have hgo := hg.at' i om
   rw [← ho] at hgo
   have hog := YH o
   have hag := aK o
   refine go 4 ?_
   refine iA ((o.kd : Int) = (1 : Int)) rfl (fun k1 => ?_) (fun k1 => ?_)
   ·by_cases hp : o.pt = 0
    ·refine go 3 ?_
     refine sq (IA (off' := 3) (j := 0) vF (b := b5) (off := 3) rfl rfl vo om om) (sq (DA (v := iN (jA ND ops i)) vF (a0.get (k := 1) rfl) (off := 3) rfl (by rfl)) ?_)
     refine go 2 ?_
     refine sq (IA (off' := 3) (j := 0) vF (b := b5) (off := 3) rfl rfl vo om om) (GA (k := 1) (v := i64 (((jA ND ops i) : Nat) + (1 : Int))) (cs' := #[x2, x3, iN (jA fO ops i), i64 (((jA ND ops i) : Nat) + (1 : Int)), iN (jA cE ops i), i64 (nR ops), iN (jA wE ops i), x4]) a0 rfl rfl rfl vF (by rfl) (by exact EI.one _) (by exact dB rfl) (by rfl) fun Q1 J0 R1 => ?_)
     have k0 := J0.a3 rfl
     refine go 3 ?_
     refine sq (IA (off' := 6) (j := 0) vF (b := b5) (off := 6) rfl rfl vo om om) (sq (DA (v := iN (jA wE ops i)) vF (k0.get (k := 1) rfl) (off := 6) rfl (by rfl)) ?_)
     refine go 2 ?_
     refine sq (IA (off' := 6) (j := 0) vF (b := b5) (off := 6) rfl rfl vo om om) (GA (k := 1) (v := i64 (((jA wE ops i) : Nat) + (1 : Int))) (cs' := #[x2, x3, iN (jA fO ops i), i64 (((jA ND ops i) : Nat) + (1 : Int)), iN (jA cE ops i), i64 (nR ops), i64 (((jA wE ops i) : Nat) + (1 : Int)), x4]) k0 rfl rfl rfl vF (by rfl) (by exact EI.one _) (by exact dB rfl) (by rfl) fun S1 K0 U1 => ?_)
     have L0 := K0.a3 rfl
     refine go 2 ?_
     have hi := vT k1 hp
     have M0 := ((L0.dropk 0)).as (L' := [(rC b5 #[iN (jA fA ops (i + 1)), iN (jA fB ops (i + 1)), iN (jA fO ops (i + 1)), iN (jA ND ops (i + 1)), iN (jA cE ops (i + 1)), i64 (nR ops), iN (jA wE ops (i + 1)), iN (jA WE ops (i + 1))] 57), (rC b1 #[i64 0, i64 0, i64 0, i64 0, i64 0, i64 0, i64 0, i64 0] 57)]) (by rw [lA ho hi.A, lA ho hi.B, lA ho hi.O, lA ho hi.T0, lA ho hi.T1, lA ho hi.W0, lA ho hi.W1] <;> rfl)
     exact ⟨i + 1, _, rfl, ⟨rfl, rfl, congrArg (fun q : Nat => i64 (q : Int)) (lA ho hi.G).symm, rfl, rfl, rfl, trivial⟩, ⟨om, M0⟩, vd⟩
    ·refine go 0 ?_
     have hp1 : o.pt = 1 := by have := hgo.p; omega
     refine go 3 ?_
     refine sq (IA (off' := 4) (j := 1) vF (b := b5) (off := 3) rfl rfl vo om om) (sq (DA (v := iN (jA cE ops i)) vF (a0.get (k := 1) rfl) (off := 4) rfl (by rfl)) ?_)
     refine go 2 ?_
     refine sq (IA (off' := 4) (j := 1) vF (b := b5) (off := 3) rfl rfl vo om om) (GA (k := 1) (v := i64 (((jA cE ops i) : Nat) + (1 : Int))) (cs' := #[x2, x3, iN (jA fO ops i), iN (jA ND ops i), i64 (((jA cE ops i) : Nat) + (1 : Int)), i64 (nR ops), iN (jA wE ops i), x4]) a0 rfl rfl rfl vF (by rfl) (by exact EI.one _) (by exact dB rfl) (by rfl) fun V1 N0 X1 => ?_)
     have l0 := N0.a3 rfl
     refine go 3 ?_
     refine sq (IA (off' := 7) (j := 1) vF (b := b5) (off := 6) rfl rfl vo om om) (sq (DA (v := iN (jA WE ops i)) vF (l0.get (k := 1) rfl) (off := 7) rfl (by rfl)) ?_)
     refine go 2 ?_
     refine sq (IA (off' := 7) (j := 1) vF (b := b5) (off := 6) rfl rfl vo om om) (GA (k := 1) (v := i64 (((jA WE ops i) : Nat) + (1 : Int))) (cs' := #[x2, x3, iN (jA fO ops i), iN (jA ND ops i), i64 (((jA cE ops i) : Nat) + (1 : Int)), i64 (nR ops), iN (jA wE ops i), i64 (((jA WE ops i) : Nat) + (1 : Int))]) l0 rfl rfl rfl vF (by rfl) (by exact EI.one _) (by exact dB rfl) (by rfl) fun Y1 O0 Z1 => ?_)
     have P0 := O0.a3 rfl
     refine go 2 ?_
     have hi := uT k1 hp1
     have Q0 := ((P0.dropk 0)).as (L' := [(rC b5 #[iN (jA fA ops (i + 1)), iN (jA fB ops (i + 1)), iN (jA fO ops (i + 1)), iN (jA ND ops (i + 1)), iN (jA cE ops (i + 1)), i64 (nR ops), iN (jA wE ops (i + 1)), iN (jA WE ops (i + 1))] 57), (rC b1 #[i64 0, i64 0, i64 0, i64 0, i64 0, i64 0, i64 0, i64 0] 57)]) (by rw [lA ho hi.A, lA ho hi.B, lA ho hi.O, lA ho hi.T0, lA ho hi.T1, lA ho hi.W0, lA ho hi.W1] <;> rfl)
     exact ⟨i + 1, _, rfl, ⟨rfl, rfl, congrArg (fun q : Nat => i64 (q : Int)) (lA ho hi.G).symm, rfl, rfl, rfl, trivial⟩, ⟨om, Q0⟩, vd⟩
   ·refine go 2 ?_
    refine iA ((o.kd : Int) = (6 : Int)) rfl (fun k6 => ?_) (fun k6 => ?_)
    ·refine go 5 ?_
     intro c2 d2 e2
     refine go 7 ?_
     intro f2 g2 h2
     refine go 7 ?_
     intro i2 R0 j2
     refine go 2 ?_
     have hi := lW k6
     have S0 := ((R0.dropk 0)).as (L' := [(rC b5 #[iN (jA fA ops (i + 1)), iN (jA fB ops (i + 1)), iN (jA fO ops (i + 1)), iN (jA ND ops (i + 1)), iN (jA cE ops (i + 1)), i64 (nR ops), iN (jA wE ops (i + 1)), iN (jA WE ops (i + 1))] 57), (rC b1 #[i64 0, i64 0, i64 0, i64 0, i64 0, i64 0, i64 0, i64 0] 57)]) (by rw [lA ho hi.A, lA ho hi.B, lA ho hi.O, lA ho hi.T0, lA ho hi.T1, lA ho hi.W0, lA ho hi.W1] <;> rfl)
     exact ⟨i + 1, _, rfl, ⟨rfl, rfl, congrArg (fun q : Nat => i64 (q : Int)) (lA ho hi.G).symm, rfl, rfl, rfl, trivial⟩, ⟨om, S0⟩, vd⟩
    ·refine go 2 ?_
     refine iA ((o.kd : Int) = (9 : Int)) rfl (fun k9 => ?_) (fun k9 => ?_)
     ·refine go 5 ?_
      intro k2 l2 m2
      refine go 7 ?_
      intro n2 o2 p2
      refine go 7 ?_
      intro q2 U0 r2
      refine go 2 ?_
      have hi := kW k9
      have V0 := ((U0.dropk 0)).as (L' := [(rC b5 #[iN (jA fA ops (i + 1)), iN (jA fB ops (i + 1)), iN (jA fO ops (i + 1)), iN (jA ND ops (i + 1)), iN (jA cE ops (i + 1)), i64 (nR ops), iN (jA wE ops (i + 1)), iN (jA WE ops (i + 1))] 57), (rC b1 #[i64 0, i64 0, i64 0, i64 0, i64 0, i64 0, i64 0, i64 0] 57)]) (by rw [lA ho hi.A, lA ho hi.B, lA ho hi.O, lA ho hi.T0, lA ho hi.T1, lA ho hi.W0, lA ho hi.W1] <;> rfl)
      exact ⟨i + 1, _, rfl, ⟨rfl, rfl, congrArg (fun q : Nat => i64 (q : Int)) (lA ho hi.G).symm, rfl, rfl, rfl, trivial⟩, ⟨om, V0⟩, vd⟩
     ·refine go 2 ?_
      refine iA ((o.kd : Int) = (18 : Int)) rfl (fun c0 => ?_) (fun c0 => ?_)
      ·refine go 0 ?_
       refine GB (bT (c0)) ?_
       refine go 7 ?_
       intro s2 t2 u2
       refine go 7 ?_
       intro y2 X0 z2
       refine go 2 ?_
       have hi := XR (.inl c0)
       have Y0 := ((X0.dropk 0)).as (L' := [(rC b5 #[iN (jA fA ops (i + 1)), iN (jA fB ops (i + 1)), iN (jA fO ops (i + 1)), iN (jA ND ops (i + 1)), iN (jA cE ops (i + 1)), i64 (nR ops), iN (jA wE ops (i + 1)), iN (jA WE ops (i + 1))] 57), (rC b1 #[i64 0, i64 0, i64 0, i64 0, i64 0, i64 0, i64 0, i64 0] 57)]) (by rw [lA ho hi.A, lA ho hi.B, lA ho hi.O, lA ho hi.T0, lA ho hi.T1, lA ho hi.W0, lA ho hi.W1] <;> rfl)
       exact ⟨i + 1, _, rfl, ⟨rfl, rfl, congrArg (fun q : Nat => i64 (q : Int)) (lA ho hi.G).symm, rfl, rfl, rfl, trivial⟩, ⟨om, Y0⟩, vd⟩
      ·refine go 2 ?_
       refine iA ((o.kd : Int) = (19 : Int)) rfl (fun e0 => ?_) (fun e0 => ?_)
       ·refine go 7 ?_
        intro A2 B2 C2
        refine go 7 ?_
        intro D2 Z0 E2
        refine go 2 ?_
        have hi := XR (.inr e0)
        have c1 := ((Z0.dropk 0)).as (L' := [(rC b5 #[iN (jA fA ops (i + 1)), iN (jA fB ops (i + 1)), iN (jA fO ops (i + 1)), iN (jA ND ops (i + 1)), iN (jA cE ops (i + 1)), i64 (nR ops), iN (jA wE ops (i + 1)), iN (jA WE ops (i + 1))] 57), (rC b1 #[i64 0, i64 0, i64 0, i64 0, i64 0, i64 0, i64 0, i64 0] 57)]) (by rw [lA ho hi.A, lA ho hi.B, lA ho hi.O, lA ho hi.T0, lA ho hi.T1, lA ho hi.W0, lA ho hi.W1] <;> rfl)
        exact ⟨i + 1, _, rfl, ⟨rfl, rfl, congrArg (fun q : Nat => i64 (q : Int)) (lA ho hi.G).symm, rfl, rfl, rfl, trivial⟩, ⟨om, c1⟩, vd⟩
       ·refine go 2 ?_
        refine iA ((o.kd : Int) = (17 : Int)) rfl (fun d0 => ?_) (fun d0 => ?_)
        ·refine go 4 ?_
         refine cl (bI o (uE d0 hgo.ok).1 I0) ?_
         rintro _ F2 ⟨f0, m0, d1, h0, rfl, G2, e1⟩
         have H2 := (a0.join e1).a5 rfl
         refine go 4 ?_
         intro g1 I2 J2 K2 L2
         refine go 1 ?_
         intro h1 i1 M2
         refine go 2 ?_
         refine cl (rG o h1) ?_
         rintro _ N2 ⟨rfl, j1⟩
         have O2 := i1.ext j1
         refine go 7 ?_
         refine sq ((KB rfl rfl om).as (v' := iN (64 * qB o)) (by rfl)) (sq ((aB rfl rfl om).as (v' := iN (jA fO ops i + 64 * qB o)) (by rfl)) ?_)
         refine go 2 ?_
         intro P2 Q2 R2
         refine go 5 ?_
         refine sq ((KB rfl rfl om).as (v' := iN (256 * qB o)) (by exact congrArg i64 om)) ?_
         refine go 4 ?_
         intro S2 l1 T2
         refine go 0 ?_
         have m1 := (l1.pk 6 [4, 0, 1, 2, 3, 5])
         let b0 : List RW := [(rC g1 #[iN (128 * qB o), sO f0 ((SA o).1.length) m0, .slice (some ⟨h0, 0, none⟩) 64 64] 104), (f0, qA EG 154 ((SA o).1) d1), (rX h0 EI ((SA o).2) 145), (rC H0 #[i64 (o.kd), i64 (o.a), i64 (o.b), i64 (o.k), u64 (o.c), i64 (o.pt)] 36), (rC b1 x1 57)]
         let n0 := ((rC b5 #[x2, x3, iN (jA fO ops i + 64 * qB o), x5, iN (jA cE ops i), i64 (nR ops), iN (jA wE ops i), x4] 57) : RW)
         let n1 : mC := [nC false false fun _ _ w' => Hp No w w' (n0 :: b0), nC true false fun v6 _ w' => v6 = iN (JF o) ∧ Hp No w w' (n0 :: b0), nC true true fun v6 _ w' => v6 = iN (JF o) ∧ Hp No w w' ((rC b5 #[x2, x3, iN (jA fO ops i + 64 * qB o), x5, iN (jA cE ops i), i64 (nR ops), i64 (((jA wE ops i) : Nat) + ((2 * (192 * qB o + 2 * JF o)) : Nat)), x4] 57) :: b0)]
         refine MA (m := 14) [0, 1, 3, 0, 8, 0, 32, 96, 248, 504, 1023, 0, 4095, 8191] [6, 13] b0 n1 BA (fun _ e => m1.ext e) EC (fun o0 => ?_)
         refine gk 6 ?_
         refine WalkT.eff o0 0 ?_ ?_
         ·refine tA fun r w0 uw hF hE => ?_
          have o1 := hF.ext hE
          refine gW fun Q' hK => (cl (DQ ((128 * qB o) : Nat) (SA o).1 (SA o).2 (sA f0) (some ⟨h0, 0, none⟩) m0 64 ((SA o).1.length) 64 (by rfl) (by exact (SE _).symm) uw IC (by have := AF o; omega)) ?_)
          rintro _ U2 ⟨rfl, p1⟩
          have r1 := o1.ext p1
          exact hK _ _ (A_ rfl r1)
         refine aA (fun _ => i64 ((2 : Int) * (JF o : Nat))) (fun _ _ _ => rfl) ?_ ?_
         ·refine tA fun r w0 uw hF hE => ?_
          obtain ⟨e6, HH⟩ := hF
          replace HH := HH.ext hE
          dsimp only
          rw [e6]
          exact xC
         refine gk 1 ?_
         refine ZB (iN (2 * (192 * qB o + 2 * JF o))) (fun _ uw hcx => (KB rfl rfl om).as (v' := iN (2 * (192 * qB o + 2 * JF o))) (by rfl)) ?_
         refine gk 3 ?_
         refine WalkT.eff o0 1 ?_ ?_
         ·refine tA fun r w0 uw hF hE => ?_
          obtain ⟨e6, p0⟩ := hF
          replace p0 := p0.ext hE
          refine MC fun Q' hK => ?_
          refine go 1 ?_
          intro V2 s1 X2
          exact hK _ (fun _ => (A_ e6 s1))
         refine WalkT.nil fun r w0 Y2 hF hE => ?_
         obtain ⟨e6, i0⟩ := hF
         replace i0 := i0.ext hE
         dsimp only
         rw [e6]
         dsimp only [b0] at i0
         refine go 8 ?_
         intro Z2 t1 c3
         refine go 2 ?_
         have hi := wT d0
         have u1 := (((((t1.dropk 4).dropk 3).dropk 2).dropk 1)).as (L' := [(rC b5 #[iN (jA fA ops (i + 1)), iN (jA fB ops (i + 1)), iN (jA fO ops (i + 1)), iN (jA ND ops (i + 1)), iN (jA cE ops (i + 1)), i64 (nR ops), iN (jA wE ops (i + 1)), iN (jA WE ops (i + 1))] 57), (rC b1 #[i64 0, i64 0, i64 0, i64 0, i64 0, i64 0, i64 0, i64 0] 57)]) (by rw [lA ho hi.A, lA ho hi.B, lA ho hi.O, lA ho hi.T0, lA ho hi.T1, lA ho hi.W0, lA ho hi.W1] <;> rfl)
         exact ⟨i + 1, _, rfl, ⟨rfl, rfl, congrArg (fun q : Nat => i64 (q : Int)) (lA ho hi.G).symm, rfl, rfl, rfl, trivial⟩, ⟨om, u1⟩, vd⟩
        ·refine go 2 ?_
         have hi := mW k1 k6 k9 c0 e0 d0
         have w1 := ((a0.dropk 0)).as (L' := [(rC b5 #[iN (jA fA ops (i + 1)), iN (jA fB ops (i + 1)), iN (jA fO ops (i + 1)), iN (jA ND ops (i + 1)), iN (jA cE ops (i + 1)), i64 (nR ops), iN (jA wE ops (i + 1)), iN (jA WE ops (i + 1))] 57), (rC b1 #[i64 0, i64 0, i64 0, i64 0, i64 0, i64 0, i64 0, i64 0] 57)]) (by rw [lA ho hi.A, lA ho hi.B, lA ho hi.O, lA ho hi.T0, lA ho hi.T1, lA ho hi.W0, lA ho hi.W1] <;> rfl)
         exact ⟨i + 1, _, rfl, ⟨rfl, rfl, congrArg (fun q : Nat => i64 (q : Int)) (lA ho hi.G).symm, rfl, rfl, rfl, trivial⟩, ⟨om, w1⟩, vd⟩
  ·have hie : i = ops.length := by omega
   subst hie
   refine go 2 ?_
   refine iA ((0 : Int) < ((jA fG ops ops.length) : Nat)) rfl (fun y1 => ?_) (fun y1 => ?_)
   ·refine go 7 ?_
    intro d3 e3 f3
    refine go 2 ?_
    intro g3 z1 h3
    refine go 0 ?_
    have hd : pE ops = jA ND ops ops.length + 2 := by unfold pE DV; rw [if_pos om]
    exact ⟨_, rfl, by rw [hd] <;> rfl, z1.chg⟩
   ·refine go 2 ?_
    intro i3 A1 j3
    refine go 0 ?_
    have hd : pE ops = jA ND ops ops.length + 0 := by unfold pE DV; rw [if_neg om]
    exact ⟨_, rfl, by rw [hd] <;> rfl, A1.chg⟩
end Go.Proofs.YtohngnahcgbfmaaGreatDoor.Mi
namespace Go.Proofs.YtohngnahcgbfmaaGreatDoor.Mi
open Go Vc Er Ek Circ
theorem yQ : ZF Tryz.prog 34 = some 8 := by kernel_rfl
theorem VE : wC Tryz.prog 34 E64 := UE (by kernel_rfl) (by kernel_rfl)
theorem QL : UB Tryz.prog 34 = some 1 := by kernel_rfl
theorem nK : eD Tryz.prog 23 = some (34, 1) := by kernel_rfl
theorem bO : YB Tryz.prog 34 = some (.int .u64 0) := by kernel_rfl
theorem sP (ops : List Mo) (oa : Option Addr) (oc : Nat) (sh : List (BitVec 64)) (ha : Option Addr) (hc n0 n1 : Nat) (hn0 : n0 = ops.length) (hn1 : n1 = sh.length) (w : World) (hG : Gl w) (hO : Rd xE w oa ops) (hol : ops.length ≤ 140737488355328) (hSh : Rd E64 w ha sh) (hsl : sh.length = ops.length) (hg : Good ops 65536 65536) : Ca 13 [.slice oa n0 oc, .slice ha n1 hc] w fun v w' => ∃ (key : Option Nat) (c : Nat) (sp : LV) (a : Option Addr), v = .slice a (ZA ops) (ZA ops) ∧ Sl E64 key (AJ ops sh ops.length) c sp ∧ (∀ w2, Rd E64 w2 (sA key) (AJ ops sh ops.length) → Rd E64 w2 a (oT ops sh)) ∧ Hp No w w' [(key, qA E64 34 (AJ ops sh ops.length) sp)] := by
 subst hn0 hn1
 have hlen := hg.len
 have H := Hp.start No w
 refine enter (n := 47) Tryz.func13 rfl rfl (dB rfl) ?_
 refine go 2 ?_
 refine cl (sI w) ?_
 rintro _ w1 ⟨rfl, k0⟩
 have H3 := H.ext k0
 refine cl (DD ops oa oc 65536 65536 ops.length (by rfl) w1 uC IC om hg) ?_
 rintro _ w4 ⟨rfl, l0⟩
 have H6 := H3.ext l0
 refine sq ((rE vF rfl rfl).as (v' := .bool false) (by rfl)) ?_
 refine go 5 ?_
 refine LA (v := .bool false) (w' := w4) (gA (d' := 13) (b := false) rfl rfl rfl) ((qD rfl rfl).as (v' := .bool false) (by exact bF (om))) ?_
 refine go 3 ?_
 refine ID (E := E64) (m := ops.length) (c := ops.length) (z0 := 0#64) H6 vF vF rfl vF rfl rfl vo vo om om fun b7 w9 m0 o0 F0 => ?_
 refine go 5 ?_
 refine AA (σ := Nat) (fun i => [(0, .slice oa ops.length oc), (1, .slice ha sh.length hc), (5, sO (some b7) ops.length ops.length), (6, iN (jA iD ops i)), (23, .slice oa ops.length oc), (24, iN ops.length), (25, iN i)]) (fun i w' => (i ≤ ops.length ∧ Sl E64 (some b7) (AJ ops sh i) ops.length (uA E64 (List.replicate (ops.length - ops.length) 0#64))) ∧ Hp No w w' [((some b7), qA E64 34 (AJ ops sh i) (uA E64 (List.replicate (ops.length - ops.length) 0#64)))]) (fun i => ops.length - i) (0) ?_ ?_ ?_
 ·exact kp
 ·exact ⟨⟨Nat.zero_le _, m0⟩, o0⟩
 rintro i ρ G0 ⟨⟨hq, hSo⟩, HL⟩
 have hol2 := IR ops sh i
 have hct := eE xG ops i
 refine go 1 ?_
 refine iA (((i : Nat) : Int) < (ops.length : Nat)) rfl (fun p0 => ?_) (fun p0 => ?_)
 ·refine go 4 ?_
  intro q0 H0 I0 J0 K0
  refine go 2 ?_
  intro r0 d0 L0
  obtain ⟨o, ho⟩ : ∃ q1, q1 = ops.getD i DB := ⟨_, rfl⟩
  rw [← ho] at d0 ⊢
  refine go 1 ?_
  refine cl (jJ o r0) ?_
  rintro _ M0 ⟨rfl, s0⟩
  have e0 := d0.ext s0
  refine go 0 ?_
  refine iA (uF o) rfl (fun a0 => ?_) (fun a0 => ?_)
  ·have hgo := hg.at' i om
   rw [← ho] at hgo
   have hkt := hgo.told a0
   have hou := YL ops
   refine go 0 ?_
   have u0 := (e0.pk 2 [1, 0])
   let b0 : List RW := [(rC q0 #[i64 (o.kd), i64 (o.a), i64 (o.b), i64 (o.k), u64 (o.c), i64 (o.pt)] 36)]
   let x0 : mC := [XF false fun _ w' => Hp No w w' (((some b7), qA E64 34 (AJ ops sh i) (uA E64 (List.replicate (ops.length - ops.length) 0#64))) :: b0), XF true fun _ w' => Sl E64 (some b7) ((AJ ops sh i).set o.k.toNat (sh.getD i 0#64)) ops.length (uA E64 (List.replicate (ops.length - ops.length) 0#64)) ∧ Hp No w w' (((some b7), qA E64 34 ((AJ ops sh i).set o.k.toNat (sh.getD i 0#64)) (uA E64 (List.replicate (ops.length - ops.length) 0#64))) :: b0)]
   refine MA (m := 9) [0, 0, 2, 0, 0, 24, 56, 127, 255] [8] b0 x0 BA (fun _ e => u0.ext e) EC (fun y0 => ?_)
   refine gk 8 ?_
   refine WalkT.eff y0 0 ?_ ?_
   ·refine tA fun r w0 uw hF hE => ?_
    have N0 := hF.ext hE
    refine MC fun Q' hK => ?_
    refine go 1 ?_
    intro O0 A0 B0
    exact hK _ (fun _ => (A_ A0 B0))
   refine WalkT.nil fun r w0 P0 hF hE => ?_
   obtain ⟨C0, c0⟩ := hF
   replace c0 := c0.ext hE
   dsimp only
   dsimp only [b0] at c0
   refine go 5 ?_
   have D0 : (AJ ops sh i).set o.k.toNat (sh.getD i 0#64) = AJ ops sh (i + 1) := by rw [AJ, ← ho, if_pos a0]
   have f0 := C0
   have h0 := c0
   rw [D0] at f0 h0
   exact ⟨i + 1, _, rfl, ⟨rfl, rfl, rfl, congrArg i64 (by rw [jA, ← ho, iD, if_pos a0] <;> omega), rfl, rfl, rfl, trivial⟩, ⟨⟨om, f0⟩, (h0.dropk 1)⟩, vd⟩
  ·refine go 2 ?_
   have E0 : AJ ops sh i = AJ ops sh (i + 1) := by rw [AJ, ← ho, if_neg a0]
   have i0 := hSo
   have j0 := e0
   rw [E0] at i0 j0
   exact ⟨i + 1, _, rfl, ⟨rfl, rfl, rfl, congrArg i64 (by rw [jA, ← ho, iD, if_neg a0] <;> omega), rfl, rfl, rfl, trivial⟩, ⟨⟨om, i0⟩, (j0.dropk 0)⟩, vd⟩
 ·have hie : i = ops.length := by omega
  subst hie
  have hou := YL ops
  rw [show jA iD ops ops.length = ZA ops from rfl]
  refine go 3 ?_
  refine sq (gN (h := (ZA ops)) (q := (ZA ops)) vF rfl rfl rfl vo vo om om) ?_
  refine go 1 ?_
  exact ⟨_, rfl, (some b7), ops.length, (uA E64 (List.replicate (ops.length - ops.length) 0#64)), _, rfl, hSo, fun w2 hr => Rd.sub hr 0 (ZA ops) (m := (ZA ops)) (fun e => by rw [e]; rfl), HL⟩
theorem xH (ops : List Mo) (oa : Option Addr) (oc : Nat) (sh : List (BitVec 64)) (ha : Option Addr) (hc n0 n1 : Nat) (hn0 : n0 = ops.length) (hn1 : n1 = sh.length) (w : World) (hG : Gl w) (hO : Rd xE w oa ops) (hol : ops.length ≤ 140737488355328) (hSh : Rd E64 w ha sh) (hsl : sh.length = ops.length) (hg : Good ops 65536 65536) : Calls Tryz.prog 13 [.slice oa n0 oc, .slice ha n1 hc].toArray w (NM fun v w' => (∃ a, v = .slice a (ZA ops) (ZA ops) ∧ Rd E64 w' a (oT ops sh)) ∧ Ext w w') :=
 (sP ops oa oc sh ha hc n0 n1 hn0 hn1 w hG hO hol hSh hsl hg).mono fun e w' ⟨v, he, key, c, sp, a, hv, hS, hr, HN⟩ => ⟨v, he, ⟨a, hv, hr _ (HN.rd (k := 0) rfl hS)⟩, HN.chg⟩
end Go.Proofs.YtohngnahcgbfmaaGreatDoor.Mi
namespace Go.Proofs.YtohngnahcgbfmaaGreatDoor.Er
open Go Vc
theorem dJ : OA Tryz.prog 83 = true := by kernel_rfl
theorem bJ : jD Tryz.prog 83 = some (2, 1) := by kernel_rfl
theorem yQ : ZF Tryz.prog 34 = some 8 := by kernel_rfl
theorem uQ : mA Tryz.prog 17 = true := by kernel_rfl
theorem VE : wC Tryz.prog 34 E64 := UE (by kernel_rfl) (by kernel_rfl)
theorem BA : Tryz.prog.follows .mixedOrders = true := by kernel_rfl
theorem eM : NA Tryz.prog 23 = true := by kernel_rfl
theorem fU : UB Tryz.prog 3 = some 1 := by kernel_rfl
theorem GI : UB Tryz.prog 83 = some 2 := by kernel_rfl
theorem nK : eD Tryz.prog 23 = some (34, 1) := by kernel_rfl
theorem und23 : Tryz.prog.underlying 23 = some (.slice 34) := by kernel_rfl
theorem und94 : Tryz.prog.underlying 94 = some (.pointer 232) := by kernel_rfl
theorem bO : YB Tryz.prog 34 = some (.int .u64 0) := by kernel_rfl
theorem yI : YB Tryz.prog 83 = some (.agg (List.replicate 2 (.int .u64 0)).toArray) := by kernel_rfl
theorem yL (ws : List (BitVec 64)) (hroom : ws.length * 8 ≤ 140737488355328) (a0 : Option Addr) (n0 c0 : Nat) (hn0 : n0 = ws.length) (w : World) (hW : Rd E64 w a0 ws) : Ca 30 [.slice a0 n0 c0] w fun v w' => SlRes E64 34 ws w v w' ∧ Ext w w' := by
 subst hn0
 have H := Hp.start No w
 refine enter (n := 8) Tryz.func30 rfl rfl (dB rfl) ?_
 refine go 2 ?_
 refine sq (uR vF rfl rfl) ?_
 refine go 0 ?_
 refine PC (a0.isNone) rfl (fun c4 => ?_) (fun c4 => ?_)
 ·refine go 1 ?_
  obtain rfl := NR hW c4
  exact ⟨_, rfl, ⟨none, 0, [], rfl, Sl.none, fun _ h => by cases h⟩, H.chg⟩
 ·refine go 0 ?_
  refine bS (E := E64) (l := []) fun b1 w3 i0 H4 j0 => ?_
  refine go 2 ?_
  intro k0 c7 l0 m0 e0 o0 f0
  have h0 : ([]) ++ ws = ws := by rw [List.nil_append]
  have d0 := e0
  have b0 := f0
  rw [h0] at d0 b0
  refine go 1 ?_
  exact ⟨_, rfl, b0.resN (k := 0) rfl d0 (Nat.zero_add _), b0.chg⟩
theorem sD (ws : List (BitVec 64)) (hroom : ws.length * 8 ≤ 140737488355328) (a0 : Option Addr) (n0 c0 : Nat) (hn0 : n0 = ws.length) (w : World) (hW : Rd E64 w a0 ws) : Ca 11 [.slice a0 n0 c0] w fun v w' => (∃ b key c sp, v = pT b ∧ Sl E64 key ws c sp ∧ Hp No w w' [(rC b #[sO key ws.length c, .pointer none, iN ws.length, iN 0] 96), (key, qA E64 34 ws sp)]) ∧ Ext w w' := by
 subst hn0
 have H := Hp.start No w
 refine enter (n := 9) Tryz.func11 rfl rfl (dB rfl) ?_
 refine go 2 ?_
 refine cl (yL ws om a0 ws.length c0 (by rfl) w IC) ?_
 rintro _ w1 ⟨⟨d0, c4, e0, rfl, f0, h0⟩, i0⟩
 rw [show ws.length = ws.length from rfl]
 have H9 := H.add i0 h0
 refine go 4 ?_
 intro j0 k0 l0 b0 m0
 refine go 1 ?_
 exact ⟨_, rfl, ⟨j0, d0, c4, e0, rfl, f0, b0⟩, b0.chg⟩
theorem CH (b n u : Nat) (x0 x1 : Value) (w : World) (hb : w.heap[b]? = some (.cells #[x0, x1, iN n, iN u] 96 (0, 0))) (hu : u ≤ n) (hn : n ≤ 140737488355328) : Ca 17 [pT b] w fun v w' => v = i64 ((n : Nat) - (u : Nat)) ∧ Ext w w' := by
 have H := Hp.start No w
 refine enter (n := 12) Tryz.func17 rfl rfl (dB rfl) ?_
 refine go 1 ?_
 refine uB (K := [none, none, none, none, none, none, none, none, none, none]) [0, 1, 3, 7, 0, 16, 48, 112, 255, 511] (fun w' => Ext w w') (fun w' w'' => Ext w' w'') BA (by kernel_rfl) (Ext.drew _) (fun _ _ h h' => h.trans h') ?_ ?_
 ·exact xB (by decide)
 refine gk 10 ?_
 intro r24 c0 a0 hF
 have b0 := H.ext a0
 refine go 0 ?_
 exact ⟨_, rfl, rfl, b0.chg⟩
theorem tG (b c u : Nat) (a : Option Addr) (ws : List (BitVec 64)) (w : World) (hb : w.heap[b]? = some (.cells #[.slice a ws.length c, .pointer none, iN ws.length, iN u] 96 (0, 0))) (hR : ∀ w', Chg (· = b) w w' → Rd E64 w' a ws) (hlen : ws.length ≤ 140737488355328) (hu : u < ws.length) : Ca 47 [pT b] w fun v w' => v = .tuple #[u64 (ws.getD u 0#64), .nilIface] ∧ Chg (· = b) w w' ∧ w'.heap[b]? = some (.cells #[.slice a ws.length c, .pointer none, iN ws.length, iN (u + 1)] 96 (0, 0)) := by
 have H := Hp.start1 (M := (· = b)) rfl hb
 refine enter (n := 50) Tryz.func47 rfl rfl (dB rfl) ?_
 refine go 2 ?_
 refine uB (K := [none, none, none, none, none, none, none, none, none]) [0, 1, 3, 7, 0, 16, 48, 112, 255] (fun w' => Ext w w') (fun w' w'' => Ext w' w'') BA (by kernel_rfl) (Ext.drew _) (fun _ _ h h' => h.trans h') ?_ ?_
 ·exact xB (by decide)
 refine gk 9 ?_
 intro r22 d0 b0 hF
 have e0 := H.ext b0
 refine go 0 ?_
 refine iA (((ws.length : Nat) : Int) ≤ (u : Nat)) rfl (fun c0 => ?_) (fun c0 => ?_)
 ·exfalso
  omega
 ·refine go 13 ?_
  intro f0 a0 h0
  refine go 4 ?_
  refine sq (lR vF rfl rfl) ?_
  refine go 5 ?_
  refine sq (TC (E := E64) (l := ws) (j := u) vF (hR _ a0.chg) rfl rfl vo (by rfl) om) (sq (AD (E := E64) (l := ws) (j := u) (v := ws.getD u 0#64) VE (hR _ a0.chg) rfl rfl (QA om)) ?_)
  refine go 2 ?_
  exact ⟨_, rfl, rfl, a0.chg, a0.get (k := 0) rfl⟩
theorem CP (b n u : Nat) (x0 x1 : Value) (w : World) (hG : Gl w) (hb : w.heap[b]? = some (.cells #[x0, x1, iN n, iN u] 96 (0, 0))) (hu : n ≤ u) : Ca 47 [pT b] w fun v w' => (∃ ev, v = .tuple #[u64 0#64, ev] ∧ Er w.heap.size w' 40 1 ev) ∧ Ext w w' := by
 have H := Hp.start No w
 refine enter (n := 50) Tryz.func47 rfl rfl (dB rfl) ?_
 refine go 2 ?_
 refine uB (K := [none, none, none, none, none, none, none, none, none]) [0, 1, 3, 7, 0, 16, 48, 112, 255] (fun w' => Ext w w') (fun w' w'' => Ext w' w'') BA (by kernel_rfl) (Ext.drew _) (fun _ _ h h' => h.trans h') ?_ ?_
 ·exact xB (by decide)
 refine gk 9 ?_
 intro r22 c0 d0 hF
 have a0 := H.ext d0
 refine go 0 ?_
 refine iA (((n : Nat) : Int) ≤ (u : Nat)) rfl (fun e0 => ?_) (fun e0 => ?_)
 ·refine go 5 ?_
  refine cl (YA (40 : Int) (u : Nat) ({data := #[116, 97, 112, 101]}) c0 uC) ?_
  rintro v25 i0 ⟨b0, f0⟩
  have h0 := a0.ext f0
  obtain ⟨j0, k0, rfl⟩ := b0.iface
  refine go 2 ?_
  exact ⟨_, rfl, ⟨_, rfl, b0.mono a0.chg.size⟩, h0.chg⟩
 ·exfalso
  omega
theorem QI (b c u : Nat) (a : Option Addr) (ws : List (BitVec 64)) (w : World) (hb : w.heap[b]? = some (.cells #[.slice a ws.length c, .pointer none, iN ws.length, iN u] 96 (0, 0))) (hR : ∀ w', Chg (· = b) w w' → Rd E64 w' a ws) (hlen : ws.length ≤ 140737488355328) (hu : u + 2 ≤ ws.length) : Ca 46 [pT b] w fun v w' => v = .tuple #[.agg (uA E64 [ws.getD u 0#64, ws.getD (u + 1) 0#64]).toArray, .nilIface] ∧ Chg (· = b) w w' ∧ w'.heap[b]? = some (.cells #[.slice a ws.length c, .pointer none, iN ws.length, iN (u + 2)] 96 (0, 0)) := by
 have H := Hp.start1 (M := (· = b)) rfl hb
 refine enter (n := 31) Tryz.func46 rfl rfl (dB rfl) ?_
 refine go 1 ?_
 intro b1 w2 j0 H3 k0
 refine go 2 ?_
 refine cl (CH b ws.length u (.slice a ws.length c) (.pointer none) w2 gF om om) ?_
 rintro _ w5 ⟨rfl, c0⟩
 have H7 := H3.ext c0
 refine go 1 ?_
 refine iA (((ws.length : Nat) - (u : Nat) : Int) < (2 : Int)) rfl (fun d0 => ?_) (fun d0 => ?_)
 ·exfalso
  omega
 ·refine go 1 ?_
  refine cl (tG b c u a ws w5 gF (fun w' h => hR w' (H7.chg.trans h)) om om) ?_
  rintro _ w8 ⟨rfl, e0, f0⟩
  have a0 := (H7.set (k := 1) rfl e0 f0).a2 rfl
  refine go 6 ?_
  refine cl (tG b c (u + 1) a ws w8 gF (fun w' h => hR w' (a0.chg.trans h)) om om) ?_
  rintro _ l0 ⟨rfl, h0, i0⟩
  have m0 := (a0.set (k := 1) rfl h0 i0).a2 rfl
  refine go 9 ?_
  intro n0 b0 o0
  refine go 1 ?_
  exact ⟨_, rfl, rfl, b0.chg, b0.get (k := 1) rfl⟩
theorem RI (b n u : Nat) (x0 x1 : Value) (w : World) (hG : Gl w) (hb : w.heap[b]? = some (.cells #[x0, x1, iN n, iN u] 96 (0, 0))) (hu : n < u + 2) (hul : u ≤ n) (hlen : n ≤ 140737488355328) : Ca 46 [pT b] w fun v w' => (∃ ev, v = .tuple #[.agg (uA E64 [0#64, 0#64]).toArray, ev] ∧ Er w.heap.size w' 40 1 ev) ∧ Ext w w' := by
 have H := Hp.start No w
 refine enter (n := 31) Tryz.func46 rfl rfl (dB rfl) ?_
 refine go 1 ?_
 intro b1 w2 h0 H3 i0
 refine go 2 ?_
 refine cl (CH b n u x0 x1 w2 gF om om) ?_
 rintro _ w5 ⟨rfl, c0⟩
 have H7 := H3.ext c0
 refine go 1 ?_
 refine iA (((n : Nat) - (u : Nat) : Int) < (2 : Int)) rfl (fun d0 => ?_) (fun d0 => ?_)
 ·refine go 6 ?_
  have := H7.lT 0
  refine cl (YA (40 : Int) (u : Nat) ({data := #[116, 97, 112, 101]}) w5 uC) ?_
  rintro v10 w8 ⟨a0, e0⟩
  have j0 := H7.ext e0
  obtain ⟨k0, l0, rfl⟩ := a0.iface
  refine go 1 ?_
  intro m0 f0 b0
  refine go 1 ?_
  exact ⟨_, rfl, ⟨_, rfl, (Er.chgs (b0.mono (M' := fun x => x = b1) (fun _ h => by subst h; simp)) (fun x h1 h2 h3 => by have := b0.size; rcases h3 with rfl <;> omega) a0).mono H7.chg.size⟩, f0.chg⟩
 ·exfalso
  omega
end Go.Proofs.YtohngnahcgbfmaaGreatDoor.Er
namespace Go.Proofs.YtohngnahcgbfmaaGreatDoor.Co
open Go Vc Er
theorem agg117 : OA Tryz.prog 117 = true := by kernel_rfl
theorem zM : wC Tryz.prog 121 zB := wL (by kernel_rfl) (by kernel_rfl)
theorem fQ : wC Tryz.prog 66 PA := eQ (by kernel_rfl) (by kernel_rfl)
theorem BA : Tryz.prog.follows .mixedOrders = true := by kernel_rfl
theorem sT : NA Tryz.prog 40 = true := by kernel_rfl
theorem siz117 : UB Tryz.prog 117 = some 5 := by kernel_rfl
theorem QL : UB Tryz.prog 34 = some 1 := by kernel_rfl
theorem jT : UB Tryz.prog 40 = some 1 := by kernel_rfl
theorem KO : UB Tryz.prog 66 = some 3 := by kernel_rfl
theorem sli39 : eD Tryz.prog 39 = some (66, 3) := by kernel_rfl
theorem GO : eD Tryz.prog 40 = some (121, 5) := by kernel_rfl
theorem KL : Tryz.prog.underlying 63 = some (.int .i64) := by kernel_rfl
theorem SJ (b : Nat) (key : Option Nat) (c : Nat) (sp : LV) (ws : List (BitVec 64)) (hSw : Sl E64 key ws c sp) (hlen : ws.length ≤ 140737488355328) (u : Nat) (hu : u + 5 ≤ ws.length) (R : List RW) (w₀ w : World) (H : Hp No w₀ w ((rC b #[sO key ws.length c, .pointer none, iN ws.length, iN u] 96) :: (key, qA E64 34 ws sp) :: R)) : Ca 40 [pT b] w fun v w' => v = .agg (uA E64 [ws.getD u 0#64, ws.getD (u + 1) 0#64, ws.getD (u + 2) 0#64, ws.getD (u + 3) 0#64, ws.getD (u + 4) 0#64]).toArray ∧ Hp No w₀ w' ((rC b #[sO key ws.length c, .pointer none, iN ws.length, iN (u + 5)] 96) :: (key, qA E64 34 ws sp) :: R) := by
 skip
 refine enter (n := 17) Tryz.func40 rfl rfl (dB rfl) ?_
 refine go 1 ?_
 intro b1 w2 h0 H3 i0
 refine go 1 ?_
 intro b5 w6 j0 H7 k0
 refine go 1 ?_
 refine AA (σ := Nat) (fun q => [(0, pT b), (2, pT b1), (3, pT b5), (5, iN q)]) (fun q w' => q ≤ 5 ∧ Hp No w₀ w' ((rX b5 E64 (jI ws u q) 117) :: (rX b1 E64 (List.replicate 5 0#64) 117) :: (rC b #[sO key ws.length c, .pointer none, iN ws.length, iN (u + q)] 96) :: (key, qA E64 34 ws sp) :: R)) (fun q => 5 - q) (0) ?_ ?_ ?_
 ·exact kp
 ·exact ⟨om, H7⟩
 rintro q ρ w9 ⟨hq, HL⟩
 refine go 1 ?_
 refine iA (((q : Nat) : Int) < (5 : Int)) rfl (fun c6 => ?_) (fun c6 => ?_)
 ·have c6 : q < 5 := by omega
  refine go 4 ?_
  refine cl (tG b c (u + q) (sA key) ws w9 gF (OJ HL (i := 2) (j := 3) rfl rfl rfl hSw) om om) ?_
  rintro _ l0 ⟨rfl, b0, c0⟩
  have d0 := (HL.set (k := 2) rfl b0 c0).b4 rfl
  refine go 4 ?_
  refine GA (k := 0) (v := u64 (ws.getD (u + q) 0#64)) (cs' := (uA E64 ((jI ws u q).set q (ws.getD (u + q) 0#64))).toArray) d0 rfl rfl rfl vF (by rfl) (by exact E64.one _) (by rw [List.size_toArray, oA]; show _ ≤ _ * 1; rw [dH]; omega) (by exact wI (E := E64) rfl _ _ _) fun m0 e0 n0 => ?_
  have a0 := e0.b4 rfl
  refine go 2 ?_
  rw [dQ (ws := ws) (u := u) c6] at a0
  exact ⟨q + 1, _, rfl, kp, ⟨om, a0⟩, vd⟩
 ·obtain rfl : q = 5 := by omega
  refine go 0 ?_
  refine sq ((mB (cs' := (uA E64 (jI ws u 5)).toArray) vF vF (HL.get (k := 0) rfl) (off := 0) rfl (by rw [List.size_toArray, oA, dH]; exact Nat.le_refl _) (by exact YD (by rw [oA, dH]; rfl))).as (v' := .agg (uA E64 [ws.getD u 0#64, ws.getD (u + 1) 0#64, ws.getD (u + 2) 0#64, ws.getD (u + 3) 0#64, ws.getD (u + 4) 0#64]).toArray) (by rfl)) ?_
  refine go 1 ?_
  intro o0 f0 p0
  refine go 0 ?_
  exact ⟨_, rfl, rfl, ((f0.dropk 1).dropk 0)⟩
theorem tN (b : Nat) (s : Sk) (hs : s.ok) (R : List RW) (w₀ w : World) (H : Hp No w₀ w (EA 66 121 114 b s ++ R)) (kd : Int) (hl : 0 < s.t.l.length) : Ca 38 [pT b, i64 kd] w fun v w' => v = .tuple #[.agg #[u64 ((s.t.l).getD 0 tr0).a, u64 ((s.t.l).getD 0 tr0).b, u64 ((s.t.l).getD 0 tr0).c], .nilIface] ∧ ∃ s' : Sk, Hp No w₀ w' (EA 66 121 114 b s' ++ R) ∧ s'.ok ∧ s'.t.l = s.t.l.drop 1 ∧ s'.b = s.b ∧ s'.o = s.o := by
 have hct := hs.t.cap
 have hcb := hs.b.cap
 have hco := hs.o.cap
 have H := H.b4 rfl
 refine enter (n := 33) Tryz.func38 rfl rfl (dB rfl) ?_
 refine go 1 ?_
 intro b1 w2 b0 H3 c0
 refine go 2 ?_
 intro b5 w6 d0 H7 e0
 refine go 5 ?_
 refine sq ((iB rfl rfl).as (v' := .bool false) (by exact bF (om))) ?_
 refine go 5 ?_
 refine sq (((AD (E := PA) (l := s.t.l) (j := 0) (v := (s.t.l).getD 0 tr0) fQ (H7.rdP (k := 3) rfl hs.t) rfl rfl (QA om)).as (v' := .agg #[u64 (((s.t.l).getD 0 tr0).a), u64 (((s.t.l).getD 0 tr0).b), u64 (((s.t.l).getD 0 tr0).c)]) rfl).as (v' := .agg #[u64 ((s.t.l).getD 0 tr0).a, u64 ((s.t.l).getD 0 tr0).b, u64 ((s.t.l).getD 0 tr0).c]) (by rfl)) ?_
 refine go 1 ?_
 intro b9 f0 h0 i0 j0
 refine go 1 ?_
 intro k0 l0 m0
 refine go 5 ?_
 refine sq ((SC (l := 1) (h := s.t.l.length) vF rfl (.inl ⟨_, _, _, rfl, rfl, by first | rfl | omega | (simp; omega)⟩) (.inr ⟨rfl, rfl⟩) om om).as (v' := .slice (if s.t.c = 1 then s.t.a else oC s.t.a (1 * 3)) (s.t.l.length - 1) (s.t.c - 1)) (by first | rfl | (congr 1; omega) | (simp; omega) | simp)) ?_
 refine go 3 ?_
 intro n0 o0 p0
 refine go 2 ?_
 intro q0 a0 r0
 refine go 1 ?_
 refine ⟨_, rfl, rfl, { s with t := s.t.cut PA }, ?_, ⟨Cp.cut_ok hs.t om, hs.b, hs.o⟩, rfl, rfl, rfl⟩
 unfold EA Sk.ob
 dsimp only
 rw [Cp.cut_row (E := PA) om]
 unfold Cp.cut
 dsimp only
 rw [List.length_drop]
 exact (((a0.dropk 2).dropk 1).dropk 0)
theorem uN (b : Nat) (s : Sk) (w : World) (hb : w.heap[b]? = some (s.ob 114)) (hG : Gl w) (kd : Int) (hl : s.t.l.length = 0) : Ca 38 [pT b, i64 kd] w fun v w' => (∃ ev, v = .tuple #[.agg #[u64 0#64, u64 0#64, u64 0#64], ev] ∧ Er w.heap.size w' 80 1 ev) ∧ Ext w w' := by
 have H := Hp.start No w
 unfold Sk.ob at hb
 refine enter (n := 33) Tryz.func38 rfl rfl (dB rfl) ?_
 refine go 1 ?_
 intro b1 w2 B0 H3 C0
 refine go 2 ?_
 intro b5 w6 D0 H7 E0
 refine go 5 ?_
 refine sq ((iB rfl rfl).as (v' := .bool true) (by exact bT (om))) ?_
 refine go 0 ?_
 let e0 : List RW := [(rC b5 #[u64 0#64, u64 0#64, u64 0#64] 66), (rC b1 #[u64 0#64, u64 0#64, u64 0#64] 66)]
 let q0 : mC := [nC false false fun _ _ w' => Hp No w w' e0, nC true false fun v3 _ w' => ∃ a0 c0 d0, v3 = .iface c0 d0 ∧ Er a0 w' (80 : Int) 1 (.iface c0 d0) ∧ w.heap.size ≤ a0 ∧ b5 < a0 ∧ b1 < a0 ∧ Hp No w w' e0, nC true true fun v3 _ w' => ∃ a0 c0 d0, v3 = .iface c0 d0 ∧ Er a0 w' (80 : Int) 1 (.iface c0 d0) ∧ w.heap.size ≤ a0 ∧ b5 < a0 ∧ b1 < a0 ∧ Hp No w w' e0]
 refine MA (m := 6) [0, 0, 0, 6, 15, 31] [3, 4] e0 q0 BA (fun _ e => H7.ext e) EC (fun k0 => ?_)
 refine gk 3 ?_
 refine WalkT.eff k0 0 ?_ ?_
 ·refine tA fun r w0 uw hF hE => ?_
  have f0 := hF.ext hE
  refine gW fun Q' hK => ?_
  have := f0.lT 0
  have := f0.lT 1
  refine cl (YA (80 : Int) kd ({data := #[115, 116, 111, 99, 107]}) uw uC) ?_
  rintro v51 F0 ⟨j0, r0⟩
  have s0 := f0.ext r0
  obtain ⟨u0, x0, rfl⟩ := j0.iface
  obtain ⟨h0, l0⟩ : ∃ lo, lo = uw.heap.size := ⟨_, rfl⟩
  have hle59 : w.heap.size ≤ h0 := by rw [l0]; exact f0.chg.size
  rw [← l0] at j0
  have y0 : b5 < h0 := by omega
  have z0 : b1 < h0 := by omega
  exact hK _ _ (E_ h0 (E_ u0 (E_ x0 (A_ rfl (A_ j0 (A_ hle59 (A_ y0 (A_ z0 s0))))))))
 refine WalkT.eff k0 1 ?_ ?_
 ·refine tA fun r w0 uw hF hE => ?_
  obtain ⟨a0, c0, d0, e3, b0, hle39, m0, n0, o0⟩ := hF
  replace o0 := o0.ext hE
  replace b0 := Er.ext b0 hE
  refine MC fun Q' hK => ?_
  refine go 1 ?_
  intro G0 A0 p0
  replace b0 := (Er.chgs (p0.mono (M' := fun x => x = b1) (fun _ h => by subst h; simp)) (fun x h1 h2 h3 => by have := p0.size; rcases h3 with rfl <;> omega) b0)
  exact hK _ (fun _ => (E_ a0 (E_ c0 (E_ d0 (A_ e3 (A_ b0 (A_ hle39 (A_ m0 (A_ n0 A0)))))))))
 refine bA (fun r => r 3) (fun r r' h => h 3 (by decide) rfl) (fun _ _ => zA rfl) (WalkT.nil fun r w0 H0 hF hE => ?_)
 obtain ⟨a0, c0, d0, e3, b0, hle39, m0, n0, i0⟩ := hF
 replace i0 := i0.ext hE
 replace b0 := Er.ext b0 hE
 dsimp only
 rw [e3]
 dsimp only [e0] at i0
 refine go 0 ?_
 exact ⟨_, rfl, ⟨_, rfl, b0.mono om⟩, i0.chg⟩
theorem MG (b : Nat) (s : Sk) (hs : s.ok) (R : List RW) (w₀ w : World) (H : Hp No w₀ w (EA 66 121 114 b s ++ R)) (hl : 0 < s.t.l.length) : Ca 18 [pT b] w fun v w' => v = .tuple #[.agg #[u64 ((s.t.l).getD 0 tr0).a, u64 ((s.t.l).getD 0 tr0).b, u64 ((s.t.l).getD 0 tr0).c], .nilIface] ∧ ∃ s' : Sk, Hp No w₀ w' (EA 66 121 114 b s' ++ R) ∧ s'.ok ∧ s'.t.l = s.t.l.drop 1 ∧ s'.b = s.b ∧ s'.o = s.o := by
 have hct := hs.t.cap
 have hcb := hs.b.cap
 have hco := hs.o.cap
 have H := H.b4 rfl
 refine enter (n := 10) Tryz.func18 rfl rfl (dB rfl) ?_
 refine go 1 ?_
 intro b1 w2 h0 H3 i0
 refine go 4 ?_
 have H5 := (Hp.midQ (X := [(rC b1 #[u64 0#64, u64 0#64, u64 0#64] 66)]) (A := EA 66 121 114 b s) (Y := R) H3).as (L' := EA 66 121 114 b s ++ ([(rC b1 #[u64 0#64, u64 0#64, u64 0#64] 66)] ++ R)) rfl
 refine cl (tN b s hs ([(rC b1 #[u64 0#64, u64 0#64, u64 0#64] 66)] ++ R) w₀ w2 H5 (0 : Int) hl) ?_
 rintro _ w6 ⟨rfl, s8, a0, b0, c0, d0, e0⟩
 have j0 := (Hp.midQ (X := EA 66 121 114 b s8) (A := [(rC b1 #[u64 0#64, u64 0#64, u64 0#64] 66)]) (Y := R) a0).as (L' := (_ :: (EA 66 121 114 b s8 ++ R))) rfl
 refine go 3 ?_
 intro k0 f0 l0
 refine go 1 ?_
 exact ⟨_, rfl, rfl, s8, (f0.dropk 0), b0, c0, d0, e0⟩
theorem YM (b : Nat) (s : Sk) (w : World) (hb : w.heap[b]? = some (s.ob 114)) (hG : Gl w) (hl : s.t.l.length = 0) : Ca 18 [pT b] w fun v w' => (∃ ev, v = .tuple #[.agg #[u64 0#64, u64 0#64, u64 0#64], ev] ∧ Er w.heap.size w' 80 1 ev) ∧ Ext w w' := by
 have H := Hp.start No w
 have e0 := hb
 unfold Sk.ob at hb
 refine enter (n := 10) Tryz.func18 rfl rfl (dB rfl) ?_
 refine go 1 ?_
 intro b1 w2 f0 H3 h0
 refine go 4 ?_
 have := H3.lT 0
 refine cl (uN b s w2 gF uC (0 : Int) hl) ?_
 rintro _ w5 ⟨⟨v7, rfl, a0⟩, c0⟩
 have i0 := H3.ext c0
 obtain ⟨j0, k0, rfl⟩ := a0.iface
 refine go 3 ?_
 intro l0 d0 b0
 refine go 1 ?_
 exact ⟨_, rfl, ⟨_, rfl, (Er.chgs (b0.mono (M' := fun x => x = b1) (fun _ h => by subst h; simp)) (fun x h1 h2 h3 => by have := b0.size; rcases h3 with rfl <;> omega) a0).mono H3.chg.size⟩, d0.chg⟩
theorem rN (b : Nat) (s : Sk) (hs : s.ok) (R : List RW) (w₀ w : World) (H : Hp No w₀ w (EA 66 121 114 b s ++ R)) (kd : Int) (hl : 0 < s.b.l.length) : Ca 38 [.pointer (some ⟨b, 1, none⟩), i64 kd] w fun v w' => v = .tuple #[.agg #[u64 ((s.b.l).getD 0 tr0).a, u64 ((s.b.l).getD 0 tr0).b, u64 ((s.b.l).getD 0 tr0).c], .nilIface] ∧ ∃ s' : Sk, Hp No w₀ w' (EA 66 121 114 b s' ++ R) ∧ s'.ok ∧ s'.b.l = s.b.l.drop 1 ∧ s'.t = s.t ∧ s'.o = s.o := by
 have hct := hs.t.cap
 have hcb := hs.b.cap
 have hco := hs.o.cap
 have H := H.b4 rfl
 refine enter (n := 33) Tryz.func38 rfl rfl (dB rfl) ?_
 refine go 1 ?_
 intro b1 w2 b0 H3 c0
 refine go 2 ?_
 intro b5 w6 d0 H7 e0
 refine go 5 ?_
 refine sq ((iB rfl rfl).as (v' := .bool false) (by exact bF (om))) ?_
 refine go 5 ?_
 refine sq (((AD (E := PA) (l := s.b.l) (j := 0) (v := (s.b.l).getD 0 tr0) fQ (H7.rdP (k := 4) rfl hs.b) rfl rfl (QA om)).as (v' := .agg #[u64 (((s.b.l).getD 0 tr0).a), u64 (((s.b.l).getD 0 tr0).b), u64 (((s.b.l).getD 0 tr0).c)]) rfl).as (v' := .agg #[u64 ((s.b.l).getD 0 tr0).a, u64 ((s.b.l).getD 0 tr0).b, u64 ((s.b.l).getD 0 tr0).c]) (by rfl)) ?_
 refine go 1 ?_
 intro b9 f0 h0 i0 j0
 refine go 1 ?_
 intro k0 l0 m0
 refine go 5 ?_
 refine sq ((SC (l := 1) (h := s.b.l.length) vF rfl (.inl ⟨_, _, _, rfl, rfl, by first | rfl | omega | (simp; omega)⟩) (.inr ⟨rfl, rfl⟩) om om).as (v' := .slice (if s.b.c = 1 then s.b.a else oC s.b.a (1 * 3)) (s.b.l.length - 1) (s.b.c - 1)) (by first | rfl | (congr 1; omega) | (simp; omega) | simp)) ?_
 refine go 3 ?_
 intro n0 o0 p0
 refine go 2 ?_
 intro q0 a0 r0
 refine go 1 ?_
 refine ⟨_, rfl, rfl, { s with b := s.b.cut PA }, ?_, ⟨hs.t, Cp.cut_ok hs.b om, hs.o⟩, rfl, rfl, rfl⟩
 unfold EA Sk.ob
 dsimp only
 rw [Cp.cut_row (E := PA) om]
 unfold Cp.cut
 dsimp only
 rw [List.length_drop]
 exact (((a0.dropk 2).dropk 1).dropk 0)
theorem sN (b : Nat) (s : Sk) (w : World) (hb : w.heap[b]? = some (s.ob 114)) (hG : Gl w) (kd : Int) (hl : s.b.l.length = 0) : Ca 38 [.pointer (some ⟨b, 1, none⟩), i64 kd] w fun v w' => (∃ ev, v = .tuple #[.agg #[u64 0#64, u64 0#64, u64 0#64], ev] ∧ Er w.heap.size w' 80 1 ev) ∧ Ext w w' := by
 have H := Hp.start No w
 unfold Sk.ob at hb
 refine enter (n := 33) Tryz.func38 rfl rfl (dB rfl) ?_
 refine go 1 ?_
 intro b1 w2 B0 H3 C0
 refine go 2 ?_
 intro b5 w6 D0 H7 E0
 refine go 5 ?_
 refine sq ((iB rfl rfl).as (v' := .bool true) (by exact bT (om))) ?_
 refine go 0 ?_
 let e0 : List RW := [(rC b5 #[u64 0#64, u64 0#64, u64 0#64] 66), (rC b1 #[u64 0#64, u64 0#64, u64 0#64] 66)]
 let q0 : mC := [nC false false fun _ _ w' => Hp No w w' e0, nC true false fun v3 _ w' => ∃ a0 c0 d0, v3 = .iface c0 d0 ∧ Er a0 w' (80 : Int) 1 (.iface c0 d0) ∧ w.heap.size ≤ a0 ∧ b5 < a0 ∧ b1 < a0 ∧ Hp No w w' e0, nC true true fun v3 _ w' => ∃ a0 c0 d0, v3 = .iface c0 d0 ∧ Er a0 w' (80 : Int) 1 (.iface c0 d0) ∧ w.heap.size ≤ a0 ∧ b5 < a0 ∧ b1 < a0 ∧ Hp No w w' e0]
 refine MA (m := 6) [0, 0, 0, 6, 15, 31] [3, 4] e0 q0 BA (fun _ e => H7.ext e) EC (fun k0 => ?_)
 refine gk 3 ?_
 refine WalkT.eff k0 0 ?_ ?_
 ·refine tA fun r w0 uw hF hE => ?_
  have f0 := hF.ext hE
  refine gW fun Q' hK => ?_
  have := f0.lT 0
  have := f0.lT 1
  refine cl (YA (80 : Int) kd ({data := #[115, 116, 111, 99, 107]}) uw uC) ?_
  rintro v51 F0 ⟨j0, r0⟩
  have s0 := f0.ext r0
  obtain ⟨u0, x0, rfl⟩ := j0.iface
  obtain ⟨h0, l0⟩ : ∃ lo, lo = uw.heap.size := ⟨_, rfl⟩
  have hle59 : w.heap.size ≤ h0 := by rw [l0]; exact f0.chg.size
  rw [← l0] at j0
  have y0 : b5 < h0 := by omega
  have z0 : b1 < h0 := by omega
  exact hK _ _ (E_ h0 (E_ u0 (E_ x0 (A_ rfl (A_ j0 (A_ hle59 (A_ y0 (A_ z0 s0))))))))
 refine WalkT.eff k0 1 ?_ ?_
 ·refine tA fun r w0 uw hF hE => ?_
  obtain ⟨a0, c0, d0, e3, b0, hle39, m0, n0, o0⟩ := hF
  replace o0 := o0.ext hE
  replace b0 := Er.ext b0 hE
  refine MC fun Q' hK => ?_
  refine go 1 ?_
  intro G0 A0 p0
  replace b0 := (Er.chgs (p0.mono (M' := fun x => x = b1) (fun _ h => by subst h; simp)) (fun x h1 h2 h3 => by have := p0.size; rcases h3 with rfl <;> omega) b0)
  exact hK _ (fun _ => (E_ a0 (E_ c0 (E_ d0 (A_ e3 (A_ b0 (A_ hle39 (A_ m0 (A_ n0 A0)))))))))
 refine bA (fun r => r 3) (fun r r' h => h 3 (by decide) rfl) (fun _ _ => zA rfl) (WalkT.nil fun r w0 H0 hF hE => ?_)
 obtain ⟨a0, c0, d0, e3, b0, hle39, m0, n0, i0⟩ := hF
 replace i0 := i0.ext hE
 replace b0 := Er.ext b0 hE
 dsimp only
 rw [e3]
 dsimp only [e0] at i0
 refine go 0 ?_
 exact ⟨_, rfl, ⟨_, rfl, b0.mono om⟩, i0.chg⟩
theorem LG (b : Nat) (s : Sk) (hs : s.ok) (R : List RW) (w₀ w : World) (H : Hp No w₀ w (EA 66 121 114 b s ++ R)) (hl : 0 < s.b.l.length) : Ca 19 [pT b] w fun v w' => v = .tuple #[.agg #[u64 ((s.b.l).getD 0 tr0).a, u64 ((s.b.l).getD 0 tr0).b, u64 ((s.b.l).getD 0 tr0).c], .nilIface] ∧ ∃ s' : Sk, Hp No w₀ w' (EA 66 121 114 b s' ++ R) ∧ s'.ok ∧ s'.b.l = s.b.l.drop 1 ∧ s'.t = s.t ∧ s'.o = s.o := by
 have hct := hs.t.cap
 have hcb := hs.b.cap
 have hco := hs.o.cap
 have H := H.b4 rfl
 refine enter (n := 10) Tryz.func19 rfl rfl (dB rfl) ?_
 refine go 1 ?_
 intro b1 w2 h0 H3 i0
 refine go 4 ?_
 have H5 := (Hp.midQ (X := [(rC b1 #[u64 0#64, u64 0#64, u64 0#64] 66)]) (A := EA 66 121 114 b s) (Y := R) H3).as (L' := EA 66 121 114 b s ++ ([(rC b1 #[u64 0#64, u64 0#64, u64 0#64] 66)] ++ R)) rfl
 refine cl (rN b s hs ([(rC b1 #[u64 0#64, u64 0#64, u64 0#64] 66)] ++ R) w₀ w2 H5 (1 : Int) hl) ?_
 rintro _ w6 ⟨rfl, s8, a0, b0, c0, d0, e0⟩
 have j0 := (Hp.midQ (X := EA 66 121 114 b s8) (A := [(rC b1 #[u64 0#64, u64 0#64, u64 0#64] 66)]) (Y := R) a0).as (L' := (_ :: (EA 66 121 114 b s8 ++ R))) rfl
 refine go 3 ?_
 intro k0 f0 l0
 refine go 1 ?_
 exact ⟨_, rfl, rfl, s8, (f0.dropk 0), b0, c0, d0, e0⟩
theorem XM (b : Nat) (s : Sk) (w : World) (hb : w.heap[b]? = some (s.ob 114)) (hG : Gl w) (hl : s.b.l.length = 0) : Ca 19 [pT b] w fun v w' => (∃ ev, v = .tuple #[.agg #[u64 0#64, u64 0#64, u64 0#64], ev] ∧ Er w.heap.size w' 80 1 ev) ∧ Ext w w' := by
 have H := Hp.start No w
 have e0 := hb
 unfold Sk.ob at hb
 refine enter (n := 10) Tryz.func19 rfl rfl (dB rfl) ?_
 refine go 1 ?_
 intro b1 w2 f0 H3 h0
 refine go 4 ?_
 have := H3.lT 0
 refine cl (sN b s w2 gF uC (1 : Int) hl) ?_
 rintro _ w5 ⟨⟨v7, rfl, a0⟩, c0⟩
 have i0 := H3.ext c0
 obtain ⟨j0, k0, rfl⟩ := a0.iface
 refine go 3 ?_
 intro l0 d0 b0
 refine go 1 ?_
 exact ⟨_, rfl, ⟨_, rfl, (Er.chgs (b0.mono (M' := fun x => x = b1) (fun _ h => by subst h; simp)) (fun x h1 h2 h3 => by have := b0.size; rcases h3 with rfl <;> omega) a0).mono H3.chg.size⟩, d0.chg⟩
theorem qN (b : Nat) (s : Sk) (hs : s.ok) (R : List RW) (w₀ w : World) (H : Hp No w₀ w (EA 66 121 114 b s ++ R)) (kd : Int) (hl : 0 < s.o.l.length) : Ca 88 [.pointer (some ⟨b, 2, none⟩), i64 kd] w fun v w' => v = .tuple #[.agg #[u64 (((s.o.l).getD 0 eB).p), u64 (((s.o.l).getD 0 eB).q), u64 (((s.o.l).getD 0 eB).r), u64 (((s.o.l).getD 0 eB).s), .bool (((s.o.l).getD 0 eB).ch)], .nilIface] ∧ ∃ s' : Sk, Hp No w₀ w' (EA 66 121 114 b s' ++ R) ∧ s'.ok ∧ s'.o.l = s.o.l.drop 1 ∧ s'.t = s.t ∧ s'.b = s.b := by
 have hct := hs.t.cap
 have hcb := hs.b.cap
 have hco := hs.o.cap
 have H := H.b4 rfl
 refine enter (n := 33) Tryz.func88 rfl rfl (dB rfl) ?_
 refine go 1 ?_
 intro b1 w2 b0 H3 c0
 refine go 2 ?_
 intro b5 w6 d0 H7 e0
 refine go 5 ?_
 refine sq ((iB rfl rfl).as (v' := .bool false) (by exact bF (om))) ?_
 refine go 5 ?_
 refine sq (((AD (E := zB) (l := s.o.l) (j := 0) (v := (s.o.l).getD 0 eB) zM (H7.rdP (k := 5) rfl hs.o) rfl rfl (QA om)).as (v' := .agg #[u64 (((s.o.l).getD 0 eB).p), u64 (((s.o.l).getD 0 eB).q), u64 (((s.o.l).getD 0 eB).r), u64 (((s.o.l).getD 0 eB).s), .bool (((s.o.l).getD 0 eB).ch)]) rfl).as (v' := .agg #[u64 (((s.o.l).getD 0 eB).p), u64 (((s.o.l).getD 0 eB).q), u64 (((s.o.l).getD 0 eB).r), u64 (((s.o.l).getD 0 eB).s), .bool (((s.o.l).getD 0 eB).ch)]) (by rfl)) ?_
 refine go 1 ?_
 intro b9 f0 h0 i0 j0
 refine go 1 ?_
 intro k0 l0 m0
 refine go 5 ?_
 refine sq ((SC (l := 1) (h := s.o.l.length) vF rfl (.inl ⟨_, _, _, rfl, rfl, by first | rfl | omega | (simp; omega)⟩) (.inr ⟨rfl, rfl⟩) om om).as (v' := .slice (if s.o.c = 1 then s.o.a else oC s.o.a (1 * 5)) (s.o.l.length - 1) (s.o.c - 1)) (by first | rfl | (congr 1; omega) | (simp; omega) | simp)) ?_
 refine go 3 ?_
 intro n0 o0 p0
 refine go 2 ?_
 intro q0 a0 r0
 refine go 1 ?_
 refine ⟨_, rfl, rfl, { s with o := s.o.cut zB }, ?_, ⟨hs.t, hs.b, Cp.cut_ok hs.o om⟩, rfl, rfl, rfl⟩
 unfold EA Sk.ob
 dsimp only
 rw [Cp.cut_row (E := zB) om]
 unfold Cp.cut
 dsimp only
 rw [List.length_drop]
 exact (((a0.dropk 2).dropk 1).dropk 0)
theorem WM (b : Nat) (s : Sk) (hs : s.ok) (R : List RW) (w₀ w : World) (H : Hp No w₀ w (EA 66 121 114 b s ++ R)) (hl : 0 < s.o.l.length) : Ca 68 [pT b] w fun v w' => v = .tuple #[.agg #[u64 (((s.o.l).getD 0 eB).p), u64 (((s.o.l).getD 0 eB).q), u64 (((s.o.l).getD 0 eB).r), u64 (((s.o.l).getD 0 eB).s), .bool (((s.o.l).getD 0 eB).ch)], .nilIface] ∧ ∃ s' : Sk, Hp No w₀ w' (EA 66 121 114 b s' ++ R) ∧ s'.ok ∧ s'.o.l = s.o.l.drop 1 ∧ s'.t = s.t ∧ s'.b = s.b := by
 have hct := hs.t.cap
 have hcb := hs.b.cap
 have hco := hs.o.cap
 have H := H.b4 rfl
 refine enter (n := 10) Tryz.func68 rfl rfl (dB rfl) ?_
 refine go 1 ?_
 intro b1 w2 h0 H3 i0
 refine go 4 ?_
 have H5 := (Hp.midQ (X := [(rC b1 #[u64 0#64, u64 0#64, u64 0#64, u64 0#64, .bool false] 121)]) (A := EA 66 121 114 b s) (Y := R) H3).as (L' := EA 66 121 114 b s ++ ([(rC b1 #[u64 0#64, u64 0#64, u64 0#64, u64 0#64, .bool false] 121)] ++ R)) rfl
 refine cl (qN b s hs ([(rC b1 #[u64 0#64, u64 0#64, u64 0#64, u64 0#64, .bool false] 121)] ++ R) w₀ w2 H5 (2 : Int) hl) ?_
 rintro _ w6 ⟨rfl, s8, a0, b0, c0, d0, e0⟩
 have j0 := (Hp.midQ (X := EA 66 121 114 b s8) (A := [(rC b1 #[u64 0#64, u64 0#64, u64 0#64, u64 0#64, .bool false] 121)]) (Y := R) a0).as (L' := (_ :: (EA 66 121 114 b s8 ++ R))) rfl
 refine go 3 ?_
 intro k0 f0 l0
 refine go 1 ?_
 exact ⟨_, rfl, rfl, s8, (f0.dropk 0), b0, c0, d0, e0⟩
theorem PP (b : Nat) (s : Sk) (w : World) (hb : w.heap[b]? = some (s.ob 114)) : Ca 16 [pT b] w fun v w' => v = .tuple #[iN s.t.l.length, iN s.b.l.length, iN s.o.l.length] ∧ Ext w w' := by
 have H := Hp.start No w
 unfold Sk.ob at hb
 refine enter (n := 23) Tryz.func16 rfl rfl (dB rfl) ?_
 refine go 3 ?_
 refine uB (K := [none, none, none, none, none, none, none, none, none, none, none, none, none, none, none, none, none, none, none, none, none]) [0, 1, 3, 7, 15, 31, 0, 64, 192, 448, 960, 1984, 0, 4096, 12288, 28672, 61440, 126976, 63, 266239, 1048575] (fun w' => Ext w w') (fun w' w'' => Ext w' w'') BA (by kernel_rfl) (Ext.drew _) (fun _ _ h h' => h.trans h') ?_ ?_
 ·exact xB (by decide)
 refine gk 21 ?_
 intro r46 c0 a0 hF
 have b0 := H.ext a0
 refine go 0 ?_
 exact ⟨_, rfl, rfl, b0.chg⟩
end Go.Proofs.YtohngnahcgbfmaaGreatDoor.Co
namespace Go.Proofs.YtohngnahcgbfmaaGreatDoor.Co
open Go Vc Er
theorem FQ : OA Tryz.prog 38 = true := by kernel_rfl
theorem dJ : OA Tryz.prog 83 = true := by kernel_rfl
theorem bJ : jD Tryz.prog 83 = some (2, 1) := by kernel_rfl
theorem uQ : mA Tryz.prog 17 = true := by kernel_rfl
theorem OC : wC Tryz.prog 3 EI := OF (by kernel_rfl) (by kernel_rfl)
theorem VE : wC Tryz.prog 34 E64 := UE (by kernel_rfl) (by kernel_rfl)
theorem LO : UB Tryz.prog 38 = some 2 := by kernel_rfl
theorem GI : UB Tryz.prog 83 = some 2 := by kernel_rfl
theorem QH : eD Tryz.prog 100 = some (3, 1) := by kernel_rfl
theorem OT : YB Tryz.prog 3 = some (.int .i64 0) := by kernel_rfl
theorem yI : YB Tryz.prog 83 = some (.agg (List.replicate 2 (.int .u64 0)).toArray) := by kernel_rfl
theorem XJ (b : Nat) (key : Option Nat) (c : Nat) (sp : LV) (ws : List (BitVec 64)) (hSw : Sl E64 key ws c sp) (hlen : ws.length ≤ 140737488355328) (n1 n2 n3 : Nat) (hn1 : n1 ≤ 65536) (hn2 : n2 ≤ 65536) (hn3 : n3 ≤ 65536) (hfit : 5 * (n1 + n2 + n3) ≤ ws.length) (R : List RW) (w₀ w : World) (H : Hp No w₀ w ((rC b #[sO key ws.length c, .pointer none, iN ws.length, iN 0] 96) :: (key, qA E64 34 ws sp) :: R)) : Ca 21 [pT b, iN n1, iN n2, iN n3] w fun v w' => ∃ (b1 b2 : Nat) (s1 s2 : Sk), v = .tuple #[.agg #[pT b1, pT b2], .nilIface] ∧ s1.ok ∧ s2.ok ∧ Dealt ws n1 n2 n3 s1 s2 ∧ Hp No w₀ w' (EA 66 121 114 b1 s1 ++ (EA 66 121 114 b2 s2 ++ ((rC b #[sO key ws.length c, .pointer none, iN ws.length, iN (5 * (n1 + n2) + 5 * n3)] 96) :: (key, qA E64 34 ws sp) :: R))) := by
 let u0 : RW := (key, qA E64 34 ws sp)
 let x2 : Array Value := #[.pointer none, .pointer none]
 have hin : ∀ q, q < 3 → 0 ≤ ([((n1 : Nat) : Int), ((n2 : Nat) : Int), ((n3 : Nat) : Int)] : List Int).getD q 0 ∧ ([((n1 : Nat) : Int), ((n2 : Nat) : Int), ((n3 : Nat) : Int)] : List Int).getD q 0 ≤ 65536 := by
  intro q hq
  rcases (show q = 0 ∨ q = 1 ∨ q = 2 by omega) with rfl | rfl | rfl <;> exact ⟨by simp, by simp; omega⟩
 refine enter (n := 230) Tryz.func21 rfl rfl (dB rfl) ?_
 refine go 1 ?_
 intro b1 w2 c6 H3 d6
 refine go 4 ?_
 refine bS (E := EI) (l := ([(n1 : Nat), (n2 : Nat), (n3 : Nat)] : List Int)) fun b5 w7 G3 H8 e6 => ?_
 refine go 2 ?_
 refine AA (σ := Nat) (fun q => [(0, pT b), (1, iN n1), (2, iN n2), (3, iN n3), (8, pT b1), (9, .nilIface), (21, sO (some b5) 3 3), (22, iN 3), (23, iN q)]) (fun q w' => q ≤ 3 ∧ Hp No w₀ w' (((some b5), qA EI 3 ([(n1 : Nat), (n2 : Nat), (n3 : Nat)] : List Int) ([])) :: (rC b1 x2 38) :: (rC b #[sO key ws.length c, .pointer none, iN ws.length, iN 0] 96) :: u0 :: R)) (fun q => 3 - q) (0) ?_ ?_ ?_
 ·exact kp
 ·exact ⟨Nat.zero_le _, H8⟩
 rintro q ρ G2 ⟨hq, HQ⟩
 refine go 1 ?_
 refine iA (((q : Nat) : Int) < (3 : Nat)) rfl (fun I3 => ?_) (fun I3 => ?_)
 ·refine go 1 ?_
  refine sq (AD (E := EI) (l := ([(n1 : Nat), (n2 : Nat), (n3 : Nat)] : List Int)) (j := q) (v := (([(n1 : Nat), (n2 : Nat), (n3 : Nat)] : List Int)).getD q 0) OC (HQ.rd (k := 0) rfl G3) rfl rfl (QA (l := ([((n1 : Nat) : Int), ((n2 : Nat) : Int), ((n3 : Nat) : Int)] : List Int)) (j := q) (by show q < 3; omega))) ?_
  refine go 2 ?_
  refine sq ((KC rfl rfl).as (v' := .bool false) (by exact bF ((by have := hin q om; omega)))) ?_
  refine go 2 ?_
  refine LA (v := .bool false) (w' := G2) (gA (d' := 29) (b := false) rfl rfl rfl) ((UC rfl rfl).as (v' := .bool false) (by exact bF ((by have := hin q om; omega)))) ?_
  refine go 3 ?_
  exact ⟨q + 1, _, rfl, kp, ⟨om, HQ⟩, vd⟩
 ·obtain rfl : q = 3 := by omega
  refine go 1 ?_
  refine cl (CH b ws.length 0 (sO key ws.length c) (.pointer none) G2 gF om om) ?_
  rintro _ f6 ⟨rfl, J3⟩
  have g6 := HQ.ext J3
  refine go 6 ?_
  refine sq ((KC rfl rfl).as (v' := .bool false) (by exact bF (om))) ?_
  refine go 2 ?_
  intro f0 h6 i6 j6 k6
  refine go 2 ?_
  intro h0 l6 m6 n6 o6
  let x5 : Array Value := #[pT f0, pT h0]
  refine go 2 ?_
  intro m0 p6 q6 K3 r6
  refine GA (k := 0) (v := .agg x5) (cs' := x5) K3 rfl rfl rfl vF (by rfl) (ZH rfl) (by exact dB rfl) (by rfl) fun s6 L3 t6 => ?_
  have H2 := L3.b7 rfl
  refine go 2 ?_
  refine AA (σ := Nat × Option Nat × Nat × LV × Option Nat × Nat × LV) (fun (zi, kyta, ccta, zzta, kytb, cctb, zztb) => [(0, pT b), (1, iN n1), (2, iN n2), (3, iN n3), (8, pT b1), (9, .nilIface), (12, pT m0), (57, iN n1), (58, iN zi)]) (fun (zi, kyta, ccta, zzta, kytb, cctb, zztb) w' => (zi ≤ n1 ∧ Sl PA kyta (pA (wD ws) 0 zi) ccta zzta ∧ Sl PA kytb (pA (mH ws) 0 zi) cctb zztb) ∧ Hp No w₀ w' ((rC m0 x5 38) :: (rC f0 #[sO kyta zi ccta, yA, yA] 114) :: (rC h0 #[sO kytb zi cctb, yA, yA] 114) :: (kyta, qA PA 66 (pA (wD ws) 0 zi) zzta) :: (kytb, qA PA 66 (pA (mH ws) 0 zi) zztb) :: (rC b1 x2 38) :: (rC b #[sO key ws.length c, .pointer none, iN ws.length, iN (0 + 5 * zi)] 96) :: u0 :: R)) (fun (zi, kyta, ccta, zzta, kytb, cctb, zztb) => n1 - zi) ((0, none, 0, [], none, 0, [])) ?_ ?_ ?_
  ·exact kp
  rw [show 0 = 0 + 5 * 0 by omega] at H2
  ·exact ⟨⟨Nat.zero_le _, Sl.none, Sl.none⟩, (((H2.nil (qA PA 66 [] [])).nil (qA PA 66 [] [])).pk 9 [2, 4, 3, 1, 0, 6, 7, 8])⟩
  rintro ⟨zi, kyta, ccta, zzta, kytb, cctb, zztb⟩ ρ M3 ⟨⟨hzi, hkyta, hkytb⟩, T1⟩
  let U1 : Array Value := #[sO kytb zi cctb, yA, yA]
  let x7 : RW := (kytb, qA PA 66 (pA (mH ws) 0 zi) zztb)
  refine go 1 ?_
  refine iA (((zi : Nat) : Int) < (n1 : Nat)) rfl (fun N3 => ?_) (fun N3 => ?_)
  ·refine go 1 ?_
   have O3 := ((T1.pk 8 [6, 7, 0, 1, 2, 3, 4, 5])).b2 rfl
   refine cl (SJ b key c sp ws hSw hlen (0 + 5 * zi) om ((rC m0 x5 38) :: (rC f0 #[sO kyta zi ccta, yA, yA] 114) :: (rC h0 U1 114) :: (kyta, qA PA 66 (pA (wD ws) 0 zi) zzta) :: x7 :: (rC b1 x2 38) :: R) w₀ M3 O3) ?_
   rintro _ u6 ⟨rfl, P3⟩
   have w6 := P3.b8 rfl
   refine go 1 ?_
   intro I2 y6 z6 A6 B6
   refine go 1 ?_
   intro C6 Q3 D6
   refine go 0 ?_
   have R3 := (Q3.pk 9 [4, 6, 0, 1, 2, 3, 5, 7, 8])
   let U0 : List RW := ((rX I2 E64 ([ws.getD (0 + 5 * zi) 0#64, ws.getD ((0 + 5 * zi) + 1) 0#64, ws.getD ((0 + 5 * zi) + 2) 0#64, ws.getD ((0 + 5 * zi) + 3) 0#64, ws.getD ((0 + 5 * zi) + 4) 0#64]) 117) :: (rC b #[sO key ws.length c, .pointer none, iN ws.length, iN ((0 + 5 * zi) + 5)] 96) :: u0 :: (rC m0 x5 38) :: (rC h0 U1 114) :: x7 :: (rC b1 x2 38) :: R)
   let w1 := fun (b0 : Nat) => (((some b0), qA PA 66 ([⟨ws.getD (0 + 5 * zi) 0#64, ws.getD ((0 + 5 * zi) + 2) 0#64, ws.getD ((0 + 5 * zi) + 4) 0#64⟩] : List Tr) ([])) : RW)
   let J2 := ((kyta, qA PA 66 (pA (wD ws) 0 zi) zzta) : RW)
   let V1 := ((rC f0 #[sO kyta zi ccta, yA, yA] 114) : RW)
   let y1 := fun (b0 : Nat) => (Sl PA (some b0) ([⟨ws.getD (0 + 5 * zi) 0#64, ws.getD ((0 + 5 * zi) + 2) 0#64, ws.getD ((0 + 5 * zi) + 4) 0#64⟩] : List Tr) 1 ([]) : Prop)
   let S3 : mC := [RB false false false fun _ _ _ w' => Hp No w₀ w' (V1 :: J2 :: U0), RB true false false fun v15 _ _ w' => ∃ b0, v15 = sO (some b0) 1 1 ∧ (y1 b0) ∧ Hp No w₀ w' ((w1 b0) :: V1 :: J2 :: U0), RB true true false fun v15 v16 _ w' => ∃ b0 n0 B0 F0, v15 = sO (some b0) 1 1 ∧ v16 = sO n0 (zi + 1) B0 ∧ (y1 b0) ∧ Sl PA n0 (pA (wD ws) 0 (zi + 1)) B0 F0 ∧ Hp No w₀ w' ((w1 b0) :: V1 :: (n0, qA PA 66 (pA (wD ws) 0 (zi + 1)) F0) :: U0), RB true true true fun v15 v16 _ w' => ∃ b0 n0 B0 F0, v15 = sO (some b0) 1 1 ∧ v16 = sO n0 (zi + 1) B0 ∧ (y1 b0) ∧ Sl PA n0 (pA (wD ws) 0 (zi + 1)) B0 F0 ∧ Hp No w₀ w' ((w1 b0) :: (rC f0 #[sO n0 (zi + 1) B0, yA, yA] 114) :: (n0, qA PA 66 (pA (wD ws) 0 (zi + 1)) F0) :: U0)]
   refine MA (m := 21) [0, 1, 0, 4, 12, 28, 60, 124, 0, 256, 0, 1024, 0, 4096, 16128, 32512, 65532, 131071, 262143, 524287, 1048575] [15, 16, 20] U0 S3 BA (fun _ e => R3.ext e) EC (fun W1 => ?_)
   refine gk 15 ?_
   refine WalkT.eff W1 0 ?_ ?_
   ·refine tA fun r w0 uw hF hE => ?_
    have E6 := hF.ext hE
    exact gW fun Q' hK => (bS (E := PA) (l := ([⟨ws.getD (0 + 5 * zi) 0#64, ws.getD ((0 + 5 * zi) + 2) 0#64, ws.getD ((0 + 5 * zi) + 4) 0#64⟩] : List Tr)) fun T3 F6 U3 V3 G6 => hK _ _ (E_ T3 (A_ rfl (A_ U3 V3))))
   refine WalkT.eff W1 1 ?_ ?_
   ·refine tA fun r w0 uw hF hE => ?_
    obtain ⟨b0, r0, g1, K2⟩ := hF
    replace K2 := K2.ext hE
    dsimp only
    rw [r0]
    refine gW fun Q' hK => ?_
    refine OD ?_
    refine ⟨by rw [lB], by rfl, om, ?_⟩
    intro W3 X3 Y3 H6 Z3 I6 c4
    have d4 : (pA (wD ws) 0 zi) ++ ([⟨ws.getD (0 + 5 * zi) 0#64, ws.getD ((0 + 5 * zi) + 2) 0#64, ws.getD ((0 + 5 * zi) + 4) 0#64⟩] : List Tr) = pA (wD ws) 0 (zi + 1) := by rw [vB]; rfl
    have L2 := Z3
    have M2 := c4
    rw [d4] at L2 M2
    exact hK _ _ (E_ b0 (E_ W3 (E_ X3 (E_ Y3 (A_ r0 (A_ rfl (A_ g1 (A_ L2 M2))))))))
   refine gk 3 ?_
   refine WalkT.eff W1 2 ?_ ?_
   ·refine tA fun r w0 uw hF hE => ?_
    obtain ⟨b0, n0, B0, F0, r0, a0, g1, X1, N2⟩ := hF
    replace N2 := N2.ext hE
    dsimp only
    rw [a0]
    refine MC fun Q' hK => ?_
    refine go 1 ?_
    intro J6 e4 K6
    exact hK _ (fun _ => (E_ b0 (E_ n0 (E_ B0 (E_ F0 (A_ r0 (A_ a0 (A_ g1 (A_ X1 e4)))))))))
   refine WalkT.nil fun r w0 L6 hF hE => ?_
   obtain ⟨b0, n0, B0, F0, r0, a0, g1, X1, z1⟩ := hF
   replace z1 := z1.ext hE
   dsimp only
   rw [r0, a0]
   dsimp only [y1] at g1
   dsimp only [U0, w1] at z1
   refine go 0 ?_
   have f4 := (z1.pk 10 [7, 8, 0, 1, 2, 3, 4, 5, 6, 9])
   let V0 : List RW := (((some b0), qA PA 66 ([⟨ws.getD (0 + 5 * zi) 0#64, ws.getD ((0 + 5 * zi) + 2) 0#64, ws.getD ((0 + 5 * zi) + 4) 0#64⟩] : List Tr) ([])) :: (rC f0 #[sO n0 (zi + 1) B0, yA, yA] 114) :: (n0, qA PA 66 (pA (wD ws) 0 (zi + 1)) F0) :: (rX I2 E64 ([ws.getD (0 + 5 * zi) 0#64, ws.getD ((0 + 5 * zi) + 1) 0#64, ws.getD ((0 + 5 * zi) + 2) 0#64, ws.getD ((0 + 5 * zi) + 3) 0#64, ws.getD ((0 + 5 * zi) + 4) 0#64]) 117) :: (rC b #[sO key ws.length c, .pointer none, iN ws.length, iN ((0 + 5 * zi) + 5)] 96) :: u0 :: (rC m0 x5 38) :: (rC b1 x2 38) :: R)
   let A1 := fun (i0 : Nat) => (((some i0), qA PA 66 ([⟨ws.getD ((0 + 5 * zi) + 1) 0#64, ws.getD ((0 + 5 * zi) + 3) 0#64, (((ws.getD (0 + 5 * zi) 0#64) + (ws.getD ((0 + 5 * zi) + 1) 0#64)) * ((ws.getD ((0 + 5 * zi) + 2) 0#64) + (ws.getD ((0 + 5 * zi) + 3) 0#64))) - (ws.getD ((0 + 5 * zi) + 4) 0#64)⟩] : List Tr) ([])) : RW)
   let O2 := (x7 : RW)
   let Y1 := ((rC h0 U1 114) : RW)
   let B1 := fun (i0 : Nat) => (Sl PA (some i0) ([⟨ws.getD ((0 + 5 * zi) + 1) 0#64, ws.getD ((0 + 5 * zi) + 3) 0#64, (((ws.getD (0 + 5 * zi) 0#64) + (ws.getD ((0 + 5 * zi) + 1) 0#64)) * ((ws.getD ((0 + 5 * zi) + 2) 0#64) + (ws.getD ((0 + 5 * zi) + 3) 0#64))) - (ws.getD ((0 + 5 * zi) + 4) 0#64)⟩] : List Tr) 1 ([]) : Prop)
   let g4 : mC := [RB false false false fun _ _ _ w' => Hp No w₀ w' (Y1 :: O2 :: V0), RB true false false fun v27 _ _ w' => ∃ i0, v27 = sO (some i0) 1 1 ∧ (B1 i0) ∧ Hp No w₀ w' ((A1 i0) :: Y1 :: O2 :: V0), RB true true false fun v27 v28 _ w' => ∃ i0 x0 G0 N0, v27 = sO (some i0) 1 1 ∧ v28 = sO x0 (zi + 1) G0 ∧ (B1 i0) ∧ Sl PA x0 (pA (mH ws) 0 (zi + 1)) G0 N0 ∧ Hp No w₀ w' ((A1 i0) :: Y1 :: (x0, qA PA 66 (pA (mH ws) 0 (zi + 1)) N0) :: V0), RB true true true fun v27 v28 _ w' => ∃ i0 x0 G0 N0, v27 = sO (some i0) 1 1 ∧ v28 = sO x0 (zi + 1) G0 ∧ (B1 i0) ∧ Sl PA x0 (pA (mH ws) 0 (zi + 1)) G0 N0 ∧ Hp No w₀ w' ((A1 i0) :: (rC h0 #[sO x0 (zi + 1) G0, yA, yA] 114) :: (x0, qA PA 66 (pA (mH ws) 0 (zi + 1)) N0) :: V0)]
   refine MA (m := 33) [0, 1, 0, 4, 12, 28, 60, 124, 0, 256, 0, 1024, 0, 4096, 0, 16384, 61440, 0, 131072, 0, 524288, 1966080, 4190208, 0, 8388608, 33550336, 67108608, 134217472, 268435452, 536870911, 1073741823, 2147483647, 4294967295] [27, 28, 32] V0 g4 BA (fun _ e => f4.ext e) EC (fun Z1 => ?_)
   refine gk 27 ?_
   refine WalkT.eff Z1 0 ?_ ?_
   ·refine tA fun r w0 uw hF hE => ?_
    have M6 := hF.ext hE
    exact gW fun Q' hK => (bS (E := PA) (l := ([⟨ws.getD ((0 + 5 * zi) + 1) 0#64, ws.getD ((0 + 5 * zi) + 3) 0#64, (((ws.getD (0 + 5 * zi) 0#64) + (ws.getD ((0 + 5 * zi) + 1) 0#64)) * ((ws.getD ((0 + 5 * zi) + 2) 0#64) + (ws.getD ((0 + 5 * zi) + 3) 0#64))) - (ws.getD ((0 + 5 * zi) + 4) 0#64)⟩] : List Tr)) fun h4 N6 i4 j4 O6 => hK _ _ (E_ h4 (A_ rfl (A_ i4 j4))))
   refine WalkT.eff Z1 1 ?_ ?_
   ·refine tA fun r w0 uw hF hE => ?_
    obtain ⟨i0, s0, h1, P2⟩ := hF
    replace P2 := P2.ext hE
    dsimp only
    rw [s0]
    refine gW fun Q' hK => ?_
    refine OD ?_
    refine ⟨by rw [lB], by rfl, om, ?_⟩
    intro k4 c2 l4 P6 m4 Q6 n4
    have o4 : (pA (mH ws) 0 zi) ++ ([⟨ws.getD ((0 + 5 * zi) + 1) 0#64, ws.getD ((0 + 5 * zi) + 3) 0#64, (((ws.getD (0 + 5 * zi) 0#64) + (ws.getD ((0 + 5 * zi) + 1) 0#64)) * ((ws.getD ((0 + 5 * zi) + 2) 0#64) + (ws.getD ((0 + 5 * zi) + 3) 0#64))) - (ws.getD ((0 + 5 * zi) + 4) 0#64)⟩] : List Tr) = pA (mH ws) 0 (zi + 1) := by rw [vB]; rfl
    have Q2 := m4
    have R2 := n4
    rw [o4] at Q2 R2
    exact hK _ _ (E_ i0 (E_ k4 (E_ c2 (E_ l4 (A_ s0 (A_ rfl (A_ h1 (A_ Q2 R2))))))))
   refine gk 3 ?_
   refine WalkT.eff Z1 2 ?_ ?_
   ·refine tA fun r w0 uw hF hE => ?_
    obtain ⟨i0, x0, G0, N0, s0, O0, h1, d2, S2⟩ := hF
    replace S2 := S2.ext hE
    dsimp only
    rw [O0]
    refine MC fun Q' hK => ?_
    refine go 1 ?_
    intro R6 p4 S6
    exact hK _ (fun _ => (E_ i0 (E_ x0 (E_ G0 (E_ N0 (A_ s0 (A_ O0 (A_ h1 (A_ d2 p4)))))))))
   refine WalkT.nil fun r w0 T6 hF hE => ?_
   obtain ⟨i0, x0, G0, N0, s0, O0, h1, d2, i1⟩ := hF
   replace i1 := i1.ext hE
   dsimp only
   rw [s0, O0]
   dsimp only [B1] at h1
   dsimp only [V0, A1] at i1
   refine go 2 ?_
   rw [show (0 + 5 * zi) + 5 = 0 + 5 * (zi + 1) by omega] at i1
   exact ⟨(zi + 1, n0, B0, F0, x0, G0, N0), _, rfl, kp, ⟨⟨om, X1, d2⟩, (i1.pk 11 [9, 4, 1, 5, 2, 10, 7, 8])⟩, vd⟩
  ·obtain rfl : n1 = zi := by omega
   let e2 : Value := sO kyta n1 ccta
   let x8 : RW := (kytb, qA PA 66 (pA (mH ws) 0 n1) zztb)
   let x3 : RW := (kyta, qA PA 66 (pA (wD ws) 0 n1) zzta)
   refine go 2 ?_
   refine AA (σ := Nat × Option Nat × Nat × LV × Option Nat × Nat × LV) (fun (zi, kyba, ccba, zzba, kybb, ccbb, zzbb) => [(0, pT b), (1, iN n1), (2, iN n2), (3, iN n3), (8, pT b1), (9, .nilIface), (12, pT m0), (115, iN n2), (116, iN zi)]) (fun (zi, kyba, ccba, zzba, kybb, ccbb, zzbb) w' => (zi ≤ n2 ∧ Sl PA kyba (pA (wD ws) (5 * n1) zi) ccba zzba ∧ Sl PA kybb (pA (lH ws) (5 * n1) zi) ccbb zzbb) ∧ Hp No w₀ w' ((rC m0 x5 38) :: (rC f0 #[sO kyta n1 ccta, sO kyba zi ccba, yA] 114) :: (rC h0 #[sO kytb n1 cctb, sO kybb zi ccbb, yA] 114) :: x3 :: x8 :: (kyba, qA PA 66 (pA (wD ws) (5 * n1) zi) zzba) :: (kybb, qA PA 66 (pA (lH ws) (5 * n1) zi) zzbb) :: (rC b1 x2 38) :: (rC b #[sO key ws.length c, .pointer none, iN ws.length, iN (5 * n1 + 5 * zi)] 96) :: u0 :: R)) (fun (zi, kyba, ccba, zzba, kybb, ccbb, zzbb) => n2 - zi) ((0, none, 0, [], none, 0, [])) ?_ ?_ ?_
   ·exact kp
   rw [show 0 + 5 * n1 = 5 * n1 + 5 * 0 by omega] at T1
   ·exact ⟨⟨Nat.zero_le _, Sl.none, Sl.none⟩, (((T1.nil (qA PA 66 [] [])).nil (qA PA 66 [] [])).pk 10 [2, 3, 4, 5, 6, 1, 0, 7, 8, 9])⟩
   rintro ⟨zi, kyba, ccba, zzba, kybb, ccbb, zzbb⟩ ρ q4 ⟨⟨hzi, hkyba, hkybb⟩, f2⟩
   let g2 : RW := (kybb, qA PA 66 (pA (lH ws) (5 * n1) zi) zzbb)
   let x6 : Array Value := #[sO kytb n1 cctb, sO kybb zi ccbb, yA]
   refine go 1 ?_
   refine iA (((zi : Nat) : Int) < (n2 : Nat)) rfl (fun r4 => ?_) (fun r4 => ?_)
   ·refine go 1 ?_
    have s4 := ((f2.pk 10 [8, 9, 0, 1, 2, 3, 4, 5, 6, 7])).b2 rfl
    refine cl (SJ b key c sp ws hSw hlen (5 * n1 + 5 * zi) om ((rC m0 x5 38) :: (rC f0 #[e2, sO kyba zi ccba, yA] 114) :: (rC h0 x6 114) :: x3 :: x8 :: (kyba, qA PA 66 (pA (wD ws) (5 * n1) zi) zzba) :: g2 :: (rC b1 x2 38) :: R) w₀ q4 s4) ?_
    rintro _ U6 ⟨rfl, t4⟩
    have V6 := t4.b10 rfl
    refine go 1 ?_
    intro T2 W6 X6 Y6 Z6
    refine go 1 ?_
    intro c7 u4 d7
    refine go 0 ?_
    have w4 := (u4.pk 11 [4, 8, 0, 1, 2, 3, 5, 6, 7, 9, 10])
    let W0 : List RW := ((rX T2 E64 ([ws.getD (5 * n1 + 5 * zi) 0#64, ws.getD ((5 * n1 + 5 * zi) + 1) 0#64, ws.getD ((5 * n1 + 5 * zi) + 2) 0#64, ws.getD ((5 * n1 + 5 * zi) + 3) 0#64, ws.getD ((5 * n1 + 5 * zi) + 4) 0#64]) 117) :: (rC b #[sO key ws.length c, .pointer none, iN ws.length, iN ((5 * n1 + 5 * zi) + 5)] 96) :: u0 :: (rC m0 x5 38) :: (rC h0 x6 114) :: x3 :: x8 :: g2 :: (rC b1 x2 38) :: R)
    let C1 := fun (c0 : Nat) => (((some c0), qA PA 66 ([⟨ws.getD (5 * n1 + 5 * zi) 0#64, ws.getD ((5 * n1 + 5 * zi) + 2) 0#64, ws.getD ((5 * n1 + 5 * zi) + 4) 0#64⟩] : List Tr) ([])) : RW)
    let U2 := ((kyba, qA PA 66 (pA (wD ws) (5 * n1) zi) zzba) : RW)
    let h2 := ((rC f0 #[e2, sO kyba zi ccba, yA] 114) : RW)
    let D1 := fun (c0 : Nat) => (Sl PA (some c0) ([⟨ws.getD (5 * n1 + 5 * zi) 0#64, ws.getD ((5 * n1 + 5 * zi) + 2) 0#64, ws.getD ((5 * n1 + 5 * zi) + 4) 0#64⟩] : List Tr) 1 ([]) : Prop)
    let y4 : mC := [RB false false false fun _ _ _ w' => Hp No w₀ w' (h2 :: U2 :: W0), RB true false false fun v15 _ _ w' => ∃ c0, v15 = sO (some c0) 1 1 ∧ (D1 c0) ∧ Hp No w₀ w' ((C1 c0) :: h2 :: U2 :: W0), RB true true false fun v15 v16 _ w' => ∃ c0 o0 C0 H0, v15 = sO (some c0) 1 1 ∧ v16 = sO o0 (zi + 1) C0 ∧ (D1 c0) ∧ Sl PA o0 (pA (wD ws) (5 * n1) (zi + 1)) C0 H0 ∧ Hp No w₀ w' ((C1 c0) :: h2 :: (o0, qA PA 66 (pA (wD ws) (5 * n1) (zi + 1)) H0) :: W0), RB true true true fun v15 v16 _ w' => ∃ c0 o0 C0 H0, v15 = sO (some c0) 1 1 ∧ v16 = sO o0 (zi + 1) C0 ∧ (D1 c0) ∧ Sl PA o0 (pA (wD ws) (5 * n1) (zi + 1)) C0 H0 ∧ Hp No w₀ w' ((C1 c0) :: (rC f0 #[sO kyta n1 ccta, sO o0 (zi + 1) C0, yA] 114) :: (o0, qA PA 66 (pA (wD ws) (5 * n1) (zi + 1)) H0) :: W0)]
    refine MA (m := 21) [0, 1, 0, 4, 12, 28, 60, 124, 0, 256, 0, 1024, 0, 4096, 16128, 32512, 65532, 131071, 262143, 524287, 1048575] [15, 16, 20] W0 y4 BA (fun _ e => w4.ext e) EC (fun i2 => ?_)
    refine gk 15 ?_
    refine WalkT.eff i2 0 ?_ ?_
    ·refine tA fun r w0 uw hF hE => ?_
     have e7 := hF.ext hE
     exact gW fun Q' hK => (bS (E := PA) (l := ([⟨ws.getD (5 * n1 + 5 * zi) 0#64, ws.getD ((5 * n1 + 5 * zi) + 2) 0#64, ws.getD ((5 * n1 + 5 * zi) + 4) 0#64⟩] : List Tr)) fun z4 f7 A4 B4 g7 => hK _ _ (E_ z4 (A_ rfl (A_ A4 B4))))
    refine WalkT.eff i2 1 ?_ ?_
    ·refine tA fun r w0 uw hF hE => ?_
     obtain ⟨c0, r0, j1, V2⟩ := hF
     replace V2 := V2.ext hE
     dsimp only
     rw [r0]
     refine gW fun Q' hK => ?_
     refine OD ?_
     refine ⟨by rw [lB], by rfl, om, ?_⟩
     intro C4 D4 F4 h7 G4 i7 H4
     have I4 : (pA (wD ws) (5 * n1) zi) ++ ([⟨ws.getD (5 * n1 + 5 * zi) 0#64, ws.getD ((5 * n1 + 5 * zi) + 2) 0#64, ws.getD ((5 * n1 + 5 * zi) + 4) 0#64⟩] : List Tr) = pA (wD ws) (5 * n1) (zi + 1) := by rw [vB]; rfl
     have X2 := G4
     have Y2 := H4
     rw [I4] at X2 Y2
     exact hK _ _ (E_ c0 (E_ C4 (E_ D4 (E_ F4 (A_ r0 (A_ rfl (A_ j1 (A_ X2 Y2))))))))
    refine gk 3 ?_
    refine WalkT.eff i2 2 ?_ ?_
    ·refine tA fun r w0 uw hF hE => ?_
     obtain ⟨c0, o0, C0, H0, r0, a0, j1, j2, Z2⟩ := hF
     replace Z2 := Z2.ext hE
     dsimp only
     rw [a0]
     refine MC fun Q' hK => ?_
     refine go 1 ?_
     intro j7 J4 k7
     exact hK _ (fun _ => (E_ c0 (E_ o0 (E_ C0 (E_ H0 (A_ r0 (A_ a0 (A_ j1 (A_ j2 J4)))))))))
    refine WalkT.nil fun r w0 l7 hF hE => ?_
    obtain ⟨c0, o0, C0, H0, r0, a0, j1, j2, E1⟩ := hF
    replace E1 := E1.ext hE
    dsimp only
    rw [r0, a0]
    dsimp only [D1] at j1
    dsimp only [W0, C1] at E1
    refine go 0 ?_
    have K4 := (E1.pk 12 [7, 10, 0, 1, 2, 3, 4, 5, 6, 8, 9, 11])
    let X0 : List RW := (((some c0), qA PA 66 ([⟨ws.getD (5 * n1 + 5 * zi) 0#64, ws.getD ((5 * n1 + 5 * zi) + 2) 0#64, ws.getD ((5 * n1 + 5 * zi) + 4) 0#64⟩] : List Tr) ([])) :: (rC f0 #[sO kyta n1 ccta, sO o0 (zi + 1) C0, yA] 114) :: (o0, qA PA 66 (pA (wD ws) (5 * n1) (zi + 1)) H0) :: (rX T2 E64 ([ws.getD (5 * n1 + 5 * zi) 0#64, ws.getD ((5 * n1 + 5 * zi) + 1) 0#64, ws.getD ((5 * n1 + 5 * zi) + 2) 0#64, ws.getD ((5 * n1 + 5 * zi) + 3) 0#64, ws.getD ((5 * n1 + 5 * zi) + 4) 0#64]) 117) :: (rC b #[sO key ws.length c, .pointer none, iN ws.length, iN ((5 * n1 + 5 * zi) + 5)] 96) :: u0 :: (rC m0 x5 38) :: x3 :: x8 :: (rC b1 x2 38) :: R)
    let F1 := fun (j0 : Nat) => (((some j0), qA PA 66 ([⟨ws.getD ((5 * n1 + 5 * zi) + 1) 0#64, ws.getD ((5 * n1 + 5 * zi) + 3) 0#64, (((ws.getD (5 * n1 + 5 * zi) 0#64) ^^^ (ws.getD ((5 * n1 + 5 * zi) + 1) 0#64)) &&& ((ws.getD ((5 * n1 + 5 * zi) + 2) 0#64) ^^^ (ws.getD ((5 * n1 + 5 * zi) + 3) 0#64))) ^^^ (ws.getD ((5 * n1 + 5 * zi) + 4) 0#64)⟩] : List Tr) ([])) : RW)
    let c3 := (g2 : RW)
    let k2 := ((rC h0 x6 114) : RW)
    let G1 := fun (j0 : Nat) => (Sl PA (some j0) ([⟨ws.getD ((5 * n1 + 5 * zi) + 1) 0#64, ws.getD ((5 * n1 + 5 * zi) + 3) 0#64, (((ws.getD (5 * n1 + 5 * zi) 0#64) ^^^ (ws.getD ((5 * n1 + 5 * zi) + 1) 0#64)) &&& ((ws.getD ((5 * n1 + 5 * zi) + 2) 0#64) ^^^ (ws.getD ((5 * n1 + 5 * zi) + 3) 0#64))) ^^^ (ws.getD ((5 * n1 + 5 * zi) + 4) 0#64)⟩] : List Tr) 1 ([]) : Prop)
    let L4 : mC := [RB false false false fun _ _ _ w' => Hp No w₀ w' (k2 :: c3 :: X0), RB true false false fun v27 _ _ w' => ∃ j0, v27 = sO (some j0) 1 1 ∧ (G1 j0) ∧ Hp No w₀ w' ((F1 j0) :: k2 :: c3 :: X0), RB true true false fun v27 v28 _ w' => ∃ j0 y0 I0 P0, v27 = sO (some j0) 1 1 ∧ v28 = sO y0 (zi + 1) I0 ∧ (G1 j0) ∧ Sl PA y0 (pA (lH ws) (5 * n1) (zi + 1)) I0 P0 ∧ Hp No w₀ w' ((F1 j0) :: k2 :: (y0, qA PA 66 (pA (lH ws) (5 * n1) (zi + 1)) P0) :: X0), RB true true true fun v27 v28 _ w' => ∃ j0 y0 I0 P0, v27 = sO (some j0) 1 1 ∧ v28 = sO y0 (zi + 1) I0 ∧ (G1 j0) ∧ Sl PA y0 (pA (lH ws) (5 * n1) (zi + 1)) I0 P0 ∧ Hp No w₀ w' ((F1 j0) :: (rC h0 #[sO kytb n1 cctb, sO y0 (zi + 1) I0, yA] 114) :: (y0, qA PA 66 (pA (lH ws) (5 * n1) (zi + 1)) P0) :: X0)]
    refine MA (m := 33) [0, 1, 0, 4, 12, 28, 60, 124, 0, 256, 0, 1024, 0, 4096, 0, 16384, 61440, 0, 131072, 0, 524288, 1966080, 4190208, 0, 8388608, 33550336, 67108608, 134217472, 268435452, 536870911, 1073741823, 2147483647, 4294967295] [27, 28, 32] X0 L4 BA (fun _ e => K4.ext e) EC (fun l2 => ?_)
    refine gk 27 ?_
    refine WalkT.eff l2 0 ?_ ?_
    ·refine tA fun r w0 uw hF hE => ?_
     have m7 := hF.ext hE
     exact gW fun Q' hK => (bS (E := PA) (l := ([⟨ws.getD ((5 * n1 + 5 * zi) + 1) 0#64, ws.getD ((5 * n1 + 5 * zi) + 3) 0#64, (((ws.getD (5 * n1 + 5 * zi) 0#64) ^^^ (ws.getD ((5 * n1 + 5 * zi) + 1) 0#64)) &&& ((ws.getD ((5 * n1 + 5 * zi) + 2) 0#64) ^^^ (ws.getD ((5 * n1 + 5 * zi) + 3) 0#64))) ^^^ (ws.getD ((5 * n1 + 5 * zi) + 4) 0#64)⟩] : List Tr)) fun M4 n7 N4 O4 o7 => hK _ _ (E_ M4 (A_ rfl (A_ N4 O4))))
    refine WalkT.eff l2 1 ?_ ?_
    ·refine tA fun r w0 uw hF hE => ?_
     obtain ⟨j0, s0, k1, d3⟩ := hF
     replace d3 := d3.ext hE
     dsimp only
     rw [s0]
     refine gW fun Q' hK => ?_
     refine OD ?_
     refine ⟨by rw [lB], by rfl, om, ?_⟩
     intro P4 Q4 R4 p7 S4 q7 T4
     have U4 : (pA (lH ws) (5 * n1) zi) ++ ([⟨ws.getD ((5 * n1 + 5 * zi) + 1) 0#64, ws.getD ((5 * n1 + 5 * zi) + 3) 0#64, (((ws.getD (5 * n1 + 5 * zi) 0#64) ^^^ (ws.getD ((5 * n1 + 5 * zi) + 1) 0#64)) &&& ((ws.getD ((5 * n1 + 5 * zi) + 2) 0#64) ^^^ (ws.getD ((5 * n1 + 5 * zi) + 3) 0#64))) ^^^ (ws.getD ((5 * n1 + 5 * zi) + 4) 0#64)⟩] : List Tr) = pA (lH ws) (5 * n1) (zi + 1) := by rw [vB]; rfl
     have e3 := S4
     have f3 := T4
     rw [U4] at e3 f3
     exact hK _ _ (E_ j0 (E_ P4 (E_ Q4 (E_ R4 (A_ s0 (A_ rfl (A_ k1 (A_ e3 f3))))))))
    refine gk 3 ?_
    refine WalkT.eff l2 2 ?_ ?_
    ·refine tA fun r w0 uw hF hE => ?_
     obtain ⟨j0, y0, I0, P0, s0, O0, k1, m2, g3⟩ := hF
     replace g3 := g3.ext hE
     dsimp only
     rw [O0]
     refine MC fun Q' hK => ?_
     refine go 1 ?_
     intro r7 V4 s7
     exact hK _ (fun _ => (E_ j0 (E_ y0 (E_ I0 (E_ P0 (A_ s0 (A_ O0 (A_ k1 (A_ m2 V4)))))))))
    refine WalkT.nil fun r w0 t7 hF hE => ?_
    obtain ⟨j0, y0, I0, P0, s0, O0, k1, m2, l1⟩ := hF
    replace l1 := l1.ext hE
    dsimp only
    rw [s0, O0]
    dsimp only [G1] at k1
    dsimp only [X0, F1] at l1
    refine go 2 ?_
    rw [show (5 * n1 + 5 * zi) + 5 = 5 * n1 + 5 * (zi + 1) by omega] at l1
    exact ⟨(zi + 1, o0, C0, H0, y0, I0, P0), _, rfl, kp, ⟨⟨om, j2, m2⟩, (l1.pk 13 [9, 4, 1, 10, 11, 5, 2, 12, 7, 8])⟩, vd⟩
   ·obtain rfl : n2 = zi := by omega
    let Y0 : RW := (kybb, qA PA 66 (pA (lH ws) (5 * n1) n2) zzbb)
    let x4 : RW := (kyba, qA PA 66 (pA (wD ws) (5 * n1) n2) zzba)
    refine go 2 ?_
    refine AA (σ := Nat × Option Nat × Nat × LV × Option Nat × Nat × LV) (fun (zi, kyoa, ccoa, zzoa, kyob, ccob, zzob) => [(0, pT b), (1, iN n1), (2, iN n2), (3, iN n3), (8, pT b1), (9, .nilIface), (12, pT m0), (173, iN n3), (174, iN zi)]) (fun (zi, kyoa, ccoa, zzoa, kyob, ccob, zzob) w' => (zi ≤ n3 ∧ Sl zB kyoa (pA (aH ws) (5 * (n1 + n2)) zi) ccoa zzoa ∧ Sl zB kyob (pA (TF ws) (5 * (n1 + n2)) zi) ccob zzob) ∧ Hp No w₀ w' ((rC m0 x5 38) :: (rC f0 #[sO kyta n1 ccta, sO kyba n2 ccba, sO kyoa zi ccoa] 114) :: (rC h0 #[sO kytb n1 cctb, sO kybb n2 ccbb, sO kyob zi ccob] 114) :: x3 :: x8 :: x4 :: Y0 :: (kyoa, qA zB 121 (pA (aH ws) (5 * (n1 + n2)) zi) zzoa) :: (kyob, qA zB 121 (pA (TF ws) (5 * (n1 + n2)) zi) zzob) :: (rC b1 x2 38) :: (rC b #[sO key ws.length c, .pointer none, iN ws.length, iN (5 * (n1 + n2) + 5 * zi)] 96) :: u0 :: R)) (fun (zi, kyoa, ccoa, zzoa, kyob, ccob, zzob) => n3 - zi) ((0, none, 0, [], none, 0, [])) ?_ ?_ ?_
    ·exact kp
    rw [show 5 * n1 + 5 * n2 = 5 * (n1 + n2) + 5 * 0 by omega] at f2
    ·exact ⟨⟨Nat.zero_le _, Sl.none, Sl.none⟩, (((f2.nil (qA zB 121 [] [])).nil (qA zB 121 [] [])).pk 12 [2, 3, 4, 5, 6, 7, 8, 1, 0, 9, 10, 11])⟩
    rintro ⟨zi, kyoa, ccoa, zzoa, kyob, ccob, zzob⟩ ρ W4 ⟨⟨hzi, hkyoa, hkyob⟩, h3⟩
    let o2 : RW := (kyoa, qA zB 121 (pA (aH ws) (5 * (n1 + n2)) zi) zzoa)
    let p2 : Array Value := #[e2, sO kyba n2 ccba, sO kyoa zi ccoa]
    let m1 : RW := (kyob, qA zB 121 (pA (TF ws) (5 * (n1 + n2)) zi) zzob)
    let x9 : Array Value := #[sO kytb n1 cctb, sO kybb n2 ccbb, sO kyob zi ccob]
    let x1 : Array Value := #[u64 (ws.getD (5 * (n1 + n2) + 5 * zi) 0#64), u64 (ws.getD ((5 * (n1 + n2) + 5 * zi) + 1) 0#64), u64 (ws.getD ((5 * (n1 + n2) + 5 * zi) + 2) 0#64), u64 (ws.getD ((5 * (n1 + n2) + 5 * zi) + 3) 0#64), .bool false]
    refine go 1 ?_
    refine iA (((zi : Nat) : Int) < (n3 : Nat)) rfl (fun c2 => ?_) (fun c2 => ?_)
    ·refine go 1 ?_
     have X4 := ((h3.pk 12 [10, 11, 0, 1, 2, 3, 4, 5, 6, 7, 8, 9])).b2 rfl
     refine cl (SJ b key c sp ws hSw hlen (5 * (n1 + n2) + 5 * zi) om ((rC m0 x5 38) :: (rC f0 p2 114) :: (rC h0 x9 114) :: x3 :: x8 :: x4 :: Y0 :: o2 :: m1 :: (rC b1 x2 38) :: R) w₀ W4 X4) ?_
     rintro _ u7 ⟨rfl, Y4⟩
     have y7 := Y4.b12 rfl
     refine go 1 ?_
     intro H1 z7 A7 B7 C7
     refine go 1 ?_
     intro D7 E7 F7
     refine go 13 ?_
     intro I1 G7 H7 I7 J7
     refine go 1 ?_
     intro K7 i3 L7
     refine go 0 ?_
     by_cases hodd : gt ws (5 * (n1 + n2) + 5 * zi + 4) &&& 1#64 = 1#64
     ·refine go 2 ?_
      refine sq ((qG (a := ws.getD ((5 * (n1 + n2) + 5 * zi) + 4) 0#64) (b := 1#64) rfl rfl).as (v' := u64 1#64) (by exact congrArg u64 hodd)) ?_
      refine go 1 ?_
      have Z4 := (i3.pk 14 [5, 11, 0, 1, 2, 3, 4, 6, 7, 8, 9, 10, 12, 13])
      let Z0 : List RW := ((rC I1 x1 121) :: (rX H1 E64 ([ws.getD (5 * (n1 + n2) + 5 * zi) 0#64, ws.getD ((5 * (n1 + n2) + 5 * zi) + 1) 0#64, ws.getD ((5 * (n1 + n2) + 5 * zi) + 2) 0#64, ws.getD ((5 * (n1 + n2) + 5 * zi) + 3) 0#64, ws.getD ((5 * (n1 + n2) + 5 * zi) + 4) 0#64]) 117) :: (rC b #[sO key ws.length c, .pointer none, iN ws.length, iN ((5 * (n1 + n2) + 5 * zi) + 5)] 96) :: u0 :: (rC m0 x5 38) :: (rC h0 x9 114) :: x3 :: x8 :: x4 :: Y0 :: m1 :: (rC b1 x2 38) :: R)
      let J1 := fun (d0 : Nat) => (((some d0), qA zB 121 ([⟨ws.getD (5 * (n1 + n2) + 5 * zi) 0#64, ws.getD ((5 * (n1 + n2) + 5 * zi) + 1) 0#64, ws.getD ((5 * (n1 + n2) + 5 * zi) + 2) 0#64, ws.getD ((5 * (n1 + n2) + 5 * zi) + 3) 0#64, false⟩] : List Ot) ([])) : RW)
      let j3 := (o2 : RW)
      let q2 := ((rC f0 p2 114) : RW)
      let K1 := fun (d0 : Nat) => (Sl zB (some d0) ([⟨ws.getD (5 * (n1 + n2) + 5 * zi) 0#64, ws.getD ((5 * (n1 + n2) + 5 * zi) + 1) 0#64, ws.getD ((5 * (n1 + n2) + 5 * zi) + 2) 0#64, ws.getD ((5 * (n1 + n2) + 5 * zi) + 3) 0#64, false⟩] : List Ot) 1 ([]) : Prop)
      let c5 : mC := [RB false false false fun _ _ _ w' => Hp No w₀ w' (q2 :: j3 :: Z0), RB true false false fun v9 _ _ w' => ∃ d0, v9 = sO (some d0) 1 1 ∧ (K1 d0) ∧ Hp No w₀ w' ((J1 d0) :: q2 :: j3 :: Z0), RB true true false fun v9 v10 _ w' => ∃ d0 p0 D0 J0, v9 = sO (some d0) 1 1 ∧ v10 = sO p0 (zi + 1) D0 ∧ (K1 d0) ∧ Sl zB p0 (pA (aH ws) (5 * (n1 + n2)) (zi + 1)) D0 J0 ∧ Hp No w₀ w' ((J1 d0) :: q2 :: (p0, qA zB 121 (pA (aH ws) (5 * (n1 + n2)) (zi + 1)) J0) :: Z0), RB true true true fun v9 v10 _ w' => ∃ d0 p0 D0 J0, v9 = sO (some d0) 1 1 ∧ v10 = sO p0 (zi + 1) D0 ∧ (K1 d0) ∧ Sl zB p0 (pA (aH ws) (5 * (n1 + n2)) (zi + 1)) D0 J0 ∧ Hp No w₀ w' ((J1 d0) :: (rC f0 #[sO kyta n1 ccta, sO kyba n2 ccba, sO p0 (zi + 1) D0] 114) :: (p0, qA zB 121 (pA (aH ws) (5 * (n1 + n2)) (zi + 1)) J0) :: Z0)]
      refine MA (m := 15) [0, 1, 0, 4, 12, 28, 60, 124, 0, 256, 1020, 2047, 4095, 8191, 16383] [9, 10, 14] Z0 c5 BA (fun _ e => Z4.ext e) EC (fun r2 => ?_)
      refine gk 9 ?_
      refine WalkT.eff r2 0 ?_ ?_
      ·refine tA fun r w0 uw hF hE => ?_
       have M7 := hF.ext hE
       exact gW fun Q' hK => (bS (E := zB) (l := ([⟨ws.getD (5 * (n1 + n2) + 5 * zi) 0#64, ws.getD ((5 * (n1 + n2) + 5 * zi) + 1) 0#64, ws.getD ((5 * (n1 + n2) + 5 * zi) + 2) 0#64, ws.getD ((5 * (n1 + n2) + 5 * zi) + 3) 0#64, false⟩] : List Ot)) fun d5 N7 e5 f5 O7 => hK _ _ (E_ d5 (A_ rfl (A_ e5 f5))))
      refine WalkT.eff r2 1 ?_ ?_
      ·refine tA fun r w0 uw hF hE => ?_
       obtain ⟨d0, e9, o1, k3⟩ := hF
       replace k3 := k3.ext hE
       dsimp only
       rw [e9]
       refine gW fun Q' hK => ?_
       refine OD ?_
       refine ⟨by rw [lB], by rfl, om, ?_⟩
       intro g5 h5 i5 P7 j5 Q7 k5
       have l5 : (pA (aH ws) (5 * (n1 + n2)) zi) ++ ([⟨ws.getD (5 * (n1 + n2) + 5 * zi) 0#64, ws.getD ((5 * (n1 + n2) + 5 * zi) + 1) 0#64, ws.getD ((5 * (n1 + n2) + 5 * zi) + 2) 0#64, ws.getD ((5 * (n1 + n2) + 5 * zi) + 3) 0#64, false⟩] : List Ot) = pA (aH ws) (5 * (n1 + n2)) (zi + 1) := by rw [vB]; rfl
       have l3 := j5
       have m3 := k5
       rw [l5] at l3 m3
       exact hK _ _ (E_ d0 (E_ g5 (E_ h5 (E_ i5 (A_ e9 (A_ rfl (A_ o1 (A_ l3 m3))))))))
      refine gk 3 ?_
      refine WalkT.eff r2 2 ?_ ?_
      ·refine tA fun r w0 uw hF hE => ?_
       obtain ⟨d0, p0, D0, J0, e9, Q0, o1, t2, o3⟩ := hF
       replace o3 := o3.ext hE
       dsimp only
       rw [Q0]
       refine MC fun Q' hK => ?_
       refine go 1 ?_
       intro R7 m5 S7
       exact hK _ (fun _ => (E_ d0 (E_ p0 (E_ D0 (E_ J0 (A_ e9 (A_ Q0 (A_ o1 (A_ t2 m5)))))))))
      refine WalkT.nil fun r w0 T7 hF hE => ?_
      obtain ⟨d0, p0, D0, J0, e9, Q0, o1, t2, L1⟩ := hF
      replace L1 := L1.ext hE
      dsimp only
      rw [e9, Q0]
      dsimp only [K1] at o1
      dsimp only [Z0, J1] at L1
      refine go 0 ?_
      have n5 := (L1.pk 15 [8, 13, 0, 1, 2, 3, 4, 5, 6, 7, 9, 10, 11, 12, 14])
      let c1 : List RW := (((some d0), qA zB 121 ([⟨ws.getD (5 * (n1 + n2) + 5 * zi) 0#64, ws.getD ((5 * (n1 + n2) + 5 * zi) + 1) 0#64, ws.getD ((5 * (n1 + n2) + 5 * zi) + 2) 0#64, ws.getD ((5 * (n1 + n2) + 5 * zi) + 3) 0#64, false⟩] : List Ot) ([])) :: (rC f0 #[sO kyta n1 ccta, sO kyba n2 ccba, sO p0 (zi + 1) D0] 114) :: (p0, qA zB 121 (pA (aH ws) (5 * (n1 + n2)) (zi + 1)) J0) :: (rC I1 x1 121) :: (rX H1 E64 ([ws.getD (5 * (n1 + n2) + 5 * zi) 0#64, ws.getD ((5 * (n1 + n2) + 5 * zi) + 1) 0#64, ws.getD ((5 * (n1 + n2) + 5 * zi) + 2) 0#64, ws.getD ((5 * (n1 + n2) + 5 * zi) + 3) 0#64, ws.getD ((5 * (n1 + n2) + 5 * zi) + 4) 0#64]) 117) :: (rC b #[sO key ws.length c, .pointer none, iN ws.length, iN ((5 * (n1 + n2) + 5 * zi) + 5)] 96) :: u0 :: (rC m0 x5 38) :: x3 :: x8 :: x4 :: Y0 :: (rC b1 x2 38) :: R)
      let M1 := fun (k0 : Nat) => (((some k0), qA zB 121 ([⟨ws.getD ((5 * (n1 + n2) + 5 * zi) + 2) 0#64, ws.getD ((5 * (n1 + n2) + 5 * zi) + 3) 0#64, 0#64, 0#64, true⟩] : List Ot) ([])) : RW)
      let p3 := (m1 : RW)
      let u2 := ((rC h0 x9 114) : RW)
      let N1 := fun (k0 : Nat) => (Sl zB (some k0) ([⟨ws.getD ((5 * (n1 + n2) + 5 * zi) + 2) 0#64, ws.getD ((5 * (n1 + n2) + 5 * zi) + 3) 0#64, 0#64, 0#64, true⟩] : List Ot) 1 ([]) : Prop)
      let o5 : mC := [RB false false false fun _ _ _ w' => Hp No w₀ w' (u2 :: p3 :: c1), RB true false false fun v16 _ _ w' => ∃ k0, v16 = sO (some k0) 1 1 ∧ (N1 k0) ∧ Hp No w₀ w' ((M1 k0) :: u2 :: p3 :: c1), RB true true false fun v16 v17 _ w' => ∃ k0 z0 K0 R0, v16 = sO (some k0) 1 1 ∧ v17 = sO z0 (zi + 1) K0 ∧ (N1 k0) ∧ Sl zB z0 (pA (TF ws) (5 * (n1 + n2)) (zi + 1)) K0 R0 ∧ Hp No w₀ w' ((M1 k0) :: u2 :: (z0, qA zB 121 (pA (TF ws) (5 * (n1 + n2)) (zi + 1)) R0) :: c1), RB true true true fun v16 v17 _ w' => ∃ k0 z0 K0 R0, v16 = sO (some k0) 1 1 ∧ v17 = sO z0 (zi + 1) K0 ∧ (N1 k0) ∧ Sl zB z0 (pA (TF ws) (5 * (n1 + n2)) (zi + 1)) K0 R0 ∧ Hp No w₀ w' ((M1 k0) :: (rC h0 #[sO kytb n1 cctb, sO kybb n2 ccbb, sO z0 (zi + 1) K0] 114) :: (z0, qA zB 121 (pA (TF ws) (5 * (n1 + n2)) (zi + 1)) R0) :: c1)]
      refine MA (m := 22) [0, 1, 0, 4, 12, 28, 60, 124, 0, 0, 768, 1792, 3840, 0, 8192, 32512, 65280, 131068, 262143, 524287, 1048575, 2097151] [16, 17, 21] c1 o5 BA (fun _ e => n5.ext e) EC (fun y2 => ?_)
      refine gk 11 ?_
      refine ZB (.agg (uA E64 [ws.getD ((5 * (n1 + n2) + 5 * zi) + 2) 0#64, ws.getD ((5 * (n1 + n2) + 5 * zi) + 3) 0#64]).toArray) (fun _ uw hcx => mB (cs' := (uA E64 [ws.getD ((5 * (n1 + n2) + 5 * zi) + 2) 0#64, ws.getD ((5 * (n1 + n2) + 5 * zi) + 3) 0#64]).toArray) vF vF (hcx.get (k := 3) rfl) (off := 2) rfl (by exact dB rfl) (by rfl)) ?_
      refine gk 2 ?_
      refine ZB (.bool true) (fun _ uw hcx => (VD (a := 1#64) (b := 1#64) rfl rfl).as (v' := .bool true) (by rfl)) ?_
      refine gk 1 ?_
      refine WalkT.eff y2 0 ?_ ?_
      ·refine tA fun r w0 uw hF hE => ?_
       have U7 := hF.ext hE
       exact gW fun Q' hK => (bS (E := zB) (l := ([⟨ws.getD ((5 * (n1 + n2) + 5 * zi) + 2) 0#64, ws.getD ((5 * (n1 + n2) + 5 * zi) + 3) 0#64, 0#64, 0#64, true⟩] : List Ot)) fun p5 V7 q5 r5 W7 => hK _ _ (E_ p5 (A_ rfl (A_ q5 r5))))
      refine WalkT.eff y2 1 ?_ ?_
      ·refine tA fun r w0 uw hF hE => ?_
       obtain ⟨k0, a0, p1, q3⟩ := hF
       replace q3 := q3.ext hE
       dsimp only
       rw [a0]
       refine gW fun Q' hK => ?_
       refine OD ?_
       refine ⟨by rw [lB], by rfl, om, ?_⟩
       intro s5 t5 u5 X7 w5 Y7 y5
       have z5 : (pA (TF ws) (5 * (n1 + n2)) zi) ++ ([⟨ws.getD ((5 * (n1 + n2) + 5 * zi) + 2) 0#64, ws.getD ((5 * (n1 + n2) + 5 * zi) + 3) 0#64, 0#64, 0#64, true⟩] : List Ot) = pA (TF ws) (5 * (n1 + n2)) (zi + 1) := by rw [vB, qT hodd]; rfl
       have r3 := w5
       have s3 := y5
       rw [z5] at r3 s3
       exact hK _ _ (E_ k0 (E_ s5 (E_ t5 (E_ u5 (A_ a0 (A_ rfl (A_ p1 (A_ r3 s3))))))))
      refine gk 3 ?_
      refine WalkT.eff y2 2 ?_ ?_
      ·refine tA fun r w0 uw hF hE => ?_
       obtain ⟨k0, z0, K0, R0, a0, S0, p1, z2, t3⟩ := hF
       replace t3 := t3.ext hE
       dsimp only
       rw [S0]
       refine MC fun Q' hK => ?_
       refine go 1 ?_
       intro Z7 A5 c8
       exact hK _ (fun _ => (E_ k0 (E_ z0 (E_ K0 (E_ R0 (A_ a0 (A_ S0 (A_ p1 (A_ z2 A5)))))))))
      refine WalkT.nil fun r w0 d8 hF hE => ?_
      obtain ⟨k0, z0, K0, R0, a0, S0, p1, z2, q1⟩ := hF
      replace q1 := q1.ext hE
      dsimp only
      rw [a0, S0]
      dsimp only [N1] at p1
      dsimp only [c1, M1] at q1
      refine BE ?_
      refine go 2 ?_
      rw [show (5 * (n1 + n2) + 5 * zi) + 5 = 5 * (n1 + n2) + 5 * (zi + 1) by omega] at q1
      exact ⟨(zi + 1, p0, D0, J0, z0, K0, R0), _, rfl, kp, ⟨⟨om, t2, z2⟩, (q1.pk 16 [10, 4, 1, 11, 12, 13, 14, 5, 2, 15, 8, 9])⟩, vd⟩
     ·refine go 0 ?_
      have hodd0 := (KR _).resolve_right hodd
      refine go 2 ?_
      refine sq ((qG (a := ws.getD ((5 * (n1 + n2) + 5 * zi) + 4) 0#64) (b := 1#64) rfl rfl).as (v' := u64 0#64) (by exact congrArg u64 hodd0)) ?_
      refine go 1 ?_
      have B5 := (i3.pk 14 [5, 11, 0, 1, 2, 3, 4, 6, 7, 8, 9, 10, 12, 13])
      let d1 : List RW := ((rC I1 x1 121) :: (rX H1 E64 ([ws.getD (5 * (n1 + n2) + 5 * zi) 0#64, ws.getD ((5 * (n1 + n2) + 5 * zi) + 1) 0#64, ws.getD ((5 * (n1 + n2) + 5 * zi) + 2) 0#64, ws.getD ((5 * (n1 + n2) + 5 * zi) + 3) 0#64, ws.getD ((5 * (n1 + n2) + 5 * zi) + 4) 0#64]) 117) :: (rC b #[sO key ws.length c, .pointer none, iN ws.length, iN ((5 * (n1 + n2) + 5 * zi) + 5)] 96) :: u0 :: (rC m0 x5 38) :: (rC h0 x9 114) :: x3 :: x8 :: x4 :: Y0 :: m1 :: (rC b1 x2 38) :: R)
      let O1 := fun (e0 : Nat) => (((some e0), qA zB 121 ([⟨ws.getD (5 * (n1 + n2) + 5 * zi) 0#64, ws.getD ((5 * (n1 + n2) + 5 * zi) + 1) 0#64, ws.getD ((5 * (n1 + n2) + 5 * zi) + 2) 0#64, ws.getD ((5 * (n1 + n2) + 5 * zi) + 3) 0#64, false⟩] : List Ot) ([])) : RW)
      let u3 := (o2 : RW)
      let A2 := ((rC f0 p2 114) : RW)
      let P1 := fun (e0 : Nat) => (Sl zB (some e0) ([⟨ws.getD (5 * (n1 + n2) + 5 * zi) 0#64, ws.getD ((5 * (n1 + n2) + 5 * zi) + 1) 0#64, ws.getD ((5 * (n1 + n2) + 5 * zi) + 2) 0#64, ws.getD ((5 * (n1 + n2) + 5 * zi) + 3) 0#64, false⟩] : List Ot) 1 ([]) : Prop)
      let C5 : mC := [RB false false false fun _ _ _ w' => Hp No w₀ w' (A2 :: u3 :: d1), RB true false false fun v9 _ _ w' => ∃ e0, v9 = sO (some e0) 1 1 ∧ (P1 e0) ∧ Hp No w₀ w' ((O1 e0) :: A2 :: u3 :: d1), RB true true false fun v9 v10 _ w' => ∃ e0 q0 E0 L0, v9 = sO (some e0) 1 1 ∧ v10 = sO q0 (zi + 1) E0 ∧ (P1 e0) ∧ Sl zB q0 (pA (aH ws) (5 * (n1 + n2)) (zi + 1)) E0 L0 ∧ Hp No w₀ w' ((O1 e0) :: A2 :: (q0, qA zB 121 (pA (aH ws) (5 * (n1 + n2)) (zi + 1)) L0) :: d1), RB true true true fun v9 v10 _ w' => ∃ e0 q0 E0 L0, v9 = sO (some e0) 1 1 ∧ v10 = sO q0 (zi + 1) E0 ∧ (P1 e0) ∧ Sl zB q0 (pA (aH ws) (5 * (n1 + n2)) (zi + 1)) E0 L0 ∧ Hp No w₀ w' ((O1 e0) :: (rC f0 #[sO kyta n1 ccta, sO kyba n2 ccba, sO q0 (zi + 1) E0] 114) :: (q0, qA zB 121 (pA (aH ws) (5 * (n1 + n2)) (zi + 1)) L0) :: d1)]
      refine MA (m := 15) [0, 1, 0, 4, 12, 28, 60, 124, 0, 256, 1020, 2047, 4095, 8191, 16383] [9, 10, 14] d1 C5 BA (fun _ e => B5.ext e) EC (fun B2 => ?_)
      refine gk 9 ?_
      refine WalkT.eff B2 0 ?_ ?_
      ·refine tA fun r w0 uw hF hE => ?_
       have e8 := hF.ext hE
       exact gW fun Q' hK => (bS (E := zB) (l := ([⟨ws.getD (5 * (n1 + n2) + 5 * zi) 0#64, ws.getD ((5 * (n1 + n2) + 5 * zi) + 1) 0#64, ws.getD ((5 * (n1 + n2) + 5 * zi) + 2) 0#64, ws.getD ((5 * (n1 + n2) + 5 * zi) + 3) 0#64, false⟩] : List Ot)) fun D5 f8 E5 F5 g8 => hK _ _ (E_ D5 (A_ rfl (A_ E5 F5))))
      refine WalkT.eff B2 1 ?_ ?_
      ·refine tA fun r w0 uw hF hE => ?_
       obtain ⟨e0, e9, r1, w3⟩ := hF
       replace w3 := w3.ext hE
       dsimp only
       rw [e9]
       refine gW fun Q' hK => ?_
       refine OD ?_
       refine ⟨by rw [lB], by rfl, om, ?_⟩
       intro G5 H5 I5 h8 J5 j8 K5
       have L5 : (pA (aH ws) (5 * (n1 + n2)) zi) ++ ([⟨ws.getD (5 * (n1 + n2) + 5 * zi) 0#64, ws.getD ((5 * (n1 + n2) + 5 * zi) + 1) 0#64, ws.getD ((5 * (n1 + n2) + 5 * zi) + 2) 0#64, ws.getD ((5 * (n1 + n2) + 5 * zi) + 3) 0#64, false⟩] : List Ot) = pA (aH ws) (5 * (n1 + n2)) (zi + 1) := by rw [vB]; rfl
       have y3 := J5
       have z3 := K5
       rw [L5] at y3 z3
       exact hK _ _ (E_ e0 (E_ G5 (E_ H5 (E_ I5 (A_ e9 (A_ rfl (A_ r1 (A_ y3 z3))))))))
      refine gk 3 ?_
      refine WalkT.eff B2 2 ?_ ?_
      ·refine tA fun r w0 uw hF hE => ?_
       obtain ⟨e0, q0, E0, L0, e9, Q0, r1, C2, A3⟩ := hF
       replace A3 := A3.ext hE
       dsimp only
       rw [Q0]
       refine MC fun Q' hK => ?_
       refine go 1 ?_
       intro k8 M5 l8
       exact hK _ (fun _ => (E_ e0 (E_ q0 (E_ E0 (E_ L0 (A_ e9 (A_ Q0 (A_ r1 (A_ C2 M5)))))))))
      refine WalkT.nil fun r w0 m8 hF hE => ?_
      obtain ⟨e0, q0, E0, L0, e9, Q0, r1, C2, Q1⟩ := hF
      replace Q1 := Q1.ext hE
      dsimp only
      rw [e9, Q0]
      dsimp only [P1] at r1
      dsimp only [d1, O1] at Q1
      refine go 0 ?_
      have N5 := (Q1.pk 15 [8, 13, 0, 1, 2, 3, 4, 5, 6, 7, 9, 10, 11, 12, 14])
      let e1 : List RW := (((some e0), qA zB 121 ([⟨ws.getD (5 * (n1 + n2) + 5 * zi) 0#64, ws.getD ((5 * (n1 + n2) + 5 * zi) + 1) 0#64, ws.getD ((5 * (n1 + n2) + 5 * zi) + 2) 0#64, ws.getD ((5 * (n1 + n2) + 5 * zi) + 3) 0#64, false⟩] : List Ot) ([])) :: (rC f0 #[sO kyta n1 ccta, sO kyba n2 ccba, sO q0 (zi + 1) E0] 114) :: (q0, qA zB 121 (pA (aH ws) (5 * (n1 + n2)) (zi + 1)) L0) :: (rC I1 x1 121) :: (rX H1 E64 ([ws.getD (5 * (n1 + n2) + 5 * zi) 0#64, ws.getD ((5 * (n1 + n2) + 5 * zi) + 1) 0#64, ws.getD ((5 * (n1 + n2) + 5 * zi) + 2) 0#64, ws.getD ((5 * (n1 + n2) + 5 * zi) + 3) 0#64, ws.getD ((5 * (n1 + n2) + 5 * zi) + 4) 0#64]) 117) :: (rC b #[sO key ws.length c, .pointer none, iN ws.length, iN ((5 * (n1 + n2) + 5 * zi) + 5)] 96) :: u0 :: (rC m0 x5 38) :: x3 :: x8 :: x4 :: Y0 :: (rC b1 x2 38) :: R)
      let R1 := fun (l0 : Nat) => (((some l0), qA zB 121 ([⟨ws.getD (5 * (n1 + n2) + 5 * zi) 0#64, ws.getD ((5 * (n1 + n2) + 5 * zi) + 1) 0#64, 0#64, 0#64, false⟩] : List Ot) ([])) : RW)
      let B3 := (m1 : RW)
      let D2 := ((rC h0 x9 114) : RW)
      let S1 := fun (l0 : Nat) => (Sl zB (some l0) ([⟨ws.getD (5 * (n1 + n2) + 5 * zi) 0#64, ws.getD ((5 * (n1 + n2) + 5 * zi) + 1) 0#64, 0#64, 0#64, false⟩] : List Ot) 1 ([]) : Prop)
      let O5 : mC := [RB false false false fun _ _ _ w' => Hp No w₀ w' (D2 :: B3 :: e1), RB true false false fun v16 _ _ w' => ∃ l0, v16 = sO (some l0) 1 1 ∧ (S1 l0) ∧ Hp No w₀ w' ((R1 l0) :: D2 :: B3 :: e1), RB true true false fun v16 v17 _ w' => ∃ l0 A0 M0 T0, v16 = sO (some l0) 1 1 ∧ v17 = sO A0 (zi + 1) M0 ∧ (S1 l0) ∧ Sl zB A0 (pA (TF ws) (5 * (n1 + n2)) (zi + 1)) M0 T0 ∧ Hp No w₀ w' ((R1 l0) :: D2 :: (A0, qA zB 121 (pA (TF ws) (5 * (n1 + n2)) (zi + 1)) T0) :: e1), RB true true true fun v16 v17 _ w' => ∃ l0 A0 M0 T0, v16 = sO (some l0) 1 1 ∧ v17 = sO A0 (zi + 1) M0 ∧ (S1 l0) ∧ Sl zB A0 (pA (TF ws) (5 * (n1 + n2)) (zi + 1)) M0 T0 ∧ Hp No w₀ w' ((R1 l0) :: (rC h0 #[sO kytb n1 cctb, sO kybb n2 ccbb, sO A0 (zi + 1) M0] 114) :: (A0, qA zB 121 (pA (TF ws) (5 * (n1 + n2)) (zi + 1)) T0) :: e1)]
      refine MA (m := 22) [0, 1, 0, 4, 12, 28, 60, 124, 0, 0, 768, 1792, 3840, 0, 8192, 32512, 65280, 131068, 262143, 524287, 1048575, 2097151] [16, 17, 21] e1 O5 BA (fun _ e => N5.ext e) EC (fun E2 => ?_)
      refine gk 11 ?_
      refine ZB (.agg (uA E64 [ws.getD (5 * (n1 + n2) + 5 * zi) 0#64, ws.getD ((5 * (n1 + n2) + 5 * zi) + 1) 0#64]).toArray) (fun _ uw hcx => mB (cs' := (uA E64 [ws.getD (5 * (n1 + n2) + 5 * zi) 0#64, ws.getD ((5 * (n1 + n2) + 5 * zi) + 1) 0#64]).toArray) vF vF (hcx.get (k := 3) rfl) (off := 0) rfl (by exact dB rfl) (by rfl)) ?_
      refine gk 2 ?_
      refine ZB (.bool false) (fun _ uw hcx => (VD (a := 0#64) (b := 1#64) rfl rfl).as (v' := .bool false) (by rfl)) ?_
      refine gk 1 ?_
      refine WalkT.eff E2 0 ?_ ?_
      ·refine tA fun r w0 uw hF hE => ?_
       have n8 := hF.ext hE
       exact gW fun Q' hK => (bS (E := zB) (l := ([⟨ws.getD (5 * (n1 + n2) + 5 * zi) 0#64, ws.getD ((5 * (n1 + n2) + 5 * zi) + 1) 0#64, 0#64, 0#64, false⟩] : List Ot)) fun P5 o8 Q5 R5 p8 => hK _ _ (E_ P5 (A_ rfl (A_ Q5 R5))))
      refine WalkT.eff E2 1 ?_ ?_
      ·refine tA fun r w0 uw hF hE => ?_
       obtain ⟨l0, a0, t1, C3⟩ := hF
       replace C3 := C3.ext hE
       dsimp only
       rw [a0]
       refine gW fun Q' hK => ?_
       refine OD ?_
       refine ⟨by rw [lB], by rfl, om, ?_⟩
       intro S5 T5 U5 q8 V5 r8 W5
       have X5 : (pA (TF ws) (5 * (n1 + n2)) zi) ++ ([⟨ws.getD (5 * (n1 + n2) + 5 * zi) 0#64, ws.getD ((5 * (n1 + n2) + 5 * zi) + 1) 0#64, 0#64, 0#64, false⟩] : List Ot) = pA (TF ws) (5 * (n1 + n2)) (zi + 1) := by rw [vB, rT hodd]; rfl
       have D3 := V5
       have E3 := W5
       rw [X5] at D3 E3
       exact hK _ _ (E_ l0 (E_ S5 (E_ T5 (E_ U5 (A_ a0 (A_ rfl (A_ t1 (A_ D3 E3))))))))
      refine gk 3 ?_
      refine WalkT.eff E2 2 ?_ ?_
      ·refine tA fun r w0 uw hF hE => ?_
       obtain ⟨l0, A0, M0, T0, a0, S0, t1, F2, F3⟩ := hF
       replace F3 := F3.ext hE
       dsimp only
       rw [S0]
       refine MC fun Q' hK => ?_
       refine go 1 ?_
       intro s8 Y5 t8
       exact hK _ (fun _ => (E_ l0 (E_ A0 (E_ M0 (E_ T0 (A_ a0 (A_ S0 (A_ t1 (A_ F2 Y5)))))))))
      refine WalkT.nil fun r w0 w8 hF hE => ?_
      obtain ⟨l0, A0, M0, T0, a0, S0, t1, F2, u1⟩ := hF
      replace u1 := u1.ext hE
      dsimp only
      rw [a0, S0]
      dsimp only [S1] at t1
      dsimp only [e1, R1] at u1
      refine go 2 ?_
      rw [show (5 * (n1 + n2) + 5 * zi) + 5 = 5 * (n1 + n2) + 5 * (zi + 1) by omega] at u1
      exact ⟨(zi + 1, q0, E0, L0, A0, M0, T0), _, rfl, kp, ⟨⟨om, C2, F2⟩, (u1.pk 16 [10, 4, 1, 11, 12, 13, 14, 5, 2, 15, 8, 9])⟩, vd⟩
    ·obtain rfl : n3 = zi := by omega
     refine go 0 ?_
     refine sq (mB (cs' := x5) vF vF (h3.get (k := 0) rfl) (off := 0) rfl (by exact dB rfl) (by rfl)) ?_
     refine go 1 ?_
     intro y8 Z5 z8
     refine go 1 ?_
     refine ⟨_, rfl, f0, h0, ⟨SK kyta ccta zzta (pA (wD ws) 0 n1), SK kyba ccba zzba (pA (wD ws) (5 * n1) n2), SK kyoa ccoa zzoa (pA (aH ws) (5 * (n1 + n2)) n3)⟩, ⟨SK kytb cctb zztb (pA (mH ws) 0 n1), SK kybb ccbb zzbb (pA (lH ws) (5 * n1) n2), SK kyob ccob zzob (pA (TF ws) (5 * (n1 + n2)) n3)⟩, rfl, ⟨FF hkyta, FF hkyba, FF hkyoa⟩, ⟨FF hkytb, FF hkybb, FF hkyob⟩, ⟨rfl, rfl, rfl, rfl, rfl, rfl⟩, ?_⟩
     unfold EA Sk.ob SK
     dsimp only
     simp only [lB]
     exact (Z5.pk 12 [1, 3, 5, 7, 2, 4, 6, 8, 10, 11])
end Go.Proofs.YtohngnahcgbfmaaGreatDoor.Co
namespace Go.Proofs.YtohngnahcgbfmaaGreatDoor.Mi
open Go Vc Er Ek Circ
theorem dJ : OA Tryz.prog 83 = true := by kernel_rfl
theorem GT : ZF Tryz.prog 91 = some 80 := by kernel_rfl
theorem sM : TB Tryz.prog 91 0 = some (0, 1, 34) := by kernel_rfl
theorem KO : UB Tryz.prog 66 = some 3 := by kernel_rfl
theorem GI : UB Tryz.prog 83 = some 2 := by kernel_rfl
theorem iT : eD Tryz.prog 80 = some (91, 6) := by kernel_rfl
theorem yI : YB Tryz.prog 83 = some (.agg (List.replicate 2 (.int .u64 0)).toArray) := by kernel_rfl
theorem YS : YB Tryz.prog 91 = some (.agg #[.int .u64 0, .int .u64 0, .int .u64 0, .int .u64 0, yA, yA]) := by kernel_rfl
end Go.Proofs.YtohngnahcgbfmaaGreatDoor.Mi
namespace Go.Proofs.YtohngnahcgbfmaaGreatDoor.Mi
open Go Vc Er Ek Circ
theorem BQ : jD Tryz.prog 24 = some (2, 1) := by kernel_rfl
theorem KT : jD Tryz.prog 87 = some (2, 1) := by kernel_rfl
theorem JT : jD Tryz.prog 92 = some (2, 6) := by kernel_rfl
theorem eM : NA Tryz.prog 23 = true := by kernel_rfl
end Go.Proofs.YtohngnahcgbfmaaGreatDoor.Mi
namespace Go.Proofs.YtohngnahcgbfmaaGreatDoor.Ek
open Go Vc Er
theorem AE (e at1 : Int) (k lo : Nat) (nm : ByteArray) (v : Value) (w : World) (hG : Gl w) (hEr : Er lo w e (k + 1) v) (hk : k + 2 ≤ 64) : Calls Tryz.prog 22 [v, .string nm, i64 at1].toArray w (NM fun r w' => (∃ b, r = .iface 122 (pT b) ∧ w.heap.size ≤ b ∧ w'.heap[b]? = some (.cells #[.string nm, i64 at1, i64 ((k + 2 : Nat) : Int), v] 126 (0, 0))) ∧ Ext w w') := by
 have e0 := hEr
 obtain ⟨b, nm1, at2, v1, rfl, hlb, hb, f0⟩ := hEr
 have H := Hp.start No w
 refine enter (n := 29) Tryz.func22 rfl rfl (dB rfl) ?_
 refine go 5 ?_
 intro b1 w2 h0 H3 i0
 refine go 1 ?_
 refine sq (wJ vF (xv := pT b1) rfl) (cl (CS b b1 w2 uC (by have := hG.lt; have := (H3.own _ (List.mem_of_getElem? (i := 0) rfl) _ rfl).resolve_left (fun h => h); omega) gF) ?_)
 rintro _ w5 ⟨rfl, c0, d0⟩
 have H9 := (H3.set (k := 0) rfl c0 d0).a1 rfl
 refine go 4 ?_
 refine sq ((aB rfl rfl om).as (v' := iN (k + 1 + 1)) (by rfl)) ?_
 refine go 2 ?_
 refine sq ((UC rfl rfl).as (v' := .bool false) (by exact bF (om))) ?_
 refine go 6 ?_
 intro b0 j0 k0 a0 l0
 refine sq (wJ vF (xv := pT b0) rfl) ?_
 refine go 1 ?_
 exact ⟨_, rfl, ⟨b0, rfl, (a0.own _ (List.mem_of_getElem? (i := 0) rfl) _ rfl).resolve_left (fun h => h), a0.get (k := 0) rfl⟩, a0.chg⟩
end Go.Proofs.YtohngnahcgbfmaaGreatDoor.Ek
namespace Go.Proofs.YtohngnahcgbfmaaGreatDoor.Vc
open Go
theorem PL {α : Type} : ∀ (n m : Nat) (L : List α), n ≤ m → (L.take n ++ L.drop m).Sublist L
 | 0, m, L, _ => by simpa using List.drop_sublist m L
 | n + 1, 0, _, h => by omega
 | _ + 1, _ + 1, [], _ => by simp
 | n + 1, m + 1, a :: L, h => by simpa using PL n m L om
theorem Hp.lrk {M : Nat → Prop} {w₀ w : World} {L : List RW} (H : Hp M w₀ w L) (n m : Nat) (h : n ≤ m) : Hp M w₀ w (L.take n ++ L.drop m) := H.sub (PL n m L h)
theorem Hp.rgt {M : Nat → Prop} {w₀ w : World} {A R : List RW} (H : Hp M w₀ w (A ++ R)) : Hp M w₀ w R := H.sub (List.sublist_append_right _ _)
theorem Hp.lr {M : Nat → Prop} {w₀ w : World} {A B R : List RW} (H : Hp M w₀ w (A ++ (B ++ R))) : Hp M w₀ w (A ++ R) := H.sub ((List.sublist_append_right B R).append_left A)
theorem lL {P : Program} {f : Nat} {l : Array Value} {w : World} {A : Prop} {p q : Value → World → Prop} (h : Calls P f l w (NM fun v w' => (A ∧ p v w') ∨ (¬ A ∧ q v w'))) (ha : A) : Calls P f l w (NM p) :=
 h.mono fun _ _ ⟨v, he, h⟩ => ⟨v, he, h.elim (fun h => h.2) (fun h => absurd ha h.1)⟩
theorem nN {P : Program} {f : Nat} {l : Array Value} {w : World} {A : Prop} {p q : Value → World → Prop} (h : Calls P f l w (NM fun v w' => (A ∧ p v w') ∨ (¬ A ∧ q v w'))) (ha : ¬ A) : Calls P f l w (NM q) :=
 h.mono fun _ _ ⟨v, he, h⟩ => ⟨v, he, h.elim (fun h => absurd h.1 ha) (fun h => h.2)⟩
end Go.Proofs.YtohngnahcgbfmaaGreatDoor.Vc
namespace Go.Proofs.YtohngnahcgbfmaaGreatDoor
open Go Vc
def yV (F : List RW) (e : Int) (k : Nat) (v : Value) : Prop := ∀ w, (∀ p ∈ F, ∀ b, p.1 = some b → w.heap[b]? = some p.2) → Vc.Er 0 w e k v
end Go.Proofs.YtohngnahcgbfmaaGreatDoor
namespace Go.Proofs.YtohngnahcgbfmaaGreatDoor.Mu
open Go Vc Er Ek Circ Mi
open Co Cm
theorem dJ : OA Tryz.prog 83 = true := by kernel_rfl
theorem HT : ZF Tryz.prog 83 = some 16 := by kernel_rfl
theorem tQ : mA Tryz.prog 36 = true := by kernel_rfl
theorem IK : xI Tryz.prog 31 = true := by kernel_rfl
theorem BA : Tryz.prog.follows .mixedOrders = true := by kernel_rfl
theorem sT : NA Tryz.prog 40 = true := by kernel_rfl
theorem aW : NA Tryz.prog 89 = true := by kernel_rfl
theorem jT : UB Tryz.prog 40 = some 1 := by kernel_rfl
theorem GI : UB Tryz.prog 83 = some 2 := by kernel_rfl
theorem RV : UB Tryz.prog 89 = some 1 := by kernel_rfl
theorem GO : eD Tryz.prog 40 = some (121, 5) := by kernel_rfl
theorem fT : eD Tryz.prog 89 = some (83, 2) := by kernel_rfl
theorem yI : YB Tryz.prog 83 = some (.agg (List.replicate 2 (.int .u64 0)).toArray) := by kernel_rfl
theorem ZI (o : Mo) (me : Nat) (hme : me ≤ 1) (j : Nat) (kd : Option Nat) (cd : Nat) (sd : LV) (ds : List Dr) (hSd : Sl IB kd ds cd sd) (hj : j < ds.length) (hz : ds.getD j JB = JB) (tb : Nat) (tk : Option Nat) (tc : Nat) (ts : LV) (ws : List (BitVec 64)) (hSw : Sl E64 tk ws tc ts) (hwl : ws.length ≤ 140737488355328) (sb : Nat) (st : Sk) (hst : st.ok) (R : List RW) (w₀ w : World) (u n2 : Nat) (hn2 : n2 = if me = 0 then 128 * qB o else 0) (hol : (64 * qB o) ≤ st.o.l.length) (hul : u ≤ ws.length) (hG : Gl w₀) (H : Hp No w₀ w ((kd, qA IB 91 ds sd) :: (rC tb #[sO tk ws.length tc, .pointer none, iN ws.length, iN u] 96) :: (tk, qA E64 34 ws ts) :: (EA 66 121 114 sb st ++ R))) : Ca 48 [.pointer (oC (sA kd) (j * 6)), .agg #[i64 (o.kd), i64 (o.a), i64 (o.b), i64 (o.k), u64 (o.c), i64 (o.pt)], iN me, pT tb, pT sb] w fun v w' => (u + 2 * n2 ≤ ws.length ∧ ∃ (dd : Dr) (G : List RW) (s' : Sk), v = .nilIface ∧ dd.w = 0#64 ∧ dd.t = tr0 ∧ Kp zB 121 G ((st.o.l).take (64 * qB o)) dd.os ∧ (me = 0 → Kp bB 83 G (sH ws u n2) dd.zs) ∧ Sl IB kd (ds.set j dd) cd sd ∧ s'.ok ∧ s'.t.l = st.t.l ∧ s'.b.l = st.b.l ∧ s'.o.l = st.o.l.drop (64 * qB o) ∧ Hp No w₀ w' ((kd, qA IB 91 (ds.set j dd) sd) :: (rC tb #[sO tk ws.length tc, .pointer none, iN ws.length, iN (u + 2 * n2)] 96) :: (tk, qA E64 34 ws ts) :: (EA 66 121 114 sb s' ++ (G ++ R)))) ∨ (¬ (u + 2 * n2 ≤ ws.length) ∧ ∃ b nm at', v = .iface 122 (pT b) ∧ Hp No w₀ w' ((rC b #[.string nm, i64 at', iN (0 + 1), .iface 63 (i64 40)] 126) :: R)) := by
 let A0 : Value := sO tk ws.length tc
 let x8 : RW := (tk, qA E64 34 ws ts)
 let x6 : Array Value := #[A0, .pointer none, iN ws.length, iN u]
 let x4 : Array Value := #[i64 (o.kd), i64 (o.a), i64 (o.b), i64 (o.k), u64 (o.c), i64 (o.pt)]
 let x3 : Value := .pointer (oC (sA kd) (j * 6))
 have hkd : (oC (sA kd) (j * 6)).isSome = true := by
  obtain ⟨g, rfl⟩ := hSd.some om
  rfl
 have hog := YH o
 have hn2i : ((128 * qB o : Nat) : Int) * ((1 : Int) - ((me : Nat) : Int)) = ((n2 : Nat) : Int) := by
  rcases (show me = 0 ∨ me = 1 by omega) with rfl | rfl
  ·rw [hn2, if_pos rfl]; simp
  ·rw [hn2, if_neg (by decide)]; simp
 have hn2b : n2 ≤ 256 := by rw [hn2]; split <;> omega
 refine enter (n := 66) Tryz.func48 rfl rfl (dB rfl) ?_
 refine go 1 ?_
 intro b1 w2 l2 H3 m2
 refine go 2 ?_
 refine cl (rG o w2) ?_
 rintro _ w5 ⟨rfl, X0⟩
 have H7 := H3.ext X0
 refine sq ((KB rfl rfl om).as (v' := iN (64 * qB o)) (by exact congrArg i64 (by push_cast; rfl))) ?_
 refine go 1 ?_
 refine AA (σ := Nat × Option Nat × Nat × LV × Sk) (fun (i, ko, co, so, s1) => [(0, .pointer (oC (sA kd) (j * 6))), (2, iN me), (3, pT tb), (4, pT sb), (6, pT b1), (10, .nilIface), (17, iN (64 * qB o)), (18, iN i)]) (fun (i, ko, co, so, s1) w' => (i ≤ (64 * qB o) ∧ Sl IB kd (ds.set j (⟨0#64, tr0, ⟨sA ko, i, co⟩, NH⟩ : Dr)) cd sd ∧ Sl zB ko ((st.o.l).take i) co so ∧ s1.ok ∧ s1.t.l = st.t.l ∧ s1.b.l = st.b.l ∧ s1.o.l = st.o.l.drop i) ∧ Hp No w₀ w' ((kd, qA IB 91 (ds.set j (⟨0#64, tr0, ⟨sA ko, i, co⟩, NH⟩ : Dr)) sd) :: (rC tb x6 96) :: x8 :: (rC b1 x4 36) :: (ko, qA zB 121 ((st.o.l).take i) so) :: (EA 66 121 114 sb s1 ++ R))) (fun (i, ko, co, so, s1) => (64 * qB o) - i) ((0, none, 0, [], st)) ?_ ?_ ?_
 ·exact kp
 have J0 : ds = ds.set j (⟨0#64, tr0, ⟨sA none, 0, 0⟩, NH⟩ : Dr) := OO hj hz
 have H8 := ((H7.nil (qA zB 121 ((st.o.l).take 0) [])).pk 5 [2, 3, 4, 1, 0]).as (L' := (_ :: _ :: _ :: _ :: _ :: (EA 66 121 114 sb st ++ R))) rfl
 have Y0 : Sl IB kd (ds.set j (⟨0#64, tr0, ⟨sA none, 0, 0⟩, NH⟩ : Dr)) cd sd := by rw [← J0]; exact hSd
 have H9 := H8.as (L' := ((kd, qA IB 91 (ds.set j (⟨0#64, tr0, ⟨sA none, 0, 0⟩, NH⟩ : Dr)) sd) :: (rC tb #[sO tk ws.length tc, .pointer none, iN ws.length, iN u] 96) :: (tk, qA E64 34 ws ts) :: (rC b1 #[i64 (o.kd), i64 (o.a), i64 (o.b), i64 (o.k), u64 (o.c), i64 (o.pt)] 36) :: (none, qA zB 121 ((st.o.l).take 0) ([])) :: (EA 66 121 114 sb st ++ R))) (by rw [← J0])
 ·exact ⟨⟨Nat.zero_le _, Y0, Sl.none, hst, rfl, rfl, rfl⟩, H9⟩
 rintro ⟨i, ko, co, so, s1⟩ ρ K0 ⟨⟨hq, p0, hSo, hs1k, hs1t, hs1b, hs1o⟩, HL⟩
 let x9 : RW := (ko, qA zB 121 ((st.o.l).take i) so)
 let x7 : RW := (kd, qA IB 91 (ds.set j (⟨0#64, tr0, ⟨sA ko, i, co⟩, NH⟩ : Dr)) sd)
 let x5 : RW := (ko, qA zB 121 ((st.o.l).take (64 * qB o)) so)
 let x1 : List RW := [x7, (rC tb x6 96), x8, (rC b1 x4 36), x9]
 refine go 1 ?_
 refine iA (((i : Nat) : Int) < ((64 * qB o) : Nat)) rfl (fun Z0 => ?_) (fun Z0 => ?_)
 ·refine go 1 ?_
  have c1 := (Hp.midQ (X := x1) (A := EA 66 121 114 sb s1) (Y := R) HL).as (L' := EA 66 121 114 sb s1 ++ (x1 ++ R)) rfl
  refine cl (Co.WM sb s1 hs1k (x1 ++ R) w₀ K0 c1 (by rw [hs1o, List.length_drop]; omega)) ?_
  rintro _ o2 ⟨rfl, o0, d1, e1, g1, h1, i1⟩
  have p2 := (Hp.midQ (X := EA 66 121 114 sb o0) (A := x1) (Y := R) d1).as (L' := (_ :: _ :: _ :: _ :: _ :: (EA 66 121 114 sb o0 ++ R))) rfl
  refine go 4 ?_
  intro j1 q2 r2 s2 t2
  refine go 1 ?_
  intro u2 k1 y2
  refine go 3 ?_
  have l1 := (k1.pk 6 [1, 5, 0, 2, 3, 4])
  let j0 : List RW := ((rC j1 #[u64 (((s1.o.l).getD 0 eB).p), u64 (((s1.o.l).getD 0 eB).q), u64 (((s1.o.l).getD 0 eB).r), u64 (((s1.o.l).getD 0 eB).s), .bool (((s1.o.l).getD 0 eB).ch)] 121) :: (rC tb x6 96) :: x8 :: (rC b1 x4 36) :: (EA 66 121 114 sb o0 ++ R))
  let q0 := fun (a0 : Nat) => (((some a0), qA zB 121 ([⟨((s1.o.l).getD 0 eB).p, ((s1.o.l).getD 0 eB).q, ((s1.o.l).getD 0 eB).r, ((s1.o.l).getD 0 eB).s, ((s1.o.l).getD 0 eB).ch⟩] : List Ot) ([])) : RW)
  let B0 := (x7 : RW)
  let r0 := fun (a0 : Nat) => (Sl zB (some a0) ([⟨((s1.o.l).getD 0 eB).p, ((s1.o.l).getD 0 eB).q, ((s1.o.l).getD 0 eB).r, ((s1.o.l).getD 0 eB).s, ((s1.o.l).getD 0 eB).ch⟩] : List Ot) 1 ([]) : Prop)
  let m1 : mC := [RB false false false fun _ _ _ w' => Hp No w₀ w' (B0 :: x9 :: j0), RB true false false fun v6 _ _ w' => ∃ a0, v6 = sO (some a0) 1 1 ∧ (r0 a0) ∧ Hp No w₀ w' ((q0 a0) :: B0 :: x9 :: j0), RB true true false fun v6 v7 _ w' => ∃ a0 c0 e0 h0, v6 = sO (some a0) 1 1 ∧ v7 = sO c0 (i + 1) e0 ∧ (r0 a0) ∧ Sl zB c0 ((st.o.l).take (i + 1)) e0 h0 ∧ Hp No w₀ w' ((q0 a0) :: B0 :: (c0, qA zB 121 ((st.o.l).take (i + 1)) h0) :: j0), RB true true true fun v6 v7 _ w' => ∃ a0 c0 e0 h0, v6 = sO (some a0) 1 1 ∧ v7 = sO c0 (i + 1) e0 ∧ (r0 a0) ∧ Sl IB kd ((ds.set j (⟨0#64, tr0, ⟨sA ko, i, co⟩, NH⟩ : Dr)).set j ({ (ds.set j (⟨0#64, tr0, ⟨sA ko, i, co⟩, NH⟩ : Dr)).getD j JB with os := ⟨sA c0, i + 1, e0⟩ } : Dr)) cd sd ∧ Sl zB c0 ((st.o.l).take (i + 1)) e0 h0 ∧ Hp No w₀ w' ((q0 a0) :: (kd, qA IB 91 ((ds.set j (⟨0#64, tr0, ⟨sA ko, i, co⟩, NH⟩ : Dr)).set j ({ (ds.set j (⟨0#64, tr0, ⟨sA ko, i, co⟩, NH⟩ : Dr)).getD j JB with os := ⟨sA c0, i + 1, e0⟩ } : Dr)) sd) :: (c0, qA zB 121 ((st.o.l).take (i + 1)) h0) :: j0)]
  refine MA (m := 11) [0, 0, 2, 6, 14, 0, 32, 126, 255, 511, 1023] [6, 7, 10] j0 m1 BA (fun _ e => l1.ext e) EC (fun C0 => ?_)
  refine gk 2 ?_
  refine ZB x3 (fun _ uw hcx => qE rfl hkd) ?_
  refine gk 1 ?_
  refine aA (fun _ => sO ko i co) (fun _ _ _ => rfl) ?_ ?_
  ·refine tB (fun r w0 uw hF hE => ?_) fun r w0 uw hF hE => ?_
   ·have HH := hF.ext hE
    exact Gives.run rfl (MF (E := IB) (l := ds.set j (⟨0#64, tr0, ⟨sA ko, i, co⟩, NH⟩ : Dr)) (j := j) (o := 4) (v := (⟨0#64, tr0, ⟨sA ko, i, co⟩, NH⟩ : Dr)) (u := sO ko i co) vF (HH.rd (k := 0) rfl p0) (List.getElem?_set_self om) rfl rfl rfl) ⟨rfl, Chg.refl _ _⟩
   ·obtain ⟨a0, e6, k0, HH⟩ := hF
    replace HH := HH.ext hE
    exact Gives.run rfl (MF (E := IB) (l := ds.set j (⟨0#64, tr0, ⟨sA ko, i, co⟩, NH⟩ : Dr)) (j := j) (o := 4) (v := (⟨0#64, tr0, ⟨sA ko, i, co⟩, NH⟩ : Dr)) (u := sO ko i co) vF (HH.rd (k := 1) rfl p0) (List.getElem?_set_self om) rfl rfl rfl) ⟨rfl, Chg.refl _ _⟩
  refine gk 1 ?_
  refine WalkT.eff C0 0 ?_ ?_
  ·refine tA fun r w0 uw hF hE => ?_
   have z2 := hF.ext hE
   exact gW fun Q' hK => (bS (E := zB) (l := ([⟨((s1.o.l).getD 0 eB).p, ((s1.o.l).getD 0 eB).q, ((s1.o.l).getD 0 eB).r, ((s1.o.l).getD 0 eB).s, ((s1.o.l).getD 0 eB).ch⟩] : List Ot)) fun n1 A2 o1 p1 B2 => hK _ _ (E_ n1 (A_ rfl (A_ o1 p1))))
  refine WalkT.eff C0 1 ?_ ?_
  ·refine tA fun r w0 uw hF hE => ?_
   obtain ⟨a0, e6, k0, L0⟩ := hF
   replace L0 := L0.ext hE
   dsimp only
   rw [e6]
   refine gW fun Q' hK => ?_
   refine OD ?_
   refine ⟨by rw [List.length_take]; omega, by rfl, om, ?_⟩
   intro q1 r1 t1 C2 u1 D2 w1
   have y1 : ((st.o.l).take i) ++ ([⟨((s1.o.l).getD 0 eB).p, ((s1.o.l).getD 0 eB).q, ((s1.o.l).getD 0 eB).r, ((s1.o.l).getD 0 eB).s, ((s1.o.l).getD 0 eB).ch⟩] : List Ot) = (st.o.l).take (i + 1) := by rw [hs1o, VF]; exact DO _ _ _ om
   have M0 := u1
   have N0 := w1
   rw [y1] at M0 N0
   exact hK _ _ (E_ a0 (E_ q1 (E_ r1 (E_ t1 (A_ e6 (A_ rfl (A_ k0 (A_ M0 N0))))))))
  refine ZB x3 (fun _ uw hcx => qE rfl hkd) ?_
  refine gk 1 ?_
  refine WalkT.eff C0 2 ?_ ?_
  ·refine tA fun r w0 uw hF hE => ?_
   obtain ⟨a0, c0, e0, h0, e6, e7, k0, D0, E0⟩ := hF
   replace E0 := E0.ext hE
   dsimp only
   rw [e7]
   refine MC fun Q' hK => (BG (E := IB) (k := 1) (l := ds.set j (⟨0#64, tr0, ⟨sA ko, i, co⟩, NH⟩ : Dr)) (j := j) (o := 4) (a := (ds.set j (⟨0#64, tr0, ⟨sA ko, i, co⟩, NH⟩ : Dr)).getD j JB) (b := ({ (ds.set j (⟨0#64, tr0, ⟨sA ko, i, co⟩, NH⟩ : Dr)).getD j JB with os := ⟨sA c0, i + 1, e0⟩ } : Dr)) (v := sO c0 (i + 1) e0) E0 rfl p0 rfl rfl rfl vF rfl rfl (by decide) rfl (QA (by rw [List.length_set]; exact hj)) fun E2 z1 A1 => ?_)
   have B1 := A1.as (L' := (_ :: _ :: _ :: _ :: _ :: _ :: _ :: (EA 66 121 114 sb o0 ++ R))) rfl
   exact hK _ (fun _ => (E_ a0 (E_ c0 (E_ e0 (E_ h0 (A_ e6 (A_ e7 (A_ k0 (A_ z1 (A_ D0 B1))))))))))
  refine WalkT.nil fun r w0 F2 hF hE => ?_
  obtain ⟨a0, c0, e0, h0, e6, e7, k0, C1, D0, s0⟩ := hF
  replace s0 := s0.ext hE
  dsimp only
  rw [e6, e7]
  dsimp only [r0] at k0
  dsimp only [j0, q0] at s0
  have D1 : (ds.set j (⟨0#64, tr0, ⟨sA ko, i, co⟩, NH⟩ : Dr)).set j ({ (ds.set j (⟨0#64, tr0, ⟨sA ko, i, co⟩, NH⟩ : Dr)).getD j JB with os := ⟨sA c0, i + 1, e0⟩ } : Dr) = ds.set j (⟨0#64, tr0, ⟨sA c0, i + 1, e0⟩, NH⟩ : Dr) := by exact DW hj _
  have O0 := C1
  have P0 := s0
  rw [D1] at O0 P0
  refine go 2 ?_
  exact ⟨(i + 1, c0, e0, h0, o0), _, rfl, kp, ⟨⟨om, O0, D0, e1, by rw [h1]; exact hs1t, by rw [i1]; exact hs1b, by rw [g1, hs1o, List.drop_drop]⟩, (P0.pk 7 [1, 4, 5, 6, 2])⟩, vd⟩
 ·have hie : i = (64 * qB o) := by omega
  subst hie
  refine go 1 ?_
  refine cl (rG o K0) ?_
  rintro _ G2 ⟨rfl, E1⟩
  have F1 := HL.ext E1
  refine sq ((KB rfl rfl om).as (v' := iN (128 * qB o)) (by exact congrArg i64 (by push_cast; rfl))) ?_
  refine go 2 ?_
  refine sq ((KB rfl rfl (by rw [hn2i]; omega)).as (v' := iN n2) (by exact congrArg i64 hn2i)) ?_
  refine go 1 ?_
  refine AA (σ := Nat × Option Nat × Nat × LV) (fun (i, kz, cz, sz) => [(0, .pointer (oC (sA kd) (j * 6))), (3, pT tb), (6, pT b1), (10, .nilIface), (44, iN n2), (45, iN i)]) (fun (i, kz, cz, sz) w' => (i ≤ n2 ∧ u + 2 * i ≤ ws.length ∧ Sl IB kd (ds.set j (⟨0#64, tr0, ⟨sA ko, (64 * qB o), co⟩, ⟨sA kz, i, cz⟩⟩ : Dr)) cd sd ∧ Sl bB kz (sH ws u i) cz sz) ∧ Hp No w₀ w' ((kd, qA IB 91 (ds.set j (⟨0#64, tr0, ⟨sA ko, (64 * qB o), co⟩, ⟨sA kz, i, cz⟩⟩ : Dr)) sd) :: (rC tb #[sO tk ws.length tc, .pointer none, iN ws.length, iN (u + 2 * i)] 96) :: x8 :: (rC b1 x4 36) :: x5 :: (kz, qA bB 83 (sH ws u i) sz) :: (EA 66 121 114 sb s1 ++ R))) (fun (i, kz, cz, sz) => n2 - i) ((0, none, 0, [])) ?_ ?_ ?_
  ·exact kp
  have G1 := ((F1.nil (qA bB 83 (sH ws u 0) [])).pk 6 [1, 2, 3, 4, 5, 0]).as (L' := (_ :: _ :: _ :: _ :: _ :: _ :: (EA 66 121 114 sb s1 ++ R))) rfl
  ·exact ⟨⟨Nat.zero_le _, hul, p0, Sl.none⟩, G1⟩
  rintro ⟨i, kz, cz, sz⟩ ρ Q0 ⟨⟨hq, hui, u0, hSz⟩, l0⟩
  refine go 1 ?_
  refine iA (((i : Nat) : Int) < (n2 : Nat)) rfl (fun H1 => ?_) (fun H1 => ?_)
  ·refine go 0 ?_
   by_cases ht : u + 2 * i + 2 ≤ ws.length
   ·refine go 1 ?_
    refine cl (QI tb tc (u + 2 * i) (sA tk) ws Q0 gF (OJ l0 (i := 1) (j := 2) rfl rfl rfl hSw) om om) ?_
    rintro _ H2 ⟨rfl, I1, J1⟩
    have I2 := (l0.set (k := 1) rfl I1 J1).as (L' := (_ :: _ :: _ :: _ :: _ :: _ :: (EA 66 121 114 sb s1 ++ R))) rfl
    refine go 4 ?_
    intro K1 J2 K2 L2 M2
    refine go 1 ?_
    intro N2 L1 O2
    refine go 3 ?_
    have M1 := (L1.pk 7 [1, 6, 0, 2, 3, 4, 5])
    let m0 : List RW := ((rX K1 E64 ([ws.getD (u + 2 * i) 0#64, ws.getD ((u + 2 * i) + 1) 0#64]) 83) :: (rC tb #[A0, .pointer none, iN ws.length, iN ((u + 2 * i) + 2)] 96) :: x8 :: (rC b1 x4 36) :: x5 :: (EA 66 121 114 sb s1 ++ R))
    let x0 := fun (b0 : Nat) => (((some b0), qA bB 83 ([(ws.getD (u + 2 * i) 0#64, ws.getD ((u + 2 * i) + 1) 0#64)] : List NB) ([])) : RW)
    let F0 := ((kd, qA IB 91 (ds.set j (⟨0#64, tr0, ⟨sA ko, (64 * qB o), co⟩, ⟨sA kz, i, cz⟩⟩ : Dr)) sd) : RW)
    let y0 := fun (b0 : Nat) => (Sl bB (some b0) ([(ws.getD (u + 2 * i) 0#64, ws.getD ((u + 2 * i) + 1) 0#64)] : List NB) 1 ([]) : Prop)
    let N1 : mC := [RB false false false fun _ _ _ w' => Hp No w₀ w' (F0 :: (kz, qA bB 83 (sH ws u i) sz) :: m0), RB true false false fun v6 _ _ w' => ∃ b0, v6 = sO (some b0) 1 1 ∧ (y0 b0) ∧ Hp No w₀ w' ((x0 b0) :: F0 :: (kz, qA bB 83 (sH ws u i) sz) :: m0), RB true true false fun v6 v7 _ w' => ∃ b0 d0 f0 i0, v6 = sO (some b0) 1 1 ∧ v7 = sO d0 (i + 1) f0 ∧ (y0 b0) ∧ Sl bB d0 (sH ws u (i + 1)) f0 i0 ∧ Hp No w₀ w' ((x0 b0) :: F0 :: (d0, qA bB 83 (sH ws u (i + 1)) i0) :: m0), RB true true true fun v6 v7 _ w' => ∃ b0 d0 f0 i0, v6 = sO (some b0) 1 1 ∧ v7 = sO d0 (i + 1) f0 ∧ (y0 b0) ∧ Sl IB kd ((ds.set j (⟨0#64, tr0, ⟨sA ko, (64 * qB o), co⟩, ⟨sA kz, i, cz⟩⟩ : Dr)).set j ({ (ds.set j (⟨0#64, tr0, ⟨sA ko, (64 * qB o), co⟩, ⟨sA kz, i, cz⟩⟩ : Dr)).getD j JB with zs := ⟨sA d0, i + 1, f0⟩ } : Dr)) cd sd ∧ Sl bB d0 (sH ws u (i + 1)) f0 i0 ∧ Hp No w₀ w' ((x0 b0) :: (kd, qA IB 91 ((ds.set j (⟨0#64, tr0, ⟨sA ko, (64 * qB o), co⟩, ⟨sA kz, i, cz⟩⟩ : Dr)).set j ({ (ds.set j (⟨0#64, tr0, ⟨sA ko, (64 * qB o), co⟩, ⟨sA kz, i, cz⟩⟩ : Dr)).getD j JB with zs := ⟨sA d0, i + 1, f0⟩ } : Dr)) sd) :: (d0, qA bB 83 (sH ws u (i + 1)) i0) :: m0)]
    refine MA (m := 11) [0, 0, 2, 6, 14, 0, 32, 126, 255, 511, 1023] [6, 7, 10] m0 N1 BA (fun _ e => M1.ext e) EC (fun G0 => ?_)
    refine gk 2 ?_
    refine ZB x3 (fun _ uw hcx => qE rfl hkd) ?_
    refine gk 1 ?_
    refine aA (fun _ => sO kz i cz) (fun _ _ _ => rfl) ?_ ?_
    ·refine tB (fun r w0 uw hF hE => ?_) fun r w0 uw hF hE => ?_
     ·have HH := hF.ext hE
      exact Gives.run rfl (MF (E := IB) (l := ds.set j (⟨0#64, tr0, ⟨sA ko, (64 * qB o), co⟩, ⟨sA kz, i, cz⟩⟩ : Dr)) (j := j) (o := 5) (v := (⟨0#64, tr0, ⟨sA ko, (64 * qB o), co⟩, ⟨sA kz, i, cz⟩⟩ : Dr)) (u := sO kz i cz) vF (HH.rd (k := 0) rfl u0) (List.getElem?_set_self om) rfl rfl rfl) ⟨rfl, Chg.refl _ _⟩
     ·obtain ⟨b0, e6, n0, HH⟩ := hF
      replace HH := HH.ext hE
      exact Gives.run rfl (MF (E := IB) (l := ds.set j (⟨0#64, tr0, ⟨sA ko, (64 * qB o), co⟩, ⟨sA kz, i, cz⟩⟩ : Dr)) (j := j) (o := 5) (v := (⟨0#64, tr0, ⟨sA ko, (64 * qB o), co⟩, ⟨sA kz, i, cz⟩⟩ : Dr)) (u := sO kz i cz) vF (HH.rd (k := 1) rfl u0) (List.getElem?_set_self om) rfl rfl rfl) ⟨rfl, Chg.refl _ _⟩
    refine gk 1 ?_
    refine WalkT.eff G0 0 ?_ ?_
    ·refine tA fun r w0 uw hF hE => ?_
     have P2 := hF.ext hE
     exact gW fun Q' hK => (bS (E := bB) (l := ([(ws.getD (u + 2 * i) 0#64, ws.getD ((u + 2 * i) + 1) 0#64)] : List NB)) fun O1 Q2 P1 Q1 R2 => hK _ _ (E_ O1 (A_ rfl (A_ P1 Q1))))
    refine WalkT.eff G0 1 ?_ ?_
    ·refine tA fun r w0 uw hF hE => ?_
     obtain ⟨b0, e6, n0, R0⟩ := hF
     replace R0 := R0.ext hE
     dsimp only
     rw [e6]
     refine gW fun Q' hK => ?_
     refine OD ?_
     refine ⟨by exact (DH _ _ _).symm, by rfl, om, ?_⟩
     intro R1 S1 T1 S2 U1 T2 V1
     have W1 : (sH ws u i) ++ ([(ws.getD (u + 2 * i) 0#64, ws.getD ((u + 2 * i) + 1) 0#64)] : List NB) = sH ws u (i + 1) := by exact (RP _ _ _).symm
     have S0 := U1
     have T0 := V1
     rw [W1] at S0 T0
     exact hK _ _ (E_ b0 (E_ R1 (E_ S1 (E_ T1 (A_ e6 (A_ rfl (A_ n0 (A_ S0 T0))))))))
    refine ZB x3 (fun _ uw hcx => qE rfl hkd) ?_
    refine gk 1 ?_
    refine WalkT.eff G0 2 ?_ ?_
    ·refine tA fun r w0 uw hF hE => ?_
     obtain ⟨b0, d0, f0, i0, e6, e7, n0, H0, I0⟩ := hF
     replace I0 := I0.ext hE
     dsimp only
     rw [e7]
     refine MC fun Q' hK => (BG (E := IB) (k := 1) (l := ds.set j (⟨0#64, tr0, ⟨sA ko, (64 * qB o), co⟩, ⟨sA kz, i, cz⟩⟩ : Dr)) (j := j) (o := 5) (a := (ds.set j (⟨0#64, tr0, ⟨sA ko, (64 * qB o), co⟩, ⟨sA kz, i, cz⟩⟩ : Dr)).getD j JB) (b := ({ (ds.set j (⟨0#64, tr0, ⟨sA ko, (64 * qB o), co⟩, ⟨sA kz, i, cz⟩⟩ : Dr)).getD j JB with zs := ⟨sA d0, i + 1, f0⟩ } : Dr)) (v := sO d0 (i + 1) f0) I0 rfl u0 rfl rfl rfl vF rfl rfl (by decide) rfl (QA (by rw [List.length_set]; exact hj)) fun U2 X1 Y1 => ?_)
     have Z1 := Y1.as (L' := (_ :: _ :: _ :: _ :: _ :: _ :: _ :: _ :: (EA 66 121 114 sb s1 ++ R))) rfl
     exact hK _ (fun _ => (E_ b0 (E_ d0 (E_ f0 (E_ i0 (A_ e6 (A_ e7 (A_ n0 (A_ X1 (A_ H0 Z1))))))))))
    refine WalkT.nil fun r w0 V2 hF hE => ?_
    obtain ⟨b0, d0, f0, i0, e6, e7, n0, c2, H0, z0⟩ := hF
    replace z0 := z0.ext hE
    dsimp only
    rw [e6, e7]
    dsimp only [y0] at n0
    dsimp only [m0, x0] at z0
    have d2 : (ds.set j (⟨0#64, tr0, ⟨sA ko, (64 * qB o), co⟩, ⟨sA kz, i, cz⟩⟩ : Dr)).set j ({ (ds.set j (⟨0#64, tr0, ⟨sA ko, (64 * qB o), co⟩, ⟨sA kz, i, cz⟩⟩ : Dr)).getD j JB with zs := ⟨sA d0, i + 1, f0⟩ } : Dr) = ds.set j (⟨0#64, tr0, ⟨sA ko, (64 * qB o), co⟩, ⟨sA d0, i + 1, f0⟩⟩ : Dr) := by exact CW hj _
    have U0 := c2
    have V0 := z0
    rw [d2] at U0 V0
    refine go 2 ?_
    exact ⟨(i + 1, d0, f0, i0), _, rfl, kp, ⟨⟨om, by omega, U0, H0⟩, (V0.pk 8 [1, 4, 5, 6, 7, 2])⟩, vd⟩
   ·refine go 1 ?_
    have := l0.lT 1
    have := l0.lT 3
    refine cl (RI tb ws.length (u + 2 * i) (sO tk ws.length tc) (.pointer none) Q0 uC gF om om om) ?_
    rintro _ X2 ⟨⟨_, rfl, e2⟩, f2⟩
    obtain ⟨W0, nm208, at209, v210, rfl, g2, h2, hv213⟩ := e2
    replace hv213 : v210 = .iface 63 (i64 40) := hv213
    subst hv213
    have Y2 := (l0.add1 f2 g2 h2).as (L' := (_ :: _ :: _ :: _ :: _ :: _ :: _ :: (EA 66 121 114 sb s1 ++ R))) rfl
    refine go 4 ?_
    intro Z2 c3 d3 e3 f3
    refine go 1 ?_
    intro g3 i2 h3
    refine go 5 ?_
    have j2 := (Hp.lrk (i2.pk 8 [1, 0, 2, 3, 4, 5, 6, 7]) 1 8 (by decide)).as (L' := [(rC W0 #[.string nm208, i64 at209, iN (0 + 1), .iface 63 (i64 40)] 126)] ++ (EA 66 121 114 sb s1 ++ R)) rfl
    exact ⟨_, rfl, .inr ⟨om, W0, _, _, rfl, j2.lr⟩⟩
  ·obtain rfl : n2 = i := by omega
   let x2 : List RW := [x5, (kz, qA bB 83 (sH ws u n2) sz)]
   refine go 1 ?_
   have k2 := (Hp.midP (P := [(kd, qA IB 91 (ds.set j (⟨0#64, tr0, ⟨sA ko, (64 * qB o), co⟩, ⟨sA kz, n2, cz⟩⟩ : Dr)) sd), (rC tb #[A0, .pointer none, iN ws.length, iN (u + 2 * n2)] 96), x8]) (X := x2) (A := EA 66 121 114 sb s1) (Y := R) (l0.dropk 3)).as (L' := (_ :: _ :: _ :: (EA 66 121 114 sb s1 ++ (x2 ++ R)))) rfl
   exact ⟨_, rfl, .inl ⟨om, (⟨0#64, tr0, ⟨sA ko, (64 * qB o), co⟩, ⟨sA kz, n2, cz⟩⟩ : Dr), x2, s1, rfl, rfl, rfl, ⟨ko, co, so, List.mem_cons_self, hSo, by rw [show ((st.o.l).take (64 * qB o)).length = (64 * qB o) by rw [List.length_take]; omega]⟩, fun hm => ⟨kz, cz, sz, List.mem_cons_of_mem _ List.mem_cons_self, hSz, by rw [DH]⟩, u0, hs1k, hs1t, hs1b, hs1o, k2⟩⟩
end Go.Proofs.YtohngnahcgbfmaaGreatDoor.Mu
namespace Go.Proofs.YtohngnahcgbfmaaGreatDoor.Mu
open Go Vc Er Ek Circ Mi
open Co Cm
theorem bJ : jD Tryz.prog 83 = some (2, 1) := by kernel_rfl
theorem GT : ZF Tryz.prog 91 = some 80 := by kernel_rfl
theorem VE : wC Tryz.prog 34 E64 := UE (by kernel_rfl) (by kernel_rfl)
theorem eH : wC Tryz.prog 36 xE := kI (by kernel_rfl) (by kernel_rfl)
theorem RJ : TB Tryz.prog 36 0 = some (0, 1, 33) := by kernel_rfl
theorem QJ : TB Tryz.prog 36 5 = some (5, 1, 3) := by kernel_rfl
theorem sM : TB Tryz.prog 91 0 = some (0, 1, 34) := by kernel_rfl
theorem mL : NA Tryz.prog 3 = true := by kernel_rfl
theorem yP : NA Tryz.prog 33 = true := by kernel_rfl
theorem QL : UB Tryz.prog 34 = some 1 := by kernel_rfl
theorem KO : UB Tryz.prog 66 = some 3 := by kernel_rfl
theorem HO : eD Tryz.prog 22 = some (36, 6) := by kernel_rfl
theorem iT : eD Tryz.prog 80 = some (91, 6) := by kernel_rfl
theorem YS : YB Tryz.prog 91 = some (.agg #[.int .u64 0, .int .u64 0, .int .u64 0, .int .u64 0, yA, yA]) := by kernel_rfl
theorem KD (ops : List Mo) (oa : Option Addr) (oc : Nat) (me : Nat) (hme : me ≤ 1) (tb : Nat) (tk : Option Nat) (tc : Nat) (ts : LV) (ws : List (BitVec 64)) (hSw : Sl E64 tk ws tc ts) (hwl : ws.length ≤ 140737488355328) (sb : Nat) (st : Sk) (hst : st.ok) (R : List RW) (w₀ w : World) (hG : Gl w₀) (hop : ops.length ≤ 16384) (ec : Int) (hT : ec ≠ 40 → VA me ops + jA (WA me) ops ops.length ≤ ws.length) (hA : ec ≠ 80 → jA fA ops ops.length ≤ st.t.l.length) (hB : ec ≠ 80 → jA fB ops ops.length ≤ st.b.l.length) (hC : jA fO ops ops.length ≤ st.o.l.length) (hO : ∀ w', Ext w₀ w' → (∀ p ∈ R, ∀ b, p.1 = some b → w'.heap[b]? = some p.2) → Rd xE w' oa ops) (H : Hp No w₀ w ((rC tb #[sO tk ws.length tc, .pointer none, iN ws.length, iN 0] 96) :: (tk, qA E64 34 ws ts) :: (EA 66 121 114 sb st ++ R))) : Ca 27 [.slice oa ops.length oc, i64 ((me : Nat) : Int), pT tb, pT sb] w fun v w' => ((VA me ops + jA (WA me) ops ops.length ≤ ws.length ∧ jA fA ops ops.length ≤ st.t.l.length ∧ jA fB ops ops.length ≤ st.b.l.length) ∧ ∃ (kd : Option Nat) (cd : Nat) (sd : LV) (ds : List Dr) (s' : Sk) (F : List RW), v = .tuple #[sO kd ops.length cd, .agg (uA E64 [(rB me ops ws).1, (rB me ops ws).2]).toArray, .nilIface] ∧ Sl IB kd ds cd sd ∧ DrN (OB ops ((me : Nat) : Int) (WA me) ws (VA me ops)) (MB ops st.t.l st.b.l) ops.length ds ops.length ∧ s'.ok ∧ s'.t.l = st.t.l.drop (jA fA ops ops.length) ∧ s'.b.l = st.b.l.drop (jA fB ops ops.length) ∧ s'.o.l = st.o.l.drop (jA fO ops ops.length) ∧ DrG 121 83 F me ops st.o.l ws (VA me ops) ds ops.length ∧ Hp No w₀ w' ((kd, qA IB 91 ds sd) :: (rC tb #[sO tk ws.length tc, .pointer none, iN ws.length, iN (VA me ops + jA (WA me) ops ops.length)] 96) :: (tk, qA E64 34 ws ts) :: (EA 66 121 114 sb s' ++ (F ++ R)))) ∨ (¬ (VA me ops + jA (WA me) ops ops.length ≤ ws.length ∧ jA fA ops ops.length ≤ st.t.l.length ∧ jA fB ops ops.length ≤ st.b.l.length) ∧ ∃ F k ev a b, v = .tuple #[yA, .agg (uA E64 [a, b]).toArray, ev] ∧ yV F ec (k + 1) ev ∧ k ≤ 1 ∧ Hp No w₀ w' (F ++ R)) := by
 let c0 : RW := (tk, qA E64 34 ws ts)
 let x2 : Value := sO tk ws.length tc
 skip
 refine enter (n := 112) Tryz.func27 rfl rfl (dB rfl) ?_
 refine go 2 ?_
 intro b1 w2 c4 H3 d4
 let x9 := (rX b1 E64 ([0#64, 0#64]) 83) :: (EA 66 121 114 sb st ++ R)
 refine go 3 ?_
 refine ID (E := IB) (m := ops.length) (c := ops.length) (z0 := JB) H3 vF vF rfl vF rfl rfl vo vo om om fun b5 w7 r1 H8 e4 => ?_
 let x3 : RW := ((some b5), qA IB 91 (List.replicate ops.length JB) (uA IB (List.replicate (ops.length - ops.length) JB)))
 refine go 2 ?_
 intro a0 f4 g4 t1 h4
 refine gj 1 ?_
 refine xF (σ := Unit) (fun _ => [(0, .slice oa ops.length oc), (1, iN me), (2, pT tb), (3, pT sb), (8, yA), (9, pT b1), (10, .nilIface), (11, sO (some b5) ops.length ops.length), (12, pT a0), (13, .nilIface)]) (fun _ w' => VA me ops ≤ ws.length ∧ Hp No w₀ w' (x3 :: (rC tb #[x2, .pointer none, iN ws.length, iN (VA me ops)] 96) :: c0 :: (rX a0 E64 ([(rB me ops ws).1, (rB me ops ws).2]) 83) :: x9)) ?_ (fun R0 => ?_)
 ·rintro _ ρ i4 ⟨hdlw, u1⟩
  refine go 3 ?_
  refine AA (σ := Nat × List Dr × Sk × List RW) (fun (i, ds, s1, F) => [(1, iN me), (2, pT tb), (3, pT sb), (8, yA), (9, pT b1), (10, .nilIface), (11, sO (some b5) ops.length ops.length), (12, pT a0), (13, .nilIface), (49, .slice oa ops.length oc), (50, iN ops.length), (51, iN i)]) (fun (i, ds, s1, F) w' => (i ≤ ops.length ∧ DrN (OB ops ((me : Nat) : Int) (WA me) ws (VA me ops)) (MB ops st.t.l st.b.l) ops.length ds i ∧ Sl IB (some b5) ds ops.length (uA IB (List.replicate (ops.length - ops.length) JB)) ∧ s1.ok ∧ s1.t.l = st.t.l.drop (jA fA ops i) ∧ s1.b.l = st.b.l.drop (jA fB ops i) ∧ s1.o.l = st.o.l.drop (jA fO ops i) ∧ DrG 121 83 F me ops st.o.l ws (VA me ops) ds i ∧ (VA me ops + jA (WA me) ops i) ≤ ws.length ∧ jA fA ops i ≤ st.t.l.length ∧ jA fB ops i ≤ st.b.l.length) ∧ Hp No w₀ w' (((some b5), qA IB 91 ds (uA IB (List.replicate (ops.length - ops.length) JB))) :: (rC tb #[sO tk ws.length tc, .pointer none, iN ws.length, iN (VA me ops + jA (WA me) ops i)] 96) :: c0 :: (rX a0 E64 ([(rB me ops ws).1, (rB me ops ws).2]) 83) :: (rX b1 E64 ([0#64, 0#64]) 83) :: (EA 66 121 114 sb s1 ++ (F ++ R)))) (fun (i, ds, s1, F) => ops.length - i) ((0, List.replicate ops.length JB, st, [])) ?_ ?_ ?_
  ·exact kp
  ·exact ⟨⟨Nat.zero_le _, tS _, r1, hst, rfl, rfl, rfl, lQ, by rw [jA]; omega, by rw [jA]; omega, by rw [jA]; omega⟩, u1⟩
  rintro ⟨i, ds, s1, F⟩ ρ j4 ⟨⟨hq2, hdr, hSd, hs1k, hs1t, hs1b, hs1o, hdg, hgT, hgA, hgB⟩, r0⟩
  have hdl := hdr.len
  refine go 1 ?_
  refine iA (((i : Nat) : Int) < (ops.length : Nat)) rfl (fun w1 => ?_) (fun w1 => ?_)
  ·refine go 1 ?_
   refine sq (TC (E := xE) (l := ops) (j := i) vF (hO _ r0.chg (fun p hp => r0.has p (mT (mT (mT (mT (mT ((List.mem_append_right _ (List.mem_append_right _ hp)))))))))) rfl rfl vo (by rfl) om) (sq ((AD (E := xE) (l := ops) (j := i) (v := ops.getD i DB) eH (hO _ r0.chg (fun p hp => r0.has p (mT (mT (mT (mT (mT ((List.mem_append_right _ (List.mem_append_right _ hp)))))))))) rfl rfl (QA om)).as (v' := .agg #[i64 ((ops.getD i DB).kd), i64 ((ops.getD i DB).a), i64 ((ops.getD i DB).b), i64 ((ops.getD i DB).k), u64 ((ops.getD i DB).c), i64 ((ops.getD i DB).pt)]) rfl) ?_)
   refine go 1 ?_
   intro d0 k4 l4 m4 n4
   refine go 2 ?_
   intro l0 b0 o4
   obtain ⟨o, ho⟩ : ∃ q1, q1 = ops.getD i DB := ⟨_, rfl⟩
   let k0 : RW := ((some b5), qA IB 91 ds (uA IB (List.replicate (ops.length - ops.length) JB)))
   let e0 : Array Value := #[x2, .pointer none, iN ws.length, iN (VA me ops + jA (WA me) ops i)]
   let x1 : Array Value := #[i64 (o.kd), i64 (o.a), i64 (o.b), i64 (o.k), u64 (o.c), i64 (o.pt)]
   rw [← ho] at b0 ⊢
   refine go 8 ?_
   refine iA ((o.kd : Int) = (1 : Int)) rfl (fun k1 => ?_) (fun k1 => ?_)
   ·refine go 4 ?_
    refine iA ((o.pt : Int) = (me : Nat)) rfl (fun D0 => ?_) (fun D0 => ?_)
    ·by_cases htu : (VA me ops + jA (WA me) ops i) < ws.length
     ·refine go 2 ?_
      refine cl (tG tb tc (VA me ops + jA (WA me) ops i) (sA tk) ws l0 gF (OJ b0 (i := 2) (j := 3) rfl rfl rfl hSw) om om) ?_
      rintro _ p4 ⟨rfl, y1, z1⟩
      have A1 := (b0.set (k := 2) rfl y1 z1).as (L' := (_ :: _ :: _ :: _ :: _ :: _ :: (EA 66 121 114 sb s1 ++ (F ++ R)))) rfl
      refine go 3 ?_
      refine sq ((wB rfl).as (v' := .pointer (oC (sA (some b5)) (i * 6))) rfl) ?_
      refine go 1 ?_
      refine BG (E := IB) (k := 1) (l := ds) (j := i) (o := 0) (a := ds.getD i JB) (b := ({ ds.getD i JB with w := ws.getD (VA me ops + jA (WA me) ops i) 0#64 } : Dr)) (v := u64 (ws.getD (VA me ops + jA (WA me) ops i) 0#64)) A1 rfl hSd rfl rfl rfl vF rfl rfl (by decide) rfl (QA om) fun q4 B1 C1 => ?_
      have D1 := C1.as (L' := (_ :: _ :: _ :: _ :: _ :: _ :: (EA 66 121 114 sb s1 ++ (F ++ R)))) rfl
      refine go 5 ?_
      have hu2 : jA (WA me) ops (i + 1) = _ := lA ho (jQ k1 D0)
      have E1 := ((D1.dropk 0)).as (L' := (((some b5), qA IB 91 (ds.set i ({ ds.getD i JB with w := ws.getD (VA me ops + jA (WA me) ops i) 0#64 } : Dr)) (uA IB (List.replicate (ops.length - ops.length) JB))) :: (rC tb #[sO tk ws.length tc, .pointer none, iN ws.length, iN (VA me ops + jA (WA me) ops (i + 1))] 96) :: (tk, qA E64 34 ws ts) :: (rX a0 E64 ([(rB me ops ws).1, (rB me ops ws).2]) 83) :: (rX b1 E64 ([0#64, 0#64]) 83) :: (EA 66 121 114 sb s1 ++ (F ++ R)))) (by rw [hu2, ← Nat.add_assoc] <;> rfl)
      exact ⟨(i + 1, ds.set i ({ ds.getD i JB with w := ws.getD (VA me ops + jA (WA me) ops i) 0#64 } : Dr), s1, F), _, rfl, kp, ⟨⟨om, WJ hdr om (AW ho k1 D0) (by show (ds.getD i JB).t = _; rw [hdr.z i (Nat.le_refl _)]; exact CM ho om om), B1, hs1k, by rw [lA ho (show fA o = 0 from if_neg om)]; exact hs1t, by rw [lA ho (show fB o = 0 from if_neg om)]; exact hs1b, by rw [lA ho (show fO o = 0 from if_neg om)]; exact hs1o, nI hdg ho om _, by rw [hu2]; omega, by rw [lA ho (show fA o = 0 from if_neg om)]; omega, by rw [lA ho (show fB o = 0 from if_neg om)]; omega⟩, E1⟩, vd⟩
     ·refine go 0 ?_
      have hbL : ¬ VA me ops + jA (WA me) ops ops.length ≤ ws.length := fun h1 => by have h := kH (f := (WA me)) (ops := ops) (show i + 1 ≤ ops.length by omega); rw [lA ho (jQ k1 D0)] at h; omega
      have hbad : ¬ (VA me ops + jA (WA me) ops ops.length ≤ ws.length ∧ jA fA ops ops.length ≤ st.t.l.length ∧ jA fB ops ops.length ≤ st.b.l.length) := fun h => hbL h.1
      obtain rfl : ec = 40 := Decidable.byContradiction fun hx => hbL (hT hx)
      refine go 2 ?_
      have := b0.lT 0
      have := b0.lT 2
      have := b0.lT 4
      have := b0.lT 5
      refine cl (CP tb ws.length (VA me ops + jA (WA me) ops i) (sO tk ws.length tc) (.pointer none) l0 uC gF om) ?_
      rintro _ r4 ⟨⟨_, rfl, F1⟩, G1⟩
      obtain ⟨m0, nm46, at47, v48, rfl, H1, I1, hv51⟩ := F1
      let x8 : Array Value := #[.string nm46, i64 at47, iN (0 + 1), .iface 63 (i64 40)]
      replace hv51 : v48 = .iface 63 (i64 40) := hv51
      subst hv51
      have J1 := (b0.add1 G1 H1 I1).as (L' := (_ :: _ :: _ :: _ :: _ :: _ :: _ :: (EA 66 121 114 sb s1 ++ (F ++ R)))) rfl
      refine go 3 ?_
      refine sq ((wB rfl).as (v' := .pointer (oC (sA (some b5)) (i * 6))) rfl) ?_
      refine go 1 ?_
      refine BG (E := IB) (k := 2) (l := ds) (j := i) (o := 0) (a := ds.getD i JB) (b := ({ ds.getD i JB with w := 0#64 } : Dr)) (v := u64 0#64) J1 rfl hSd rfl rfl rfl vF rfl rfl (by decide) rfl (QA om) fun s4 t4 K1 => ?_
      have L1 := K1.as (L' := (_ :: _ :: _ :: _ :: _ :: _ :: _ :: (EA 66 121 114 sb s1 ++ (F ++ R)))) rfl
      refine go 3 ?_
      have M1 := (L1.pk 7 [6, 0, 1, 2, 3, 4, 5])
      let s0 : List RW := ((rC m0 x8 126) :: (rC d0 x1 36) :: ((some b5), qA IB 91 (ds.set i ({ ds.getD i JB with w := 0#64 } : Dr)) (uA IB (List.replicate (ops.length - ops.length) JB))) :: (rC tb e0 96) :: c0 :: (rX a0 E64 ([(rB me ops ws).1, (rB me ops ws).2]) 83) :: (EA 66 121 114 sb s1 ++ (F ++ R)))
      let S0 := ((rX b1 E64 ([0#64, 0#64]) 83) : RW)
      let M0 := fun (f0 : Nat) => ((rC f0 #[.string ({data := #[111, 112]}), iN i, iN (0 + 2), .iface 122 (pT m0)] 126) : RW)
      let N1 : mC := [nC false false fun _ _ w' => Hp No w₀ w' (S0 :: s0), nC true false fun v3 _ w' => ∃ f0, v3 = .iface 122 (pT f0) ∧ Hp No w₀ w' ((M0 f0) :: S0 :: s0), nC true true fun v3 _ w' => ∃ f0, v3 = .iface 122 (pT f0) ∧ Hp No w₀ w' ((M0 f0) :: (rX b1 E64 ([(rB me ops ws).1, (rB me ops ws).2]) 83) :: s0)]
      refine MA (m := 7) [0, 0, 0, 6, 14, 31, 63] [3, 5] s0 N1 BA (fun _ e => M1.ext e) EC (fun T0 => ?_)
      refine gk 3 ?_
      refine WalkT.eff T0 0 ?_ ?_
      ·refine tA fun r w0 uw hF hE => ?_
       have U0 := hF.ext hE
       refine gW fun Q' hK => (cl (AE 40 (i : Nat) 0 0 ({data := #[111, 112]}) (.iface 122 (pT m0)) uw uC ⟨m0, _, _, _, rfl, Nat.zero_le _, U0.get (k := 1) rfl, rfl⟩ om) ?_)
       rintro _ u4 ⟨⟨O1, rfl, P1, Q1⟩, R1⟩
       have S1 := (U0.add1 R1 P1 Q1).as (L' := (_ :: _ :: _ :: _ :: _ :: _ :: _ :: _ :: (EA 66 121 114 sb s1 ++ (F ++ R)))) rfl
       exact hK _ _ (E_ O1 (A_ rfl S1))
      refine gk 1 ?_
      refine WalkT.eff T0 1 ?_ ?_
      ·refine tA fun r w0 uw hF hE => ?_
       obtain ⟨f0, e3, V0⟩ := hF
       replace V0 := V0.ext hE
       refine MC fun Q' hK => ?_
       refine go 1 ?_
       intro w4 T1 y4
       exact hK _ (fun _ => (E_ f0 (A_ e3 T1)))
      refine bA (fun r => r 3) (fun r r' h => h 3 (by decide) rfl) (fun _ _ => zA rfl) (WalkT.nil fun r w0 z4 hF hE => ?_)
      obtain ⟨f0, e3, E0⟩ := hF
      replace E0 := E0.ext hE
      dsimp only
      rw [e3]
      dsimp only [s0, M0] at E0
      refine go 0 ?_
      have U1 := (Hp.lrk (E0.pk 8 [0, 2, 1, 3, 4, 5, 6, 7]) 2 8 (by decide)).as (L' := [(rC f0 #[.string ({data := #[111, 112]}), iN i, iN (0 + 2), .iface 122 (pT m0)] 126), (rC m0 x8 126)] ++ (EA 66 121 114 sb s1 ++ (F ++ R))) rfl
      exact ⟨_, rfl, .inr ⟨hbad, [(rC f0 #[.string ({data := #[111, 112]}), iN i, iN (0 + 2), .iface 122 (pT m0)] 126), (rC m0 x8 126)], 1, _, (rB me ops ws).1, (rB me ops ws).2, rfl, (fun _ h => ⟨_, _, _, _, rfl, Nat.zero_le _, h _ (List.mem_cons_self) _ rfl, ⟨_, _, _, _, rfl, Nat.zero_le _, h _ (mT (List.mem_cons_self)) _ rfl, rfl⟩⟩), by omega, U1.lr.lr⟩⟩
    ·refine go 4 ?_
     have hu2 : jA (WA me) ops (i + 1) = _ := lA ho (VJ om om)
     have V1 := ((b0.dropk 0)).as (L' := (((some b5), qA IB 91 ds (uA IB (List.replicate (ops.length - ops.length) JB))) :: (rC tb #[sO tk ws.length tc, .pointer none, iN ws.length, iN (VA me ops + jA (WA me) ops (i + 1))] 96) :: (tk, qA E64 34 ws ts) :: (rX a0 E64 ([(rB me ops ws).1, (rB me ops ws).2]) 83) :: (rX b1 E64 ([0#64, 0#64]) 83) :: (EA 66 121 114 sb s1 ++ (F ++ R)))) (by rw [hu2, ← Nat.add_assoc] <;> rfl)
     exact ⟨(i + 1, ds, s1, F), _, rfl, kp, ⟨⟨om, DM hdr (QK ho om) (CM ho om om), hSd, hs1k, by rw [lA ho (show fA o = 0 from if_neg om)]; exact hs1t, by rw [lA ho (show fB o = 0 from if_neg om)]; exact hs1b, by rw [lA ho (show fO o = 0 from if_neg om)]; exact hs1o, RK hdg ho om, by rw [hu2]; omega, by rw [lA ho (show fA o = 0 from if_neg om)]; omega, by rw [lA ho (show fB o = 0 from if_neg om)]; omega⟩, V1⟩, vd⟩
   ·refine go 2 ?_
    refine iA ((o.kd : Int) = (6 : Int)) rfl (fun k6 => ?_) (fun k6 => ?_)
    ·by_cases hsu : 0 < s1.t.l.length
     ·refine go 0 ?_
      have hsv := hsu
      rw [hs1t, List.length_drop] at hsv
      refine go 2 ?_
      have W1 := (Hp.midQ (X := [(rC d0 x1 36), k0, (rC tb e0 96), c0, (rX a0 E64 ([(rB me ops ws).1, (rB me ops ws).2]) 83), (rX b1 E64 ([0#64, 0#64]) 83)]) (A := EA 66 121 114 sb s1) (Y := (F ++ R)) b0).as (L' := EA 66 121 114 sb s1 ++ ([(rC d0 x1 36), k0, (rC tb e0 96), c0, (rX a0 E64 ([(rB me ops ws).1, (rB me ops ws).2]) 83), (rX b1 E64 ([0#64, 0#64]) 83)] ++ (F ++ R))) rfl
      refine cl (Co.MG sb s1 hs1k ([(rC d0 x1 36), k0, (rC tb e0 96), c0, (rX a0 E64 ([(rB me ops ws).1, (rB me ops ws).2]) 83), (rX b1 E64 ([0#64, 0#64]) 83)] ++ (F ++ R)) w₀ l0 W1 om) ?_
      rintro _ A4 ⟨rfl, u0, X1, Y1, Z1, c2, d2⟩
      have e2 := (Hp.midQ (X := EA 66 121 114 sb u0) (A := [(rC d0 x1 36), k0, (rC tb e0 96), c0, (rX a0 E64 ([(rB me ops ws).1, (rB me ops ws).2]) 83), (rX b1 E64 ([0#64, 0#64]) 83)]) (Y := (F ++ R)) X1).as (L' := (_ :: _ :: _ :: _ :: _ :: _ :: (EA 66 121 114 sb u0 ++ (F ++ R)))) rfl
      refine go 3 ?_
      refine sq ((wB rfl).as (v' := .pointer (oC (sA (some b5)) (i * 6))) rfl) ?_
      refine go 1 ?_
      refine AG (E := IB) (k := 1) (l := ds) (j := i) (o := 1) (a := ds.getD i JB) (b := ({ ds.getD i JB with t := (s1.t.l).getD 0 tr0 } : Dr)) (v := .agg #[u64 ((s1.t.l).getD 0 tr0).a, u64 ((s1.t.l).getD 0 tr0).b, u64 ((s1.t.l).getD 0 tr0).c]) (vs := [u64 ((s1.t.l).getD 0 tr0).a, u64 ((s1.t.l).getD 0 tr0).b, u64 ((s1.t.l).getD 0 tr0).c]) e2 rfl hSd rfl rfl rfl vF rfl rfl (by intro u hu; simp at hu; rcases hu with rfl | rfl | rfl <;> rfl) (dB rfl) rfl (QA om) fun B4 f2 g2 => ?_
      have h2 := g2.as (L' := (_ :: _ :: _ :: _ :: _ :: _ :: (EA 66 121 114 sb u0 ++ (F ++ R)))) rfl
      refine go 5 ?_
      have hu2 : jA (WA me) ops (i + 1) = _ := lA ho (VJ om om)
      have i2 := ((h2.dropk 0)).as (L' := (((some b5), qA IB 91 (ds.set i ({ ds.getD i JB with t := (s1.t.l).getD 0 tr0 } : Dr)) (uA IB (List.replicate (ops.length - ops.length) JB))) :: (rC tb #[sO tk ws.length tc, .pointer none, iN ws.length, iN (VA me ops + jA (WA me) ops (i + 1))] 96) :: (tk, qA E64 34 ws ts) :: (rX a0 E64 ([(rB me ops ws).1, (rB me ops ws).2]) 83) :: (rX b1 E64 ([0#64, 0#64]) 83) :: (EA 66 121 114 sb u0 ++ (F ++ R)))) (by rw [hu2, ← Nat.add_assoc] <;> rfl)
      exact ⟨(i + 1, ds.set i ({ ds.getD i JB with t := (s1.t.l).getD 0 tr0 } : Dr), u0, F), _, rfl, kp, ⟨⟨om, WJ hdr om (by show (ds.getD i JB).w = _; rw [hdr.z i (Nat.le_refl _)]; exact QK ho om) (by show (s1.t.l).getD 0 tr0 = _; rw [hs1t, VF]; exact dt_a ho k6), f2, Y1, by rw [Z1, hs1t, List.drop_drop, lA ho (show fA o = 1 from if_pos k6)], by rw [c2]; rw [lA ho (show fB o = 0 from if_neg om)]; exact hs1b, by rw [d2]; rw [lA ho (show fO o = 0 from if_neg om)]; exact hs1o, nI hdg ho om _, by rw [hu2]; omega, by rw [lA ho (show fA o = 1 from if_pos k6)]; omega, by rw [lA ho (show fB o = 0 from if_neg om)]; omega⟩, i2⟩, vd⟩
     ·refine go 0 ?_
      have hbL : ¬ jA fA ops ops.length ≤ st.t.l.length := fun h1 => by rw [hs1t, List.length_drop] at hsu; have h := kH (f := fA) (ops := ops) (show i + 1 ≤ ops.length by omega); rw [lA ho (show fA o = 1 from if_pos k6)] at h; omega
      have hbad : ¬ (VA me ops + jA (WA me) ops ops.length ≤ ws.length ∧ jA fA ops ops.length ≤ st.t.l.length ∧ jA fB ops ops.length ≤ st.b.l.length) := fun h => hbL h.2.1
      obtain rfl : ec = 80 := Decidable.byContradiction fun hx => hbL (hA hx)
      refine go 2 ?_
      have := b0.lT 0
      have := b0.lT 2
      have := b0.lT 4
      have := b0.lT 5
      refine cl (Co.YM sb s1 l0 (b0.has _ (mT (mT (mT (mT (mT (mT ((List.mem_append_left _ List.mem_cons_self)))))))) _ rfl) uC om) ?_
      rintro _ C4 ⟨⟨_, rfl, j2⟩, k2⟩
      obtain ⟨n0, nm127, at128, v129, rfl, l2, m2, hv132⟩ := j2
      let x5 : Array Value := #[.string nm127, i64 at128, iN (0 + 1), .iface 63 (i64 80)]
      replace hv132 : v129 = .iface 63 (i64 80) := hv132
      subst hv132
      have n2 := (b0.add1 k2 l2 m2).as (L' := (_ :: _ :: _ :: _ :: _ :: _ :: _ :: (EA 66 121 114 sb s1 ++ (F ++ R)))) rfl
      refine go 3 ?_
      refine sq ((wB rfl).as (v' := .pointer (oC (sA (some b5)) (i * 6))) rfl) ?_
      refine go 1 ?_
      refine AG (E := IB) (k := 2) (l := ds) (j := i) (o := 1) (a := ds.getD i JB) (b := ({ ds.getD i JB with t := tr0 } : Dr)) (v := .agg #[u64 0#64, u64 0#64, u64 0#64]) (vs := [u64 tr0.a, u64 tr0.b, u64 tr0.c]) n2 rfl hSd rfl rfl rfl vF rfl rfl (by intro u hu; simp at hu; rcases hu with rfl | rfl | rfl <;> rfl) (dB rfl) rfl (QA om) fun D4 F4 o2 => ?_
      have p2 := o2.as (L' := (_ :: _ :: _ :: _ :: _ :: _ :: _ :: (EA 66 121 114 sb s1 ++ (F ++ R)))) rfl
      refine go 3 ?_
      have q2 := (p2.pk 7 [6, 0, 1, 2, 3, 4, 5])
      let x0 : List RW := ((rC n0 x5 126) :: (rC d0 x1 36) :: ((some b5), qA IB 91 (ds.set i ({ ds.getD i JB with t := tr0 } : Dr)) (uA IB (List.replicate (ops.length - ops.length) JB))) :: (rC tb e0 96) :: c0 :: (rX a0 E64 ([(rB me ops ws).1, (rB me ops ws).2]) 83) :: (EA 66 121 114 sb s1 ++ (F ++ R)))
      let W0 := ((rX b1 E64 ([0#64, 0#64]) 83) : RW)
      let N0 := fun (h0 : Nat) => ((rC h0 #[.string ({data := #[111, 112]}), iN i, iN (0 + 2), .iface 122 (pT n0)] 126) : RW)
      let r2 : mC := [nC false false fun _ _ w' => Hp No w₀ w' (W0 :: x0), nC true false fun v3 _ w' => ∃ h0, v3 = .iface 122 (pT h0) ∧ Hp No w₀ w' ((N0 h0) :: W0 :: x0), nC true true fun v3 _ w' => ∃ h0, v3 = .iface 122 (pT h0) ∧ Hp No w₀ w' ((N0 h0) :: (rX b1 E64 ([(rB me ops ws).1, (rB me ops ws).2]) 83) :: x0)]
      refine MA (m := 7) [0, 0, 0, 6, 14, 31, 63] [3, 5] x0 r2 BA (fun _ e => q2.ext e) EC (fun X0 => ?_)
      refine gk 3 ?_
      refine WalkT.eff X0 0 ?_ ?_
      ·refine tA fun r w0 uw hF hE => ?_
       have Y0 := hF.ext hE
       refine gW fun Q' hK => (cl (AE 80 (i : Nat) 0 0 ({data := #[111, 112]}) (.iface 122 (pT n0)) uw uC ⟨n0, _, _, _, rfl, Nat.zero_le _, Y0.get (k := 1) rfl, rfl⟩ om) ?_)
       rintro _ G4 ⟨⟨s2, rfl, t2, u2⟩, y2⟩
       have z2 := (Y0.add1 y2 t2 u2).as (L' := (_ :: _ :: _ :: _ :: _ :: _ :: _ :: _ :: (EA 66 121 114 sb s1 ++ (F ++ R)))) rfl
       exact hK _ _ (E_ s2 (A_ rfl z2))
      refine gk 1 ?_
      refine WalkT.eff X0 1 ?_ ?_
      ·refine tA fun r w0 uw hF hE => ?_
       obtain ⟨h0, e3, Z0⟩ := hF
       replace Z0 := Z0.ext hE
       refine MC fun Q' hK => ?_
       refine go 1 ?_
       intro H4 A2 I4
       exact hK _ (fun _ => (E_ h0 (A_ e3 A2)))
      refine bA (fun r => r 3) (fun r r' h => h 3 (by decide) rfl) (fun _ _ => zA rfl) (WalkT.nil fun r w0 J4 hF hE => ?_)
      obtain ⟨h0, e3, F0⟩ := hF
      replace F0 := F0.ext hE
      dsimp only
      rw [e3]
      dsimp only [x0, N0] at F0
      refine go 0 ?_
      have B2 := (Hp.lrk (F0.pk 8 [0, 2, 1, 3, 4, 5, 6, 7]) 2 8 (by decide)).as (L' := [(rC h0 #[.string ({data := #[111, 112]}), iN i, iN (0 + 2), .iface 122 (pT n0)] 126), (rC n0 x5 126)] ++ (EA 66 121 114 sb s1 ++ (F ++ R))) rfl
      exact ⟨_, rfl, .inr ⟨hbad, [(rC h0 #[.string ({data := #[111, 112]}), iN i, iN (0 + 2), .iface 122 (pT n0)] 126), (rC n0 x5 126)], 1, _, (rB me ops ws).1, (rB me ops ws).2, rfl, (fun _ h => ⟨_, _, _, _, rfl, Nat.zero_le _, h _ (List.mem_cons_self) _ rfl, ⟨_, _, _, _, rfl, Nat.zero_le _, h _ (mT (List.mem_cons_self)) _ rfl, rfl⟩⟩), by omega, B2.lr.lr⟩⟩
    ·refine go 2 ?_
     refine iA ((o.kd : Int) = (9 : Int)) rfl (fun k9 => ?_) (fun k9 => ?_)
     ·by_cases hsu : 0 < s1.b.l.length
      ·refine go 0 ?_
       have hsv := hsu
       rw [hs1b, List.length_drop] at hsv
       refine go 2 ?_
       have C2 := (Hp.midQ (X := [(rC d0 x1 36), k0, (rC tb e0 96), c0, (rX a0 E64 ([(rB me ops ws).1, (rB me ops ws).2]) 83), (rX b1 E64 ([0#64, 0#64]) 83)]) (A := EA 66 121 114 sb s1) (Y := (F ++ R)) b0).as (L' := EA 66 121 114 sb s1 ++ ([(rC d0 x1 36), k0, (rC tb e0 96), c0, (rX a0 E64 ([(rB me ops ws).1, (rB me ops ws).2]) 83), (rX b1 E64 ([0#64, 0#64]) 83)] ++ (F ++ R))) rfl
       refine cl (Co.LG sb s1 hs1k ([(rC d0 x1 36), k0, (rC tb e0 96), c0, (rX a0 E64 ([(rB me ops ws).1, (rB me ops ws).2]) 83), (rX b1 E64 ([0#64, 0#64]) 83)] ++ (F ++ R)) w₀ l0 C2 om) ?_
       rintro _ K4 ⟨rfl, y0, D2, E2, F2, G2, H2⟩
       have I2 := (Hp.midQ (X := EA 66 121 114 sb y0) (A := [(rC d0 x1 36), k0, (rC tb e0 96), c0, (rX a0 E64 ([(rB me ops ws).1, (rB me ops ws).2]) 83), (rX b1 E64 ([0#64, 0#64]) 83)]) (Y := (F ++ R)) D2).as (L' := (_ :: _ :: _ :: _ :: _ :: _ :: (EA 66 121 114 sb y0 ++ (F ++ R)))) rfl
       refine go 3 ?_
       refine sq ((wB rfl).as (v' := .pointer (oC (sA (some b5)) (i * 6))) rfl) ?_
       refine go 1 ?_
       refine AG (E := IB) (k := 1) (l := ds) (j := i) (o := 1) (a := ds.getD i JB) (b := ({ ds.getD i JB with t := (s1.b.l).getD 0 tr0 } : Dr)) (v := .agg #[u64 ((s1.b.l).getD 0 tr0).a, u64 ((s1.b.l).getD 0 tr0).b, u64 ((s1.b.l).getD 0 tr0).c]) (vs := [u64 ((s1.b.l).getD 0 tr0).a, u64 ((s1.b.l).getD 0 tr0).b, u64 ((s1.b.l).getD 0 tr0).c]) I2 rfl hSd rfl rfl rfl vF rfl rfl (by intro u hu; simp at hu; rcases hu with rfl | rfl | rfl <;> rfl) (dB rfl) rfl (QA om) fun L4 J2 K2 => ?_
       have L2 := K2.as (L' := (_ :: _ :: _ :: _ :: _ :: _ :: (EA 66 121 114 sb y0 ++ (F ++ R)))) rfl
       refine go 5 ?_
       have hu2 : jA (WA me) ops (i + 1) = _ := lA ho (VJ om om)
       have M2 := ((L2.dropk 0)).as (L' := (((some b5), qA IB 91 (ds.set i ({ ds.getD i JB with t := (s1.b.l).getD 0 tr0 } : Dr)) (uA IB (List.replicate (ops.length - ops.length) JB))) :: (rC tb #[sO tk ws.length tc, .pointer none, iN ws.length, iN (VA me ops + jA (WA me) ops (i + 1))] 96) :: (tk, qA E64 34 ws ts) :: (rX a0 E64 ([(rB me ops ws).1, (rB me ops ws).2]) 83) :: (rX b1 E64 ([0#64, 0#64]) 83) :: (EA 66 121 114 sb y0 ++ (F ++ R)))) (by rw [hu2, ← Nat.add_assoc] <;> rfl)
       exact ⟨(i + 1, ds.set i ({ ds.getD i JB with t := (s1.b.l).getD 0 tr0 } : Dr), y0, F), _, rfl, kp, ⟨⟨om, WJ hdr om (by show (ds.getD i JB).w = _; rw [hdr.z i (Nat.le_refl _)]; exact QK ho om) (by show (s1.b.l).getD 0 tr0 = _; rw [hs1b, VF]; exact dt_b ho k9), J2, E2, by rw [G2]; rw [lA ho (show fA o = 0 from if_neg om)]; exact hs1t, by rw [F2, hs1b, List.drop_drop, lA ho (show fB o = 1 from if_pos k9)], by rw [H2]; rw [lA ho (show fO o = 0 from if_neg om)]; exact hs1o, nI hdg ho om _, by rw [hu2]; omega, by rw [lA ho (show fA o = 0 from if_neg om)]; omega, by rw [lA ho (show fB o = 1 from if_pos k9)]; omega⟩, M2⟩, vd⟩
      ·refine go 0 ?_
       have hbL : ¬ jA fB ops ops.length ≤ st.b.l.length := fun h1 => by rw [hs1b, List.length_drop] at hsu; have h := kH (f := fB) (ops := ops) (show i + 1 ≤ ops.length by omega); rw [lA ho (show fB o = 1 from if_pos k9)] at h; omega
       have hbad : ¬ (VA me ops + jA (WA me) ops ops.length ≤ ws.length ∧ jA fA ops ops.length ≤ st.t.l.length ∧ jA fB ops ops.length ≤ st.b.l.length) := fun h => hbL h.2.2
       obtain rfl : ec = 80 := Decidable.byContradiction fun hx => hbL (hB hx)
       refine go 2 ?_
       have := b0.lT 0
       have := b0.lT 2
       have := b0.lT 4
       have := b0.lT 5
       refine cl (Co.XM sb s1 l0 (b0.has _ (mT (mT (mT (mT (mT (mT ((List.mem_append_left _ List.mem_cons_self)))))))) _ rfl) uC om) ?_
       rintro _ M4 ⟨⟨_, rfl, N2⟩, O2⟩
       obtain ⟨o0, nm207, at208, v209, rfl, P2, Q2, hv212⟩ := N2
       let x6 : Array Value := #[.string nm207, i64 at208, iN (0 + 1), .iface 63 (i64 80)]
       replace hv212 : v209 = .iface 63 (i64 80) := hv212
       subst hv212
       have R2 := (b0.add1 O2 P2 Q2).as (L' := (_ :: _ :: _ :: _ :: _ :: _ :: _ :: (EA 66 121 114 sb s1 ++ (F ++ R)))) rfl
       refine go 3 ?_
       refine sq ((wB rfl).as (v' := .pointer (oC (sA (some b5)) (i * 6))) rfl) ?_
       refine go 1 ?_
       refine AG (E := IB) (k := 2) (l := ds) (j := i) (o := 1) (a := ds.getD i JB) (b := ({ ds.getD i JB with t := tr0 } : Dr)) (v := .agg #[u64 0#64, u64 0#64, u64 0#64]) (vs := [u64 tr0.a, u64 tr0.b, u64 tr0.c]) R2 rfl hSd rfl rfl rfl vF rfl rfl (by intro u hu; simp at hu; rcases hu with rfl | rfl | rfl <;> rfl) (dB rfl) rfl (QA om) fun N4 O4 S2 => ?_
       have T2 := S2.as (L' := (_ :: _ :: _ :: _ :: _ :: _ :: _ :: (EA 66 121 114 sb s1 ++ (F ++ R)))) rfl
       refine go 3 ?_
       have U2 := (T2.pk 7 [6, 0, 1, 2, 3, 4, 5])
       let A0 : List RW := ((rC o0 x6 126) :: (rC d0 x1 36) :: ((some b5), qA IB 91 (ds.set i ({ ds.getD i JB with t := tr0 } : Dr)) (uA IB (List.replicate (ops.length - ops.length) JB))) :: (rC tb e0 96) :: c0 :: (rX a0 E64 ([(rB me ops ws).1, (rB me ops ws).2]) 83) :: (EA 66 121 114 sb s1 ++ (F ++ R)))
       let c1 := ((rX b1 E64 ([0#64, 0#64]) 83) : RW)
       let O0 := fun (i0 : Nat) => ((rC i0 #[.string ({data := #[111, 112]}), iN i, iN (0 + 2), .iface 122 (pT o0)] 126) : RW)
       let V2 : mC := [nC false false fun _ _ w' => Hp No w₀ w' (c1 :: A0), nC true false fun v3 _ w' => ∃ i0, v3 = .iface 122 (pT i0) ∧ Hp No w₀ w' ((O0 i0) :: c1 :: A0), nC true true fun v3 _ w' => ∃ i0, v3 = .iface 122 (pT i0) ∧ Hp No w₀ w' ((O0 i0) :: (rX b1 E64 ([(rB me ops ws).1, (rB me ops ws).2]) 83) :: A0)]
       refine MA (m := 7) [0, 0, 0, 6, 14, 31, 63] [3, 5] A0 V2 BA (fun _ e => U2.ext e) EC (fun d1 => ?_)
       refine gk 3 ?_
       refine WalkT.eff d1 0 ?_ ?_
       ·refine tA fun r w0 uw hF hE => ?_
        have e1 := hF.ext hE
        refine gW fun Q' hK => (cl (AE 80 (i : Nat) 0 0 ({data := #[111, 112]}) (.iface 122 (pT o0)) uw uC ⟨o0, _, _, _, rfl, Nat.zero_le _, e1.get (k := 1) rfl, rfl⟩ om) ?_)
        rintro _ P4 ⟨⟨X2, rfl, Y2, Z2⟩, c3⟩
        have d3 := (e1.add1 c3 Y2 Z2).as (L' := (_ :: _ :: _ :: _ :: _ :: _ :: _ :: _ :: (EA 66 121 114 sb s1 ++ (F ++ R)))) rfl
        exact hK _ _ (E_ X2 (A_ rfl d3))
       refine gk 1 ?_
       refine WalkT.eff d1 1 ?_ ?_
       ·refine tA fun r w0 uw hF hE => ?_
        obtain ⟨i0, e3, g1⟩ := hF
        replace g1 := g1.ext hE
        refine MC fun Q' hK => ?_
        refine go 1 ?_
        intro Q4 f3 R4
        exact hK _ (fun _ => (E_ i0 (A_ e3 f3)))
       refine bA (fun r => r 3) (fun r r' h => h 3 (by decide) rfl) (fun _ _ => zA rfl) (WalkT.nil fun r w0 S4 hF hE => ?_)
       obtain ⟨i0, e3, G0⟩ := hF
       replace G0 := G0.ext hE
       dsimp only
       rw [e3]
       dsimp only [A0, O0] at G0
       refine go 0 ?_
       have g3 := (Hp.lrk (G0.pk 8 [0, 2, 1, 3, 4, 5, 6, 7]) 2 8 (by decide)).as (L' := [(rC i0 #[.string ({data := #[111, 112]}), iN i, iN (0 + 2), .iface 122 (pT o0)] 126), (rC o0 x6 126)] ++ (EA 66 121 114 sb s1 ++ (F ++ R))) rfl
       exact ⟨_, rfl, .inr ⟨hbad, [(rC i0 #[.string ({data := #[111, 112]}), iN i, iN (0 + 2), .iface 122 (pT o0)] 126), (rC o0 x6 126)], 1, _, (rB me ops ws).1, (rB me ops ws).2, rfl, (fun _ h => ⟨_, _, _, _, rfl, Nat.zero_le _, h _ (List.mem_cons_self) _ rfl, ⟨_, _, _, _, rfl, Nat.zero_le _, h _ (mT (List.mem_cons_self)) _ rfl, rfl⟩⟩), by omega, g3.lr.lr⟩⟩
     ·refine go 2 ?_
      refine iA ((o.kd : Int) = (17 : Int)) rfl (fun B0 => ?_) (fun B0 => ?_)
      ·have hgol : 64 * qB o ≤ s1.o.l.length := by
        rw [hs1o, List.length_drop]; have h := kH (f := fO) (ops := ops) (show i + 1 ≤ ops.length by omega); rw [lA ho (show fO o = 64 * qB o from if_pos B0)] at h; omega
       by_cases hgtl : (VA me ops + jA (WA me) ops i) + 2 * (if me = 0 then 128 * qB o else 0) ≤ ws.length
       ·refine go 5 ?_
        have h3 := (Hp.midP (P := [k0, (rC tb e0 96), c0]) (X := [(rC d0 x1 36), (rX a0 E64 ([(rB me ops ws).1, (rB me ops ws).2]) 83), (rX b1 E64 ([0#64, 0#64]) 83)]) (A := EA 66 121 114 sb s1) (Y := F ++ R) (b0.pk 6 [1, 2, 3, 0, 4, 5])).as (L' := (_ :: _ :: _ :: (EA 66 121 114 sb s1 ++ ([(rC d0 x1 36), (rX a0 E64 ([(rB me ops ws).1, (rB me ops ws).2]) 83), (rX b1 E64 ([0#64, 0#64]) 83)] ++ (F ++ R))))) rfl
        refine cl (lL (ZI o me hme i (some b5) ops.length (uA IB (List.replicate (ops.length - ops.length) JB)) ds hSd om (hdr.z i (Nat.le_refl _)) tb tk tc ts ws hSw hwl sb s1 hs1k ([(rC d0 x1 36), (rX a0 E64 ([(rB me ops ws).1, (rB me ops ws).2]) 83), (rX b1 E64 ([0#64, 0#64]) 83)] ++ (F ++ R)) w₀ l0 (VA me ops + jA (WA me) ops i) (if me = 0 then 128 * qB o else 0) rfl hgol om hG h3) hgtl) ?_
        rintro _ T4 ⟨dd265, G266, H0, rfl, hgw, hgt, hgo, hgz, i3, j3, k3, l3, m3, n3⟩
        have o3 := (Hp.midPB (P := [((some b5), qA IB 91 (ds.set i dd265) (uA IB (List.replicate (ops.length - ops.length) JB))), (rC tb #[sO tk ws.length tc, .pointer none, iN ws.length, iN ((VA me ops + jA (WA me) ops i) + 2 * (if me = 0 then 128 * qB o else 0))] 96), c0]) (X := EA 66 121 114 sb H0) (B := G266) (A := [(rC d0 x1 36), (rX a0 E64 ([(rB me ops ws).1, (rB me ops ws).2]) 83), (rX b1 E64 ([0#64, 0#64]) 83)]) (Y := F ++ R) n3).as (L' := (_ :: _ :: _ :: _ :: _ :: _ :: (EA 66 121 114 sb H0 ++ (G266 ++ (F ++ R))))) rfl
        refine go 5 ?_
        have hu2 : jA (WA me) ops (i + 1) = _ := lA ho (BM B0 rfl)
        have p3 := ((o3.dropk 3)).as (L' := (((some b5), qA IB 91 (ds.set i dd265) (uA IB (List.replicate (ops.length - ops.length) JB))) :: (rC tb #[sO tk ws.length tc, .pointer none, iN ws.length, iN (VA me ops + jA (WA me) ops (i + 1))] 96) :: (tk, qA E64 34 ws ts) :: (rX a0 E64 ([(rB me ops ws).1, (rB me ops ws).2]) 83) :: (rX b1 E64 ([0#64, 0#64]) 83) :: (EA 66 121 114 sb H0 ++ ((G266 ++ F) ++ R)))) (by rw [hu2, ← Nat.add_assoc, List.append_assoc] <;> rfl)
        exact ⟨(i + 1, ds.set i dd265, H0, (G266 ++ F)), _, rfl, kp, ⟨⟨om, WJ hdr om (by rw [hgw]; exact QK ho om) (by rw [hgt]; exact CM ho om om), i3, j3, by rw [k3]; rw [lA ho (show fA o = 0 from if_neg om)]; exact hs1t, by rw [l3]; rw [lA ho (show fB o = 0 from if_neg om)]; exact hs1b, by rw [m3, hs1o, List.drop_drop, lA ho (show fO o = 64 * qB o from if_pos B0)], rS hdg ho om (by rw [hs1o] at hgo; exact hgo) (fun hm => by have h := hgz hm; rw [if_pos hm] at h; exact h), by rw [hu2]; omega, by rw [lA ho (show fA o = 0 from if_neg om)]; omega, by rw [lA ho (show fB o = 0 from if_neg om)]; omega⟩, p3⟩, vd⟩
       ·refine go 0 ?_
        have hbL : ¬ VA me ops + jA (WA me) ops ops.length ≤ ws.length := fun h1 => by have h := kH (f := (WA me)) (ops := ops) (show i + 1 ≤ ops.length by omega); rw [lA ho (BM B0 rfl)] at h; omega
        have hbad : ¬ (VA me ops + jA (WA me) ops ops.length ≤ ws.length ∧ jA fA ops ops.length ≤ st.t.l.length ∧ jA fB ops ops.length ≤ st.b.l.length) := fun h => hbL h.1
        obtain rfl : ec = 40 := Decidable.byContradiction fun hx => hbL (hT hx)
        refine go 5 ?_
        have q3 := (Hp.midP (P := [k0, (rC tb e0 96), c0]) (X := [(rC d0 x1 36), (rX a0 E64 ([(rB me ops ws).1, (rB me ops ws).2]) 83), (rX b1 E64 ([0#64, 0#64]) 83)]) (A := EA 66 121 114 sb s1) (Y := F ++ R) (b0.pk 6 [1, 2, 3, 0, 4, 5])).as (L' := (_ :: _ :: _ :: (EA 66 121 114 sb s1 ++ ([(rC d0 x1 36), (rX a0 E64 ([(rB me ops ws).1, (rB me ops ws).2]) 83), (rX b1 E64 ([0#64, 0#64]) 83)] ++ (F ++ R))))) rfl
        refine cl (nN (ZI o me hme i (some b5) ops.length (uA IB (List.replicate (ops.length - ops.length) JB)) ds hSd om (hdr.z i (Nat.le_refl _)) tb tk tc ts ws hSw hwl sb s1 hs1k ([(rC d0 x1 36), (rX a0 E64 ([(rB me ops ws).1, (rB me ops ws).2]) 83), (rX b1 E64 ([0#64, 0#64]) 83)] ++ (F ++ R)) w₀ l0 (VA me ops + jA (WA me) ops i) (if me = 0 then 128 * qB o else 0) rfl hgol om hG q3) hgtl) ?_
        rintro _ U4 ⟨p0, nm280, at281, rfl, r3⟩
        let x7 : Array Value := #[.string nm280, i64 at281, iN (0 + 1), .iface 63 (i64 40)]
        have s3 := r3.as (L' := (_ :: _ :: _ :: _ :: (F ++ R))) rfl
        refine go 3 ?_
        have t3 := (s3.pk 4 [3, 0, 1, 2])
        let C0 : List RW := ((rC p0 x7 126) :: (rC d0 x1 36) :: (rX a0 E64 ([(rB me ops ws).1, (rB me ops ws).2]) 83) :: (F ++ R))
        let i1 := ((rX b1 E64 ([0#64, 0#64]) 83) : RW)
        let P0 := fun (j0 : Nat) => ((rC j0 #[.string ({data := #[111, 112]}), iN i, iN (0 + 2), .iface 122 (pT p0)] 126) : RW)
        let u3 : mC := [nC false false fun _ _ w' => Hp No w₀ w' (i1 :: C0), nC true false fun v3 _ w' => ∃ j0, v3 = .iface 122 (pT j0) ∧ Hp No w₀ w' ((P0 j0) :: i1 :: C0), nC true true fun v3 _ w' => ∃ j0, v3 = .iface 122 (pT j0) ∧ Hp No w₀ w' ((P0 j0) :: (rX b1 E64 ([(rB me ops ws).1, (rB me ops ws).2]) 83) :: C0)]
        refine MA (m := 7) [0, 0, 0, 6, 14, 31, 63] [3, 5] C0 u3 BA (fun _ e => t3.ext e) EC (fun j1 => ?_)
        refine gk 3 ?_
        refine WalkT.eff j1 0 ?_ ?_
        ·refine tA fun r w0 uw hF hE => ?_
         have l1 := hF.ext hE
         refine gW fun Q' hK => (cl (AE 40 (i : Nat) 0 0 ({data := #[111, 112]}) (.iface 122 (pT p0)) uw uC ⟨p0, _, _, _, rfl, Nat.zero_le _, l1.get (k := 1) rfl, rfl⟩ om) ?_)
         rintro _ V4 ⟨⟨w3, rfl, y3, z3⟩, A3⟩
         have B3 := (l1.add1 A3 y3 z3).as (L' := (_ :: _ :: _ :: _ :: _ :: (F ++ R))) rfl
         exact hK _ _ (E_ w3 (A_ rfl B3))
        refine gk 1 ?_
        refine WalkT.eff j1 1 ?_ ?_
        ·refine tA fun r w0 uw hF hE => ?_
         obtain ⟨j0, e3, m1⟩ := hF
         replace m1 := m1.ext hE
         refine MC fun Q' hK => ?_
         refine go 1 ?_
         intro W4 C3 X4
         exact hK _ (fun _ => (E_ j0 (A_ e3 C3)))
        refine bA (fun r => r 3) (fun r r' h => h 3 (by decide) rfl) (fun _ _ => zA rfl) (WalkT.nil fun r w0 Y4 hF hE => ?_)
        obtain ⟨j0, e3, I0⟩ := hF
        replace I0 := I0.ext hE
        dsimp only
        rw [e3]
        dsimp only [C0, P0] at I0
        refine go 0 ?_
        have D3 := (Hp.lrk (I0.pk 5 [0, 2, 1, 3, 4]) 2 5 (by decide)).as (L' := [(rC j0 #[.string ({data := #[111, 112]}), iN i, iN (0 + 2), .iface 122 (pT p0)] 126), (rC p0 x7 126)] ++ (F ++ R)) rfl
        exact ⟨_, rfl, .inr ⟨hbad, [(rC j0 #[.string ({data := #[111, 112]}), iN i, iN (0 + 2), .iface 122 (pT p0)] 126), (rC p0 x7 126)], 1, _, (rB me ops ws).1, (rB me ops ws).2, rfl, (fun _ h => ⟨_, _, _, _, rfl, Nat.zero_le _, h _ (List.mem_cons_self) _ rfl, ⟨_, _, _, _, rfl, Nat.zero_le _, h _ (mT (List.mem_cons_self)) _ rfl, rfl⟩⟩), by omega, D3.lr⟩⟩
      ·refine go 4 ?_
       have hu2 : jA (WA me) ops (i + 1) = _ := lA ho (VJ om om)
       have E3 := ((b0.dropk 0)).as (L' := (((some b5), qA IB 91 ds (uA IB (List.replicate (ops.length - ops.length) JB))) :: (rC tb #[sO tk ws.length tc, .pointer none, iN ws.length, iN (VA me ops + jA (WA me) ops (i + 1))] 96) :: (tk, qA E64 34 ws ts) :: (rX a0 E64 ([(rB me ops ws).1, (rB me ops ws).2]) 83) :: (rX b1 E64 ([0#64, 0#64]) 83) :: (EA 66 121 114 sb s1 ++ (F ++ R)))) (by rw [hu2, ← Nat.add_assoc] <;> rfl)
       exact ⟨(i + 1, ds, s1, F), _, rfl, kp, ⟨⟨om, DM hdr (QK ho om) (CM ho om om), hSd, hs1k, by rw [lA ho (show fA o = 0 from if_neg om)]; exact hs1t, by rw [lA ho (show fB o = 0 from if_neg om)]; exact hs1b, by rw [lA ho (show fO o = 0 from if_neg om)]; exact hs1o, RK hdg ho om, by rw [hu2]; omega, by rw [lA ho (show fA o = 0 from if_neg om)]; omega, by rw [lA ho (show fB o = 0 from if_neg om)]; omega⟩, E3⟩, vd⟩
  ·have hie : i = ops.length := by omega
   subst hie
   refine go 0 ?_
   have F3 := (r0.pk 5 [4, 0, 1, 2, 3])
   let J0 : List RW := (((some b5), qA IB 91 ds (uA IB (List.replicate (ops.length - ops.length) JB))) :: (rC tb #[x2, .pointer none, iN ws.length, iN (VA me ops + jA (WA me) ops ops.length)] 96) :: c0 :: (rX a0 E64 ([(rB me ops ws).1, (rB me ops ws).2]) 83) :: (EA 66 121 114 sb s1 ++ (F ++ R)))
   let G3 : mC := [XF false fun _ w' => Hp No w₀ w' ((rX b1 E64 ([0#64, 0#64]) 83) :: J0), XF true fun _ w' => Hp No w₀ w' ((rX b1 E64 ([(rB me ops ws).1, (rB me ops ws).2]) 83) :: J0)]
   refine MA (m := 5) [0, 0, 1, 7, 15] [3] J0 G3 BA (fun _ e => F3.ext e) EC (fun I3 => ?_)
   refine gk 3 ?_
   refine WalkT.eff I3 0 ?_ ?_
   ·refine tA fun r w0 uw hF hE => ?_
    have Z4 := hF.ext hE
    refine MC fun Q' hK => ?_
    refine go 1 ?_
    intro c5 J3 d5
    exact hK _ (fun _ => J3)
   refine gk 1 ?_
   refine WalkT.nil fun r w0 e5 hF hE => ?_
   have n1 := hF.ext hE
   dsimp only
   dsimp only [J0] at n1
   refine go 0 ?_
   exact ⟨_, rfl, .inl ⟨⟨hgT, hgA, hgB⟩, (some b5), ops.length, (uA IB (List.replicate (ops.length - ops.length) JB)), ds, s1, F, rfl, hSd, hdr, hs1k, hs1t, hs1b, hs1o, hdg, ((n1.dropk 4).dropk 0)⟩⟩
 ·refine go 3 ?_
  refine AA (σ := Nat) (fun i => [(0, .slice oa ops.length oc), (1, iN me), (2, pT tb), (3, pT sb), (8, yA), (9, pT b1), (10, .nilIface), (11, sO (some b5) ops.length ops.length), (12, pT a0), (13, .nilIface), (22, .slice oa ops.length oc), (23, iN ops.length), (24, iN i)]) (fun i w' => (i ≤ ops.length ∧ (me = 0 → jA fG ops i = 0)) ∧ Hp No w₀ w' (x3 :: (rC tb #[x2, .pointer none, iN ws.length, iN 0] 96) :: c0 :: (rX a0 E64 ([0#64, 0#64]) 83) :: x9)) (fun i => ops.length - i) (0) ?_ ?_ ?_
  ·exact kp
  ·exact ⟨⟨Nat.zero_le _, fun _ => rfl⟩, (t1.pk 5 [1, 3, 4, 0, 2])⟩
  rintro i ρ f5 ⟨⟨hq, hgi⟩, HL⟩
  refine go 1 ?_
  refine iA (((i : Nat) : Int) < (ops.length : Nat)) rfl (fun K3 => ?_) (fun K3 => ?_)
  ·refine go 0 ?_
   refine sq (TC (E := xE) (l := ops) (j := i) vF (hO _ HL.chg (fun p hp => HL.has p (mT (mT (mT (mT (mT ((List.mem_append_right _ hp))))))))) rfl rfl vo (by rfl) om) (sq ((AD (E := xE) (l := ops) (j := i) (v := ops.getD i DB) eH (hO _ HL.chg (fun p hp => HL.has p (mT (mT (mT (mT (mT ((List.mem_append_right _ hp))))))))) rfl rfl (QA om)).as (v' := .agg #[i64 ((ops.getD i DB).kd), i64 ((ops.getD i DB).a), i64 ((ops.getD i DB).b), i64 ((ops.getD i DB).k), u64 ((ops.getD i DB).c), i64 ((ops.getD i DB).pt)]) rfl) ?_)
   refine go 1 ?_
   intro L3 g5 h5 i5 j5
   refine go 1 ?_
   intro o1 q0 k5
   refine go 4 ?_
   refine XA (B := (decide (((ops.getD i DB).kd : Int) = (17 : Int)))) (v := iN me) (wA (d' := 31) (B := true) rfl rfl rfl) (fun hB => CA (v := iN me) rfl) (XA (B := (decide (((ops.getD i DB).kd : Int) = (17 : Int)))) (v := .bool (decide (((me : Nat) : Int) = (0 : Int)))) (wA (d' := 31) (B := true) rfl rfl rfl) (fun hB => by simp only [vD (v := _) (h := hB)]; exact iB rfl rfl) (sq (yB (B := true) rfl rfl rfl rfl) ?_))
   refine go 0 ?_
   refine PC ((decide (((ops.getD i DB).kd : Int) = (17 : Int)) && decide (((me : Nat) : Int) = (0 : Int)))) rfl (fun K0 => ?_) (fun K0 => ?_)
   ·have hc := Bool.and_eq_true_iff.1 K0
    have hc1 := of_decide_eq_true hc.1
    have hc2 := of_decide_eq_true hc.2
    have hm0 : me = 0 := by omega
    have hgp : 0 < jA fG ops ops.length := EM ops.length (show i < ops.length by omega) (by rw [fG, if_pos hc1]; decide)
    have hdl0 : VA me ops = 2 := if_pos ⟨hm0, hgp⟩
    refine go 0 ?_
    by_cases l5 : 2 ≤ ws.length
    ·refine go 1 ?_
     refine cl (QI tb tc 0 (sA tk) ws o1 gF (OJ q0 (i := 2) (j := 3) rfl rfl rfl hSw) om om) ?_
     rintro _ m5 ⟨rfl, M3, N3⟩
     have n5 := (q0.set (k := 2) rfl M3 N3).as (L' := (_ :: _ :: _ :: _ :: _ :: _ :: (EA 66 121 114 sb st ++ R))) rfl
     refine go 4 ?_
     intro o5 p5 q5
     refine go 8 ?_
     intro r5 O3 s5
     refine jF (EF (rF rfl (HD (HD (fE (RA ?_))))))
     have hdl : VA me ops = 0 + 2 := if_pos ⟨hm0, hgp⟩
     have hdv : rB me ops ws = ((ws.getD 0 0#64) ||| (1#64), ws.getD (0 + 1) 0#64) := if_pos ⟨hm0, hgp⟩
     have P3 := ((O3.dropk 0)).as (L' := (((some b5), qA IB 91 (List.replicate ops.length JB) (uA IB (List.replicate (ops.length - ops.length) JB))) :: (rC tb #[sO tk ws.length tc, .pointer none, iN ws.length, iN (VA me ops)] 96) :: (tk, qA E64 34 ws ts) :: (rX a0 E64 ([(rB me ops ws).1, (rB me ops ws).2]) 83) :: (rX b1 E64 ([0#64, 0#64]) 83) :: (EA 66 121 114 sb st ++ R))) (by rw [hdl, hdv] <;> rfl)
     exact R0 () _ _ kp ⟨by rw [hdl]; omega, P3⟩
    ·refine go 0 ?_
     have hbL : ¬ VA me ops + jA (WA me) ops ops.length ≤ ws.length := fun h1 => by omega
     have hbad : ¬ (VA me ops + jA (WA me) ops ops.length ≤ ws.length ∧ jA fA ops ops.length ≤ st.t.l.length ∧ jA fB ops ops.length ≤ st.b.l.length) := fun h => hbL h.1
     obtain rfl : ec = 40 := Decidable.byContradiction fun hx => hbL (hT hx)
     refine go 1 ?_
     have := q0.lT 0
     have := q0.lT 2
     have := q0.lT 4
     have := q0.lT 5
     refine cl (RI tb ws.length 0 (sO tk ws.length tc) (.pointer none) o1 uC gF om om om) ?_
     rintro _ t5 ⟨⟨_, rfl, Q3⟩, R3⟩
     obtain ⟨Q0, nm380, at381, v382, rfl, S3, T3, hv385⟩ := Q3
     let x4 : Array Value := #[.string nm380, i64 at381, iN (0 + 1), .iface 63 (i64 40)]
     replace hv385 : v382 = .iface 63 (i64 40) := hv385
     subst hv385
     have u5 := (q0.add1 R3 S3 T3).as (L' := (_ :: _ :: _ :: _ :: _ :: _ :: _ :: (EA 66 121 114 sb st ++ R))) rfl
     refine go 4 ?_
     intro w5 U3 y5
     refine go 3 ?_
     let L0 : List RW := ((rC Q0 x4 126) :: (rC L3 #[i64 ((ops.getD i DB).kd), i64 ((ops.getD i DB).a), i64 ((ops.getD i DB).b), i64 ((ops.getD i DB).k), u64 ((ops.getD i DB).c), i64 ((ops.getD i DB).pt)] 36) :: x3 :: (rC tb #[x2, .pointer none, iN ws.length, iN 0] 96) :: c0 :: (rX a0 E64 ([0#64, 0#64]) 83) :: (rX b1 E64 ([0#64, 0#64]) 83) :: (EA 66 121 114 sb st ++ R))
     let V3 : mC := [XF false fun _ w' => Hp No w₀ w' L0, XF true fun _ w' => Hp No w₀ w' L0]
     refine MA (m := 5) [0, 0, 0, 5, 15] [3] L0 V3 BA (fun _ e => U3.ext e) EC (fun W3 => ?_)
     refine gk 3 ?_
     refine WalkT.eff W3 0 ?_ ?_
     ·refine tA fun r w0 uw hF hE => ?_
      have z5 := hF.ext hE
      refine MC fun Q' hK => ?_
      refine go 1 ?_
      intro A5 X3 B5
      exact hK _ (fun _ => X3)
     refine gk 1 ?_
     refine WalkT.nil fun r w0 C5 hF hE => ?_
     have p1 := hF.ext hE
     dsimp only
     dsimp only [L0] at p1
     refine go 0 ?_
     have Y3 := (Hp.lrk p1 1 7 (by decide)).as (L' := [(rC Q0 x4 126)] ++ (EA 66 121 114 sb st ++ R)) rfl
     exact ⟨_, rfl, .inr ⟨hbad, [(rC Q0 x4 126)], 0, _, 0#64, 0#64, rfl, (fun _ h => ⟨_, _, _, _, rfl, Nat.zero_le _, h _ (List.mem_cons_self) _ rfl, rfl⟩), by omega, Y3.lr⟩⟩
   ·refine go 2 ?_
    exact ⟨i + 1, _, rfl, kp, ⟨⟨om, fun hm => by rw [jA, hgi hm, fG, if_neg (fun e => by rw [decide_eq_true e, decide_eq_true (show ((me : Nat) : Int) = 0 by omega)] at K0; cases K0)]⟩, (q0.dropk 0)⟩, vd⟩
  ·have hie : i = ops.length := by omega
   subst hie
   refine EF (HD (HD (fE (RA ?_))))
   have hdl : VA me ops = 0 := if_neg (fun h => by have := hgi h.1; omega)
   have hdv : rB me ops ws = (0#64, 0#64) := if_neg (fun h => by have := hgi h.1; omega)
   have Z3 := HL.as (L' := (((some b5), qA IB 91 (List.replicate ops.length JB) (uA IB (List.replicate (ops.length - ops.length) JB))) :: (rC tb #[sO tk ws.length tc, .pointer none, iN ws.length, iN (VA me ops)] 96) :: (tk, qA E64 34 ws ts) :: (rX a0 E64 ([(rB me ops ws).1, (rB me ops ws).2]) 83) :: (rX b1 E64 ([0#64, 0#64]) 83) :: (EA 66 121 114 sb st ++ R))) (by rw [hdl, hdv] <;> rfl)
   exact R0 () _ _ kp ⟨by rw [hdl]; omega, Z3⟩
end Go.Proofs.YtohngnahcgbfmaaGreatDoor.Mu
namespace Go.Proofs.YtohngnahcgbfmaaGreatDoor.Ms
open Go Vc Er Ek Circ Mi
open Co Cm
theorem dJ : OA Tryz.prog 83 = true := by kernel_rfl
theorem HT : ZF Tryz.prog 83 = some 16 := by kernel_rfl
theorem tQ : mA Tryz.prog 36 = true := by kernel_rfl
theorem IK : xI Tryz.prog 31 = true := by kernel_rfl
theorem BA : Tryz.prog.follows .mixedOrders = true := by kernel_rfl
theorem sT : NA Tryz.prog 40 = true := by kernel_rfl
theorem aW : NA Tryz.prog 89 = true := by kernel_rfl
theorem jT : UB Tryz.prog 40 = some 1 := by kernel_rfl
theorem GI : UB Tryz.prog 83 = some 2 := by kernel_rfl
theorem RV : UB Tryz.prog 89 = some 1 := by kernel_rfl
theorem GO : eD Tryz.prog 40 = some (121, 5) := by kernel_rfl
theorem fT : eD Tryz.prog 89 = some (83, 2) := by kernel_rfl
theorem yI : YB Tryz.prog 83 = some (.agg (List.replicate 2 (.int .u64 0)).toArray) := by kernel_rfl
end Go.Proofs.YtohngnahcgbfmaaGreatDoor.Ms
namespace Go.Proofs.YtohngnahcgbfmaaGreatDoor.Ms
open Go Vc Er Ek Circ Mi
open Co Cm
theorem bJ : jD Tryz.prog 83 = some (2, 1) := by kernel_rfl
theorem GT : ZF Tryz.prog 91 = some 80 := by kernel_rfl
theorem VE : wC Tryz.prog 34 E64 := UE (by kernel_rfl) (by kernel_rfl)
theorem eH : wC Tryz.prog 36 xE := kI (by kernel_rfl) (by kernel_rfl)
theorem RJ : TB Tryz.prog 36 0 = some (0, 1, 33) := by kernel_rfl
theorem QJ : TB Tryz.prog 36 5 = some (5, 1, 3) := by kernel_rfl
theorem sM : TB Tryz.prog 91 0 = some (0, 1, 34) := by kernel_rfl
theorem mL : NA Tryz.prog 3 = true := by kernel_rfl
theorem yP : NA Tryz.prog 33 = true := by kernel_rfl
theorem QL : UB Tryz.prog 34 = some 1 := by kernel_rfl
theorem KO : UB Tryz.prog 66 = some 3 := by kernel_rfl
theorem HO : eD Tryz.prog 22 = some (36, 6) := by kernel_rfl
theorem iT : eD Tryz.prog 80 = some (91, 6) := by kernel_rfl
theorem YS : YB Tryz.prog 91 = some (.agg #[.int .u64 0, .int .u64 0, .int .u64 0, .int .u64 0, yA, yA]) := by kernel_rfl
end Go.Proofs.YtohngnahcgbfmaaGreatDoor.Ms
namespace Go.Proofs.YtohngnahcgbfmaaGreatDoor.Ms
open Go Vc Er Ek Circ Mi
open Co Cm
theorem wM : TB Tryz.prog 36 3 = some (3, 1, 3) := by kernel_rfl
theorem vM : TB Tryz.prog 36 4 = some (4, 1, 34) := by kernel_rfl
theorem dM : NA Tryz.prog 34 = true := by kernel_rfl
theorem BO : Tryz.prog.underlying 3 = some (.int .i64) := by kernel_rfl
theorem mK : Tryz.prog.underlying 34 = some (.int .u64) := by kernel_rfl
theorem aQ (x : BitVec 64) (k : Int) (w : World) : Ca 76 [u64 x, i64 k] w fun v w' => v = u64 (qW x k) ∧ Ext w w' := by
 have H := Hp.start No w
 refine enter (n := 12) Tryz.func76 rfl rfl (dB rfl) ?_
 refine go 6 ?_
 refine sq (mU rfl rfl om om) ?_
 refine go 2 ?_
 exact ⟨_, rfl, rfl, H.chg⟩
theorem ZM (x : BitVec 64) (w : World) : Ca 77 [u64 x] w fun v w' => v = u64 (QV x) ∧ Ext w w' := by
 have H := Hp.start No w
 refine enter (n := 6) Tryz.func77 rfl rfl (dB rfl) ?_
 refine go 3 ?_
 refine sq (mR (a := x &&& (1#64)) rfl) ?_
 refine go 1 ?_
 exact ⟨_, rfl, rfl, H.chg⟩
theorem mJ (a b c d : BitVec 64) (w : World) : Ca 28 [.agg (uA E64 [a, b]).toArray, .agg (uA E64 [c, d]).toArray] w fun v w' => v = .agg (uA E64 [(a ^^^ c), (b ^^^ d)]).toArray ∧ Ext w w' := by
 have H := Hp.start No w
 refine enter (n := 16) Tryz.func28 rfl rfl (dB rfl) ?_
 refine go 1 ?_
 intro b1 w2 b0 H3 c0
 refine go 1 ?_
 intro b5 w6 d0 H7 e0
 refine go 1 ?_
 intro b9 f0 h0 i0 j0
 refine go 12 ?_
 intro k0 a0 l0
 refine go 0 ?_
 exact ⟨_, rfl, rfl, a0.chg⟩
theorem FK (o : Mo) (me : Int) (hm : 0 ≤ me ∧ me ≤ 1) (a b : BitVec 64) (hk : 0 ≤ o.k) (w : World) : Ca 50 [.agg #[i64 (o.kd), i64 (o.a), i64 (o.b), i64 (o.k), u64 (o.c), i64 (o.pt)], i64 me, u64 a, u64 b] w fun v w' => v = u64 (jE o me a b) ∧ Ext w w' := by
 have H := Hp.start No w
 refine enter (n := 92) Tryz.func50 rfl rfl (dB rfl) ?_
 refine go 1 ?_
 intro b1 w2 s0 H3 u0
 refine go 5 ?_
 refine iA ((o.kd : Int) = (2 : Int)) rfl (fun d0 => ?_) (fun d0 => ?_)
 ·refine go 7 ?_
  exact ⟨_, rfl, congrArg u64 (by unfold jE eK; simp [d0]), H3.chg⟩
 ·refine go 2 ?_
  refine iA ((o.kd : Int) = (3 : Int)) rfl (fun e0 => ?_) (fun e0 => ?_)
  ·refine go 4 ?_
   exact ⟨_, rfl, congrArg u64 (by unfold jE eK; simp [e0]), H3.chg⟩
  ·refine go 2 ?_
   refine iA ((o.kd : Int) = (4 : Int)) rfl (fun f0 => ?_) (fun f0 => ?_)
   ·refine go 4 ?_
    exact ⟨_, rfl, congrArg u64 (by unfold jE eK; simp [f0]), H3.chg⟩
   ·refine go 2 ?_
    refine iA ((o.kd : Int) = (5 : Int)) rfl (fun h0 => ?_) (fun h0 => ?_)
    ·refine go 5 ?_
     exact ⟨_, rfl, congrArg u64 (by unfold jE eK; simp [h0]), H3.chg⟩
    ·refine go 2 ?_
     refine iA ((o.kd : Int) = (7 : Int)) rfl (fun i0 => ?_) (fun i0 => ?_)
     ·refine go 4 ?_
      exact ⟨_, rfl, congrArg u64 (by unfold jE eK; simp [i0]), H3.chg⟩
     ·refine go 2 ?_
      refine iA ((o.kd : Int) = (8 : Int)) rfl (fun j0 => ?_) (fun j0 => ?_)
      ·refine go 9 ?_
       exact ⟨_, rfl, congrArg u64 (by unfold jE eK; simp [j0]), H3.chg⟩
      ·refine go 2 ?_
       refine iA ((o.kd : Int) = (10 : Int)) rfl (fun k0 => ?_) (fun k0 => ?_)
       ·refine go 5 ?_
        exact ⟨_, rfl, congrArg u64 (by unfold jE eK; simp [k0]), H3.chg⟩
       ·refine go 2 ?_
        refine iA ((o.kd : Int) = (11 : Int)) rfl (fun l0 => ?_) (fun l0 => ?_)
        ·refine go 2 ?_
         refine sq ((DA (v := i64 (o.k)) vF (H3.get (k := 0) rfl) (off := 3) rfl (by rfl)).as (v' := iN o.k.toNat) (by exact congrArg i64 (Int.toNat_of_nonneg hk).symm)) ?_
         refine go 2 ?_
         exact ⟨_, rfl, congrArg u64 (by unfold jE eK; simp [l0]), H3.chg⟩
        ·refine go 2 ?_
         refine iA ((o.kd : Int) = (12 : Int)) rfl (fun m0 => ?_) (fun m0 => ?_)
         ·refine go 2 ?_
          refine sq ((DA (v := i64 (o.k)) vF (H3.get (k := 0) rfl) (off := 3) rfl (by rfl)).as (v' := iN o.k.toNat) (by exact congrArg i64 (Int.toNat_of_nonneg hk).symm)) ?_
          refine go 2 ?_
          exact ⟨_, rfl, congrArg u64 (by unfold jE eK; simp [m0]), H3.chg⟩
         ·refine go 2 ?_
          refine iA ((o.kd : Int) = (13 : Int)) rfl (fun n0 => ?_) (fun n0 => ?_)
          ·refine go 3 ?_
           refine cl (aQ a o.k w2) ?_
           rintro _ w5 ⟨rfl, p0⟩
           have H7 := H3.ext p0
           refine go 1 ?_
           exact ⟨_, rfl, congrArg u64 (by unfold jE eK; simp [n0]), H7.chg⟩
          ·refine go 2 ?_
           refine iA ((o.kd : Int) = (14 : Int)) rfl (fun o0 => ?_) (fun o0 => ?_)
           ·refine go 1 ?_
            refine cl (ZM a w2) ?_
            rintro _ w8 ⟨rfl, q0⟩
            have r0 := H3.ext q0
            refine go 1 ?_
            exact ⟨_, rfl, congrArg u64 (by unfold jE eK; simp [o0]), r0.chg⟩
           ·refine go 2 ?_
            refine iA ((o.kd : Int) = (16 : Int)) rfl (fun b0 => ?_) (fun b0 => ?_)
            ·refine go 2 ?_
             refine sq ((DA (v := i64 (o.k)) vF (H3.get (k := 0) rfl) (off := 3) rfl (by rfl)).as (v' := iN o.k.toNat) (by exact congrArg i64 (Int.toNat_of_nonneg hk).symm)) ?_
             refine go 7 ?_
             refine iA ((me : Int) ≠ o.pt) rfl (fun a0 => ?_) (fun a0 => ?_)
             ·refine go 1 ?_
              exact ⟨_, rfl, congrArg u64 (by unfold jE eK; simp [b0, a0]), H3.chg⟩
             ·refine go 2 ?_
              exact ⟨_, rfl, congrArg u64 (by unfold jE eK; simp [b0, a0]), H3.chg⟩
            ·refine go 2 ?_
             refine iA ((o.kd : Int) = (15 : Int)) rfl (fun c0 => ?_) (fun c0 => ?_)
             ·refine go 4 ?_
              refine iA ((me : Int) ≠ o.pt) rfl (fun a0 => ?_) (fun a0 => ?_)
              ·refine go 1 ?_
               exact ⟨_, rfl, congrArg u64 (by unfold jE eK; simp [c0, a0]), H3.chg⟩
              ·refine go 2 ?_
               exact ⟨_, rfl, congrArg u64 (by unfold jE eK; simp [c0, a0]), H3.chg⟩
             ·refine go 2 ?_
              exact ⟨_, rfl, congrArg u64 (by unfold jE eK; simp [d0, e0, f0, h0, i0, j0, k0, l0, m0, n0, o0, b0, c0]), H3.chg⟩
end Go.Proofs.YtohngnahcgbfmaaGreatDoor.Ms
