/- What the claim has need of: Mu7. -/
import Derived.Test.YtohngnahcgbfmaaGreatDoorWu6
set_option linter.unusedVariables false
set_option maxHeartbeats 16000000
set_option maxRecDepth 20000
namespace Go.Proofs.YtohngnahcgbfmaaGreatDoor.Mu
open Go Vc Er Ek Circ Mi
open Co Cm
open Mt (zG)
theorem uQ : mA Tryz.prog 17 = true := by kernel_rfl
theorem tM : TB Tryz.prog 57 1 = some (1, 1, 3) := by kernel_rfl
theorem NV : Tryz.prog.underlying 64 = some (.int .u64) := by kernel_rfl
theorem lM (b : Nat) (s : Sk) (h1 : s.t.l.length = 0) (h2 : s.b.l.length = 0) (h3 : s.o.l.length = 0) (w : World) (hb : w.heap[b]? = some (s.ob 114)) : Ca 16 [pT b] w fun v w' => v = .tuple #[iN 0, iN 0, iN 0] ∧ Ext w w' := by
 have h := Co.PP b s w hb; rw [h1, h2, h3] at h; exact h
theorem ML (b n u : Nat) (x0 x1 : Value) (hu : u = n) (hn : n ≤ 140737488355328) (w : World) (hb : w.heap[b]? = some (.cells #[x0, x1, iN n, iN u] 96 (0, 0))) : Ca 17 [pT b] w fun v w' => v = iN 0 ∧ Ext w w' := by
 subst hu; have h := CH b u u x0 x1 w hb (Nat.le_refl _) hn; rw [Int.sub_self] at h; exact h
theorem xN (ops : List Mo) (oa : Option Addr) (oc : Nat) (in0 in1 t0 t1 dl : List (BitVec 64)) (ain0 ain1 at0 at1 adl : Option Addr) (cin0 cin1 ct0 ct1 cdl : Nat) (wh : Int) (w : World) (hG : Gl w) (hO : Rd xE w oa ops) (hol : ops.length ≤ 17592186044416) (hN0 : Rd E64 w ain0 in0) (hN1 : Rd E64 w ain1 in1) (hn0 : in0.length ≤ 17592186044416) (hn1 : in1.length ≤ 17592186044416) (hT0 : Rd E64 w at0 t0) (hlt0 : t0.length ≤ 17592186044416) (hT1 : Rd E64 w at1 t1) (hlt1 : t1.length ≤ 17592186044416) (hDL : Rd E64 w adl dl) (hldl : dl.length ≤ 17592186044416) (hgd : Mi.Good ops ((in0.length : Nat) : Int) ((in1.length : Nat) : Int)) : Ca 5 [.agg #[.slice oa ops.length oc, .slice ain0 in0.length cin0, .slice ain1 in1.length cin1, .slice at0 t0.length ct0, .slice at1 t1.length ct1, .slice adl dl.length cdl], i64 wh] w fun v w' => v = .bool true ∧ Ext w w' := by
 let y23 : Value := .slice adl dl.length cdl
 let y20 : Value := .slice at1 t1.length ct1
 let y17 : Value := .slice at0 t0.length ct0
 let y9 : Array Value := #[.pointer none, .pointer none]
 have hgu := aS hgd
 have hg := hgu
 obtain ⟨hcA, hcB, hcO, hcT0, hcT1, hcW0, hcW1, hcG⟩ := FM ops ops.length
 have e1 : nA ops = jA fA ops ops.length := rfl
 have e2 : nB ops = jA fB ops ops.length := rfl
 have e3 : nO ops = jA fO ops ops.length := rfl
 have e4 : pE ops ≤ jA ND ops ops.length + 2 := by unfold pE DV; split <;> omega
 have e5 : dF ops = jA cE ops ops.length := rfl
 have e6 := OL (ops := ops)
 have e7 := NL (ops := ops)
 have H := Hp.start No w
 refine enter (n := 199) Tryz.func5 rfl rfl (dB rfl) ?_
 refine go 1 ?_
 intro b1 w2 i6 H3 j6
 refine go 1 ?_
 by_cases hl : ops.length ≤ 400 ∧ jA fG ops ops.length ≤ 3
 ·refine go 0 ?_
  refine cl (MD w2 uC) ?_
  rintro _ w5 ⟨rfl, K2⟩
  have H7 := H3.ext K2
  refine go 4 ?_
  refine eF (gA (d' := 23) (b := false) rfl rfl rfl) (cA (vs := [.slice oa ops.length oc]) vF rfl) (wG true ops oa oc w5 uC IC om (by simp only [Bool.and_eq_true, decide_eq_true_eq]; omega)) ?_
  rintro _ w8 ⟨rfl, L2⟩
  have M2 := H7.ext L2
  refine go 14 ?_
  refine iA (((2000 : Int) : Int) < ((in0.length : Nat) + (in1.length : Nat))) rfl (fun N2 => ?_) (fun N2 => ?_)
  ·refine go 0 ?_
   refine cl (MD w8 uC) ?_
   rintro _ k6 ⟨rfl, O2⟩
   have P2 := M2.ext O2
   refine go 1 ?_
   exact ⟨_, rfl, rfl, P2.chg⟩
  ·have hlen := hl.1
   refine go 10 ?_
   intro z0 l6 m6 n6 o6
   refine go 1 ?_
   intro Q2 R2 p6
   refine go 3 ?_
   refine cl (DD ops oa oc (in0.length : Nat) (in1.length : Nat) ops.length (by rfl) Q2 uC IC om hgd) ?_
   rintro _ S2 ⟨rfl, T2⟩
   have U2 := R2.ext T2
   refine go 3 ?_
   refine cl (gM ops oa oc S2 uC IC om hg) ?_
   rintro _ q6 ⟨rfl, V2⟩
   have r6 := U2.ext V2
   refine go 1 ?_
   intro F0 s6 t6 u6 w6
   refine go 1 ?_
   intro X2 Y2 x6
   refine go 1 ?_
   refine cl (zG ops oa oc in0 in1 t0 t1 dl ain0 ain1 at0 at1 adl cin0 cin1 ct0 ct1 cdl X2 uC hgu hlen IC IC IC IC om om om) ?_
   rintro _ z6 ⟨B0, D0, s0, u0, A6, q0, r0, j0, h0, r2, k0, i0, s2, T1, U1, V1, W1, X1, Y1, rfl, Z2, c3, d1, B6, C6, Z1, c2, d3⟩
   let y1 : Array Value := #[.slice T1.a T1.n T1.c, .slice U1.a U1.n U1.c, .slice V1.a V1.n V1.c, .slice W1.a W1.n W1.c, .slice X1.a X1.n X1.c, .slice Y1.a Y1.n Y1.c]
   have D6 := (Y2.join d3).a13 rfl
   have hdz := oD d1
   refine go 5 ?_
   intro E0 E6 F6 G6 H6
   refine go 1 ?_
   intro M0 I6 J6 K6 L6
   refine go 1 ?_
   intro y0 M6 N6 O6 P6
   refine go 1 ?_
   intro Q6 R6 S6
   refine go 1 ?_
   intro T6 U6 V6
   refine go 1 ?_
   intro W6 f3 X6
   refine go 0 ?_
   obtain ⟨ws0, hws0⟩ : ∃ x, (q0.drop 0).take (pE ops) = x := ⟨_, rfl⟩
   let y5 : RW := (j0, qA E64 34 q0 r2)
   have hwl0 : ws0.length = pE ops := by rw [← hws0, List.length_take, List.length_drop]; omega
   have hcp0 : q0.length ≤ h0 := Z1.cap
   obtain ⟨ws1, hws1⟩ : ∃ x, (r0.drop 0).take (dF ops) = x := ⟨_, rfl⟩
   let y16 : Array Value := #[iN (nA ops), iN (nB ops), iN (nO ops), iN (pE ops), iN (dF ops), i64 (nR ops), iN (PR ops), iN (OR ops)]
   let y13 : Array Value := #[.slice oa ops.length oc, .slice ain0 in0.length cin0, .slice ain1 in1.length cin1, y17, y20, y23]
   let y6 : RW := (k0, qA E64 34 r0 s2)
   have hwl1 : ws1.length = dF ops := by rw [← hws1, List.length_take, List.length_drop]; omega
   have hcp1 : r0.length ≤ i0 := c2.cap
   let Y0 : List RW := [(rC y0 #[sO j0 q0.length h0, sO k0 r0.length i0] 24), (rC M0 y1 43), (rC E0 #[pT B0, pT D0] 38), (rC B0 #[.slice s0.t.a s0.t.l.length s0.t.c, .slice s0.b.a s0.b.l.length s0.b.c, .slice s0.o.a s0.o.l.length s0.o.c] 114), (s0.t.key, JA PA 66 s0.t.pre s0.t.l s0.t.sp), (s0.b.key, JA PA 66 s0.b.pre s0.b.l s0.b.sp), (s0.o.key, JA zB 121 s0.o.pre s0.o.l s0.o.sp), (rC D0 #[.slice u0.t.a u0.t.l.length u0.t.c, .slice u0.b.a u0.b.l.length u0.b.c, .slice u0.o.a u0.o.l.length u0.o.c] 114), (u0.t.key, JA PA 66 u0.t.pre u0.t.l u0.t.sp), (u0.b.key, JA PA 66 u0.b.pre u0.b.l u0.b.sp), (u0.o.key, JA zB 121 u0.o.pre u0.o.l u0.o.sp), y5, y6, (rC F0 y16 57), (rX z0 EI ([(in0.length : Nat), (in1.length : Nat)]) 29), (rC b1 y13 26)]
   let i1 := fun (f0 : Nat) (e0 : Option Nat) (l0 : Nat) => ((rC f0 #[sO e0 ws0.length l0, .pointer none, iN ws0.length, iN 0] 96) : RW)
   let w1 := fun (m0 : Nat) (n0 : Option Nat) (o0 : Nat) => ((rC m0 #[sO n0 ws1.length o0, .pointer none, iN ws1.length, iN 0] 96) : RW)
   let g3 : mC := [RD false false false false fun _ _ _ _ w' => Hp No w w' Y0, RD true false false false fun v6 _ _ _ w' => ∃ f0 e0 l0 p0, v6 = pT f0 ∧ Sl E64 e0 ws0 l0 p0 ∧ Hp No w w' ((i1 f0 e0 l0) :: (e0, qA E64 34 ws0 p0) :: Y0), RD true true false false fun v6 v13 _ _ w' => ∃ f0 e0 l0 p0 m0 n0 o0 H0, v6 = pT f0 ∧ v13 = pT m0 ∧ Sl E64 n0 ws1 o0 H0 ∧ Sl E64 e0 ws0 l0 p0 ∧ Hp No w w' ((w1 m0 n0 o0) :: (n0, qA E64 34 ws1 H0) :: (i1 f0 e0 l0) :: (e0, qA E64 34 ws0 p0) :: Y0), RD false false true false fun _ _ v15 _ w' => ∃ x1, v15 = pT x1 ∧ Hp No w w' ((rC x1 y9 50) :: Y0), RD true false true false fun v6 _ v15 _ w' => ∃ f0 e0 l0 p0 z1, v6 = pT f0 ∧ v15 = pT z1 ∧ Sl E64 e0 ws0 l0 p0 ∧ Hp No w w' ((rC z1 y9 50) :: (i1 f0 e0 l0) :: (e0, qA E64 34 ws0 p0) :: Y0), RD true true true false fun v6 v13 v15 _ w' => ∃ f0 e0 l0 p0 m0 n0 o0 H0 x0, v6 = pT f0 ∧ v13 = pT m0 ∧ v15 = pT x0 ∧ Sl E64 n0 ws1 o0 H0 ∧ Sl E64 e0 ws0 l0 p0 ∧ Hp No w w' ((rC x0 y9 50) :: (w1 m0 n0 o0) :: (n0, qA E64 34 ws1 H0) :: (i1 f0 e0 l0) :: (e0, qA E64 34 ws0 p0) :: Y0), RD true true true true fun v6 v13 v15 _ w' => ∃ f0 e0 l0 p0 m0 n0 o0 H0 x0, v6 = pT f0 ∧ v13 = pT m0 ∧ v15 = pT x0 ∧ Sl E64 n0 ws1 o0 H0 ∧ Sl E64 e0 ws0 l0 p0 ∧ Hp No w w' ((rC x0 #[pT f0, pT m0] 50) :: (w1 m0 n0 o0) :: (n0, qA E64 34 ws1 H0) :: (i1 f0 e0 l0) :: (e0, qA E64 34 ws0 p0) :: Y0)]
   refine MA (m := 17) [0, 1, 0, 4, 12, 31, 63, 0, 128, 0, 512, 1536, 3968, 8191, 16383, 0, 65535] [6, 13, 15, 16] Y0 g3 BA (fun _ e => f3.ext e) EC (fun B1 => ?_)
   refine gk 5 ?_
   refine ZB (.slice (if h0 = 0 then sA j0 else oC (sA j0) (0 * 1)) (pE ops) (h0 - 0)) (fun _ uw hcx => ((SC (l := 0) (h := pE ops) vF rfl (.inr ⟨rfl, rfl⟩) (.inl ⟨_, _, _, rfl, rfl, by first | rfl | omega | (simp; omega)⟩) om om).as (v' := .slice (if h0 = 0 then sA j0 else oC (sA j0) (0 * 1)) (pE ops) (h0 - 0)) (by first | rfl | (congr 1; omega) | (simp; omega) | simp)).as (v' := .slice (if h0 = 0 then sA j0 else oC (sA j0) (0 * 1)) (pE ops) (h0 - 0)) (by rfl)) (WalkT.eff B1 0 ?_ ?_)
   ·refine tB (fun r w0 uw hF hE => ?_) fun r w0 uw hF hE => ?_
    ·have t2 := hF.ext hE
     refine gW fun Q' hK => (cl (sD ws0 om (if h0 = 0 then sA j0 else oC (sA j0) (0 * 1)) (pE ops) (h0 - 0) om uw (hws0 ▸ Rd.sub (t2.rd (k := 11) rfl Z1) 0 (pE ops) (m := h0) (fun e => by first | exact absurd e om | (rw [show (pE ops) = 0 by omega]; rfl)))) ?_)
     rintro _ Y6 ⟨⟨h3, i3, j3, k3, rfl, l3, m3⟩, Z6⟩
     have n3 := (t2.join m3).as (L' := [_, _, _, _, _, _, _, _, _, _, _, _, _, _, _, _, _, _]) rfl
     exact hK _ _ (E_ h3 (E_ i3 (E_ j3 (E_ k3 (A_ rfl (A_ l3 n3))))))
    ·obtain ⟨x1, Z0, D1⟩ := hF
     replace D1 := D1.ext hE
     refine gW fun Q' hK => (cl (sD ws0 om (if h0 = 0 then sA j0 else oC (sA j0) (0 * 1)) (pE ops) (h0 - 0) om uw (hws0 ▸ Rd.sub (D1.rd (k := 12) rfl Z1) 0 (pE ops) (m := h0) (fun e => by first | exact absurd e om | (rw [show (pE ops) = 0 by omega]; rfl)))) ?_)
     rintro _ c7 ⟨⟨o3, p3, q3, r3, rfl, s3, t3⟩, d7⟩
     have u3 := (D1.join t3).as (L' := [_, _, _, _, _, _, _, _, _, _, _, _, _, _, _, _, _, _, _]) rfl
     exact hK _ _ (E_ o3 (E_ p3 (E_ q3 (E_ r3 (E_ x1 (A_ rfl (A_ Z0 (A_ s3 ((u3.pk 3 [2, 0, 1]))))))))))
   refine gk 5 ?_
   refine ZB (.slice (if i0 = 0 then sA k0 else oC (sA k0) (0 * 1)) (dF ops) (i0 - 0)) (fun _ uw hcx => ((SC (l := 0) (h := dF ops) vF rfl (.inr ⟨rfl, rfl⟩) (.inl ⟨_, _, _, rfl, rfl, by first | rfl | omega | (simp; omega)⟩) om om).as (v' := .slice (if i0 = 0 then sA k0 else oC (sA k0) (0 * 1)) (dF ops) (i0 - 0)) (by first | rfl | (congr 1; omega) | (simp; omega) | simp)).as (v' := .slice (if i0 = 0 then sA k0 else oC (sA k0) (0 * 1)) (dF ops) (i0 - 0)) (by rfl)) (WalkT.eff B1 1 ?_ ?_)
   ·refine tB (fun r w0 uw hF hE => ?_) fun r w0 uw hF hE => ?_
    ·obtain ⟨f0, e0, l0, p0, e6, O0, E1⟩ := hF
     replace E1 := E1.ext hE
     refine gW fun Q' hK => (cl (sD ws1 om (if i0 = 0 then sA k0 else oC (sA k0) (0 * 1)) (dF ops) (i0 - 0) om uw (hws1 ▸ Rd.sub (E1.rd (k := 14) rfl c2) 0 (dF ops) (m := i0) (fun e => by first | exact absurd e om | (rw [show (dF ops) = 0 by omega]; rfl)))) ?_)
     rintro _ f7 ⟨⟨w3, x3, z3, A3, rfl, B3, C3⟩, g7⟩
     have D3 := (E1.join C3).as (L' := [_, _, _, _, _, _, _, _, _, _, _, _, _, _, _, _, _, _, _, _]) rfl
     exact hK _ _ (E_ f0 (E_ e0 (E_ l0 (E_ p0 (E_ w3 (E_ x3 (E_ z3 (E_ A3 (A_ e6 (A_ rfl (A_ B3 (A_ O0 D3))))))))))))
    ·obtain ⟨f0, e0, l0, p0, z1, e6, Z0, O0, F1⟩ := hF
     replace F1 := F1.ext hE
     refine gW fun Q' hK => (cl (sD ws1 om (if i0 = 0 then sA k0 else oC (sA k0) (0 * 1)) (dF ops) (i0 - 0) om uw (hws1 ▸ Rd.sub (F1.rd (k := 15) rfl c2) 0 (dF ops) (m := i0) (fun e => by first | exact absurd e om | (rw [show (dF ops) = 0 by omega]; rfl)))) ?_)
     rintro _ h7 ⟨⟨E3, F3, G3, I3, rfl, J3, K3⟩, i7⟩
     have L3 := (F1.join K3).as (L' := [_, _, _, _, _, _, _, _, _, _, _, _, _, _, _, _, _, _, _, _, _]) rfl
     exact hK _ _ (E_ f0 (E_ e0 (E_ l0 (E_ p0 (E_ E3 (E_ F3 (E_ G3 (E_ I3 (E_ z1 (A_ e6 (A_ rfl (A_ Z0 (A_ J3 (A_ O0 ((L3.pk 5 [2, 0, 1, 3, 4]))))))))))))))))
   refine aA (fun r => .agg #[r 6, r 13]) (fun r r' h => by rw [h 6 (by decide) rfl, h 13 (by decide) rfl]) ?_ ?_
   ·refine tB (fun r w0 uw hF hE => ?_) fun r w0 uw hF hE => ?_
    ·obtain ⟨f0, e0, l0, p0, m0, n0, o0, H0, e6, I0, h1, O0, HH⟩ := hF
     replace HH := HH.ext hE
     dsimp only
     rw [e6, I0]
     exact xC
    ·obtain ⟨f0, e0, l0, p0, m0, n0, o0, H0, x0, e6, I0, Z0, h1, O0, HH⟩ := hF
     replace HH := HH.ext hE
     dsimp only
     rw [e6, I0]
     exact xC
   refine WalkT.eff B1 2 ?_ ?_
   ·refine A_ (fun r w0 uw hF hE => ?_) (A_ (fun r w0 uw hF hE => ?_) (A_ (fun r w0 uw hF hE => ?_) trivial))
    ·have j7 := hF.ext hE
     refine gW fun Q' hK => ?_
     refine go 1 ?_
     intro M3 k7 l7 N3 m7
     exact hK _ _ (E_ M3 (A_ rfl N3))
    ·obtain ⟨f0, e0, l0, p0, e6, O0, u2⟩ := hF
     replace u2 := u2.ext hE
     refine gW fun Q' hK => ?_
     refine go 1 ?_
     intro O3 n7 o7 P3 p7
     exact hK _ _ (E_ f0 (E_ e0 (E_ l0 (E_ p0 (E_ O3 (A_ e6 (A_ rfl (A_ O0 P3))))))))
    ·obtain ⟨f0, e0, l0, p0, m0, n0, o0, H0, e6, I0, h1, O0, x2⟩ := hF
     replace x2 := x2.ext hE
     refine gW fun Q' hK => ?_
     refine go 1 ?_
     intro Q3 q7 r7 R3 s7
     exact hK _ _ (E_ f0 (E_ e0 (E_ l0 (E_ p0 (E_ m0 (E_ n0 (E_ o0 (E_ H0 (E_ Q3 (A_ e6 (A_ I0 (A_ rfl (A_ h1 (A_ O0 R3))))))))))))))
   refine WalkT.eff B1 3 ?_ ?_
   ·refine tA fun r w0 uw hF hE => ?_
    obtain ⟨f0, e0, l0, p0, m0, n0, o0, H0, x0, e6, I0, Z0, h1, O0, z2⟩ := hF
    replace z2 := z2.ext hE
    dsimp only
    rw [I0, Z0, e6]
    refine MC fun Q' hK => ?_
    refine go 1 ?_
    intro t7 S3 u7
    exact hK _ (fun _ => (E_ f0 (E_ e0 (E_ l0 (E_ p0 (E_ m0 (E_ n0 (E_ o0 (E_ H0 (E_ x0 (A_ e6 (A_ I0 (A_ Z0 (A_ h1 (A_ O0 S3)))))))))))))))
   refine WalkT.nil fun r w0 T3 hF hE => ?_
   obtain ⟨f0, e0, l0, p0, m0, n0, o0, H0, x0, e6, I0, Z0, h1, O0, G1⟩ := hF
   let y7 : Array Value := #[pT f0, pT m0]
   replace G1 := G1.ext hE
   dsimp only
   rw [e6, I0, Z0]
   dsimp only [Y0, w1, i1] at G1
   refine go 7 ?_
   have U3 := ((G1.pk 21 [3, 4, 1, 2, 8, 9, 10, 11, 12, 13, 14, 15, 0, 5, 6, 7, 16, 17, 18, 19, 20])).as (L' := (_ :: _ :: _ :: _ :: (EA 66 121 114 B0 s0 ++ (EA 66 121 114 D0 u0 ++ [(rC x0 y7 50), (rC y0 #[sO j0 q0.length h0, sO k0 r0.length i0] 24), (rC M0 y1 43), (rC E0 #[pT B0, pT D0] 38), y5, y6, (rC F0 y16 57), (rX z0 EI ([(in0.length : Nat), (in1.length : Nat)]) 29), (rC b1 y13 26)])))) rfl
   have hfit := RN d1
   refine cl (lL (lJ ops oa oc in0 in1 ain0 ain1 cin0 cin1 f0 e0 l0 p0 ws0 O0 om m0 n0 o0 H0 ws1 h1 om B0 D0 s0 u0 Z2 c3 [(rC x0 y7 50), (rC y0 #[sO j0 q0.length h0, sO k0 r0.length i0] 24), (rC M0 y1 43), (rC E0 #[pT B0, pT D0] 38), y5, y6, (rC F0 y16 57), (rX z0 EI ([(in0.length : Nat), (in1.length : Nat)]) 29), (rC b1 y13 26)] w T3 hG hgd 0 (fun _ => by rw [OL]; omega) (fun _ => hfit.1.1) (fun _ => hfit.1.2.1) hfit.1.2.2 (fun _ => by rw [NL]; omega) (fun _ => hfit.2.1) (fun _ => hfit.2.2.1) hfit.2.2.2 (fun _ hE _ => hO.ext hE) (fun _ hE _ => hN0.ext hE) (fun _ hE _ => hN1.ext hE) U3) ⟨⟨by rw [OL]; omega, hfit.1.1, hfit.1.2.1⟩, by rw [NL]; omega, hfit.2.1, hfit.2.2.1⟩) ?_
   rintro _ w7 ⟨P0, S0, V3, Q0, T0, W3, a0, b0, rfl, X3, Y3, x7, ht256, Z3, ho258, z7, ht260, c4, ho262, A2⟩
   let y10 : Array Value := #[.slice b0.t.a b0.t.l.length b0.t.c, .slice b0.b.a b0.b.l.length b0.b.c, .slice b0.o.a b0.o.l.length b0.o.c]
   let y3 : Array Value := #[.slice a0.t.a a0.t.l.length a0.t.c, .slice a0.b.a a0.b.l.length a0.b.c, .slice a0.o.a a0.o.l.length a0.o.c]
   obtain ⟨B2, d4⟩ : ∃ q, q = dC Gb.kA ops in0 in1 ws0 ws1 (OB ops ((0 : Nat) : Int) (WA 0) ws0 (VA 0 ops)) (OB ops ((1 : Nat) : Int) (WA 1) ws1 (VA 1 ops)) (MB ops s0.t.l s0.b.l) (MB ops u0.t.l u0.b.l) s0.o.l u0.o.l ops.length := ⟨_, rfl⟩
   let y24 : RW := (n0, qA E64 34 ws1 H0)
   let y21 : RW := (e0, qA E64 34 ws0 p0)
   let y18 : RW := (Q0, qA E64 34 B2.2 W3)
   let y14 : RW := (P0, qA E64 34 B2.1 V3)
   let y11 : Array Value := #[iN (nA ops), iN (nB ops), iN (nO ops), iN (pE ops), iN (dF ops), i64 (nR ops), iN (PR ops), iN (OR ops)]
   let y2 : Array Value := #[.slice oa ops.length oc, .slice ain0 in0.length cin0, .slice ain1 in1.length cin1, y17, y20, y23]
   rw [← d4] at X3 Y3 A2
   have A7 := A2.as (L' := [_, _, _, _, _, _, _, _, _, _, _, _, _, _, _, _, _, _, _, _, _, _, _]) rfl
   refine go 4 ?_
   intro U0 B7 C7 D7 E7
   refine go 1 ?_
   intro f4 g4 F7
   refine go 3 ?_
   refine cl (lM B0 a0 (by rw [ht256, List.length_drop, (oD d1).1.1]; exact Nat.sub_self _) (by rw [Z3, List.length_drop, (oD d1).1.2.1]; exact Nat.sub_self _) (by rw [ho258, List.length_drop, (oD d1).1.2.2]; exact Nat.sub_self _) f4 gF) ?_
   rintro _ h4 ⟨rfl, i4⟩
   have j4 := g4.ext i4
   refine go 9 ?_
   refine cl (lM D0 b0 (by rw [ht260, List.length_drop, (oD d1).2.1]; exact Nat.sub_self _) (by rw [c4, List.length_drop, (oD d1).2.2.1]; exact Nat.sub_self _) (by rw [ho262, List.length_drop, (oD d1).2.2.2]; exact Nat.sub_self _) h4 gF) ?_
   rintro _ G7 ⟨rfl, k4⟩
   have l4 := j4.ext k4
   refine go 7 ?_
   let q1 : List RW := [(rC U0 #[sO P0 ops.length S0, sO Q0 ops.length T0] 24), y14, y18, (rC f0 #[sO e0 ws0.length l0, .pointer none, iN ws0.length, iN (VA 0 ops + jA (WA 0) ops ops.length)] 96), y21, (rC m0 #[sO n0 ws1.length o0, .pointer none, iN ws1.length, iN (VA 1 ops + jA (WA 1) ops ops.length)] 96), y24, (rC B0 y3 114), (a0.t.key, JA PA 66 a0.t.pre a0.t.l a0.t.sp), (a0.b.key, JA PA 66 a0.b.pre a0.b.l a0.b.sp), (a0.o.key, JA zB 121 a0.o.pre a0.o.l a0.o.sp), (rC D0 y10 114), (b0.t.key, JA PA 66 b0.t.pre b0.t.l b0.t.sp), (b0.b.key, JA PA 66 b0.b.pre b0.b.l b0.b.sp), (b0.o.key, JA zB 121 b0.o.pre b0.o.l b0.o.sp), (rC x0 y7 50), (rC y0 #[sO j0 q0.length h0, sO k0 r0.length i0] 24), (rC M0 y1 43), (rC E0 #[pT B0, pT D0] 38), y5, y6, (rC F0 y11 57), (rX z0 EI ([(in0.length : Nat), (in1.length : Nat)]) 29), (rC b1 y2 26)]
   let m4 : mC := [nC false false fun _ _ w' => Hp No w w' q1, nC true false fun v5 _ w' => v5 = iN 0 ∧ Hp No w w' q1, nC true true fun v5 v8 w' => v5 = iN 0 ∧ v8 = iN 0 ∧ Hp No w w' q1]
   refine MA (m := 24) [0, 1, 3, 7, 15, 31, 7, 71, 255, 511, 7, 2047, 7, 8191, 7, 32767, 7, 131071, 7, 524287, 7, 2097151, 4194303, 8388607] [5, 8] q1 m4 BA (fun _ e => l4.ext e) EC (fun C2 => ?_)
   refine gk 3 ?_
   refine kE (pT x0) (fun _ uw hcx => dA (gA (d' := 107) (b := false) rfl rfl rfl) (IA (off' := 0) (j := 0) vF (b := x0) (off := 0) rfl rfl vo om om) ⟨rfl, Chg.refl _ _⟩) (kE (pT f0) (fun _ uw hcx => dA (gA (d' := 107) (b := false) rfl rfl rfl) (DA (v := pT f0) vF (hcx.get (k := 15) rfl) (off := 0) rfl (by rfl)) ⟨rfl, Chg.refl _ _⟩) (WalkT.eff C2 0 ?_ ?_))
   ·refine tA fun r w0 uw hF hE => ?_
    have n4 := hF.ext hE
    refine gW fun Q' hK => (eF (gA (d' := 107) (b := false) rfl rfl rfl) (cA (vs := [pT f0]) vF rfl) (ML f0 ws0.length (VA 0 ops + jA (WA 0) ops ops.length) (sO e0 ws0.length l0) (.pointer none) (by rw [OL]; omega) om uw gF) ?_)
    rintro _ I7 ⟨rfl, o4⟩
    have p4 := n4.ext o4
    exact hK _ _ (A_ rfl p4)
   refine kE (.pointer (some ⟨x0, 1, none⟩)) (fun _ uw hcx => dA (gA (d' := 107) (b := false) rfl rfl rfl) (IA (off' := 1) (j := 1) vF (b := x0) (off := 0) rfl rfl vo om om) ⟨rfl, Chg.refl _ _⟩) (kE (pT m0) (fun _ uw hcx => dA (gA (d' := 107) (b := false) rfl rfl rfl) (DA (v := pT m0) vF (hcx.get (k := 15) rfl) (off := 1) rfl (by rfl)) ⟨rfl, Chg.refl _ _⟩) (WalkT.eff C2 1 ?_ ?_))
   ·refine tA fun r w0 uw hF hE => ?_
    obtain ⟨e5, d2⟩ := hF
    replace d2 := d2.ext hE
    refine gW fun Q' hK => (eF (gA (d' := 107) (b := false) rfl rfl rfl) (cA (vs := [pT m0]) vF rfl) (ML m0 ws1.length (VA 1 ops + jA (WA 1) ops ops.length) (sO n0 ws1.length o0) (.pointer none) (by rw [NL]; omega) om uw gF) ?_)
    rintro _ J7 ⟨rfl, q4⟩
    have r4 := d2.ext q4
    exact hK _ _ (A_ e5 (A_ rfl r4))
   refine aA (fun _ => iN 0) (fun _ _ _ => rfl) ?_ ?_
   ·refine tA fun r w0 uw hF hE => ?_
    obtain ⟨e5, e8, HH⟩ := hF
    replace HH := HH.ext hE
    dsimp only
    rw [e5, e8]
    exact dA (gA (d' := 107) (b := false) rfl rfl rfl) ((aB rfl rfl om).as (v' := iN 0) (by rfl)) ⟨rfl, Chg.refl _ _⟩
   refine kE (iN 0) (fun _ uw hcx => dA (gA (d' := 107) (b := false) rfl rfl rfl) (CA (v := iN 0) rfl) ⟨rfl, Chg.refl _ _⟩) (kE (iN 0) (fun _ uw hcx => dA (gA (d' := 107) (b := false) rfl rfl rfl) ((aB rfl rfl om).as (v' := iN 0) (by rfl)) ⟨rfl, Chg.refl _ _⟩) (kE (iN 0) (fun _ uw hcx => dA (gA (d' := 107) (b := false) rfl rfl rfl) (CA (v := iN 0) rfl) ⟨rfl, Chg.refl _ _⟩) (kE (iN 0) (fun _ uw hcx => dA (gA (d' := 107) (b := false) rfl rfl rfl) ((aB rfl rfl om).as (v' := iN 0) (by rfl)) ⟨rfl, Chg.refl _ _⟩) (kE (iN 0) (fun _ uw hcx => dA (gA (d' := 107) (b := false) rfl rfl rfl) (CA (v := iN 0) rfl) ⟨rfl, Chg.refl _ _⟩) (kE (iN 0) (fun _ uw hcx => dA (gA (d' := 107) (b := false) rfl rfl rfl) ((aB rfl rfl om).as (v' := iN 0) (by rfl)) ⟨rfl, Chg.refl _ _⟩) (kE (iN 0) (fun _ uw hcx => dA (gA (d' := 107) (b := false) rfl rfl rfl) (CA (v := iN 0) rfl) ⟨rfl, Chg.refl _ _⟩) (kE (iN 0) (fun _ uw hcx => dA (gA (d' := 107) (b := false) rfl rfl rfl) ((aB rfl rfl om).as (v' := iN 0) (by rfl)) ⟨rfl, Chg.refl _ _⟩) (kE (iN 0) (fun _ uw hcx => dA (gA (d' := 107) (b := false) rfl rfl rfl) (CA (v := iN 0) rfl) ⟨rfl, Chg.refl _ _⟩) (kE (iN 0) (fun _ uw hcx => dA (gA (d' := 107) (b := false) rfl rfl rfl) ((aB rfl rfl om).as (v' := iN 0) (by rfl)) ⟨rfl, Chg.refl _ _⟩) (kE (iN 0) (fun _ uw hcx => dA (gA (d' := 107) (b := false) rfl rfl rfl) (CA (v := iN 0) rfl) ⟨rfl, Chg.refl _ _⟩) (kE (iN 0) (fun _ uw hcx => dA (gA (d' := 107) (b := false) rfl rfl rfl) ((aB rfl rfl om).as (v' := iN 0) (by rfl)) ⟨rfl, Chg.refl _ _⟩) (kE (.bool false) (fun _ uw hcx => dA (gA (d' := 107) (b := false) rfl rfl rfl) ((qD rfl rfl).as (v' := .bool false) (by rfl)) ⟨rfl, Chg.refl _ _⟩) ?_))))))))))))
   refine gk 1 ?_
   refine WalkT.nil fun r w0 s4 hF hE => ?_
   obtain ⟨e5, e8, H1⟩ := hF
   replace H1 := H1.ext hE
   dsimp only
   rw [e5, e8]
   dsimp only [q1] at H1
   refine go 1 ?_
   refine cl (zG ops oa oc in0 in1 t0 t1 dl ain0 ain1 at0 at1 adl cin0 cin1 ct0 ct1 cdl s4 uC hgu hlen IC IC IC IC om om om) ?_
   rintro _ K7 ⟨J0, K0, c0, d0, L7, t4, u4, w4, M7, x4, z4, N7, A4, O7, P7, Q7, R7, S7, T7, rfl, j1, k1, B4, U7, V7, W7, X7, C4⟩
   let y22 : Array Value := #[pT J0, pT K0]
   let y19 : RW := (z4, qA E64 34 u4 A4)
   let y15 : RW := (w4, qA E64 34 t4 x4)
   let y12 : Array Value := #[.slice c0.t.a c0.t.l.length c0.t.c, .slice c0.b.a c0.b.l.length c0.b.c, .slice c0.o.a c0.o.l.length c0.o.c]
   let y4 : Array Value := #[.slice d0.t.a d0.t.l.length d0.t.c, .slice d0.b.a d0.b.l.length d0.b.c, .slice d0.o.a d0.o.l.length d0.o.c]
   have Y7 := (H1.join C4).as (L' := [_, _, _, _, _, _, _, _, _, _, _, _, _, _, _, _, _, _, _, _, _, _, _, _, _, _, _, _, _, _, _, _, _, _]) rfl
   have hdz := oD B4
   refine go 5 ?_
   intro I1 W0 Z7
   refine go 1 ?_
   obtain ⟨p, hp2, hpv⟩ := HR (BitVec.ofInt 64 wh)
   refine go 3 ?_
   refine sq ((RE vF vF (a := (BitVec.ofInt 64 wh) % (2#64)) rfl).as (v' := iN p) (by rw [hpv])) ?_
   refine gj 1 ?_
   refine xF (σ := Int × Option Addr × Nat × List (BitVec 64) × Option Addr × Nat × List (BitVec 64) × Sk × Sk) (fun (ec, A0, C0, L0, A1, C1, L1, st0, st1) => [(2, pT b1), (5, pT z0), (7, pT E0), (9, pT y0), (19, i64 ec)]) (fun (ec, A0, C0, L0, A1, C1, L1, st0, st1) w' => ((ec ≠ 40 → VA 0 ops + jA (WA 0) ops ops.length ≤ L0.length) ∧ (ec ≠ 80 → jA fA ops ops.length ≤ st0.t.l.length) ∧ (ec ≠ 80 → jA fB ops ops.length ≤ st0.b.l.length) ∧ jA fO ops ops.length ≤ st0.o.l.length ∧ (ec ≠ 40 → VA 1 ops + jA (WA 1) ops ops.length ≤ L1.length) ∧ (ec ≠ 80 → jA fA ops ops.length ≤ st1.t.l.length) ∧ (ec ≠ 80 → jA fB ops ops.length ≤ st1.b.l.length) ∧ jA fO ops ops.length ≤ st1.o.l.length ∧ ¬ ((VA 0 ops + jA (WA 0) ops ops.length ≤ L0.length ∧ jA fA ops ops.length ≤ st0.t.l.length ∧ jA fB ops ops.length ≤ st0.b.l.length) ∧ (VA 1 ops + jA (WA 1) ops ops.length ≤ L1.length ∧ jA fA ops ops.length ≤ st1.t.l.length ∧ jA fB ops ops.length ≤ st1.b.l.length)) ∧ st0.ok ∧ st1.ok ∧ (∀ w2, Rd E64 w2 (sA j0) q0 → Rd E64 w2 A0 L0) ∧ (∀ w2, Rd E64 w2 (sA k0) r0 → Rd E64 w2 A1 L1) ∧ L0.length ≤ q0.length ∧ L1.length ≤ r0.length) ∧ Hp No w w' [(rC b1 y2 26), (rX z0 EI ([(in0.length : Nat), (in1.length : Nat)]) 29), (rC E0 y22 38), (rC y0 #[.slice A0 L0.length C0, .slice A1 L1.length C1] 24), (rC J0 #[.slice st0.t.a st0.t.l.length st0.t.c, .slice st0.b.a st0.b.l.length st0.b.c, .slice st0.o.a st0.o.l.length st0.o.c] 114), (st0.t.key, JA PA 66 st0.t.pre st0.t.l st0.t.sp), (st0.b.key, JA PA 66 st0.b.pre st0.b.l st0.b.sp), (st0.o.key, JA zB 121 st0.o.pre st0.o.l st0.o.sp), (rC K0 #[.slice st1.t.a st1.t.l.length st1.t.c, .slice st1.b.a st1.b.l.length st1.b.c, .slice st1.o.a st1.o.l.length st1.o.c] 114), (st1.t.key, JA PA 66 st1.t.pre st1.t.l st1.t.sp), (st1.b.key, JA PA 66 st1.b.pre st1.b.l st1.b.sp), (st1.o.key, JA zB 121 st1.o.pre st1.o.l st1.o.sp), y5, y6]) ?_ (fun l1 => ?_)
   ·rintro ⟨ec, A0, C0, L0, A1, C1, L1, st0, st1⟩ ρ c8 ⟨⟨hjT0, hjA0, hjB0, hjC0, hjT1, hjA1, hjB1, hjC1, hjbad, D4, F4, hjR0, hjR1, hjl0, hjl1⟩, G4⟩
    let y8 : Array Value := #[.slice A0 L0.length C0, .slice A1 L1.length C1]
    refine go 0 ?_
    have H4 := (G4.pk 14 [4, 5, 6, 7, 8, 9, 10, 11, 0, 1, 2, 3, 12, 13])
    let m1 : List RW := [(rC b1 y2 26), (rX z0 EI ([(in0.length : Nat), (in1.length : Nat)]) 29), (rC E0 y22 38), (rC y0 y8 24), y5, y6]
    let f2 := ((rC J0 #[.slice st0.t.a st0.t.l.length st0.t.c, .slice st0.b.a st0.b.l.length st0.b.c, .slice st0.o.a st0.o.l.length st0.o.c] 114) : RW)
    let g2 := ((rC K0 #[.slice st1.t.a st1.t.l.length st1.t.c, .slice st1.b.a st1.b.l.length st1.b.c, .slice st1.o.a st1.o.l.length st1.o.c] 114) : RW)
    let D2 := fun (G0 : Nat) (N0 : Option Nat) (R0 : Nat) => ((rC G0 #[sO N0 L0.length R0, .pointer none, iN L0.length, iN 0] 96) : RW)
    let h2 := ((st0.b.key, JA PA 66 st0.b.pre st0.b.l st0.b.sp) : RW)
    let i2 := ((st0.o.key, JA zB 121 st0.o.pre st0.o.l st0.o.sp) : RW)
    let j2 := ((st0.t.key, JA PA 66 st0.t.pre st0.t.l st0.t.sp) : RW)
    let k2 := ((st1.b.key, JA PA 66 st1.b.pre st1.b.l st1.b.sp) : RW)
    let l2 := ((st1.o.key, JA zB 121 st1.o.pre st1.o.l st1.o.sp) : RW)
    let m2 := ((st1.t.key, JA PA 66 st1.t.pre st1.t.l st1.t.sp) : RW)
    let I4 : mC := [RB false false false fun _ _ _ w' => Hp No w w' (f2 :: j2 :: h2 :: i2 :: g2 :: m2 :: k2 :: l2 :: m1), RB true false false fun v7 _ _ w' => ∃ G0 N0 R0 X0, v7 = pT G0 ∧ Sl E64 N0 L0 R0 X0 ∧ Hp No w w' ((D2 G0 N0 R0) :: (N0, qA E64 34 L0 X0) :: f2 :: j2 :: h2 :: i2 :: g2 :: m2 :: k2 :: l2 :: m1), RB true true false fun v7 v10 _ w' => ∃ G0 N0 R0 X0 V0 n1 r1 s1, v7 = pT G0 ∧ v10 = pT V0 ∧ Sl E64 n1 L1 r1 s1 ∧ Sl E64 N0 L0 R0 X0 ∧ Hp No w w' ((rC V0 #[sO n1 L1.length r1, .pointer none, iN L1.length, iN 0] 96) :: (n1, qA E64 34 L1 s1) :: (D2 G0 N0 R0) :: (N0, qA E64 34 L0 X0) :: f2 :: j2 :: h2 :: i2 :: g2 :: m2 :: k2 :: l2 :: m1), RB true true true fun v7 v10 v13 w' => ∃ G0 V0 J1 u1 o1 p1, v7 = pT G0 ∧ v10 = pT V0 ∧ v13 = .tuple #[J1, .iface o1 p1] ∧ Er 0 w' ec (u1 + 1) (.iface o1 p1) ∧ Hp No w w' m1]
    refine MA (m := 18) [0, 1, 0, 0, 8, 0, 32, 96, 0, 256, 992, 2016, 0, 8191, 16383, 32767, 32767, 131071] [7, 10, 13] m1 I4 BA (fun _ e => H4.ext e) EC (fun n2 => ?_)
    refine gk 7 ?_
    refine WalkT.eff n2 0 ?_ ?_
    ·refine tA fun r w0 uw hF hE => ?_
     have J4 := hF.ext hE
     refine gW fun Q' hK => (cl (sD L0 om A0 L0.length C0 (by rfl) uw (hjR0 _ IC)) ?_)
     rintro _ d8 ⟨⟨K4, L4, M4, N4, rfl, O4, P4⟩, f8⟩
     have Q4 := (J4.join P4).a16 rfl
     exact hK _ _ (E_ K4 (E_ L4 (E_ M4 (E_ N4 (A_ rfl (A_ O4 Q4))))))
    refine gk 2 ?_
    refine WalkT.eff n2 1 ?_ ?_
    ·refine tA fun r w0 uw hF hE => ?_
     obtain ⟨G0, N0, R0, X0, e7, K1, o2⟩ := hF
     replace o2 := o2.ext hE
     refine gW fun Q' hK => (cl (sD L1 om A1 L1.length C1 (by rfl) uw (hjR1 _ IC)) ?_)
     rintro _ g8 ⟨⟨R4, S4, T4, U4, rfl, V4, W4⟩, h8⟩
     have X4 := (o2.join W4).as (L' := [_, _, _, _, _, _, _, _, _, _, _, _, _, _, _, _, _, _]) rfl
     exact hK _ _ (E_ G0 (E_ N0 (E_ R0 (E_ X0 (E_ R4 (E_ S4 (E_ T4 (E_ U4 (A_ e7 (A_ rfl (A_ V4 (A_ K1 X4))))))))))))
    refine aA (fun r => .agg #[r 7, r 10]) (fun r r' h => by rw [h 7 (by decide) rfl, h 10 (by decide) rfl]) ?_ ?_
    ·refine tA fun r w0 uw hF hE => ?_
     obtain ⟨G0, N0, R0, X0, V0, n1, r1, s1, e7, g1, E2, K1, HH⟩ := hF
     replace HH := HH.ext hE
     dsimp only
     rw [e7, g1]
     exact xC
    refine gk 1 ?_
    refine WalkT.eff n2 2 ?_ ?_
    ·refine tA fun r w0 uw hF hE => ?_
     obtain ⟨G0, N0, R0, X0, V0, n1, r1, s1, e7, g1, E2, K1, p2⟩ := hF
     replace p2 := p2.ext hE
     dsimp only
     rw [g1, e7]
     refine gW fun Q' hK => ?_
     have Y4 := ((p2.pk 18 [2, 3, 0, 1, 4, 5, 6, 7, 8, 9, 10, 11, 12, 13, 14, 15, 16, 17])).as (L' := (_ :: _ :: _ :: _ :: (EA 66 121 114 J0 st0 ++ (EA 66 121 114 K0 st1 ++ [(rC b1 y2 26), (rX z0 EI ([(in0.length : Nat), (in1.length : Nat)]) 29), (rC E0 y22 38), (rC y0 y8 24), y5, y6])))) rfl
     refine cl (nN (lJ ops oa oc in0 in1 ain0 ain1 cin0 cin1 G0 N0 R0 X0 L0 K1 om V0 n1 r1 s1 L1 E2 om J0 K0 st0 st1 D4 F4 [(rC b1 y2 26), (rX z0 EI ([(in0.length : Nat), (in1.length : Nat)]) 29), (rC E0 y22 38), (rC y0 y8 24), y5, y6] w uw hG hgd ec hjT0 hjA0 hjB0 hjC0 hjT1 hjA1 hjB1 hjC1 (fun _ hE _ => hO.ext hE) (fun _ hE _ => hN0.ext hE) (fun _ hE _ => hN1.ext hE) Y4) hjbad) ?_
     rintro _ j8 ⟨Z4, k8, rfl, ⟨c5, F2⟩, d5⟩
     obtain ⟨f5, g5, rfl⟩ := Er.iface F2
     exact hK _ _ (E_ G0 (E_ V0 (E_ Z4 (E_ c5 (E_ f5 (E_ g5 (A_ e7 (A_ g1 (A_ rfl (A_ F2 d5))))))))))
    refine bA (fun r => r 13) (fun r r' h => h 13 (by decide) rfl) (fun _ _ => CA rfl) (aA (fun r => AB (r 13) 0) (fun r r' h => by rw [h 13 (by decide) rfl]) ?_ ?_)
    ·refine tA fun r w0 uw hF hE => ?_
     obtain ⟨G0, V0, J1, u1, o1, p1, e7, g1, I0, c1, HH⟩ := hF
     replace HH := HH.ext hE
     replace c1 := Er.ext c1 hE
     dsimp only
     rw [I0]
     exact xC
    refine aA (fun r => AB (r 13) 1) (fun r r' h => by rw [h 13 (by decide) rfl]) ?_ ?_
    ·refine tA fun r w0 uw hF hE => ?_
     obtain ⟨G0, V0, J1, u1, o1, p1, e7, g1, I0, c1, HH⟩ := hF
     replace HH := HH.ext hE
     replace c1 := Er.ext c1 hE
     dsimp only
     rw [I0]
     exact xC
    refine bA (fun r => AB (r 13) 1) (fun r r' h => by rw [h 13 (by decide) rfl]) (fun _ _ => zA rfl) (WalkT.nil fun r w0 h5 hF hE => ?_)
    obtain ⟨G0, V0, J1, u1, o1, p1, e7, g1, I0, c1, M1⟩ := hF
    replace M1 := M1.ext hE
    replace c1 := Er.ext c1 hE
    dsimp only
    rw [e7, g1, I0]
    dsimp only [m1] at M1
    refine go 2 ?_
    refine cl (iW ec ec (u1 + 1) (.iface o1 p1) 0 h5 c1) ?_
    rintro _ l8 ⟨rfl, i5⟩
    have j5 := M1.ext i5
    refine go 1 ?_
    exact ⟨_, rfl, bT (rfl), j5.chg⟩
   ·refine go 1 ?_
    refine sq (gP (a := wh) (b := (3 : Int)) rfl rfl (by decide)) ?_
    refine go 2 ?_
    refine XA (B := (decide ((Int.tmod wh (3 : Int) : Int) = (0 : Int)))) (v := pT F0) (wA (d' := 142) (B := true) rfl rfl rfl) (fun hB => rA (off' := 0) vF (by decide) (b := F0) (off := 0) rfl om) (XA (B := (decide ((Int.tmod wh (3 : Int) : Int) = (0 : Int)))) (v := iN (nA ops)) (wA (d' := 142) (B := true) rfl rfl rfl) (fun hB => by simp only [vD (v := _) (h := hB)]; exact DA (v := iN (nA ops)) vF (W0.get (k := 31) rfl) (off := 0) rfl (by rfl)) (XA (B := (decide ((Int.tmod wh (3 : Int) : Int) = (0 : Int)))) (v := .bool (decide ((0 : Int) < (nA ops : Nat)))) (wA (d' := 142) (B := true) rfl rfl rfl) (fun hB => by simp only [vD (v := _) (h := hB)]; exact UC rfl rfl) (sq (yB (B := true) rfl rfl rfl rfl) ?_)))
    refine go 0 ?_
    refine PC ((decide ((Int.tmod wh (3 : Int) : Int) = (0 : Int)) && decide ((0 : Int) < (nA ops : Nat)))) rfl (fun G2 => ?_) (fun G2 => ?_)
    ·have c146p := of_decide_eq_true (Bool.and_eq_true_iff.1 G2).2
     by_cases hp : p = 0
     ·refine go 0 ?_
      subst hp
      refine go 3 ?_
      have k5 := W0.as (L' := EA 66 121 114 J0 c0 ++ [(rC K0 y4 114), (d0.t.key, JA PA 66 d0.t.pre d0.t.l d0.t.sp), (d0.b.key, JA PA 66 d0.b.pre d0.b.l d0.b.sp), (d0.o.key, JA zB 121 d0.o.pre d0.o.l d0.o.sp), y15, y19, (rC U0 #[sO P0 ops.length S0, sO Q0 ops.length T0] 24), y14, y18, (rC f0 #[sO e0 ws0.length l0, .pointer none, iN ws0.length, iN (VA 0 ops + jA (WA 0) ops ops.length)] 96), y21, (rC m0 #[sO n0 ws1.length o0, .pointer none, iN ws1.length, iN (VA 1 ops + jA (WA 1) ops ops.length)] 96), y24, (rC B0 y3 114), (a0.t.key, JA PA 66 a0.t.pre a0.t.l a0.t.sp), (a0.b.key, JA PA 66 a0.b.pre a0.b.l a0.b.sp), (a0.o.key, JA zB 121 a0.o.pre a0.o.l a0.o.sp), (rC D0 y10 114), (b0.t.key, JA PA 66 b0.t.pre b0.t.l b0.t.sp), (b0.b.key, JA PA 66 b0.b.pre b0.b.l b0.b.sp), (b0.o.key, JA zB 121 b0.o.pre b0.o.l b0.o.sp), (rC x0 y7 50), (rC y0 #[sO j0 q0.length h0, sO k0 r0.length i0] 24), (rC M0 y1 43), (rC E0 y22 38), y5, y6, (rC F0 y11 57), (rX z0 EI ([(in0.length : Nat), (in1.length : Nat)]) 29), (rC b1 y2 26)]) rfl
      refine cl (Co.MG J0 c0 j1 [(rC K0 y4 114), (d0.t.key, JA PA 66 d0.t.pre d0.t.l d0.t.sp), (d0.b.key, JA PA 66 d0.b.pre d0.b.l d0.b.sp), (d0.o.key, JA zB 121 d0.o.pre d0.o.l d0.o.sp), y15, y19, (rC U0 #[sO P0 ops.length S0, sO Q0 ops.length T0] 24), y14, y18, (rC f0 #[sO e0 ws0.length l0, .pointer none, iN ws0.length, iN (VA 0 ops + jA (WA 0) ops ops.length)] 96), y21, (rC m0 #[sO n0 ws1.length o0, .pointer none, iN ws1.length, iN (VA 1 ops + jA (WA 1) ops ops.length)] 96), y24, (rC B0 y3 114), (a0.t.key, JA PA 66 a0.t.pre a0.t.l a0.t.sp), (a0.b.key, JA PA 66 a0.b.pre a0.b.l a0.b.sp), (a0.o.key, JA zB 121 a0.o.pre a0.o.l a0.o.sp), (rC D0 y10 114), (b0.t.key, JA PA 66 b0.t.pre b0.t.l b0.t.sp), (b0.b.key, JA PA 66 b0.b.pre b0.b.l b0.b.sp), (b0.o.key, JA zB 121 b0.o.pre b0.o.l b0.o.sp), (rC x0 y7 50), (rC y0 #[sO j0 q0.length h0, sO k0 r0.length i0] 24), (rC M0 y1 43), (rC E0 y22 38), y5, y6, (rC F0 y11 57), (rX z0 EI ([(in0.length : Nat), (in1.length : Nat)]) 29), (rC b1 y2 26)] w I1 k5 om) ?_
      rintro _ m8 ⟨rfl, N1, l5, m5, n5, o5, p5⟩
      have q5 := l5.as (L' := [_, _, _, _, _, _, _, _, _, _, _, _, _, _, _, _, _, _, _, _, _, _, _, _, _, _, _, _, _, _, _, _, _, _]) rfl
      have : N1.t.l.length = c0.t.l.length - 1 := by rw [n5, List.length_drop]
      have : N1.b.l.length = c0.b.l.length := by rw [o5]
      have : N1.o.l.length = c0.o.l.length := by rw [p5]
      refine go 0 ?_
      exact XK (BE (RA (l1 ((80 : Int), sA j0, h0, q0, sA k0, i0, r0, N1, d0) _ _ ⟨rfl, rfl, rfl, rfl, rfl, True.intro⟩ ⟨⟨om, by omega, by omega, by omega, by omega, by omega, by omega, by omega, by omega, m5, k1, fun _ h => h, fun _ h => h, by omega, by omega⟩, (q5.pk 34 [33, 32, 28, 26, 0, 1, 2, 3, 4, 5, 6, 7, 29, 30])⟩)))
     ·refine go 0 ?_
      obtain rfl : p = 1 := by omega
      refine go 3 ?_
      have r5 := ((W0.pk 34 [4, 5, 6, 7, 0, 1, 2, 3, 8, 9, 10, 11, 12, 13, 14, 15, 16, 17, 18, 19, 20, 21, 22, 23, 24, 25, 26, 27, 28, 29, 30, 31, 32, 33])).as (L' := EA 66 121 114 K0 d0 ++ [(rC J0 y12 114), (c0.t.key, JA PA 66 c0.t.pre c0.t.l c0.t.sp), (c0.b.key, JA PA 66 c0.b.pre c0.b.l c0.b.sp), (c0.o.key, JA zB 121 c0.o.pre c0.o.l c0.o.sp), y15, y19, (rC U0 #[sO P0 ops.length S0, sO Q0 ops.length T0] 24), y14, y18, (rC f0 #[sO e0 ws0.length l0, .pointer none, iN ws0.length, iN (VA 0 ops + jA (WA 0) ops ops.length)] 96), y21, (rC m0 #[sO n0 ws1.length o0, .pointer none, iN ws1.length, iN (VA 1 ops + jA (WA 1) ops ops.length)] 96), y24, (rC B0 y3 114), (a0.t.key, JA PA 66 a0.t.pre a0.t.l a0.t.sp), (a0.b.key, JA PA 66 a0.b.pre a0.b.l a0.b.sp), (a0.o.key, JA zB 121 a0.o.pre a0.o.l a0.o.sp), (rC D0 y10 114), (b0.t.key, JA PA 66 b0.t.pre b0.t.l b0.t.sp), (b0.b.key, JA PA 66 b0.b.pre b0.b.l b0.b.sp), (b0.o.key, JA zB 121 b0.o.pre b0.o.l b0.o.sp), (rC x0 y7 50), (rC y0 #[sO j0 q0.length h0, sO k0 r0.length i0] 24), (rC M0 y1 43), (rC E0 y22 38), y5, y6, (rC F0 y11 57), (rX z0 EI ([(in0.length : Nat), (in1.length : Nat)]) 29), (rC b1 y2 26)]) rfl
      refine cl (Co.MG K0 d0 k1 [(rC J0 y12 114), (c0.t.key, JA PA 66 c0.t.pre c0.t.l c0.t.sp), (c0.b.key, JA PA 66 c0.b.pre c0.b.l c0.b.sp), (c0.o.key, JA zB 121 c0.o.pre c0.o.l c0.o.sp), y15, y19, (rC U0 #[sO P0 ops.length S0, sO Q0 ops.length T0] 24), y14, y18, (rC f0 #[sO e0 ws0.length l0, .pointer none, iN ws0.length, iN (VA 0 ops + jA (WA 0) ops ops.length)] 96), y21, (rC m0 #[sO n0 ws1.length o0, .pointer none, iN ws1.length, iN (VA 1 ops + jA (WA 1) ops ops.length)] 96), y24, (rC B0 y3 114), (a0.t.key, JA PA 66 a0.t.pre a0.t.l a0.t.sp), (a0.b.key, JA PA 66 a0.b.pre a0.b.l a0.b.sp), (a0.o.key, JA zB 121 a0.o.pre a0.o.l a0.o.sp), (rC D0 y10 114), (b0.t.key, JA PA 66 b0.t.pre b0.t.l b0.t.sp), (b0.b.key, JA PA 66 b0.b.pre b0.b.l b0.b.sp), (b0.o.key, JA zB 121 b0.o.pre b0.o.l b0.o.sp), (rC x0 y7 50), (rC y0 #[sO j0 q0.length h0, sO k0 r0.length i0] 24), (rC M0 y1 43), (rC E0 y22 38), y5, y6, (rC F0 y11 57), (rX z0 EI ([(in0.length : Nat), (in1.length : Nat)]) 29), (rC b1 y2 26)] w I1 r5 om) ?_
      rintro _ n8 ⟨rfl, O1, s5, t5, u5, x5, z5⟩
      have A5 := s5.as (L' := [_, _, _, _, _, _, _, _, _, _, _, _, _, _, _, _, _, _, _, _, _, _, _, _, _, _, _, _, _, _, _, _, _, _]) rfl
      have : O1.t.l.length = d0.t.l.length - 1 := by rw [u5, List.length_drop]
      have : O1.b.l.length = d0.b.l.length := by rw [x5]
      have : O1.o.l.length = d0.o.l.length := by rw [z5]
      refine go 0 ?_
      exact XK (BE (RA (l1 ((80 : Int), sA j0, h0, q0, sA k0, i0, r0, c0, O1) _ _ ⟨rfl, rfl, rfl, rfl, rfl, True.intro⟩ ⟨⟨om, by omega, by omega, by omega, by omega, by omega, by omega, by omega, by omega, j1, t5, fun _ h => h, fun _ h => h, by omega, by omega⟩, (A5.pk 34 [33, 32, 28, 26, 4, 5, 6, 7, 0, 1, 2, 3, 29, 30])⟩)))
    ·refine go 1 ?_
     refine sq (gP (a := wh) (b := (3 : Int)) rfl rfl (by decide)) ?_
     refine go 2 ?_
     refine XA (B := (decide ((Int.tmod wh (3 : Int) : Int) = (1 : Int)))) (v := .pointer (some ⟨F0, 1, none⟩)) (wA (d' := 154) (B := true) rfl rfl rfl) (fun hB => rA (off' := 1) vF (by decide) (b := F0) (off := 0) rfl om) (XA (B := (decide ((Int.tmod wh (3 : Int) : Int) = (1 : Int)))) (v := iN (nB ops)) (wA (d' := 154) (B := true) rfl rfl rfl) (fun hB => by simp only [vD (v := _) (h := hB)]; exact DA (v := iN (nB ops)) vF (W0.get (k := 31) rfl) (off := 1) rfl (by rfl)) (XA (B := (decide ((Int.tmod wh (3 : Int) : Int) = (1 : Int)))) (v := .bool (decide ((0 : Int) < (nB ops : Nat)))) (wA (d' := 154) (B := true) rfl rfl rfl) (fun hB => by simp only [vD (v := _) (h := hB)]; exact UC rfl rfl) (sq (yB (B := true) rfl rfl rfl rfl) ?_)))
     refine go 0 ?_
     refine PC ((decide ((Int.tmod wh (3 : Int) : Int) = (1 : Int)) && decide ((0 : Int) < (nB ops : Nat)))) rfl (fun H2 => ?_) (fun H2 => ?_)
     ·have c158p := of_decide_eq_true (Bool.and_eq_true_iff.1 H2).2
      by_cases hp : p = 0
      ·refine go 0 ?_
       subst hp
       refine go 3 ?_
       have B5 := W0.as (L' := EA 66 121 114 J0 c0 ++ [(rC K0 y4 114), (d0.t.key, JA PA 66 d0.t.pre d0.t.l d0.t.sp), (d0.b.key, JA PA 66 d0.b.pre d0.b.l d0.b.sp), (d0.o.key, JA zB 121 d0.o.pre d0.o.l d0.o.sp), y15, y19, (rC U0 #[sO P0 ops.length S0, sO Q0 ops.length T0] 24), y14, y18, (rC f0 #[sO e0 ws0.length l0, .pointer none, iN ws0.length, iN (VA 0 ops + jA (WA 0) ops ops.length)] 96), y21, (rC m0 #[sO n0 ws1.length o0, .pointer none, iN ws1.length, iN (VA 1 ops + jA (WA 1) ops ops.length)] 96), y24, (rC B0 y3 114), (a0.t.key, JA PA 66 a0.t.pre a0.t.l a0.t.sp), (a0.b.key, JA PA 66 a0.b.pre a0.b.l a0.b.sp), (a0.o.key, JA zB 121 a0.o.pre a0.o.l a0.o.sp), (rC D0 y10 114), (b0.t.key, JA PA 66 b0.t.pre b0.t.l b0.t.sp), (b0.b.key, JA PA 66 b0.b.pre b0.b.l b0.b.sp), (b0.o.key, JA zB 121 b0.o.pre b0.o.l b0.o.sp), (rC x0 y7 50), (rC y0 #[sO j0 q0.length h0, sO k0 r0.length i0] 24), (rC M0 y1 43), (rC E0 y22 38), y5, y6, (rC F0 y11 57), (rX z0 EI ([(in0.length : Nat), (in1.length : Nat)]) 29), (rC b1 y2 26)]) rfl
       refine cl (Co.LG J0 c0 j1 [(rC K0 y4 114), (d0.t.key, JA PA 66 d0.t.pre d0.t.l d0.t.sp), (d0.b.key, JA PA 66 d0.b.pre d0.b.l d0.b.sp), (d0.o.key, JA zB 121 d0.o.pre d0.o.l d0.o.sp), y15, y19, (rC U0 #[sO P0 ops.length S0, sO Q0 ops.length T0] 24), y14, y18, (rC f0 #[sO e0 ws0.length l0, .pointer none, iN ws0.length, iN (VA 0 ops + jA (WA 0) ops ops.length)] 96), y21, (rC m0 #[sO n0 ws1.length o0, .pointer none, iN ws1.length, iN (VA 1 ops + jA (WA 1) ops ops.length)] 96), y24, (rC B0 y3 114), (a0.t.key, JA PA 66 a0.t.pre a0.t.l a0.t.sp), (a0.b.key, JA PA 66 a0.b.pre a0.b.l a0.b.sp), (a0.o.key, JA zB 121 a0.o.pre a0.o.l a0.o.sp), (rC D0 y10 114), (b0.t.key, JA PA 66 b0.t.pre b0.t.l b0.t.sp), (b0.b.key, JA PA 66 b0.b.pre b0.b.l b0.b.sp), (b0.o.key, JA zB 121 b0.o.pre b0.o.l b0.o.sp), (rC x0 y7 50), (rC y0 #[sO j0 q0.length h0, sO k0 r0.length i0] 24), (rC M0 y1 43), (rC E0 y22 38), y5, y6, (rC F0 y11 57), (rX z0 EI ([(in0.length : Nat), (in1.length : Nat)]) 29), (rC b1 y2 26)] w I1 B5 om) ?_
       rintro _ o8 ⟨rfl, P1, C5, D5, E5, F5, G5⟩
       have H5 := C5.as (L' := [_, _, _, _, _, _, _, _, _, _, _, _, _, _, _, _, _, _, _, _, _, _, _, _, _, _, _, _, _, _, _, _, _, _]) rfl
       have : P1.b.l.length = c0.b.l.length - 1 := by rw [E5, List.length_drop]
       have : P1.t.l.length = c0.t.l.length := by rw [F5]
       have : P1.o.l.length = c0.o.l.length := by rw [G5]
       refine go 0 ?_
       exact XK (BE (RA (l1 ((80 : Int), sA j0, h0, q0, sA k0, i0, r0, P1, d0) _ _ ⟨rfl, rfl, rfl, rfl, rfl, True.intro⟩ ⟨⟨om, by omega, by omega, by omega, by omega, by omega, by omega, by omega, by omega, D5, k1, fun _ h => h, fun _ h => h, by omega, by omega⟩, (H5.pk 34 [33, 32, 28, 26, 0, 1, 2, 3, 4, 5, 6, 7, 29, 30])⟩)))
      ·refine go 0 ?_
       obtain rfl : p = 1 := by omega
       refine go 3 ?_
       have I5 := ((W0.pk 34 [4, 5, 6, 7, 0, 1, 2, 3, 8, 9, 10, 11, 12, 13, 14, 15, 16, 17, 18, 19, 20, 21, 22, 23, 24, 25, 26, 27, 28, 29, 30, 31, 32, 33])).as (L' := EA 66 121 114 K0 d0 ++ [(rC J0 y12 114), (c0.t.key, JA PA 66 c0.t.pre c0.t.l c0.t.sp), (c0.b.key, JA PA 66 c0.b.pre c0.b.l c0.b.sp), (c0.o.key, JA zB 121 c0.o.pre c0.o.l c0.o.sp), y15, y19, (rC U0 #[sO P0 ops.length S0, sO Q0 ops.length T0] 24), y14, y18, (rC f0 #[sO e0 ws0.length l0, .pointer none, iN ws0.length, iN (VA 0 ops + jA (WA 0) ops ops.length)] 96), y21, (rC m0 #[sO n0 ws1.length o0, .pointer none, iN ws1.length, iN (VA 1 ops + jA (WA 1) ops ops.length)] 96), y24, (rC B0 y3 114), (a0.t.key, JA PA 66 a0.t.pre a0.t.l a0.t.sp), (a0.b.key, JA PA 66 a0.b.pre a0.b.l a0.b.sp), (a0.o.key, JA zB 121 a0.o.pre a0.o.l a0.o.sp), (rC D0 y10 114), (b0.t.key, JA PA 66 b0.t.pre b0.t.l b0.t.sp), (b0.b.key, JA PA 66 b0.b.pre b0.b.l b0.b.sp), (b0.o.key, JA zB 121 b0.o.pre b0.o.l b0.o.sp), (rC x0 y7 50), (rC y0 #[sO j0 q0.length h0, sO k0 r0.length i0] 24), (rC M0 y1 43), (rC E0 y22 38), y5, y6, (rC F0 y11 57), (rX z0 EI ([(in0.length : Nat), (in1.length : Nat)]) 29), (rC b1 y2 26)]) rfl
       refine cl (Co.LG K0 d0 k1 [(rC J0 y12 114), (c0.t.key, JA PA 66 c0.t.pre c0.t.l c0.t.sp), (c0.b.key, JA PA 66 c0.b.pre c0.b.l c0.b.sp), (c0.o.key, JA zB 121 c0.o.pre c0.o.l c0.o.sp), y15, y19, (rC U0 #[sO P0 ops.length S0, sO Q0 ops.length T0] 24), y14, y18, (rC f0 #[sO e0 ws0.length l0, .pointer none, iN ws0.length, iN (VA 0 ops + jA (WA 0) ops ops.length)] 96), y21, (rC m0 #[sO n0 ws1.length o0, .pointer none, iN ws1.length, iN (VA 1 ops + jA (WA 1) ops ops.length)] 96), y24, (rC B0 y3 114), (a0.t.key, JA PA 66 a0.t.pre a0.t.l a0.t.sp), (a0.b.key, JA PA 66 a0.b.pre a0.b.l a0.b.sp), (a0.o.key, JA zB 121 a0.o.pre a0.o.l a0.o.sp), (rC D0 y10 114), (b0.t.key, JA PA 66 b0.t.pre b0.t.l b0.t.sp), (b0.b.key, JA PA 66 b0.b.pre b0.b.l b0.b.sp), (b0.o.key, JA zB 121 b0.o.pre b0.o.l b0.o.sp), (rC x0 y7 50), (rC y0 #[sO j0 q0.length h0, sO k0 r0.length i0] 24), (rC M0 y1 43), (rC E0 y22 38), y5, y6, (rC F0 y11 57), (rX z0 EI ([(in0.length : Nat), (in1.length : Nat)]) 29), (rC b1 y2 26)] w I1 I5 om) ?_
       rintro _ p8 ⟨rfl, Q1, J5, K5, L5, M5, N5⟩
       have O5 := J5.as (L' := [_, _, _, _, _, _, _, _, _, _, _, _, _, _, _, _, _, _, _, _, _, _, _, _, _, _, _, _, _, _, _, _, _, _]) rfl
       have : Q1.b.l.length = d0.b.l.length - 1 := by rw [L5, List.length_drop]
       have : Q1.t.l.length = d0.t.l.length := by rw [M5]
       have : Q1.o.l.length = d0.o.l.length := by rw [N5]
       refine go 0 ?_
       exact XK (BE (RA (l1 ((80 : Int), sA j0, h0, q0, sA k0, i0, r0, c0, Q1) _ _ ⟨rfl, rfl, rfl, rfl, rfl, True.intro⟩ ⟨⟨om, by omega, by omega, by omega, by omega, by omega, by omega, by omega, by omega, j1, K5, fun _ h => h, fun _ h => h, by omega, by omega⟩, (O5.pk 34 [33, 32, 28, 26, 4, 5, 6, 7, 0, 1, 2, 3, 29, 30])⟩)))
     ·by_cases hp : p = 0
      ·refine go 0 ?_
       subst hp
       refine go 5 ?_
       refine iA ((0 : Int) < (pE ops : Nat)) rfl (fun q2 => ?_) (fun q2 => ?_)
       ·obtain ⟨wz, hwz⟩ : ∃ q, (q0.drop 0).take (pE ops - 1) = q := ⟨_, rfl⟩
        have hwzl : wz.length = (pE ops - 1) := by rw [← hwz, List.length_take, List.length_drop]; omega
        have P5 := (W0.pk 34 [26, 0, 1, 2, 3, 4, 5, 6, 7, 8, 9, 10, 11, 12, 13, 14, 15, 16, 17, 18, 19, 20, 21, 22, 23, 24, 25, 27, 28, 29, 30, 31, 32, 33])
        let R1 : List RW := [(rC J0 y12 114), (c0.t.key, JA PA 66 c0.t.pre c0.t.l c0.t.sp), (c0.b.key, JA PA 66 c0.b.pre c0.b.l c0.b.sp), (c0.o.key, JA zB 121 c0.o.pre c0.o.l c0.o.sp), (rC K0 y4 114), (d0.t.key, JA PA 66 d0.t.pre d0.t.l d0.t.sp), (d0.b.key, JA PA 66 d0.b.pre d0.b.l d0.b.sp), (d0.o.key, JA zB 121 d0.o.pre d0.o.l d0.o.sp), y15, y19, (rC U0 #[sO P0 ops.length S0, sO Q0 ops.length T0] 24), y14, y18, (rC f0 #[sO e0 ws0.length l0, .pointer none, iN ws0.length, iN (VA 0 ops + jA (WA 0) ops ops.length)] 96), y21, (rC m0 #[sO n0 ws1.length o0, .pointer none, iN ws1.length, iN (VA 1 ops + jA (WA 1) ops ops.length)] 96), y24, (rC B0 y3 114), (a0.t.key, JA PA 66 a0.t.pre a0.t.l a0.t.sp), (a0.b.key, JA PA 66 a0.b.pre a0.b.l a0.b.sp), (a0.o.key, JA zB 121 a0.o.pre a0.o.l a0.o.sp), (rC D0 y10 114), (b0.t.key, JA PA 66 b0.t.pre b0.t.l b0.t.sp), (b0.b.key, JA PA 66 b0.b.pre b0.b.l b0.b.sp), (b0.o.key, JA zB 121 b0.o.pre b0.o.l b0.o.sp), (rC x0 y7 50), (rC M0 y1 43), (rC E0 y22 38), (j0, qA E64 34 q0 r2), y6, (rC F0 #[iN (nA ops), iN (nB ops), iN (nO ops), iN (pE ops), iN (dF ops), i64 (nR ops), iN (PR ops), iN (OR ops)] 57), (rX z0 EI ([(in0.length : Nat), (in1.length : Nat)]) 29), (rC b1 #[.slice oa ops.length oc, .slice ain0 in0.length cin0, .slice ain1 in1.length cin1, y17, y20, y23] 26)]
        let Q5 : mC := [XF false fun _ w' => Hp No w w' ((rC y0 #[sO j0 q0.length h0, sO k0 r0.length i0] 24) :: R1), XF true fun _ w' => Hp No w w' ((rC y0 #[.slice (if h0 = 0 then sA j0 else oC (sA j0) (0 * 1)) wz.length (h0 - 0), sO k0 r0.length i0] 24) :: R1)]
        refine MA (m := 12) [0, 0, 2, 6, 0, 0, 48, 112, 240, 510, 1023, 2047] [11] R1 Q5 BA (fun _ e => P5.ext e) EC (fun R5 => ?_)
        refine gk 8 ?_
        refine ZB (iN (pE ops - 1)) (fun _ uw hcx => (UG rfl rfl om).as (v' := iN (pE ops - 1)) (by exact congrArg i64 om)) (ZB (.slice (if h0 = 0 then sA j0 else oC (sA j0) (0 * 1)) wz.length (h0 - 0)) (fun _ uw hcx => ((SC (l := 0) (h := (pE ops - 1)) vF rfl (.inr ⟨rfl, rfl⟩) (.inl ⟨_, _, _, rfl, rfl, by first | rfl | omega | (simp; omega)⟩) om om).as (v' := .slice (if h0 = 0 then sA j0 else oC (sA j0) (0 * 1)) (pE ops - 1) (h0 - 0)) (by first | rfl | (congr 1; omega) | (simp; omega) | simp)).as (v' := .slice (if h0 = 0 then sA j0 else oC (sA j0) (0 * 1)) wz.length (h0 - 0)) (by rw [hwzl] <;> rfl)) ?_)
        refine gk 1 ?_
        refine WalkT.eff R5 0 ?_ ?_
        ·refine tA fun r w0 uw hF hE => ?_
         have q8 := hF.ext hE
         refine MC fun Q' hK => ?_
         refine go 1 ?_
         intro r8 S5 s8
         exact hK _ (fun _ => S5)
        refine WalkT.nil fun r w0 t8 hF hE => ?_
        have I2 := hF.ext hE
        dsimp only
        dsimp only [R1] at I2
        exact BE (RA (l1 ((40 : Int), if h0 = 0 then sA j0 else oC (sA j0) (0 * 1), h0 - 0, wz, sA k0, i0, r0, c0, d0) _ _ ⟨rfl, rfl, rfl, rfl, rfl, True.intro⟩ ⟨⟨om, by omega, by omega, by omega, by omega, by omega, by omega, by omega, by omega, j1, k1, fun _ h => hwz ▸ Rd.sub h 0 (pE ops - 1) (m := h0) (fun e => by first | exact absurd e om | (rw [show (pE ops - 1) = 0 by omega]; rfl)), fun _ h => h, by omega, by omega⟩, (I2.pk 34 [33, 32, 28, 0, 1, 2, 3, 4, 5, 6, 7, 8, 29, 30])⟩))
       ·refine sR (XK ?_)
        refine go 0 ?_
        exact ⟨_, rfl, rfl, W0.chg⟩
      ·refine go 0 ?_
       obtain rfl : p = 1 := by omega
       refine go 5 ?_
       refine iA ((0 : Int) < (dF ops : Nat)) rfl (fun q2 => ?_) (fun q2 => ?_)
       ·obtain ⟨wz, hwz⟩ : ∃ q, (r0.drop 0).take (dF ops - 1) = q := ⟨_, rfl⟩
        have hwzl : wz.length = (dF ops - 1) := by rw [← hwz, List.length_take, List.length_drop]; omega
        have T5 := (W0.pk 34 [26, 0, 1, 2, 3, 4, 5, 6, 7, 8, 9, 10, 11, 12, 13, 14, 15, 16, 17, 18, 19, 20, 21, 22, 23, 24, 25, 27, 28, 29, 30, 31, 32, 33])
        let S1 : List RW := [(rC J0 y12 114), (c0.t.key, JA PA 66 c0.t.pre c0.t.l c0.t.sp), (c0.b.key, JA PA 66 c0.b.pre c0.b.l c0.b.sp), (c0.o.key, JA zB 121 c0.o.pre c0.o.l c0.o.sp), (rC K0 y4 114), (d0.t.key, JA PA 66 d0.t.pre d0.t.l d0.t.sp), (d0.b.key, JA PA 66 d0.b.pre d0.b.l d0.b.sp), (d0.o.key, JA zB 121 d0.o.pre d0.o.l d0.o.sp), y15, y19, (rC U0 #[sO P0 ops.length S0, sO Q0 ops.length T0] 24), y14, y18, (rC f0 #[sO e0 ws0.length l0, .pointer none, iN ws0.length, iN (VA 0 ops + jA (WA 0) ops ops.length)] 96), y21, (rC m0 #[sO n0 ws1.length o0, .pointer none, iN ws1.length, iN (VA 1 ops + jA (WA 1) ops ops.length)] 96), y24, (rC B0 y3 114), (a0.t.key, JA PA 66 a0.t.pre a0.t.l a0.t.sp), (a0.b.key, JA PA 66 a0.b.pre a0.b.l a0.b.sp), (a0.o.key, JA zB 121 a0.o.pre a0.o.l a0.o.sp), (rC D0 y10 114), (b0.t.key, JA PA 66 b0.t.pre b0.t.l b0.t.sp), (b0.b.key, JA PA 66 b0.b.pre b0.b.l b0.b.sp), (b0.o.key, JA zB 121 b0.o.pre b0.o.l b0.o.sp), (rC x0 y7 50), (rC M0 y1 43), (rC E0 y22 38), y5, (k0, qA E64 34 r0 s2), (rC F0 #[iN (nA ops), iN (nB ops), iN (nO ops), iN (pE ops), iN (dF ops), i64 (nR ops), iN (PR ops), iN (OR ops)] 57), (rX z0 EI ([(in0.length : Nat), (in1.length : Nat)]) 29), (rC b1 #[.slice oa ops.length oc, .slice ain0 in0.length cin0, .slice ain1 in1.length cin1, y17, y20, y23] 26)]
        let U5 : mC := [XF false fun _ w' => Hp No w w' ((rC y0 #[sO j0 q0.length h0, sO k0 r0.length i0] 24) :: S1), XF true fun _ w' => Hp No w w' ((rC y0 #[sO j0 q0.length h0, .slice (if i0 = 0 then sA k0 else oC (sA k0) (0 * 1)) wz.length (i0 - 0)] 24) :: S1)]
        refine MA (m := 12) [0, 0, 2, 6, 0, 0, 48, 112, 240, 510, 1023, 2047] [11] S1 U5 BA (fun _ e => T5.ext e) EC (fun V5 => ?_)
        refine gk 8 ?_
        refine ZB (iN (dF ops - 1)) (fun _ uw hcx => (UG rfl rfl om).as (v' := iN (dF ops - 1)) (by exact congrArg i64 om)) (ZB (.slice (if i0 = 0 then sA k0 else oC (sA k0) (0 * 1)) wz.length (i0 - 0)) (fun _ uw hcx => ((SC (l := 0) (h := (dF ops - 1)) vF rfl (.inr ⟨rfl, rfl⟩) (.inl ⟨_, _, _, rfl, rfl, by first | rfl | omega | (simp; omega)⟩) om om).as (v' := .slice (if i0 = 0 then sA k0 else oC (sA k0) (0 * 1)) (dF ops - 1) (i0 - 0)) (by first | rfl | (congr 1; omega) | (simp; omega) | simp)).as (v' := .slice (if i0 = 0 then sA k0 else oC (sA k0) (0 * 1)) wz.length (i0 - 0)) (by rw [hwzl] <;> rfl)) ?_)
        refine gk 1 ?_
        refine WalkT.eff V5 0 ?_ ?_
        ·refine tA fun r w0 uw hF hE => ?_
         have x8 := hF.ext hE
         refine MC fun Q' hK => ?_
         refine go 1 ?_
         intro z8 W5 A8
         exact hK _ (fun _ => W5)
        refine WalkT.nil fun r w0 B8 hF hE => ?_
        have J2 := hF.ext hE
        dsimp only
        dsimp only [S1] at J2
        exact BE (RA (l1 ((40 : Int), sA j0, h0, q0, if i0 = 0 then sA k0 else oC (sA k0) (0 * 1), i0 - 0, wz, c0, d0) _ _ ⟨rfl, rfl, rfl, rfl, rfl, True.intro⟩ ⟨⟨om, by omega, by omega, by omega, by omega, by omega, by omega, by omega, by omega, j1, k1, fun _ h => h, fun _ h => hwz ▸ Rd.sub h 0 (dF ops - 1) (m := i0) (fun e => by first | exact absurd e om | (rw [show (dF ops - 1) = 0 by omega]; rfl)), by omega, by omega⟩, (J2.pk 34 [33, 32, 28, 0, 1, 2, 3, 4, 5, 6, 7, 8, 29, 30])⟩))
       ·refine go 0 ?_
        exact XK (jF (CD (iG (rG1 4 (.bool true) rfl ⟨rfl, rfl⟩ (⟨_, rfl, rfl, W0.chg⟩)))))
 ·refine go 0 ?_
  refine cl (MD w2 uC) ?_
  rintro _ X5 ⟨rfl, Y5⟩
  have Z5 := H3.ext Y5
  refine go 4 ?_
  refine eF (gA (d' := 23) (b := false) rfl rfl rfl) (cA (vs := [.slice oa ops.length oc]) vF rfl) (wG false ops oa oc X5 uC IC om (Bool.eq_false_iff.2 fun h => hl (by simp only [Bool.and_eq_true, decide_eq_true_eq] at h; omega))) ?_
  rintro _ c6 ⟨rfl, d6⟩
  have f6 := Z5.ext d6
  refine go 4 ?_
  refine cl (MD c6 uC) ?_
  rintro _ C8 ⟨rfl, g6⟩
  have h6 := f6.ext g6
  refine go 1 ?_
  exact ⟨_, rfl, rfl, h6.chg⟩
theorem mtapes_all (ops : List Mo) (oa : Option Addr) (oc : Nat) (in0 in1 t0 t1 dl : List (BitVec 64)) (ain0 ain1 at0 at1 adl : Option Addr) (cin0 cin1 ct0 ct1 cdl : Nat) (wh : Int) (w : World) (hG : Gl w) (hO : Rd xE w oa ops) (hol : ops.length ≤ 17592186044416) (hN0 : Rd E64 w ain0 in0) (hN1 : Rd E64 w ain1 in1) (hn0 : in0.length ≤ 17592186044416) (hn1 : in1.length ≤ 17592186044416) (hT0 : Rd E64 w at0 t0) (hlt0 : t0.length ≤ 17592186044416) (hT1 : Rd E64 w at1 t1) (hlt1 : t1.length ≤ 17592186044416) (hDL : Rd E64 w adl dl) (hldl : dl.length ≤ 17592186044416) : Ca 5 [.agg #[.slice oa ops.length oc, .slice ain0 in0.length cin0, .slice ain1 in1.length cin1, .slice at0 t0.length ct0, .slice at1 t1.length ct1, .slice adl dl.length cdl], i64 wh] w fun v w' => v = .bool true ∧ Ext w w' := by
 by_cases hgd : Mi.Good ops ((in0.length : Nat) : Int) ((in1.length : Nat) : Int)
 ·exact xN ops oa oc in0 in1 t0 t1 dl ain0 ain1 at0 at1 adl cin0 cin1 ct0 ct1 cdl wh w hG hO hol hN0 hN1 hn0 hn1 hT0 hlt0 hT1 hlt1 hDL hldl hgd
 ·exact yN ops oa oc in0 in1 t0 t1 dl ain0 ain1 at0 at1 adl cin0 cin1 ct0 ct1 cdl wh w hG hO hol hN0 hN1 hn0 hn1 hT0 hlt0 hT1 hlt1 hDL hldl hgd
end Go.Proofs.YtohngnahcgbfmaaGreatDoor.Mu
