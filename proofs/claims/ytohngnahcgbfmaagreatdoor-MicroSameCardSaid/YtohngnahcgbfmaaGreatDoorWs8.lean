/- What the claim has need of: Mt5, Mt6. -/
import Derived.Test.YtohngnahcgbfmaaGreatDoorWs7
set_option linter.unusedVariables false
set_option maxHeartbeats 16000000
set_option maxRecDepth 20000
namespace Go.Proofs.YtohngnahcgbfmaaGreatDoor.Mt
open Go Vc Er Ek Circ Mi
open Co Cm
theorem agg29 : isAgg' Tryz.prog 29 = true := by kernel_rfl
theorem call7 : callable Tryz.prog 7 = true := by kernel_rfl
theorem call8 : callable Tryz.prog 8 = true := by kernel_rfl
theorem isI31 : isI Tryz.prog 31 = true := by kernel_rfl
theorem siz29 : siz Tryz.prog 29 = some 2 := by kernel_rfl
theorem zer29 : zer Tryz.prog 29 = some (.agg (List.replicate 2 (.int .i64 0)).toArray) := by kernel_rfl
theorem light_is (b : Bool) (ops : List Mo) (oa : Option Addr) (oc : Nat) (w : World) (hG : Gl w) (hO : Rd EMo w oa ops) (hol : ops.length ≤ 140737488355328) (hb : (decide (((ops.length : Nat) : Int) ≤ (400 : Int)) && decide (((cntS fG ops ops.length : Nat) : Int) ≤ (3 : Int))) = b) : Calls Tryz.prog 7 [.slice oa ops.length oc].toArray w (Ret fun v w' => v = .bool b ∧ Ext w w') := by
 subst hb; exact light_ok ops oa oc w hG hO hol
theorem msame_no (ops : List Mo) (oa : Option Addr) (oc : Nat) (in0 in1 t0 t1 dl u0 u1 ee : List (BitVec 64)) (ain0 ain1 at0 at1 adl au0 au1 aee : Option Addr) (cin0 cin1 ct0 ct1 cdl cu0 cu1 cee : Nat) (w : World) (hG : Gl w) (hO : Rd EMo w oa ops) (hol : ops.length ≤ 17592186044416) (hN0 : Rd E64 w ain0 in0) (hN1 : Rd E64 w ain1 in1) (hn0 : in0.length ≤ 17592186044416) (hn1 : in1.length ≤ 17592186044416) (hT0 : Rd E64 w at0 t0) (hlt0 : t0.length ≤ 17592186044416) (hT1 : Rd E64 w at1 t1) (hlt1 : t1.length ≤ 17592186044416) (hDL : Rd E64 w adl dl) (hldl : dl.length ≤ 17592186044416) (hU0 : Rd E64 w au0 u0) (hlu0 : u0.length ≤ 17592186044416) (hU1 : Rd E64 w au1 u1) (hlu1 : u1.length ≤ 17592186044416) (hEE : Rd E64 w aee ee) (hlee : ee.length ≤ 17592186044416) (hgd : ¬ Mi.Good ops ((in0.length : Nat) : Int) ((in1.length : Nat) : Int)) : Calls Tryz.prog 3 [.agg #[.slice oa ops.length oc, .slice ain0 in0.length cin0, .slice ain1 in1.length cin1, .slice at0 t0.length ct0, .slice at1 t1.length ct1, .slice adl dl.length cdl], .agg #[.slice au0 u0.length cu0, .slice au1 u1.length cu1], .slice aee ee.length cee].toArray w (Ret fun v w' => v = .bool true ∧ Ext w w') := by
 have H := Hp.start No w
 refine enter (n := 148) Tryz.func3 rfl rfl (bLe rfl) ?_
 refine go 1 ?_
 intro b1 w2 z0 H3 A0
 refine go 1 ?_
 intro b5 w6 B0 H7 C0
 refine go 1 ?_
 by_cases hl : ops.length ≤ 400 ∧ cntS fG ops ops.length ≤ 3
 ·refine go 0 ?_
  refine cl (Ms.awake_ok w6 vGl) ?_
  rintro _ w9 ⟨rfl, b0⟩
  have c0 := H7.ext b0
  refine go 4 ?_
  refine caAny (wantedSome (d' := 22) (b := false) rfl rfl rfl) (Enters.callL (vs := [.slice oa ops.length oc]) call7 rfl) (light_is true ops oa oc w9 vGl vRd om (by simp only [Bool.and_eq_true, decide_eq_true_eq]; omega)) ?_
  rintro _ d0 ⟨rfl, e0⟩
  have f0 := c0.ext e0
  refine go 14 ?_
  refine condProp (((2000 : Int) : Int) < ((in0.length : Nat) + (in1.length : Nat))) rfl (fun h0 => ?_) (fun h0 => ?_)
  ·refine go 0 ?_
   refine cl (Ms.awake_ok d0 vGl) ?_
   rintro _ D0 ⟨rfl, i0⟩
   have j0 := f0.ext i0
   refine go 1 ?_
   exact ⟨_, rfl, rfl, j0.chg⟩
  ·have hlen := hl.1
   refine go 10 ?_
   intro E0 F0 G0 H0 I0
   refine go 1 ?_
   intro k0 a0 J0
   refine go 3 ?_
   have := a0.lt (List.mem_of_getElem? (i := 0) rfl) rfl
   have := a0.lt (List.mem_of_getElem? (i := 1) rfl) rfl
   have := a0.lt (List.mem_of_getElem? (i := 2) rfl) rfl
   refine cl (mcheck_no ops oa oc (in0.length : Nat) (in1.length : Nat) ops.length (by rfl) k0 vGl vRd om hgd) ?_
   rintro v27 K0 ⟨l0, m0⟩
   have n0 := a0.ext m0
   obtain ⟨L0, M0, rfl⟩ := l0.iface
   refine go 2 ?_
   exact ⟨_, rfl, rfl, n0.chg⟩
 ·refine go 0 ?_
  refine cl (Ms.awake_ok w6 vGl) ?_
  rintro _ o0 ⟨rfl, p0⟩
  have q0 := H7.ext p0
  refine go 4 ?_
  refine caAny (wantedSome (d' := 22) (b := false) rfl rfl rfl) (Enters.callL (vs := [.slice oa ops.length oc]) call7 rfl) (light_is false ops oa oc o0 vGl vRd om (Bool.eq_false_iff.2 fun h => hl (by simp only [Bool.and_eq_true, decide_eq_true_eq] at h; omega))) ?_
  rintro _ r0 ⟨rfl, s0⟩
  have w0 := q0.ext s0
  refine go 4 ?_
  refine cl (Ms.awake_ok r0 vGl) ?_
  rintro _ N0 ⟨rfl, x0⟩
  have y0 := w0.ext x0
  refine go 1 ?_
  exact ⟨_, rfl, rfl, y0.chg⟩
end Go.Proofs.YtohngnahcgbfmaaGreatDoor.Mt
namespace Go.Proofs.YtohngnahcgbfmaaGreatDoor.Mt
open Go Vc Er Ek Circ Mi
open Co Cm
theorem call12 : callable Tryz.prog 12 = true := by kernel_rfl
theorem call13 : callable Tryz.prog 13 = true := by kernel_rfl
theorem msame_ok (ops : List Mo) (oa : Option Addr) (oc : Nat) (in0 in1 t0 t1 dl u0 u1 ee : List (BitVec 64)) (ain0 ain1 at0 at1 adl au0 au1 aee : Option Addr) (cin0 cin1 ct0 ct1 cdl cu0 cu1 cee : Nat) (w : World) (hG : Gl w) (hO : Rd EMo w oa ops) (hol : ops.length ≤ 17592186044416) (hN0 : Rd E64 w ain0 in0) (hN1 : Rd E64 w ain1 in1) (hn0 : in0.length ≤ 17592186044416) (hn1 : in1.length ≤ 17592186044416) (hT0 : Rd E64 w at0 t0) (hlt0 : t0.length ≤ 17592186044416) (hT1 : Rd E64 w at1 t1) (hlt1 : t1.length ≤ 17592186044416) (hDL : Rd E64 w adl dl) (hldl : dl.length ≤ 17592186044416) (hU0 : Rd E64 w au0 u0) (hlu0 : u0.length ≤ 17592186044416) (hU1 : Rd E64 w au1 u1) (hlu1 : u1.length ≤ 17592186044416) (hEE : Rd E64 w aee ee) (hlee : ee.length ≤ 17592186044416) (hgd : Mi.Good ops ((in0.length : Nat) : Int) ((in1.length : Nat) : Int)) : Calls Tryz.prog 3 [.agg #[.slice oa ops.length oc, .slice ain0 in0.length cin0, .slice ain1 in1.length cin1, .slice at0 t0.length ct0, .slice at1 t1.length ct1, .slice adl dl.length cdl], .agg #[.slice au0 u0.length cu0, .slice au1 u1.length cu1], .slice aee ee.length cee].toArray w (Ret fun v w' => v = .bool true ∧ Ext w w') := by
 let H2 : Value := .slice oa ops.length oc
 let r1 : Array Value := #[.slice au0 u0.length cu0, .slice au1 u1.length cu1]
 let x5 : Array Value := #[H2, .slice ain0 in0.length cin0, .slice ain1 in1.length cin1, .slice au0 u0.length cu0, .slice au1 u1.length cu1, .slice aee ee.length cee]
 let x1 : Array Value := #[H2, .slice ain0 in0.length cin0, .slice ain1 in1.length cin1, .slice at0 t0.length ct0, .slice at1 t1.length ct1, .slice adl dl.length cdl]
 have hgu := good_up hgd
 have hou := outs_le ops
 obtain ⟨hcA, hcB, hcO, hcT0, hcT1, hcW0, hcW1, hcG⟩ := cntLe ops ops.length
 have e4 : nT0 ops ≤ cntS fT0 ops ops.length + 2 := by unfold nT0 dlt; split <;> omega
 have e5 : nT1 ops = cntS fT1 ops ops.length := rfl
 have H := Hp.start No w
 refine enter (n := 148) Tryz.func3 rfl rfl (bLe rfl) ?_
 refine go 1 ?_
 intro b1 w2 R7 H3 S7
 refine go 1 ?_
 intro b5 w6 T7 H7 U7
 refine go 1 ?_
 by_cases hl : ops.length ≤ 400 ∧ cntS fG ops ops.length ≤ 3
 ·refine go 0 ?_
  refine cl (Ms.awake_ok w6 vGl) ?_
  rintro _ w9 ⟨rfl, h4⟩
  have i4 := H7.ext h4
  refine go 4 ?_
  refine caAny (wantedSome (d' := 22) (b := false) rfl rfl rfl) (Enters.callL (vs := [H2]) call7 rfl) (light_is true ops oa oc w9 vGl vRd om (by simp only [Bool.and_eq_true, decide_eq_true_eq]; omega)) ?_
  rintro _ j4 ⟨rfl, k4⟩
  have l4 := i4.ext k4
  refine go 14 ?_
  refine condProp (((2000 : Int) : Int) < ((in0.length : Nat) + (in1.length : Nat))) rfl (fun m4 => ?_) (fun m4 => ?_)
  ·refine go 0 ?_
   refine cl (Ms.awake_ok j4 vGl) ?_
   rintro _ V7 ⟨rfl, n4⟩
   have o4 := l4.ext n4
   refine go 1 ?_
   exact ⟨_, rfl, rfl, o4.chg⟩
  ·have hlen := hl.1
   refine go 10 ?_
   intro h1 W7 X7 Y7 Z7
   refine go 1 ?_
   intro p4 q4 c8
   refine go 3 ?_
   refine cl (mcheck_yes ops oa oc (in0.length : Nat) (in1.length : Nat) ops.length (by rfl) p4 vGl vRd om hgd) ?_
   rintro _ d8 ⟨rfl, r4⟩
   have s4 := q4.ext r4
   refine go 5 ?_
   refine loopAny (σ := Nat) (fun i => [(2, .slice aee ee.length cee), (3, pT b1), (4, pT b5), (7, pT h1), (57, iN ops.length), (58, iN i)]) (fun i w' => (i ≤ ops.length ∧ ∀ j, j < i → (ops.getD j mo0).kd ≠ 15 ∧ (ops.getD j mo0).kd ≠ 16) ∧ Hp No w w' [(rX h1 EI ([(in0.length : Nat), (in1.length : Nat)]) 29), (rC b5 r1 24), (rC b1 x1 26)]) (fun i => ops.length - i) (0) ?_ ?_ ?_
   ·exact kp
   ·exact ⟨⟨Nat.zero_le _, fun j h => absurd h (Nat.not_lt_zero _)⟩, s4⟩
   rintro i ρ t4 ⟨⟨hq, hkn⟩, HL⟩
   refine go 1 ?_
   refine condProp (((i : Nat) : Int) < (ops.length : Nat)) rfl (fun u4 => ?_) (fun u4 => ?_)
   ·refine go 2 ?_
    by_cases h15 : (ops.getD i mo0).kd = 15
    ·refine go 5 ?_
     refine sq (r_ldP (E := EMo) (l := ops) (j := i) (o := 0) (v := (ops.getD i mo0)) (u := i64 ((ops.getD i mo0).kd)) one33 (hO.ext HL.chg) (at_getD om) rfl rfl rfl) (sq ((r_eqlI rfl rfl).as (v' := .bool true) (by exact congrArg Value.bool (decide_eq_true h15))) ?_)
     refine go 3 ?_
     exact ⟨_, rfl, rfl, HL.chg⟩
    ·refine go 5 ?_
     refine sq (r_ldP (E := EMo) (l := ops) (j := i) (o := 0) (v := (ops.getD i mo0)) (u := i64 ((ops.getD i mo0).kd)) one33 (hO.ext HL.chg) (at_getD om) rfl rfl rfl) (sq ((r_eqlI rfl rfl).as (v' := .bool false) (by exact congrArg Value.bool (decide_eq_false h15))) ?_)
     refine go 6 ?_
     refine sqAny (v := i64 ((ops.getD i mo0).kd)) (w' := t4) (wantedSome (d' := 68) (b := false) rfl rfl rfl) (r_ldP (E := EMo) (l := ops) (j := i) (o := 0) (v := (ops.getD i mo0)) (u := i64 ((ops.getD i mo0).kd)) one33 (hO.ext HL.chg) (at_getD om) rfl rfl rfl) ?_
     refine go 2 ?_
     refine condProp (((ops.getD i mo0).kd : Int) = (16 : Int)) rfl (fun y3 => ?_) (fun y3 => ?_)
     ·refine go 1 ?_
      exact ⟨_, rfl, rfl, HL.chg⟩
     ·refine go 2 ?_
      exact ⟨i + 1, _, rfl, kp, ⟨⟨om, fun j hj => if e : j < i then hkn j e else by (rw [show j = i by omega]; exact ⟨h15, y3⟩)⟩, HL⟩, vd⟩
   ·have hie : i = ops.length := by omega
    subst hie
    refine go 2 ?_
    intro y1 e8 f8 g8 h8
    refine go 1 ?_
    intro j8 k8 l8
    refine go 4 ?_
    intro m8 n8 o8
    refine go 2 ?_
    intro w4 y4 p8
    refine go 1 ?_
    refine cl (dealt_ok ops oa oc in0 in1 t0 t1 dl ain0 ain1 at0 at1 adl cin0 cin1 ct0 ct1 cdl w4 vGl hgu hlen vRd vRd vRd vRd om om om) ?_
    rintro _ q8 ⟨f2, g2, r0, s0, r8, i0, p0, X0, i1, z4, Y0, j1, A4, T2, U2, V2, X2, Y2, Z2, rfl, z3, A3, Z0, s8, t8, w8, y8, B4⟩
    let z1 : Array Value := #[pT f2, pT g2]
    let A1 : RW := (Y0, sob E64 34 p0 A4)
    let x7 : RW := (X0, sob E64 34 i0 z4)
    let x3 : Array Value := #[.slice T2.a T2.n T2.c, .slice U2.a U2.n U2.c, .slice V2.a V2.n V2.c, .slice X2.a X2.n X2.c, .slice Y2.a Y2.n Y2.c, .slice Z2.a Z2.n Z2.c]
    have z8 := (y4.join B4).a14 rfl
    refine go 5 ?_
    intro B1 A8 B8 C8 D8
    refine go 1 ?_
    intro C1 F8 G8 H8 I8
    refine go 1 ?_
    intro E1 J8 K8 L8 M8
    refine go 1 ?_
    intro N8 O8 P8
    refine go 1 ?_
    intro Q8 R8 S8
    refine go 1 ?_
    intro C4 D4 T8
    refine go 1 ?_
    refine cl (dealt_ok ops oa oc in0 in1 u0 u1 ee ain0 ain1 au0 au1 aee cin0 cin1 cu0 cu1 cee C4 vGl hgu hlen vRd vRd vRd vRd om om om) ?_
    rintro _ U8 ⟨F1, G1, a0, b0, V8, j0, q0, c1, k1, F4, d1, m1, G4, c3, d3, e3, f3, g3, h3, rfl, B3, C3, e1, W8, X8, Y8, Z8, H4⟩
    let H1 : Array Value := #[pT F1, pT G1]
    let I1 : RW := (d1, sob E64 34 q0 G4)
    let J1 : RW := (c1, sob E64 34 j0 F4)
    let x9 : Array Value := #[.slice a0.t.a a0.t.l.length a0.t.c, .slice a0.b.a a0.b.l.length a0.b.c, .slice a0.o.a a0.o.l.length a0.o.c]
    let x6 : Array Value := #[.slice b0.t.a b0.t.l.length b0.t.c, .slice b0.b.a b0.b.l.length b0.b.c, .slice b0.o.a b0.o.l.length b0.o.c]
    let x2 : Array Value := #[.slice c3.a c3.n c3.c, .slice d3.a d3.n d3.c, .slice e3.a e3.n e3.c, .slice f3.a f3.n f3.c, .slice g3.a g3.n g3.c, .slice h3.a h3.n h3.c]
    have c9 := (D4.join H4).as (L' := [_, _, _, _, _, _, _, _, _, _, _, _, _, _, _, _, _, _, _, _, _, _, _, _, _, _, _]) rfl
    refine go 5 ?_
    intro K1 d9 e9 f9 g9
    refine go 1 ?_
    intro L1 h9 i9 j9 k9
    refine go 1 ?_
    intro M1 l9 m9 n9 o9
    refine go 1 ?_
    intro p9 q9 r9
    refine go 1 ?_
    intro s9 t9 u9
    refine go 1 ?_
    intro y9 I4 z9
    refine go 0 ?_
    have J4 := (I4.pk 30 [16, 17, 18, 19, 20, 21, 22, 23, 0, 1, 2, 3, 4, 5, 6, 7, 8, 9, 10, 11, 12, 13, 14, 15, 24, 25, 26, 27, 28, 29])
    let N1 : List RW := [(rC M1 #[sO c1 j0.length k1, sO d1 q0.length m1] 24), (rC L1 x2 43), (rC K1 H1 38), (rC F1 x9 114), (a0.t.key, sobP ETr 66 a0.t.pre a0.t.l a0.t.sp), (a0.b.key, sobP ETr 66 a0.b.pre a0.b.l a0.b.sp), (a0.o.key, sobP EOt 121 a0.o.pre a0.o.l a0.o.sp), (rC G1 x6 114), (b0.t.key, sobP ETr 66 b0.t.pre b0.t.l b0.t.sp), (b0.b.key, sobP ETr 66 b0.b.pre b0.b.l b0.b.sp), (b0.o.key, sobP EOt 121 b0.o.pre b0.o.l b0.o.sp), J1, I1, (rC E1 #[sO X0 i0.length i1, sO Y0 p0.length j1] 24), (rC C1 x3 43), (rC B1 z1 38), x7, A1, (rC y1 x5 26), (rX h1 EI ([(in0.length : Nat), (in1.length : Nat)]) 29), (rC b5 r1 24), (rC b1 x1 26)]
    let h2 := ((r0.b.key, sobP ETr 66 r0.b.pre r0.b.l r0.b.sp) : RW)
    let i2 := ((r0.o.key, sobP EOt 121 r0.o.pre r0.o.l r0.o.sp) : RW)
    let j2 := ((r0.t.key, sobP ETr 66 r0.t.pre r0.t.l r0.t.sp) : RW)
    let k2 := ((s0.b.key, sobP ETr 66 s0.b.pre s0.b.l s0.b.sp) : RW)
    let m2 := ((s0.o.key, sobP EOt 121 s0.o.pre s0.o.l s0.o.sp) : RW)
    let n2 := ((s0.t.key, sobP ETr 66 s0.t.pre s0.t.l s0.t.sp) : RW)
    let I2 := fun (c0 : Nat) (x0 : Option Nat) (C0 : Nat) => ((rC c0 #[sO x0 i0.length C0, .pointer none, iN i0.length, iN 0] 96) : RW)
    let D3 := fun (k0 : Nat) (R0 : Option Nat) (V0 : Nat) => ((rC k0 #[sO R0 p0.length V0, .pointer none, iN p0.length, iN 0] 96) : RW)
    let o2 := ((rC f2 #[.slice r0.t.a r0.t.l.length r0.t.c, .slice r0.b.a r0.b.l.length r0.b.c, .slice r0.o.a r0.o.l.length r0.o.c] 114) : RW)
    let p2 := ((rC g2 #[.slice s0.t.a s0.t.l.length s0.t.c, .slice s0.b.a s0.b.l.length s0.b.c, .slice s0.o.a s0.o.l.length s0.o.c] 114) : RW)
    let K4 : Tab := [zt5 false false false false false fun _ _ _ _ _ w' => Hp No w w' (o2 :: j2 :: h2 :: i2 :: p2 :: n2 :: k2 :: m2 :: N1), zt5 true false false false false fun v7 _ _ _ _ w' => ∃ c0 x0 C0 F0, v7 = pT c0 ∧ Sl E64 x0 i0 C0 F0 ∧ Hp No w w' ((I2 c0 x0 C0) :: (x0, sob E64 34 i0 F0) :: o2 :: j2 :: h2 :: i2 :: p2 :: n2 :: k2 :: m2 :: N1), zt5 true true false false false fun v7 v10 _ _ _ w' => ∃ c0 x0 C0 F0 k0 R0 V0 n1, v7 = pT c0 ∧ v10 = pT k0 ∧ Sl E64 R0 p0 V0 n1 ∧ Sl E64 x0 i0 C0 F0 ∧ Hp No w w' ((D3 k0 R0 V0) :: (R0, sob E64 34 p0 n1) :: (I2 c0 x0 C0) :: (x0, sob E64 34 i0 F0) :: o2 :: j2 :: h2 :: i2 :: p2 :: n2 :: k2 :: m2 :: N1), zt5 true true true false false fun v7 v10 v13 _ _ w' => ∃ c0 k0 l0 z0 L0 A0 G0 M0 f0, v7 = pT c0 ∧ v10 = pT k0 ∧ v13 = .tuple #[.agg #[sO l0 ops.length z0, sO A0 ops.length G0], .nilIface] ∧ Sl E64 l0 f0.1 z0 L0 ∧ Sl E64 A0 f0.2 G0 M0 ∧ RunS Gb.lhash ops in0 in1 f0 ∧ Hp No w w' ((l0, sob E64 34 f0.1 L0) :: (A0, sob E64 34 f0.2 M0) :: N1), zt5 false false false true false fun _ _ _ v17 _ w' => ∃ J2, v17 = pT J2 ∧ Hp No w w' ((rC J2 #[sN0, sN0] 24) :: o2 :: j2 :: h2 :: i2 :: p2 :: n2 :: k2 :: m2 :: N1), zt5 true false false true false fun v7 _ _ v17 _ w' => ∃ c0 x0 C0 F0 K2, v7 = pT c0 ∧ v17 = pT K2 ∧ Sl E64 x0 i0 C0 F0 ∧ Hp No w w' ((rC K2 #[sN0, sN0] 24) :: (I2 c0 x0 C0) :: (x0, sob E64 34 i0 F0) :: o2 :: j2 :: h2 :: i2 :: p2 :: n2 :: k2 :: m2 :: N1), zt5 true true false true false fun v7 v10 _ v17 _ w' => ∃ c0 x0 C0 F0 k0 R0 V0 n1 X1, v7 = pT c0 ∧ v10 = pT k0 ∧ v17 = pT X1 ∧ Sl E64 R0 p0 V0 n1 ∧ Sl E64 x0 i0 C0 F0 ∧ Hp No w w' ((rC X1 #[sN0, sN0] 24) :: (D3 k0 R0 V0) :: (R0, sob E64 34 p0 n1) :: (I2 c0 x0 C0) :: (x0, sob E64 34 i0 F0) :: o2 :: j2 :: h2 :: i2 :: p2 :: n2 :: k2 :: m2 :: N1), zt5 true true true true false fun v7 v10 v13 v17 _ w' => ∃ c0 k0 l0 z0 L0 A0 G0 M0 f0 N0, v7 = pT c0 ∧ v10 = pT k0 ∧ v13 = .tuple #[.agg #[sO l0 ops.length z0, sO A0 ops.length G0], .nilIface] ∧ v17 = pT N0 ∧ Sl E64 l0 f0.1 z0 L0 ∧ Sl E64 A0 f0.2 G0 M0 ∧ RunS Gb.lhash ops in0 in1 f0 ∧ Hp No w w' ((rC N0 #[sN0, sN0] 24) :: (l0, sob E64 34 f0.1 L0) :: (A0, sob E64 34 f0.2 M0) :: N1), zt5 true true true true true fun v7 v10 v13 v17 _ w' => ∃ c0 k0 l0 z0 L0 A0 G0 M0 f0 N0, v7 = pT c0 ∧ v10 = pT k0 ∧ v13 = .tuple #[.agg #[sO l0 ops.length z0, sO A0 ops.length G0], .nilIface] ∧ v17 = pT N0 ∧ Sl E64 l0 f0.1 z0 L0 ∧ Sl E64 A0 f0.2 G0 M0 ∧ RunS Gb.lhash ops in0 in1 f0 ∧ Hp No w w' ((rC N0 #[sO l0 ops.length z0, sO A0 ops.length G0] 24) :: (l0, sob E64 34 f0.1 L0) :: (A0, sob E64 34 f0.2 M0) :: N1)]
    refine drawH (m := 20) [0, 1, 0, 0, 8, 0, 32, 96, 0, 256, 992, 2016, 0, 8191, 16383, 32767, 32767, 0, 196607, 524287] [7, 10, 13, 17, 18] N1 K4 mixed (fun _ e => J4.ext e) (A_ (fun _ _ h => h.drop1.drop1.drop1.drop1.drop1.drop1.drop1.drop1) (A_ (fun _ _ ⟨_, _, _, _, _, _, h⟩ => h.drop1.drop1.drop1.drop1.drop1.drop1.drop1.drop1.drop1.drop1) (A_ (fun _ _ ⟨_, _, _, _, _, _, _, _, _, _, _, _, h⟩ => h.drop1.drop1.drop1.drop1.drop1.drop1.drop1.drop1.drop1.drop1.drop1.drop1) (A_ (fun _ _ ⟨_, _, _, _, _, _, _, _, _, _, _, _, _, _, _, h⟩ => h.drop1.drop1) (A_ (fun _ _ ⟨_, _, h⟩ => h.drop1.drop1.drop1.drop1.drop1.drop1.drop1.drop1.drop1) (A_ (fun _ _ ⟨_, _, _, _, _, _, _, _, h⟩ => h.drop1.drop1.drop1.drop1.drop1.drop1.drop1.drop1.drop1.drop1.drop1) (A_ (fun _ _ ⟨_, _, _, _, _, _, _, _, _, _, _, _, _, _, h⟩ => h.drop1.drop1.drop1.drop1.drop1.drop1.drop1.drop1.drop1.drop1.drop1.drop1.drop1) (A_ (fun _ _ ⟨_, _, _, _, _, _, _, _, _, _, _, _, _, _, _, _, _, h⟩ => h.drop1.drop1.drop1) (A_ (fun _ _ ⟨_, _, _, _, _, _, _, _, _, _, _, _, _, _, _, _, _, h⟩ => h.drop1.drop1.drop1) trivial))))))))) (fun D2 => ?_)
    refine gk 7 ?_
    refine WalkT.eff D2 0 ?_ ?_
    ·refine A_ (fun r w0 uw hF hE => ?_) (A_ (fun r w0 uw hF hE => ?_) trivial)
     ·have L4 := hF.ext hE
      refine gW fun Q' hK => (cl (load_ok i0 om (ownA X0) i0.length i1 (by rfl) uw vRd) ?_)
      rintro _ A9 ⟨⟨M4, N4, O4, P4, rfl, Q4, R4⟩, B9⟩
      have S4 := (L4.join R4).as (L' := [_, _, _, _, _, _, _, _, _, _, _, _, _, _, _, _, _, _, _, _, _, _, _, _, _, _, _, _, _, _, _, _]) rfl
      exact hK _ _ (E_ M4 (E_ N4 (E_ O4 (E_ P4 (A_ rfl (A_ Q4 S4))))))
     ·obtain ⟨J2, m0, i3⟩ := hF
      replace i3 := i3.ext hE
      refine gW fun Q' hK => (cl (load_ok i0 om (ownA X0) i0.length i1 (by rfl) uw vRd) ?_)
      rintro _ C9 ⟨⟨T4, U4, V4, W4, rfl, X4, Y4⟩, D9⟩
      have Z4 := (i3.join Y4).as (L' := [_, _, _, _, _, _, _, _, _, _, _, _, _, _, _, _, _, _, _, _, _, _, _, _, _, _, _, _, _, _, _, _, _]) rfl
      exact hK _ _ (E_ T4 (E_ U4 (E_ V4 (E_ W4 (E_ J2 (A_ rfl (A_ m0 (A_ X4 ((Z4.pk 11 [2, 0, 1, 3, 4, 5, 6, 7, 8, 9, 10]))))))))))
    refine gk 2 ?_
    refine WalkT.eff D2 1 ?_ ?_
    ·refine A_ (fun r w0 uw hF hE => ?_) (A_ (fun r w0 uw hF hE => ?_) trivial)
     ·obtain ⟨c0, x0, C0, F0, e7, o1, j3⟩ := hF
      replace j3 := j3.ext hE
      refine gW fun Q' hK => (cl (load_ok p0 om (ownA Y0) p0.length j1 (by rfl) uw vRd) ?_)
      rintro _ E9 ⟨⟨c5, d5, f5, g5, rfl, h5, i5⟩, F9⟩
      have j5 := (j3.join i5).as (L' := [_, _, _, _, _, _, _, _, _, _, _, _, _, _, _, _, _, _, _, _, _, _, _, _, _, _, _, _, _, _, _, _, _, _]) rfl
      exact hK _ _ (E_ c0 (E_ x0 (E_ C0 (E_ F0 (E_ c5 (E_ d5 (E_ f5 (E_ g5 (A_ e7 (A_ rfl (A_ h5 (A_ o1 j5))))))))))))
     ·obtain ⟨c0, x0, C0, F0, K2, e7, m0, o1, k3⟩ := hF
      replace k3 := k3.ext hE
      refine gW fun Q' hK => (cl (load_ok p0 om (ownA Y0) p0.length j1 (by rfl) uw vRd) ?_)
      rintro _ G9 ⟨⟨k5, l5, m5, n5, rfl, o5, p5⟩, H9⟩
      have q5 := (k3.join p5).as (L' := [_, _, _, _, _, _, _, _, _, _, _, _, _, _, _, _, _, _, _, _, _, _, _, _, _, _, _, _, _, _, _, _, _, _, _]) rfl
      exact hK _ _ (E_ c0 (E_ x0 (E_ C0 (E_ F0 (E_ k5 (E_ l5 (E_ m5 (E_ n5 (E_ K2 (A_ e7 (A_ rfl (A_ m0 (A_ o5 (A_ o1 ((q5.pk 13 [2, 0, 1, 3, 4, 5, 6, 7, 8, 9, 10, 11, 12]))))))))))))))))
    refine WalkT.lookS (fun r => .agg #[r 7, r 10]) (fun r r' h => by rw [h 7 (by decide) rfl, h 10 (by decide) rfl]) ?_ ?_
    ·refine A_ (fun r w0 uw hF hE => ?_) (A_ (fun r w0 uw hF hE => ?_) trivial)
     ·obtain ⟨c0, x0, C0, F0, k0, R0, V0, n1, e7, d0, Y1, o1, HH⟩ := hF
      replace HH := HH.ext hE
      dsimp only
      rw [e7, d0]
      exact vGr
     ·obtain ⟨c0, x0, C0, F0, k0, R0, V0, n1, X1, e7, d0, m0, Y1, o1, HH⟩ := hF
      replace HH := HH.ext hE
      dsimp only
      rw [e7, d0]
      exact vGr
    refine gk 1 ?_
    refine WalkT.eff D2 2 ?_ ?_
    ·refine A_ (fun r w0 uw hF hE => ?_) (A_ (fun r w0 uw hF hE => ?_) trivial)
     ·obtain ⟨c0, x0, C0, F0, k0, R0, V0, n1, e7, d0, Y1, o1, l3⟩ := hF
      replace l3 := l3.ext hE
      dsimp only
      rw [d0, e7]
      refine gW fun Q' hK => ?_
      have r5 := ((l3.pk 34 [2, 3, 0, 1, 4, 5, 6, 7, 8, 9, 10, 11, 12, 13, 14, 15, 16, 17, 18, 19, 20, 21, 22, 23, 24, 25, 26, 27, 28, 29, 30, 31, 32, 33])).as (L' := (_ :: _ :: _ :: _ :: (skR 66 121 114 f2 r0 ++ (skR 66 121 114 g2 s0 ++ [(rC M1 #[sO c1 j0.length k1, sO d1 q0.length m1] 24), (rC L1 x2 43), (rC K1 H1 38), (rC F1 x9 114), (a0.t.key, sobP ETr 66 a0.t.pre a0.t.l a0.t.sp), (a0.b.key, sobP ETr 66 a0.b.pre a0.b.l a0.b.sp), (a0.o.key, sobP EOt 121 a0.o.pre a0.o.l a0.o.sp), (rC G1 x6 114), (b0.t.key, sobP ETr 66 b0.t.pre b0.t.l b0.t.sp), (b0.b.key, sobP ETr 66 b0.b.pre b0.b.l b0.b.sp), (b0.o.key, sobP EOt 121 b0.o.pre b0.o.l b0.o.sp), J1, I1, (rC E1 #[sO X0 i0.length i1, sO Y0 p0.length j1] 24), (rC C1 x3 43), (rC B1 z1 38), x7, A1, (rC y1 x5 26), (rX h1 EI ([(in0.length : Nat), (in1.length : Nat)]) 29), (rC b5 r1 24), (rC b1 x1 26)])))) rfl
      refine cl (Ms.sim_ok ops oa oc in0 in1 ain0 ain1 cin0 cin1 c0 x0 C0 F0 i0 o1 om k0 R0 V0 n1 p0 Y1 om f2 g2 r0 s0 z3 A3 [(rC M1 #[sO c1 j0.length k1, sO d1 q0.length m1] 24), (rC L1 x2 43), (rC K1 H1 38), (rC F1 x9 114), (a0.t.key, sobP ETr 66 a0.t.pre a0.t.l a0.t.sp), (a0.b.key, sobP ETr 66 a0.b.pre a0.b.l a0.b.sp), (a0.o.key, sobP EOt 121 a0.o.pre a0.o.l a0.o.sp), (rC G1 x6 114), (b0.t.key, sobP ETr 66 b0.t.pre b0.t.l b0.t.sp), (b0.b.key, sobP ETr 66 b0.b.pre b0.b.l b0.b.sp), (b0.o.key, sobP EOt 121 b0.o.pre b0.o.l b0.o.sp), J1, I1, (rC E1 #[sO X0 i0.length i1, sO Y0 p0.length j1] 24), (rC C1 x3 43), (rC B1 z1 38), x7, A1, (rC y1 x5 26), (rX h1 EI ([(in0.length : Nat), (in1.length : Nat)]) 29), (rC b5 r1 24), (rC b1 x1 26)] w uw hG hgd (by rw [t0_of]; omega) (dealt_fit Z0).1.1 (dealt_fit Z0).1.2.1 (dealt_fit Z0).1.2.2 (by rw [t1_of]; omega) (dealt_fit Z0).2.1 (dealt_fit Z0).2.2.1 (dealt_fit Z0).2.2.2 (fun _ hE _ => hO.ext hE) (fun _ hE _ => hN0.ext hE) (fun _ hE _ => hN1.ext hE) r5) ?_
      rintro _ I9 ⟨s5, t5, u5, w5, y5, z5, J9, K9, rfl, E3, F3, _, _, _, _, _, _, _, _, G3⟩
      have I3 := runS_of (h := Gb.lhash) (in0 := in0) (in1 := in1) (u0 := i0) (u1 := p0) (D0 := (dwS ops ((0 : Nat) : Int) (fTm 0) i0 (dlN 0 ops))) (D1 := (dwS ops ((1 : Nat) : Int) (fTm 1) p0 (dlN 1 ops))) Z0 rfl
      generalize simS Gb.lhash ops in0 in1 i0 p0 (dwS ops ((0 : Nat) : Int) (fTm 0) i0 (dlN 0 ops)) (dwS ops ((1 : Nat) : Int) (fTm 1) p0 (dlN 1 ops)) (dtS ops r0.t.l r0.b.l) (dtS ops s0.t.l s0.b.l) r0.o.l s0.o.l ops.length = A5 at E3 F3 G3 I3
      have B5 := G3.as (L' := [_, _, _, _, _, _, _, _, _, _, _, _, _, _, _, _, _, _, _, _, _, _, _, _, _, _, _, _, _, _, _, _, _, _, _, _]) rfl
      have C5 := ((((((((((((B5.dropk 13).dropk 12).dropk 11).dropk 10).dropk 9).dropk 8).dropk 7).dropk 6).dropk 5).dropk 4).dropk 3).dropk 2)
      exact hK _ _ (E_ c0 (E_ k0 (E_ s5 (E_ t5 (E_ u5 (E_ w5 (E_ y5 (E_ z5 (E_ A5 (A_ e7 (A_ d0 (A_ rfl (A_ E3 (A_ F3 (A_ I3 C5)))))))))))))))
     ·obtain ⟨c0, x0, C0, F0, k0, R0, V0, n1, X1, e7, d0, m0, Y1, o1, m3⟩ := hF
      replace m3 := m3.ext hE
      dsimp only
      rw [d0, e7]
      refine gW fun Q' hK => ?_
      have D5 := ((m3.pk 35 [3, 4, 1, 2, 5, 6, 7, 8, 9, 10, 11, 12, 0, 13, 14, 15, 16, 17, 18, 19, 20, 21, 22, 23, 24, 25, 26, 27, 28, 29, 30, 31, 32, 33, 34])).as (L' := (_ :: _ :: _ :: _ :: (skR 66 121 114 f2 r0 ++ (skR 66 121 114 g2 s0 ++ [(rC X1 #[sN0, sN0] 24), (rC M1 #[sO c1 j0.length k1, sO d1 q0.length m1] 24), (rC L1 x2 43), (rC K1 H1 38), (rC F1 x9 114), (a0.t.key, sobP ETr 66 a0.t.pre a0.t.l a0.t.sp), (a0.b.key, sobP ETr 66 a0.b.pre a0.b.l a0.b.sp), (a0.o.key, sobP EOt 121 a0.o.pre a0.o.l a0.o.sp), (rC G1 x6 114), (b0.t.key, sobP ETr 66 b0.t.pre b0.t.l b0.t.sp), (b0.b.key, sobP ETr 66 b0.b.pre b0.b.l b0.b.sp), (b0.o.key, sobP EOt 121 b0.o.pre b0.o.l b0.o.sp), J1, I1, (rC E1 #[sO X0 i0.length i1, sO Y0 p0.length j1] 24), (rC C1 x3 43), (rC B1 z1 38), x7, A1, (rC y1 x5 26), (rX h1 EI ([(in0.length : Nat), (in1.length : Nat)]) 29), (rC b5 r1 24), (rC b1 x1 26)])))) rfl
      refine cl (Ms.sim_ok ops oa oc in0 in1 ain0 ain1 cin0 cin1 c0 x0 C0 F0 i0 o1 om k0 R0 V0 n1 p0 Y1 om f2 g2 r0 s0 z3 A3 [(rC X1 #[sN0, sN0] 24), (rC M1 #[sO c1 j0.length k1, sO d1 q0.length m1] 24), (rC L1 x2 43), (rC K1 H1 38), (rC F1 x9 114), (a0.t.key, sobP ETr 66 a0.t.pre a0.t.l a0.t.sp), (a0.b.key, sobP ETr 66 a0.b.pre a0.b.l a0.b.sp), (a0.o.key, sobP EOt 121 a0.o.pre a0.o.l a0.o.sp), (rC G1 x6 114), (b0.t.key, sobP ETr 66 b0.t.pre b0.t.l b0.t.sp), (b0.b.key, sobP ETr 66 b0.b.pre b0.b.l b0.b.sp), (b0.o.key, sobP EOt 121 b0.o.pre b0.o.l b0.o.sp), J1, I1, (rC E1 #[sO X0 i0.length i1, sO Y0 p0.length j1] 24), (rC C1 x3 43), (rC B1 z1 38), x7, A1, (rC y1 x5 26), (rX h1 EI ([(in0.length : Nat), (in1.length : Nat)]) 29), (rC b5 r1 24), (rC b1 x1 26)] w uw hG hgd (by rw [t0_of]; omega) (dealt_fit Z0).1.1 (dealt_fit Z0).1.2.1 (dealt_fit Z0).1.2.2 (by rw [t1_of]; omega) (dealt_fit Z0).2.1 (dealt_fit Z0).2.2.1 (dealt_fit Z0).2.2.2 (fun _ hE _ => hO.ext hE) (fun _ hE _ => hN0.ext hE) (fun _ hE _ => hN1.ext hE) D5) ?_
      rintro _ L9 ⟨E5, F5, G5, H5, I5, J5, M9, N9, rfl, J3, K3, _, _, _, _, _, _, _, _, L3⟩
      have M3 := runS_of (h := Gb.lhash) (in0 := in0) (in1 := in1) (u0 := i0) (u1 := p0) (D0 := (dwS ops ((0 : Nat) : Int) (fTm 0) i0 (dlN 0 ops))) (D1 := (dwS ops ((1 : Nat) : Int) (fTm 1) p0 (dlN 1 ops))) Z0 rfl
      generalize simS Gb.lhash ops in0 in1 i0 p0 (dwS ops ((0 : Nat) : Int) (fTm 0) i0 (dlN 0 ops)) (dwS ops ((1 : Nat) : Int) (fTm 1) p0 (dlN 1 ops)) (dtS ops r0.t.l r0.b.l) (dtS ops s0.t.l s0.b.l) r0.o.l s0.o.l ops.length = K5 at J3 K3 L3 M3
      have L5 := L3.as (L' := [_, _, _, _, _, _, _, _, _, _, _, _, _, _, _, _, _, _, _, _, _, _, _, _, _, _, _, _, _, _, _, _, _, _, _, _, _]) rfl
      have M5 := ((((((((((((L5.dropk 13).dropk 12).dropk 11).dropk 10).dropk 9).dropk 8).dropk 7).dropk 6).dropk 5).dropk 4).dropk 3).dropk 2)
      exact hK _ _ (E_ c0 (E_ k0 (E_ E5 (E_ F5 (E_ G5 (E_ H5 (E_ I5 (E_ J5 (E_ K5 (E_ X1 (A_ e7 (A_ d0 (A_ rfl (A_ m0 (A_ J3 (A_ K3 (A_ M3 ((M5.pk 3 [2, 0, 1])))))))))))))))))))
    refine WalkT.hand (fun r => r 13) (fun r r' h => h 13 (by decide) rfl) (fun _ _ => r_move rfl) (WalkT.lookS (fun r => proj (r 13) 0) (fun r r' h => by rw [h 13 (by decide) rfl]) ?_ ?_)
    ·refine A_ (fun r w0 uw hF hE => ?_) (A_ (fun r w0 uw hF hE => ?_) trivial)
     ·obtain ⟨c0, k0, l0, z0, L0, A0, G0, M0, f0, e7, d0, n0, S1, T1, s1, HH⟩ := hF
      replace HH := HH.ext hE
      dsimp only
      rw [n0]
      exact vGr
     ·obtain ⟨c0, k0, l0, z0, L0, A0, G0, M0, f0, N0, e7, d0, n0, m0, S1, T1, s1, HH⟩ := hF
      replace HH := HH.ext hE
      dsimp only
      rw [n0]
      exact vGr
    refine WalkT.lookS (fun r => proj (r 13) 1) (fun r r' h => by rw [h 13 (by decide) rfl]) ?_ ?_
    ·refine A_ (fun r w0 uw hF hE => ?_) (A_ (fun r w0 uw hF hE => ?_) (A_ (fun r w0 uw hF hE => ?_) trivial))
     ·obtain ⟨c0, k0, l0, z0, L0, A0, G0, M0, f0, e7, d0, n0, S1, T1, s1, HH⟩ := hF
      replace HH := HH.ext hE
      dsimp only
      rw [n0]
      exact vGr
     ·obtain ⟨c0, k0, l0, z0, L0, A0, G0, M0, f0, N0, e7, d0, n0, m0, S1, T1, s1, HH⟩ := hF
      replace HH := HH.ext hE
      dsimp only
      rw [n0]
      exact vGr
     ·obtain ⟨c0, k0, l0, z0, L0, A0, G0, M0, f0, N0, e7, d0, n0, m0, S1, T1, s1, HH⟩ := hF
      replace HH := HH.ext hE
      dsimp only
      rw [n0]
      exact vGr
    refine WalkT.eff D2 3 ?_ ?_
    ·refine A_ (fun r w0 uw hF hE => ?_) (A_ (fun r w0 uw hF hE => ?_) (A_ (fun r w0 uw hF hE => ?_) (A_ (fun r w0 uw hF hE => ?_) trivial)))
     ·have O9 := hF.ext hE
      refine gW fun Q' hK => ?_
      refine go 1 ?_
      intro N5 P9 Q9 O5 R9
      exact hK _ _ (E_ N5 (A_ rfl O5))
     ·obtain ⟨c0, x0, C0, F0, e7, o1, N3⟩ := hF
      replace N3 := N3.ext hE
      refine gW fun Q' hK => ?_
      refine go 1 ?_
      intro P5 S9 T9 Q5 U9
      exact hK _ _ (E_ c0 (E_ x0 (E_ C0 (E_ F0 (E_ P5 (A_ e7 (A_ rfl (A_ o1 Q5))))))))
     ·obtain ⟨c0, x0, C0, F0, k0, R0, V0, n1, e7, d0, Y1, o1, O3⟩ := hF
      replace O3 := O3.ext hE
      refine gW fun Q' hK => ?_
      refine go 1 ?_
      intro R5 V9 W9 S5 X9
      exact hK _ _ (E_ c0 (E_ x0 (E_ C0 (E_ F0 (E_ k0 (E_ R0 (E_ V0 (E_ n1 (E_ R5 (A_ e7 (A_ d0 (A_ rfl (A_ Y1 (A_ o1 S5))))))))))))))
     ·obtain ⟨c0, k0, l0, z0, L0, A0, G0, M0, f0, e7, d0, n0, S1, T1, s1, P3⟩ := hF
      replace P3 := P3.ext hE
      refine gW fun Q' hK => ?_
      refine go 1 ?_
      intro T5 Y9 Z9 U5 aa
      exact hK _ _ (E_ c0 (E_ k0 (E_ l0 (E_ z0 (E_ L0 (E_ A0 (E_ G0 (E_ M0 (E_ f0 (E_ T5 (A_ e7 (A_ d0 (A_ n0 (A_ rfl (A_ S1 (A_ T1 (A_ s1 U5)))))))))))))))))
    refine WalkT.eff D2 4 ?_ ?_
    ·refine A_ (fun r w0 uw hF hE => ?_) trivial
     obtain ⟨c0, k0, l0, z0, L0, A0, G0, M0, f0, N0, e7, d0, n0, m0, S1, T1, s1, Q3⟩ := hF
     replace Q3 := Q3.ext hE
     dsimp only
     rw [n0, m0]
     refine gW0 fun Q' hK => ?_
     refine go 1 ?_
     intro ba V5 ca
     exact hK _ (fun _ => (E_ c0 (E_ k0 (E_ l0 (E_ z0 (E_ L0 (E_ A0 (E_ G0 (E_ M0 (E_ f0 (E_ N0 (A_ e7 (A_ d0 (A_ n0 (A_ m0 (A_ S1 (A_ T1 (A_ s1 V5))))))))))))))))))
    refine WalkT.hand (fun r => proj (r 13) 1) (fun r r' h => by rw [h 13 (by decide) rfl]) (fun _ _ => r_assign rfl) (WalkT.nil fun r w0 da hF hE => ?_)
    obtain ⟨c0, k0, l0, z0, L0, A0, G0, M0, f0, N0, e7, d0, n0, m0, S1, T1, s1, L2⟩ := hF
    let x8 : RW := (A0, sob E64 34 f0.2 M0)
    let x4 : RW := (l0, sob E64 34 f0.1 L0)
    replace L2 := L2.ext hE
    dsimp only
    rw [e7, d0, n0, m0]
    dsimp only [N1] at L2
    refine go 0 ?_
    have W5 := (L2.pk 25 [6, 7, 8, 9, 10, 11, 12, 13, 0, 1, 2, 3, 4, 5, 14, 15, 16, 17, 18, 19, 20, 21, 22, 23, 24])
    let O1 : List RW := [(rC N0 #[sO l0 ops.length z0, sO A0 ops.length G0] 24), x4, x8, (rC M1 #[sO c1 j0.length k1, sO d1 q0.length m1] 24), (rC L1 x2 43), (rC K1 H1 38), J1, I1, (rC E1 #[sO X0 i0.length i1, sO Y0 p0.length j1] 24), (rC C1 x3 43), (rC B1 z1 38), x7, A1, (rC y1 x5 26), (rX h1 EI ([(in0.length : Nat), (in1.length : Nat)]) 29), (rC b5 r1 24), (rC b1 x1 26)]
    let q2 := ((b0.b.key, sobP ETr 66 b0.b.pre b0.b.l b0.b.sp) : RW)
    let r2 := ((b0.o.key, sobP EOt 121 b0.o.pre b0.o.l b0.o.sp) : RW)
    let s2 := ((b0.t.key, sobP ETr 66 b0.t.pre b0.t.l b0.t.sp) : RW)
    let t2 := ((a0.b.key, sobP ETr 66 a0.b.pre a0.b.l a0.b.sp) : RW)
    let u2 := ((a0.o.key, sobP EOt 121 a0.o.pre a0.o.l a0.o.sp) : RW)
    let y2 := ((a0.t.key, sobP ETr 66 a0.t.pre a0.t.l a0.t.sp) : RW)
    let M2 := fun (e0 : Nat) (y0 : Option Nat) (E0 : Nat) => ((rC e0 #[sO y0 j0.length E0, .pointer none, iN j0.length, iN 0] 96) : RW)
    let R3 := fun (o0 : Nat) (S0 : Option Nat) (W0 : Nat) => ((rC o0 #[sO S0 q0.length W0, .pointer none, iN q0.length, iN 0] 96) : RW)
    let z2 := ((rC F1 x9 114) : RW)
    let A2 := ((rC G1 x6 114) : RW)
    let X5 : Tab := [zt5 false false false false false fun _ _ _ _ _ w' => Hp No w w' (z2 :: y2 :: t2 :: u2 :: A2 :: s2 :: q2 :: r2 :: O1), zt5 true false false false false fun v7 _ _ _ _ w' => ∃ e0 y0 E0 H0, v7 = pT e0 ∧ Sl E64 y0 j0 E0 H0 ∧ Hp No w w' ((M2 e0 y0 E0) :: (y0, sob E64 34 j0 H0) :: z2 :: y2 :: t2 :: u2 :: A2 :: s2 :: q2 :: r2 :: O1), zt5 true true false false false fun v7 v10 _ _ _ w' => ∃ e0 y0 E0 H0 o0 S0 W0 p1, v7 = pT e0 ∧ v10 = pT o0 ∧ Sl E64 S0 q0 W0 p1 ∧ Sl E64 y0 j0 E0 H0 ∧ Hp No w w' ((R3 o0 S0 W0) :: (S0, sob E64 34 q0 p1) :: (M2 e0 y0 E0) :: (y0, sob E64 34 j0 H0) :: z2 :: y2 :: t2 :: u2 :: A2 :: s2 :: q2 :: r2 :: O1), zt5 true true true false false fun v7 v10 v13 _ _ w' => ∃ e0 o0 I0 K0 O0 B0 J0 P0 h0, v7 = pT e0 ∧ v10 = pT o0 ∧ v13 = .tuple #[.agg #[sO I0 ops.length K0, sO B0 ops.length J0], .nilIface] ∧ Sl E64 I0 h0.1 K0 O0 ∧ Sl E64 B0 h0.2 J0 P0 ∧ RunS Gb.lhash ops in0 in1 h0 ∧ Hp No w w' ((I0, sob E64 34 h0.1 O0) :: (B0, sob E64 34 h0.2 P0) :: O1), zt5 false false false true false fun _ _ _ v17 _ w' => ∃ N2, v17 = pT N2 ∧ Hp No w w' ((rC N2 #[sN0, sN0] 24) :: z2 :: y2 :: t2 :: u2 :: A2 :: s2 :: q2 :: r2 :: O1), zt5 true false false true false fun v7 _ _ v17 _ w' => ∃ e0 y0 E0 H0 O2, v7 = pT e0 ∧ v17 = pT O2 ∧ Sl E64 y0 j0 E0 H0 ∧ Hp No w w' ((rC O2 #[sN0, sN0] 24) :: (M2 e0 y0 E0) :: (y0, sob E64 34 j0 H0) :: z2 :: y2 :: t2 :: u2 :: A2 :: s2 :: q2 :: r2 :: O1), zt5 true true false true false fun v7 v10 _ v17 _ w' => ∃ e0 y0 E0 H0 o0 S0 W0 p1 Z1, v7 = pT e0 ∧ v10 = pT o0 ∧ v17 = pT Z1 ∧ Sl E64 S0 q0 W0 p1 ∧ Sl E64 y0 j0 E0 H0 ∧ Hp No w w' ((rC Z1 #[sN0, sN0] 24) :: (R3 o0 S0 W0) :: (S0, sob E64 34 q0 p1) :: (M2 e0 y0 E0) :: (y0, sob E64 34 j0 H0) :: z2 :: y2 :: t2 :: u2 :: A2 :: s2 :: q2 :: r2 :: O1), zt5 true true true true false fun v7 v10 v13 v17 _ w' => ∃ e0 o0 I0 K0 O0 B0 J0 P0 h0 g1, v7 = pT e0 ∧ v10 = pT o0 ∧ v13 = .tuple #[.agg #[sO I0 ops.length K0, sO B0 ops.length J0], .nilIface] ∧ v17 = pT g1 ∧ Sl E64 I0 h0.1 K0 O0 ∧ Sl E64 B0 h0.2 J0 P0 ∧ RunS Gb.lhash ops in0 in1 h0 ∧ Hp No w w' ((rC g1 #[sN0, sN0] 24) :: (I0, sob E64 34 h0.1 O0) :: (B0, sob E64 34 h0.2 P0) :: O1), zt5 true true true true true fun v7 v10 v13 v17 _ w' => ∃ e0 o0 I0 K0 O0 B0 J0 P0 h0 g1, v7 = pT e0 ∧ v10 = pT o0 ∧ v13 = .tuple #[.agg #[sO I0 ops.length K0, sO B0 ops.length J0], .nilIface] ∧ v17 = pT g1 ∧ Sl E64 I0 h0.1 K0 O0 ∧ Sl E64 B0 h0.2 J0 P0 ∧ RunS Gb.lhash ops in0 in1 h0 ∧ Hp No w w' ((rC g1 #[sO I0 ops.length K0, sO B0 ops.length J0] 24) :: (I0, sob E64 34 h0.1 O0) :: (B0, sob E64 34 h0.2 P0) :: O1)]
    refine drawH (m := 20) [0, 1, 0, 0, 8, 0, 32, 96, 0, 256, 992, 2016, 0, 8191, 16383, 32767, 32767, 0, 196607, 524287] [7, 10, 13, 17, 18] O1 X5 mixed (fun _ e => W5.ext e) (A_ (fun _ _ h => h.drop1.drop1.drop1.drop1.drop1.drop1.drop1.drop1) (A_ (fun _ _ ⟨_, _, _, _, _, _, h⟩ => h.drop1.drop1.drop1.drop1.drop1.drop1.drop1.drop1.drop1.drop1) (A_ (fun _ _ ⟨_, _, _, _, _, _, _, _, _, _, _, _, h⟩ => h.drop1.drop1.drop1.drop1.drop1.drop1.drop1.drop1.drop1.drop1.drop1.drop1) (A_ (fun _ _ ⟨_, _, _, _, _, _, _, _, _, _, _, _, _, _, _, h⟩ => h.drop1.drop1) (A_ (fun _ _ ⟨_, _, h⟩ => h.drop1.drop1.drop1.drop1.drop1.drop1.drop1.drop1.drop1) (A_ (fun _ _ ⟨_, _, _, _, _, _, _, _, h⟩ => h.drop1.drop1.drop1.drop1.drop1.drop1.drop1.drop1.drop1.drop1.drop1) (A_ (fun _ _ ⟨_, _, _, _, _, _, _, _, _, _, _, _, _, _, h⟩ => h.drop1.drop1.drop1.drop1.drop1.drop1.drop1.drop1.drop1.drop1.drop1.drop1.drop1) (A_ (fun _ _ ⟨_, _, _, _, _, _, _, _, _, _, _, _, _, _, _, _, _, h⟩ => h.drop1.drop1.drop1) (A_ (fun _ _ ⟨_, _, _, _, _, _, _, _, _, _, _, _, _, _, _, _, _, h⟩ => h.drop1.drop1.drop1) trivial))))))))) (fun E2 => ?_)
    refine gk 7 ?_
    refine WalkT.eff E2 0 ?_ ?_
    ·refine A_ (fun r w0 uw hF hE => ?_) (A_ (fun r w0 uw hF hE => ?_) trivial)
     ·have Y5 := hF.ext hE
      refine gW fun Q' hK => (cl (load_ok j0 om (ownA c1) j0.length k1 (by rfl) uw vRd) ?_)
      rintro _ ea ⟨⟨Z5, c6, d6, e6, rfl, f6, g6⟩, fa⟩
      have h6 := (Y5.join g6).as (L' := [_, _, _, _, _, _, _, _, _, _, _, _, _, _, _, _, _, _, _, _, _, _, _, _, _, _, _]) rfl
      exact hK _ _ (E_ Z5 (E_ c6 (E_ d6 (E_ e6 (A_ rfl (A_ f6 h6))))))
     ·obtain ⟨N2, m0, n3⟩ := hF
      replace n3 := n3.ext hE
      refine gW fun Q' hK => (cl (load_ok j0 om (ownA c1) j0.length k1 (by rfl) uw vRd) ?_)
      rintro _ ga ⟨⟨i6, j6, k6, l6, rfl, m6, n6⟩, ha⟩
      have o6 := (n3.join n6).as (L' := [_, _, _, _, _, _, _, _, _, _, _, _, _, _, _, _, _, _, _, _, _, _, _, _, _, _, _, _]) rfl
      exact hK _ _ (E_ i6 (E_ j6 (E_ k6 (E_ l6 (E_ N2 (A_ rfl (A_ m0 (A_ m6 ((o6.pk 11 [2, 0, 1, 3, 4, 5, 6, 7, 8, 9, 10]))))))))))
    refine gk 2 ?_
    refine WalkT.eff E2 1 ?_ ?_
    ·refine A_ (fun r w0 uw hF hE => ?_) (A_ (fun r w0 uw hF hE => ?_) trivial)
     ·obtain ⟨e0, y0, E0, H0, e7, q1, o3⟩ := hF
      replace o3 := o3.ext hE
      refine gW fun Q' hK => (cl (load_ok q0 om (ownA d1) q0.length m1 (by rfl) uw vRd) ?_)
      rintro _ ia ⟨⟨p6, q6, r6, s6, rfl, t6, u6⟩, ja⟩
      have y6 := (o3.join u6).as (L' := [_, _, _, _, _, _, _, _, _, _, _, _, _, _, _, _, _, _, _, _, _, _, _, _, _, _, _, _, _]) rfl
      exact hK _ _ (E_ e0 (E_ y0 (E_ E0 (E_ H0 (E_ p6 (E_ q6 (E_ r6 (E_ s6 (A_ e7 (A_ rfl (A_ t6 (A_ q1 y6))))))))))))
     ·obtain ⟨e0, y0, E0, H0, O2, e7, m0, q1, p3⟩ := hF
      replace p3 := p3.ext hE
      refine gW fun Q' hK => (cl (load_ok q0 om (ownA d1) q0.length m1 (by rfl) uw vRd) ?_)
      rintro _ ka ⟨⟨z6, A6, B6, C6, rfl, D6, E6⟩, la⟩
      have F6 := (p3.join E6).as (L' := [_, _, _, _, _, _, _, _, _, _, _, _, _, _, _, _, _, _, _, _, _, _, _, _, _, _, _, _, _, _]) rfl
      exact hK _ _ (E_ e0 (E_ y0 (E_ E0 (E_ H0 (E_ z6 (E_ A6 (E_ B6 (E_ C6 (E_ O2 (A_ e7 (A_ rfl (A_ m0 (A_ D6 (A_ q1 ((F6.pk 13 [2, 0, 1, 3, 4, 5, 6, 7, 8, 9, 10, 11, 12]))))))))))))))))
    refine WalkT.lookS (fun r => .agg #[r 7, r 10]) (fun r r' h => by rw [h 7 (by decide) rfl, h 10 (by decide) rfl]) ?_ ?_
    ·refine A_ (fun r w0 uw hF hE => ?_) (A_ (fun r w0 uw hF hE => ?_) trivial)
     ·obtain ⟨e0, y0, E0, H0, o0, S0, W0, p1, e7, d0, c2, q1, HH⟩ := hF
      replace HH := HH.ext hE
      dsimp only
      rw [e7, d0]
      exact vGr
     ·obtain ⟨e0, y0, E0, H0, o0, S0, W0, p1, Z1, e7, d0, m0, c2, q1, HH⟩ := hF
      replace HH := HH.ext hE
      dsimp only
      rw [e7, d0]
      exact vGr
    refine gk 1 ?_
    refine WalkT.eff E2 2 ?_ ?_
    ·refine A_ (fun r w0 uw hF hE => ?_) (A_ (fun r w0 uw hF hE => ?_) trivial)
     ·obtain ⟨e0, y0, E0, H0, o0, S0, W0, p1, e7, d0, c2, q1, q3⟩ := hF
      replace q3 := q3.ext hE
      dsimp only
      rw [d0, e7]
      refine gW fun Q' hK => ?_
      have G6 := ((q3.pk 29 [2, 3, 0, 1, 4, 5, 6, 7, 8, 9, 10, 11, 12, 13, 14, 15, 16, 17, 18, 19, 20, 21, 22, 23, 24, 25, 26, 27, 28])).as (L' := (_ :: _ :: _ :: _ :: (skR 66 121 114 F1 a0 ++ (skR 66 121 114 G1 b0 ++ [(rC N0 #[sO l0 ops.length z0, sO A0 ops.length G0] 24), x4, x8, (rC M1 #[sO c1 j0.length k1, sO d1 q0.length m1] 24), (rC L1 x2 43), (rC K1 H1 38), J1, I1, (rC E1 #[sO X0 i0.length i1, sO Y0 p0.length j1] 24), (rC C1 x3 43), (rC B1 z1 38), x7, A1, (rC y1 x5 26), (rX h1 EI ([(in0.length : Nat), (in1.length : Nat)]) 29), (rC b5 r1 24), (rC b1 x1 26)])))) rfl
      refine cl (Ms.sim_ok ops oa oc in0 in1 ain0 ain1 cin0 cin1 e0 y0 E0 H0 j0 q1 om o0 S0 W0 p1 q0 c2 om F1 G1 a0 b0 B3 C3 [(rC N0 #[sO l0 ops.length z0, sO A0 ops.length G0] 24), x4, x8, (rC M1 #[sO c1 j0.length k1, sO d1 q0.length m1] 24), (rC L1 x2 43), (rC K1 H1 38), J1, I1, (rC E1 #[sO X0 i0.length i1, sO Y0 p0.length j1] 24), (rC C1 x3 43), (rC B1 z1 38), x7, A1, (rC y1 x5 26), (rX h1 EI ([(in0.length : Nat), (in1.length : Nat)]) 29), (rC b5 r1 24), (rC b1 x1 26)] w uw hG hgd (by rw [t0_of]; omega) (dealt_fit e1).1.1 (dealt_fit e1).1.2.1 (dealt_fit e1).1.2.2 (by rw [t1_of]; omega) (dealt_fit e1).2.1 (dealt_fit e1).2.2.1 (dealt_fit e1).2.2.2 (fun _ hE _ => hO.ext hE) (fun _ hE _ => hN0.ext hE) (fun _ hE _ => hN1.ext hE) G6) ?_
      rintro _ ma ⟨H6, I6, J6, K6, L6, M6, na, pa, rfl, S3, T3, _, _, _, _, _, _, _, _, U3⟩
      have V3 := runS_of (h := Gb.lhash) (in0 := in0) (in1 := in1) (u0 := j0) (u1 := q0) (D0 := (dwS ops ((0 : Nat) : Int) (fTm 0) j0 (dlN 0 ops))) (D1 := (dwS ops ((1 : Nat) : Int) (fTm 1) q0 (dlN 1 ops))) e1 rfl
      generalize simS Gb.lhash ops in0 in1 j0 q0 (dwS ops ((0 : Nat) : Int) (fTm 0) j0 (dlN 0 ops)) (dwS ops ((1 : Nat) : Int) (fTm 1) q0 (dlN 1 ops)) (dtS ops a0.t.l a0.b.l) (dtS ops b0.t.l b0.b.l) a0.o.l b0.o.l ops.length = N6 at S3 T3 U3 V3
      have O6 := U3.as (L' := [_, _, _, _, _, _, _, _, _, _, _, _, _, _, _, _, _, _, _, _, _, _, _, _, _, _, _, _, _, _, _]) rfl
      have P6 := ((((((((((((O6.dropk 13).dropk 12).dropk 11).dropk 10).dropk 9).dropk 8).dropk 7).dropk 6).dropk 5).dropk 4).dropk 3).dropk 2)
      exact hK _ _ (E_ e0 (E_ o0 (E_ H6 (E_ I6 (E_ J6 (E_ K6 (E_ L6 (E_ M6 (E_ N6 (A_ e7 (A_ d0 (A_ rfl (A_ S3 (A_ T3 (A_ V3 P6)))))))))))))))
     ·obtain ⟨e0, y0, E0, H0, o0, S0, W0, p1, Z1, e7, d0, m0, c2, q1, r3⟩ := hF
      replace r3 := r3.ext hE
      dsimp only
      rw [d0, e7]
      refine gW fun Q' hK => ?_
      have Q6 := ((r3.pk 30 [3, 4, 1, 2, 5, 6, 7, 8, 9, 10, 11, 12, 0, 13, 14, 15, 16, 17, 18, 19, 20, 21, 22, 23, 24, 25, 26, 27, 28, 29])).as (L' := (_ :: _ :: _ :: _ :: (skR 66 121 114 F1 a0 ++ (skR 66 121 114 G1 b0 ++ [(rC Z1 #[sN0, sN0] 24), (rC N0 #[sO l0 ops.length z0, sO A0 ops.length G0] 24), x4, x8, (rC M1 #[sO c1 j0.length k1, sO d1 q0.length m1] 24), (rC L1 x2 43), (rC K1 H1 38), J1, I1, (rC E1 #[sO X0 i0.length i1, sO Y0 p0.length j1] 24), (rC C1 x3 43), (rC B1 z1 38), x7, A1, (rC y1 x5 26), (rX h1 EI ([(in0.length : Nat), (in1.length : Nat)]) 29), (rC b5 r1 24), (rC b1 x1 26)])))) rfl
      refine cl (Ms.sim_ok ops oa oc in0 in1 ain0 ain1 cin0 cin1 e0 y0 E0 H0 j0 q1 om o0 S0 W0 p1 q0 c2 om F1 G1 a0 b0 B3 C3 [(rC Z1 #[sN0, sN0] 24), (rC N0 #[sO l0 ops.length z0, sO A0 ops.length G0] 24), x4, x8, (rC M1 #[sO c1 j0.length k1, sO d1 q0.length m1] 24), (rC L1 x2 43), (rC K1 H1 38), J1, I1, (rC E1 #[sO X0 i0.length i1, sO Y0 p0.length j1] 24), (rC C1 x3 43), (rC B1 z1 38), x7, A1, (rC y1 x5 26), (rX h1 EI ([(in0.length : Nat), (in1.length : Nat)]) 29), (rC b5 r1 24), (rC b1 x1 26)] w uw hG hgd (by rw [t0_of]; omega) (dealt_fit e1).1.1 (dealt_fit e1).1.2.1 (dealt_fit e1).1.2.2 (by rw [t1_of]; omega) (dealt_fit e1).2.1 (dealt_fit e1).2.2.1 (dealt_fit e1).2.2.2 (fun _ hE _ => hO.ext hE) (fun _ hE _ => hN0.ext hE) (fun _ hE _ => hN1.ext hE) Q6) ?_
      rintro _ qa ⟨R6, S6, T6, U6, V6, W6, ra, sa, rfl, W3, X3, _, _, _, _, _, _, _, _, Y3⟩
      have Z3 := runS_of (h := Gb.lhash) (in0 := in0) (in1 := in1) (u0 := j0) (u1 := q0) (D0 := (dwS ops ((0 : Nat) : Int) (fTm 0) j0 (dlN 0 ops))) (D1 := (dwS ops ((1 : Nat) : Int) (fTm 1) q0 (dlN 1 ops))) e1 rfl
      generalize simS Gb.lhash ops in0 in1 j0 q0 (dwS ops ((0 : Nat) : Int) (fTm 0) j0 (dlN 0 ops)) (dwS ops ((1 : Nat) : Int) (fTm 1) q0 (dlN 1 ops)) (dtS ops a0.t.l a0.b.l) (dtS ops b0.t.l b0.b.l) a0.o.l b0.o.l ops.length = X6 at W3 X3 Y3 Z3
      have Y6 := Y3.as (L' := [_, _, _, _, _, _, _, _, _, _, _, _, _, _, _, _, _, _, _, _, _, _, _, _, _, _, _, _, _, _, _, _]) rfl
      have Z6 := ((((((((((((Y6.dropk 13).dropk 12).dropk 11).dropk 10).dropk 9).dropk 8).dropk 7).dropk 6).dropk 5).dropk 4).dropk 3).dropk 2)
      exact hK _ _ (E_ e0 (E_ o0 (E_ R6 (E_ S6 (E_ T6 (E_ U6 (E_ V6 (E_ W6 (E_ X6 (E_ Z1 (A_ e7 (A_ d0 (A_ rfl (A_ m0 (A_ W3 (A_ X3 (A_ Z3 ((Z6.pk 3 [2, 0, 1])))))))))))))))))))
    refine WalkT.hand (fun r => r 13) (fun r r' h => h 13 (by decide) rfl) (fun _ _ => r_move rfl) (WalkT.lookS (fun r => proj (r 13) 0) (fun r r' h => by rw [h 13 (by decide) rfl]) ?_ ?_)
    ·refine A_ (fun r w0 uw hF hE => ?_) (A_ (fun r w0 uw hF hE => ?_) trivial)
     ·obtain ⟨e0, o0, I0, K0, O0, B0, J0, P0, h0, e7, d0, n0, U1, V1, w1, HH⟩ := hF
      replace HH := HH.ext hE
      dsimp only
      rw [n0]
      exact vGr
     ·obtain ⟨e0, o0, I0, K0, O0, B0, J0, P0, h0, g1, e7, d0, n0, m0, U1, V1, w1, HH⟩ := hF
      replace HH := HH.ext hE
      dsimp only
      rw [n0]
      exact vGr
    refine WalkT.lookS (fun r => proj (r 13) 1) (fun r r' h => by rw [h 13 (by decide) rfl]) ?_ ?_
    ·refine A_ (fun r w0 uw hF hE => ?_) (A_ (fun r w0 uw hF hE => ?_) (A_ (fun r w0 uw hF hE => ?_) trivial))
     ·obtain ⟨e0, o0, I0, K0, O0, B0, J0, P0, h0, e7, d0, n0, U1, V1, w1, HH⟩ := hF
      replace HH := HH.ext hE
      dsimp only
      rw [n0]
      exact vGr
     ·obtain ⟨e0, o0, I0, K0, O0, B0, J0, P0, h0, g1, e7, d0, n0, m0, U1, V1, w1, HH⟩ := hF
      replace HH := HH.ext hE
      dsimp only
      rw [n0]
      exact vGr
     ·obtain ⟨e0, o0, I0, K0, O0, B0, J0, P0, h0, g1, e7, d0, n0, m0, U1, V1, w1, HH⟩ := hF
      replace HH := HH.ext hE
      dsimp only
      rw [n0]
      exact vGr
    refine WalkT.eff E2 3 ?_ ?_
    ·refine A_ (fun r w0 uw hF hE => ?_) (A_ (fun r w0 uw hF hE => ?_) (A_ (fun r w0 uw hF hE => ?_) (A_ (fun r w0 uw hF hE => ?_) trivial)))
     ·have ta := hF.ext hE
      refine gW fun Q' hK => ?_
      refine go 1 ?_
      intro c7 ua wa d7 xa
      exact hK _ _ (E_ c7 (A_ rfl d7))
     ·obtain ⟨e0, y0, E0, H0, e7, q1, c4⟩ := hF
      replace c4 := c4.ext hE
      refine gW fun Q' hK => ?_
      refine go 1 ?_
      intro f7 ya za g7 Aa
      exact hK _ _ (E_ e0 (E_ y0 (E_ E0 (E_ H0 (E_ f7 (A_ e7 (A_ rfl (A_ q1 g7))))))))
     ·obtain ⟨e0, y0, E0, H0, o0, S0, W0, p1, e7, d0, c2, q1, d4⟩ := hF
      replace d4 := d4.ext hE
      refine gW fun Q' hK => ?_
      refine go 1 ?_
      intro h7 Ba Ca i7 Da
      exact hK _ _ (E_ e0 (E_ y0 (E_ E0 (E_ H0 (E_ o0 (E_ S0 (E_ W0 (E_ p1 (E_ h7 (A_ e7 (A_ d0 (A_ rfl (A_ c2 (A_ q1 i7))))))))))))))
     ·obtain ⟨e0, o0, I0, K0, O0, B0, J0, P0, h0, e7, d0, n0, U1, V1, w1, f4⟩ := hF
      replace f4 := f4.ext hE
      refine gW fun Q' hK => ?_
      refine go 1 ?_
      intro j7 Ea Fa k7 Ga
      exact hK _ _ (E_ e0 (E_ o0 (E_ I0 (E_ K0 (E_ O0 (E_ B0 (E_ J0 (E_ P0 (E_ h0 (E_ j7 (A_ e7 (A_ d0 (A_ n0 (A_ rfl (A_ U1 (A_ V1 (A_ w1 k7)))))))))))))))))
    refine WalkT.eff E2 4 ?_ ?_
    ·refine A_ (fun r w0 uw hF hE => ?_) trivial
     obtain ⟨e0, o0, I0, K0, O0, B0, J0, P0, h0, g1, e7, d0, n0, m0, U1, V1, w1, g4⟩ := hF
     replace g4 := g4.ext hE
     dsimp only
     rw [n0, m0]
     refine gW0 fun Q' hK => ?_
     refine go 1 ?_
     intro Ha l7 Ia
     exact hK _ (fun _ => (E_ e0 (E_ o0 (E_ I0 (E_ K0 (E_ O0 (E_ B0 (E_ J0 (E_ P0 (E_ h0 (E_ g1 (A_ e7 (A_ d0 (A_ n0 (A_ m0 (A_ U1 (A_ V1 (A_ w1 l7))))))))))))))))))
    refine WalkT.hand (fun r => proj (r 13) 1) (fun r r' h => by rw [h 13 (by decide) rfl]) (fun _ _ => r_assign rfl) (WalkT.nil fun r w0 Ja hF hE => ?_)
    obtain ⟨e0, o0, I0, K0, O0, B0, J0, P0, h0, g1, e7, d0, n0, m0, U1, V1, w1, P2⟩ := hF
    replace P2 := P2.ext hE
    dsimp only
    rw [e7, d0, n0, m0]
    dsimp only [O1] at P2
    refine go 0 ?_
    let B2 : List RW := [(rC g1 #[sO I0 ops.length K0, sO B0 ops.length J0] 24), (I0, sob E64 34 h0.1 O0), (B0, sob E64 34 h0.2 P0), (rC N0 #[sO l0 ops.length z0, sO A0 ops.length G0] 24), x4, x8, (rC M1 #[sO c1 j0.length k1, sO d1 q0.length m1] 24), (rC L1 x2 43), (rC K1 H1 38), J1, I1, (rC E1 #[sO X0 i0.length i1, sO Y0 p0.length j1] 24), (rC C1 x3 43), (rC B1 z1 38), x7, A1, (rC y1 x5 26), (rX h1 EI ([(in0.length : Nat), (in1.length : Nat)]) 29), (rC b5 r1 24), (rC b1 x1 26)]
    let Q2 := fun (Q0 : Option Nat) (T0 : LV) => ((Q0, sob E64 34 (otS ops f0.1 ops.length) T0) : RW)
    let m7 : Tab := [zt3 false false false fun _ _ _ w' => Hp No w w' B2, zt3 true false false fun v11 _ _ w' => ∃ Q0 P1 T0 U0, v11 = .slice U0 (outsS ops) (outsS ops) ∧ Sl E64 Q0 (otS ops f0.1 ops.length) P1 T0 ∧ (∀ w2, Rd E64 w2 (ownA Q0) (otS ops f0.1 ops.length) → Rd E64 w2 U0 (outsL ops f0.1)) ∧ Hp No w w' ((Q2 Q0 T0) :: B2), zt3 true true false fun v11 v16 _ w' => ∃ Q0 P1 T0 U0 Q1 d2 W1 R1, v11 = .slice U0 (outsS ops) (outsS ops) ∧ v16 = .slice R1 (outsS ops) (outsS ops) ∧ Sl E64 Q1 (otS ops h0.2 ops.length) d2 W1 ∧ Sl E64 Q0 (otS ops f0.1 ops.length) P1 T0 ∧ (∀ w2, Rd E64 w2 (ownA Q0) (otS ops f0.1 ops.length) → Rd E64 w2 U0 (outsL ops f0.1)) ∧ (∀ w2, Rd E64 w2 (ownA Q1) (otS ops h0.2 ops.length) → Rd E64 w2 R1 (outsL ops h0.2)) ∧ Hp No w w' ((Q1, sob E64 34 (otS ops h0.2 ops.length) W1) :: (Q2 Q0 T0) :: B2), zt3 true true true fun v11 v16 v17 w' => ∃ Q0 P1 T0 U0 Q1 d2 W1 R1, v11 = .slice U0 (outsS ops) (outsS ops) ∧ v16 = .slice R1 (outsS ops) (outsS ops) ∧ v17 = .bool true ∧ Sl E64 Q1 (otS ops h0.2 ops.length) d2 W1 ∧ Sl E64 Q0 (otS ops f0.1 ops.length) P1 T0 ∧ (∀ w2, Rd E64 w2 (ownA Q0) (otS ops f0.1 ops.length) → Rd E64 w2 U0 (outsL ops f0.1)) ∧ (∀ w2, Rd E64 w2 (ownA Q1) (otS ops h0.2 ops.length) → Rd E64 w2 R1 (outsL ops h0.2)) ∧ Hp No w w' ((Q1, sob E64 34 (otS ops h0.2 ops.length) W1) :: (Q2 Q0 T0) :: B2)]
    refine drawH (m := 20) [0, 1, 3, 7, 15, 31, 63, 127, 255, 127, 639, 2047, 127, 4223, 127, 16511, 65535, 131071, 262143, 524287] [11, 16, 17] B2 m7 mixed (fun _ e => P2.ext e) (A_ (fun _ _ h => h) (A_ (fun _ _ ⟨_, _, _, _, _, _, _, h⟩ => h.drop1) (A_ (fun _ _ ⟨_, _, _, _, _, _, _, _, _, _, _, _, _, _, h⟩ => h.drop1.drop1) (A_ (fun _ _ ⟨_, _, _, _, _, _, _, _, _, _, _, _, _, _, _, h⟩ => h.drop1.drop1) trivial)))) (fun s3 => ?_)
    refine gk 1 ?_
    refine lkH (.bool true) (fun _ uw hcx => (r_eqlNN isI31 rfl rfl).as (v' := .bool true) (by rfl)) ?_
    refine gk 1 ?_
    refine lkW (.nilIface) (fun _ uw hcx => Gives.runW (wantedSome (d' := 131) (b := true) rfl rfl rfl) (r_move (v := .nilIface) rfl) ⟨rfl, Chg.refl _ _⟩) (lkW (.bool true) (fun _ uw hcx => Gives.runW (wantedSome (d' := 131) (b := true) rfl rfl rfl) ((r_eqlNN isI31 rfl rfl).as (v' := .bool true) (by rfl)) ⟨rfl, Chg.refl _ _⟩) ?_)
    refine gk 2 ?_
    refine lkW (pT b1) (fun _ uw hcx => Gives.runW (wantedSome (d' := 135) (b := true) rfl rfl rfl) (r_fieldAddr (off' := 0) fld26_0 (by decide) (b := b1) (off := 0) rfl om) ⟨rfl, Chg.refl _ _⟩) (lkW (.slice oa ops.length oc) (fun _ uw hcx => Gives.runW (wantedSome (d' := 135) (b := true) rfl rfl rfl) (r_loadC (v := .slice oa ops.length oc) one22 (hcx.get (k := 19) rfl) (off := 0) rfl (by rfl)) ⟨rfl, Chg.refl _ _⟩) (lkW (pT N0) (fun _ uw hcx => Gives.runW (wantedSome (d' := 135) (b := true) rfl rfl rfl) (r_indexA (off' := 0) (j := 0) arr24 (b := N0) (off := 0) rfl rfl vo om om) ⟨rfl, Chg.refl _ _⟩) (lkW (sO l0 ops.length z0) (fun _ uw hcx => Gives.runW (wantedSome (d' := 135) (b := true) rfl rfl rfl) (r_loadC (v := sO l0 ops.length z0) one23 (hcx.get (k := 3) rfl) (off := 0) rfl (by rfl)) ⟨rfl, Chg.refl _ _⟩) (WalkT.eff s3 0 ?_ ?_))))
    ·refine A_ (fun r w0 uw hF hE => ?_) trivial
     have n7 := hF.ext hE
     refine gW fun Q' hK => (caAny (wantedSome (d' := 135) (b := true) rfl rfl rfl) (Enters.callL (vs := [.slice oa ops.length oc, sO l0 ops.length z0]) call13 rfl) (Mi.outs_okH ops oa oc f0.1 (ownA l0) z0 ops.length ops.length rfl (by exact s1.l1.symm) uw vGl vRd om vRd (by exact s1.l1) hgu) ?_)
     rintro _ Ka ⟨o7, p7, q7, r7, rfl, s7, t7, u7⟩
     have w7 := (n7.join u7).as (L' := [_, _, _, _, _, _, _, _, _, _, _, _, _, _, _, _, _, _, _, _, _]) rfl
     exact hK _ _ (E_ o7 (E_ p7 (E_ q7 (E_ r7 (A_ rfl (A_ s7 (A_ t7 w7)))))))
    refine lkW (pT b1) (fun _ uw hcx => Gives.runW (wantedSome (d' := 135) (b := true) rfl rfl rfl) (r_fieldAddr (off' := 0) fld26_0 (by decide) (b := b1) (off := 0) rfl om) ⟨rfl, Chg.refl _ _⟩) (lkW (.slice oa ops.length oc) (fun _ uw hcx => Gives.runW (wantedSome (d' := 135) (b := true) rfl rfl rfl) (r_loadC (v := .slice oa ops.length oc) one22 (hcx.get (k := 19) rfl) (off := 0) rfl (by rfl)) ⟨rfl, Chg.refl _ _⟩) (lkW (.pointer (some ⟨g1, 1, none⟩)) (fun _ uw hcx => Gives.runW (wantedSome (d' := 135) (b := true) rfl rfl rfl) (r_indexA (off' := 1) (j := 1) arr24 (b := g1) (off := 0) rfl rfl vo om om) ⟨rfl, Chg.refl _ _⟩) (lkW (sO B0 ops.length J0) (fun _ uw hcx => Gives.runW (wantedSome (d' := 135) (b := true) rfl rfl rfl) (r_loadC (v := sO B0 ops.length J0) one23 (hcx.get (k := 0) rfl) (off := 1) rfl (by rfl)) ⟨rfl, Chg.refl _ _⟩) (WalkT.eff s3 1 ?_ ?_))))
    ·refine A_ (fun r w0 uw hF hE => ?_) trivial
     obtain ⟨Q0, P1, T0, U0, e2, F2, C2, t3⟩ := hF
     replace t3 := t3.ext hE
     refine gW fun Q' hK => (caAny (wantedSome (d' := 135) (b := true) rfl rfl rfl) (Enters.callL (vs := [.slice oa ops.length oc, sO B0 ops.length J0]) call13 rfl) (Mi.outs_okH ops oa oc h0.2 (ownA B0) J0 ops.length ops.length rfl (by exact w1.l2.symm) uw vGl vRd om vRd (by exact w1.l2) hgu) ?_)
     rintro _ La ⟨y7, z7, A7, B7, rfl, C7, D7, E7⟩
     have F7 := (t3.join E7).as (L' := [_, _, _, _, _, _, _, _, _, _, _, _, _, _, _, _, _, _, _, _, _, _]) rfl
     exact hK _ _ (E_ Q0 (E_ P1 (E_ T0 (E_ U0 (E_ y7 (E_ z7 (E_ A7 (E_ B7 (A_ e2 (A_ rfl (A_ C7 (A_ F2 (A_ C2 (A_ D7 F7))))))))))))))
    refine WalkT.eff s3 2 ?_ ?_
    ·refine A_ (fun r w0 uw hF hE => ?_) trivial
     obtain ⟨Q0, P1, T0, U0, Q1, d2, W1, R1, e2, G2, u3, F2, C2, R2, w3⟩ := hF
     replace w3 := w3.ext hE
     dsimp only
     rw [e2, G2]
     refine gW fun Q' hK => (caAny (wantedSome (d' := 135) (b := true) rfl rfl rfl) (Enters.callL (vs := [.slice U0 (outsS ops) (outsS ops), .slice R1 (outsS ops) (outsS ops)]) call12 rfl) (words_ok (outsL ops f0.1) U0 R1 (outsS ops) (outsS ops) (outsS ops) (outsS ops) (by rw [outsL_len]) (by rw [outsL_len]) uw (C2 _ vRd) (by rw [run_same hgd hkn s1 w1]; exact (R2 _ vRd)) (by rw [outsL_len]; omega)) ?_)
     rintro _ Ma ⟨rfl, G7⟩
     have I7 := w3.ext G7
     exact hK _ _ (E_ Q0 (E_ P1 (E_ T0 (E_ U0 (E_ Q1 (E_ d2 (E_ W1 (E_ R1 (A_ e2 (A_ G2 (A_ rfl (A_ u3 (A_ F2 (A_ C2 (A_ R2 I7)))))))))))))))
    refine WalkT.lookS (fun _ => .bool true) (fun _ _ _ => rfl) ?_ ?_
    ·refine A_ (fun r w0 uw hF hE => ?_) trivial
     obtain ⟨Q0, P1, T0, U0, Q1, d2, W1, R1, e2, G2, m0, u3, F2, C2, R2, HH⟩ := hF
     replace HH := HH.ext hE
     dsimp only
     rw [m0]
     exact vGr
    refine gk 1 ?_
    refine WalkT.nil fun r w0 Na hF hE => ?_
    obtain ⟨Q0, P1, T0, U0, Q1, d2, W1, R1, e2, G2, m0, u3, F2, C2, R2, S2⟩ := hF
    replace S2 := S2.ext hE
    dsimp only
    rw [e2, G2, m0]
    dsimp only [B2, Q2] at S2
    refine go 0 ?_
    exact ⟨_, rfl, rfl, S2.chg⟩
 ·refine go 0 ?_
  refine cl (Ms.awake_ok w6 vGl) ?_
  rintro _ J7 ⟨rfl, K7⟩
  have L7 := H7.ext K7
  refine go 4 ?_
  refine caAny (wantedSome (d' := 22) (b := false) rfl rfl rfl) (Enters.callL (vs := [H2]) call7 rfl) (light_is false ops oa oc J7 vGl vRd om (Bool.eq_false_iff.2 fun h => hl (by simp only [Bool.and_eq_true, decide_eq_true_eq] at h; omega))) ?_
  rintro _ M7 ⟨rfl, N7⟩
  have O7 := L7.ext N7
  refine go 4 ?_
  refine cl (Ms.awake_ok M7 vGl) ?_
  rintro _ Oa ⟨rfl, P7⟩
  have Q7 := O7.ext P7
  refine go 1 ?_
  exact ⟨_, rfl, rfl, Q7.chg⟩
theorem msame_all (ops : List Mo) (oa : Option Addr) (oc : Nat) (in0 in1 t0 t1 dl u0 u1 ee : List (BitVec 64)) (ain0 ain1 at0 at1 adl au0 au1 aee : Option Addr) (cin0 cin1 ct0 ct1 cdl cu0 cu1 cee : Nat) (w : World) (hG : Gl w) (hO : Rd EMo w oa ops) (hol : ops.length ≤ 17592186044416) (hN0 : Rd E64 w ain0 in0) (hN1 : Rd E64 w ain1 in1) (hn0 : in0.length ≤ 17592186044416) (hn1 : in1.length ≤ 17592186044416) (hT0 : Rd E64 w at0 t0) (hlt0 : t0.length ≤ 17592186044416) (hT1 : Rd E64 w at1 t1) (hlt1 : t1.length ≤ 17592186044416) (hDL : Rd E64 w adl dl) (hldl : dl.length ≤ 17592186044416) (hU0 : Rd E64 w au0 u0) (hlu0 : u0.length ≤ 17592186044416) (hU1 : Rd E64 w au1 u1) (hlu1 : u1.length ≤ 17592186044416) (hEE : Rd E64 w aee ee) (hlee : ee.length ≤ 17592186044416) : Calls Tryz.prog 3 [.agg #[.slice oa ops.length oc, .slice ain0 in0.length cin0, .slice ain1 in1.length cin1, .slice at0 t0.length ct0, .slice at1 t1.length ct1, .slice adl dl.length cdl], .agg #[.slice au0 u0.length cu0, .slice au1 u1.length cu1], .slice aee ee.length cee].toArray w (Ret fun v w' => v = .bool true ∧ Ext w w') := by
 by_cases hgd : Mi.Good ops ((in0.length : Nat) : Int) ((in1.length : Nat) : Int)
 ·exact msame_ok ops oa oc in0 in1 t0 t1 dl u0 u1 ee ain0 ain1 at0 at1 adl au0 au1 aee cin0 cin1 ct0 ct1 cdl cu0 cu1 cee w hG hO hol hN0 hN1 hn0 hn1 hT0 hlt0 hT1 hlt1 hDL hldl hU0 hlu0 hU1 hlu1 hEE hlee hgd
 ·exact msame_no ops oa oc in0 in1 t0 t1 dl u0 u1 ee ain0 ain1 at0 at1 adl au0 au1 aee cin0 cin1 ct0 ct1 cdl cu0 cu1 cee w hG hO hol hN0 hN1 hn0 hn1 hT0 hlt0 hT1 hlt1 hDL hldl hU0 hlu0 hU1 hlu1 hEE hlee hgd
end Go.Proofs.YtohngnahcgbfmaaGreatDoor.Mt
