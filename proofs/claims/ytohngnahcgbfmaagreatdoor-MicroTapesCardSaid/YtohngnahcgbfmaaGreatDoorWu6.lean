/- What the claim has need of: Mu4, Mu5, Mi9, Mi10, Mi11, Cm8, Cm9, Cm10, Cm11, Cm12, Mi12, Cm13, Cm14, Cm15, Mt, Mt2, Mt3, Corr3, Corr9, Mt4, MicroTape2, Mu6. -/
import Derived.Test.YtohngnahcgbfmaaGreatDoorWu5
set_option linter.unusedVariables false
set_option maxHeartbeats 16000000
set_option maxRecDepth 20000
namespace Go.Proofs.YtohngnahcgbfmaaGreatDoor.Mu
open Go Vc Er Ek Circ Mi
open Co Cm
theorem aR (ops : List Mo) (oa : Option Addr) (oc : Nat) (in0 in1 : List (BitVec 64)) (na0 na1 : Option Addr) (nc0 nc1 : Nat) (tb0 : Nat) (tk0 : Option Nat) (tc0 : Nat) (ts0 : LV) (ws0 : List (BitVec 64)) (hSw0 : Sl E64 tk0 ws0 tc0 ts0) (hwl0 : ws0.length ≤ 140737488355328) (tb1 : Nat) (tk1 : Option Nat) (tc1 : Nat) (ts1 : LV) (ws1 : List (BitVec 64)) (hSw1 : Sl E64 tk1 ws1 tc1 ts1) (hwl1 : ws1.length ≤ 140737488355328) (sb0 sb1 : Nat) (st0 st1 : Sk) (hst0 : st0.ok) (hst1 : st1.ok) (R : List RW) (w₀ w : World) (hG : Gl w₀) (hgd : Mi.Good ops ((in0.length : Nat) : Int) ((in1.length : Nat) : Int)) (hkd : ∀ j, j < ops.length → KdA (ops.getD j DB) in0.length in1.length) (hT0 : jA (qF ((0 : Nat) : Int)) ops ops.length ≤ ws0.length) (hA0 : jA fA ops ops.length ≤ st0.t.l.length) (hB0 : jA fB ops ops.length ≤ st0.b.l.length) (hT1 : jA (qF ((1 : Nat) : Int)) ops ops.length ≤ ws1.length) (hA1 : jA fA ops ops.length ≤ st1.t.l.length) (hB1 : jA fB ops ops.length ≤ st1.b.l.length) (hO : ∀ w', Ext w₀ w' → (∀ p ∈ R, ∀ b, p.1 = some b → w'.heap[b]? = some p.2) → Rd xE w' oa ops) (hN0 : ∀ w', Ext w₀ w' → (∀ p ∈ R, ∀ b, p.1 = some b → w'.heap[b]? = some p.2) → Rd E64 w' na0 in0) (hN1 : ∀ w', Ext w₀ w' → (∀ p ∈ R, ∀ b, p.1 = some b → w'.heap[b]? = some p.2) → Rd E64 w' na1 in1) (H : Hp No w₀ w ((rC tb0 #[sO tk0 ws0.length tc0, .pointer none, iN ws0.length, iN 0] 96) :: (tk0, qA E64 34 ws0 ts0) :: (rC tb1 #[sO tk1 ws1.length tc1, .pointer none, iN ws1.length, iN 0] 96) :: (tk1, qA E64 34 ws1 ts1) :: (EA 66 121 114 sb0 st0 ++ (EA 66 121 114 sb1 st1 ++ R)))) : Ca 10 [.slice oa ops.length oc, .agg (uA EI [((in0.length : Nat) : Int), ((in1.length : Nat) : Int)]).toArray, .agg #[.slice na0 in0.length nc0, .slice na1 in1.length nc1], .agg #[pT tb0, pT tb1], .agg #[pT sb0, pT sb1]] w fun v w' => ∃ (k0 : Option Nat) (c0 : Nat) (z0 : LV) (k1 : Option Nat) (c1 : Nat) (z1 : LV) (u0 u1 : Sk), v = .tuple #[.agg #[sO k0 ops.length c0, sO k1 ops.length c1], .nilIface] ∧ Sl E64 k0 (QF ops in0 in1 (OB ops ((0 : Nat) : Int) (qF ((0 : Nat) : Int)) ws0 0) (OB ops ((1 : Nat) : Int) (qF ((1 : Nat) : Int)) ws1 0) (MB ops st0.t.l st0.b.l) (MB ops st1.t.l st1.b.l) ops.length).1 c0 z0 ∧ Sl E64 k1 (QF ops in0 in1 (OB ops ((0 : Nat) : Int) (qF ((0 : Nat) : Int)) ws0 0) (OB ops ((1 : Nat) : Int) (qF ((1 : Nat) : Int)) ws1 0) (MB ops st0.t.l st0.b.l) (MB ops st1.t.l st1.b.l) ops.length).2 c1 z1 ∧ Hp No w₀ w' ((k0, qA E64 34 (QF ops in0 in1 (OB ops ((0 : Nat) : Int) (qF ((0 : Nat) : Int)) ws0 0) (OB ops ((1 : Nat) : Int) (qF ((1 : Nat) : Int)) ws1 0) (MB ops st0.t.l st0.b.l) (MB ops st1.t.l st1.b.l) ops.length).1 z0) :: (k1, qA E64 34 (QF ops in0 in1 (OB ops ((0 : Nat) : Int) (qF ((0 : Nat) : Int)) ws0 0) (OB ops ((1 : Nat) : Int) (qF ((1 : Nat) : Int)) ws1 0) (MB ops st0.t.l st0.b.l) (MB ops st1.t.l st1.b.l) ops.length).2 z1) :: (EA 66 121 114 sb0 u0 ++ (EA 66 121 114 sb1 u1 ++ R))) := by
 have hng : ∀ j, j < ops.length → (ops.getD j DB).kd ≠ 17 := fun j hj e => by have := (hkd j hj).kd; omega
 have hn := noG hng
 have t0 := hn.t0 ops.length (Nat.le_refl _)
 have t1 := hn.t1 ops.length (Nat.le_refl _)
 have hs : (dC Gb.kA ops in0 in1 ws0 ws1 (OB ops ((0 : Nat) : Int) (WA 0) ws0 (VA 0 ops)) (OB ops ((1 : Nat) : Int) (WA 1) ws1 (VA 1 ops)) (MB ops st0.t.l st0.b.l) (MB ops st1.t.l st1.b.l) st0.o.l st1.o.l ops.length) = (QF ops in0 in1 (OB ops ((0 : Nat) : Int) (qF ((0 : Nat) : Int)) ws0 0) (OB ops ((1 : Nat) : Int) (qF ((1 : Nat) : Int)) ws1 0) (MB ops st0.t.l st0.b.l) (MB ops st1.t.l st1.b.l) ops.length) := aN ops.length (Nat.le_refl _) hkd (fun j hj => CT (hn.t0 j om)) (fun j hj => CT (hn.t1 j om))
 refine (lL (lJ ops oa oc in0 in1 na0 na1 nc0 nc1 tb0 tk0 tc0 ts0 ws0 hSw0 hwl0 tb1 tk1 tc1 ts1 ws1 hSw1 hwl1 sb0 sb1 st0 st1 hst0 hst1 R w₀ w hG hgd 0 (fun _ => by omega) (fun _ => hA0) (fun _ => hB0) (by rw [hn.o]; exact Nat.zero_le _) (fun _ => by omega) (fun _ => hA1) (fun _ => hB1) (by rw [hn.o]; exact Nat.zero_le _) hO hN0 hN1 H) ⟨⟨om, hA0, hB0⟩, by omega, hA1, hB1⟩).mono fun e w' he => ?_
 obtain ⟨v, rfl, k0, c0, z0, k1, c1, z1, u0, u1, rfl, h0, h1, _, _, _, _, _, _, _, _, HN⟩ := he
 rw [hs] at h0 h1 HN
 exact ⟨_, rfl, k0, c0, z0, k1, c1, z1, u0, u1, rfl, h0, h1, ((((HN.dropk 5).dropk 4).dropk 3).dropk 2)⟩
end Go.Proofs.YtohngnahcgbfmaaGreatDoor.Mu
namespace Go.Proofs.YtohngnahcgbfmaaGreatDoor.Mu
open Go Vc Er Ek Circ Mi
open Co Cm
theorem oW : Tryz.prog.eqGuardType Tryz.prog.depth 29 = false := by kernel_rfl
theorem kV : mA Tryz.prog 13 = true := by kernel_rfl
theorem FQ : OA Tryz.prog 38 = true := by kernel_rfl
theorem uM : TB Tryz.prog 57 0 = some (0, 1, 3) := by kernel_rfl
theorem LO : UB Tryz.prog 38 = some 2 := by kernel_rfl
theorem OV : Tryz.prog.underlying 29 = some (.array 2 3) := by kernel_rfl
theorem BO : Tryz.prog.underlying 3 = some (.int .i64) := by kernel_rfl
theorem EV : YB Tryz.prog 29 = some (.agg (List.replicate 2 (.int .i64 0)).toArray) := by kernel_rfl
theorem ZS : YB Tryz.prog 57 = some (.agg #[.int .i64 0, .int .i64 0, .int .i64 0, .int .i64 0, .int .i64 0, .int .i64 0, .int .i64 0, .int .i64 0]) := by kernel_rfl
theorem MD (w : World) (hG : Gl w) : Ca 6 [] w fun v w' => v = .bool true ∧ Ext w w' := by
 have H := Hp.start No w
 refine enter (n := 87) Tryz.func6 rfl rfl (dB rfl) ?_
 refine go 5 ?_
 refine bS (E := xE) (l := ([⟨(1 : Int), (0 : Int), (0 : Int), (0 : Int), 0#64, (0 : Int)⟩, ⟨(1 : Int), (0 : Int), (0 : Int), (0 : Int), 0#64, (1 : Int)⟩, ⟨(6 : Int), (0 : Int), (1 : Int), (0 : Int), 0#64, (0 : Int)⟩, ⟨(18 : Int), (2 : Int), (0 : Int), (0 : Int), 0#64, (0 : Int)⟩] : List Mo)) fun b1 w3 V0 H4 W1 => ?_
 refine go 1 ?_
 have e6 : ([⟨(1 : Int), (0 : Int), (0 : Int), (0 : Int), 0#64, (0 : Int)⟩, ⟨(1 : Int), (0 : Int), (0 : Int), (0 : Int), 0#64, (1 : Int)⟩, ⟨(6 : Int), (0 : Int), (1 : Int), (0 : Int), 0#64, (0 : Int)⟩, ⟨(18 : Int), (2 : Int), (0 : Int), (0 : Int), 0#64, (0 : Int)⟩] : List Mo) = opsW := by rfl
 have K0 := V0
 have H8 := H4
 rw [e6] at K0 H8
 refine go 0 ?_
 refine bS (E := E64) (l := [1#64, 2#64, 3#64, 4#64, 5#64]) fun b9 W0 X0 L0 X1 => cl (sD ([1#64, 2#64, 3#64, 4#64, 5#64]) (by decide) (sA (some b9)) 5 5 (by decide) W0 (L0.rd (k := 0) rfl X0)) ?_
 rintro _ Y0 ⟨⟨j0, Z0, d1, e1, rfl, g1, h1⟩, Y1⟩
 have i1 := (L0.join h1).a4 rfl
 have j1 := i1.b2 rfl
 refine cl (XJ j0 Z0 d1 e1 ([1#64, 2#64, 3#64, 4#64, 5#64]) g1 (by decide) 1 0 0 (by decide) (by decide) (by decide) (by decide) [((some b9), qA E64 34 ([1#64, 2#64, 3#64, 4#64, 5#64]) ([])), ((some b1), qA xE 36 opsW ([]))] w Y0 j1) ?_
 rintro _ Z1 ⟨e0, f0, h0, i0, rfl, l1, m1, s0, n1⟩
 let x2 : Array Value := #[pT e0, pT f0]
 have c2 := n1.a12 rfl
 refine go 4 ?_
 intro b0 d2 f2 g2 h2
 refine go 1 ?_
 intro o1 p1 i2
 refine go 6 ?_
 refine eF (gA (d' := 20) (b := false) rfl rfl rfl) (cA (vs := [sO (some b1) 4 4, .agg (uA EI [(1 : Int), (1 : Int)]).toArray]) vF rfl) (DD opsW (sA (some b1)) 4 (1 : Int) (1 : Int) 4 (by rfl) o1 uC IC (by decide) yT) ?_
 rintro _ j2 ⟨rfl, q1⟩
 have r1 := p1.ext q1
 refine go 1 ?_
 refine sq ((WB (v := .bool false) rfl rfl).as (v' := .bool false) (by rfl)) ?_
 refine go 0 ?_
 have HA := ((r1.pk 13 [0, 12, 1, 2, 3, 4, 5, 6, 7, 8])).as (L' := List.flatten [[], [], [], [], [], [], [], [(rC b0 x2 38), ((some b1), qA xE 36 opsW ([]))], EA 66 121 114 e0 h0, EA 66 121 114 f0 i0]) rfl
 obtain ⟨X, hX⟩ : ∃ X, X = (QF opsW [3#64] [5#64] (OB opsW ((0 : Nat) : Int) (qF ((0 : Nat) : Int)) [10#64] 0) (OB opsW ((1 : Nat) : Int) (qF ((1 : Nat) : Int)) [20#64] 0) (MB opsW h0.t.l h0.b.l) (MB opsW i0.t.l i0.b.l) opsW.length) := ⟨_, rfl⟩
 let x1 : RW := ((some b1), qA xE 36 opsW ([]))
 have hXv : X.1.getD 0 0#64 = 10#64 ∧ X.1.getD 3 0#64 = 15#64 := by rw [hX]; exact simW rfl rfl (by rw [MB, if_pos (by decide), s0.t1]; rfl) (by rw [MB, if_pos (by decide), s0.t2]; rfl)
 have hXl : X.1.length = 4 ∧ X.2.length = 4 := by rw [hX]; exact NO _ _ _ _ _ _ _ _
 have s1 : h0.t.l.length = 1 := by rw [s0.t1]; rfl
 have y1 : i0.t.l.length = 1 := by rw [s0.t2]; rfl
 refine DT (m := 18) [0, 0, 0, 0, 12, 0, 32, 0, 224, 480, 0, 2047, 4095, 8191, 8191, 0, 49151, 131071] [2, 3, 5, 6, 7, 8, 11, 15, 16] (fun bs vs w' => match bs, vs with | [b2, b3, b5, b6, b7, b8, l0, p0, j0], [v2, v3, v5, v6, v7, v8, v11, v15, _] => (l0 = false ∧ j0 = false ∧ ∃ P2 P3 P5 P6 P7 P8 P15 : List RW, MT b2 (fun P => ∃ p : Nat, v2 = sO (some p) 1 1 ∧ Sl E64 (some p) [3#64] 1 [] ∧ P = [(some p, qA E64 34 [3#64] [])]) P2 ∧ MT b3 (fun P => ∃ p : Nat, v3 = sO (some p) 1 1 ∧ Sl E64 (some p) [5#64] 1 [] ∧ P = [(some p, qA E64 34 [5#64] [])]) P3 ∧ MT b5 (fun P => ∃ p : Nat, v5 = sO (some p) 1 1 ∧ Sl E64 (some p) [10#64] 1 [] ∧ P = [(some p, qA E64 34 [10#64] [])]) P5 ∧ MT b6 (fun P => ∃ (b : Nat) (key : Option Nat) (c : Nat) (sp : LV), v6 = pT b ∧ Sl E64 key [10#64] c sp ∧ P = [(rC b #[sO key ([10#64].length) c, .pointer none, iN ([10#64].length), iN 0] 96), (key, qA E64 34 [10#64] sp)]) P6 ∧ MT b7 (fun P => ∃ p : Nat, v7 = sO (some p) 1 1 ∧ Sl E64 (some p) [20#64] 1 [] ∧ P = [(some p, qA E64 34 [20#64] [])]) P7 ∧ MT b8 (fun P => ∃ (b : Nat) (key : Option Nat) (c : Nat) (sp : LV), v8 = pT b ∧ Sl E64 key [20#64] c sp ∧ P = [(rC b #[sO key ([20#64].length) c, .pointer none, iN ([20#64].length), iN 0] 96), (key, qA E64 34 [20#64] sp)]) P8 ∧ MT p0 (fun P => ∃ b : Nat, v15 = pT b ∧ P = [(rC b #[yA, yA] 24)]) P15 ∧ Hp No w w' (List.flatten [P2, P3, P5, P6, P7, P8, P15, [(rC b0 x2 38), x1], EA 66 121 114 e0 h0, EA 66 121 114 f0 i0])) ∨ (l0 = true ∧ ∃ (k0 : Option Nat) (c0 : Nat) (z0 : LV) (k1 : Option Nat) (c1 : Nat) (z1 : LV), v11 = .tuple #[.agg #[sO k0 opsW.length c0, sO k1 opsW.length c1], .nilIface] ∧ Sl E64 k0 X.1 c0 z0 ∧ Sl E64 k1 X.2 c1 z1 ∧ ((j0 = false ∧ ∃ P15, MT p0 (fun P => ∃ b : Nat, v15 = pT b ∧ P = [(rC b #[yA, yA] 24)]) P15 ∧ Hp No w w' (List.flatten [[(k0, qA E64 34 X.1 z0), (k1, qA E64 34 X.2 z1)], P15, [(rC b0 x2 38), x1]])) ∨ (j0 = true ∧ ∃ b : Nat, v15 = pT b ∧ Hp No w w' (List.flatten [[(k0, qA E64 34 X.1 z0), (k1, qA E64 34 X.2 z1)], [(rC b #[sO k0 opsW.length c0, sO k1 opsW.length c1] 24)], [(rC b0 x2 38), x1]])))) | _, _ => False) BA (by kernel_rfl) (by kernel_rfl) (by exact Or.inl ⟨rfl, rfl, [], [], [], [], [], [], [], rfl, rfl, rfl, rfl, rfl, rfl, rfl, HA.drew⟩) (WalkE.look rfl (fun _ => sO (some b1) 4 4) (fun _ _ _ => rfl) (fun L r w0 uw _ _ _ _ => Gives.run rfl (CA (v := sO (some b1) 4 4) rfl) ⟨rfl, rfl⟩) (WalkE.look rfl (fun _ => .agg (uA EI [(1 : Int), (1 : Int)]).toArray) (fun _ _ _ => rfl) (fun L r w0 uw _ _ _ _ => Gives.run rfl (pG (cs' := (uA EI [(1 : Int), (1 : Int)]).toArray) (ps := [(0, i64 1), (1, i64 1)]) vF vF rfl (by rfl)) ⟨rfl, rfl⟩) (WalkE.eff 0 rfl (fun L r w0 uw hLn hAn hDn hF m0 => ?_) ?_)))
 ·have l0 := hDn 11 (by decide) rfl
  have j0 := hDn 16 (by decide) rfl
  have b2 : L 2 = false := hLn
  have hb : List.map L [2, 3, 5, 6, 7, 8, 11, 15, 16] = [false, L 3, L 5, L 6, L 7, L 8, false, L 15, false] := by simp only [List.map_cons, List.map_nil, b2, l0, j0]
  rw [hb] at hF ⊢
  obtain ⟨a0, d0, P2, P3, P5, P6, P7, P8, P15, o2, o3, o5, o6, o7, o8, o15, HH⟩ | ⟨a0, k0, c0, z0, k1, c1, z1, n0, hz0, hz1, ⟨d0, P15, o15, HH⟩ | ⟨d0, b, o0, HH⟩⟩ := hF
  ·replace HH := HH.ext m0
   obtain rfl := (show P2 = [] from o2)
   have H1 := Hp.segsD (S := [[], P3, P5, P6, P7, P8, P15, [(rC b0 x2 38), x1], EA 66 121 114 e0 h0, EA 66 121 114 f0 i0]) HH 10 rfl [1, 2, 3, 4, 5, 6, 7, 8, 9] [0] (by decide)
   have H2 := H1.as (L' := ((List.flatten [P3, P5, P6, P7, P8, P15, [(rC b0 x2 38), x1], EA 66 121 114 e0 h0, EA 66 121 114 f0 i0]))) rfl
   dsimp only
   refine gW fun Q' hK => (bS (E := E64) (l := [3#64]) fun M0 k2 A1 B1 l2 => ?_)
   let x9 : RW := ((some M0), qA E64 34 ([3#64]) ([]))
   have H8 := B1.as (L' := List.flatten [[x9], P3, P5, P6, P7, P8, P15, [(rC b0 x2 38), x1], EA 66 121 114 e0 h0, EA 66 121 114 f0 i0]) rfl
   have H9 := Hp.segsD (S := [[x9], P3, P5, P6, P7, P8, P15, [(rC b0 x2 38), x1], EA 66 121 114 e0 h0, EA 66 121 114 f0 i0]) H8 10 rfl [0, 1, 2, 3, 4, 5, 6, 7, 8, 9] [] (by decide)
   exact hK _ _ (Or.inl ⟨a0, d0, [x9], P3, P5, P6, P7, P8, P15, ⟨M0, rfl, A1, rfl⟩, o3, o5, o6, o7, o8, o15, H9⟩)
  ·cases a0
  ·cases a0
 refine WalkE.eff 1 rfl (fun L r w0 uw hLn hAn hDn hF m0 => ?_) ?_
 ·have l0 := hDn 11 (by decide) rfl
  have j0 := hDn 16 (by decide) rfl
  have b3 : L 3 = false := hLn
  have hb : List.map L [2, 3, 5, 6, 7, 8, 11, 15, 16] = [L 2, false, L 5, L 6, L 7, L 8, false, L 15, false] := by simp only [List.map_cons, List.map_nil, b3, l0, j0]
  rw [hb] at hF ⊢
  obtain ⟨a0, d0, P2, P3, P5, P6, P7, P8, P15, o2, o3, o5, o6, o7, o8, o15, HH⟩ | ⟨a0, k0, c0, z0, k1, c1, z1, n0, hz0, hz1, ⟨d0, P15, o15, HH⟩ | ⟨d0, b, o0, HH⟩⟩ := hF
  ·replace HH := HH.ext m0
   obtain rfl := (show P3 = [] from o3)
   have H1 := Hp.segsD (S := [P2, [], P5, P6, P7, P8, P15, [(rC b0 x2 38), x1], EA 66 121 114 e0 h0, EA 66 121 114 f0 i0]) HH 10 rfl [0, 2, 3, 4, 5, 6, 7, 8, 9] [1] (by decide)
   have H2 := H1.as (L' := ((List.flatten [P2, P5, P6, P7, P8, P15, [(rC b0 x2 38), x1], EA 66 121 114 e0 h0, EA 66 121 114 f0 i0]))) rfl
   dsimp only
   refine gW fun Q' hK => (bS (E := E64) (l := [5#64]) fun N0 m2 C1 D1 n2 => ?_)
   let F0 : RW := ((some N0), qA E64 34 ([5#64]) ([]))
   have H8 := D1.as (L' := List.flatten [[F0], P2, P5, P6, P7, P8, P15, [(rC b0 x2 38), x1], EA 66 121 114 e0 h0, EA 66 121 114 f0 i0]) rfl
   have H9 := Hp.segsD (S := [[F0], P2, P5, P6, P7, P8, P15, [(rC b0 x2 38), x1], EA 66 121 114 e0 h0, EA 66 121 114 f0 i0]) H8 10 rfl [1, 0, 2, 3, 4, 5, 6, 7, 8, 9] [] (by decide)
   exact hK _ _ (Or.inl ⟨a0, d0, P2, [F0], P5, P6, P7, P8, P15, o2, ⟨N0, rfl, C1, rfl⟩, o5, o6, o7, o8, o15, H9⟩)
  ·cases a0
  ·cases a0
 refine WalkE.look rfl (fun r => bld (r 2) (r 3)) (fun r r' h => by rw [h 2 (by decide) rfl, h 3 (by decide) rfl]) (fun L r w0 uw hAn hDn hF m0 => ?_) ?_
 ·have b2 := hAn 2 (by decide) rfl
  have b3 := hAn 3 (by decide) rfl
  have l0 := hDn 11 (by decide) rfl
  have j0 := hDn 16 (by decide) rfl
  have hb : List.map L [2, 3, 5, 6, 7, 8, 11, 15, 16] = [true, true, L 5, L 6, L 7, L 8, false, L 15, false] := by simp only [List.map_cons, List.map_nil, b2, b3, l0, j0]
  rw [hb] at hF
  obtain ⟨a0, d0, P2, P3, P5, P6, P7, P8, P15, o2, o3, o5, o6, o7, o8, o15, HH⟩ | ⟨a0, _⟩ := hF
  ·obtain ⟨p2, e2, _⟩ := o2
   obtain ⟨p3, e3, _⟩ := o3
   dsimp only
   rw [e2, e3]
   exact xC
  ·cases a0
 refine WalkE.eff 2 rfl (fun L r w0 uw hLn hAn hDn hF m0 => ?_) ?_
 ·have b6 := hDn 6 (by decide) rfl
  have b8 := hDn 8 (by decide) rfl
  have l0 := hDn 11 (by decide) rfl
  have j0 := hDn 16 (by decide) rfl
  have b5 : L 5 = false := hLn
  have hb : List.map L [2, 3, 5, 6, 7, 8, 11, 15, 16] = [L 2, L 3, false, false, L 7, false, false, L 15, false] := by simp only [List.map_cons, List.map_nil, b5, b6, b8, l0, j0]
  rw [hb] at hF ⊢
  obtain ⟨a0, d0, P2, P3, P5, P6, P7, P8, P15, o2, o3, o5, o6, o7, o8, o15, HH⟩ | ⟨a0, k0, c0, z0, k1, c1, z1, n0, hz0, hz1, ⟨d0, P15, o15, HH⟩ | ⟨d0, b, o0, HH⟩⟩ := hF
  ·replace HH := HH.ext m0
   obtain rfl := (show P5 = [] from o5)
   have H1 := Hp.segsD (S := [P2, P3, [], P6, P7, P8, P15, [(rC b0 x2 38), x1], EA 66 121 114 e0 h0, EA 66 121 114 f0 i0]) HH 10 rfl [0, 1, 3, 4, 5, 6, 7, 8, 9] [2] (by decide)
   have H2 := H1.as (L' := ((List.flatten [P2, P3, P6, P7, P8, P15, [(rC b0 x2 38), x1], EA 66 121 114 e0 h0, EA 66 121 114 f0 i0]))) rfl
   dsimp only
   refine gW fun Q' hK => (bS (E := E64) (l := [10#64]) fun O0 q2 E1 F1 r2 => ?_)
   let x7 : RW := ((some O0), qA E64 34 ([10#64]) ([]))
   have H8 := F1.as (L' := List.flatten [[x7], P2, P3, P6, P7, P8, P15, [(rC b0 x2 38), x1], EA 66 121 114 e0 h0, EA 66 121 114 f0 i0]) rfl
   have H9 := Hp.segsD (S := [[x7], P2, P3, P6, P7, P8, P15, [(rC b0 x2 38), x1], EA 66 121 114 e0 h0, EA 66 121 114 f0 i0]) H8 10 rfl [1, 2, 0, 3, 4, 5, 6, 7, 8, 9] [] (by decide)
   exact hK _ _ (Or.inl ⟨a0, d0, P2, P3, [x7], P6, P7, P8, P15, o2, o3, ⟨O0, rfl, E1, rfl⟩, o6, o7, o8, o15, H9⟩)
  ·cases a0
  ·cases a0
 refine WalkE.eff 3 rfl (fun L r w0 uw hLn hAn hDn hF m0 => ?_) ?_
 ·have b5 := hAn 5 (by decide) rfl
  have b8 := hDn 8 (by decide) rfl
  have l0 := hDn 11 (by decide) rfl
  have j0 := hDn 16 (by decide) rfl
  have b6 : L 6 = false := hLn
  have hb : List.map L [2, 3, 5, 6, 7, 8, 11, 15, 16] = [L 2, L 3, true, false, L 7, false, false, L 15, false] := by simp only [List.map_cons, List.map_nil, b5, b6, b8, l0, j0]
  rw [hb] at hF ⊢
  obtain ⟨a0, d0, P2, P3, P5, P6, P7, P8, P15, o2, o3, o5, o6, o7, o8, o15, HH⟩ | ⟨a0, k0, c0, z0, k1, c1, z1, n0, hz0, hz1, ⟨d0, P15, o15, HH⟩ | ⟨d0, b, o0, HH⟩⟩ := hF
  ·replace HH := HH.ext m0
   obtain rfl := (show P6 = [] from o6)
   obtain ⟨p5, e5, hq5, rfl⟩ := o5
   have H1 := Hp.segsD (S := [P2, P3, [(some p5, qA E64 34 [10#64] [])], [], P7, P8, P15, [(rC b0 x2 38), x1], EA 66 121 114 e0 h0, EA 66 121 114 f0 i0]) HH 10 rfl [2, 0, 1, 4, 5, 6, 7, 8, 9] [3] (by decide)
   have H2 := H1.b1 rfl
   rw [e5]
   dsimp only
   refine gW fun Q' hK => (cl (sD ([10#64]) (by decide) (sA (some p5)) 1 1 (by decide) uw (H2.rd (k := 0) rfl hq5)) ?_)
   rintro _ s2 ⟨⟨x0, q0, y0, P0, rfl, G1, I1⟩, u2⟩
   let G0 : RW := (q0, qA E64 34 ([10#64]) P0)
   have J1 := (H2.join I1).b3 rfl
   have H8 := J1.as (L' := List.flatten [[(rC x0 #[sO q0 (([10#64]).length) y0, .pointer none, iN (([10#64]).length), iN 0] 96), G0], [(some p5, qA E64 34 [10#64] [])], P2, P3, P7, P8, P15, [(rC b0 x2 38), x1], EA 66 121 114 e0 h0, EA 66 121 114 f0 i0]) rfl
   have H9 := Hp.segsD (S := [[(rC x0 #[sO q0 (([10#64]).length) y0, .pointer none, iN (([10#64]).length), iN 0] 96), G0], [(some p5, qA E64 34 [10#64] [])], P2, P3, P7, P8, P15, [(rC b0 x2 38), x1], EA 66 121 114 e0 h0, EA 66 121 114 f0 i0]) H8 10 rfl [2, 3, 1, 0, 4, 5, 6, 7, 8, 9] [] (by decide)
   exact hK _ _ (Or.inl ⟨a0, d0, P2, P3, _, [(rC x0 #[sO q0 (([10#64]).length) y0, .pointer none, iN (([10#64]).length), iN 0] 96), G0], P7, P8, P15, o2, o3, ⟨p5, e5, hq5, rfl⟩, ⟨x0, q0, y0, P0, rfl, G1, rfl⟩, o7, o8, o15, H9⟩)
  ·cases a0
  ·cases a0
 refine WalkE.eff 4 rfl (fun L r w0 uw hLn hAn hDn hF m0 => ?_) ?_
 ·have b8 := hDn 8 (by decide) rfl
  have l0 := hDn 11 (by decide) rfl
  have j0 := hDn 16 (by decide) rfl
  have b7 : L 7 = false := hLn
  have hb : List.map L [2, 3, 5, 6, 7, 8, 11, 15, 16] = [L 2, L 3, L 5, L 6, false, false, false, L 15, false] := by simp only [List.map_cons, List.map_nil, b7, b8, l0, j0]
  rw [hb] at hF ⊢
  obtain ⟨a0, d0, P2, P3, P5, P6, P7, P8, P15, o2, o3, o5, o6, o7, o8, o15, HH⟩ | ⟨a0, k0, c0, z0, k1, c1, z1, n0, hz0, hz1, ⟨d0, P15, o15, HH⟩ | ⟨d0, b, o0, HH⟩⟩ := hF
  ·replace HH := HH.ext m0
   obtain rfl := (show P7 = [] from o7)
   have H1 := Hp.segsD (S := [P2, P3, P5, P6, [], P8, P15, [(rC b0 x2 38), x1], EA 66 121 114 e0 h0, EA 66 121 114 f0 i0]) HH 10 rfl [0, 1, 2, 3, 5, 6, 7, 8, 9] [4] (by decide)
   have H2 := H1.as (L' := ((List.flatten [P2, P3, P5, P6, P8, P15, [(rC b0 x2 38), x1], EA 66 121 114 e0 h0, EA 66 121 114 f0 i0]))) rfl
   dsimp only
   refine gW fun Q' hK => (bS (E := E64) (l := [20#64]) fun Q0 y2 K1 L1 z2 => ?_)
   let x8 : RW := ((some Q0), qA E64 34 ([20#64]) ([]))
   have H8 := L1.as (L' := List.flatten [[x8], P2, P3, P5, P6, P8, P15, [(rC b0 x2 38), x1], EA 66 121 114 e0 h0, EA 66 121 114 f0 i0]) rfl
   have H9 := Hp.segsD (S := [[x8], P2, P3, P5, P6, P8, P15, [(rC b0 x2 38), x1], EA 66 121 114 e0 h0, EA 66 121 114 f0 i0]) H8 10 rfl [1, 2, 3, 4, 0, 5, 6, 7, 8, 9] [] (by decide)
   exact hK _ _ (Or.inl ⟨a0, d0, P2, P3, P5, P6, [x8], P8, P15, o2, o3, o5, o6, ⟨Q0, rfl, K1, rfl⟩, o8, o15, H9⟩)
  ·cases a0
  ·cases a0
 refine WalkE.eff 5 rfl (fun L r w0 uw hLn hAn hDn hF m0 => ?_) ?_
 ·have b5 := hAn 5 (by decide) rfl
  have b6 := hAn 6 (by decide) rfl
  have b7 := hAn 7 (by decide) rfl
  have l0 := hDn 11 (by decide) rfl
  have j0 := hDn 16 (by decide) rfl
  have b8 : L 8 = false := hLn
  have hb : List.map L [2, 3, 5, 6, 7, 8, 11, 15, 16] = [L 2, L 3, true, true, true, false, false, L 15, false] := by simp only [List.map_cons, List.map_nil, b5, b6, b7, b8, l0, j0]
  rw [hb] at hF ⊢
  obtain ⟨a0, d0, P2, P3, P5, P6, P7, P8, P15, o2, o3, o5, o6, o7, o8, o15, HH⟩ | ⟨a0, k0, c0, z0, k1, c1, z1, n0, hz0, hz1, ⟨d0, P15, o15, HH⟩ | ⟨d0, b, o0, HH⟩⟩ := hF
  ·replace HH := HH.ext m0
   obtain rfl := (show P8 = [] from o8)
   obtain ⟨p7, e7, hq7, rfl⟩ := o7
   have H1 := Hp.segsD (S := [P2, P3, P5, P6, [(some p7, qA E64 34 [20#64] [])], [], P15, [(rC b0 x2 38), x1], EA 66 121 114 e0 h0, EA 66 121 114 f0 i0]) HH 10 rfl [4, 0, 1, 2, 3, 6, 7, 8, 9] [5] (by decide)
   have H2 := H1.b1 rfl
   rw [e7]
   dsimp only
   refine gW fun Q' hK => (cl (sD ([20#64]) (by decide) (sA (some p7)) 1 1 (by decide) uw (H2.rd (k := 0) rfl hq7)) ?_)
   rintro _ A2 ⟨⟨A0, r0, B0, R0, rfl, M1, N1⟩, B2⟩
   let H0 : RW := (r0, qA E64 34 ([20#64]) R0)
   have O1 := (H2.join N1).b3 rfl
   have H8 := O1.as (L' := List.flatten [[(rC A0 #[sO r0 (([20#64]).length) B0, .pointer none, iN (([20#64]).length), iN 0] 96), H0], [(some p7, qA E64 34 [20#64] [])], P2, P3, P5, P6, P15, [(rC b0 x2 38), x1], EA 66 121 114 e0 h0, EA 66 121 114 f0 i0]) rfl
   have H9 := Hp.segsD (S := [[(rC A0 #[sO r0 (([20#64]).length) B0, .pointer none, iN (([20#64]).length), iN 0] 96), H0], [(some p7, qA E64 34 [20#64] [])], P2, P3, P5, P6, P15, [(rC b0 x2 38), x1], EA 66 121 114 e0 h0, EA 66 121 114 f0 i0]) H8 10 rfl [2, 3, 4, 5, 1, 0, 6, 7, 8, 9] [] (by decide)
   exact hK _ _ (Or.inl ⟨a0, d0, P2, P3, P5, P6, _, [(rC A0 #[sO r0 (([20#64]).length) B0, .pointer none, iN (([20#64]).length), iN 0] 96), H0], P15, o2, o3, o5, o6, ⟨p7, e7, hq7, rfl⟩, ⟨A0, r0, B0, R0, rfl, M1, rfl⟩, o15, H9⟩)
  ·cases a0
  ·cases a0
 refine WalkE.look rfl (fun r => bld (r 6) (r 8)) (fun r r' h => by rw [h 6 (by decide) rfl, h 8 (by decide) rfl]) (fun L r w0 uw hAn hDn hF m0 => ?_) ?_
 ·have b5 := hAn 5 (by decide) rfl
  have b6 := hAn 6 (by decide) rfl
  have b7 := hAn 7 (by decide) rfl
  have b8 := hAn 8 (by decide) rfl
  have l0 := hDn 11 (by decide) rfl
  have j0 := hDn 16 (by decide) rfl
  have hb : List.map L [2, 3, 5, 6, 7, 8, 11, 15, 16] = [L 2, L 3, true, true, true, true, false, L 15, false] := by simp only [List.map_cons, List.map_nil, b5, b6, b7, b8, l0, j0]
  rw [hb] at hF
  obtain ⟨a0, d0, P2, P3, P5, P6, P7, P8, P15, o2, o3, o5, o6, o7, o8, o15, HH⟩ | ⟨a0, _⟩ := hF
  ·obtain ⟨p6, _, _, _, e6, _⟩ := o6
   obtain ⟨p8, _, _, _, e8, _⟩ := o8
   dsimp only
   rw [e6, e8]
   exact xC
  ·cases a0
 refine WalkE.look rfl (fun _ => .agg x2) (fun _ _ _ => rfl) (fun L r w0 uw hAn hDn hF m0 => ?_) ?_
 ·have l0 := hDn 11 (by decide) rfl
  have j0 := hDn 16 (by decide) rfl
  have hb : List.map L [2, 3, 5, 6, 7, 8, 11, 15, 16] = [L 2, L 3, L 5, L 6, L 7, L 8, false, L 15, false] := by simp only [List.map_cons, List.map_nil, l0, j0]
  rw [hb] at hF
  obtain ⟨a0, d0, P2, P3, P5, P6, P7, P8, P15, o2, o3, o5, o6, o7, o8, o15, HH⟩ | ⟨a0, _⟩ := hF
  ·replace HH := HH.ext m0
   have H1 := Hp.segsD (S := [P2, P3, P5, P6, P7, P8, P15, [(rC b0 x2 38), x1], EA 66 121 114 e0 h0, EA 66 121 114 f0 i0]) HH 10 rfl [7, 0, 1, 2, 3, 4, 5, 6, 8, 9] [] (by decide)
   have H2 := H1.b2 rfl
   exact xC
  ·cases a0
 refine WalkE.eff 6 rfl (fun L r w0 uw hLn hAn hDn hF m0 => ?_) ?_
 ·have b2 := hAn 2 (by decide) rfl
  have b3 := hAn 3 (by decide) rfl
  have b5 := hAn 5 (by decide) rfl
  have b6 := hAn 6 (by decide) rfl
  have b7 := hAn 7 (by decide) rfl
  have b8 := hAn 8 (by decide) rfl
  have j0 := hDn 16 (by decide) rfl
  have l0 : L 11 = false := hLn
  have hb : List.map L [2, 3, 5, 6, 7, 8, 11, 15, 16] = [true, true, true, true, true, true, false, L 15, false] := by simp only [List.map_cons, List.map_nil, b2, b3, b5, b6, b7, b8, l0, j0]
  rw [hb] at hF ⊢
  obtain ⟨a0, d0, P2, P3, P5, P6, P7, P8, P15, o2, o3, o5, o6, o7, o8, o15, HH⟩ | ⟨a0, _⟩ := hF
  ·replace HH := HH.ext m0
   obtain ⟨p2, e2, hq2, rfl⟩ := o2
   let x5 : List RW := [(some p2, qA E64 34 [3#64] [])]
   obtain ⟨p3, e3, hq3, rfl⟩ := o3
   let x6 : List RW := [(some p3, qA E64 34 [5#64] [])]
   obtain ⟨p5, e5, hq5, rfl⟩ := o5
   let x3 : List RW := [(some p5, qA E64 34 [10#64] [])]
   obtain ⟨p7, e7, hq7, rfl⟩ := o7
   let x4 : List RW := [(some p7, qA E64 34 [20#64] [])]
   obtain ⟨b6x, I0, c6, S0, e6, hq6, rfl⟩ := o6
   obtain ⟨b8x, J0, c8, T0, e8, hq8, rfl⟩ := o8
   have H1 := Hp.segsD (S := [x5, x6, x3, [(rC b6x #[sO I0 ([10#64].length) c6, .pointer none, iN ([10#64].length), iN 0] 96), (I0, qA E64 34 [10#64] S0)], x4, [(rC b8x #[sO J0 ([20#64].length) c8, .pointer none, iN ([20#64].length), iN 0] 96), (J0, qA E64 34 [20#64] T0)], P15, [(rC b0 x2 38), x1], EA 66 121 114 e0 h0, EA 66 121 114 f0 i0]) HH 10 rfl [3, 5, 8, 9, 0, 1, 7, 2, 4, 6] [] (by decide)
   have H2 := H1.as (L' := (_ :: _ :: _ :: _ :: (EA 66 121 114 e0 h0 ++ (EA 66 121 114 f0 i0 ++ List.flatten [x5, x6, [(rC b0 x2 38), x1], x3, x4, P15])))) rfl
   rw [e2, e3, e6, e8]
   dsimp only
   refine gW fun Q' hK => (cl (aR opsW (sA (some b1)) 4 [3#64] [5#64] (sA (some p2)) (sA (some p3)) 1 1 b6x I0 c6 S0 [10#64] hq6 (by decide) b8x J0 c8 T0 [20#64] hq8 (by decide) e0 f0 h0 i0 l1 m1 (List.flatten [x5, x6, [(rC b0 x2 38), x1], x3, x4, P15]) w uw hG yT kdaW (by decide) (by rw [s1]; decide) (by rw [show jA fB opsW opsW.length = 0 from by decide]; exact Nat.zero_le _) (by decide) (by rw [y1]; decide) (by rw [show jA fB opsW opsW.length = 0 from by decide]; exact Nat.zero_le _) (fun w1 _ hp => Rd.mine K0 fun g hg => hp _ (List.Mem.tail _ (List.Mem.tail _ (List.Mem.tail _ (List.Mem.head _)))) g hg) (fun w1 _ hp => Rd.mine hq2 fun g hg => hp _ (List.Mem.head _) g hg) (fun w1 _ hp => Rd.mine hq3 fun g hg => hp _ (List.Mem.tail _ (List.Mem.head _)) g hg) H2) ?_)
   rintro _ w2 ⟨k0, c0, z0, k1, c1, z1, u0, u1, rfl, hz0, hz1, H3⟩
   rw [← hX] at hz0 hz1 H3
   have H8 := H3.as (L' := List.flatten [[(k0, qA E64 34 X.1 z0), (k1, qA E64 34 X.2 z1)], EA 66 121 114 e0 u0, EA 66 121 114 f0 u1, x5, x6, [(rC b0 x2 38), x1], x3, x4, P15]) rfl
   have H9 := Hp.segsD (S := [[(k0, qA E64 34 X.1 z0), (k1, qA E64 34 X.2 z1)], EA 66 121 114 e0 u0, EA 66 121 114 f0 u1, x5, x6, [(rC b0 x2 38), x1], x3, x4, P15]) H8 9 rfl [0, 8, 5] [1, 2, 3, 4, 6, 7] (by decide)
   exact hK _ _ (Or.inr ⟨rfl, k0, c0, z0, k1, c1, z1, rfl, hz0, hz1, Or.inl ⟨rfl, P15, o15, H9⟩⟩)
  ·cases a0
 refine WalkE.look rfl (fun r => r 11) (fun r r' h => h 11 (by decide) rfl) (fun L r w0 uw _ _ _ _ => Gives.run rfl (CA rfl) ⟨rfl, rfl⟩) (WalkE.look rfl (fun r => AB (r 11) 0) (fun r r' h => by rw [h 11 (by decide) rfl]) (fun L r w0 uw hAn hDn hF m0 => ?_) ?_)
 ·have b2 := hAn 2 (by decide) rfl
  have b3 := hAn 3 (by decide) rfl
  have b5 := hAn 5 (by decide) rfl
  have b6 := hAn 6 (by decide) rfl
  have b7 := hAn 7 (by decide) rfl
  have b8 := hAn 8 (by decide) rfl
  have l0 := hAn 11 (by decide) rfl
  have j0 := hDn 16 (by decide) rfl
  have hb : List.map L [2, 3, 5, 6, 7, 8, 11, 15, 16] = [true, true, true, true, true, true, true, L 15, false] := by simp only [List.map_cons, List.map_nil, b2, b3, b5, b6, b7, b8, l0, j0]
  rw [hb] at hF
  obtain ⟨a0, _⟩ | ⟨a0, k0, c0, z0, k1, c1, z1, n0, _⟩ := hF
  ·cases a0
  ·dsimp only
   rw [n0]
   exact xC
 refine WalkE.look rfl (fun r => AB (r 11) 1) (fun r r' h => by rw [h 11 (by decide) rfl]) (fun L r w0 uw hAn hDn hF m0 => ?_) ?_
 ·have b2 := hAn 2 (by decide) rfl
  have b3 := hAn 3 (by decide) rfl
  have b5 := hAn 5 (by decide) rfl
  have b6 := hAn 6 (by decide) rfl
  have b7 := hAn 7 (by decide) rfl
  have b8 := hAn 8 (by decide) rfl
  have l0 := hAn 11 (by decide) rfl
  have hb : List.map L [2, 3, 5, 6, 7, 8, 11, 15, 16] = [true, true, true, true, true, true, true, L 15, L 16] := by simp only [List.map_cons, List.map_nil, b2, b3, b5, b6, b7, b8, l0]
  rw [hb] at hF
  obtain ⟨a0, _⟩ | ⟨a0, k0, c0, z0, k1, c1, z1, n0, _⟩ := hF
  ·cases a0
  ·dsimp only
   rw [n0]
   exact xC
 refine WalkE.eff 7 rfl (fun L r w0 uw hLn hAn hDn hF m0 => ?_) ?_
 ·have j0 := hDn 16 (by decide) rfl
  have p0 : L 15 = false := hLn
  have hb : List.map L [2, 3, 5, 6, 7, 8, 11, 15, 16] = [L 2, L 3, L 5, L 6, L 7, L 8, L 11, false, false] := by simp only [List.map_cons, List.map_nil, p0, j0]
  rw [hb] at hF ⊢
  obtain ⟨a0, d0, P2, P3, P5, P6, P7, P8, P15, o2, o3, o5, o6, o7, o8, o15, HH⟩ | ⟨a0, k0, c0, z0, k1, c1, z1, n0, hz0, hz1, ⟨d0, P15, o15, HH⟩ | ⟨d0, b, o0, HH⟩⟩ := hF
  ·replace HH := HH.ext m0
   obtain rfl := (show P15 = [] from o15)
   have H1 := Hp.segsD (S := [P2, P3, P5, P6, P7, P8, [], [(rC b0 x2 38), x1], EA 66 121 114 e0 h0, EA 66 121 114 f0 i0]) HH 10 rfl [0, 1, 2, 3, 4, 5, 7, 8, 9] [6] (by decide)
   have H2 := H1.as (L' := ((List.flatten [P2, P3, P5, P6, P7, P8, [(rC b0 x2 38), x1], EA 66 121 114 e0 h0, EA 66 121 114 f0 i0]))) rfl
   dsimp only
   refine gW fun Q' hK => ?_
   refine go 1 ?_
   intro C0 C2 D2 P1 E2
   have H8 := P1.as (L' := List.flatten [[(rC C0 #[yA, yA] 24)], P2, P3, P5, P6, P7, P8, [(rC b0 x2 38), x1], EA 66 121 114 e0 h0, EA 66 121 114 f0 i0]) rfl
   have H9 := Hp.segsD (S := [[(rC C0 #[yA, yA] 24)], P2, P3, P5, P6, P7, P8, [(rC b0 x2 38), x1], EA 66 121 114 e0 h0, EA 66 121 114 f0 i0]) H8 10 rfl [1, 2, 3, 4, 5, 6, 0, 7, 8, 9] [] (by decide)
   exact hK _ _ (Or.inl ⟨a0, d0, P2, P3, P5, P6, P7, P8, [(rC C0 #[yA, yA] 24)], o2, o3, o5, o6, o7, o8, ⟨C0, rfl, rfl⟩, H9⟩)
  ·replace HH := HH.ext m0
   obtain rfl := (show P15 = [] from o15)
   have H1 := Hp.segsD (S := [[(k0, qA E64 34 X.1 z0), (k1, qA E64 34 X.2 z1)], [], [(rC b0 x2 38), x1]]) HH 3 rfl [0, 2] [1] (by decide)
   have H2 := H1.as (L' := ((List.flatten [[(k0, qA E64 34 X.1 z0), (k1, qA E64 34 X.2 z1)], [(rC b0 x2 38), x1]]))) rfl
   dsimp only
   refine gW fun Q' hK => ?_
   refine go 1 ?_
   intro D0 F2 G2 Q1 I2
   have H8 := Q1.as (L' := List.flatten [[(rC D0 #[yA, yA] 24)], [(k0, qA E64 34 X.1 z0), (k1, qA E64 34 X.2 z1)], [(rC b0 x2 38), x1]]) rfl
   have H9 := Hp.segsD (S := [[(rC D0 #[yA, yA] 24)], [(k0, qA E64 34 X.1 z0), (k1, qA E64 34 X.2 z1)], [(rC b0 x2 38), x1]]) H8 3 rfl [1, 0, 2] [] (by decide)
   exact hK _ _ (Or.inr ⟨a0, k0, c0, z0, k1, c1, z1, n0, hz0, hz1, Or.inl ⟨d0, [(rC D0 #[yA, yA] 24)], ⟨D0, rfl, rfl⟩, H9⟩⟩)
  ·cases d0
 refine WalkE.eff 8 rfl (fun L r w0 uw hLn hAn hDn hF m0 => ?_) ?_
 ·have b2 := hAn 2 (by decide) rfl
  have b3 := hAn 3 (by decide) rfl
  have b5 := hAn 5 (by decide) rfl
  have b6 := hAn 6 (by decide) rfl
  have b7 := hAn 7 (by decide) rfl
  have b8 := hAn 8 (by decide) rfl
  have l0 := hAn 11 (by decide) rfl
  have p0 := hAn 15 (by decide) rfl
  have j0 : L 16 = false := hLn
  have hb : List.map L [2, 3, 5, 6, 7, 8, 11, 15, 16] = [true, true, true, true, true, true, true, true, false] := by simp only [List.map_cons, List.map_nil, b2, b3, b5, b6, b7, b8, l0, p0, j0]
  rw [hb] at hF ⊢
  obtain ⟨a0, _⟩ | ⟨a0, k0, c0, z0, k1, c1, z1, n0, hz0, hz1, ⟨d0, P15, o15, HH⟩ | ⟨d0, _⟩⟩ := hF
  ·cases a0
  ·replace HH := HH.ext m0
   obtain ⟨b, o0, rfl⟩ := o15
   have H1 := Hp.segsD (S := [[(k0, qA E64 34 X.1 z0), (k1, qA E64 34 X.2 z1)], [(rC b #[yA, yA] 24)], [(rC b0 x2 38), x1]]) HH 3 rfl [1, 0, 2] [] (by decide)
   have H2 := H1.b1 rfl
   rw [n0, o0]
   dsimp only
   refine MC fun Q' hK => ?_
   refine go 1 ?_
   intro J2 R1 K2
   have H8 := R1.as (L' := List.flatten [[(rC b #[sO k0 opsW.length c0, sO k1 opsW.length c1] 24)], [(k0, qA E64 34 X.1 z0), (k1, qA E64 34 X.2 z1)], [(rC b0 x2 38), x1]]) rfl
   have H9 := Hp.segsD (S := [[(rC b #[sO k0 opsW.length c0, sO k1 opsW.length c1] 24)], [(k0, qA E64 34 X.1 z0), (k1, qA E64 34 X.2 z1)], [(rC b0 x2 38), x1]]) H8 3 rfl [1, 0, 2] [] (by decide)
   exact hK _ (fun _ => (Or.inr ⟨rfl, k0, c0, z0, k1, c1, z1, n0, hz0, hz1, Or.inr ⟨rfl, b, o0, H9⟩⟩))
  ·cases d0
 refine WalkE.look rfl (fun r => AB (r 11) 1) (fun r r' h => by rw [h 11 (by decide) rfl]) (fun L r w0 uw _ _ _ _ => Gives.run rfl (zA rfl) ⟨rfl, rfl⟩) (WalkE.nil fun r w0 w3 hF m0 => ?_)
 obtain ⟨a0, _⟩ | ⟨a0, k0, c0, z0, k1, c1, z1, n0, hz0, hz1, ⟨d0, _⟩ | ⟨d0, b, o0, HH⟩⟩ := hF
 ·cases a0
 ·cases d0
 replace HH := HH.ext m0
 have H3 := HH.a5 rfl
 dsimp only
 rw [n0, o0]
 refine go 6 ?_
 refine LA (v := .bool false) (w' := w3) (gA (d' := 43) (b := false) rfl rfl rfl) ((qD rfl rfl).as (v' := .bool false) (by exact congrArg Value.bool (by decide))) ?_
 refine go 4 ?_
 refine LA (v := .pointer (oC (sA k0) (0 * 1))) (w' := w3) (gA (d' := 49) (b := false) rfl rfl rfl) (TC (E := E64) (l := X.1) (j := 0) vF (H3.rd (k := 0) rfl hz0) rfl rfl vo (by exact hXl.1.symm) om) ?_
 refine go 1 ?_
 refine LA (v := .bool false) (w' := w3) (gA (d' := 49) (b := false) rfl rfl rfl) ((vJ (a := (X.1).getD 0 0#64) (b := 10#64) rfl rfl).as (v' := .bool false) (by rw [hXv.1]; rfl)) ?_
 refine go 4 ?_
 refine LA (v := .pointer (oC (sA k0) (3 * 1))) (w' := w3) (gA (d' := 56) (b := false) rfl rfl rfl) (TC (E := E64) (l := X.1) (j := 3) vF (H3.rd (k := 0) rfl hz0) rfl rfl vo (by exact hXl.1.symm) om) ?_
 refine go 1 ?_
 refine LA (v := .bool false) (w' := w3) (gA (d' := 56) (b := false) rfl rfl rfl) ((vJ (a := (X.1).getD 3 0#64) (b := 15#64) rfl rfl).as (v' := .bool false) (by rw [hXv.2]; rfl)) ?_
 refine go 2 ?_
 refine cl (gM opsW (sA (some b1)) 4 w3 uC IC (by decide) pM) ?_
 rintro _ L2 ⟨rfl, S1⟩
 have M2 := H3.ext S1
 refine go 1 ?_
 intro N2 O2 Q2 R2 S2
 refine go 1 ?_
 intro E0 U0 T2
 refine go 2 ?_
 refine sq ((iB rfl rfl).as (v' := .bool true) (by exact congrArg Value.bool (by decide))) ?_
 refine go 3 ?_
 refine LA (v := .bool true) (w' := E0) (gA (d' := 68) (b := true) rfl rfl rfl) ((iB rfl rfl).as (v' := .bool true) (by exact congrArg Value.bool (by decide))) ?_
 refine go 3 ?_
 refine LA (v := .agg (uA EI [4, 4]).toArray) (w' := E0) (gA (d' := 73) (b := true) rfl rfl rfl) ((mB (cs' := (uA EI [(PR opsW : Nat), (OR opsW : Nat)]).toArray) vF vF (U0.get (k := 0) rfl) (off := 6) rfl (by exact dB rfl) (by rfl)).as (v' := .agg (uA EI [4, 4]).toArray) (by rw [show PR opsW = 4 from by decide, show OR opsW = 4 from by decide]; rfl)) ?_
 refine go 1 ?_
 refine LA (v := .bool true) (w' := E0) (gA (d' := 73) (b := true) rfl rfl rfl) ((AU (E := EI) (l := [4, 4]) (l' := [(4 : Int), (4 : Int)]) vF vF OC (zW vF) rfl rfl rfl rfl).as (v' := .bool true) (by rfl)) ?_
 refine go 5 ?_
 refine eF (gA (d' := 79) (b := true) rfl rfl rfl) (cA (vs := [sO (some b1) 4 4, sO k1 4 c1]) vF rfl) (xH opsW (sA (some b1)) 4 X.2 (sA k1) c1 4 4 (by decide) (by rw [hXl.2]) E0 uC IC (by decide) IC (by rw [hXl.2]; decide) pM) ?_
 rintro _ T1 ⟨⟨a109, rfl, U2⟩, U1⟩
 have V1 := U0.ext U1
 refine go 1 ?_
 refine LA (v := .bool true) (w' := T1) (gA (d' := 79) (b := true) rfl rfl rfl) ((iB rfl rfl).as (v' := .bool true) (by exact congrArg Value.bool (by decide))) ?_
 refine go 2 ?_
 exact ⟨_, rfl, rfl, V1.chg⟩
end Go.Proofs.YtohngnahcgbfmaaGreatDoor.Mu
namespace Go.Proofs.YtohngnahcgbfmaaGreatDoor.Mi
open Go Vc Er Ek Circ
theorem IW : jD Tryz.prog 50 = some (2, 1) := by kernel_rfl
theorem bJ : jD Tryz.prog 83 = some (2, 1) := by kernel_rfl
theorem BL : mA Tryz.prog 28 = true := by kernel_rfl
theorem bW : NA Tryz.prog 48 = true := by kernel_rfl
theorem mJ (a b c d : BitVec 64) (w : World) : Ca 28 [.agg (uA E64 [a, b]).toArray, .agg (uA E64 [c, d]).toArray] w fun v w' => v = .agg (uA E64 [(a ^^^ c), (b ^^^ d)]).toArray ∧ Ext w w' := by
 have H := Hp.start No w
 refine enter (n := 16) Tryz.func28 rfl rfl (dB rfl) ?_
 refine go 1 ?_
 intro b1 w2 b0 H3 c0
 refine go 1 ?_
 intro b5 w6 d0 H7 e0
 refine go 1 ?_
 intro b9 f0 h0 i0 j0
 refine go 12 ?_
 intro k0 a0 l0
 refine go 0 ?_
 exact ⟨_, rfl, rfl, a0.chg⟩
end Go.Proofs.YtohngnahcgbfmaaGreatDoor.Mi
namespace Go.Proofs.YtohngnahcgbfmaaGreatDoor.Mi
open Go Vc Er Ek Circ
open Co Cm
theorem FQ : OA Tryz.prog 38 = true := by kernel_rfl
theorem kV : mA Tryz.prog 13 = true := by kernel_rfl
theorem oW : Tryz.prog.eqGuardType Tryz.prog.depth 29 = false := by kernel_rfl
theorem LO : UB Tryz.prog 38 = some 2 := by kernel_rfl
theorem BO : Tryz.prog.underlying 3 = some (.int .i64) := by kernel_rfl
end Go.Proofs.YtohngnahcgbfmaaGreatDoor.Mi
namespace Go.Proofs.YtohngnahcgbfmaaGreatDoor.Mi
open Go Vc Er Ek Circ
open Co Cm
theorem OP (ops : List Mo) (oa : Option Addr) (oc : Nat) (w : World) (hG : Gl w) (hO : Rd xE w oa ops) (hol : ops.length ≤ 140737488355328) : Ca 7 [.slice oa ops.length oc] w fun v w' => v = .bool ((decide (((ops.length : Nat) : Int) ≤ (400 : Int)) && decide (((jA fG ops ops.length : Nat) : Int) ≤ (3 : Int)))) ∧ Ext w w' := by
 have H := Hp.start No w
 refine enter (n := 26) Tryz.func7 rfl rfl (dB rfl) ?_
 refine go 5 ?_
 refine AA (σ := Nat) (fun i => [(0, .slice oa ops.length oc), (3, iN (jA fG ops i)), (6, iN ops.length), (7, iN i)]) (fun i w' => i ≤ ops.length ∧ Hp No w w' []) (fun i => ops.length - i) (0) ?_ ?_ ?_
 ·exact kp
 ·exact ⟨Nat.zero_le _, H⟩
 rintro i ρ w1 ⟨hk, H2⟩
 have hct := eE (f := fG) (c := 1) (fun o => by unfold fG; split <;> omega) ops i
 refine go 1 ?_
 refine iA (((i : Nat) : Int) < (ops.length : Nat)) rfl (fun c8 => ?_) (fun c8 => ?_)
 ·refine go 6 ?_
  refine sq (MF (E := xE) (l := ops) (j := i) (o := 0) (v := (ops.getD i DB)) (u := i64 ((ops.getD i DB).kd)) vF (hO.ext H2.chg) (QA om) rfl rfl rfl) ?_
  refine go 1 ?_
  refine iA (((ops.getD i DB).kd : Int) = (17 : Int)) rfl (fun a0 => ?_) (fun a0 => ?_)
  ·refine go 5 ?_
   exact ⟨i + 1, _, rfl, ⟨rfl, congrArg i64 (by rw [jA, fG, if_pos a0] <;> omega), rfl, rfl, trivial⟩, ⟨om, H2⟩, vd⟩
  ·refine go 2 ?_
   exact ⟨i + 1, _, rfl, ⟨rfl, congrArg i64 (by rw [jA, fG, if_neg a0] <;> omega), rfl, rfl, trivial⟩, ⟨om, H2⟩, vd⟩
 ·have hie : i = ops.length := by omega
  subst hie
  refine go 4 ?_
  refine XA (B := (decide (((ops.length : Nat) : Int) ≤ (400 : Int)))) (v := iN (jA fG ops ops.length)) (wA (d' := 22) (B := true) rfl rfl rfl) (fun hB => CA (v := iN (jA fG ops ops.length)) rfl) (XA (B := (decide (((ops.length : Nat) : Int) ≤ (400 : Int)))) (v := .bool (decide ((((jA fG ops ops.length) : Nat) : Int) ≤ (3 : Int)))) (wA (d' := 22) (B := true) rfl rfl rfl) (fun hB => by simp only [vD (v := _) (h := hB)]; exact jP rfl rfl) (sq (yB (B := true) rfl rfl rfl rfl) ?_))
  refine go 1 ?_
  exact ⟨_, rfl, rfl, H2.chg⟩
end Go.Proofs.YtohngnahcgbfmaaGreatDoor.Mi
namespace Go.Proofs.YtohngnahcgbfmaaGreatDoor.Cm
open Go Vc Er Circ
theorem aC (n : Nat) (key : Option Nat) (c : Nat) (sp : LV) (gs : List Gt) (hSw : Sl EG key gs c sp) (hn : n ≤ 1000) (hlen : gs.length ≤ 4000) (oa : Option Addr) (on oc : Nat) (kd xa xb : Int) (R : List RW) (w₀ w : World) (H : Hp No w₀ w ((key, qA EG 210 gs sp) :: R)) : Ca 83 [.agg #[iN n, sO key (List.length gs) c, .slice oa on oc], i64 kd, i64 xa, i64 xb] w fun v w' => ∃ (wx : Int) (key' : Option Nat) (c' : Nat) (sp' : LV), wx = FA n gs ∧ v = .tuple #[.agg #[iN n, sO key' (List.length (gs ++ [(⟨kd, xa, xb⟩ : Gt)])) c', .slice oa on oc], i64 wx] ∧ Sl EG key' (gs ++ [(⟨kd, xa, xb⟩ : Gt)]) c' sp' ∧ Hp No w₀ w' ((key', qA EG 210 (gs ++ [(⟨kd, xa, xb⟩ : Gt)]) sp') :: R) := by
 skip
 refine enter (n := 27) Tryz.func83 rfl rfl (dB rfl) ?_
 refine go 1 ?_
 intro b1 w2 q0 H3 r0
 refine go 1 ?_
 intro b5 w6 s0 H7 u0
 refine go 7 ?_
 refine bS (E := EG) (l := ([⟨kd, xa, xb⟩] : List Gt)) fun b9 x0 y0 z0 A0 => ?_
 refine go 1 ?_
 intro a0 c0 d0 B0 h0 C0 i0
 have j0 : gs ++ ([⟨kd, xa, xb⟩] : List Gt) = gs ++ [(⟨kd, xa, xb⟩ : Gt)] := by rfl
 have e0 := h0
 have k0 := i0
 rw [j0] at e0 k0
 refine go 2 ?_
 intro D0 l0 E0
 refine go 0 ?_
 have m0 := (l0.pk 4 [1, 0, 2, 3])
 let b0 : List RW := (((some b9), qA EG 210 ([⟨kd, xa, xb⟩] : List Gt) ([])) :: (rC b1 #[iN n, sO a0 ((List.length gs) + 1) c0, .slice oa on oc] 175) :: (a0, qA EG 210 (gs ++ [(⟨kd, xa, xb⟩ : Gt)]) d0) :: R)
 let n0 : mC := [XF false fun _ w' => Hp No w₀ w' ((rC b5 #[i64 0, yA, yA] 175) :: b0), XF true fun _ w' => Hp No w₀ w' ((rC b5 #[iN n, sO a0 ((List.length gs) + 1) c0, .slice oa on oc] 175) :: b0)]
 refine MA (m := 10) [0, 0, 2, 0, 8, 24, 62, 126, 1, 511] [8] b0 n0 BA (fun _ e => m0.ext e) EC (fun o0 => ?_)
 refine gk 7 ?_
 refine ZB (i64 (FA n gs)) (fun _ uw hcx => (UG rfl rfl om).as (v' := i64 (FA n gs)) (by exact congrArg i64 (by unfold FA; omega))) (WalkT.eff o0 0 ?_ ?_)
 ·refine tA fun r w0 uw hF hE => ?_
  have F0 := hF.ext hE
  refine MC fun Q' hK => ?_
  refine go 1 ?_
  intro G0 p0 H0
  exact hK _ (fun _ => p0)
 refine gk 1 ?_
 refine WalkT.nil fun r w0 I0 hF hE => ?_
 have f0 := hF.ext hE
 dsimp only
 dsimp only [b0] at f0
 refine go 0 ?_
 refine ⟨_, rfl, _, a0, c0, d0, rfl, ?_, e0, (((f0.dropk 2).dropk 1).dropk 0)⟩
 rw [List.length_append]
 rfl
theorem TG (n : Nat) (key : Option Nat) (c : Nat) (sp : LV) (gs : List Gt) (hSw : Sl EG key gs c sp) (hn : n ≤ 1000) (hlen : gs.length ≤ 3900) (oa : Option Addr) (on oc : Nat) (xa xb xc : Int) (R : List RW) (w₀ w : World) (H : Hp No w₀ w ((key, qA EG 210 gs sp) :: R)) : Ca 97 [.agg #[iN n, sO key (List.length gs) c, .slice oa on oc], i64 xa, i64 xb, i64 xc] w fun v w' => ∃ (wx : Int) (key' : Option Nat) (c' : Nat) (sp' : LV), wx = EH n gs ∧ v = .tuple #[.agg #[iN n, sO key' (List.length (mE n gs xa xb xc)) c', .slice oa on oc], i64 wx] ∧ Sl EG key' (mE n gs xa xb xc) c' sp' ∧ Hp No w₀ w' ((key', qA EG 210 (mE n gs xa xb xc) sp') :: R) := by
 let x1 : Array Value := #[i64 0, yA, yA]
 skip
 refine enter (n := 40) Tryz.func97 rfl rfl (dB rfl) ?_
 refine go 1 ?_
 intro b1 w2 S0 H3 T0
 refine go 1 ?_
 intro b5 w6 U0 H7 V0
 refine go 4 ?_
 have H9 := ((H7.pk 3 [2, 0, 1])).b1 rfl
 refine cl (aC n key c sp gs hSw hn om oa on oc (1 : Int) xa xc ((rC b5 x1 175) :: (rC b1 #[iN n, sO key (List.length gs) c, .slice oa on oc] 175) :: R) w₀ w6 H9) ?_
 rintro _ W0 ⟨a0, e0, f0, o0, p0, rfl, q0, r0⟩
 have X0 := r0.b3 rfl
 refine go 4 ?_
 intro s0 u0 Y0
 refine go 4 ?_
 have w0 := u0.as (L' := (_ :: ((rC b5 x1 175) :: (rC b1 #[iN n, sO e0 (List.length (gs ++ [(⟨(1 : Int), xa, xc⟩ : Gt)])) f0, .slice oa on oc] 175) :: R))) rfl
 refine cl (aC n e0 f0 o0 (gs ++ [(⟨(1 : Int), xa, xc⟩ : Gt)]) q0 hn (by simp only [List.length_append, List.length_cons, List.length_nil]; omega) oa on oc (1 : Int) xb xc ((rC b5 x1 175) :: (rC b1 #[iN n, sO e0 (List.length (gs ++ [(⟨(1 : Int), xa, xc⟩ : Gt)])) f0, .slice oa on oc] 175) :: R) w₀ s0 w0) ?_
 rintro _ Z0 ⟨b0, h0, i0, x0, y0, rfl, z0, A0⟩
 have c1 := A0.b3 rfl
 refine go 4 ?_
 intro B0 C0 d1
 refine go 4 ?_
 have D0 := C0.as (L' := (_ :: ((rC b5 x1 175) :: (rC b1 #[iN n, sO h0 (List.length (gs ++ [(⟨(1 : Int), xa, xc⟩ : Gt)] ++ [(⟨(1 : Int), xb, xc⟩ : Gt)])) i0, .slice oa on oc] 175) :: R))) rfl
 refine cl (aC n h0 i0 x0 (gs ++ [(⟨(1 : Int), xa, xc⟩ : Gt)] ++ [(⟨(1 : Int), xb, xc⟩ : Gt)]) z0 hn (by simp only [List.length_append, List.length_cons, List.length_nil]; omega) oa on oc (2 : Int) a0 b0 ((rC b5 x1 175) :: (rC b1 #[iN n, sO h0 (List.length (gs ++ [(⟨(1 : Int), xa, xc⟩ : Gt)] ++ [(⟨(1 : Int), xb, xc⟩ : Gt)])) i0, .slice oa on oc] 175) :: R) w₀ B0 D0) ?_
 rintro _ e1 ⟨E0, c0, d0, F0, G0, rfl, H0, I0⟩
 have g1 := I0.b3 rfl
 refine go 4 ?_
 intro J0 K0 h1
 refine go 4 ?_
 have L0 := K0.as (L' := (_ :: ((rC b5 x1 175) :: (rC b1 #[iN n, sO c0 (List.length (gs ++ [(⟨(1 : Int), xa, xc⟩ : Gt)] ++ [(⟨(1 : Int), xb, xc⟩ : Gt)] ++ [(⟨(2 : Int), a0, b0⟩ : Gt)])) d0, .slice oa on oc] 175) :: R))) rfl
 refine cl (aC n c0 d0 F0 (gs ++ [(⟨(1 : Int), xa, xc⟩ : Gt)] ++ [(⟨(1 : Int), xb, xc⟩ : Gt)] ++ [(⟨(2 : Int), a0, b0⟩ : Gt)]) H0 hn (by simp only [List.length_append, List.length_cons, List.length_nil]; omega) oa on oc (1 : Int) xc E0 ((rC b5 x1 175) :: (rC b1 #[iN n, sO c0 (List.length (gs ++ [(⟨(1 : Int), xa, xc⟩ : Gt)] ++ [(⟨(1 : Int), xb, xc⟩ : Gt)] ++ [(⟨(2 : Int), a0, b0⟩ : Gt)])) d0, .slice oa on oc] 175) :: R) w₀ J0 L0) ?_
 rintro _ i1 ⟨j1, j0, k0, l0, M0, rfl, N0, O0⟩
 have k1 := O0.b3 rfl
 refine go 3 ?_
 intro P0 Q0 l1
 refine go 1 ?_
 subst M0
 subst G0
 subst y0
 subst p0
 have m0 : gs ++ [(⟨(1 : Int), xa, xc⟩ : Gt)] ++ [(⟨(1 : Int), xb, xc⟩ : Gt)] ++ [(⟨(2 : Int), (FA n gs), (FA n (gs ++ [(⟨(1 : Int), xa, xc⟩ : Gt)]))⟩ : Gt)] ++ [(⟨(1 : Int), xc, (FA n (gs ++ [(⟨(1 : Int), xa, xc⟩ : Gt)] ++ [(⟨(1 : Int), xb, xc⟩ : Gt)]))⟩ : Gt)] = mE n gs xa xb xc := by rfl
 have n0 := N0
 rw [m0] at n0
 have R0 : Hp No w₀ P0 ((j0, qA EG 210 (mE n gs xa xb xc) l0) :: (rC b5 #[iN n, sO j0 (List.length (mE n gs xa xb xc)) k0, .slice oa on oc] 175) :: (rC b1 #[iN n, sO c0 (List.length (gs ++ [(⟨(1 : Int), xa, xc⟩ : Gt)] ++ [(⟨(1 : Int), xb, xc⟩ : Gt)] ++ [(⟨(2 : Int), (FA n gs), (FA n (gs ++ [(⟨(1 : Int), xa, xc⟩ : Gt)]))⟩ : Gt)])) d0, .slice oa on oc] 175) :: R) := by rw [← m0]; exact Q0
 exact ⟨_, rfl, _, j0, k0, l0, by unfold EH FA; simp only [List.length_append, List.length_cons, List.length_nil], rfl, n0, ((R0.dropk 2).dropk 1)⟩
end Go.Proofs.YtohngnahcgbfmaaGreatDoor.Cm
namespace Go.Proofs.YtohngnahcgbfmaaGreatDoor.Cm
open Go Vc Er Circ
theorem HW : ZF Tryz.prog 3 = some 8 := by kernel_rfl
theorem QH : eD Tryz.prog 100 = some (3, 1) := by kernel_rfl
theorem OT : YB Tryz.prog 3 = some (.int .i64 0) := by kernel_rfl
theorem cR (n : Nat) (key : Option Nat) (c : Nat) (sp : LV) (gs : List Gt) (hSw : Sl EG key gs c sp) (hn : n ≤ 1000) (hlen : gs.length ≤ 3000) (oa : Option Addr) (on oc : Nat) (pa pb : Nat) (hpa : pa ≤ 1000) (hpb : pb ≤ 1000) (R : List RW) (w₀ w : World) (H : Hp No w₀ w ((key, qA EG 210 gs sp) :: R)) : Ca 82 [.agg #[iN n, sO key (List.length gs) c, .slice oa on oc], i64 ((pa : Nat) : Int), i64 ((pb : Nat) : Int), .bool true] w fun v w' => ∃ (key' : Option Nat) (c' : Nat) (sp' : LV) (ko : Option Nat) (co : Nat) (so : LV), v = .tuple #[.agg #[iN n, sO key' (List.length ((NC n gs (xA pa 64) (xA pb 64) 64).1)) c', .slice oa on oc], sO ko 64 co] ∧ Sl EG key' ((NC n gs (xA pa 64) (xA pb 64) 64).1) c' sp' ∧ Sl EI ko ((NC n gs (xA pa 64) (xA pb 64) 64).2) co so ∧ Hp No w₀ w' ((key', qA EG 210 ((NC n gs (xA pa 64) (xA pb 64) 64).1) sp') :: (ko, qA EI 3 ((NC n gs (xA pa 64) (xA pb 64) 64).2) so) :: R) := by
 skip
 refine enter (n := 70) Tryz.func82 rfl rfl (dB rfl) ?_
 refine go 1 ?_
 intro b1 w2 B0 H3 C0
 refine go 1 ?_
 intro b5 w6 D0 H7 E0
 refine go 2 ?_
 have H9 := H7.nil (qA EI 3 [] [])
 refine go 2 ?_
 refine AA (σ := Nat × Option Nat × Nat × LV × Option Nat × Nat × LV) (fun (i, kz, cz, sz, ko, co, so) => [(1, iN pa), (2, iN pb), (3, .bool true), (4, pT b1), (8, pT b5), (10, sO ko i co), (12, iN i)]) (fun (i, kz, cz, sz, ko, co, so) w' => (i ≤ 64 ∧ Sl EG kz (NC n gs (xA pa 64) (xA pb 64) i).1 cz sz ∧ Sl EI ko (NC n gs (xA pa 64) (xA pb 64) i).2 co so) ∧ Hp No w₀ w' ((kz, qA EG 210 ((NC n gs (xA pa 64) (xA pb 64) i).1) sz) :: (ko, qA EI 3 ((NC n gs (xA pa 64) (xA pb 64) i).2) so) :: (rC b1 #[iN n, sO kz (List.length ((NC n gs (xA pa 64) (xA pb 64) i).1)) cz, .slice oa on oc] 175) :: (rC b5 #[i64 0, yA, yA] 175) :: R)) (fun (i, kz, cz, sz, ko, co, so) => 64 - i) ((0, key, c, sp, none, 0, [])) ?_ ?_ ?_
 ·exact kp
 ·exact ⟨⟨om, hSw, Sl.none⟩, (H9.pk 4 [3, 0, 2, 1])⟩
 rintro ⟨i, kz, cz, sz, ko, co, so⟩ ρ k0 ⟨⟨hq, hSz, hSo⟩, HL⟩
 have hol := ME n gs (xA pa 64) (xA pb 64) i
 refine go 2 ?_
 refine iA (((i : Nat) : Int) < (64 : Int)) rfl (fun l0 => ?_) (fun l0 => ?_)
 ·refine go 4 ?_
  refine sq ((aB rfl rfl om).as (v' := i64 ((xA pa 64).getD i 0)) (by exact congrArg i64 (by rw [TE _ _ _ om]; omega))) ?_
  refine go 2 ?_
  refine sq ((aB rfl rfl om).as (v' := i64 ((xA pb 64).getD i 0)) (by exact congrArg i64 (by rw [TE _ _ _ om]; omega))) ?_
  have m0 := HL.b1 rfl
  refine cl (aC n kz cz sz ((NC n gs (xA pa 64) (xA pb 64) i).1) hSz hn om oa on oc (1 : Int) ((xA pa 64).getD i 0) ((xA pb 64).getD i 0) ((ko, qA EI 3 ((NC n gs (xA pa 64) (xA pb 64) i).2) so) :: (rC b1 #[iN n, sO kz (List.length ((NC n gs (xA pa 64) (xA pb 64) i).1)) cz, .slice oa on oc] 175) :: (rC b5 #[i64 0, yA, yA] 175) :: R) w₀ k0 m0) ?_
  rintro _ F0 ⟨n0, a0, b0, c0, o0, rfl, p0, q0⟩
  have G0 := q0.b4 rfl
  refine go 4 ?_
  intro H0 I0 J0
  refine go 4 ?_
  refine bS (E := EI) (l := [n0]) fun r0 K0 L0 M0 N0 => ?_
  refine OD ?_
  refine ⟨by exact hol.2.symm, by rfl, om, ?_⟩
  intro d0 s0 e0 u0 w0 O0 x0
  refine go 4 ?_
  subst o0
  have f0 : ((NC n gs (xA pa 64) (xA pb 64) i).1) ++ [(⟨(1 : Int), (xA pa 64).getD i 0, (xA pb 64).getD i 0⟩ : Gt)] = (NC n gs (xA pa 64) (xA pb 64) (i + 1)).1 := by rfl
  have h0 := p0
  rw [f0] at h0
  have y0 : Hp No w₀ u0 (((some r0), qA EI 3 ([(FA n ((NC n gs (xA pa 64) (xA pb 64) i).1))]) ([])) :: (a0, qA EG 210 ((NC n gs (xA pa 64) (xA pb 64) (i + 1)).1) c0) :: (d0, qA EI 3 (((NC n gs (xA pa 64) (xA pb 64) i).2) ++ ([(FA n ((NC n gs (xA pa 64) (xA pb 64) i).1))])) e0) :: (rC b1 #[iN n, sO a0 (List.length ((NC n gs (xA pa 64) (xA pb 64) (i + 1)).1)) b0, .slice oa on oc] 175) :: (rC b5 #[i64 0, yA, yA] 175) :: R) := by rw [← f0]; exact x0
  have z0 : ((NC n gs (xA pa 64) (xA pb 64) i).2) ++ ([(FA n ((NC n gs (xA pa 64) (xA pb 64) i).1))]) = (NC n gs (xA pa 64) (xA pb 64) (i + 1)).2 := by rfl
  have i0 := w0
  have j0 := y0
  rw [z0] at i0 j0
  exact ⟨(i + 1, a0, b0, c0, d0, s0, e0), _, rfl, ⟨rfl, rfl, rfl, rfl, rfl, congrArg (fun q => Value.slice _ q _) om, congrArg i64 om, trivial⟩, ⟨⟨om, h0, i0⟩, (j0.dropk 0)⟩, vd⟩
 ·have hie : i = 64 := by omega
  refine go 3 ?_
  intro P0 A0 Q0
  refine go 1 ?_
  subst hie
  exact ⟨_, rfl, kz, cz, sz, ko, co, so, rfl, hSz, hSo, ((A0.dropk 3).dropk 2)⟩
end Go.Proofs.YtohngnahcgbfmaaGreatDoor.Cm
namespace Go.Proofs.YtohngnahcgbfmaaGreatDoor.Cm
open Go Vc Er Circ
theorem dR (n : Nat) (key : Option Nat) (c : Nat) (sp : LV) (gs : List Gt) (hSw : Sl EG key gs c sp) (hn : n ≤ 1000) (hlen : gs.length ≤ 3000) (oa : Option Addr) (on oc : Nat) (pa pb : Nat) (hpa : pa ≤ 1000) (hpb : pb ≤ 1000) (R : List RW) (w₀ w : World) (H : Hp No w₀ w ((key, qA EG 210 gs sp) :: R)) : Ca 82 [.agg #[iN n, sO key (List.length gs) c, .slice oa on oc], i64 ((pa : Nat) : Int), i64 ((pb : Nat) : Int), .bool false] w fun v w' => ∃ (key' : Option Nat) (c' : Nat) (sp' : LV) (ko : Option Nat) (co : Nat) (so : LV), v = .tuple #[.agg #[iN n, sO key' (List.length ((dD n gs (xA pa 64) (xA pb 64) 64).1)) c', .slice oa on oc], sO ko 64 co] ∧ Sl EG key' ((dD n gs (xA pa 64) (xA pb 64) 64).1) c' sp' ∧ Sl EI ko ((dD n gs (xA pa 64) (xA pb 64) 64).2.1) co so ∧ Hp No w₀ w' ((key', qA EG 210 ((dD n gs (xA pa 64) (xA pb 64) 64).1) sp') :: (ko, qA EI 3 ((dD n gs (xA pa 64) (xA pb 64) 64).2.1) so) :: R) := by
 let x2 : Array Value := #[i64 0, yA, yA]
 skip
 refine enter (n := 70) Tryz.func82 rfl rfl (dB rfl) ?_
 refine go 1 ?_
 intro b1 w2 I1 H3 J1
 refine go 1 ?_
 intro b5 w6 K1 H7 L1
 refine go 2 ?_
 have H9 := H7.nil (qA EI 3 [] [])
 refine go 2 ?_
 refine AA (σ := Nat × Option Nat × Nat × LV × Option Nat × Nat × LV) (fun (i, kz, cz, sz, ko, co, so) => [(1, iN pa), (2, iN pb), (3, .bool false), (4, pT b1), (8, pT b5), (10, sO ko i co), (11, i64 ((dD n gs (xA pa 64) (xA pb 64) i).2.2)), (12, iN i)]) (fun (i, kz, cz, sz, ko, co, so) w' => (i ≤ 64 ∧ Sl EG kz (dD n gs (xA pa 64) (xA pb 64) i).1 cz sz ∧ Sl EI ko (dD n gs (xA pa 64) (xA pb 64) i).2.1 co so) ∧ Hp No w₀ w' ((kz, qA EG 210 ((dD n gs (xA pa 64) (xA pb 64) i).1) sz) :: (ko, qA EI 3 ((dD n gs (xA pa 64) (xA pb 64) i).2.1) so) :: (rC b1 #[iN n, sO kz (List.length ((dD n gs (xA pa 64) (xA pb 64) i).1)) cz, .slice oa on oc] 175) :: (rC b5 x2 175) :: R)) (fun (i, kz, cz, sz, ko, co, so) => 64 - i) ((0, key, c, sp, none, 0, [])) ?_ ?_ ?_
 ·exact kp
 ·exact ⟨⟨om, hSw, Sl.none⟩, (H9.pk 4 [3, 0, 2, 1])⟩
 rintro ⟨i, kz, cz, sz, ko, co, so⟩ ρ P0 ⟨⟨hq, hSz, hSo⟩, HL⟩
 have hol := GS n gs (xA pa 64) (xA pb 64) i
 refine go 2 ?_
 refine iA (((i : Nat) : Int) < (64 : Int)) rfl (fun Q0 => ?_) (fun Q0 => ?_)
 ·refine go 4 ?_
  refine sq ((aB rfl rfl om).as (v' := i64 ((xA pa 64).getD i 0)) (by exact congrArg i64 (by rw [TE _ _ _ om]; omega))) ?_
  refine go 2 ?_
  refine sq ((aB rfl rfl om).as (v' := i64 ((xA pb 64).getD i 0)) (by exact congrArg i64 (by rw [TE _ _ _ om]; omega))) ?_
  have R0 := HL.b1 rfl
  refine cl (aC n kz cz sz ((dD n gs (xA pa 64) (xA pb 64) i).1) hSz hn om oa on oc (1 : Int) ((xA pa 64).getD i 0) ((xA pb 64).getD i 0) ((ko, qA EI 3 ((dD n gs (xA pa 64) (xA pb 64) i).2.1) so) :: (rC b1 #[iN n, sO kz (List.length ((dD n gs (xA pa 64) (xA pb 64) i).1)) cz, .slice oa on oc] 175) :: (rC b5 x2 175) :: R) w₀ P0 R0) ?_
  rintro _ M1 ⟨d0, a0, b0, k0, f0, rfl, l0, S0⟩
  have N1 := S0.b4 rfl
  refine go 4 ?_
  intro m0 n0 O1
  refine go 4 ?_
  refine iA (((i : Nat) : Int) = (0 : Int)) rfl (fun T0 => ?_) (fun T0 => ?_)
  ·obtain rfl : i = 0 := by omega
   refine go 1 ?_
   refine sq ((CA (v := iN pa) rfl).as (v' := i64 ((xA pa 64).getD 0 0)) (by exact congrArg i64 (by rw [TE _ _ _ om]; omega))) (sq ((CA (v := iN pb) rfl).as (v' := i64 ((xA pb 64).getD 0 0)) (by exact congrArg i64 (by rw [TE _ _ _ om]; omega))) ?_)
   have U0 := n0.as (L' := (_ :: ((ko, qA EI 3 ((dD n gs (xA pa 64) (xA pb 64) 0).2.1) so) :: (rC b1 #[iN n, sO a0 (List.length (((dD n gs (xA pa 64) (xA pb 64) 0).1) ++ [(⟨(1 : Int), (xA pa 64).getD 0 0, (xA pb 64).getD 0 0⟩ : Gt)])) b0, .slice oa on oc] 175) :: (rC b5 x2 175) :: R))) rfl
   refine cl (aC n a0 b0 k0 (((dD n gs (xA pa 64) (xA pb 64) 0).1) ++ [(⟨(1 : Int), (xA pa 64).getD 0 0, (xA pb 64).getD 0 0⟩ : Gt)]) l0 hn (by simp only [List.length_append, List.length_cons, List.length_nil]; omega) oa on oc (2 : Int) ((xA pa 64).getD 0 0) ((xA pb 64).getD 0 0) ((ko, qA EI 3 ((dD n gs (xA pa 64) (xA pb 64) 0).2.1) so) :: (rC b1 #[iN n, sO a0 (List.length (((dD n gs (xA pa 64) (xA pb 64) 0).1) ++ [(⟨(1 : Int), (xA pa 64).getD 0 0, (xA pb 64).getD 0 0⟩ : Gt)])) b0, .slice oa on oc] 175) :: (rC b5 x2 175) :: R) w₀ m0 U0) ?_
   rintro _ P1 ⟨Q1, h0, o0, p0, V0, rfl, W0, X0⟩
   have R1 := X0.b4 rfl
   refine go 4 ?_
   intro S1 T1 U1
   refine go 3 ?_
   refine bS (E := EI) (l := [d0]) fun Y0 V1 W1 X1 Y1 => ?_
   refine OD ?_
   refine ⟨by exact hol.2.symm, by rfl, om, ?_⟩
   intro q0 Z0 r0 c1 d1 Z1 e1
   refine go 4 ?_
   subst V0
   subst f0
   have s0 : ((dD n gs (xA pa 64) (xA pb 64) 0).1) ++ [(⟨(1 : Int), (xA pa 64).getD 0 0, (xA pb 64).getD 0 0⟩ : Gt)] ++ [(⟨(2 : Int), (xA pa 64).getD 0 0, (xA pb 64).getD 0 0⟩ : Gt)] = (dD n gs (xA pa 64) (xA pb 64) (0 + 1)).1 := by rfl
   have u0 := W0
   rw [s0] at u0
   have g1 : Hp No w₀ c1 (((some Y0), qA EI 3 ([(FA n ((dD n gs (xA pa 64) (xA pb 64) 0).1))]) ([])) :: (h0, qA EG 210 ((dD n gs (xA pa 64) (xA pb 64) (0 + 1)).1) p0) :: (q0, qA EI 3 (((dD n gs (xA pa 64) (xA pb 64) 0).2.1) ++ ([(FA n ((dD n gs (xA pa 64) (xA pb 64) 0).1))])) r0) :: (rC b1 #[iN n, sO h0 (List.length ((dD n gs (xA pa 64) (xA pb 64) (0 + 1)).1)) o0, .slice oa on oc] 175) :: (rC b5 x2 175) :: R) := by rw [← s0]; exact e1
   have h1 : ((dD n gs (xA pa 64) (xA pb 64) 0).2.1) ++ ([(FA n ((dD n gs (xA pa 64) (xA pb 64) 0).1))]) = (dD n gs (xA pa 64) (xA pb 64) (0 + 1)).2.1 := by rfl
   have w0 := d1
   have x0 := g1
   rw [h1] at w0 x0
   exact ⟨(0 + 1, h0, o0, p0, q0, Z0, r0), _, rfl, ⟨rfl, rfl, rfl, rfl, rfl, congrArg (fun q => Value.slice _ q _) om, congrArg i64 (by rfl), congrArg i64 om, trivial⟩, ⟨⟨om, u0, w0⟩, (x0.dropk 0)⟩, vd⟩
  ·obtain ⟨j, rfl⟩ : ∃ j, i = j + 1 := ⟨i - 1, by omega⟩
   let x1 : RW := (ko, qA EI 3 ((dD n gs (xA pa 64) (xA pb 64) (j + 1)).2.1) so)
   refine go 3 ?_
   have i1 := n0.as (L' := (_ :: (x1 :: (rC b1 #[iN n, sO a0 (List.length (((dD n gs (xA pa 64) (xA pb 64) (j + 1)).1) ++ [(⟨(1 : Int), (xA pa 64).getD (j + 1) 0, (xA pb 64).getD (j + 1) 0⟩ : Gt)])) b0, .slice oa on oc] 175) :: (rC b5 x2 175) :: R))) rfl
   refine cl (aC n a0 b0 k0 (((dD n gs (xA pa 64) (xA pb 64) (j + 1)).1) ++ [(⟨(1 : Int), (xA pa 64).getD (j + 1) 0, (xA pb 64).getD (j + 1) 0⟩ : Gt)]) l0 hn (by simp only [List.length_append, List.length_cons, List.length_nil]; omega) oa on oc (1 : Int) d0 ((dD n gs (xA pa 64) (xA pb 64) (j + 1)).2.2) (x1 :: (rC b1 #[iN n, sO a0 (List.length (((dD n gs (xA pa 64) (xA pb 64) (j + 1)).1) ++ [(⟨(1 : Int), (xA pa 64).getD (j + 1) 0, (xA pb 64).getD (j + 1) 0⟩ : Gt)])) b0, .slice oa on oc] 175) :: (rC b5 x2 175) :: R) w₀ m0 i1) ?_
   rintro _ c2 ⟨y0, c0, e0, i0, z0, rfl, A0, j1⟩
   have d2 := j1.b4 rfl
   refine go 4 ?_
   intro k1 l1 e2
   refine go 3 ?_
   refine iA ((((j + 1) : Nat) : Int) < (63 : Int)) rfl (fun m1 => ?_) (fun m1 => ?_)
   ·refine go 3 ?_
    refine sq ((aB rfl rfl om).as (v' := i64 ((xA pa 64).getD (j + 1) 0)) (by exact congrArg i64 (by rw [TE _ _ _ om]; omega))) ?_
    refine go 2 ?_
    refine sq ((aB rfl rfl om).as (v' := i64 ((xA pb 64).getD (j + 1) 0)) (by exact congrArg i64 (by rw [TE _ _ _ om]; omega))) ?_
    refine go 1 ?_
    have n1 := l1.as (L' := (_ :: (x1 :: (rC b1 #[iN n, sO c0 (List.length (((dD n gs (xA pa 64) (xA pb 64) (j + 1)).1) ++ [(⟨(1 : Int), (xA pa 64).getD (j + 1) 0, (xA pb 64).getD (j + 1) 0⟩ : Gt)] ++ [(⟨(1 : Int), d0, (dD n gs (xA pa 64) (xA pb 64) (j + 1)).2.2⟩ : Gt)])) e0, .slice oa on oc] 175) :: (rC b5 x2 175) :: R))) rfl
    refine cl (TG n c0 e0 i0 (((dD n gs (xA pa 64) (xA pb 64) (j + 1)).1) ++ [(⟨(1 : Int), (xA pa 64).getD (j + 1) 0, (xA pb 64).getD (j + 1) 0⟩ : Gt)] ++ [(⟨(1 : Int), d0, (dD n gs (xA pa 64) (xA pb 64) (j + 1)).2.2⟩ : Gt)]) A0 hn (by simp only [List.length_append, List.length_cons, List.length_nil]; omega) oa on oc ((xA pa 64).getD (j + 1) 0) ((xA pb 64).getD (j + 1) 0) ((dD n gs (xA pa 64) (xA pb 64) (j + 1)).2.2) (x1 :: (rC b1 #[iN n, sO c0 (List.length (((dD n gs (xA pa 64) (xA pb 64) (j + 1)).1) ++ [(⟨(1 : Int), (xA pa 64).getD (j + 1) 0, (xA pb 64).getD (j + 1) 0⟩ : Gt)] ++ [(⟨(1 : Int), d0, (dD n gs (xA pa 64) (xA pb 64) (j + 1)).2.2⟩ : Gt)])) e0, .slice oa on oc] 175) :: (rC b5 x2 175) :: R) w₀ k1 n1) ?_
    rintro _ f2 ⟨g2, j0, B0, C0, o1, rfl, p1, q1⟩
    have h2 := q1.b4 rfl
    refine go 4 ?_
    intro i2 j2 k2
    refine go 3 ?_
    refine bS (E := EI) (l := [y0]) fun r1 l2 m2 n2 o2 => ?_
    refine OD ?_
    refine ⟨by exact hol.2.symm, by rfl, om, ?_⟩
    intro D0 s1 E0 t1 u1 p2 w1
    refine go 4 ?_
    subst o1
    subst z0
    subst f0
    have F0 : mE n (((dD n gs (xA pa 64) (xA pb 64) (j + 1)).1) ++ [(⟨(1 : Int), (xA pa 64).getD (j + 1) 0, (xA pb 64).getD (j + 1) 0⟩ : Gt)] ++ [(⟨(1 : Int), (FA n ((dD n gs (xA pa 64) (xA pb 64) (j + 1)).1)), (dD n gs (xA pa 64) (xA pb 64) (j + 1)).2.2⟩ : Gt)]) ((xA pa 64).getD (j + 1) 0) ((xA pb 64).getD (j + 1) 0) ((dD n gs (xA pa 64) (xA pb 64) (j + 1)).2.2) = (dD n gs (xA pa 64) (xA pb 64) (j + 1 + 1)).1 := by show _ = (gB n gs (xA pa 64) (xA pb 64) (j + 1)).1; rw [gB, if_pos om] <;> rfl
    have G0 := p1
    rw [F0] at G0
    have y1 : Hp No w₀ t1 (((some r1), qA EI 3 ([(FA n (((dD n gs (xA pa 64) (xA pb 64) (j + 1)).1) ++ [(⟨(1 : Int), (xA pa 64).getD (j + 1) 0, (xA pb 64).getD (j + 1) 0⟩ : Gt)]))]) ([])) :: (j0, qA EG 210 ((dD n gs (xA pa 64) (xA pb 64) (j + 1 + 1)).1) C0) :: (D0, qA EI 3 (((dD n gs (xA pa 64) (xA pb 64) (j + 1)).2.1) ++ ([(FA n (((dD n gs (xA pa 64) (xA pb 64) (j + 1)).1) ++ [(⟨(1 : Int), (xA pa 64).getD (j + 1) 0, (xA pb 64).getD (j + 1) 0⟩ : Gt)]))])) E0) :: (rC b1 #[iN n, sO j0 (List.length ((dD n gs (xA pa 64) (xA pb 64) (j + 1 + 1)).1)) B0, .slice oa on oc] 175) :: (rC b5 x2 175) :: R) := by rw [← F0]; exact w1
    have z1 : ((dD n gs (xA pa 64) (xA pb 64) (j + 1)).2.1) ++ ([(FA n (((dD n gs (xA pa 64) (xA pb 64) (j + 1)).1) ++ [(⟨(1 : Int), (xA pa 64).getD (j + 1) 0, (xA pb 64).getD (j + 1) 0⟩ : Gt)]))]) = (dD n gs (xA pa 64) (xA pb 64) (j + 1 + 1)).2.1 := by show _ = (gB n gs (xA pa 64) (xA pb 64) (j + 1)).2.1; rw [gB, if_pos om] <;> rfl
    have H0 := u1
    have I0 := y1
    rw [z1] at H0 I0
    exact ⟨(j + 1 + 1, j0, B0, C0, D0, s1, E0), _, rfl, ⟨rfl, rfl, rfl, rfl, rfl, congrArg (fun q => Value.slice _ q _) om, congrArg i64 (by show _ = (gB n gs (xA pa 64) (xA pb 64) (j + 1)).2.2; rw [gB, if_pos om] <;> rfl), congrArg i64 om, trivial⟩, ⟨⟨om, G0, H0⟩, (I0.dropk 0)⟩, vd⟩
   ·refine go 2 ?_
    refine bS (E := EI) (l := [y0]) fun A1 q2 r2 s2 t2 => ?_
    refine OD ?_
    refine ⟨by exact hol.2.symm, by rfl, om, ?_⟩
    intro J0 B1 K0 C1 D1 u2 E1
    refine go 4 ?_
    subst z0
    subst f0
    have L0 : ((dD n gs (xA pa 64) (xA pb 64) (j + 1)).1) ++ [(⟨(1 : Int), (xA pa 64).getD (j + 1) 0, (xA pb 64).getD (j + 1) 0⟩ : Gt)] ++ [(⟨(1 : Int), (FA n ((dD n gs (xA pa 64) (xA pb 64) (j + 1)).1)), (dD n gs (xA pa 64) (xA pb 64) (j + 1)).2.2⟩ : Gt)] = (dD n gs (xA pa 64) (xA pb 64) (j + 1 + 1)).1 := by show _ = (gB n gs (xA pa 64) (xA pb 64) (j + 1)).1; rw [gB, if_neg om] <;> rfl
    have M0 := A0
    rw [L0] at M0
    have F1 : Hp No w₀ C1 (((some A1), qA EI 3 ([(FA n (((dD n gs (xA pa 64) (xA pb 64) (j + 1)).1) ++ [(⟨(1 : Int), (xA pa 64).getD (j + 1) 0, (xA pb 64).getD (j + 1) 0⟩ : Gt)]))]) ([])) :: (c0, qA EG 210 ((dD n gs (xA pa 64) (xA pb 64) (j + 1 + 1)).1) i0) :: (J0, qA EI 3 (((dD n gs (xA pa 64) (xA pb 64) (j + 1)).2.1) ++ ([(FA n (((dD n gs (xA pa 64) (xA pb 64) (j + 1)).1) ++ [(⟨(1 : Int), (xA pa 64).getD (j + 1) 0, (xA pb 64).getD (j + 1) 0⟩ : Gt)]))])) K0) :: (rC b1 #[iN n, sO c0 (List.length ((dD n gs (xA pa 64) (xA pb 64) (j + 1 + 1)).1)) e0, .slice oa on oc] 175) :: (rC b5 x2 175) :: R) := by rw [← L0]; exact E1
    have G1 : ((dD n gs (xA pa 64) (xA pb 64) (j + 1)).2.1) ++ ([(FA n (((dD n gs (xA pa 64) (xA pb 64) (j + 1)).1) ++ [(⟨(1 : Int), (xA pa 64).getD (j + 1) 0, (xA pb 64).getD (j + 1) 0⟩ : Gt)]))]) = (dD n gs (xA pa 64) (xA pb 64) (j + 1 + 1)).2.1 := by show _ = (gB n gs (xA pa 64) (xA pb 64) (j + 1)).2.1; rw [gB, if_neg om] <;> rfl
    have N0 := D1
    have O0 := F1
    rw [G1] at N0 O0
    exact ⟨(j + 1 + 1, c0, e0, i0, J0, B1, K0), _, rfl, ⟨rfl, rfl, rfl, rfl, rfl, congrArg (fun q => Value.slice _ q _) om, congrArg i64 (by show _ = (gB n gs (xA pa 64) (xA pb 64) (j + 1)).2.2; rw [gB, if_neg om] <;> rfl), congrArg i64 om, trivial⟩, ⟨⟨om, M0, N0⟩, (O0.dropk 0)⟩, vd⟩
 ·have hie : i = 64 := by omega
  refine go 3 ?_
  intro y2 H1 z2
  refine go 1 ?_
  subst hie
  exact ⟨_, rfl, kz, cz, sz, ko, co, so, rfl, hSz, hSo, ((H1.dropk 3).dropk 2)⟩
theorem TH (n : Nat) (key : Option Nat) (c : Nat) (sp : LV) (gs : List Gt) (hSw : Sl EG key gs c sp) (hn : n ≤ 1000) (hlen : gs.length ≤ 3000) (oa : Option Addr) (on oc : Nat) (pa pb : Nat) (hpa : pa ≤ 1000) (hpb : pb ≤ 1000) (x : Bool) (R : List RW) (w₀ w : World) (H : Hp No w₀ w ((key, qA EG 210 gs sp) :: R)) : Ca 82 [.agg #[iN n, sO key (List.length gs) c, .slice oa on oc], i64 ((pa : Nat) : Int), i64 ((pb : Nat) : Int), .bool x] w fun v w' => ∃ (key' : Option Nat) (c' : Nat) (sp' : LV) (ko : Option Nat) (co : Nat) (so : LV), v = .tuple #[.agg #[iN n, sO key' (List.length ((WC n gs pa pb x).1)) c', .slice oa on oc], sO ko 64 co] ∧ Sl EG key' ((WC n gs pa pb x).1) c' sp' ∧ Sl EI ko ((WC n gs pa pb x).2) co so ∧ Hp No w₀ w' ((key', qA EG 210 ((WC n gs pa pb x).1) sp') :: (ko, qA EI 3 ((WC n gs pa pb x).2) so) :: R) := by
 cases x
 ·exact dR n key c sp gs hSw hn hlen oa on oc pa pb hpa hpb R w₀ w H
 ·exact cR n key c sp gs hSw hn hlen oa on oc pa pb hpa hpb R w₀ w H
end Go.Proofs.YtohngnahcgbfmaaGreatDoor.Cm
namespace Go.Proofs.YtohngnahcgbfmaaGreatDoor.Cm
open Go Vc Er Circ
theorem rK (n : Nat) (key : Option Nat) (c : Nat) (sp : LV) (gs : List Gt) (hSw : Sl EG key gs c sp) (hn : n ≤ 1000) (hlen : gs.length ≤ 3000) (oa : Option Addr) (on oc : Nat) (ra rb : List Int) (hra : ra.length = 64) (hrb : rb.length = 64) (aa ab : Option Addr) (ca cb : Nat) (R : List RW) (w₀ w : World) (hA : (∀ w', Ext w₀ w' → (∀ p ∈ R, ∀ b, p.1 = some b → w'.heap[b]? = some p.2) → Rd EI w' aa ra)) (hB : (∀ w', Ext w₀ w' → (∀ p ∈ R, ∀ b, p.1 = some b → w'.heap[b]? = some p.2) → Rd EI w' ab rb)) (H : Hp No w₀ w ((key, qA EG 210 gs sp) :: R)) : Ca 84 [.agg #[iN n, sO key (List.length gs) c, .slice oa on oc], .slice aa 64 ca, .slice ab 64 cb] w fun v w' => ∃ (wx : Int) (key' : Option Nat) (c' : Nat) (sp' : LV), wx = (cC n gs ra rb).2 ∧ v = .tuple #[.agg #[iN n, sO key' (List.length ((cC n gs ra rb).1)) c', .slice oa on oc], i64 wx] ∧ Sl EG key' ((cC n gs ra rb).1) c' sp' ∧ Hp No w₀ w' ((key', qA EG 210 ((cC n gs ra rb).1) sp') :: R) := by
 let x4 : Array Value := #[iN n, sO key (List.length gs) c, .slice oa on oc]
 let x1 : Array Value := #[i64 0, yA, yA]
 skip
 refine enter (n := 69) Tryz.func84 rfl rfl (dB rfl) ?_
 refine go 1 ?_
 intro b1 w2 A3 H3 B3
 refine go 1 ?_
 intro b5 w6 C3 H7 D3
 let x3 := (rC b5 x1 175) :: R
 refine go 1 ?_
 have N1 := (H7.pk 3 [1, 2, 0])
 let N0 : List RW := x3
 let o1 := ((rC b1 x4 175) : RW)
 let O1 : mC := [nC false false fun _ _ w' => Hp No w₀ w' (o1 :: (key, qA EG 210 gs sp) :: N0), nC true false fun v4 _ w' => ∃ f0 n0 s0 u0, v4 = .tuple #[.agg #[iN n, sO f0 (List.length (gs ++ [(⟨(3 : Int), ra.getD 0 0, (0 : Int)⟩ : Gt)])) n0, .slice oa on oc], i64 u0] ∧ Sl EG f0 (gs ++ [(⟨(3 : Int), ra.getD 0 0, (0 : Int)⟩ : Gt)]) n0 s0 ∧ u0 = FA n gs ∧ Hp No w₀ w' ((f0, qA EG 210 (gs ++ [(⟨(3 : Int), ra.getD 0 0, (0 : Int)⟩ : Gt)]) s0) :: o1 :: N0), nC true true fun v4 _ w' => ∃ f0 n0 s0 u0, v4 = .tuple #[.agg #[iN n, sO f0 (List.length (gs ++ [(⟨(3 : Int), ra.getD 0 0, (0 : Int)⟩ : Gt)])) n0, .slice oa on oc], i64 u0] ∧ Sl EG f0 (gs ++ [(⟨(3 : Int), ra.getD 0 0, (0 : Int)⟩ : Gt)]) n0 s0 ∧ u0 = FA n gs ∧ Hp No w₀ w' ((f0, qA EG 210 (gs ++ [(⟨(3 : Int), ra.getD 0 0, (0 : Int)⟩ : Gt)]) s0) :: (rC b1 #[iN n, sO f0 (List.length (gs ++ [(⟨(3 : Int), ra.getD 0 0, (0 : Int)⟩ : Gt)])) n0, .slice oa on oc] 175) :: N0)]
 refine MA (m := 10) [0, 0, 2, 6, 15, 31, 63, 63, 127, 511] [4, 8] N0 O1 BA (fun _ e => N1.ext e) EC (fun p1 => ?_)
 refine gk 2 ?_
 refine ZB (.pointer (oC aa (0 * 1))) (fun _ uw hcx => TC (E := EI) (l := ra) (j := 0) vF (hA _ hcx.chg (fun p hp => hcx.has p (List.mem_cons_of_mem _ hp))) rfl rfl vo (by exact hra.symm) om) (ZB (i64 (ra.getD 0 0)) (fun _ uw hcx => AD (E := EI) (l := ra) (j := 0) (v := ra.getD 0 0) OC (hA _ hcx.chg (fun p hp => hcx.has p (List.mem_cons_of_mem _ hp))) rfl rfl (QA om)) (WalkT.eff p1 0 ?_ ?_))
 ·refine tA fun r w0 uw hF hE => ?_
  have P1 := hF.ext hE
  refine gW fun Q' hK => ?_
  have Q1 := ((P1.pk 3 [1, 0, 2])).b1 rfl
  refine cl (aC n key c sp gs hSw hn om oa on oc (3 : Int) (ra.getD 0 0) (0 : Int) ((rC b1 x4 175) :: (rC b5 x1 175) :: R) w₀ uw Q1) ?_
  rintro _ E3 ⟨R1, S1, T1, U1, V1, rfl, W1, X1⟩
  have Y1 := X1.b3 rfl
  exact hK _ _ (E_ S1 (E_ T1 (E_ U1 (E_ R1 (A_ rfl (A_ W1 (A_ V1 Y1)))))))
 refine bA (fun r => r 4) (fun r r' h => h 4 (by decide) rfl) (fun _ _ => CA rfl) (aA (fun r => AB (r 4) 0) (fun r r' h => by rw [h 4 (by decide) rfl]) ?_ ?_)
 ·refine tA fun r w0 uw hF hE => ?_
  obtain ⟨f0, n0, s0, u0, e4, G0, H0, HH⟩ := hF
  replace HH := HH.ext hE
  dsimp only
  rw [e4]
  exact xC
 refine aA (fun r => AB (r 4) 1) (fun r r' h => by rw [h 4 (by decide) rfl]) ?_ ?_
 ·refine tB (fun r w0 uw hF hE => ?_) fun r w0 uw hF hE => ?_
  ·obtain ⟨f0, n0, s0, u0, e4, G0, H0, HH⟩ := hF
   replace HH := HH.ext hE
   dsimp only
   rw [e4]
   exact xC
  ·obtain ⟨f0, n0, s0, u0, e4, G0, H0, HH⟩ := hF
   replace HH := HH.ext hE
   dsimp only
   rw [e4]
   exact xC
 refine WalkT.eff p1 1 ?_ ?_
 ·refine tA fun r w0 uw hF hE => ?_
  obtain ⟨f0, n0, s0, u0, e4, G0, H0, q1⟩ := hF
  replace q1 := q1.ext hE
  dsimp only
  rw [e4]
  refine MC fun Q' hK => ?_
  refine go 1 ?_
  intro F3 Z1 G3
  exact hK _ (fun _ => (E_ f0 (E_ n0 (E_ s0 (E_ u0 (A_ e4 (A_ G0 (A_ H0 Z1))))))))
 refine bA (fun r => AB (r 4) 1) (fun r r' h => by rw [h 4 (by decide) rfl]) (fun _ _ => zA rfl) (WalkT.nil fun r w0 I3 hF hE => ?_)
 obtain ⟨f0, n0, s0, u0, e4, G0, H0, U0⟩ := hF
 replace U0 := U0.ext hE
 dsimp only
 rw [e4]
 dsimp only [N0] at U0
 subst H0
 refine go 0 ?_
 let O0 : List RW := x3
 let c1 := fun (c0 : Option Nat) (j0 : LV) => ((c0, qA EG 210 (gs ++ [(⟨(3 : Int), ra.getD 0 0, (0 : Int)⟩ : Gt)] ++ [(⟨(2 : Int), (FA n gs), rb.getD 0 0⟩ : Gt)]) j0) : RW)
 let r1 := ((rC b1 #[iN n, sO f0 (List.length (gs ++ [(⟨(3 : Int), ra.getD 0 0, (0 : Int)⟩ : Gt)])) n0, .slice oa on oc] 175) : RW)
 let d1 := fun (c0 : Option Nat) (o0 : Nat) (j0 : LV) => (Sl EG c0 (gs ++ [(⟨(3 : Int), ra.getD 0 0, (0 : Int)⟩ : Gt)] ++ [(⟨(2 : Int), (FA n gs), rb.getD 0 0⟩ : Gt)]) o0 j0 : Prop)
 let c2 : mC := [nC false false fun _ _ w' => Hp No w₀ w' ((f0, qA EG 210 (gs ++ [(⟨(3 : Int), ra.getD 0 0, (0 : Int)⟩ : Gt)]) s0) :: r1 :: O0), nC true false fun v5 _ w' => ∃ c0 o0 j0 x0, v5 = .tuple #[.agg #[iN n, sO c0 (List.length (gs ++ [(⟨(3 : Int), ra.getD 0 0, (0 : Int)⟩ : Gt)] ++ [(⟨(2 : Int), (FA n gs), rb.getD 0 0⟩ : Gt)])) o0, .slice oa on oc], i64 x0] ∧ (d1 c0 o0 j0) ∧ x0 = FA n (gs ++ [(⟨(3 : Int), ra.getD 0 0, (0 : Int)⟩ : Gt)]) ∧ Hp No w₀ w' ((c1 c0 j0) :: r1 :: O0), nC true true fun v5 _ w' => ∃ c0 o0 j0 x0, v5 = .tuple #[.agg #[iN n, sO c0 (List.length (gs ++ [(⟨(3 : Int), ra.getD 0 0, (0 : Int)⟩ : Gt)] ++ [(⟨(2 : Int), (FA n gs), rb.getD 0 0⟩ : Gt)])) o0, .slice oa on oc], i64 x0] ∧ (d1 c0 o0 j0) ∧ x0 = FA n (gs ++ [(⟨(3 : Int), ra.getD 0 0, (0 : Int)⟩ : Gt)]) ∧ Hp No w₀ w' ((c1 c0 j0) :: (rC b1 #[iN n, sO c0 (List.length (gs ++ [(⟨(3 : Int), ra.getD 0 0, (0 : Int)⟩ : Gt)] ++ [(⟨(2 : Int), (FA n gs), rb.getD 0 0⟩ : Gt)])) o0, .slice oa on oc] 175) :: O0)]
 refine MA (m := 11) [0, 0, 0, 4, 12, 31, 63, 127, 127, 255, 1023] [5, 9] O0 c2 BA (fun _ e => U0.ext e) EC (fun s1 => ?_)
 refine gk 3 ?_
 refine ZB (.pointer (oC ab (0 * 1))) (fun _ uw hcx => TC (E := EI) (l := rb) (j := 0) vF (hB _ hcx.chg (fun p hp => hcx.has p (List.mem_cons_of_mem _ hp))) rfl rfl vo (by exact hrb.symm) om) (ZB (i64 (rb.getD 0 0)) (fun _ uw hcx => AD (E := EI) (l := rb) (j := 0) (v := rb.getD 0 0) OC (hB _ hcx.chg (fun p hp => hcx.has p (List.mem_cons_of_mem _ hp))) rfl rfl (QA om)) (WalkT.eff s1 0 ?_ ?_))
 ·refine tA fun r w0 uw hF hE => ?_
  have d2 := hF.ext hE
  refine gW fun Q' hK => ?_
  have e2 := d2.as (L' := (_ :: ((rC b1 #[iN n, sO f0 (List.length (gs ++ [(⟨(3 : Int), ra.getD 0 0, (0 : Int)⟩ : Gt)])) n0, .slice oa on oc] 175) :: (rC b5 x1 175) :: R))) rfl
  refine cl (aC n f0 n0 s0 (gs ++ [(⟨(3 : Int), ra.getD 0 0, (0 : Int)⟩ : Gt)]) G0 hn (by simp only [List.length_append, List.length_cons, List.length_nil]; omega) oa on oc (2 : Int) (FA n gs) (rb.getD 0 0) ((rC b1 #[iN n, sO f0 (List.length (gs ++ [(⟨(3 : Int), ra.getD 0 0, (0 : Int)⟩ : Gt)])) n0, .slice oa on oc] 175) :: (rC b5 x1 175) :: R) w₀ uw e2) ?_
  rintro _ J3 ⟨f2, g2, h2, i2, j2, rfl, k2, l2⟩
  have m2 := l2.b3 rfl
  exact hK _ _ (E_ g2 (E_ h2 (E_ i2 (E_ f2 (A_ rfl (A_ k2 (A_ j2 m2)))))))
 refine bA (fun r => r 5) (fun r r' h => h 5 (by decide) rfl) (fun _ _ => CA rfl) (aA (fun r => AB (r 5) 0) (fun r r' h => by rw [h 5 (by decide) rfl]) ?_ ?_)
 ·refine tA fun r w0 uw hF hE => ?_
  obtain ⟨c0, o0, j0, x0, e5, C0, I0, HH⟩ := hF
  replace HH := HH.ext hE
  dsimp only
  rw [e5]
  exact xC
 refine aA (fun r => AB (r 5) 1) (fun r r' h => by rw [h 5 (by decide) rfl]) ?_ ?_
 ·refine tB (fun r w0 uw hF hE => ?_) fun r w0 uw hF hE => ?_
  ·obtain ⟨c0, o0, j0, x0, e5, C0, I0, HH⟩ := hF
   replace HH := HH.ext hE
   dsimp only
   rw [e5]
   exact xC
  ·obtain ⟨c0, o0, j0, x0, e5, C0, I0, HH⟩ := hF
   replace HH := HH.ext hE
   dsimp only
   rw [e5]
   exact xC
 refine WalkT.eff s1 1 ?_ ?_
 ·refine tA fun r w0 uw hF hE => ?_
  obtain ⟨c0, o0, j0, x0, e5, C0, I0, t1⟩ := hF
  replace t1 := t1.ext hE
  dsimp only
  rw [e5]
  refine MC fun Q' hK => ?_
  refine go 1 ?_
  intro K3 n2 L3
  exact hK _ (fun _ => (E_ c0 (E_ o0 (E_ j0 (E_ x0 (A_ e5 (A_ C0 (A_ I0 n2))))))))
 refine bA (fun r => AB (r 5) 1) (fun r r' h => by rw [h 5 (by decide) rfl]) (fun _ _ => zA rfl) (WalkT.nil fun r w0 o2 hF hE => ?_)
 obtain ⟨c0, o0, j0, x0, e5, C0, I0, V0⟩ := hF
 replace V0 := V0.ext hE
 dsimp only
 rw [e5]
 dsimp only [d1] at C0
 dsimp only [O0, c1] at V0
 subst I0
 have u1 : gs ++ [(⟨(3 : Int), ra.getD 0 0, (0 : Int)⟩ : Gt)] ++ [(⟨(2 : Int), (FA n gs), rb.getD 0 0⟩ : Gt)] = (jB n gs ra rb 0).1 := by rfl
 have w1 := C0
 rw [u1] at w1
 have p2 : Hp No w₀ o2 ((c0, qA EG 210 ((jB n gs ra rb 0).1) j0) :: (rC b1 #[iN n, sO c0 (List.length ((jB n gs ra rb 0).1)) o0, .slice oa on oc] 175) :: (rC b5 x1 175) :: R) := by rw [← u1]; exact V0
 refine go 1 ?_
 refine AA (σ := Nat × Option Nat × Nat × LV) (fun (i, kz, cz, sz) => [(1, .slice aa 64 ca), (2, .slice ab 64 cb), (3, pT b1), (6, pT b5), (9, i64 ((jB n gs ra rb i).2)), (10, iN (i + 1))]) (fun (i, kz, cz, sz) w' => (i ≤ 62 ∧ Sl EG kz (jB n gs ra rb i).1 cz sz) ∧ Hp No w₀ w' ((kz, qA EG 210 ((jB n gs ra rb i).1) sz) :: (rC b1 #[iN n, sO kz (List.length ((jB n gs ra rb i).1)) cz, .slice oa on oc] 175) :: (rC b5 x1 175) :: R)) (fun (i, kz, cz, sz) => 62 - i) ((0, c0, o0, j0)) ?_ ?_ ?_
 ·exact kp
 ·exact ⟨⟨om, w1⟩, p2⟩
 rintro ⟨i, kz, cz, sz⟩ ρ M3 ⟨⟨hq, hSz⟩, HL⟩
 let x2 : Array Value := #[iN n, sO kz (List.length ((jB n gs ra rb i).1)) cz, .slice oa on oc]
 have hll := MJ n gs ra rb i
 refine go 2 ?_
 refine iA ((((i + 1) : Nat) : Int) < (63 : Int)) rfl (fun q2 => ?_) (fun q2 => ?_)
 ·refine go 0 ?_
  let P0 : List RW := x3
  let e1 := fun (b0 : Option Nat) (k0 : LV) => ((b0, qA EG 210 (((jB n gs ra rb i).1) ++ [(⟨(3 : Int), ra.getD (i + 1) 0, (0 : Int)⟩ : Gt)]) k0) : RW)
  let y1 := ((rC b1 x2 175) : RW)
  let g1 := fun (b0 : Option Nat) (i0 : Nat) (k0 : LV) => (Sl EG b0 (((jB n gs ra rb i).1) ++ [(⟨(3 : Int), ra.getD (i + 1) 0, (0 : Int)⟩ : Gt)]) i0 k0 : Prop)
  let r2 : mC := [nC false false fun _ _ w' => Hp No w₀ w' ((kz, qA EG 210 ((jB n gs ra rb i).1) sz) :: y1 :: P0), nC true false fun v5 _ w' => ∃ b0 i0 k0 y0, v5 = .tuple #[.agg #[iN n, sO b0 (List.length (((jB n gs ra rb i).1) ++ [(⟨(3 : Int), ra.getD (i + 1) 0, (0 : Int)⟩ : Gt)])) i0, .slice oa on oc], i64 y0] ∧ (g1 b0 i0 k0) ∧ y0 = FA n ((jB n gs ra rb i).1) ∧ Hp No w₀ w' ((e1 b0 k0) :: y1 :: P0), nC true true fun v5 _ w' => ∃ b0 i0 k0 y0, v5 = .tuple #[.agg #[iN n, sO b0 (List.length (((jB n gs ra rb i).1) ++ [(⟨(3 : Int), ra.getD (i + 1) 0, (0 : Int)⟩ : Gt)])) i0, .slice oa on oc], i64 y0] ∧ (g1 b0 i0 k0) ∧ y0 = FA n ((jB n gs ra rb i).1) ∧ Hp No w₀ w' ((e1 b0 k0) :: (rC b1 #[iN n, sO b0 (List.length (((jB n gs ra rb i).1) ++ [(⟨(3 : Int), ra.getD (i + 1) 0, (0 : Int)⟩ : Gt)])) i0, .slice oa on oc] 175) :: P0)]
  refine MA (m := 11) [0, 0, 0, 6, 14, 31, 63, 127, 127, 255, 1023] [5, 9] P0 r2 BA (fun _ e => HL.ext e) EC (fun z1 => ?_)
  refine gk 3 ?_
  refine ZB (.pointer (oC aa ((i + 1) * 1))) (fun _ uw hcx => TC (E := EI) (l := ra) (j := (i + 1)) vF (hA _ hcx.chg (fun p hp => hcx.has p (List.mem_cons_of_mem _ hp))) rfl rfl vo (by exact hra.symm) om) (ZB (i64 (ra.getD (i + 1) 0)) (fun _ uw hcx => AD (E := EI) (l := ra) (j := (i + 1)) (v := ra.getD (i + 1) 0) OC (hA _ hcx.chg (fun p hp => hcx.has p (List.mem_cons_of_mem _ hp))) rfl rfl (QA om)) (WalkT.eff z1 0 ?_ ?_))
  ·refine tA fun r w0 uw hF hE => ?_
   have s2 := hF.ext hE
   refine gW fun Q' hK => ?_
   have t2 := s2.b1 rfl
   refine cl (aC n kz cz sz ((jB n gs ra rb i).1) hSz hn om oa on oc (3 : Int) (ra.getD (i + 1) 0) (0 : Int) ((rC b1 x2 175) :: (rC b5 x1 175) :: R) w₀ uw t2) ?_
   rintro _ N3 ⟨u2, y2, z2, A2, B2, rfl, C2, D2⟩
   have E2 := D2.b3 rfl
   exact hK _ _ (E_ y2 (E_ z2 (E_ A2 (E_ u2 (A_ rfl (A_ C2 (A_ B2 E2)))))))
  refine bA (fun r => r 5) (fun r r' h => h 5 (by decide) rfl) (fun _ _ => CA rfl) (aA (fun r => AB (r 5) 0) (fun r r' h => by rw [h 5 (by decide) rfl]) ?_ ?_)
  ·refine tA fun r w0 uw hF hE => ?_
   obtain ⟨b0, i0, k0, y0, e5, D0, J0, HH⟩ := hF
   replace HH := HH.ext hE
   dsimp only
   rw [e5]
   exact xC
  refine aA (fun r => AB (r 5) 1) (fun r r' h => by rw [h 5 (by decide) rfl]) ?_ ?_
  ·refine tB (fun r w0 uw hF hE => ?_) fun r w0 uw hF hE => ?_
   ·obtain ⟨b0, i0, k0, y0, e5, D0, J0, HH⟩ := hF
    replace HH := HH.ext hE
    dsimp only
    rw [e5]
    exact xC
   ·obtain ⟨b0, i0, k0, y0, e5, D0, J0, HH⟩ := hF
    replace HH := HH.ext hE
    dsimp only
    rw [e5]
    exact xC
  refine WalkT.eff z1 1 ?_ ?_
  ·refine tA fun r w0 uw hF hE => ?_
   obtain ⟨b0, i0, k0, y0, e5, D0, J0, A1⟩ := hF
   replace A1 := A1.ext hE
   dsimp only
   rw [e5]
   refine MC fun Q' hK => ?_
   refine go 1 ?_
   intro O3 F2 P3
   exact hK _ (fun _ => (E_ b0 (E_ i0 (E_ k0 (E_ y0 (A_ e5 (A_ D0 (A_ J0 F2))))))))
  refine bA (fun r => AB (r 5) 1) (fun r r' h => by rw [h 5 (by decide) rfl]) (fun _ _ => zA rfl) (WalkT.nil fun r w0 Q3 hF hE => ?_)
  obtain ⟨b0, i0, k0, y0, e5, D0, J0, W0⟩ := hF
  replace W0 := W0.ext hE
  dsimp only
  rw [e5]
  dsimp only [g1] at D0
  dsimp only [P0, e1] at W0
  subst J0
  refine go 0 ?_
  let Q0 : List RW := x3
  let h1 := fun (d0 : Option Nat) (l0 : LV) => ((d0, qA EG 210 (mE n (((jB n gs ra rb i).1) ++ [(⟨(3 : Int), ra.getD (i + 1) 0, (0 : Int)⟩ : Gt)]) (FA n ((jB n gs ra rb i).1)) (rb.getD (i + 1) 0) ((jB n gs ra rb i).2)) l0) : RW)
  let B1 := ((rC b1 #[iN n, sO b0 (List.length (((jB n gs ra rb i).1) ++ [(⟨(3 : Int), ra.getD (i + 1) 0, (0 : Int)⟩ : Gt)])) i0, .slice oa on oc] 175) : RW)
  let i1 := fun (d0 : Option Nat) (p0 : Nat) (l0 : LV) => (Sl EG d0 (mE n (((jB n gs ra rb i).1) ++ [(⟨(3 : Int), ra.getD (i + 1) 0, (0 : Int)⟩ : Gt)]) (FA n ((jB n gs ra rb i).1)) (rb.getD (i + 1) 0) ((jB n gs ra rb i).2)) p0 l0 : Prop)
  let G2 : mC := [nC false false fun _ _ w' => Hp No w₀ w' ((b0, qA EG 210 (((jB n gs ra rb i).1) ++ [(⟨(3 : Int), ra.getD (i + 1) 0, (0 : Int)⟩ : Gt)]) k0) :: B1 :: Q0), nC true false fun v7 _ w' => ∃ d0 p0 l0 z0, v7 = .tuple #[.agg #[iN n, sO d0 (List.length (mE n (((jB n gs ra rb i).1) ++ [(⟨(3 : Int), ra.getD (i + 1) 0, (0 : Int)⟩ : Gt)]) (FA n ((jB n gs ra rb i).1)) (rb.getD (i + 1) 0) ((jB n gs ra rb i).2))) p0, .slice oa on oc], i64 z0] ∧ (i1 d0 p0 l0) ∧ z0 = EH n (((jB n gs ra rb i).1) ++ [(⟨(3 : Int), ra.getD (i + 1) 0, (0 : Int)⟩ : Gt)]) ∧ Hp No w₀ w' ((h1 d0 l0) :: B1 :: Q0), nC true true fun v7 _ w' => ∃ d0 p0 l0 z0, v7 = .tuple #[.agg #[iN n, sO d0 (List.length (mE n (((jB n gs ra rb i).1) ++ [(⟨(3 : Int), ra.getD (i + 1) 0, (0 : Int)⟩ : Gt)]) (FA n ((jB n gs ra rb i).1)) (rb.getD (i + 1) 0) ((jB n gs ra rb i).2))) p0, .slice oa on oc], i64 z0] ∧ (i1 d0 p0 l0) ∧ z0 = EH n (((jB n gs ra rb i).1) ++ [(⟨(3 : Int), ra.getD (i + 1) 0, (0 : Int)⟩ : Gt)]) ∧ Hp No w₀ w' ((h1 d0 l0) :: (rC b1 #[iN n, sO d0 (List.length (mE n (((jB n gs ra rb i).1) ++ [(⟨(3 : Int), ra.getD (i + 1) 0, (0 : Int)⟩ : Gt)]) (FA n ((jB n gs ra rb i).1)) (rb.getD (i + 1) 0) ((jB n gs ra rb i).2))) p0, .slice oa on oc] 175) :: Q0)]
  refine MA (m := 13) [0, 0, 0, 0, 12, 28, 0, 127, 255, 511, 511, 1023, 4095] [7, 11] Q0 G2 BA (fun _ e => W0.ext e) EC (fun C1 => ?_)
  refine gk 4 ?_
  refine ZB (.pointer (oC ab ((i + 1) * 1))) (fun _ uw hcx => TC (E := EI) (l := rb) (j := (i + 1)) vF (hB _ hcx.chg (fun p hp => hcx.has p (List.mem_cons_of_mem _ hp))) rfl rfl vo (by exact hrb.symm) om) (ZB (i64 (rb.getD (i + 1) 0)) (fun _ uw hcx => AD (E := EI) (l := rb) (j := (i + 1)) (v := rb.getD (i + 1) 0) OC (hB _ hcx.chg (fun p hp => hcx.has p (List.mem_cons_of_mem _ hp))) rfl rfl (QA om)) ?_)
  refine gk 1 ?_
  refine WalkT.eff C1 0 ?_ ?_
  ·refine tA fun r w0 uw hF hE => ?_
   have H2 := hF.ext hE
   refine gW fun Q' hK => ?_
   have I2 := H2.as (L' := (_ :: ((rC b1 #[iN n, sO b0 (List.length (((jB n gs ra rb i).1) ++ [(⟨(3 : Int), ra.getD (i + 1) 0, (0 : Int)⟩ : Gt)])) i0, .slice oa on oc] 175) :: (rC b5 x1 175) :: R))) rfl
   refine cl (TG n b0 i0 k0 (((jB n gs ra rb i).1) ++ [(⟨(3 : Int), ra.getD (i + 1) 0, (0 : Int)⟩ : Gt)]) D0 hn (by simp only [List.length_append, List.length_cons, List.length_nil]; omega) oa on oc (FA n ((jB n gs ra rb i).1)) (rb.getD (i + 1) 0) ((jB n gs ra rb i).2) ((rC b1 #[iN n, sO b0 (List.length (((jB n gs ra rb i).1) ++ [(⟨(3 : Int), ra.getD (i + 1) 0, (0 : Int)⟩ : Gt)])) i0, .slice oa on oc] 175) :: (rC b5 x1 175) :: R) w₀ uw I2) ?_
   rintro _ R3 ⟨J2, K2, L2, M2, N2, rfl, O2, P2⟩
   have Q2 := P2.b3 rfl
   exact hK _ _ (E_ K2 (E_ L2 (E_ M2 (E_ J2 (A_ rfl (A_ O2 (A_ N2 Q2)))))))
  refine bA (fun r => r 7) (fun r r' h => h 7 (by decide) rfl) (fun _ _ => CA rfl) (aA (fun r => AB (r 7) 0) (fun r r' h => by rw [h 7 (by decide) rfl]) ?_ ?_)
  ·refine tA fun r w0 uw hF hE => ?_
   obtain ⟨d0, p0, l0, z0, e7, E0, K0, HH⟩ := hF
   replace HH := HH.ext hE
   dsimp only
   rw [e7]
   exact xC
  refine aA (fun r => AB (r 7) 1) (fun r r' h => by rw [h 7 (by decide) rfl]) ?_ ?_
  ·refine tB (fun r w0 uw hF hE => ?_) fun r w0 uw hF hE => ?_
   ·obtain ⟨d0, p0, l0, z0, e7, E0, K0, HH⟩ := hF
    replace HH := HH.ext hE
    dsimp only
    rw [e7]
    exact xC
   ·obtain ⟨d0, p0, l0, z0, e7, E0, K0, HH⟩ := hF
    replace HH := HH.ext hE
    dsimp only
    rw [e7]
    exact xC
  refine WalkT.eff C1 1 ?_ ?_
  ·refine tA fun r w0 uw hF hE => ?_
   obtain ⟨d0, p0, l0, z0, e7, E0, K0, D1⟩ := hF
   replace D1 := D1.ext hE
   dsimp only
   rw [e7]
   refine MC fun Q' hK => ?_
   refine go 1 ?_
   intro S3 R2 T3
   exact hK _ (fun _ => (E_ d0 (E_ p0 (E_ l0 (E_ z0 (A_ e7 (A_ E0 (A_ K0 R2))))))))
  refine bA (fun r => AB (r 7) 1) (fun r r' h => by rw [h 7 (by decide) rfl]) (fun _ _ => zA rfl) (WalkT.nil fun r w0 S2 hF hE => ?_)
  obtain ⟨d0, p0, l0, z0, e7, E0, K0, X0⟩ := hF
  replace X0 := X0.ext hE
  dsimp only
  rw [e7]
  dsimp only [i1] at E0
  dsimp only [Q0, h1] at X0
  subst K0
  refine go 1 ?_
  refine sq ((aB rfl rfl om).as (v' := iN (i + 1 + 1)) (by rfl)) ?_
  refine go 1 ?_
  have E1 : mE n (((jB n gs ra rb i).1) ++ [(⟨(3 : Int), ra.getD (i + 1) 0, (0 : Int)⟩ : Gt)]) (FA n ((jB n gs ra rb i).1)) (rb.getD (i + 1) 0) ((jB n gs ra rb i).2) = (jB n gs ra rb (i + 1)).1 := by rfl
  have F1 := E0
  rw [E1] at F1
  have T2 : Hp No w₀ S2 ((d0, qA EG 210 ((jB n gs ra rb (i + 1)).1) l0) :: (rC b1 #[iN n, sO d0 (List.length ((jB n gs ra rb (i + 1)).1)) p0, .slice oa on oc] 175) :: (rC b5 x1 175) :: R) := by rw [← E1]; exact X0
  exact ⟨(i + 1, d0, p0, l0), _, rfl, kp, ⟨⟨om, F1⟩, T2⟩, vd⟩
 ·have hie : i = 62 := by omega
  refine go 0 ?_
  let R0 : List RW := x3
  let j1 := fun (a0 : Option Nat) (m0 : LV) => ((a0, qA EG 210 (((jB n gs ra rb i).1) ++ [(⟨(3 : Int), rb.getD 63 0, (0 : Int)⟩ : Gt)]) m0) : RW)
  let G1 := ((rC b1 x2 175) : RW)
  let k1 := fun (a0 : Option Nat) (h0 : Nat) (m0 : LV) => (Sl EG a0 (((jB n gs ra rb i).1) ++ [(⟨(3 : Int), rb.getD 63 0, (0 : Int)⟩ : Gt)]) h0 m0 : Prop)
  let U2 : mC := [nC false false fun _ _ w' => Hp No w₀ w' ((kz, qA EG 210 ((jB n gs ra rb i).1) sz) :: G1 :: R0), nC true false fun v4 _ w' => ∃ a0 h0 m0 A0, v4 = .tuple #[.agg #[iN n, sO a0 (List.length (((jB n gs ra rb i).1) ++ [(⟨(3 : Int), rb.getD 63 0, (0 : Int)⟩ : Gt)])) h0, .slice oa on oc], i64 A0] ∧ (k1 a0 h0 m0) ∧ A0 = FA n ((jB n gs ra rb i).1) ∧ Hp No w₀ w' ((j1 a0 m0) :: G1 :: R0), nC true true fun v4 _ w' => ∃ a0 h0 m0 A0, v4 = .tuple #[.agg #[iN n, sO a0 (List.length (((jB n gs ra rb i).1) ++ [(⟨(3 : Int), rb.getD 63 0, (0 : Int)⟩ : Gt)])) h0, .slice oa on oc], i64 A0] ∧ (k1 a0 h0 m0) ∧ A0 = FA n ((jB n gs ra rb i).1) ∧ Hp No w₀ w' ((j1 a0 m0) :: (rC b1 #[iN n, sO a0 (List.length (((jB n gs ra rb i).1) ++ [(⟨(3 : Int), rb.getD 63 0, (0 : Int)⟩ : Gt)])) h0, .slice oa on oc] 175) :: R0)]
  refine MA (m := 10) [0, 0, 2, 6, 15, 31, 63, 63, 127, 511] [4, 8] R0 U2 BA (fun _ e => HL.ext e) EC (fun H1 => ?_)
  refine gk 2 ?_
  refine ZB (.pointer (oC ab (63 * 1))) (fun _ uw hcx => TC (E := EI) (l := rb) (j := 63) vF (hB _ hcx.chg (fun p hp => hcx.has p (List.mem_cons_of_mem _ hp))) rfl rfl vo (by exact hrb.symm) om) (ZB (i64 (rb.getD 63 0)) (fun _ uw hcx => AD (E := EI) (l := rb) (j := 63) (v := rb.getD 63 0) OC (hB _ hcx.chg (fun p hp => hcx.has p (List.mem_cons_of_mem _ hp))) rfl rfl (QA om)) (WalkT.eff H1 0 ?_ ?_))
  ·refine tA fun r w0 uw hF hE => ?_
   have V2 := hF.ext hE
   refine gW fun Q' hK => ?_
   have X2 := V2.b1 rfl
   refine cl (aC n kz cz sz ((jB n gs ra rb i).1) hSz hn om oa on oc (3 : Int) (rb.getD 63 0) (0 : Int) ((rC b1 x2 175) :: (rC b5 x1 175) :: R) w₀ uw X2) ?_
   rintro _ U3 ⟨Y2, Z2, c3, d3, e3, rfl, f3, g3⟩
   have h3 := g3.b3 rfl
   exact hK _ _ (E_ Z2 (E_ c3 (E_ d3 (E_ Y2 (A_ rfl (A_ f3 (A_ e3 h3)))))))
  refine bA (fun r => r 4) (fun r r' h => h 4 (by decide) rfl) (fun _ _ => CA rfl) (aA (fun r => AB (r 4) 0) (fun r r' h => by rw [h 4 (by decide) rfl]) ?_ ?_)
  ·refine tA fun r w0 uw hF hE => ?_
   obtain ⟨a0, h0, m0, A0, e4, F0, L0, HH⟩ := hF
   replace HH := HH.ext hE
   dsimp only
   rw [e4]
   exact xC
  refine aA (fun r => AB (r 4) 1) (fun r r' h => by rw [h 4 (by decide) rfl]) ?_ ?_
  ·refine tB (fun r w0 uw hF hE => ?_) fun r w0 uw hF hE => ?_
   ·obtain ⟨a0, h0, m0, A0, e4, F0, L0, HH⟩ := hF
    replace HH := HH.ext hE
    dsimp only
    rw [e4]
    exact xC
   ·obtain ⟨a0, h0, m0, A0, e4, F0, L0, HH⟩ := hF
    replace HH := HH.ext hE
    dsimp only
    rw [e4]
    exact xC
  refine WalkT.eff H1 1 ?_ ?_
  ·refine tA fun r w0 uw hF hE => ?_
   obtain ⟨a0, h0, m0, A0, e4, F0, L0, I1⟩ := hF
   replace I1 := I1.ext hE
   dsimp only
   rw [e4]
   refine MC fun Q' hK => ?_
   refine go 1 ?_
   intro V3 i3 W3
   exact hK _ (fun _ => (E_ a0 (E_ h0 (E_ m0 (E_ A0 (A_ e4 (A_ F0 (A_ L0 i3))))))))
  refine bA (fun r => AB (r 4) 1) (fun r r' h => by rw [h 4 (by decide) rfl]) (fun _ _ => zA rfl) (WalkT.nil fun r w0 X3 hF hE => ?_)
  obtain ⟨a0, h0, m0, A0, e4, F0, L0, Y0⟩ := hF
  replace Y0 := Y0.ext hE
  dsimp only
  rw [e4]
  dsimp only [k1] at F0
  dsimp only [R0, j1] at Y0
  subst L0
  refine go 0 ?_
  have j3 := (Y0.pk 3 [0, 2, 1])
  let S0 : List RW := ((rC b1 #[iN n, sO a0 (List.length (((jB n gs ra rb i).1) ++ [(⟨(3 : Int), rb.getD 63 0, (0 : Int)⟩ : Gt)])) h0, .slice oa on oc] 175) :: R)
  let l1 := fun (e0 : Option Nat) (q0 : LV) => ((e0, qA EG 210 (mE n (((jB n gs ra rb i).1) ++ [(⟨(3 : Int), rb.getD 63 0, (0 : Int)⟩ : Gt)]) (ra.getD 63 0) (FA n ((jB n gs ra rb i).1)) ((jB n gs ra rb i).2)) q0) : RW)
  let J1 := ((rC b5 x1 175) : RW)
  let m1 := fun (e0 : Option Nat) (r0 : Nat) (q0 : LV) => (Sl EG e0 (mE n (((jB n gs ra rb i).1) ++ [(⟨(3 : Int), rb.getD 63 0, (0 : Int)⟩ : Gt)]) (ra.getD 63 0) (FA n ((jB n gs ra rb i).1)) ((jB n gs ra rb i).2)) r0 q0 : Prop)
  let k3 : mC := [nC false false fun _ _ w' => Hp No w₀ w' ((a0, qA EG 210 (((jB n gs ra rb i).1) ++ [(⟨(3 : Int), rb.getD 63 0, (0 : Int)⟩ : Gt)]) m0) :: J1 :: S0), nC true false fun v6 _ w' => ∃ e0 r0 q0 B0, v6 = .tuple #[.agg #[iN n, sO e0 (List.length (mE n (((jB n gs ra rb i).1) ++ [(⟨(3 : Int), rb.getD 63 0, (0 : Int)⟩ : Gt)]) (ra.getD 63 0) (FA n ((jB n gs ra rb i).1)) ((jB n gs ra rb i).2))) r0, .slice oa on oc], i64 B0] ∧ (m1 e0 r0 q0) ∧ B0 = EH n (((jB n gs ra rb i).1) ++ [(⟨(3 : Int), rb.getD 63 0, (0 : Int)⟩ : Gt)]) ∧ Hp No w₀ w' ((l1 e0 q0) :: J1 :: S0), nC true true fun v6 _ w' => ∃ e0 r0 q0 B0, v6 = .tuple #[.agg #[iN n, sO e0 (List.length (mE n (((jB n gs ra rb i).1) ++ [(⟨(3 : Int), rb.getD 63 0, (0 : Int)⟩ : Gt)]) (ra.getD 63 0) (FA n ((jB n gs ra rb i).1)) ((jB n gs ra rb i).2))) r0, .slice oa on oc], i64 B0] ∧ (m1 e0 r0 q0) ∧ B0 = EH n (((jB n gs ra rb i).1) ++ [(⟨(3 : Int), rb.getD 63 0, (0 : Int)⟩ : Gt)]) ∧ Hp No w₀ w' ((l1 e0 q0) :: (rC b5 #[iN n, sO e0 (List.length (mE n (((jB n gs ra rb i).1) ++ [(⟨(3 : Int), rb.getD 63 0, (0 : Int)⟩ : Gt)]) (ra.getD 63 0) (FA n ((jB n gs ra rb i).1)) ((jB n gs ra rb i).2))) r0, .slice oa on oc] 175) :: S0)]
  refine MA (m := 11) [0, 0, 2, 6, 0, 0, 63, 127, 127, 511, 1023] [6, 9] S0 k3 BA (fun _ e => j3.ext e) EC (fun K1 => ?_)
  refine gk 2 ?_
  refine ZB (.pointer (oC aa (63 * 1))) (fun _ uw hcx => TC (E := EI) (l := ra) (j := 63) vF (hA _ hcx.chg (fun p hp => hcx.has p (List.mem_cons_of_mem _ hp))) rfl rfl vo (by exact hra.symm) om) (ZB (i64 (ra.getD 63 0)) (fun _ uw hcx => AD (E := EI) (l := ra) (j := 63) (v := ra.getD 63 0) OC (hA _ hcx.chg (fun p hp => hcx.has p (List.mem_cons_of_mem _ hp))) rfl rfl (QA om)) ?_)
  refine gk 2 ?_
  refine WalkT.eff K1 0 ?_ ?_
  ·refine tA fun r w0 uw hF hE => ?_
   have l3 := hF.ext hE
   refine gW fun Q' hK => ?_
   have m3 := l3.as (L' := (_ :: ((rC b5 x1 175) :: (rC b1 #[iN n, sO a0 (List.length (((jB n gs ra rb i).1) ++ [(⟨(3 : Int), rb.getD 63 0, (0 : Int)⟩ : Gt)])) h0, .slice oa on oc] 175) :: R))) rfl
   refine cl (TG n a0 h0 m0 (((jB n gs ra rb i).1) ++ [(⟨(3 : Int), rb.getD 63 0, (0 : Int)⟩ : Gt)]) F0 hn (by simp only [List.length_append, List.length_cons, List.length_nil]; omega) oa on oc (ra.getD 63 0) (FA n ((jB n gs ra rb i).1)) ((jB n gs ra rb i).2) ((rC b5 x1 175) :: (rC b1 #[iN n, sO a0 (List.length (((jB n gs ra rb i).1) ++ [(⟨(3 : Int), rb.getD 63 0, (0 : Int)⟩ : Gt)])) h0, .slice oa on oc] 175) :: R) w₀ uw m3) ?_
   rintro _ Y3 ⟨n3, o3, p3, q3, r3, rfl, s3, t3⟩
   have u3 := t3.b3 rfl
   exact hK _ _ (E_ o3 (E_ p3 (E_ q3 (E_ n3 (A_ rfl (A_ s3 (A_ r3 u3)))))))
  refine aA (fun r => AB (r 6) 0) (fun r r' h => by rw [h 6 (by decide) rfl]) ?_ ?_
  ·refine tA fun r w0 uw hF hE => ?_
   obtain ⟨e0, r0, q0, B0, e6, M0, T0, HH⟩ := hF
   replace HH := HH.ext hE
   dsimp only
   rw [e6]
   exact xC
  refine aA (fun r => AB (r 6) 1) (fun r r' h => by rw [h 6 (by decide) rfl]) ?_ ?_
  ·refine tA fun r w0 uw hF hE => ?_
   obtain ⟨e0, r0, q0, B0, e6, M0, T0, HH⟩ := hF
   replace HH := HH.ext hE
   dsimp only
   rw [e6]
   exact xC
  refine WalkT.eff K1 1 ?_ ?_
  ·refine tA fun r w0 uw hF hE => ?_
   obtain ⟨e0, r0, q0, B0, e6, M0, T0, L1⟩ := hF
   replace L1 := L1.ext hE
   dsimp only
   rw [e6]
   refine MC fun Q' hK => ?_
   refine go 1 ?_
   intro Z3 w3 c4
   exact hK _ (fun _ => (E_ e0 (E_ r0 (E_ q0 (E_ B0 (A_ e6 (A_ M0 (A_ T0 w3))))))))
  refine bA (fun r => AB (r 6) 1) (fun r r' h => by rw [h 6 (by decide) rfl]) (fun _ _ => zA rfl) (WalkT.nil fun r w0 y3 hF hE => ?_)
  obtain ⟨e0, r0, q0, B0, e6, M0, T0, Z0⟩ := hF
  replace Z0 := Z0.ext hE
  dsimp only
  rw [e6]
  dsimp only [m1] at M0
  dsimp only [S0, l1] at Z0
  subst T0
  refine go 0 ?_
  have n1 : mE n (((jB n gs ra rb i).1) ++ [(⟨(3 : Int), rb.getD 63 0, (0 : Int)⟩ : Gt)]) (ra.getD 63 0) (FA n ((jB n gs ra rb i).1)) ((jB n gs ra rb i).2) = (cC n gs ra rb).1 := by rw [NJ hie]
  have M1 := M0
  rw [n1] at M1
  have z3 : Hp No w₀ y3 ((e0, qA EG 210 ((cC n gs ra rb).1) q0) :: (rC b5 #[iN n, sO e0 (List.length ((cC n gs ra rb).1)) r0, .slice oa on oc] 175) :: (rC b1 #[iN n, sO a0 (List.length (((jB n gs ra rb i).1) ++ [(⟨(3 : Int), rb.getD 63 0, (0 : Int)⟩ : Gt)])) h0, .slice oa on oc] 175) :: R) := by rw [← n1]; exact Z0
  exact ⟨_, rfl, (EH n (((jB n gs ra rb i).1) ++ [(⟨(3 : Int), rb.getD 63 0, (0 : Int)⟩ : Gt)])), e0, r0, q0, by rw [NJ hie], by rw [← n1] <;> rfl, M1, ((z3.dropk 2).dropk 1)⟩
end Go.Proofs.YtohngnahcgbfmaaGreatDoor.Cm
namespace Go.Proofs.YtohngnahcgbfmaaGreatDoor.Cm
open Go Vc Er Circ
theorem mG (kd : Int) (fm : BitVec 64) (w : World) : Ca 33 [i64 kd, u64 fm] w fun v w' => v = i64 ((LC kd fm : Nat) : Int) ∧ Ext w w' := by
 have H := Hp.start No w
 refine enter (n := 21) Tryz.func33 rfl rfl (dB rfl) ?_
 refine go 4 ?_
 by_cases g1 : (kd : Int) = (1 : Int)
 ·refine LA (v := u64 fm) (w' := w) (gA (d' := 7) (b := true) rfl rfl (bT (g1))) (CA (v := u64 fm) rfl) (LA (v := .bool (decide (fm.toNat < (2#64).toNat))) (w' := w) (gA (d' := 7) (b := true) rfl rfl (bT (g1))) (OE (a := fm) (b := 2#64) rfl rfl) (sq (bC (u := .bool (decide (fm.toNat < (2#64).toNat))) (bT (g1)) rfl) ?_))
  refine go 0 ?_
  refine iA (fm.toNat < (2#64).toNat) rfl (fun b0 => ?_) (fun b0 => ?_)
  ·refine go 1 ?_
   exact ⟨_, rfl, congrArg i64 (by have e2 : (2#64 : BitVec 64).toNat = 2 := rfl; have e4 : (4#64 : BitVec 64).toNat = 4 := rfl; unfold LC; (repeat' split) <;> first | rfl | omega), H.chg⟩
  ·refine go 3 ?_
   by_cases g2 : (kd : Int) = (2 : Int)
   ·refine cB (gA (d' := 13) (b := true) rfl rfl (bT (g2))) (cB (gA (d' := 13) (b := true) rfl rfl (bT (g2))) (sq (bC (u := .bool true) (bT (g2)) rfl) ?_))
    refine go 4 ?_
    refine iA (fm.toNat < (4#64).toNat) rfl (fun a0 => ?_) (fun a0 => ?_)
    ·refine go 1 ?_
     exact ⟨_, rfl, congrArg i64 (by have e2 : (2#64 : BitVec 64).toNat = 2 := rfl; have e4 : (4#64 : BitVec 64).toNat = 4 := rfl; unfold LC; (repeat' split) <;> first | rfl | omega), H.chg⟩
    ·refine go 1 ?_
     exact ⟨_, rfl, congrArg i64 (by have e2 : (2#64 : BitVec 64).toNat = 2 := rfl; have e4 : (4#64 : BitVec 64).toNat = 4 := rfl; unfold LC; (repeat' split) <;> first | rfl | omega), H.chg⟩
   ·refine LA (v := i64 kd) (w' := w) (gA (d' := 13) (b := false) rfl rfl (bF (g2))) (CA (v := i64 kd) rfl) (LA (v := .bool (decide ((kd : Int) = (3 : Int)))) (w' := w) (gA (d' := 13) (b := false) rfl rfl (bF (g2))) (iB rfl rfl) (sq (WB (v := .bool (decide ((kd : Int) = (3 : Int)))) (bF (g2)) rfl) ?_))
    refine go 1 ?_
    by_cases g3 : (kd : Int) = (3 : Int)
    ·refine LA (v := u64 fm) (w' := w) (gA (d' := 17) (b := true) rfl rfl (bT (g3))) (CA (v := u64 fm) rfl) (LA (v := .bool (decide (fm.toNat < (4#64).toNat))) (w' := w) (gA (d' := 17) (b := true) rfl rfl (bT (g3))) (OE (a := fm) (b := 4#64) rfl rfl) (sq (bC (u := .bool (decide (fm.toNat < (4#64).toNat))) (bT (g3)) rfl) ?_))
     refine go 0 ?_
     refine iA (fm.toNat < (4#64).toNat) rfl (fun a0 => ?_) (fun a0 => ?_)
     ·refine go 1 ?_
      exact ⟨_, rfl, congrArg i64 (by have e2 : (2#64 : BitVec 64).toNat = 2 := rfl; have e4 : (4#64 : BitVec 64).toNat = 4 := rfl; unfold LC; (repeat' split) <;> first | rfl | omega), H.chg⟩
     ·refine go 1 ?_
      exact ⟨_, rfl, congrArg i64 (by have e2 : (2#64 : BitVec 64).toNat = 2 := rfl; have e4 : (4#64 : BitVec 64).toNat = 4 := rfl; unfold LC; (repeat' split) <;> first | rfl | omega), H.chg⟩
    ·refine cB (gA (d' := 17) (b := false) rfl rfl (bF (g3))) (cB (gA (d' := 17) (b := false) rfl rfl (bF (g3))) (sq (WB (v := .bool false) (bF (g3)) rfl) ?_))
     refine go 1 ?_
     exact ⟨_, rfl, congrArg i64 (by have e2 : (2#64 : BitVec 64).toNat = 2 := rfl; have e4 : (4#64 : BitVec 64).toNat = 4 := rfl; unfold LC; (repeat' split) <;> first | rfl | omega), H.chg⟩
 ·refine cB (gA (d' := 7) (b := false) rfl rfl (bF (g1))) (cB (gA (d' := 7) (b := false) rfl rfl (bF (g1))) (sq (WB (v := .bool false) (bF (g1)) rfl) ?_))
  refine go 3 ?_
  by_cases g4 : (kd : Int) = (2 : Int)
  ·refine cB (gA (d' := 13) (b := true) rfl rfl (bT (g4))) (cB (gA (d' := 13) (b := true) rfl rfl (bT (g4))) (sq (bC (u := .bool true) (bT (g4)) rfl) ?_))
   refine go 4 ?_
   refine iA (fm.toNat < (4#64).toNat) rfl (fun a0 => ?_) (fun a0 => ?_)
   ·refine go 1 ?_
    exact ⟨_, rfl, congrArg i64 (by have e2 : (2#64 : BitVec 64).toNat = 2 := rfl; have e4 : (4#64 : BitVec 64).toNat = 4 := rfl; unfold LC; (repeat' split) <;> first | rfl | omega), H.chg⟩
   ·refine go 1 ?_
    exact ⟨_, rfl, congrArg i64 (by have e2 : (2#64 : BitVec 64).toNat = 2 := rfl; have e4 : (4#64 : BitVec 64).toNat = 4 := rfl; unfold LC; (repeat' split) <;> first | rfl | omega), H.chg⟩
  ·refine LA (v := i64 kd) (w' := w) (gA (d' := 13) (b := false) rfl rfl (bF (g4))) (CA (v := i64 kd) rfl) (LA (v := .bool (decide ((kd : Int) = (3 : Int)))) (w' := w) (gA (d' := 13) (b := false) rfl rfl (bF (g4))) (iB rfl rfl) (sq (WB (v := .bool (decide ((kd : Int) = (3 : Int)))) (bF (g4)) rfl) ?_))
   refine go 1 ?_
   by_cases g5 : (kd : Int) = (3 : Int)
   ·refine LA (v := u64 fm) (w' := w) (gA (d' := 17) (b := true) rfl rfl (bT (g5))) (CA (v := u64 fm) rfl) (LA (v := .bool (decide (fm.toNat < (4#64).toNat))) (w' := w) (gA (d' := 17) (b := true) rfl rfl (bT (g5))) (OE (a := fm) (b := 4#64) rfl rfl) (sq (bC (u := .bool (decide (fm.toNat < (4#64).toNat))) (bT (g5)) rfl) ?_))
    refine go 0 ?_
    refine iA (fm.toNat < (4#64).toNat) rfl (fun a0 => ?_) (fun a0 => ?_)
    ·refine go 1 ?_
     exact ⟨_, rfl, congrArg i64 (by have e2 : (2#64 : BitVec 64).toNat = 2 := rfl; have e4 : (4#64 : BitVec 64).toNat = 4 := rfl; unfold LC; (repeat' split) <;> first | rfl | omega), H.chg⟩
    ·refine go 1 ?_
     exact ⟨_, rfl, congrArg i64 (by have e2 : (2#64 : BitVec 64).toNat = 2 := rfl; have e4 : (4#64 : BitVec 64).toNat = 4 := rfl; unfold LC; (repeat' split) <;> first | rfl | omega), H.chg⟩
   ·refine cB (gA (d' := 17) (b := false) rfl rfl (bF (g5))) (cB (gA (d' := 17) (b := false) rfl rfl (bF (g5))) (sq (WB (v := .bool false) (bF (g5)) rfl) ?_))
    refine go 1 ?_
    exact ⟨_, rfl, congrArg i64 (by have e2 : (2#64 : BitVec 64).toNat = 2 := rfl; have e4 : (4#64 : BitVec 64).toNat = 4 := rfl; unfold LC; (repeat' split) <;> first | rfl | omega), H.chg⟩
end Go.Proofs.YtohngnahcgbfmaaGreatDoor.Cm
namespace Go.Proofs.YtohngnahcgbfmaaGreatDoor.Mi
open Go Vc Er Ek Circ
open Co Cm
theorem mK : Tryz.prog.underlying 34 = some (.int .u64) := by kernel_rfl
theorem dN (o : Mo) (hok : (vA o 65536 65536).2 = true) (w : World) : Ca 14 [.agg #[i64 (o.kd), i64 (o.a), i64 (o.b), i64 (o.k), u64 (o.c), i64 (o.pt)]] w fun v w' => v = .tuple #[i64 ((vA o 65536 65536).1.a), i64 ((vA o 65536 65536).1.b), i64 ((vA o 65536 65536).1.m), i64 ((vA o 65536 65536).1.r)] ∧ Ext w w' := by
 have s0 := UL o.c
 have u0 := UL (o.c / 2#64)
 have H := Hp.start No w
 refine enter (n := 63) Tryz.func14 rfl rfl (dB rfl) ?_
 refine go 1 ?_
 intro b1 w2 w0 H3 x0
 refine go 8 ?_
 refine iA ((o.kd : Int) = (1 : Int)) rfl (fun d0 => ?_) (fun d0 => ?_)
 ·refine go 4 ?_
  obtain ⟨r1, r2, r3, r4⟩ := wa1 hok d0
  exact ⟨_, rfl, by rw [r1, r2, r3, r4]; rfl, H3.chg⟩
 ·refine go 2 ?_
  refine iA ((o.kd : Int) = (2 : Int)) rfl (fun e0 => ?_) (fun e0 => ?_)
  ·refine go 4 ?_
   obtain ⟨r1, r2, r3, r4⟩ := wa2 e0
   exact ⟨_, rfl, by rw [r1, r2, r3, r4]; rfl, H3.chg⟩
  ·refine go 2 ?_
   refine iA ((o.kd : Int) = (3 : Int)) rfl (fun c0 => ?_) (fun c0 => ?_)
   ·refine go 0 ?_
    refine GB (bT (c0)) ?_
    refine go 4 ?_
    obtain ⟨r1, r2, r3, r4⟩ := wa3 (o := o) om
    exact ⟨_, rfl, by rw [r1, r2, r3, r4]; rfl, H3.chg⟩
   ·refine go 2 ?_
    refine iA ((o.kd : Int) = (4 : Int)) rfl (fun c0 => ?_) (fun c0 => ?_)
    ·refine go 4 ?_
     obtain ⟨r1, r2, r3, r4⟩ := wa3 (o := o) om
     exact ⟨_, rfl, by rw [r1, r2, r3, r4]; rfl, H3.chg⟩
    ·refine go 2 ?_
     refine iA ((o.kd : Int) = (5 : Int)) rfl (fun f0 => ?_) (fun f0 => ?_)
     ·refine go 4 ?_
      obtain ⟨r1, r2, r3, r4⟩ := wa5 f0
      exact ⟨_, rfl, by rw [r1, r2, r3, r4]; rfl, H3.chg⟩
     ·refine go 2 ?_
      refine iA ((o.kd : Int) = (6 : Int)) rfl (fun h0 => ?_) (fun h0 => ?_)
      ·refine go 4 ?_
       obtain ⟨r1, r2, r3, r4⟩ := wa6 h0
       exact ⟨_, rfl, by rw [r1, r2, r3, r4]; rfl, H3.chg⟩
      ·refine go 2 ?_
       refine iA ((o.kd : Int) = (7 : Int)) rfl (fun i0 => ?_) (fun i0 => ?_)
       ·refine go 4 ?_
        obtain ⟨r1, r2, r3, r4⟩ := wa7 i0
        exact ⟨_, rfl, by rw [r1, r2, r3, r4]; rfl, H3.chg⟩
       ·refine go 2 ?_
        refine iA ((o.kd : Int) = (8 : Int)) rfl (fun a0 => ?_) (fun a0 => ?_)
        ·refine go 0 ?_
         refine GB (bT (a0)) ?_
         refine go 4 ?_
         obtain ⟨r1, r2, r3, r4⟩ := BV (o := o) om
         exact ⟨_, rfl, by rw [r1, r2, r3, r4]; rfl, H3.chg⟩
        ·refine go 2 ?_
         refine iA ((o.kd : Int) = (10 : Int)) rfl (fun a0 => ?_) (fun a0 => ?_)
         ·refine go 0 ?_
          refine GB (bT (a0)) ?_
          refine go 4 ?_
          obtain ⟨r1, r2, r3, r4⟩ := BV (o := o) om
          exact ⟨_, rfl, by rw [r1, r2, r3, r4]; rfl, H3.chg⟩
         ·refine go 2 ?_
          refine iA ((o.kd : Int) = (11 : Int)) rfl (fun a0 => ?_) (fun a0 => ?_)
          ·refine go 0 ?_
           refine GB (bT (a0)) ?_
           refine go 4 ?_
           obtain ⟨r1, r2, r3, r4⟩ := BV (o := o) om
           exact ⟨_, rfl, by rw [r1, r2, r3, r4]; rfl, H3.chg⟩
          ·refine go 2 ?_
           refine iA ((o.kd : Int) = (12 : Int)) rfl (fun a0 => ?_) (fun a0 => ?_)
           ·refine go 0 ?_
            refine GB (bT (a0)) ?_
            refine go 4 ?_
            obtain ⟨r1, r2, r3, r4⟩ := BV (o := o) om
            exact ⟨_, rfl, by rw [r1, r2, r3, r4]; rfl, H3.chg⟩
           ·refine go 2 ?_
            refine iA ((o.kd : Int) = (13 : Int)) rfl (fun a0 => ?_) (fun a0 => ?_)
            ·refine go 0 ?_
             refine GB (bT (a0)) ?_
             refine go 4 ?_
             obtain ⟨r1, r2, r3, r4⟩ := BV (o := o) om
             exact ⟨_, rfl, by rw [r1, r2, r3, r4]; rfl, H3.chg⟩
            ·refine go 2 ?_
             refine iA ((o.kd : Int) = (14 : Int)) rfl (fun a0 => ?_) (fun a0 => ?_)
             ·refine go 4 ?_
              obtain ⟨r1, r2, r3, r4⟩ := BV (o := o) om
              exact ⟨_, rfl, by rw [r1, r2, r3, r4]; rfl, H3.chg⟩
             ·refine go 2 ?_
              refine iA ((o.kd : Int) = (9 : Int)) rfl (fun j0 => ?_) (fun j0 => ?_)
              ·refine go 4 ?_
               obtain ⟨r1, r2, r3, r4⟩ := wa9 j0
               exact ⟨_, rfl, by rw [r1, r2, r3, r4]; rfl, H3.chg⟩
              ·refine go 2 ?_
               refine iA ((o.kd : Int) = (15 : Int)) rfl (fun k0 => ?_) (fun k0 => ?_)
               ·refine go 4 ?_
                obtain ⟨r1, r2, r3, r4⟩ := wa15 k0
                exact ⟨_, rfl, by rw [r1, r2, r3, r4]; rfl, H3.chg⟩
               ·refine go 2 ?_
                refine iA ((o.kd : Int) = (16 : Int)) rfl (fun l0 => ?_) (fun l0 => ?_)
                ·refine go 4 ?_
                 obtain ⟨r1, r2, r3, r4⟩ := wa16 l0
                 exact ⟨_, rfl, by rw [r1, r2, r3, r4]; rfl, H3.chg⟩
                ·refine go 2 ?_
                 refine iA ((o.kd : Int) = (17 : Int)) rfl (fun b0 => ?_) (fun b0 => ?_)
                 ·obtain ⟨hop1, hop2⟩ := nL (uE b0 hok).1
                  have hg17 := (uE b0 hok).1
                  unfold qB at hop1
                  refine go 4 ?_
                  refine cl (mG o.k o.c w2) ?_
                  rintro _ w5 ⟨rfl, o0⟩
                  have H7 := H3.ext o0
                  refine go 3 ?_
                  refine iA (((LC o.k o.c : Nat) : Int) = (0 : Int)) rfl (fun p0 => ?_) (fun p0 => ?_)
                  ·refine go 4 ?_
                   exact absurd om hg17
                  ·refine go 3 ?_
                   refine iA (((LC o.k o.c : Nat) : Int) = (2 : Int)) rfl (fun q0 => ?_) (fun q0 => ?_)
                   ·have r0 : o.k ≠ 1 := fun e => by rw [if_pos e] at hop1; omega
                    refine go 4 ?_
                    refine sq (RE vF vF (a := (o.c / (2#64)) % (2#64)) rfl) (sq (aB rfl rfl om) (XK (BE (RA (sR (sq (rA (off' := 4) vF (by decide) (b := b1) (off := 0) rfl om) (sq (DA (v := u64 (o.c)) vF (H7.get (k := 0) rfl) (off := 4) rfl (by rfl)) (sq (uJ (a := o.c) (b := 2#64) rfl rfl (by decide)) (sq (RE vF vF (a := o.c % (2#64)) rfl) (sq (aB rfl rfl om) ?_))))))))))
                    refine go 5 ?_
                    obtain ⟨r1, r2, r3, r4⟩ := HV hok b0
                    exact ⟨_, rfl, by rw [r1, r2, r3, r4, if_neg om, ← PJ o.c, ← sL, ← PJ (o.c / 2#64)]; rfl, H7.chg⟩
                   ·have r0 : o.k = 1 := by
                     by_cases e : o.k = 1
                     ·exact e
                     ·rw [if_neg e] at hop1; omega
                    refine ED (RA (sR (sq (rA (off' := 4) vF (by decide) (b := b1) (off := 0) rfl om) (sq (DA (v := u64 (o.c)) vF (H7.get (k := 0) rfl) (off := 4) rfl (by rfl)) (sq (uJ (a := o.c) (b := 2#64) rfl rfl (by decide)) (sq (RE vF vF (a := o.c % (2#64)) rfl) (sq (aB rfl rfl om) ?_)))))))
                    refine go 5 ?_
                    obtain ⟨r1, r2, r3, r4⟩ := HV hok b0
                    exact ⟨_, rfl, by rw [r1, r2, r3, r4, if_pos om, ← PJ o.c]; rfl, H7.chg⟩
                 ·refine go 2 ?_
                  refine iA ((o.kd : Int) = (18 : Int)) rfl (fun m0 => ?_) (fun m0 => ?_)
                  ·refine go 4 ?_
                   obtain ⟨r1, r2, r3, r4⟩ := wa18 m0
                   exact ⟨_, rfl, by rw [r1, r2, r3, r4]; rfl, H3.chg⟩
                  ·refine go 2 ?_
                   refine iA ((o.kd : Int) = (19 : Int)) rfl (fun n0 => ?_) (fun n0 => ?_)
                   ·refine go 4 ?_
                    obtain ⟨r1, r2, r3, r4⟩ := wa19 n0
                    exact ⟨_, rfl, by rw [r1, r2, r3, r4]; rfl, H3.chg⟩
                   ·refine go 4 ?_
                    exact (RQ hok fun k h1 h2 e => by omega).elim
end Go.Proofs.YtohngnahcgbfmaaGreatDoor.Mi
namespace Go.Proofs.YtohngnahcgbfmaaGreatDoor.Cm
open Go Vc Er Circ
theorem AP : NA Tryz.prog 100 = true := by kernel_rfl
theorem WO (fm : BitVec 64) (hf : fm < 2#64) (w : World) : Ca 66 [i64 (1 : Int), u64 fm] w fun v w' => ∃ (key : Option Nat) (c : Nat) (sp : LV) (ko : Option Nat) (co : Nat) (so : LV), v = .agg #[i64 ((128 : Nat) : Int), sO key (EJ (CB fm 0)).1.length c, sO ko 64 co] ∧ Sl EG key (EJ (CB fm 0)).1 c sp ∧ Sl EI ko (EJ (CB fm 0)).2 co so ∧ Hp No w w' [(key, qA EG 210 (EJ (CB fm 0)).1 sp), (ko, qA EI 3 (EJ (CB fm 0)).2 so)] := by
 let x3 : Array Value := #[i64 0, yA, yA]
 have H := Hp.start No w
 refine enter (n := 151) Tryz.func66 rfl rfl (dB rfl) ?_
 refine go 1 ?_
 intro b1 w2 j2 H3 k2
 refine go 2 ?_
 refine cl ((by have h := mG (1 : Int) fm w2; rw [MR fm hf] at h; exact h)) ?_
 rintro _ w5 ⟨rfl, V0⟩
 have H7 := H3.ext V0
 refine go 2 ?_
 refine sq ((KB rfl rfl om).as (v' := iN 128) (by rfl)) ?_
 refine go 2 ?_
 intro b8 w9 l2 m2 n2
 refine go 1 ?_
 intro W0 X0 o2
 have Y0 := X0.nil (qA EG 210 [] [])
 have Z0 := Y0.a3 rfl
 refine go 5 ?_
 refine sq ((VD (a := fm % (2#64)) (b := 1#64) rfl rfl).as (v' := .bool (CB fm 0)) (by exact congrArg Value.bool (UJ fm))) ?_
 have c1 := Z0.b1 rfl
 refine cl (TH 128 none 0 ([]) ([] : List Gt) Sl.none om (by exact Nat.zero_le _) none 0 0 0 64 om om (CB fm 0) ([(rC b8 #[iN 128, sO none (List.length ([] : List Gt)) 0, yA] 175), (rC b1 x3 175)]) w W0 c1) ?_
 rintro _ p2 ⟨B0, C0, d1, D0, e1, g1, rfl, E0, hO27, F0⟩
 obtain ⟨o1, ho1⟩ : ∃ q, q = WC 128 ([] : List Gt) 0 64 (CB fm 0) := ⟨_, rfl⟩
 let x2 : RW := (D0, qA EI 3 o1.2 g1)
 rw [← ho1] at E0 hO27 F0 ⊢
 have G0 := tC 128 ([] : List Gt) 0 64 (CB fm 0)
 rw [← ho1] at G0
 have q2 := F0.a4 rfl
 refine go 4 ?_
 intro h1 i1 r2
 refine go 1 ?_
 simp only [List.length_nil] at G0
 refine go 1 ?_
 refine sq ((iB rfl rfl).as (v' := .bool false) (by rfl)) ?_
 refine go 1 ?_
 have j1 := i1.b1 rfl
 refine cl (aC 128 B0 C0 d1 o1.1 E0 om om none 0 0 (1 : Int) (0 : Int) (0 : Int) ([x2, (rC b8 #[iN 128, sO B0 (List.length o1.1) C0, yA] 175), (rC b1 x3 175)]) w h1 j1) ?_
 rintro _ s2 ⟨t2, k0, q0, s0, k1, rfl, l1, m1⟩
 have u2 := m1.a4 rfl
 refine go 4 ?_
 intro n1 p1 y2
 refine go 1 ?_
 subst k1
 have H0 : o1.1 ++ [(⟨(1 : Int), (0 : Int), (0 : Int)⟩ : Gt)] = ze o1.1 := by rfl
 have I0 := l1
 rw [H0] at I0
 have q1 : Hp No w n1 [(k0, qA EG 210 (ze o1.1) s0), x2, (rC b8 #[iN 128, sO k0 (List.length (ze o1.1)) q0, yA] 175), (rC b1 x3 175)] := by rw [← H0]; exact p1
 have hzl : (ze o1.1).length = o1.1.length + 1 := by simp [ze]
 refine go 1 ?_
 refine sq ((iB rfl rfl).as (v' := .bool true) (by rfl)) ?_
 refine go 1 ?_
 have r1 := (q1.pk 4 [0, 2, 1, 3])
 let o0 : List RW := [x2, (rC b1 x3 175)]
 let u0 := fun (b0 : Option Nat) (e0 : LV) => ((b0, qA EG 210 ((ze o1.1) ++ [(⟨(3 : Int), (o1.2).getD 63 0, (0 : Int)⟩ : Gt)]) e0) : RW)
 let J0 := ((rC b8 #[iN 128, sO k0 (List.length (ze o1.1)) q0, yA] 175) : RW)
 let s1 : mC := [nC false false fun _ _ w' => Hp No w w' ((k0, qA EG 210 (ze o1.1) s0) :: J0 :: o0), nC true false fun v4 _ w' => ∃ b0 f0 e0 h0, v4 = .tuple #[.agg #[iN 128, sO b0 (List.length ((ze o1.1) ++ [(⟨(3 : Int), (o1.2).getD 63 0, (0 : Int)⟩ : Gt)])) f0, yA], i64 h0] ∧ Sl EG b0 ((ze o1.1) ++ [(⟨(3 : Int), (o1.2).getD 63 0, (0 : Int)⟩ : Gt)]) f0 e0 ∧ h0 = FA 128 (ze o1.1) ∧ Hp No w w' ((u0 b0 e0) :: J0 :: o0), nC true true fun v4 _ w' => ∃ b0 f0 e0 h0, v4 = .tuple #[.agg #[iN 128, sO b0 (List.length ((ze o1.1) ++ [(⟨(3 : Int), (o1.2).getD 63 0, (0 : Int)⟩ : Gt)])) f0, yA], i64 h0] ∧ Sl EG b0 ((ze o1.1) ++ [(⟨(3 : Int), (o1.2).getD 63 0, (0 : Int)⟩ : Gt)]) f0 e0 ∧ h0 = FA 128 (ze o1.1) ∧ Hp No w w' ((u0 b0 e0) :: (rC b8 #[iN 128, sO b0 (List.length ((ze o1.1) ++ [(⟨(3 : Int), (o1.2).getD 63 0, (0 : Int)⟩ : Gt)])) f0, yA] 175) :: o0)]
 refine MA (m := 10) [0, 0, 2, 6, 15, 31, 63, 63, 127, 511] [4, 8] o0 s1 BA (fun _ e => r1.ext e) EC (fun K0 => ?_)
 refine gk 4 ?_
 refine WalkT.eff K0 0 ?_ ?_
 ·refine tA fun r w0 uw hF hE => ?_
  have t1 := hF.ext hE
  refine gW fun Q' hK => ?_
  have u1 := t1.b1 rfl
  refine cl (aC 128 k0 q0 s0 (ze o1.1) I0 om om none 0 0 (3 : Int) ((o1.2).getD 63 0) (0 : Int) ([(rC b8 #[iN 128, sO k0 (List.length (ze o1.1)) q0, yA] 175), x2, (rC b1 x3 175)]) w uw u1) ?_
  rintro _ z2 ⟨w1, y1, z1, A1, B1, rfl, C1, D1⟩
  have E1 := D1.a4 rfl
  exact hK _ _ (E_ y1 (E_ z1 (E_ A1 (E_ w1 (A_ rfl (A_ C1 (A_ B1 E1)))))))
 refine bA (fun r => r 4) (fun r r' h => h 4 (by decide) rfl) (fun _ _ => CA rfl) ?_
 refine aA (fun r => AB (r 4) 0) (fun r r' h => by rw [h 4 (by decide) rfl]) ?_ ?_
 ·refine tA fun r w0 uw hF hE => ?_
  obtain ⟨b0, f0, e0, h0, e4, l0, m0, HH⟩ := hF
  replace HH := HH.ext hE
  dsimp only
  rw [e4]
  exact xC
 refine aA (fun r => AB (r 4) 1) (fun r r' h => by rw [h 4 (by decide) rfl]) ?_ ?_
 ·refine tB (fun r w0 uw hF hE => ?_) fun r w0 uw hF hE => ?_
  ·obtain ⟨b0, f0, e0, h0, e4, l0, m0, HH⟩ := hF
   replace HH := HH.ext hE
   dsimp only
   rw [e4]
   exact xC
  ·obtain ⟨b0, f0, e0, h0, e4, l0, m0, HH⟩ := hF
   replace HH := HH.ext hE
   dsimp only
   rw [e4]
   exact xC
 refine WalkT.eff K0 1 ?_ ?_
 ·refine tA fun r w0 uw hF hE => ?_
  obtain ⟨b0, f0, e0, h0, e4, l0, m0, L0⟩ := hF
  replace L0 := L0.ext hE
  dsimp only
  rw [e4]
  refine MC fun Q' hK => ?_
  refine go 1 ?_
  intro A2 F1 B2
  exact hK _ (fun _ => (E_ b0 (E_ f0 (E_ e0 (E_ h0 (A_ e4 (A_ l0 (A_ m0 F1))))))))
 refine bA (fun r => AB (r 4) 1) (fun r r' h => by rw [h 4 (by decide) rfl]) (fun _ _ => zA rfl) ?_
 refine WalkT.nil ?_
 intro r w0 C2 hF hE
 obtain ⟨b0, f0, e0, h0, e4, l0, m0, r0⟩ := hF
 replace r0 := r0.ext hE
 dsimp only
 rw [e4]
 dsimp only [o0, u0] at r0
 subst m0
 have hgl : (ze o1.1 ++ [(⟨3, o1.2.getD 63 0, 0⟩ : Gt)]).length = o1.1.length + 2 := by rw [List.length_append, hzl]; rfl
 have G1 := r0.nil (qA EI 3 [] [])
 have H1 := G1.a5 rfl
 refine go 1 ?_
 refine AA (σ := Nat × Option Nat × Nat × LV × Option Nat × Nat × LV) (fun (i, ky, cy, sy, ku, cu, su) => [(4, pT b1), (6, pT b8), (7, sO D0 64 e1), (9, i64 ((FA 128 o1.1))), (10, i64 ((FA 128 (ze o1.1)))), (11, iN i)]) (fun (i, ky, cy, sy, ku, cu, su) w' => (i ≤ 63 ∧ Sl EG ky (lD 128 (ze o1.1 ++ [(⟨3, o1.2.getD 63 0, 0⟩ : Gt)]) (FA 128 (ze o1.1)) o1.2 i).1 cy sy ∧ Sl EI ku (lD 128 (ze o1.1 ++ [(⟨3, o1.2.getD 63 0, 0⟩ : Gt)]) (FA 128 (ze o1.1)) o1.2 i).2 cu su) ∧ Hp No w w' [(ky, qA EG 210 ((lD 128 (ze o1.1 ++ [(⟨3, o1.2.getD 63 0, 0⟩ : Gt)]) (FA 128 (ze o1.1)) o1.2 i).1) sy), (ku, qA EI 3 ((lD 128 (ze o1.1 ++ [(⟨3, o1.2.getD 63 0, 0⟩ : Gt)]) (FA 128 (ze o1.1)) o1.2 i).2) su), (rC b8 #[iN 128, sO ky (List.length ((lD 128 (ze o1.1 ++ [(⟨3, o1.2.getD 63 0, 0⟩ : Gt)]) (FA 128 (ze o1.1)) o1.2 i).1)) cy, sO ku i cu] 175), (rC b1 x3 175), x2]) (fun (i, ky, cy, sy, ku, cu, su) => 63 - i) ((0, b0, f0, e0, none, 0, [])) ?_ ?_ ?_
 ·exact kp
 ·exact ⟨⟨om, l0, Sl.none⟩, (H1.pk 5 [1, 0, 2, 4, 3])⟩
 rintro ⟨i, ky, cy, sy, ku, cu, su⟩ ρ D2 ⟨⟨hq, hSy, hSu⟩, HL⟩
 let x4 : RW := (ku, qA EI 3 ((lD 128 (ze o1.1 ++ [(⟨3, o1.2.getD 63 0, 0⟩ : Gt)]) (FA 128 (ze o1.1)) o1.2 i).2) su)
 let x1 : Array Value := #[iN 128, sO ky (List.length ((lD 128 (ze o1.1 ++ [(⟨3, o1.2.getD 63 0, 0⟩ : Gt)]) (FA 128 (ze o1.1)) o1.2 i).1)) cy, sO ku i cu]
 have hre := yF 128 (ze o1.1 ++ [(⟨3, o1.2.getD 63 0, 0⟩ : Gt)]) (FA 128 (ze o1.1)) o1.2 i
 refine go 2 ?_
 refine iA (((i : Nat) : Int) < (63 : Int)) rfl (fun I1 => ?_) (fun I1 => ?_)
 ·refine go 1 ?_
  have J1 := (HL.pk 5 [0, 2, 1, 3, 4])
  let p0 : List RW := [x4, (rC b1 x3 175), x2]
  let x0 := fun (a0 : Option Nat) (c0 : LV) => ((a0, qA EG 210 (((lD 128 (ze o1.1 ++ [(⟨3, o1.2.getD 63 0, 0⟩ : Gt)]) (FA 128 (ze o1.1)) o1.2 i).1) ++ [(⟨(2 : Int), (FA 128 (ze o1.1)), (o1.2).getD i 0⟩ : Gt)]) c0) : RW)
  let M0 := ((rC b8 x1 175) : RW)
  let y0 := fun (a0 : Option Nat) (d0 : Nat) (c0 : LV) => (Sl EG a0 (((lD 128 (ze o1.1 ++ [(⟨3, o1.2.getD 63 0, 0⟩ : Gt)]) (FA 128 (ze o1.1)) o1.2 i).1) ++ [(⟨(2 : Int), (FA 128 (ze o1.1)), (o1.2).getD i 0⟩ : Gt)]) d0 c0 : Prop)
  let K1 : mC := [nC false false fun _ _ w' => Hp No w w' ((ky, qA EG 210 ((lD 128 (ze o1.1 ++ [(⟨3, o1.2.getD 63 0, 0⟩ : Gt)]) (FA 128 (ze o1.1)) o1.2 i).1) sy) :: M0 :: p0), nC true false fun v6 _ w' => ∃ a0 d0 c0 i0, v6 = .tuple #[.agg #[iN 128, sO a0 (List.length (((lD 128 (ze o1.1 ++ [(⟨3, o1.2.getD 63 0, 0⟩ : Gt)]) (FA 128 (ze o1.1)) o1.2 i).1) ++ [(⟨(2 : Int), (FA 128 (ze o1.1)), (o1.2).getD i 0⟩ : Gt)])) d0, sO ku i cu], i64 i0] ∧ (y0 a0 d0 c0) ∧ i0 = FA 128 ((lD 128 (ze o1.1 ++ [(⟨3, o1.2.getD 63 0, 0⟩ : Gt)]) (FA 128 (ze o1.1)) o1.2 i).1) ∧ Hp No w w' ((x0 a0 c0) :: M0 :: p0), nC true true fun v6 _ w' => ∃ a0 d0 c0 i0, v6 = .tuple #[.agg #[iN 128, sO a0 (List.length (((lD 128 (ze o1.1 ++ [(⟨3, o1.2.getD 63 0, 0⟩ : Gt)]) (FA 128 (ze o1.1)) o1.2 i).1) ++ [(⟨(2 : Int), (FA 128 (ze o1.1)), (o1.2).getD i 0⟩ : Gt)])) d0, sO ku i cu], i64 i0] ∧ (y0 a0 d0 c0) ∧ i0 = FA 128 ((lD 128 (ze o1.1 ++ [(⟨3, o1.2.getD 63 0, 0⟩ : Gt)]) (FA 128 (ze o1.1)) o1.2 i).1) ∧ Hp No w w' ((x0 a0 c0) :: (rC b8 #[iN 128, sO a0 (List.length (((lD 128 (ze o1.1 ++ [(⟨3, o1.2.getD 63 0, 0⟩ : Gt)]) (FA 128 (ze o1.1)) o1.2 i).1) ++ [(⟨(2 : Int), (FA 128 (ze o1.1)), (o1.2).getD i 0⟩ : Gt)])) d0, sO ku i cu] 175) :: p0)]
  refine MA (m := 12) [0, 0, 0, 0, 12, 28, 63, 127, 255, 255, 511, 2047] [6, 10] p0 K1 BA (fun _ e => J1.ext e) EC (fun N0 => ?_)
  refine gk 6 ?_
  refine WalkT.eff N0 0 ?_ ?_
  ·refine tA fun r w0 uw hF hE => ?_
   have L1 := hF.ext hE
   refine gW fun Q' hK => ?_
   have M1 := L1.as (L' := (_ :: ([(rC b8 x1 175), x4, (rC b1 x3 175), x2]))) rfl
   refine cl (aC 128 ky cy sy ((lD 128 (ze o1.1 ++ [(⟨3, o1.2.getD 63 0, 0⟩ : Gt)]) (FA 128 (ze o1.1)) o1.2 i).1) hSy om om (sA ku) i cu (2 : Int) (FA 128 (ze o1.1)) ((o1.2).getD i 0) ([(rC b8 x1 175), x4, (rC b1 x3 175), x2]) w uw M1) ?_
   rintro _ E2 ⟨N1, O1, P1, Q1, R1, rfl, S1, T1⟩
   have U1 := T1.a5 rfl
   exact hK _ _ (E_ O1 (E_ P1 (E_ Q1 (E_ N1 (A_ rfl (A_ S1 (A_ R1 U1)))))))
  refine bA (fun r => r 6) (fun r r' h => h 6 (by decide) rfl) (fun _ _ => CA rfl) ?_
  refine aA (fun r => AB (r 6) 0) (fun r r' h => by rw [h 6 (by decide) rfl]) ?_ ?_
  ·refine tA fun r w0 uw hF hE => ?_
   obtain ⟨a0, d0, c0, i0, e6, j0, n0, HH⟩ := hF
   replace HH := HH.ext hE
   dsimp only
   rw [e6]
   exact xC
  refine aA (fun r => AB (r 6) 1) (fun r r' h => by rw [h 6 (by decide) rfl]) ?_ ?_
  ·refine tB (fun r w0 uw hF hE => ?_) fun r w0 uw hF hE => ?_
   ·obtain ⟨a0, d0, c0, i0, e6, j0, n0, HH⟩ := hF
    replace HH := HH.ext hE
    dsimp only
    rw [e6]
    exact xC
   ·obtain ⟨a0, d0, c0, i0, e6, j0, n0, HH⟩ := hF
    replace HH := HH.ext hE
    dsimp only
    rw [e6]
    exact xC
  refine WalkT.eff N0 1 ?_ ?_
  ·refine tA fun r w0 uw hF hE => ?_
   obtain ⟨a0, d0, c0, i0, e6, j0, n0, O0⟩ := hF
   replace O0 := O0.ext hE
   dsimp only
   rw [e6]
   refine MC fun Q' hK => ?_
   refine go 1 ?_
   intro F2 V1 G2
   exact hK _ (fun _ => (E_ a0 (E_ d0 (E_ c0 (E_ i0 (A_ e6 (A_ j0 (A_ n0 V1))))))))
  refine bA (fun r => AB (r 6) 1) (fun r r' h => by rw [h 6 (by decide) rfl]) (fun _ _ => zA rfl) ?_
  refine WalkT.nil ?_
  intro r w0 H2 hF hE
  obtain ⟨a0, d0, c0, i0, e6, j0, n0, z0⟩ := hF
  replace z0 := z0.ext hE
  dsimp only
  rw [e6]
  dsimp only [y0] at j0
  dsimp only [p0, x0] at z0
  subst n0
  refine go 3 ?_
  refine bS (E := EI) (l := [(FA 128 ((lD 128 (ze o1.1 ++ [(⟨3, o1.2.getD 63 0, 0⟩ : Gt)]) (FA 128 (ze o1.1)) o1.2 i).1))]) ?_
  intro W1 I2 J2 K2 L2
  refine OD ?_
  refine ⟨by exact hre.2.symm, by rfl, om, ?_⟩
  intro A0 P0 Q0 M2 X1 N2 O2
  refine go 2 ?_
  intro Y1 Z1 P2
  refine go 3 ?_
  have R0 : ((lD 128 (ze o1.1 ++ [(⟨3, o1.2.getD 63 0, 0⟩ : Gt)]) (FA 128 (ze o1.1)) o1.2 i).1) ++ [(⟨(2 : Int), (FA 128 (ze o1.1)), (o1.2).getD i 0⟩ : Gt)] = (lD 128 (ze o1.1 ++ [(⟨3, o1.2.getD 63 0, 0⟩ : Gt)]) (FA 128 (ze o1.1)) o1.2 (i + 1)).1 := by rfl
  have S0 := j0
  rw [R0] at S0
  have c2 : Hp No w Y1 [((some W1), qA EI 3 ([(FA 128 ((lD 128 (ze o1.1 ++ [(⟨3, o1.2.getD 63 0, 0⟩ : Gt)]) (FA 128 (ze o1.1)) o1.2 i).1))]) ([])), (a0, qA EG 210 ((lD 128 (ze o1.1 ++ [(⟨3, o1.2.getD 63 0, 0⟩ : Gt)]) (FA 128 (ze o1.1)) o1.2 (i + 1)).1) c0), (rC b8 #[iN 128, sO a0 (List.length ((lD 128 (ze o1.1 ++ [(⟨3, o1.2.getD 63 0, 0⟩ : Gt)]) (FA 128 (ze o1.1)) o1.2 (i + 1)).1)) d0, sO A0 (i + 1) P0] 175), (A0, qA EI 3 (((lD 128 (ze o1.1 ++ [(⟨3, o1.2.getD 63 0, 0⟩ : Gt)]) (FA 128 (ze o1.1)) o1.2 i).2) ++ ([(FA 128 ((lD 128 (ze o1.1 ++ [(⟨3, o1.2.getD 63 0, 0⟩ : Gt)]) (FA 128 (ze o1.1)) o1.2 i).1))])) Q0), (rC b1 x3 175), x2] := by rw [← R0]; exact Z1
  have d2 : ((lD 128 (ze o1.1 ++ [(⟨3, o1.2.getD 63 0, 0⟩ : Gt)]) (FA 128 (ze o1.1)) o1.2 i).2) ++ ([(FA 128 ((lD 128 (ze o1.1 ++ [(⟨3, o1.2.getD 63 0, 0⟩ : Gt)]) (FA 128 (ze o1.1)) o1.2 i).1))]) = (lD 128 (ze o1.1 ++ [(⟨3, o1.2.getD 63 0, 0⟩ : Gt)]) (FA 128 (ze o1.1)) o1.2 (i + 1)).2 := by rfl
  have T0 := X1
  have U0 := c2
  rw [d2] at T0 U0
  exact ⟨(i + 1, a0, d0, c0, A0, P0, Q0), _, rfl, kp, ⟨⟨om, S0, T0⟩, (U0.pk 6 [1, 3, 2, 4, 5])⟩, vd⟩
 ·have hj : i = 63 := by omega
  refine go 3 ?_
  refine bS (E := EI) (l := [(FA 128 o1.1)]) ?_
  intro Q2 R2 S2 T2 U2
  refine OD ?_
  refine ⟨by exact hre.2.symm, by rfl, om, ?_⟩
  intro e2 f2 g2 V2 h2 X2 Y2
  refine go 2 ?_
  intro Z2 c3 d3
  refine go 2 ?_
  intro e3 i2 f3
  refine go 0 ?_
  subst hj
  rw [show (EJ (CB fm 0)) = _ from pL _, ← ho1]
  exact ⟨_, rfl, ky, cy, sy, e2, f2, g2, rfl, hSy, h2, ((((i2.dropk 5).dropk 4).dropk 3).dropk 0)⟩
end Go.Proofs.YtohngnahcgbfmaaGreatDoor.Cm
namespace Go.Proofs.YtohngnahcgbfmaaGreatDoor.Cm
open Go Vc Er Circ
attribute [local irreducible] cC WC
theorem VO (fm : BitVec 64) (hf : fm < 4#64) (w : World) : Ca 66 [i64 (2 : Int), u64 fm] w fun v w' => ∃ (key : Option Nat) (c : Nat) (sp : LV) (ko : Option Nat) (co : Nat) (so : LV), v = .agg #[i64 ((256 : Nat) : Int), sO key (DJ (CB fm 0) (CB fm 1)).1.length c, sO ko 64 co] ∧ Sl EG key (DJ (CB fm 0) (CB fm 1)).1 c sp ∧ Sl EI ko (DJ (CB fm 0) (CB fm 1)).2 co so ∧ Hp No w w' [(key, qA EG 210 (DJ (CB fm 0) (CB fm 1)).1 sp), (ko, qA EI 3 (DJ (CB fm 0) (CB fm 1)).2 so)] := by
 let x1 : Array Value := #[i64 0, yA, yA]
 have H := Hp.start No w
 refine enter (n := 151) Tryz.func66 rfl rfl (dB rfl) ?_
 refine go 1 ?_
 intro b1 w2 C1 H3 D1
 refine go 2 ?_
 refine cl ((by have h := mG (2 : Int) fm w2; rw [LR fm hf] at h; exact h)) ?_
 rintro _ w5 ⟨rfl, E0⟩
 have H7 := H3.ext E0
 refine go 2 ?_
 refine sq ((KB rfl rfl om).as (v' := iN 256) (by rfl)) ?_
 refine go 2 ?_
 intro b8 w9 E1 F1 G1
 refine go 1 ?_
 intro F0 G0 H1
 have H0 := G0.nil (qA EG 210 [] [])
 have I0 := H0.a3 rfl
 refine go 5 ?_
 refine sq ((VD (a := fm % (2#64)) (b := 1#64) rfl rfl).as (v' := .bool (CB fm 0)) (by exact congrArg Value.bool (UJ fm))) ?_
 have J0 := I0.b1 rfl
 refine cl (TH 256 none 0 ([]) ([] : List Gt) Sl.none om (by exact Nat.zero_le _) none 0 0 0 64 om om (CB fm 0) ([(rC b8 #[iN 256, sO none (List.length ([] : List Gt)) 0, yA] 175), (rC b1 x1 175)]) w F0 J0) ?_
 rintro _ I1 ⟨f0, h0, K0, b0, L0, i0, rfl, j0, hO27, k0⟩
 obtain ⟨o1, ho1⟩ : ∃ q, q = WC 256 ([] : List Gt) 0 64 (CB fm 0) := ⟨_, rfl⟩
 rw [← ho1] at j0 hO27 k0 ⊢
 have c0 := tC 256 ([] : List Gt) 0 64 (CB fm 0)
 rw [← ho1] at c0
 have J1 := k0.a4 rfl
 refine go 4 ?_
 intro M0 N0 K1
 refine go 1 ?_
 simp only [List.length_nil] at c0
 refine go 1 ?_
 refine sq ((iB rfl rfl).as (v' := .bool true) (by rfl)) ?_
 refine go 4 ?_
 refine sq ((VD (a := (fm / (2#64)) % (2#64)) (b := 1#64) rfl rfl).as (v' := .bool (CB fm 1)) (by exact congrArg Value.bool (AM fm))) ?_
 have O0 := N0.b1 rfl
 refine cl (TH 256 f0 h0 K0 o1.1 j0 om om none 0 0 128 192 om om (CB fm 1) ([(b0, qA EI 3 o1.2 i0), (rC b8 #[iN 256, sO f0 (List.length o1.1) h0, yA] 175), (rC b1 x1 175)]) w M0 O0) ?_
 rintro _ L1 ⟨l0, m0, P0, n0, Q0, R0, rfl, o0, hO43, p0⟩
 obtain ⟨o2, ho2⟩ : ∃ q, q = WC 256 o1.1 128 192 (CB fm 1) := ⟨_, rfl⟩
 let x3 : RW := (b0, qA EI 3 o1.2 i0)
 let x2 : RW := (n0, qA EI 3 o2.2 R0)
 rw [← ho2] at o0 hO43 p0 ⊢
 have q0 := tC 256 o1.1 128 192 (CB fm 1)
 rw [← ho2] at q0
 have M1 := p0.a5 rfl
 refine go 4 ?_
 intro S0 T0 N1
 refine go 2 ?_
 have U0 := T0.b1 rfl
 refine cl (aC 256 l0 m0 P0 o2.1 o0 om om none 0 0 (1 : Int) (0 : Int) (0 : Int) ([x2, x3, (rC b8 #[iN 256, sO l0 (List.length o2.1) m0, yA] 175), (rC b1 x1 175)]) w S0 U0) ?_
 rintro _ O1 ⟨P1, a0, d0, r0, V0, rfl, W0, X0⟩
 have Q1 := X0.a5 rfl
 refine go 4 ?_
 intro s0 Y0 R1
 refine go 1 ?_
 subst V0
 have u0 : o2.1 ++ [(⟨(1 : Int), (0 : Int), (0 : Int)⟩ : Gt)] = ze o2.1 := by rfl
 have w0 := W0
 rw [u0] at w0
 have Z0 : Hp No w s0 [(a0, qA EG 210 (ze o2.1) r0), x2, x3, (rC b8 #[iN 256, sO a0 (List.length (ze o2.1)) d0, yA] 175), (rC b1 x1 175)] := by rw [← u0]; exact Y0
 have hzl : (ze o2.1).length = o2.1.length + 1 := by simp [ze]
 refine go 1 ?_
 refine sq ((iB rfl rfl).as (v' := .bool false) (by rfl)) ?_
 refine go 4 ?_
 have c1 := Z0.b1 rfl
 refine cl (rK 256 a0 d0 r0 (ze o2.1) w0 om om none 0 0 o1.2 o2.2 (by exact c0.2) (by exact q0.2) (sA b0) (sA n0) L0 Q0 ([x2, x3, (rC b8 #[iN 256, sO a0 (List.length (ze o2.1)) d0, yA] 175), (rC b1 x1 175)]) w s0 (fun w' _ hR => sJ hO27 (List.mem_of_getElem? (i := 1) rfl) hR) (fun w' _ hR => sJ hO43 (List.mem_of_getElem? (i := 0) rfl) hR) c1) ?_
 rintro _ S1 ⟨T1, e0, x0, y0, d1, rfl, e1, g1⟩
 have U1 := g1.a5 rfl
 refine go 4 ?_
 intro V1 h1 W1
 refine go 1 ?_
 subst d1
 have hlg := BF 256 (ze o2.1) o1.2 o2.2
 have i1 := h1.nil (qA EI 3 [] [])
 have X1 := i1.a6 rfl
 refine go 1 ?_
 refine sq ((iB rfl rfl).as (v' := .bool true) (by rfl)) ?_
 refine go 3 ?_
 refine bS (E := EI) (l := [((cC 256 (ze o2.1) o1.2 o2.2).2)]) ?_
 intro Y1 Z1 j1 z0 c2
 refine uK (E := EI) (k := 1) (l := ([] : List Int)) (l2 := [((cC 256 (ze o2.1) o1.2 o2.2).2)]) z0 rfl Sl.none vF vF rfl vF (z0.rd (k := 0) rfl j1) rfl (by rfl) rfl (by rfl) om ?_
 intro k1 l1 m1 d2 n1 e2 p1
 have f2 := p1.a7 rfl
 refine go 2 ?_
 intro g2 q1 h2
 have r1 : ([] : List Int) ++ ([((cC 256 (ze o2.1) o1.2 o2.2).2)]) = (cC 256 (ze o2.1) o1.2 o2.2).2 :: List.replicate 0 (FA 256 o2.1) := by rfl
 have A0 := n1
 have B0 := q1
 rw [r1] at A0 B0
 refine go 1 ?_
 refine AA (σ := Nat × Option Nat × Nat × LV) (fun (i, ku, cu, su) => [(4, pT b1), (6, pT b8), (9, i64 ((FA 256 o2.1))), (14, iN (i + 1))]) (fun (i, ku, cu, su) w' => (i ≤ 63 ∧ Sl EI ku ((cC 256 (ze o2.1) o1.2 o2.2).2 :: List.replicate i (FA 256 o2.1)) cu su) ∧ Hp No w w' [(e0, qA EG 210 ((cC 256 (ze o2.1) o1.2 o2.2).1) y0), (ku, qA EI 3 ((cC 256 (ze o2.1) o1.2 o2.2).2 :: List.replicate i (FA 256 o2.1)) su), (rC b8 #[iN 256, sO e0 (List.length ((cC 256 (ze o2.1) o1.2 o2.2).1)) x0, sO ku (i + 1) cu] 175), (rC b1 x1 175), x3, x2]) (fun (i, ku, cu, su) => 63 - i) ((0, k1, l1, m1)) ?_ ?_ ?_
 ·exact kp
 ·exact ⟨⟨om, A0⟩, (B0.pk 7 [2, 1, 5, 6, 4, 3])⟩
 rintro ⟨i, ku, cu, su⟩ ρ i2 ⟨⟨hq, hSu⟩, HL⟩
 refine go 2 ?_
 refine iA ((((i + 1) : Nat) : Int) < (64 : Int)) rfl (fun s1 => ?_) (fun s1 => ?_)
 ·refine go 3 ?_
  refine bS (E := EI) (l := [(FA 256 o2.1)]) ?_
  intro j2 k2 m2 n2 p2
  refine OD ?_
  refine ⟨by rw [List.length_cons, List.length_replicate], by rfl, om, ?_⟩
  intro t1 u1 w1 q2 y1 r2 s2
  refine go 2 ?_
  intro t2 z1 u2
  refine go 1 ?_
  refine sq ((aB rfl rfl om).as (v' := iN (i + 1 + 1)) (by rfl)) ?_
  refine go 1 ?_
  have A1 : ((cC 256 (ze o2.1) o1.2 o2.2).2 :: List.replicate i (FA 256 o2.1)) ++ ([(FA 256 o2.1)]) = (cC 256 (ze o2.1) o1.2 o2.2).2 :: List.replicate (i + 1) (FA 256 o2.1) := by rw [List.replicate_succ']; rfl
  have C0 := y1
  have D0 := z1
  rw [A1] at C0 D0
  exact ⟨(i + 1, t1, u1, w1), _, rfl, kp, ⟨⟨om, C0⟩, (D0.dropk 0)⟩, vd⟩
 ·have hj : i = 63 := by omega
  refine go 2 ?_
  intro y2 B1 z2
  refine go 0 ?_
  subst hj
  rw [FP ho1 ho2]
  exact ⟨_, rfl, e0, x0, y0, ku, cu, su, rfl, e1, hSu, ((((B1.dropk 5).dropk 4).dropk 3).dropk 2)⟩
end Go.Proofs.YtohngnahcgbfmaaGreatDoor.Cm
namespace Go.Proofs.YtohngnahcgbfmaaGreatDoor.Cm
open Go Vc Er Circ
def pQ (o1 o2 : List Gt × List Int) (i : Nat) : List Gt × List Int := yC 256 (cC 256 (ze o2.1) o1.2 o2.2).1 (cC 256 (ze o2.1) o1.2 o2.2).2 o2.2 o1.2 i
theorem IU (o1 o2 : List Gt × List Int) (i : Nat) : (pQ o1 o2 i).1.length = (cC 256 (ze o2.1) o1.2 o2.2).1.length + 3 * i ∧ (pQ o1 o2 i).2.length = i := sE _ _ _ _ _ _
theorem PU {x y : Bool} {o1 o2 : List Gt × List Int} (ho1 : o1 = WC 256 [] 0 64 x) (ho2 : o2 = WC 256 o1.1 128 192 y) : dK x y = pQ o1 o2 64 := EP ho1 ho2
attribute [local irreducible] cC pQ WC
theorem UO (fm : BitVec 64) (hf : fm < 4#64) (w : World) : Ca 66 [i64 (3 : Int), u64 fm] w fun v w' => ∃ (key : Option Nat) (c : Nat) (sp : LV) (ko : Option Nat) (co : Nat) (so : LV), v = .agg #[i64 ((256 : Nat) : Int), sO key (dK (CB fm 0) (CB fm 1)).1.length c, sO ko 64 co] ∧ Sl EG key (dK (CB fm 0) (CB fm 1)).1 c sp ∧ Sl EI ko (dK (CB fm 0) (CB fm 1)).2 co so ∧ Hp No w w' [(key, qA EG 210 (dK (CB fm 0) (CB fm 1)).1 sp), (ko, qA EI 3 (dK (CB fm 0) (CB fm 1)).2 so)] := by
 let x2 : Array Value := #[i64 0, yA, yA]
 have H := Hp.start No w
 refine enter (n := 151) Tryz.func66 rfl rfl (dB rfl) ?_
 refine go 1 ?_
 intro b1 w2 M2 H3 N2
 refine go 2 ?_
 refine cl ((by have h := mG (3 : Int) fm w2; rw [pN fm hf] at h; exact h)) ?_
 rintro _ w5 ⟨rfl, m1⟩
 have H7 := H3.ext m1
 refine go 2 ?_
 refine sq ((KB rfl rfl om).as (v' := iN 256) (by rfl)) ?_
 refine go 2 ?_
 intro b8 w9 O2 P2 Q2
 refine go 1 ?_
 intro n1 p1 R2
 have q1 := p1.nil (qA EG 210 [] [])
 have r1 := q1.a3 rfl
 refine go 5 ?_
 refine sq ((VD (a := fm % (2#64)) (b := 1#64) rfl rfl).as (v' := .bool (CB fm 0)) (by exact congrArg Value.bool (UJ fm))) ?_
 have s1 := r1.b1 rfl
 refine cl (TH 256 none 0 ([]) ([] : List Gt) Sl.none om (by exact Nat.zero_le _) none 0 0 0 64 om om (CB fm 0) ([(rC b8 #[iN 256, sO none (List.length ([] : List Gt)) 0, yA] 175), (rC b1 x2 175)]) w n1 s1) ?_
 rintro _ S2 ⟨G0, H0, t1, q0, I0, J0, rfl, K0, hO27, L0⟩
 obtain ⟨o1, ho1⟩ : ∃ q, q = WC 256 ([] : List Gt) 0 64 (CB fm 0) := ⟨_, rfl⟩
 rw [← ho1] at K0 hO27 L0 ⊢
 have x0 := tC 256 ([] : List Gt) 0 64 (CB fm 0)
 rw [← ho1] at x0
 have T2 := L0.a4 rfl
 refine go 4 ?_
 intro u1 w1 U2
 refine go 1 ?_
 simp only [List.length_nil] at x0
 refine go 1 ?_
 refine sq ((iB rfl rfl).as (v' := .bool true) (by rfl)) ?_
 refine go 4 ?_
 refine sq ((VD (a := (fm / (2#64)) % (2#64)) (b := 1#64) rfl rfl).as (v' := .bool (CB fm 1)) (by exact congrArg Value.bool (AM fm))) ?_
 have y1 := w1.b1 rfl
 refine cl (TH 256 G0 H0 t1 o1.1 K0 om om none 0 0 128 192 om om (CB fm 1) ([(q0, qA EI 3 o1.2 J0), (rC b8 #[iN 256, sO G0 (List.length o1.1) H0, yA] 175), (rC b1 x2 175)]) w u1 y1) ?_
 rintro _ V2 ⟨M0, N0, z1, y0, O0, A1, rfl, P0, hO43, Q0⟩
 obtain ⟨o2, ho2⟩ : ∃ q, q = WC 256 o1.1 128 192 (CB fm 1) := ⟨_, rfl⟩
 let x4 : RW := (q0, qA EI 3 o1.2 J0)
 let x1 : RW := (y0, qA EI 3 o2.2 A1)
 rw [← ho2] at P0 hO43 Q0 ⊢
 have R0 := tC 256 o1.1 128 192 (CB fm 1)
 rw [← ho2] at R0
 have X2 := Q0.a5 rfl
 refine go 4 ?_
 intro B1 C1 Y2
 refine go 2 ?_
 have D1 := C1.b1 rfl
 refine cl (aC 256 M0 N0 z1 o2.1 P0 om om none 0 0 (1 : Int) (0 : Int) (0 : Int) ([x1, x4, (rC b8 #[iN 256, sO M0 (List.length o2.1) N0, yA] 175), (rC b1 x2 175)]) w B1 D1) ?_
 rintro _ Z2 ⟨c3, r0, z0, S0, E1, rfl, F1, G1⟩
 have d3 := G1.a5 rfl
 refine go 4 ?_
 intro T0 H1 e3
 refine go 1 ?_
 subst E1
 have U0 : o2.1 ++ [(⟨(1 : Int), (0 : Int), (0 : Int)⟩ : Gt)] = ze o2.1 := by rfl
 have V0 := F1
 rw [U0] at V0
 have I1 : Hp No w T0 [(r0, qA EG 210 (ze o2.1) S0), x1, x4, (rC b8 #[iN 256, sO r0 (List.length (ze o2.1)) z0, yA] 175), (rC b1 x2 175)] := by rw [← U0]; exact H1
 have hzl : (ze o2.1).length = o2.1.length + 1 := by simp [ze]
 refine go 1 ?_
 refine sq ((iB rfl rfl).as (v' := .bool false) (by rfl)) ?_
 refine go 4 ?_
 have J1 := I1.b1 rfl
 refine cl (rK 256 r0 z0 S0 (ze o2.1) V0 om om none 0 0 o1.2 o2.2 (by exact x0.2) (by exact R0.2) (sA q0) (sA y0) I0 O0 ([x1, x4, (rC b8 #[iN 256, sO r0 (List.length (ze o2.1)) z0, yA] 175), (rC b1 x2 175)]) w T0 (fun w' _ hR => sJ hO27 (List.mem_of_getElem? (i := 1) rfl) hR) (fun w' _ hR => sJ hO43 (List.mem_of_getElem? (i := 0) rfl) hR) J1) ?_
 rintro _ f3 ⟨g3, K1, L1, M1, N1, rfl, O1, P1⟩
 have h3 := P1.a5 rfl
 refine go 4 ?_
 intro i3 Q1 j3
 refine go 1 ?_
 subst N1
 have hlg := BF 256 (ze o2.1) o1.2 o2.2
 have R1 := Q1.nil (qA EI 3 [] [])
 have S1 := R1.a6 rfl
 refine go 1 ?_
 refine sq ((iB rfl rfl).as (v' := .bool false) (by rfl)) ?_
 refine go 1 ?_
 refine AA (σ := Nat × Option Nat × Nat × LV × Option Nat × Nat × LV) (fun (i, ky, cy, sy, ku, cu, su) => [(4, pT b1), (6, pT b8), (7, sO q0 64 I0), (8, sO y0 64 O0), (13, i64 (((cC 256 (ze o2.1) o1.2 o2.2).2))), (15, iN i)]) (fun (i, ky, cy, sy, ku, cu, su) w' => (i ≤ 64 ∧ Sl EG ky (pQ o1 o2 i).1 cy sy ∧ Sl EI ku (pQ o1 o2 i).2 cu su) ∧ Hp No w w' [(ky, qA EG 210 ((pQ o1 o2 i).1) sy), (ku, qA EI 3 ((pQ o1 o2 i).2) su), (rC b8 #[iN 256, sO ky (List.length ((pQ o1 o2 i).1)) cy, sO ku i cu] 175), (rC b1 x2 175), x4, x1]) (fun (i, ky, cy, sy, ku, cu, su) => 64 - i) ((0, K1, L1, M1, none, 0, [])) ?_ ?_ ?_
 ·exact kp
 ·exact (by unfold pQ; exact ⟨⟨om, O1, Sl.none⟩, (S1.pk 6 [1, 0, 4, 5, 3, 2])⟩)
 rintro ⟨i, ky, cy, sy, ku, cu, su⟩ ρ k3 ⟨⟨hq, hSy, hSu⟩, HL⟩
 let x5 : Array Value := #[iN 256, sO ky (List.length ((pQ o1 o2 i).1)) cy, sO ku i cu]
 let x3 : RW := (ku, qA EI 3 ((pQ o1 o2 i).2) su)
 have hpi := IU o1 o2 i
 refine go 2 ?_
 refine iA (((i : Nat) : Int) < (64 : Int)) rfl (fun T1 => ?_) (fun T1 => ?_)
 ·refine go 1 ?_
  have U1 := (HL.pk 6 [0, 2, 1, 3, 4, 5])
  let n0 : List RW := [x3, (rC b1 x2 175), x4, x1]
  let A0 := fun (a0 : Option Nat) (e0 : LV) => ((a0, qA EG 210 (((pQ o1 o2 i).1) ++ [(⟨(1 : Int), (o2.2).getD i 0, (o1.2).getD i 0⟩ : Gt)]) e0) : RW)
  let W0 := ((rC b8 x5 175) : RW)
  let B0 := fun (a0 : Option Nat) (c0 : Nat) (e0 : LV) => (Sl EG a0 (((pQ o1 o2 i).1) ++ [(⟨(1 : Int), (o2.2).getD i 0, (o1.2).getD i 0⟩ : Gt)]) c0 e0 : Prop)
  let V1 : mC := [nC false false fun _ _ w' => Hp No w w' ((ky, qA EG 210 ((pQ o1 o2 i).1) sy) :: W0 :: n0), nC true false fun v9 _ w' => ∃ a0 c0 e0 h0, v9 = .tuple #[.agg #[iN 256, sO a0 (List.length (((pQ o1 o2 i).1) ++ [(⟨(1 : Int), (o2.2).getD i 0, (o1.2).getD i 0⟩ : Gt)])) c0, sO ku i cu], i64 h0] ∧ (B0 a0 c0 e0) ∧ h0 = FA 256 ((pQ o1 o2 i).1) ∧ Hp No w w' ((A0 a0 e0) :: W0 :: n0), nC true true fun v9 _ w' => ∃ a0 c0 e0 h0, v9 = .tuple #[.agg #[iN 256, sO a0 (List.length (((pQ o1 o2 i).1) ++ [(⟨(1 : Int), (o2.2).getD i 0, (o1.2).getD i 0⟩ : Gt)])) c0, sO ku i cu], i64 h0] ∧ (B0 a0 c0 e0) ∧ h0 = FA 256 ((pQ o1 o2 i).1) ∧ Hp No w w' ((A0 a0 e0) :: (rC b8 #[iN 256, sO a0 (List.length (((pQ o1 o2 i).1) ++ [(⟨(1 : Int), (o2.2).getD i 0, (o1.2).getD i 0⟩ : Gt)])) c0, sO ku i cu] 175) :: n0)]
  refine MA (m := 15) [0, 0, 0, 6, 14, 0, 0, 96, 224, 511, 1023, 2047, 2047, 4095, 16383] [9, 13] n0 V1 BA (fun _ e => U1.ext e) EC (fun X0 => ?_)
  refine gk 9 ?_
  refine WalkT.eff X0 0 ?_ ?_
  ·refine tA fun r w0 uw hF hE => ?_
   have W1 := hF.ext hE
   refine gW fun Q' hK => ?_
   have X1 := W1.b1 rfl
   refine cl (aC 256 ky cy sy ((pQ o1 o2 i).1) hSy om om (sA ku) i cu (1 : Int) ((o2.2).getD i 0) ((o1.2).getD i 0) ([(rC b8 x5 175), x3, (rC b1 x2 175), x4, x1]) w uw X1) ?_
   rintro _ l3 ⟨Y1, Z1, c2, d2, e2, rfl, f2, g2⟩
   have h2 := g2.a6 rfl
   exact hK _ _ (E_ Z1 (E_ c2 (E_ d2 (E_ Y1 (A_ rfl (A_ f2 (A_ e2 h2)))))))
  refine bA (fun r => r 9) (fun r r' h => h 9 (by decide) rfl) (fun _ _ => CA rfl) ?_
  refine aA (fun r => AB (r 9) 0) (fun r r' h => by rw [h 9 (by decide) rfl]) ?_ ?_
  ·refine tA fun r w0 uw hF hE => ?_
   obtain ⟨a0, c0, e0, h0, e9, j0, l0, HH⟩ := hF
   replace HH := HH.ext hE
   dsimp only
   rw [e9]
   exact xC
  refine aA (fun r => AB (r 9) 1) (fun r r' h => by rw [h 9 (by decide) rfl]) ?_ ?_
  ·refine tB (fun r w0 uw hF hE => ?_) fun r w0 uw hF hE => ?_
   ·obtain ⟨a0, c0, e0, h0, e9, j0, l0, HH⟩ := hF
    replace HH := HH.ext hE
    dsimp only
    rw [e9]
    exact xC
   ·obtain ⟨a0, c0, e0, h0, e9, j0, l0, HH⟩ := hF
    replace HH := HH.ext hE
    dsimp only
    rw [e9]
    exact xC
  refine WalkT.eff X0 1 ?_ ?_
  ·refine tA fun r w0 uw hF hE => ?_
   obtain ⟨a0, c0, e0, h0, e9, j0, l0, Y0⟩ := hF
   replace Y0 := Y0.ext hE
   dsimp only
   rw [e9]
   refine MC fun Q' hK => ?_
   refine go 1 ?_
   intro m3 i2 n3
   exact hK _ (fun _ => (E_ a0 (E_ c0 (E_ e0 (E_ h0 (A_ e9 (A_ j0 (A_ l0 i2))))))))
  refine bA (fun r => AB (r 9) 1) (fun r r' h => by rw [h 9 (by decide) rfl]) (fun _ _ => zA rfl) ?_
  refine WalkT.nil ?_
  intro r w0 j2 hF hE
  obtain ⟨a0, c0, e0, h0, e9, j0, l0, s0⟩ := hF
  replace s0 := s0.ext hE
  dsimp only
  rw [e9]
  dsimp only [B0] at j0
  dsimp only [n0, A0] at s0
  subst l0
  refine go 3 ?_
  have k2 := s0.as (L' := (_ :: ([(rC b8 #[iN 256, sO a0 (List.length (((pQ o1 o2 i).1) ++ [(⟨(1 : Int), (o2.2).getD i 0, (o1.2).getD i 0⟩ : Gt)])) c0, sO ku i cu] 175), x3, (rC b1 x2 175), x4, x1]))) rfl
  refine cl (aC 256 a0 c0 e0 (((pQ o1 o2 i).1) ++ [(⟨(1 : Int), (o2.2).getD i 0, (o1.2).getD i 0⟩ : Gt)]) j0 om (by simp only [List.length_append, List.length_cons, List.length_nil]; omega) (sA ku) i cu (2 : Int) ((cC 256 (ze o2.1) o1.2 o2.2).2) (FA 256 ((pQ o1 o2 i).1)) ([(rC b8 #[iN 256, sO a0 (List.length (((pQ o1 o2 i).1) ++ [(⟨(1 : Int), (o2.2).getD i 0, (o1.2).getD i 0⟩ : Gt)])) c0, sO ku i cu] 175), x3, (rC b1 x2 175), x4, x1]) w j2 k2) ?_
  rintro _ o3 ⟨p3, o0, u0, Z0, l2, rfl, m2, n2⟩
  have q3 := n2.a6 rfl
  refine go 4 ?_
  intro r3 p2 s3
  refine go 1 ?_
  subst l2
  refine go 0 ?_
  let p0 : List RW := [x3, (rC b1 x2 175), x4, x1]
  let C0 := fun (b0 : Option Nat) (d0 : LV) => ((b0, qA EG 210 (((pQ o1 o2 i).1) ++ [(⟨(1 : Int), (o2.2).getD i 0, (o1.2).getD i 0⟩ : Gt)] ++ [(⟨(2 : Int), ((cC 256 (ze o2.1) o1.2 o2.2).2), (FA 256 ((pQ o1 o2 i).1))⟩ : Gt)] ++ [(⟨(1 : Int), (o1.2).getD i 0, (FA 256 (((pQ o1 o2 i).1) ++ [(⟨(1 : Int), (o2.2).getD i 0, (o1.2).getD i 0⟩ : Gt)]))⟩ : Gt)]) d0) : RW)
  let c1 := ((rC b8 #[iN 256, sO o0 (List.length (((pQ o1 o2 i).1) ++ [(⟨(1 : Int), (o2.2).getD i 0, (o1.2).getD i 0⟩ : Gt)] ++ [(⟨(2 : Int), ((cC 256 (ze o2.1) o1.2 o2.2).2), (FA 256 ((pQ o1 o2 i).1))⟩ : Gt)])) u0, sO ku i cu] 175) : RW)
  let D0 := fun (b0 : Option Nat) (f0 : Nat) (d0 : LV) => (Sl EG b0 (((pQ o1 o2 i).1) ++ [(⟨(1 : Int), (o2.2).getD i 0, (o1.2).getD i 0⟩ : Gt)] ++ [(⟨(2 : Int), ((cC 256 (ze o2.1) o1.2 o2.2).2), (FA 256 ((pQ o1 o2 i).1))⟩ : Gt)] ++ [(⟨(1 : Int), (o1.2).getD i 0, (FA 256 (((pQ o1 o2 i).1) ++ [(⟨(1 : Int), (o2.2).getD i 0, (o1.2).getD i 0⟩ : Gt)]))⟩ : Gt)]) f0 d0 : Prop)
  let q2 : mC := [nC false false fun _ _ w' => Hp No w w' ((o0, qA EG 210 (((pQ o1 o2 i).1) ++ [(⟨(1 : Int), (o2.2).getD i 0, (o1.2).getD i 0⟩ : Gt)] ++ [(⟨(2 : Int), ((cC 256 (ze o2.1) o1.2 o2.2).2), (FA 256 ((pQ o1 o2 i).1))⟩ : Gt)]) Z0) :: c1 :: p0), nC true false fun v6 _ w' => ∃ b0 f0 d0 i0, v6 = .tuple #[.agg #[iN 256, sO b0 (List.length (((pQ o1 o2 i).1) ++ [(⟨(1 : Int), (o2.2).getD i 0, (o1.2).getD i 0⟩ : Gt)] ++ [(⟨(2 : Int), ((cC 256 (ze o2.1) o1.2 o2.2).2), (FA 256 ((pQ o1 o2 i).1))⟩ : Gt)] ++ [(⟨(1 : Int), (o1.2).getD i 0, (FA 256 (((pQ o1 o2 i).1) ++ [(⟨(1 : Int), (o2.2).getD i 0, (o1.2).getD i 0⟩ : Gt)]))⟩ : Gt)])) f0, sO ku i cu], i64 i0] ∧ (D0 b0 f0 d0) ∧ i0 = FA 256 (((pQ o1 o2 i).1) ++ [(⟨(1 : Int), (o2.2).getD i 0, (o1.2).getD i 0⟩ : Gt)] ++ [(⟨(2 : Int), ((cC 256 (ze o2.1) o1.2 o2.2).2), (FA 256 ((pQ o1 o2 i).1))⟩ : Gt)]) ∧ Hp No w w' ((C0 b0 d0) :: c1 :: p0), nC true true fun v6 _ w' => ∃ b0 f0 d0 i0, v6 = .tuple #[.agg #[iN 256, sO b0 (List.length (((pQ o1 o2 i).1) ++ [(⟨(1 : Int), (o2.2).getD i 0, (o1.2).getD i 0⟩ : Gt)] ++ [(⟨(2 : Int), ((cC 256 (ze o2.1) o1.2 o2.2).2), (FA 256 ((pQ o1 o2 i).1))⟩ : Gt)] ++ [(⟨(1 : Int), (o1.2).getD i 0, (FA 256 (((pQ o1 o2 i).1) ++ [(⟨(1 : Int), (o2.2).getD i 0, (o1.2).getD i 0⟩ : Gt)]))⟩ : Gt)])) f0, sO ku i cu], i64 i0] ∧ (D0 b0 f0 d0) ∧ i0 = FA 256 (((pQ o1 o2 i).1) ++ [(⟨(1 : Int), (o2.2).getD i 0, (o1.2).getD i 0⟩ : Gt)] ++ [(⟨(2 : Int), ((cC 256 (ze o2.1) o1.2 o2.2).2), (FA 256 ((pQ o1 o2 i).1))⟩ : Gt)]) ∧ Hp No w w' ((C0 b0 d0) :: (rC b8 #[iN 256, sO b0 (List.length (((pQ o1 o2 i).1) ++ [(⟨(1 : Int), (o2.2).getD i 0, (o1.2).getD i 0⟩ : Gt)] ++ [(⟨(2 : Int), ((cC 256 (ze o2.1) o1.2 o2.2).2), (FA 256 ((pQ o1 o2 i).1))⟩ : Gt)] ++ [(⟨(1 : Int), (o1.2).getD i 0, (FA 256 (((pQ o1 o2 i).1) ++ [(⟨(1 : Int), (o2.2).getD i 0, (o1.2).getD i 0⟩ : Gt)]))⟩ : Gt)])) f0, sO ku i cu] 175) :: p0)]
  refine MA (m := 12) [0, 0, 0, 6, 14, 0, 63, 127, 255, 255, 511, 2047] [6, 10] p0 q2 BA (fun _ e => p2.ext e) EC (fun d1 => ?_)
  refine gk 6 ?_
  refine WalkT.eff d1 0 ?_ ?_
  ·refine tA fun r w0 uw hF hE => ?_
   have r2 := hF.ext hE
   refine gW fun Q' hK => ?_
   have s2 := r2.as (L' := (_ :: ([(rC b8 #[iN 256, sO o0 (List.length (((pQ o1 o2 i).1) ++ [(⟨(1 : Int), (o2.2).getD i 0, (o1.2).getD i 0⟩ : Gt)] ++ [(⟨(2 : Int), ((cC 256 (ze o2.1) o1.2 o2.2).2), (FA 256 ((pQ o1 o2 i).1))⟩ : Gt)])) u0, sO ku i cu] 175), x3, (rC b1 x2 175), x4, x1]))) rfl
   refine cl (aC 256 o0 u0 Z0 (((pQ o1 o2 i).1) ++ [(⟨(1 : Int), (o2.2).getD i 0, (o1.2).getD i 0⟩ : Gt)] ++ [(⟨(2 : Int), ((cC 256 (ze o2.1) o1.2 o2.2).2), (FA 256 ((pQ o1 o2 i).1))⟩ : Gt)]) m2 om (by simp only [List.length_append, List.length_cons, List.length_nil]; omega) (sA ku) i cu (1 : Int) ((o1.2).getD i 0) (FA 256 (((pQ o1 o2 i).1) ++ [(⟨(1 : Int), (o2.2).getD i 0, (o1.2).getD i 0⟩ : Gt)])) ([(rC b8 #[iN 256, sO o0 (List.length (((pQ o1 o2 i).1) ++ [(⟨(1 : Int), (o2.2).getD i 0, (o1.2).getD i 0⟩ : Gt)] ++ [(⟨(2 : Int), ((cC 256 (ze o2.1) o1.2 o2.2).2), (FA 256 ((pQ o1 o2 i).1))⟩ : Gt)])) u0, sO ku i cu] 175), x3, (rC b1 x2 175), x4, x1]) w uw s2) ?_
   rintro _ t3 ⟨t2, u2, y2, z2, A2, rfl, B2, C2⟩
   have D2 := C2.a6 rfl
   exact hK _ _ (E_ u2 (E_ y2 (E_ z2 (E_ t2 (A_ rfl (A_ B2 (A_ A2 D2)))))))
  refine bA (fun r => r 6) (fun r r' h => h 6 (by decide) rfl) (fun _ _ => CA rfl) ?_
  refine aA (fun r => AB (r 6) 0) (fun r r' h => by rw [h 6 (by decide) rfl]) ?_ ?_
  ·refine tA fun r w0 uw hF hE => ?_
   obtain ⟨b0, f0, d0, i0, e6, k0, m0, HH⟩ := hF
   replace HH := HH.ext hE
   dsimp only
   rw [e6]
   exact xC
  refine aA (fun r => AB (r 6) 1) (fun r r' h => by rw [h 6 (by decide) rfl]) ?_ ?_
  ·refine tB (fun r w0 uw hF hE => ?_) fun r w0 uw hF hE => ?_
   ·obtain ⟨b0, f0, d0, i0, e6, k0, m0, HH⟩ := hF
    replace HH := HH.ext hE
    dsimp only
    rw [e6]
    exact xC
   ·obtain ⟨b0, f0, d0, i0, e6, k0, m0, HH⟩ := hF
    replace HH := HH.ext hE
    dsimp only
    rw [e6]
    exact xC
  refine WalkT.eff d1 1 ?_ ?_
  ·refine tA fun r w0 uw hF hE => ?_
   obtain ⟨b0, f0, d0, i0, e6, k0, m0, e1⟩ := hF
   replace e1 := e1.ext hE
   dsimp only
   rw [e6]
   refine MC fun Q' hK => ?_
   refine go 1 ?_
   intro u3 E2 w3
   exact hK _ (fun _ => (E_ b0 (E_ f0 (E_ d0 (E_ i0 (A_ e6 (A_ k0 (A_ m0 E2))))))))
  refine bA (fun r => AB (r 6) 1) (fun r r' h => by rw [h 6 (by decide) rfl]) (fun _ _ => zA rfl) ?_
  refine WalkT.nil ?_
  intro r w0 y3 hF hE
  obtain ⟨b0, f0, d0, i0, e6, k0, m0, E0⟩ := hF
  replace E0 := E0.ext hE
  dsimp only
  rw [e6]
  dsimp only [D0] at k0
  dsimp only [p0, C0] at E0
  subst m0
  refine go 3 ?_
  refine bS (E := EI) (l := [(FA 256 (((pQ o1 o2 i).1) ++ [(⟨(1 : Int), (o2.2).getD i 0, (o1.2).getD i 0⟩ : Gt)] ++ [(⟨(2 : Int), ((cC 256 (ze o2.1) o1.2 o2.2).2), (FA 256 ((pQ o1 o2 i).1))⟩ : Gt)]))]) ?_
  intro F2 z3 A3 B3 C3
  refine OD ?_
  refine ⟨by exact hpi.2.symm, by rfl, om, ?_⟩
  intro F0 g1 h1 D3 G2 E3 F3
  refine go 2 ?_
  intro H2 I2 G3
  refine go 3 ?_
  have i1 : ((pQ o1 o2 i).1) ++ [(⟨(1 : Int), (o2.2).getD i 0, (o1.2).getD i 0⟩ : Gt)] ++ [(⟨(2 : Int), ((cC 256 (ze o2.1) o1.2 o2.2).2), (FA 256 ((pQ o1 o2 i).1))⟩ : Gt)] ++ [(⟨(1 : Int), (o1.2).getD i 0, (FA 256 (((pQ o1 o2 i).1) ++ [(⟨(1 : Int), (o2.2).getD i 0, (o1.2).getD i 0⟩ : Gt)]))⟩ : Gt)] = (pQ o1 o2 (i + 1)).1 := by unfold pQ; rfl
  have j1 := k0
  rw [i1] at j1
  have J2 : Hp No w H2 [((some F2), qA EI 3 ([(FA 256 (((pQ o1 o2 i).1) ++ [(⟨(1 : Int), (o2.2).getD i 0, (o1.2).getD i 0⟩ : Gt)] ++ [(⟨(2 : Int), ((cC 256 (ze o2.1) o1.2 o2.2).2), (FA 256 ((pQ o1 o2 i).1))⟩ : Gt)]))]) ([])), (b0, qA EG 210 ((pQ o1 o2 (i + 1)).1) d0), (rC b8 #[iN 256, sO b0 (List.length ((pQ o1 o2 (i + 1)).1)) f0, sO F0 (i + 1) g1] 175), (F0, qA EI 3 (((pQ o1 o2 i).2) ++ ([(FA 256 (((pQ o1 o2 i).1) ++ [(⟨(1 : Int), (o2.2).getD i 0, (o1.2).getD i 0⟩ : Gt)] ++ [(⟨(2 : Int), ((cC 256 (ze o2.1) o1.2 o2.2).2), (FA 256 ((pQ o1 o2 i).1))⟩ : Gt)]))])) h1), (rC b1 x2 175), x4, x1] := by rw [← i1]; exact I2
  have K2 : ((pQ o1 o2 i).2) ++ ([(FA 256 (((pQ o1 o2 i).1) ++ [(⟨(1 : Int), (o2.2).getD i 0, (o1.2).getD i 0⟩ : Gt)] ++ [(⟨(2 : Int), ((cC 256 (ze o2.1) o1.2 o2.2).2), (FA 256 ((pQ o1 o2 i).1))⟩ : Gt)]))]) = (pQ o1 o2 (i + 1)).2 := by unfold pQ; rfl
  have k1 := G2
  have l1 := J2
  rw [K2] at k1 l1
  exact ⟨(i + 1, b0, f0, d0, F0, g1, h1), _, rfl, kp, ⟨⟨om, j1, k1⟩, (l1.pk 7 [1, 3, 2, 4, 5, 6])⟩, vd⟩
 ·have hj : i = 64 := by omega
  refine go 2 ?_
  intro I3 L2 J3
  refine go 0 ?_
  subst hj
  rw [PU ho1 ho2]
  exact ⟨_, rfl, ky, cy, sy, ku, cu, su, rfl, hSy, hSu, ((((L2.dropk 5).dropk 4).dropk 3).dropk 2)⟩
end Go.Proofs.YtohngnahcgbfmaaGreatDoor.Cm
namespace Go.Proofs.YtohngnahcgbfmaaGreatDoor.Mt
open Go Vc Er Ek Circ Mi
open Co Cm
theorem VE : wC Tryz.prog 34 E64 := UE (by kernel_rfl) (by kernel_rfl)
theorem wM : TB Tryz.prog 36 3 = some (3, 1, 3) := by kernel_rfl
theorem vM : TB Tryz.prog 36 4 = some (4, 1, 34) := by kernel_rfl
theorem BA : Tryz.prog.follows .mixedOrders = true := by kernel_rfl
theorem mL : NA Tryz.prog 3 = true := by kernel_rfl
theorem dM : NA Tryz.prog 34 = true := by kernel_rfl
theorem nK : eD Tryz.prog 23 = some (34, 1) := by kernel_rfl
theorem dP (n : Int) (gs : List Gt) (ol : List Int) (ga oa : Option Addr) (gc oc mo : Nat) (w : World) (hGs : Rd EG w ga gs) (hgl : gs.length ≤ 140737488355328) : Ca 65 [.agg #[i64 n, .slice ga gs.length gc, .slice oa mo oc]] w fun v w' => v = iN (FB gs gs.length) ∧ Ext w w' := by
 have H := Hp.start No w
 refine enter (n := 22) Tryz.func65 rfl rfl (dB rfl) ?_
 refine go 1 ?_
 intro b1 w2 b0 H3 c0
 refine go 3 ?_
 refine AA (σ := Nat) (fun i => [(1, pT b1), (3, iN (FB gs i)), (4, iN i)]) (fun i w' => i ≤ gs.length ∧ Hp No w w' [(rC b1 #[i64 n, .slice ga gs.length gc, .slice oa mo oc] 175)]) (fun i => gs.length - i) (0) ?_ ?_ ?_
 ·exact kp
 ·exact ⟨om, H3⟩
 rintro i ρ w5 ⟨hi, HL⟩
 have hle := DG gs i
 refine go 5 ?_
 refine iA (((i : Nat) : Int) < (gs.length : Nat)) rfl (fun c9 => ?_) (fun c9 => ?_)
 ·refine go 5 ?_
  refine sq (MF (E := EG) (l := gs) (j := i) (o := 0) (v := (gs.getD i g0)) (u := i64 ((gs.getD i g0).k)) vF (hGs.ext HL.chg) (QA om) rfl rfl rfl) ?_
  refine go 1 ?_
  refine iA (((gs.getD i g0).k : Int) = (2 : Int)) rfl (fun a0 => ?_) (fun a0 => ?_)
  ·refine go 6 ?_
   exact ⟨i + 1, _, rfl, ⟨rfl, congrArg i64 (by rw [FB, if_pos a0]; rfl), rfl, trivial⟩, ⟨om, HL⟩, vd⟩
  ·refine go 3 ?_
   exact ⟨i + 1, _, rfl, ⟨rfl, congrArg i64 (by rw [FB, if_neg a0]), rfl, trivial⟩, ⟨om, HL⟩, vd⟩
 ·obtain rfl : i = gs.length := by omega
  refine go 2 ?_
  exact ⟨_, rfl, rfl, HL.chg⟩
theorem fN (o : Mo) (h : LC o.k o.c ≠ 0) (w : World) : Ca 66 [i64 o.k, u64 o.c] w fun v w' => ∃ (key : Option Nat) (c : Nat) (sp : LV) (ko : Option Nat) (co : Nat) (so : LV), v = .agg #[i64 (((128 * qB o) : Nat) : Int), sO key (SA o).1.length c, sO ko 64 co] ∧ Sl EG key (SA o).1 c sp ∧ Sl EI ko (SA o).2 co so ∧ Hp No w w' [(key, qA EG 210 (SA o).1 sp), (ko, qA EI 3 (SA o).2 so)] := by
 unfold LC at h
 by_cases h1 : o.k = 1 ∧ o.c.toNat < 2
 ·have e1 : qB o = 1 := if_pos h1.1
  have e2 : SA o = EJ (CB o.c 0) := if_pos h1.1
  rw [e1, e2, h1.1]; exact Cm.WO o.c h1.2 w
 ·rw [if_neg h1] at h
  by_cases h2 : (o.k = 2 ∨ o.k = 3) ∧ o.c.toNat < 4
  ·have e1 : qB o = 2 := if_neg om
   rcases h2 with ⟨h3 | h3, h4⟩
   ·have e2 : SA o = DJ (CB o.c 0) (CB o.c 1) := (if_neg om).trans (if_pos h3)
    rw [e1, e2, h3]; exact Cm.VO o.c h4 w
   ·have e2 : SA o = dK (CB o.c 0) (CB o.c 1) := (if_neg om).trans (if_neg om)
    rw [e1, e2, h3]; exact Cm.UO o.c h4 w
  ·rw [if_neg h2] at h; exact absurd rfl h
theorem eP (o : Mo) (hng : LC o.k o.c ≠ 0) (w : World) : Ca 45 [.agg #[i64 (o.kd), i64 (o.a), i64 (o.b), i64 (o.k), u64 (o.c), i64 (o.pt)]] w fun v w' => v = i64 ((JF o : Nat) : Int) ∧ Ext w w' := by
 have H := Hp.start No w
 refine enter (n := 9) Tryz.func45 rfl rfl (dB rfl) ?_
 refine go 1 ?_
 intro b1 w2 i0 H3 j0
 refine go 5 ?_
 refine cl (fN o hng w2) ?_
 rintro _ w5 ⟨a0, c8, k0, b0, c0, l0, rfl, m0, hO14, d0⟩
 have e0 := (H3.join d0).a3 rfl
 refine cl (dP ((128 * qB o) : Nat) ((SA o).1) ((SA o).2) (sA a0) (sA b0) c8 c0 64 w5 IC (by have := AF o; omega)) ?_
 rintro _ n0 ⟨rfl, f0⟩
 have h0 := e0.ext f0
 refine go 1 ?_
 exact ⟨_, rfl, rfl, h0.chg⟩
end Go.Proofs.YtohngnahcgbfmaaGreatDoor.Mt
namespace Go.Proofs.YtohngnahcgbfmaaGreatDoor.Mt
open Go Vc Er Ek Circ Mi
open Co Cm
theorem HW : ZF Tryz.prog 3 = some 8 := by kernel_rfl
theorem OC : wC Tryz.prog 3 EI := OF (by kernel_rfl) (by kernel_rfl)
theorem eH : wC Tryz.prog 36 xE := kI (by kernel_rfl) (by kernel_rfl)
theorem yM : TB Tryz.prog 36 1 = some (1, 1, 3) := by kernel_rfl
theorem xM : TB Tryz.prog 36 2 = some (2, 1, 3) := by kernel_rfl
theorem QH : eD Tryz.prog 100 = some (3, 1) := by kernel_rfl
theorem HO : eD Tryz.prog 22 = some (36, 6) := by kernel_rfl
theorem OT : YB Tryz.prog 3 = some (.int .i64 0) := by kernel_rfl
theorem jL (ops : List Mo) (oa : Option Addr) (oc : Nat) (w : World) (hG : Gl w) (hO : Rd xE w oa ops) (hol : ops.length ≤ 140737488355328) (hg : Mi.Good ops 65536 65536) : Ca 44 [.slice oa ops.length oc] w fun v w' => SlRes EI 3 (sC ops ops.length) w v w' ∧ Ext w w' := by
 have hlen := hg.len
 have H := Hp.start No w
 refine enter (n := 65) Tryz.func44 rfl rfl (dB rfl) ?_
 refine go 2 ?_
 have H1 := H.nil (qA EI 3 [] [])
 refine go 1 ?_
 refine AA (σ := Nat × Option Nat × Nat × LV) (fun (i, kf, cf, sf) => [(0, .slice oa ops.length oc), (3, sO kf i cf), (4, iN i)]) (fun (i, kf, cf, sf) w' => (i ≤ ops.length ∧ Sl EI kf (sC ops i) cf sf) ∧ Hp No w w' [(kf, qA EI 3 (sC ops i) sf)]) (fun (i, kf, cf, sf) => ops.length - i) ((0, none, 0, [])) ?_ ?_ ?_
 ·exact kp
 ·exact ⟨⟨Nat.zero_le _, Sl.none⟩, H1⟩
 rintro ⟨i, kf, cf, sf⟩ ρ w2 ⟨⟨hq, hSf⟩, HL⟩
 have hfl := lC ops i
 have hrb0 := nF ops i
 refine go 4 ?_
 refine iA (((i : Nat) : Int) < (ops.length : Nat)) rfl (fun j0 => ?_) (fun j0 => ?_)
 ·refine go 4 ?_
  have hgo := hg.at' i om
  refine cl (Mi.dN (ops.getD i DB) hgo.ok w2) ?_
  rintro _ w4 ⟨rfl, k0⟩
  have H6 := HL.ext k0
  refine go 9 ?_
  obtain ⟨r, hr⟩ : ∃ q, q = (vA (ops.getD i DB) 65536 65536) := ⟨_, rfl⟩
  rw [← hr]
  have hwa := hgo.a
  have hwb := hgo.b
  rw [← hr] at hwa hwb
  unfold KF at hwa hwb
  have l0 := SG (ops.getD i DB) 65536 65536
  rw [← hr] at l0
  have h1 := hrb0.2 (ops.getD i DB).a.toNat
  have h2 := hrb0.2 (ops.getD i DB).b.toNat
  refine gj 1 ?_
  refine xF (σ := Int) (fun mo => [(0, .slice oa ops.length oc), (3, sO kf i cf), (4, iN i), (6, i64 (r.1.b)), (8, i64 (r.1.r)), (9, i64 mo)]) (fun mo w' => mo = (if r.1.a = 0 then 0 else (sC ops i).getD (ops.getD i DB).a.toNat 0) ∧ Hp No w w' [(kf, qA EI 3 (sC ops i) sf)]) ?_ (fun b0 => ?_)
  ·rintro mo ρ w8 ⟨hmo, H9⟩
   have hmo2 : 0 ≤ mo ∧ mo ≤ 2 * (i : Nat) := by rw [hmo]; split <;> omega
   refine go 0 ?_
   by_cases hb : r.1.b = 0
   ·refine go 0 ?_
    rw [if_pos hb] at hwb
    refine go 1 ?_
    refine sq ((qD rfl rfl).as (v' := .bool false) (by exact bF ((fun h => h hb)))) ?_
    refine go 6 ?_
    refine bS (E := EI) (l := [mo + r.1.r]) fun H0 I0 J0 K0 L0 => ?_
    refine OD ?_
    refine ⟨by exact (lC ops i).symm, by rfl, om, ?_⟩
    intro m0 n0 o0 M0 p0 N0 q0
    have r0 : (sC ops i) ++ ([mo + r.1.r]) = sC ops (i + 1) := by rw [sC, ← hr, nE, if_pos hb, ← hmo]
    have c0 := p0
    have d0 := q0
    rw [r0] at c0 d0
    refine go 4 ?_
    exact ⟨(i + 1, m0, n0, o0), _, rfl, kp, ⟨⟨om, c0⟩, (d0.dropk 0)⟩, vd⟩
   ·refine go 0 ?_
    rw [if_neg hb] at hwb
    refine go 1 ?_
    refine sq ((qD rfl rfl).as (v' := .bool true) (by exact bT (hb))) ?_
    refine go 6 ?_
    refine LA (v := i64 ((ops.getD i DB).b)) (w' := w8) (gA (d' := 38) (b := true) rfl rfl rfl) (MF (E := xE) (l := ops) (j := i) (o := 2) (v := (ops.getD i DB)) (u := i64 ((ops.getD i DB).b)) vF (hO.ext H9.chg) (QA om) rfl rfl rfl) ?_
    refine go 5 ?_
    refine iA ((mo : Int) < ((sC ops i).getD ((ops.getD i DB).b.toNat) 0)) rfl (fun s0 => ?_) (fun s0 => ?_)
    ·refine go 5 ?_
     refine sq (MF (E := xE) (l := ops) (j := i) (o := 2) (v := (ops.getD i DB)) (u := i64 ((ops.getD i DB).b)) vF (hO.ext H9.chg) (QA om) rfl rfl rfl) ?_
     refine go 7 ?_
     refine bS (E := EI) (l := [((sC ops i).getD ((ops.getD i DB).b.toNat) 0) + r.1.r]) fun O0 P0 Q0 R0 S0 => ?_
     refine OD ?_
     refine ⟨by exact (lC ops i).symm, by rfl, om, ?_⟩
     intro u0 w0 x0 T0 y0 U0 z0
     have A0 : (sC ops i) ++ ([((sC ops i).getD ((ops.getD i DB).b.toNat) 0) + r.1.r]) = sC ops (i + 1) := by rw [sC, ← hr, nE, if_neg hb, ← hmo, Int.max_eq_right om]
     have e0 := y0
     have f0 := z0
     rw [A0] at e0 f0
     refine go 4 ?_
     exact ⟨(i + 1, u0, w0, x0), _, rfl, kp, ⟨⟨om, e0⟩, (f0.dropk 0)⟩, vd⟩
    ·refine go 4 ?_
     refine bS (E := EI) (l := [mo + r.1.r]) fun V0 W0 X0 Y0 Z0 => ?_
     refine OD ?_
     refine ⟨by exact (lC ops i).symm, by rfl, om, ?_⟩
     intro B0 C0 D0 c1 E0 d1 F0
     have G0 : (sC ops i) ++ ([mo + r.1.r]) = sC ops (i + 1) := by rw [sC, ← hr, nE, if_neg hb, ← hmo, Int.max_eq_left om]
     have h0 := E0
     have i0 := F0
     rw [G0] at h0 i0
     refine go 4 ?_
     exact ⟨(i + 1, B0, C0, D0), _, rfl, kp, ⟨⟨om, h0⟩, (i0.dropk 0)⟩, vd⟩
  ·refine go 2 ?_
   refine iA ((r.1.a : Int) ≠ (0 : Int)) rfl (fun a0 => ?_) (fun a0 => ?_)
   ·have hra : r.1.a ≠ 0 := by simpa using a0
    rw [if_neg hra] at hwa
    refine go 5 ?_
    refine sq (MF (E := xE) (l := ops) (j := i) (o := 1) (v := (ops.getD i DB)) (u := i64 ((ops.getD i DB).a)) vF (hO.ext H6.chg) (QA om) rfl rfl rfl) ?_
    refine go 2 ?_
    exact XK (BE (RA (b0 ((sC ops i).getD (ops.getD i DB).a.toNat 0) _ _ kp ⟨(if_neg hra).symm, H6⟩)))
   ·have hra : r.1.a = 0 := by simpa using a0
    rw [if_pos hra] at hwa
    exact ED (RA (b0 0 _ _ kp ⟨(if_pos hra).symm, H6⟩))
 ·have hie : i = ops.length := by omega
  subst hie
  refine go 2 ?_
  exact ⟨_, rfl, HL.resN (k := 0) rfl hSf (lC _ _).symm, HL.chg⟩
end Go.Proofs.YtohngnahcgbfmaaGreatDoor.Mt
namespace Go.Proofs.YtohngnahcgbfmaaGreatDoor.Mt
open Go Vc Er Ek Circ Mi
open Co Cm
theorem LT : jD Tryz.prog 29 = some (2, 1) := by kernel_rfl
theorem RJ : TB Tryz.prog 36 0 = some (0, 1, 33) := by kernel_rfl
theorem QJ : TB Tryz.prog 36 5 = some (5, 1, 3) := by kernel_rfl
theorem uM : TB Tryz.prog 57 0 = some (0, 1, 3) := by kernel_rfl
theorem tM : TB Tryz.prog 57 1 = some (1, 1, 3) := by kernel_rfl
theorem yP : NA Tryz.prog 33 = true := by kernel_rfl
theorem pls57 : JI Tryz.prog 57 = some #[(0, 1), (1, 1), (2, 1), (3, 2), (5, 1), (6, 2)] := by kernel_rfl
theorem fU : UB Tryz.prog 3 = some 1 := by kernel_rfl
theorem ZS : YB Tryz.prog 57 = some (.agg #[.int .i64 0, .int .i64 0, .int .i64 0, .int .i64 0, .int .i64 0, .int .i64 0, .int .i64 0, .int .i64 0]) := by kernel_rfl
def cS (ops : List Mo) (i : Nat) : Nat := if 0 < jA fG ops i then 2 else 0
theorem gI {ops : List Mo} {i : Nat} {o : Mo} (ho : o = ops.getD i DB) (h : fG o = 0) : cS ops (i + 1) = cS ops i := by unfold cS; rw [lA ho h, Nat.add_zero]
theorem bV {ops : List Mo} {i : Nat} {o : Mo} (ho : o = ops.getD i DB) (h : fG o = 1) : cS ops (i + 1) = 2 := by unfold cS; rw [lA ho h, if_pos om]
theorem pW (ops : List Mo) (i : Nat) : cS ops i ≤ 2 := by unfold cS; split <;> omega
theorem SO (ops : List Mo) (oa : Option Addr) (oc : Nat) (w : World) (hG : Gl w) (hO : Rd xE w oa ops) (hol : ops.length ≤ 140737488355328) (hg : Mi.Good ops 65536 65536) : Ca 24 [.slice oa ops.length oc] w fun v w' => v = .agg #[iN (nA ops), iN (nB ops), iN (nO ops), iN (pE ops), iN (dF ops), i64 (nR ops), iN (PR ops), iN (OR ops)] ∧ Ext w w' := by
 let x2 : Array Value := #[i64 0, i64 0, i64 0, i64 0, i64 0, i64 0, i64 0, i64 0]
 have hlen := hg.len
 have H := Hp.start No w
 refine enter (n := 147) Tryz.func24 rfl rfl (dB rfl) ?_
 refine go 1 ?_
 intro b1 w2 o1 H3 p1
 refine go 0 ?_
 refine sq ((QE (cs' := #[.int .i64 0, .int .i64 0, .int .i64 0, .int .i64 0, .int .i64 0, .int .i64 0, .int .i64 0, .int .i64 0]) (ps := []) vF vF rfl (by rfl)).as (v' := .agg x2) (by rfl)) ?_
 refine go 1 ?_
 intro b5 w6 r1 H7 s1
 refine go 1 ?_
 intro w9 u0 t1
 refine go 1 ?_
 refine cl (jL ops oa oc w9 uC IC om hg) ?_
 rintro _ u1 ⟨⟨a0, k0, b0, rfl, w1, x0⟩, y0⟩
 rw [show (sC ops ops.length).length = ops.length from lC _ _]
 have z0 := u0.add y0 x0
 refine go 3 ?_
 refine AA (σ := Nat) (fun i => [(0, .slice oa ops.length oc), (2, pT b1), (3, pT b5), (4, sO a0 ops.length k0), (5, iN (cS ops i)), (6, iN i)]) (fun i w' => i ≤ ops.length ∧ Hp No w w' [(rC b5 #[iN (jA fA ops i), iN (jA fB ops i), iN (jA fO ops i), iN (jA ND ops i), iN (jA cE ops i), i64 (aI (sC ops ops.length) i), iN (jA wE ops i), iN (jA WE ops i)] 57), (rC b1 x2 57), (a0, qA EI 3 (sC ops ops.length) b0)]) (fun i => ops.length - i) (0) ?_ ?_ ?_
 ·exact kp
 ·exact ⟨Nat.zero_le _, (z0.pk 3 [1, 2, 0])⟩
 rintro i ρ y1 ⟨hq, HL⟩
 have hrl := lC ops ops.length
 have hmx := zK ops ops.length i
 have hrb := nF ops ops.length
 obtain ⟨hcA, hcB, hcO, hcT0, hcT1, hcW0, hcW1, hcG⟩ := FM ops i
 refine go 4 ?_
 refine iA (((i : Nat) : Int) < (ops.length : Nat)) rfl (fun cj15 => ?_) (fun cj15 => ?_)
 ·refine go 5 ?_
  intro d0 z1 A1 B1 C1
  refine go 1 ?_
  intro A0 l0 D1
  obtain ⟨o, ho⟩ : ∃ q1, q1 = ops.getD i DB := ⟨_, rfl⟩
  let m0 : Value := i64 (((jA ND ops i) : Nat) + ((256 * qB o) : Nat))
  let x9 : Array Value := #[i64 (o.kd), i64 (o.a), i64 (o.b), i64 (o.k), u64 (o.c), i64 (o.pt)]
  let x8 : Value := iN (jA fO ops i)
  let x7 : Value := iN (jA wE ops i)
  let x6 : Value := iN (jA cE ops i)
  let x5 : Value := iN (jA WE ops i)
  let x4 : Value := iN (jA fB ops i)
  let x3 : Value := iN (jA fA ops i)
  let x1 : Value := i64 (aI (sC ops ops.length) (i + 1))
  rw [← ho] at l0 ⊢
  have hgo := hg.at' i om
  rw [← ho] at hgo
  have hog := YH o
  have hag := aK o
  refine gj 0 ?_
  refine xF (σ := Unit) (fun (_ : Unit) => [(0, .slice oa ops.length oc), (2, pT b1), (3, pT b5), (4, sO a0 ops.length k0), (5, iN (cS ops i)), (6, iN i), (7, pT d0)]) (fun (_ : Unit) w' => True ∧ Hp No w w' [(rC b5 #[x3, x4, x8, iN (jA ND ops i), x6, x1, x7, x5] 57), (rC b1 x2 57), (a0, qA EI 3 (sC ops ops.length) b0), (rC d0 x9 36)]) ?_ (fun n0 => ?_)
  ·rintro ⟨⟩ ρ B0 ⟨_, c0⟩
   refine go 4 ?_
   refine iA ((o.kd : Int) = (1 : Int)) rfl (fun k1 => ?_) (fun k1 => ?_)
   ·by_cases hp : o.pt = 0
    ·refine go 3 ?_
     refine sq (IA (off' := 3) (j := 0) vF (b := b5) (off := 3) rfl rfl vo om om) (sq (DA (v := iN (jA ND ops i)) vF (c0.get (k := 0) rfl) (off := 3) rfl (by rfl)) ?_)
     refine go 2 ?_
     refine sq (IA (off' := 3) (j := 0) vF (b := b5) (off := 3) rfl rfl vo om om) (GA (k := 0) (v := i64 (((jA ND ops i) : Nat) + (1 : Int))) (cs' := #[x3, x4, x8, i64 (((jA ND ops i) : Nat) + (1 : Int)), x6, x1, x7, x5]) c0 rfl rfl rfl vF (by rfl) (by exact EI.one _) (by exact dB rfl) (by rfl) fun E1 C0 F1 => ?_)
     have o0 := C0.a4 rfl
     refine go 3 ?_
     refine sq (IA (off' := 6) (j := 0) vF (b := b5) (off := 6) rfl rfl vo om om) (sq (DA (v := iN (jA wE ops i)) vF (o0.get (k := 0) rfl) (off := 6) rfl (by rfl)) ?_)
     refine go 2 ?_
     refine sq (IA (off' := 6) (j := 0) vF (b := b5) (off := 6) rfl rfl vo om om) (GA (k := 0) (v := i64 (((jA wE ops i) : Nat) + (1 : Int))) (cs' := #[x3, x4, x8, i64 (((jA ND ops i) : Nat) + (1 : Int)), x6, x1, i64 (((jA wE ops i) : Nat) + (1 : Int)), x5]) o0 rfl rfl rfl vF (by rfl) (by exact EI.one _) (by exact dB rfl) (by rfl) fun G1 D0 H1 => ?_)
     have E0 := D0.a4 rfl
     refine go 3 ?_
     have hi := vT k1 hp
     have F0 := ((E0.dropk 3)).as (L' := [(rC b5 #[iN (jA fA ops (i + 1)), iN (jA fB ops (i + 1)), iN (jA fO ops (i + 1)), iN (jA ND ops (i + 1)), iN (jA cE ops (i + 1)), i64 (aI (sC ops ops.length) (i + 1)), iN (jA wE ops (i + 1)), iN (jA WE ops (i + 1))] 57), (rC b1 #[i64 0, i64 0, i64 0, i64 0, i64 0, i64 0, i64 0, i64 0] 57), (a0, qA EI 3 (sC ops ops.length) b0)]) (by rw [lA ho hi.A, lA ho hi.B, lA ho hi.O, lA ho hi.T0, lA ho hi.T1, lA ho hi.W0, lA ho hi.W1] <;> rfl)
     exact ⟨i + 1, _, rfl, ⟨rfl, rfl, rfl, rfl, congrArg (fun q : Nat => i64 (q : Int)) (gI ho hi.G).symm, rfl, trivial⟩, ⟨om, F0⟩, vd⟩
    ·refine go 0 ?_
     have hp1 : o.pt = 1 := by have := hgo.p; omega
     refine go 3 ?_
     refine sq (IA (off' := 4) (j := 1) vF (b := b5) (off := 3) rfl rfl vo om om) (sq (DA (v := iN (jA cE ops i)) vF (c0.get (k := 0) rfl) (off := 4) rfl (by rfl)) ?_)
     refine go 2 ?_
     refine sq (IA (off' := 4) (j := 1) vF (b := b5) (off := 3) rfl rfl vo om om) (GA (k := 0) (v := i64 (((jA cE ops i) : Nat) + (1 : Int))) (cs' := #[x3, x4, x8, iN (jA ND ops i), i64 (((jA cE ops i) : Nat) + (1 : Int)), x1, x7, x5]) c0 rfl rfl rfl vF (by rfl) (by exact EI.one _) (by exact dB rfl) (by rfl) fun I1 G0 J1 => ?_)
     have p0 := G0.a4 rfl
     refine go 3 ?_
     refine sq (IA (off' := 7) (j := 1) vF (b := b5) (off := 6) rfl rfl vo om om) (sq (DA (v := iN (jA WE ops i)) vF (p0.get (k := 0) rfl) (off := 7) rfl (by rfl)) ?_)
     refine go 2 ?_
     refine sq (IA (off' := 7) (j := 1) vF (b := b5) (off := 6) rfl rfl vo om om) (GA (k := 0) (v := i64 (((jA WE ops i) : Nat) + (1 : Int))) (cs' := #[x3, x4, x8, iN (jA ND ops i), i64 (((jA cE ops i) : Nat) + (1 : Int)), x1, x7, i64 (((jA WE ops i) : Nat) + (1 : Int))]) p0 rfl rfl rfl vF (by rfl) (by exact EI.one _) (by exact dB rfl) (by rfl) fun K1 H0 L1 => ?_)
     have I0 := H0.a4 rfl
     refine go 3 ?_
     have hi := uT k1 hp1
     have J0 := ((I0.dropk 3)).as (L' := [(rC b5 #[iN (jA fA ops (i + 1)), iN (jA fB ops (i + 1)), iN (jA fO ops (i + 1)), iN (jA ND ops (i + 1)), iN (jA cE ops (i + 1)), i64 (aI (sC ops ops.length) (i + 1)), iN (jA wE ops (i + 1)), iN (jA WE ops (i + 1))] 57), (rC b1 #[i64 0, i64 0, i64 0, i64 0, i64 0, i64 0, i64 0, i64 0] 57), (a0, qA EI 3 (sC ops ops.length) b0)]) (by rw [lA ho hi.A, lA ho hi.B, lA ho hi.O, lA ho hi.T0, lA ho hi.T1, lA ho hi.W0, lA ho hi.W1] <;> rfl)
     exact ⟨i + 1, _, rfl, ⟨rfl, rfl, rfl, rfl, congrArg (fun q : Nat => i64 (q : Int)) (gI ho hi.G).symm, rfl, trivial⟩, ⟨om, J0⟩, vd⟩
   ·refine go 2 ?_
    refine iA ((o.kd : Int) = (6 : Int)) rfl (fun k6 => ?_) (fun k6 => ?_)
    ·refine go 0 ?_
     refine GB (bT (k6)) ?_
     refine go 3 ?_
     refine GB (bT (k6)) ?_
     refine go 5 ?_
     intro M1 N1 O1
     refine go 7 ?_
     intro P1 Q1 R1
     refine go 7 ?_
     intro S1 K0 U1
     refine go 3 ?_
     have hi := lW k6
     have L0 := ((K0.dropk 3)).as (L' := [(rC b5 #[iN (jA fA ops (i + 1)), iN (jA fB ops (i + 1)), iN (jA fO ops (i + 1)), iN (jA ND ops (i + 1)), iN (jA cE ops (i + 1)), i64 (aI (sC ops ops.length) (i + 1)), iN (jA wE ops (i + 1)), iN (jA WE ops (i + 1))] 57), (rC b1 #[i64 0, i64 0, i64 0, i64 0, i64 0, i64 0, i64 0, i64 0] 57), (a0, qA EI 3 (sC ops ops.length) b0)]) (by rw [lA ho hi.A, lA ho hi.B, lA ho hi.O, lA ho hi.T0, lA ho hi.T1, lA ho hi.W0, lA ho hi.W1] <;> rfl)
     exact ⟨i + 1, _, rfl, ⟨rfl, rfl, rfl, rfl, congrArg (fun q : Nat => i64 (q : Int)) (gI ho hi.G).symm, rfl, trivial⟩, ⟨om, L0⟩, vd⟩
    ·refine go 2 ?_
     refine iA ((o.kd : Int) = (9 : Int)) rfl (fun k9 => ?_) (fun k9 => ?_)
     ·refine go 3 ?_
      refine dE (bF (k6)) ?_
      refine go 5 ?_
      intro V1 X1 Y1
      refine go 7 ?_
      intro Z1 c2 d2
      refine go 7 ?_
      intro e2 M0 f2
      refine go 3 ?_
      have hi := kW k9
      have N0 := ((M0.dropk 3)).as (L' := [(rC b5 #[iN (jA fA ops (i + 1)), iN (jA fB ops (i + 1)), iN (jA fO ops (i + 1)), iN (jA ND ops (i + 1)), iN (jA cE ops (i + 1)), i64 (aI (sC ops ops.length) (i + 1)), iN (jA wE ops (i + 1)), iN (jA WE ops (i + 1))] 57), (rC b1 #[i64 0, i64 0, i64 0, i64 0, i64 0, i64 0, i64 0, i64 0] 57), (a0, qA EI 3 (sC ops ops.length) b0)]) (by rw [lA ho hi.A, lA ho hi.B, lA ho hi.O, lA ho hi.T0, lA ho hi.T1, lA ho hi.W0, lA ho hi.W1] <;> rfl)
      exact ⟨i + 1, _, rfl, ⟨rfl, rfl, rfl, rfl, congrArg (fun q : Nat => i64 (q : Int)) (gI ho hi.G).symm, rfl, trivial⟩, ⟨om, N0⟩, vd⟩
     ·refine go 2 ?_
      refine iA ((o.kd : Int) = (17 : Int)) rfl (fun e0 => ?_) (fun e0 => ?_)
      ·refine go 4 ?_
       refine cl ((by have h := Cm.mG o.k o.c B0; rw [(nL (uE e0 hgo.ok).1).1] at h; exact h)) ?_
       rintro _ g2 ⟨rfl, O0⟩
       have h2 := c0.ext O0
       refine go 5 ?_
       refine sq ((KB rfl rfl om).as (v' := iN (64 * qB o)) (by rfl)) (sq ((aB rfl rfl om).as (v' := iN (jA fO ops i + 64 * qB o)) (by rfl)) ?_)
       refine go 2 ?_
       intro i2 j2 k2
       refine go 4 ?_
       refine sq ((KB rfl rfl om).as (v' := iN (256 * qB o)) (by rfl)) ?_
       refine go 4 ?_
       intro l2 P0 m2
       refine go 0 ?_
       let f0 : List RW := [(rC b1 x2 57), (a0, qA EI 3 (sC ops ops.length) b0), (rC d0 x9 36)]
       let q0 := ((rC b5 #[x3, x4, iN (jA fO ops i + 64 * qB o), m0, x6, x1, x7, x5] 57) : RW)
       let Q0 : mC := [nC false false fun _ _ w' => Hp No w w' (q0 :: f0), nC true false fun v9 _ w' => v9 = iN (JF o) ∧ Hp No w w' (q0 :: f0), nC true true fun v9 _ w' => v9 = iN (JF o) ∧ Hp No w w' ((rC b5 #[x3, x4, iN (jA fO ops i + 64 * qB o), m0, x6, x1, i64 (((jA wE ops i) : Nat) + ((2 * (192 * qB o + 2 * JF o)) : Nat)), x5] 57) :: f0)]
       refine MA (m := 17) [0, 1, 3, 0, 8, 0, 32, 120, 0, 256, 768, 2040, 4088, 8191, 0, 32767, 65535] [9, 16] f0 Q0 BA (fun _ e => P0.ext e) EC (fun r0 => ?_)
       refine gk 4 ?_
       refine ZB (iN (64 * qB o)) (fun _ uw hcx => (KB rfl rfl om).as (v' := iN (64 * qB o)) (by rfl)) ?_
       refine gk 1 ?_
       refine ZB (iN (128 * qB o)) (fun _ uw hcx => (KB rfl rfl om).as (v' := iN (128 * qB o)) (by rfl)) (ZB (iN (192 * qB o)) (fun _ uw hcx => (aB rfl rfl om).as (v' := iN (192 * qB o)) (by exact congrArg i64 om)) ?_)
       refine gk 1 ?_
       refine WalkT.eff r0 0 ?_ ?_
       ·refine tA fun r w0 uw hF hE => ?_
        have R0 := hF.ext hE
        refine gW fun Q' hK => (cl (eP o (uE e0 hgo.ok).1 uw) ?_)
        rintro _ n2 ⟨rfl, S0⟩
        have U0 := R0.ext S0
        exact hK _ _ (A_ rfl U0)
       refine aA (fun _ => i64 ((2 : Int) * ((JF o) : Nat))) (fun _ _ _ => rfl) ?_ ?_
       ·refine tA fun r w0 uw hF hE => ?_
        obtain ⟨e9, HH⟩ := hF
        replace HH := HH.ext hE
        dsimp only
        rw [e9]
        exact xC
       refine gk 1 ?_
       refine ZB (iN (2 * (192 * qB o + 2 * JF o))) (fun _ uw hcx => (KB rfl rfl om).as (v' := iN (2 * (192 * qB o + 2 * JF o))) (by rfl)) ?_
       refine gk 3 ?_
       refine WalkT.eff r0 1 ?_ ?_
       ·refine tA fun r w0 uw hF hE => ?_
        obtain ⟨e9, s0⟩ := hF
        replace s0 := s0.ext hE
        refine MC fun Q' hK => ?_
        refine go 1 ?_
        intro o2 V0 p2
        exact hK _ (fun _ => (A_ e9 V0))
       refine WalkT.nil fun r w0 q2 hF hE => ?_
       obtain ⟨e9, i0⟩ := hF
       replace i0 := i0.ext hE
       dsimp only
       rw [e9]
       dsimp only [f0] at i0
       refine go 8 ?_
       intro r2 X0 s2
       refine go 3 ?_
       have hi := wT e0
       have Y0 := ((X0.dropk 3)).as (L' := [(rC b5 #[iN (jA fA ops (i + 1)), iN (jA fB ops (i + 1)), iN (jA fO ops (i + 1)), iN (jA ND ops (i + 1)), iN (jA cE ops (i + 1)), i64 (aI (sC ops ops.length) (i + 1)), iN (jA wE ops (i + 1)), iN (jA WE ops (i + 1))] 57), (rC b1 #[i64 0, i64 0, i64 0, i64 0, i64 0, i64 0, i64 0, i64 0] 57), (a0, qA EI 3 (sC ops ops.length) b0)]) (by rw [lA ho hi.A, lA ho hi.B, lA ho hi.O, lA ho hi.T0, lA ho hi.T1, lA ho hi.W0, lA ho hi.W1] <;> rfl)
       exact ⟨i + 1, _, rfl, ⟨rfl, rfl, rfl, rfl, congrArg (fun q : Nat => i64 (q : Int)) (bV ho hi.G).symm, rfl, trivial⟩, ⟨om, Y0⟩, vd⟩
      ·refine go 2 ?_
       refine iA ((o.kd : Int) = (18 : Int)) rfl (fun h0 => ?_) (fun h0 => ?_)
       ·refine go 0 ?_
        refine GB (bT (h0)) ?_
        refine go 7 ?_
        intro t2 u2 y2
        refine go 7 ?_
        intro z2 Z0 A2
        refine go 3 ?_
        have hi := XR (.inl h0)
        have c1 := ((Z0.dropk 3)).as (L' := [(rC b5 #[iN (jA fA ops (i + 1)), iN (jA fB ops (i + 1)), iN (jA fO ops (i + 1)), iN (jA ND ops (i + 1)), iN (jA cE ops (i + 1)), i64 (aI (sC ops ops.length) (i + 1)), iN (jA wE ops (i + 1)), iN (jA WE ops (i + 1))] 57), (rC b1 #[i64 0, i64 0, i64 0, i64 0, i64 0, i64 0, i64 0, i64 0] 57), (a0, qA EI 3 (sC ops ops.length) b0)]) (by rw [lA ho hi.A, lA ho hi.B, lA ho hi.O, lA ho hi.T0, lA ho hi.T1, lA ho hi.W0, lA ho hi.W1] <;> rfl)
        exact ⟨i + 1, _, rfl, ⟨rfl, rfl, rfl, rfl, congrArg (fun q : Nat => i64 (q : Int)) (gI ho hi.G).symm, rfl, trivial⟩, ⟨om, c1⟩, vd⟩
       ·refine go 2 ?_
        refine iA ((o.kd : Int) = (19 : Int)) rfl (fun j0 => ?_) (fun j0 => ?_)
        ·refine go 7 ?_
         intro B2 C2 D2
         refine go 7 ?_
         intro E2 d1 F2
         refine go 3 ?_
         have hi := XR (.inr j0)
         have e1 := ((d1.dropk 3)).as (L' := [(rC b5 #[iN (jA fA ops (i + 1)), iN (jA fB ops (i + 1)), iN (jA fO ops (i + 1)), iN (jA ND ops (i + 1)), iN (jA cE ops (i + 1)), i64 (aI (sC ops ops.length) (i + 1)), iN (jA wE ops (i + 1)), iN (jA WE ops (i + 1))] 57), (rC b1 #[i64 0, i64 0, i64 0, i64 0, i64 0, i64 0, i64 0, i64 0] 57), (a0, qA EI 3 (sC ops ops.length) b0)]) (by rw [lA ho hi.A, lA ho hi.B, lA ho hi.O, lA ho hi.T0, lA ho hi.T1, lA ho hi.W0, lA ho hi.W1] <;> rfl)
         exact ⟨i + 1, _, rfl, ⟨rfl, rfl, rfl, rfl, congrArg (fun q : Nat => i64 (q : Int)) (gI ho hi.G).symm, rfl, trivial⟩, ⟨om, e1⟩, vd⟩
        ·refine go 3 ?_
         have hi := mW k1 k6 k9 h0 j0 e0
         have g1 := ((c0.dropk 3)).as (L' := [(rC b5 #[iN (jA fA ops (i + 1)), iN (jA fB ops (i + 1)), iN (jA fO ops (i + 1)), iN (jA ND ops (i + 1)), iN (jA cE ops (i + 1)), i64 (aI (sC ops ops.length) (i + 1)), iN (jA wE ops (i + 1)), iN (jA WE ops (i + 1))] 57), (rC b1 #[i64 0, i64 0, i64 0, i64 0, i64 0, i64 0, i64 0, i64 0] 57), (a0, qA EI 3 (sC ops ops.length) b0)]) (by rw [lA ho hi.A, lA ho hi.B, lA ho hi.O, lA ho hi.T0, lA ho hi.T1, lA ho hi.W0, lA ho hi.W1] <;> rfl)
         exact ⟨i + 1, _, rfl, ⟨rfl, rfl, rfl, rfl, congrArg (fun q : Nat => i64 (q : Int)) (gI ho hi.G).symm, rfl, trivial⟩, ⟨om, g1⟩, vd⟩
  ·refine go 0 ?_
   refine uB (K := [none, none, none, none, none, none, none]) [0, 0, 3, 7, 0, 16, 63] (fun w' => Ext A0 w') (fun w' w'' => Ext w' w'') BA (by kernel_rfl) (Ext.drew _) (fun _ _ h h' => h.trans h') ?_ ?_
   ·exact xB (by decide)
   refine gk 7 ?_
   intro r142 G2 h1 hF
   have i1 := l0.ext h1
   refine go 0 ?_
   refine iA ((aI (sC ops ops.length) i : Int) < ((sC ops ops.length).getD i 0)) rfl (fun cj28 => ?_) (fun cj28 => ?_)
   ·refine go 6 ?_
    intro H2 j1 I2
    refine BE (RA ?_)
    have l1 := ((j1.pk 4 [1, 2, 3, 0])).as (L' := [(rC b5 #[iN (jA fA ops i), iN (jA fB ops i), iN (jA fO ops i), iN (jA ND ops i), iN (jA cE ops i), i64 (aI (sC ops ops.length) (i + 1)), iN (jA wE ops i), iN (jA WE ops i)] 57), (rC b1 #[i64 0, i64 0, i64 0, i64 0, i64 0, i64 0, i64 0, i64 0] 57), (a0, qA EI 3 (sC ops ops.length) b0), (rC d0 #[i64 (o.kd), i64 (o.a), i64 (o.b), i64 (o.k), u64 (o.c), i64 (o.pt)] 36)]) (by rw [show aI (sC ops ops.length) (i + 1) = _ from Int.max_eq_right om] <;> rfl)
    exact n0 () _ _ kp ⟨trivial, l1⟩
   ·refine ED (RA ?_)
    have m1 := ((i1.pk 4 [1, 2, 3, 0])).as (L' := [(rC b5 #[iN (jA fA ops i), iN (jA fB ops i), iN (jA fO ops i), iN (jA ND ops i), iN (jA cE ops i), i64 (aI (sC ops ops.length) (i + 1)), iN (jA wE ops i), iN (jA WE ops i)] 57), (rC b1 #[i64 0, i64 0, i64 0, i64 0, i64 0, i64 0, i64 0, i64 0] 57), (a0, qA EI 3 (sC ops ops.length) b0), (rC d0 #[i64 (o.kd), i64 (o.a), i64 (o.b), i64 (o.k), u64 (o.c), i64 (o.pt)] 36)]) (by rw [show aI (sC ops ops.length) (i + 1) = _ from Int.max_eq_left om] <;> rfl)
    exact n0 () _ _ kp ⟨trivial, m1⟩
 ·have hie : i = ops.length := by omega
  subst hie
  refine go 4 ?_
  refine sq (aB rfl rfl (by have := pW ops ops.length; omega)) ?_
  refine go 3 ?_
  intro J2 K2 L2
  refine go 2 ?_
  intro M2 n1 N2
  refine go 0 ?_
  exact ⟨_, rfl, rfl, n1.chg⟩
end Go.Proofs.YtohngnahcgbfmaaGreatDoor.Mt
namespace Go.Proofs.YtohngnahcgbfmaaGreatDoor.Co
open Go Vc Er
theorem mK : Tryz.prog.underlying 34 = some (.int .u64) := by kernel_rfl
theorem TJ : wC Tryz.prog 83 bB := ⟨by kernel_rfl, .inr ⟨by kernel_rfl, fun _ => rfl⟩⟩
end Go.Proofs.YtohngnahcgbfmaaGreatDoor.Co
namespace Go.Proofs.YtohngnahcgbfmaaGreatDoor.Co
open Go Vc Er
theorem nK : eD Tryz.prog 23 = some (34, 1) := by kernel_rfl
theorem cP (ws : List (BitVec 64)) (wa : Option Addr) (wc : Nat) (n1 n2 n3 : Nat) (hn1 : n1 ≤ 65536) (hn2 : n2 ≤ 65536) (hn3 : n3 ≤ 65536) (w : World) (hW : Rd E64 w wa ws) (hlen : ws.length ≤ 140737488355328) (hfit : 5 * (n1 + n2 + n3) ≤ ws.length) : Ca 26 [.slice wa ws.length wc, iN n1, iN n2, iN n3] w fun v w' => ∃ (kyta : Option Nat) (ccta : Nat) (zzta : LV) (kyba : Option Nat) (ccba : Nat) (zzba : LV) (kyoa : Option Nat) (ccoa : Nat) (zzoa : LV) (kytb : Option Nat) (cctb : Nat) (zztb : LV) (kybb : Option Nat) (ccbb : Nat) (zzbb : LV) (kyob : Option Nat) (ccob : Nat) (zzob : LV), v = .tuple #[.agg #[sO kyta (pA (wD ws) 0 n1).length ccta, sO kyba (pA (wD ws) (5 * n1) n2).length ccba, sO kyoa (pA (aH ws) (5 * (n1 + n2)) n3).length ccoa, sO kytb (pA (mH ws) 0 n1).length cctb, sO kybb (pA (lH ws) (5 * n1) n2).length ccbb, sO kyob (pA (TF ws) (5 * (n1 + n2)) n3).length ccob], i64 (0 : Int)] ∧ Sl PA kyta (pA (wD ws) 0 n1) ccta zzta ∧ Sl PA kyba (pA (wD ws) (5 * n1) n2) ccba zzba ∧ Sl zB kyoa (pA (aH ws) (5 * (n1 + n2)) n3) ccoa zzoa ∧ Sl PA kytb (pA (mH ws) 0 n1) cctb zztb ∧ Sl PA kybb (pA (lH ws) (5 * n1) n2) ccbb zzbb ∧ Sl zB kyob (pA (TF ws) (5 * (n1 + n2)) n3) ccob zzob ∧ Hp No w w' [(kyta, qA PA 66 (pA (wD ws) 0 n1) zzta), (kyba, qA PA 66 (pA (wD ws) (5 * n1) n2) zzba), (kyoa, qA zB 121 (pA (aH ws) (5 * (n1 + n2)) n3) zzoa), (kytb, qA PA 66 (pA (mH ws) 0 n1) zztb), (kybb, qA PA 66 (pA (lH ws) (5 * n1) n2) zzbb), (kyob, qA zB 121 (pA (TF ws) (5 * (n1 + n2)) n3) zzob)] := by
 let x1 : Array Value := #[yA, yA, yA, yA, yA, yA]
 have H := Hp.start No w
 refine enter (n := 276) Tryz.func26 rfl rfl (dB rfl) ?_
 refine go 1 ?_
 intro b1 w2 d4 H3 e4
 refine go 3 ?_
 intro b5 w6 f4 H7 g4
 refine go 1 ?_
 intro w9 e2 h4
 refine go 1 ?_
 refine sq ((KC rfl rfl).as (v' := .bool false) (by exact bF (om))) ?_
 refine go 2 ?_
 refine LA (v := .bool false) (w' := w9) (gA (d' := 24) (b := false) rfl rfl rfl) ((UC rfl rfl).as (v' := .bool false) (by exact bF (om))) ?_
 refine go 3 ?_
 refine LA (v := .bool false) (w' := w9) (gA (d' := 28) (b := false) rfl rfl rfl) ((KC rfl rfl).as (v' := .bool false) (by exact bF (om))) ?_
 refine go 3 ?_
 refine LA (v := .bool false) (w' := w9) (gA (d' := 32) (b := false) rfl rfl rfl) ((UC rfl rfl).as (v' := .bool false) (by exact bF (om))) ?_
 refine go 3 ?_
 refine LA (v := .bool false) (w' := w9) (gA (d' := 36) (b := false) rfl rfl rfl) ((KC rfl rfl).as (v' := .bool false) (by exact bF (om))) ?_
 refine go 3 ?_
 refine LA (v := .bool false) (w' := w9) (gA (d' := 40) (b := false) rfl rfl rfl) ((UC rfl rfl).as (v' := .bool false) (by exact bF (om))) ?_
 refine go 9 ?_
 refine sq ((KC rfl rfl).as (v' := .bool false) (by exact bF (om))) ?_
 refine go 2 ?_
 refine AA (σ := Nat × Option Nat × Nat × LV × Option Nat × Nat × LV) (fun (zi, kyta, ccta, zzta, kytb, cctb, zztb) => [(0, .slice wa ws.length wc), (1, iN n1), (2, iN n2), (3, iN n3), (8, pT b1), (9, i64 0), (10, pT b5), (11, iN (0 + 5 * zi)), (12, iN zi)]) (fun (zi, kyta, ccta, zzta, kytb, cctb, zztb) w' => (zi ≤ n1 ∧ Sl PA kyta (pA (wD ws) 0 zi) ccta zzta ∧ Sl PA kytb (pA (mH ws) 0 zi) cctb zztb) ∧ Hp No w w' [(rC b5 #[sO kyta zi ccta, yA, yA, sO kytb zi cctb, yA, yA] 43), (kyta, qA PA 66 (pA (wD ws) 0 zi) zzta), (kytb, qA PA 66 (pA (mH ws) 0 zi) zztb), (rC b1 x1 43)]) (fun (zi, kyta, ccta, zzta, kytb, cctb, zztb) => n1 - zi) ((0, none, 0, [], none, 0, [])) ?_ ?_ ?_
 ·exact ⟨rfl, rfl, rfl, rfl, rfl, rfl, rfl, congrArg i64 om, rfl, trivial⟩
 ·exact ⟨⟨Nat.zero_le _, Sl.none, Sl.none⟩, (((e2.nil (qA PA 66 [] [])).nil (qA PA 66 [] [])).pk 4 [2, 1, 0, 3])⟩
 rintro ⟨zi, kyta, ccta, zzta, kytb, cctb, zztb⟩ ρ f2 ⟨⟨hzi, hkyta, hkytb⟩, t1⟩
 refine go 3 ?_
 refine iA (((zi : Nat) : Int) < (n1 : Nat)) rfl (fun g2 => ?_) (fun g2 => ?_)
 ·refine go 0 ?_
  refine uB (K := [none, none, none, none, none, none, none, none, none, none, none, none, none, none, none, none, none, none, none, none, none, none, none]) [0, 0, 3, 7, 0, 0, 32, 112, 240, 511, 0, 0, 2048, 7168, 15360, 0, 0, 65536, 229376, 491520, 1047552, 1023, 4194303] (fun w' => Ext f2 w') (fun w' w'' => Ext w' w'') BA (by kernel_rfl) (Ext.drew _) (fun _ _ h h' => h.trans h') ?_ ?_
  ·exact xB (by decide)
  refine gk 23 ?_
  intro r63 i4 h2 hF
  have i2 := t1.ext h2
  refine go 0 ?_
  let D0 : List RW := [(kytb, qA PA 66 (pA (mH ws) 0 zi) zztb), (rC b1 x1 43)]
  let L0 := fun (b0 : Nat) => (((some b0), qA PA 66 ([⟨ws.getD (0 + 5 * zi) 0#64, ws.getD ((0 + 5 * zi) + 2) 0#64, ws.getD ((0 + 5 * zi) + 4) 0#64⟩] : List Tr) ([])) : RW)
  let u1 := ((kyta, qA PA 66 (pA (wD ws) 0 zi) zzta) : RW)
  let Z0 := ((rC b5 #[sO kyta zi ccta, yA, yA, sO kytb zi cctb, yA, yA] 43) : RW)
  let M0 := fun (b0 : Nat) => (Sl PA (some b0) ([⟨ws.getD (0 + 5 * zi) 0#64, ws.getD ((0 + 5 * zi) + 2) 0#64, ws.getD ((0 + 5 * zi) + 4) 0#64⟩] : List Tr) 1 ([]) : Prop)
  let j2 : mC := [RB false false false fun _ _ _ w' => Hp No w w' (Z0 :: u1 :: D0), RB true false false fun v18 _ _ w' => ∃ b0, v18 = sO (some b0) 1 1 ∧ (M0 b0) ∧ Hp No w w' ((L0 b0) :: Z0 :: u1 :: D0), RB true true false fun v18 v19 _ w' => ∃ b0 f0 l0 p0, v18 = sO (some b0) 1 1 ∧ v19 = sO f0 (zi + 1) l0 ∧ (M0 b0) ∧ Sl PA f0 (pA (wD ws) 0 (zi + 1)) l0 p0 ∧ Hp No w w' ((L0 b0) :: Z0 :: (f0, qA PA 66 (pA (wD ws) 0 (zi + 1)) p0) :: D0), RB true true true fun v18 v19 _ w' => ∃ b0 f0 l0 p0, v18 = sO (some b0) 1 1 ∧ v19 = sO f0 (zi + 1) l0 ∧ (M0 b0) ∧ Sl PA f0 (pA (wD ws) 0 (zi + 1)) l0 p0 ∧ Hp No w w' ((L0 b0) :: (rC b5 #[sO f0 (zi + 1) l0, yA, yA, sO kytb zi cctb, yA, yA] 43) :: (f0, qA PA 66 (pA (wD ws) 0 (zi + 1)) p0) :: D0)]
  refine MA (m := 23) [0, 1, 3, 0, 0, 24, 56, 0, 0, 256, 896, 1920, 0, 0, 8192, 28672, 61440, 131064, 262136, 524287, 1048575, 2097151, 4194303] [18, 19, 22] D0 j2 BA (fun _ e => i2.ext e) EC (fun c1 => ?_)
  refine gk 18 ?_
  refine WalkT.eff c1 0 ?_ ?_
  ·refine tA fun r w0 uw hF hE => ?_
   have j4 := hF.ext hE
   exact gW fun Q' hK => (bS (E := PA) (l := ([⟨ws.getD (0 + 5 * zi) 0#64, ws.getD ((0 + 5 * zi) + 2) 0#64, ws.getD ((0 + 5 * zi) + 4) 0#64⟩] : List Tr)) fun k2 k4 l2 m2 l4 => hK _ _ (E_ k2 (A_ rfl (A_ l2 m2))))
  refine WalkT.eff c1 1 ?_ ?_
  ·refine tA fun r w0 uw hF hE => ?_
   obtain ⟨b0, j0, H0, w1⟩ := hF
   replace w1 := w1.ext hE
   dsimp only
   rw [j0]
   refine gW fun Q' hK => ?_
   refine OD ?_
   refine ⟨by rw [lB], by rfl, om, ?_⟩
   intro o2 p2 q2 m4 r2 n4 s2
   have t2 : (pA (wD ws) 0 zi) ++ ([⟨ws.getD (0 + 5 * zi) 0#64, ws.getD ((0 + 5 * zi) + 2) 0#64, ws.getD ((0 + 5 * zi) + 4) 0#64⟩] : List Tr) = pA (wD ws) 0 (zi + 1) := by rw [vB]; rfl
   have y1 := r2
   have z1 := s2
   rw [t2] at y1 z1
   exact hK _ _ (E_ b0 (E_ o2 (E_ p2 (E_ q2 (A_ j0 (A_ rfl (A_ H0 (A_ y1 z1))))))))
  refine gk 2 ?_
  refine WalkT.eff c1 2 ?_ ?_
  ·refine tA fun r w0 uw hF hE => ?_
   obtain ⟨b0, f0, l0, p0, j0, u0, H0, d1, A1⟩ := hF
   replace A1 := A1.ext hE
   dsimp only
   rw [u0]
   refine MC fun Q' hK => ?_
   refine go 1 ?_
   intro o4 u2 p4
   exact hK _ (fun _ => (E_ b0 (E_ f0 (E_ l0 (E_ p0 (A_ j0 (A_ u0 (A_ H0 (A_ d1 u2)))))))))
  refine WalkT.nil fun r w0 q4 hF hE => ?_
  obtain ⟨b0, f0, l0, p0, j0, u0, H0, d1, N0⟩ := hF
  replace N0 := N0.ext hE
  dsimp only
  rw [j0, u0]
  dsimp only [M0] at H0
  dsimp only [D0, L0] at N0
  refine go 0 ?_
  have y2 := (N0.pk 5 [1, 3, 0, 2, 4])
  let E0 : List RW := [((some b0), qA PA 66 ([⟨ws.getD (0 + 5 * zi) 0#64, ws.getD ((0 + 5 * zi) + 2) 0#64, ws.getD ((0 + 5 * zi) + 4) 0#64⟩] : List Tr) ([])), (f0, qA PA 66 (pA (wD ws) 0 (zi + 1)) p0), (rC b1 x1 43)]
  let O0 := fun (d0 : Nat) => (((some d0), qA PA 66 ([⟨ws.getD ((0 + 5 * zi) + 1) 0#64, ws.getD ((0 + 5 * zi) + 3) 0#64, (((ws.getD (0 + 5 * zi) 0#64) + (ws.getD ((0 + 5 * zi) + 1) 0#64)) * ((ws.getD ((0 + 5 * zi) + 2) 0#64) + (ws.getD ((0 + 5 * zi) + 3) 0#64))) - (ws.getD ((0 + 5 * zi) + 4) 0#64)⟩] : List Tr) ([])) : RW)
  let B1 := ((kytb, qA PA 66 (pA (mH ws) 0 zi) zztb) : RW)
  let e1 := ((rC b5 #[sO f0 (zi + 1) l0, yA, yA, sO kytb zi cctb, yA, yA] 43) : RW)
  let P0 := fun (d0 : Nat) => (Sl PA (some d0) ([⟨ws.getD ((0 + 5 * zi) + 1) 0#64, ws.getD ((0 + 5 * zi) + 3) 0#64, (((ws.getD (0 + 5 * zi) 0#64) + (ws.getD ((0 + 5 * zi) + 1) 0#64)) * ((ws.getD ((0 + 5 * zi) + 2) 0#64) + (ws.getD ((0 + 5 * zi) + 3) 0#64))) - (ws.getD ((0 + 5 * zi) + 4) 0#64)⟩] : List Tr) 1 ([]) : Prop)
  let z2 : mC := [RB false false false fun _ _ _ w' => Hp No w w' (e1 :: B1 :: E0), RB true false false fun v23 _ _ w' => ∃ d0, v23 = sO (some d0) 1 1 ∧ (P0 d0) ∧ Hp No w w' ((O0 d0) :: e1 :: B1 :: E0), RB true true false fun v23 v24 _ w' => ∃ d0 m0 q0 x0, v23 = sO (some d0) 1 1 ∧ v24 = sO m0 (zi + 1) q0 ∧ (P0 d0) ∧ Sl PA m0 (pA (mH ws) 0 (zi + 1)) q0 x0 ∧ Hp No w w' ((O0 d0) :: e1 :: (m0, qA PA 66 (pA (mH ws) 0 (zi + 1)) x0) :: E0), RB true true true fun v23 v24 _ w' => ∃ d0 m0 q0 x0, v23 = sO (some d0) 1 1 ∧ v24 = sO m0 (zi + 1) q0 ∧ (P0 d0) ∧ Sl PA m0 (pA (mH ws) 0 (zi + 1)) q0 x0 ∧ Hp No w w' ((O0 d0) :: (rC b5 #[sO f0 (zi + 1) l0, yA, yA, sO m0 (zi + 1) q0, yA, yA] 43) :: (m0, qA PA 66 (pA (mH ws) 0 (zi + 1)) x0) :: E0)]
  refine MA (m := 28) [0, 1, 3, 0, 0, 16, 56, 120, 0, 0, 512, 1792, 3840, 0, 0, 24576, 0, 0, 131072, 458752, 983040, 2088960, 4194296, 8388600, 16777215, 33554431, 67108863, 134217727] [23, 24, 27] E0 z2 BA (fun _ e => y2.ext e) EC (fun g1 => ?_)
  refine gk 23 ?_
  refine WalkT.eff g1 0 ?_ ?_
  ·refine tA fun r w0 uw hF hE => ?_
   have r4 := hF.ext hE
   exact gW fun Q' hK => (bS (E := PA) (l := ([⟨ws.getD ((0 + 5 * zi) + 1) 0#64, ws.getD ((0 + 5 * zi) + 3) 0#64, (((ws.getD (0 + 5 * zi) 0#64) + (ws.getD ((0 + 5 * zi) + 1) 0#64)) * ((ws.getD ((0 + 5 * zi) + 2) 0#64) + (ws.getD ((0 + 5 * zi) + 3) 0#64))) - (ws.getD ((0 + 5 * zi) + 4) 0#64)⟩] : List Tr)) fun A2 s4 B2 C2 t4 => hK _ _ (E_ A2 (A_ rfl (A_ B2 C2))))
  refine WalkT.eff g1 1 ?_ ?_
  ·refine tA fun r w0 uw hF hE => ?_
   obtain ⟨d0, k0, I0, C1⟩ := hF
   replace C1 := C1.ext hE
   dsimp only
   rw [k0]
   refine gW fun Q' hK => ?_
   refine OD ?_
   refine ⟨by rw [lB], by rfl, om, ?_⟩
   intro D2 E2 F2 u4 G2 w4 H2
   have I2 : (pA (mH ws) 0 zi) ++ ([⟨ws.getD ((0 + 5 * zi) + 1) 0#64, ws.getD ((0 + 5 * zi) + 3) 0#64, (((ws.getD (0 + 5 * zi) 0#64) + (ws.getD ((0 + 5 * zi) + 1) 0#64)) * ((ws.getD ((0 + 5 * zi) + 2) 0#64) + (ws.getD ((0 + 5 * zi) + 3) 0#64))) - (ws.getD ((0 + 5 * zi) + 4) 0#64)⟩] : List Tr) = pA (mH ws) 0 (zi + 1) := by rw [vB]; rfl
   have D1 := G2
   have E1 := H2
   rw [I2] at D1 E1
   exact hK _ _ (E_ d0 (E_ D2 (E_ E2 (E_ F2 (A_ k0 (A_ rfl (A_ I0 (A_ D1 E1))))))))
  refine gk 2 ?_
  refine WalkT.eff g1 2 ?_ ?_
  ·refine tA fun r w0 uw hF hE => ?_
   obtain ⟨d0, m0, q0, x0, k0, y0, I0, h1, F1⟩ := hF
   replace F1 := F1.ext hE
   dsimp only
   rw [y0]
   refine MC fun Q' hK => ?_
   refine go 1 ?_
   intro x4 J2 y4
   exact hK _ (fun _ => (E_ d0 (E_ m0 (E_ q0 (E_ x0 (A_ k0 (A_ y0 (A_ I0 (A_ h1 J2)))))))))
  refine WalkT.nil fun r w0 z4 hF hE => ?_
  obtain ⟨d0, m0, q0, x0, k0, y0, I0, h1, Q0⟩ := hF
  replace Q0 := Q0.ext hE
  dsimp only
  rw [k0, y0]
  dsimp only [P0] at I0
  dsimp only [E0, O0] at Q0
  refine go 6 ?_
  exact ⟨(zi + 1, f0, l0, p0, m0, q0, x0), _, rfl, ⟨rfl, rfl, rfl, rfl, rfl, rfl, rfl, congrArg i64 om, rfl, trivial⟩, ⟨⟨om, d1, h1⟩, (Q0.pk 6 [1, 4, 2, 5])⟩, vd⟩
 ·obtain rfl : n1 = zi := by omega
  let x3 : RW := (kytb, qA PA 66 (pA (mH ws) 0 n1) zztb)
  let x2 : RW := (kyta, qA PA 66 (pA (wD ws) 0 n1) zzta)
  refine go 1 ?_
  refine AA (σ := Nat × Option Nat × Nat × LV × Option Nat × Nat × LV) (fun (zi, kyba, ccba, zzba, kybb, ccbb, zzbb) => [(0, .slice wa ws.length wc), (1, iN n1), (2, iN n2), (3, iN n3), (8, pT b1), (9, i64 0), (10, pT b5), (11, iN (5 * n1 + 5 * zi)), (15, iN zi)]) (fun (zi, kyba, ccba, zzba, kybb, ccbb, zzbb) w' => (zi ≤ n2 ∧ Sl PA kyba (pA (wD ws) (5 * n1) zi) ccba zzba ∧ Sl PA kybb (pA (lH ws) (5 * n1) zi) ccbb zzbb) ∧ Hp No w w' [(rC b5 #[sO kyta n1 ccta, sO kyba zi ccba, yA, sO kytb n1 cctb, sO kybb zi ccbb, yA] 43), x2, x3, (kyba, qA PA 66 (pA (wD ws) (5 * n1) zi) zzba), (kybb, qA PA 66 (pA (lH ws) (5 * n1) zi) zzbb), (rC b1 x1 43)]) (fun (zi, kyba, ccba, zzba, kybb, ccbb, zzbb) => n2 - zi) ((0, none, 0, [], none, 0, [])) ?_ ?_ ?_
  ·exact ⟨rfl, rfl, rfl, rfl, rfl, rfl, rfl, congrArg i64 om, rfl, trivial⟩
  ·exact ⟨⟨Nat.zero_le _, Sl.none, Sl.none⟩, (((t1.nil (qA PA 66 [] [])).nil (qA PA 66 [] [])).pk 6 [2, 3, 4, 1, 0, 5])⟩
  rintro ⟨zi, kyba, ccba, zzba, kybb, ccbb, zzbb⟩ ρ K2 ⟨⟨hzi, hkyba, hkybb⟩, G1⟩
  refine go 3 ?_
  refine iA (((zi : Nat) : Int) < (n2 : Nat)) rfl (fun L2 => ?_) (fun L2 => ?_)
  ·refine go 0 ?_
   refine uB (K := [none, none, none, none, none, none, none, none, none, none, none, none, none, none, none, none, none, none, none, none, none, none, none]) [0, 0, 3, 7, 0, 0, 32, 112, 240, 511, 0, 0, 2048, 7168, 15360, 0, 0, 65536, 229376, 491520, 1047552, 1023, 4194303] (fun w' => Ext K2 w') (fun w' w'' => Ext w' w'') BA (by kernel_rfl) (Ext.drew _) (fun _ _ h h' => h.trans h') ?_ ?_
   ·exact xB (by decide)
   refine gk 23 ?_
   intro r260 A4 M2 hF
   have N2 := G1.ext M2
   refine go 0 ?_
   have O2 := (N2.pk 6 [0, 3, 1, 2, 4, 5])
   let F0 : List RW := [x2, x3, (kybb, qA PA 66 (pA (lH ws) (5 * n1) zi) zzbb), (rC b1 x1 43)]
   let R0 := fun (c0 : Nat) => (((some c0), qA PA 66 ([⟨ws.getD (5 * n1 + 5 * zi) 0#64, ws.getD ((5 * n1 + 5 * zi) + 2) 0#64, ws.getD ((5 * n1 + 5 * zi) + 4) 0#64⟩] : List Tr) ([])) : RW)
   let H1 := ((kyba, qA PA 66 (pA (wD ws) (5 * n1) zi) zzba) : RW)
   let i1 := ((rC b5 #[sO kyta n1 ccta, sO kyba zi ccba, yA, sO kytb n1 cctb, sO kybb zi ccbb, yA] 43) : RW)
   let S0 := fun (c0 : Nat) => (Sl PA (some c0) ([⟨ws.getD (5 * n1 + 5 * zi) 0#64, ws.getD ((5 * n1 + 5 * zi) + 2) 0#64, ws.getD ((5 * n1 + 5 * zi) + 4) 0#64⟩] : List Tr) 1 ([]) : Prop)
   let P2 : mC := [RB false false false fun _ _ _ w' => Hp No w w' (i1 :: H1 :: F0), RB true false false fun v18 _ _ w' => ∃ c0, v18 = sO (some c0) 1 1 ∧ (S0 c0) ∧ Hp No w w' ((R0 c0) :: i1 :: H1 :: F0), RB true true false fun v18 v19 _ w' => ∃ c0 h0 n0 r0, v18 = sO (some c0) 1 1 ∧ v19 = sO h0 (zi + 1) n0 ∧ (S0 c0) ∧ Sl PA h0 (pA (wD ws) (5 * n1) (zi + 1)) n0 r0 ∧ Hp No w w' ((R0 c0) :: i1 :: (h0, qA PA 66 (pA (wD ws) (5 * n1) (zi + 1)) r0) :: F0), RB true true true fun v18 v19 _ w' => ∃ c0 h0 n0 r0, v18 = sO (some c0) 1 1 ∧ v19 = sO h0 (zi + 1) n0 ∧ (S0 c0) ∧ Sl PA h0 (pA (wD ws) (5 * n1) (zi + 1)) n0 r0 ∧ Hp No w w' ((R0 c0) :: (rC b5 #[sO kyta n1 ccta, sO h0 (zi + 1) n0, yA, sO kytb n1 cctb, sO kybb zi ccbb, yA] 43) :: (h0, qA PA 66 (pA (wD ws) (5 * n1) (zi + 1)) r0) :: F0)]
   refine MA (m := 23) [0, 1, 3, 0, 0, 24, 56, 0, 0, 256, 896, 1920, 0, 0, 8192, 28672, 61440, 131064, 262136, 524287, 1048575, 2097151, 4194303] [18, 19, 22] F0 P2 BA (fun _ e => O2.ext e) EC (fun j1 => ?_)
   refine gk 18 ?_
   refine WalkT.eff j1 0 ?_ ?_
   ·refine tA fun r w0 uw hF hE => ?_
    have B4 := hF.ext hE
    exact gW fun Q' hK => (bS (E := PA) (l := ([⟨ws.getD (5 * n1 + 5 * zi) 0#64, ws.getD ((5 * n1 + 5 * zi) + 2) 0#64, ws.getD ((5 * n1 + 5 * zi) + 4) 0#64⟩] : List Tr)) fun Q2 C4 R2 S2 D4 => hK _ _ (E_ Q2 (A_ rfl (A_ R2 S2))))
   refine WalkT.eff j1 1 ?_ ?_
   ·refine tA fun r w0 uw hF hE => ?_
    obtain ⟨c0, j0, J0, I1⟩ := hF
    replace I1 := I1.ext hE
    dsimp only
    rw [j0]
    refine gW fun Q' hK => ?_
    refine OD ?_
    refine ⟨by rw [lB], by rfl, om, ?_⟩
    intro T2 U2 V2 F4 X2 G4 Y2
    have Z2 : (pA (wD ws) (5 * n1) zi) ++ ([⟨ws.getD (5 * n1 + 5 * zi) 0#64, ws.getD ((5 * n1 + 5 * zi) + 2) 0#64, ws.getD ((5 * n1 + 5 * zi) + 4) 0#64⟩] : List Tr) = pA (wD ws) (5 * n1) (zi + 1) := by rw [vB]; rfl
    have J1 := X2
    have K1 := Y2
    rw [Z2] at J1 K1
    exact hK _ _ (E_ c0 (E_ T2 (E_ U2 (E_ V2 (A_ j0 (A_ rfl (A_ J0 (A_ J1 K1))))))))
   refine gk 2 ?_
   refine WalkT.eff j1 2 ?_ ?_
   ·refine tA fun r w0 uw hF hE => ?_
    obtain ⟨c0, h0, n0, r0, j0, u0, J0, k1, L1⟩ := hF
    replace L1 := L1.ext hE
    dsimp only
    rw [u0]
    refine MC fun Q' hK => ?_
    refine go 1 ?_
    intro H4 c3 I4
    exact hK _ (fun _ => (E_ c0 (E_ h0 (E_ n0 (E_ r0 (A_ j0 (A_ u0 (A_ J0 (A_ k1 c3)))))))))
   refine WalkT.nil fun r w0 J4 hF hE => ?_
   obtain ⟨c0, h0, n0, r0, j0, u0, J0, k1, T0⟩ := hF
   replace T0 := T0.ext hE
   dsimp only
   rw [j0, u0]
   dsimp only [S0] at J0
   dsimp only [F0, R0] at T0
   refine go 0 ?_
   have d3 := (T0.pk 7 [1, 5, 0, 2, 3, 4, 6])
   let G0 : List RW := [((some c0), qA PA 66 ([⟨ws.getD (5 * n1 + 5 * zi) 0#64, ws.getD ((5 * n1 + 5 * zi) + 2) 0#64, ws.getD ((5 * n1 + 5 * zi) + 4) 0#64⟩] : List Tr) ([])), (h0, qA PA 66 (pA (wD ws) (5 * n1) (zi + 1)) r0), x2, x3, (rC b1 x1 43)]
   let U0 := fun (e0 : Nat) => (((some e0), qA PA 66 ([⟨ws.getD ((5 * n1 + 5 * zi) + 1) 0#64, ws.getD ((5 * n1 + 5 * zi) + 3) 0#64, (((ws.getD (5 * n1 + 5 * zi) 0#64) ^^^ (ws.getD ((5 * n1 + 5 * zi) + 1) 0#64)) &&& ((ws.getD ((5 * n1 + 5 * zi) + 2) 0#64) ^^^ (ws.getD ((5 * n1 + 5 * zi) + 3) 0#64))) ^^^ (ws.getD ((5 * n1 + 5 * zi) + 4) 0#64)⟩] : List Tr) ([])) : RW)
   let M1 := ((kybb, qA PA 66 (pA (lH ws) (5 * n1) zi) zzbb) : RW)
   let l1 := ((rC b5 #[sO kyta n1 ccta, sO h0 (zi + 1) n0, yA, sO kytb n1 cctb, sO kybb zi ccbb, yA] 43) : RW)
   let V0 := fun (e0 : Nat) => (Sl PA (some e0) ([⟨ws.getD ((5 * n1 + 5 * zi) + 1) 0#64, ws.getD ((5 * n1 + 5 * zi) + 3) 0#64, (((ws.getD (5 * n1 + 5 * zi) 0#64) ^^^ (ws.getD ((5 * n1 + 5 * zi) + 1) 0#64)) &&& ((ws.getD ((5 * n1 + 5 * zi) + 2) 0#64) ^^^ (ws.getD ((5 * n1 + 5 * zi) + 3) 0#64))) ^^^ (ws.getD ((5 * n1 + 5 * zi) + 4) 0#64)⟩] : List Tr) 1 ([]) : Prop)
   let e3 : mC := [RB false false false fun _ _ _ w' => Hp No w w' (l1 :: M1 :: G0), RB true false false fun v23 _ _ w' => ∃ e0, v23 = sO (some e0) 1 1 ∧ (V0 e0) ∧ Hp No w w' ((U0 e0) :: l1 :: M1 :: G0), RB true true false fun v23 v24 _ w' => ∃ e0 o0 s0 z0, v23 = sO (some e0) 1 1 ∧ v24 = sO o0 (zi + 1) s0 ∧ (V0 e0) ∧ Sl PA o0 (pA (lH ws) (5 * n1) (zi + 1)) s0 z0 ∧ Hp No w w' ((U0 e0) :: l1 :: (o0, qA PA 66 (pA (lH ws) (5 * n1) (zi + 1)) z0) :: G0), RB true true true fun v23 v24 _ w' => ∃ e0 o0 s0 z0, v23 = sO (some e0) 1 1 ∧ v24 = sO o0 (zi + 1) s0 ∧ (V0 e0) ∧ Sl PA o0 (pA (lH ws) (5 * n1) (zi + 1)) s0 z0 ∧ Hp No w w' ((U0 e0) :: (rC b5 #[sO kyta n1 ccta, sO h0 (zi + 1) n0, yA, sO kytb n1 cctb, sO o0 (zi + 1) s0, yA] 43) :: (o0, qA PA 66 (pA (lH ws) (5 * n1) (zi + 1)) z0) :: G0)]
   refine MA (m := 28) [0, 1, 3, 0, 0, 16, 56, 120, 0, 0, 512, 1792, 3840, 0, 0, 24576, 0, 0, 131072, 458752, 983040, 2088960, 4194296, 8388600, 16777215, 33554431, 67108863, 134217727] [23, 24, 27] G0 e3 BA (fun _ e => d3.ext e) EC (fun m1 => ?_)
   refine gk 23 ?_
   refine WalkT.eff m1 0 ?_ ?_
   ·refine tA fun r w0 uw hF hE => ?_
    have K4 := hF.ext hE
    exact gW fun Q' hK => (bS (E := PA) (l := ([⟨ws.getD ((5 * n1 + 5 * zi) + 1) 0#64, ws.getD ((5 * n1 + 5 * zi) + 3) 0#64, (((ws.getD (5 * n1 + 5 * zi) 0#64) ^^^ (ws.getD ((5 * n1 + 5 * zi) + 1) 0#64)) &&& ((ws.getD ((5 * n1 + 5 * zi) + 2) 0#64) ^^^ (ws.getD ((5 * n1 + 5 * zi) + 3) 0#64))) ^^^ (ws.getD ((5 * n1 + 5 * zi) + 4) 0#64)⟩] : List Tr)) fun f3 L4 g3 h3 M4 => hK _ _ (E_ f3 (A_ rfl (A_ g3 h3))))
   refine WalkT.eff m1 1 ?_ ?_
   ·refine tA fun r w0 uw hF hE => ?_
    obtain ⟨e0, k0, K0, N1⟩ := hF
    replace N1 := N1.ext hE
    dsimp only
    rw [k0]
    refine gW fun Q' hK => ?_
    refine OD ?_
    refine ⟨by rw [lB], by rfl, om, ?_⟩
    intro i3 j3 k3 N4 l3 O4 m3
    have o3 : (pA (lH ws) (5 * n1) zi) ++ ([⟨ws.getD ((5 * n1 + 5 * zi) + 1) 0#64, ws.getD ((5 * n1 + 5 * zi) + 3) 0#64, (((ws.getD (5 * n1 + 5 * zi) 0#64) ^^^ (ws.getD ((5 * n1 + 5 * zi) + 1) 0#64)) &&& ((ws.getD ((5 * n1 + 5 * zi) + 2) 0#64) ^^^ (ws.getD ((5 * n1 + 5 * zi) + 3) 0#64))) ^^^ (ws.getD ((5 * n1 + 5 * zi) + 4) 0#64)⟩] : List Tr) = pA (lH ws) (5 * n1) (zi + 1) := by rw [vB]; rfl
    have O1 := l3
    have P1 := m3
    rw [o3] at O1 P1
    exact hK _ _ (E_ e0 (E_ i3 (E_ j3 (E_ k3 (A_ k0 (A_ rfl (A_ K0 (A_ O1 P1))))))))
   refine gk 2 ?_
   refine WalkT.eff m1 2 ?_ ?_
   ·refine tA fun r w0 uw hF hE => ?_
    obtain ⟨e0, o0, s0, z0, k0, y0, K0, o1, Q1⟩ := hF
    replace Q1 := Q1.ext hE
    dsimp only
    rw [y0]
    refine MC fun Q' hK => ?_
    refine go 1 ?_
    intro P4 p3 Q4
    exact hK _ (fun _ => (E_ e0 (E_ o0 (E_ s0 (E_ z0 (A_ k0 (A_ y0 (A_ K0 (A_ o1 p3)))))))))
   refine WalkT.nil fun r w0 R4 hF hE => ?_
   obtain ⟨e0, o0, s0, z0, k0, y0, K0, o1, W0⟩ := hF
   replace W0 := W0.ext hE
   dsimp only
   rw [k0, y0]
   dsimp only [V0] at K0
   dsimp only [G0, U0] at W0
   refine go 6 ?_
   exact ⟨(zi + 1, h0, n0, r0, o0, s0, z0), _, rfl, ⟨rfl, rfl, rfl, rfl, rfl, rfl, rfl, congrArg i64 om, rfl, trivial⟩, ⟨⟨om, k1, o1⟩, (W0.pk 8 [1, 5, 6, 4, 2, 7])⟩, vd⟩
  ·obtain rfl : n2 = zi := by omega
   refine go 1 ?_
   refine AA (σ := Nat × Option Nat × Nat × LV × Option Nat × Nat × LV) (fun (zi, kyoa, ccoa, zzoa, kyob, ccob, zzob) => [(0, .slice wa ws.length wc), (1, iN n1), (2, iN n2), (3, iN n3), (8, pT b1), (9, i64 0), (10, pT b5), (11, iN (5 * (n1 + n2) + 5 * zi)), (18, iN zi)]) (fun (zi, kyoa, ccoa, zzoa, kyob, ccob, zzob) w' => (zi ≤ n3 ∧ Sl zB kyoa (pA (aH ws) (5 * (n1 + n2)) zi) ccoa zzoa ∧ Sl zB kyob (pA (TF ws) (5 * (n1 + n2)) zi) ccob zzob) ∧ Hp No w w' [(rC b5 #[sO kyta n1 ccta, sO kyba n2 ccba, sO kyoa zi ccoa, sO kytb n1 cctb, sO kybb n2 ccbb, sO kyob zi ccob] 43), x2, x3, (kyba, qA PA 66 (pA (wD ws) (5 * n1) n2) zzba), (kybb, qA PA 66 (pA (lH ws) (5 * n1) n2) zzbb), (kyoa, qA zB 121 (pA (aH ws) (5 * (n1 + n2)) zi) zzoa), (kyob, qA zB 121 (pA (TF ws) (5 * (n1 + n2)) zi) zzob), (rC b1 x1 43)]) (fun (zi, kyoa, ccoa, zzoa, kyob, ccob, zzob) => n3 - zi) ((0, none, 0, [], none, 0, [])) ?_ ?_ ?_
   ·exact ⟨rfl, rfl, rfl, rfl, rfl, rfl, rfl, congrArg i64 om, rfl, trivial⟩
   ·exact ⟨⟨Nat.zero_le _, Sl.none, Sl.none⟩, (((G1.nil (qA zB 121 [] [])).nil (qA zB 121 [] [])).pk 8 [2, 3, 4, 5, 6, 1, 0, 7])⟩
   rintro ⟨zi, kyoa, ccoa, zzoa, kyob, ccob, zzob⟩ ρ S4 ⟨⟨hzi, hkyoa, hkyob⟩, q3⟩
   refine go 3 ?_
   refine iA (((zi : Nat) : Int) < (n3 : Nat)) rfl (fun r3 => ?_) (fun r3 => ?_)
   ·refine go 0 ?_
    let A0 : List RW := [(rC b5 #[sO kyta n1 ccta, sO kyba n2 ccba, sO kyoa zi ccoa, sO kytb n1 cctb, sO kybb n2 ccbb, sO kyob zi ccob] 43), x2, x3, (kyba, qA PA 66 (pA (wD ws) (5 * n1) n2) zzba), (kybb, qA PA 66 (pA (lH ws) (5 * n1) n2) zzbb), (kyoa, qA zB 121 (pA (aH ws) (5 * (n1 + n2)) zi) zzoa), (kyob, qA zB 121 (pA (TF ws) (5 * (n1 + n2)) zi) zzob), (rC b1 x1 43)]
    let p1 := fun (a0 : Nat) => ((rX a0 E64 ([ws.getD (5 * (n1 + n2) + 5 * zi) 0#64, ws.getD ((5 * (n1 + n2) + 5 * zi) + 1) 0#64]) 83) : RW)
    let R1 := fun (a0 : Nat) => ((rX a0 E64 ([0#64, 0#64]) 83) : RW)
    let S1 := fun (i0 : Nat) => ((rX i0 E64 ([0#64, 0#64]) 83) : RW)
    let s3 : mC := [RD false false false false fun _ _ _ _ w' => Hp No w w' A0, RD true false false false fun v21 _ _ _ w' => ∃ a0, v21 = pT a0 ∧ Hp No w w' ((R1 a0) :: A0), RD false true false false fun _ v22 _ _ w' => ∃ X0, v22 = pT X0 ∧ Hp No w w' ((rX X0 E64 ([0#64, 0#64]) 83) :: A0), RD true true false false fun v21 v22 _ _ w' => ∃ a0 i0, v21 = pT a0 ∧ v22 = pT i0 ∧ Hp No w w' ((S1 i0) :: (R1 a0) :: A0), RD true true true false fun v21 v22 _ _ w' => ∃ a0 i0, v21 = pT a0 ∧ v22 = pT i0 ∧ Hp No w w' ((S1 i0) :: (p1 a0) :: A0), RD true true true true fun v21 v22 _ _ w' => ∃ a0 i0, v21 = pT a0 ∧ v22 = pT i0 ∧ Hp No w w' ((rX i0 E64 ([ws.getD ((5 * (n1 + n2) + 5 * zi) + 2) 0#64, ws.getD ((5 * (n1 + n2) + 5 * zi) + 3) 0#64]) 83) :: (p1 a0) :: A0)]
    refine MA (m := 25) [0, 0, 3, 7, 0, 0, 32, 112, 240, 511, 0, 0, 2048, 7168, 15360, 0, 0, 65536, 229376, 491520, 1047552, 0, 0, 6292479, 16777215] [21, 22, 23, 24] A0 s3 BA (fun _ e => q3.ext e) EC (fun Y0 => ?_)
    refine gk 21 ?_
    refine WalkT.eff Y0 0 ?_ ?_
    ·refine tB (fun r w0 uw hF hE => ?_) fun r w0 uw hF hE => ?_
     ·have T4 := hF.ext hE
      refine gW fun Q' hK => ?_
      refine go 1 ?_
      intro t3 U4 V4 u3 W4
      exact hK _ _ (E_ t3 (A_ rfl u3))
     ·obtain ⟨X0, B0, T1⟩ := hF
      replace T1 := T1.ext hE
      refine gW fun Q' hK => ?_
      refine go 1 ?_
      intro w3 X4 Y4 y3 Z4
      exact hK _ _ (E_ w3 (E_ X0 (A_ rfl (A_ B0 ((y3.pk 2 [1, 0]))))))
    refine WalkT.eff Y0 1 ?_ ?_
    ·refine tB (fun r w0 uw hF hE => ?_) fun r w0 uw hF hE => ?_
     ·have c5 := hF.ext hE
      refine gW fun Q' hK => ?_
      refine go 1 ?_
      intro z3 d5 e5 A3 f5
      exact hK _ _ (E_ z3 (A_ rfl A3))
     ·obtain ⟨a0, C0, U1⟩ := hF
      replace U1 := U1.ext hE
      refine gW fun Q' hK => ?_
      refine go 1 ?_
      intro B3 g5 h5 C3 i5
      exact hK _ _ (E_ a0 (E_ B3 (A_ C0 (A_ rfl C3))))
    refine WalkT.eff Y0 2 ?_ ?_
    ·refine tA fun r w0 uw hF hE => ?_
     obtain ⟨a0, i0, C0, B0, V1⟩ := hF
     replace V1 := V1.ext hE
     dsimp only
     rw [C0]
     refine MC fun Q' hK => ?_
     refine go 1 ?_
     intro j5 D3 k5
     exact hK _ (fun _ => (E_ a0 (E_ i0 (A_ C0 (A_ B0 D3)))))
    refine WalkT.eff Y0 3 ?_ ?_
    ·refine tA fun r w0 uw hF hE => ?_
     obtain ⟨a0, i0, C0, B0, W1⟩ := hF
     replace W1 := W1.ext hE
     dsimp only
     rw [B0]
     refine MC fun Q' hK => ?_
     refine go 1 ?_
     intro l5 E3 m5
     exact hK _ (fun _ => (E_ a0 (E_ i0 (A_ C0 (A_ B0 E3)))))
    refine WalkT.nil fun r w0 n5 hF hE => ?_
    obtain ⟨a0, i0, C0, B0, q1⟩ := hF
    replace q1 := q1.ext hE
    dsimp only
    rw [C0, B0]
    dsimp only [A0, p1] at q1
    refine go 7 ?_
    refine bS (E := zB) (l := ([⟨ws.getD (5 * (n1 + n2) + 5 * zi) 0#64, ws.getD ((5 * (n1 + n2) + 5 * zi) + 1) 0#64, ws.getD ((5 * (n1 + n2) + 5 * zi) + 2) 0#64, ws.getD ((5 * (n1 + n2) + 5 * zi) + 3) 0#64, false⟩] : List Ot)) fun o5 p5 q5 r5 s5 => ?_
    refine OD ?_
    refine ⟨by rw [lB], by rfl, om, ?_⟩
    intro X1 Y1 Z1 t5 F3 u5 G3
    have I3 : (pA (aH ws) (5 * (n1 + n2)) zi) ++ ([⟨ws.getD (5 * (n1 + n2) + 5 * zi) 0#64, ws.getD ((5 * (n1 + n2) + 5 * zi) + 1) 0#64, ws.getD ((5 * (n1 + n2) + 5 * zi) + 2) 0#64, ws.getD ((5 * (n1 + n2) + 5 * zi) + 3) 0#64, false⟩] : List Ot) = pA (aH ws) (5 * (n1 + n2)) (zi + 1) := by rw [vB]; rfl
    have r1 := F3
    have J3 := G3
    rw [I3] at r1 J3
    refine go 3 ?_
    intro w5 x5 y5
    refine go 7 ?_
    refine iA (((ws.getD ((5 * (n1 + n2) + 5 * zi) + 4) 0#64) % (2#64)) = (1#64)) rfl (fun s1 => ?_) (fun s1 => ?_)
    ·refine go 6 ?_
     refine bS (E := zB) (l := ([⟨ws.getD ((5 * (n1 + n2) + 5 * zi) + 2) 0#64, ws.getD ((5 * (n1 + n2) + 5 * zi) + 3) 0#64, 0#64, 0#64, true⟩] : List Ot)) fun z5 A5 B5 C5 D5 => ?_
     refine OD ?_
     refine ⟨by rw [lB], by rfl, om, ?_⟩
     intro K3 L3 M3 E5 N3 F5 O3
     have P3 : (pA (TF ws) (5 * (n1 + n2)) zi) ++ ([⟨ws.getD ((5 * (n1 + n2) + 5 * zi) + 2) 0#64, ws.getD ((5 * (n1 + n2) + 5 * zi) + 3) 0#64, 0#64, 0#64, true⟩] : List Ot) = pA (TF ws) (5 * (n1 + n2)) (zi + 1) := by rw [vB, qT (by rw [fM]; exact s1)]; rfl
     have c2 := N3
     have Q3 := O3
     rw [P3] at c2 Q3
     refine go 3 ?_
     intro G5 R3 H5
     refine go 6 ?_
     exact ⟨(zi + 1, X1, Y1, Z1, K3, L3, M3), _, rfl, ⟨rfl, rfl, rfl, rfl, rfl, rfl, rfl, congrArg i64 om, rfl, trivial⟩, ⟨⟨om, r1, c2⟩, ((((R3.dropk 3).dropk 2).dropk 1).dropk 0)⟩, vd⟩
    ·refine go 6 ?_
     refine bS (E := zB) (l := ([⟨ws.getD (5 * (n1 + n2) + 5 * zi) 0#64, ws.getD ((5 * (n1 + n2) + 5 * zi) + 1) 0#64, 0#64, 0#64, false⟩] : List Ot)) fun I5 J5 K5 L5 M5 => ?_
     refine OD ?_
     refine ⟨by rw [lB], by rfl, om, ?_⟩
     intro S3 T3 U3 N5 V3 O5 W3
     have X3 : (pA (TF ws) (5 * (n1 + n2)) zi) ++ ([⟨ws.getD (5 * (n1 + n2) + 5 * zi) 0#64, ws.getD ((5 * (n1 + n2) + 5 * zi) + 1) 0#64, 0#64, 0#64, false⟩] : List Ot) = pA (TF ws) (5 * (n1 + n2)) (zi + 1) := by rw [vB, rT (by rw [fM]; exact s1)]; rfl
     have d2 := V3
     have Y3 := W3
     rw [X3] at d2 Y3
     refine go 3 ?_
     intro P5 Z3 Q5
     refine go 6 ?_
     exact ⟨(zi + 1, X1, Y1, Z1, S3, T3, U3), _, rfl, ⟨rfl, rfl, rfl, rfl, rfl, rfl, rfl, congrArg i64 om, rfl, trivial⟩, ⟨⟨om, r1, d2⟩, ((((Z3.dropk 3).dropk 2).dropk 1).dropk 0)⟩, vd⟩
   ·obtain rfl : n3 = zi := by omega
    refine go 2 ?_
    intro R5 c4 S5
    refine go 1 ?_
    refine ⟨_, rfl, kyta, ccta, zzta, kyba, ccba, zzba, kyoa, ccoa, zzoa, kytb, cctb, zztb, kybb, ccbb, zzbb, kyob, ccob, zzob, by simp only [lB]; rfl, hkyta, hkyba, hkyoa, hkytb, hkybb, hkyob, (c4.pk 8 [1, 3, 5, 2, 4, 6])⟩
end Go.Proofs.YtohngnahcgbfmaaGreatDoor.Co
namespace Go.Proofs.YtohngnahcgbfmaaGreatDoor.Mt
open Go Vc Er Ek Circ Mi
open Co Cm
theorem FQ : OA Tryz.prog 38 = true := by kernel_rfl
theorem BQ : jD Tryz.prog 24 = some (2, 1) := by kernel_rfl
theorem yQ : ZF Tryz.prog 34 = some 8 := by kernel_rfl
theorem eM : NA Tryz.prog 23 = true := by kernel_rfl
theorem LO : UB Tryz.prog 38 = some 2 := by kernel_rfl
theorem BO : Tryz.prog.underlying 3 = some (.int .i64) := by kernel_rfl
theorem mK : Tryz.prog.underlying 34 = some (.int .u64) := by kernel_rfl
theorem bO : YB Tryz.prog 34 = some (.int .u64 0) := by kernel_rfl
theorem KJ (l : List (BitVec 64)) (la : Option Addr) (lc m n : Nat) (hm : m = l.length) (w : World) (hL : Rd E64 w la l) (hl : l.length ≤ 17592186044416) (hn : n ≤ 17592186044416) : Ca 25 [.slice la m lc, i64 ((n : Nat) : Int)] w fun v w' => ∃ ls : List (BitVec 64), ls.length = max l.length n ∧ ∃ (key : Option Nat) (c : Nat) (sp : LV), v = sO key ls.length c ∧ Sl E64 key ls c sp ∧ Hp No w w' [(key, qA E64 34 ls sp)] := by
 subst hm
 have H := Hp.start No w
 refine enter (n := 28) Tryz.func25 rfl rfl (dB rfl) ?_
 refine go 1 ?_
 refine bS (E := E64) (l := []) fun b1 w3 n0 H4 o0 => ?_
 refine go 2 ?_
 intro c0 c7 d0 p0 e0 q0 f0
 have h0 : ([]) ++ l = l := by rfl
 have a0 := e0
 have b0 := f0
 rw [h0] at a0 b0
 refine go 4 ?_
 refine AA (σ := Nat × List (BitVec 64) × Option Nat × Nat × LV) (fun (i, ls, kf, cf, sf) => [(1, iN n), (5, sO kf i cf), (6, iN i)]) (fun (i, ls, kf, cf, sf) w' => (l.length ≤ i ∧ i ≤ max l.length n ∧ ls.length = i ∧ Sl E64 kf ls cf sf) ∧ Hp No w w' [(kf, qA E64 34 ls sf)]) (fun (i, ls, kf, cf, sf) => max l.length n - i) ((l.length, l, c0, c7, d0)) ?_ ?_ ?_
 ·exact ⟨rfl, congrArg (Value.slice _ · _) (Nat.zero_add _), congrArg (fun q : Nat => i64 (q : Int)) (Nat.zero_add _), trivial⟩
 ·exact ⟨⟨Nat.le_refl _, Nat.le_max_left _ _, rfl, a0⟩, b0⟩
 rintro ⟨i, ls, kf, cf, sf⟩ ρ r0 ⟨⟨hq1, hq2, hfl, hSf⟩, HL⟩
 refine go 3 ?_
 refine iA (((i : Nat) : Int) < (n : Nat)) rfl (fun cj14 => ?_) (fun cj14 => ?_)
 ·refine go 8 ?_
  refine bS (E := E64) (l := [((BitVec.ofInt 64 (i : Nat)) * (11400714819323198485#64)) + ((BitVec.ofInt 64 (i : Nat)) <<< (32 : Nat))]) fun s0 u0 w0 x0 y0 => ?_
  refine OD ?_
  refine ⟨by exact hfl.symm, by rfl, om, ?_⟩
  intro i0 j0 k0 z0 l0 A0 m0
  refine go 4 ?_
  exact ⟨(i + 1, _, i0, j0, k0), _, rfl, kp, ⟨⟨om, by omega, by rw [List.length_append, hfl]; rfl, l0⟩, (m0.dropk 0)⟩, vd⟩
 ·refine go 2 ?_
  exact ⟨_, rfl, ls, by omega, kf, cf, sf, by rw [hfl] <;> rfl, hSf, HL⟩
theorem gR (ws : List (BitVec 64)) (wa : Option Addr) (wc n1 n2 n3 m : Nat) (hm : m = ws.length) (hn1 : n1 ≤ 65536) (hn2 : n2 ≤ 65536) (hn3 : n3 ≤ 65536) (w : World) (hW : Rd E64 w wa ws) (hlen : ws.length ≤ 140737488355328) (hfit : 5 * (n1 + n2 + n3) ≤ ws.length) : Ca 26 [.slice wa m wc, i64 ((n1 : Nat) : Int), i64 ((n2 : Nat) : Int), i64 ((n3 : Nat) : Int)] w fun v w' => (∃ q0 q1 q2 q3 q4 q5 : SlV, v = .tuple #[.agg #[.slice q0.a q0.n q0.c, .slice q1.a q1.n q1.c, .slice q2.a q2.n q2.c, .slice q3.a q3.n q3.c, .slice q4.a q4.n q4.c, .slice q5.a q5.n q5.c], i64 (0 : Int)]) ∧ Ext w w' := by
 subst hm
 refine (cP ws wa wc n1 n2 n3 hn1 hn2 hn3 w hW hlen hfit).mono fun e w' he => ?_
 obtain ⟨v, rfl, _, _, _, _, _, _, _, _, _, _, _, _, _, _, _, _, _, _, rfl, _, _, _, _, _, _, HN⟩ := he
 exact ⟨_, rfl, ⟨⟨_, _, _⟩, ⟨_, _, _⟩, ⟨_, _, _⟩, ⟨_, _, _⟩, ⟨_, _, _⟩, ⟨_, _, _⟩, rfl⟩, HN.chg⟩
theorem zG (ops : List Mo) (oa : Option Addr) (oc : Nat) (in0 in1 t0 t1 dl : List (BitVec 64)) (ain0 ain1 at0 at1 adl : Option Addr) (cin0 cin1 ct0 ct1 cdl : Nat) (w : World) (hG : Gl w) (hg : Mi.Good ops 65536 65536) (hlen : ops.length ≤ 400) (hO : Rd xE w oa ops) (hT0 : Rd E64 w at0 t0) (hT1 : Rd E64 w at1 t1) (hDL : Rd E64 w adl dl) (hl0 : t0.length ≤ 17592186044416) (hl1 : t1.length ≤ 17592186044416) (hld : dl.length ≤ 17592186044416) : Ca 9 [.agg #[.slice oa ops.length oc, .slice ain0 in0.length cin0, .slice ain1 in1.length cin1, .slice at0 t0.length ct0, .slice at1 t1.length ct1, .slice adl dl.length cdl]] w fun v w' => ∃ (b1 b2 : Nat) (s1 s2 : Sk) (ds l0 l1 : List (BitVec 64)) (k0 : Option Nat) (c0 : Nat) (z0 : LV) (k1 : Option Nat) (c1 : Nat) (z1 : LV) (q0 q1 q2 q3 q4 q5 : SlV), v = .tuple #[.agg #[pT b1, pT b2], .agg #[.slice q0.a q0.n q0.c, .slice q1.a q1.n q1.c, .slice q2.a q2.n q2.c, .slice q3.a q3.n q3.c, .slice q4.a q4.n q4.c, .slice q5.a q5.n q5.c], .agg #[sO k0 l0.length c0, sO k1 l1.length c1]] ∧ s1.ok ∧ s2.ok ∧ Dealt ds (nA ops) (nB ops) (nO ops) s1 s2 ∧ l0.length = max t0.length (pE ops) ∧ l1.length = max t1.length (dF ops) ∧ Sl E64 k0 l0 c0 z0 ∧ Sl E64 k1 l1 c1 z1 ∧ Hp No w w' (EA 66 121 114 b1 s1 ++ (EA 66 121 114 b2 s2 ++ [(k0, qA E64 34 l0 z0), (k1, qA E64 34 l1 z1)])) := by
 let x6 : Array Value := #[yA, yA, yA, yA, yA, yA]
 let x5 : Array Value := #[.pointer none, .pointer none]
 let x4 : Array Value := #[iN (nA ops), iN (nB ops), iN (nO ops), iN (pE ops), iN (dF ops), i64 (nR ops), iN (PR ops), iN (OR ops)]
 let x1 : Array Value := #[.slice oa ops.length oc, .slice ain0 in0.length cin0, .slice ain1 in1.length cin1, .slice at0 t0.length ct0, .slice at1 t1.length ct1, .slice adl dl.length cdl]
 obtain ⟨hcA, hcB, hcO, hcT0, hcT1, hcW0, hcW1, hcG⟩ := FM ops ops.length
 have e1 : nA ops = jA fA ops ops.length := rfl
 have e2 : nB ops = jA fB ops ops.length := rfl
 have e3 : nO ops = jA fO ops ops.length := rfl
 have e4 : pE ops ≤ jA ND ops ops.length + 2 := by unfold pE DV; split <;> omega
 have e5 : dF ops = jA cE ops ops.length := rfl
 have H := Hp.start No w
 refine enter (n := 66) Tryz.func9 rfl rfl (dB rfl) ?_
 refine go 1 ?_
 intro b1 w2 E3 H3 F3
 refine go 1 ?_
 intro b5 w6 G3 H7 I3
 refine go 1 ?_
 intro b9 J3 K3 L3 M3
 refine go 1 ?_
 intro N0 P1 N3 Q1 O3
 refine go 2 ?_
 refine cl (SO ops oa oc P1 uC IC om hg) ?_
 rintro _ P3 ⟨rfl, R1⟩
 have Q3 := Q1.ext R1
 refine go 1 ?_
 intro R0 R3 S3 T3 U3
 refine go 1 ?_
 intro S1 T1 V3
 refine go 6 ?_
 refine sq ((aB rfl rfl om).as (v' := iN (nA ops + nB ops)) (by rfl)) ?_
 refine go 2 ?_
 refine sq ((aB rfl rfl om).as (v' := iN (nA ops + nB ops + nO ops)) (by rfl)) (sq ((KB rfl rfl om).as (v' := iN (5 * (nA ops + nB ops + nO ops))) (by rfl)) (cl (KJ dl adl cdl dl.length (5 * (nA ops + nB ops + nO ops)) (by rfl) S1 IC om om) ?_))
 rintro _ W3 ⟨n0, X3, S0, B1, U1, rfl, Y3, V1⟩
 let x3 : RW := (S0, qA E64 34 n0 U1)
 have W1 := (T1.join V1).a6 rfl
 refine go 1 ?_
 let L0 : List RW := [x3, (rC R0 x4 57), (rC N0 #[yA, yA] 24), (rC b9 x6 43), (rC b5 x5 38), (rC b1 x1 26)]
 let T0 := fun (a0 : Sk) => ((a0.b.key, JA PA 66 a0.b.pre a0.b.l a0.b.sp) : RW)
 let U0 := fun (a0 : Sk) => ((a0.o.key, JA zB 121 a0.o.pre a0.o.l a0.o.sp) : RW)
 let V0 := fun (a0 : Sk) => ((a0.t.key, JA PA 66 a0.t.pre a0.t.l a0.t.sp) : RW)
 let W0 := fun (b0 : Sk) => ((b0.b.key, JA PA 66 b0.b.pre b0.b.l b0.b.sp) : RW)
 let X0 := fun (b0 : Sk) => ((b0.o.key, JA zB 121 b0.o.pre b0.o.l b0.o.sp) : RW)
 let Y0 := fun (b0 : Sk) => ((b0.t.key, JA PA 66 b0.t.pre b0.t.l b0.t.sp) : RW)
 let I1 := fun (f0 : Nat) (d0 : Option Nat) (h0 : Nat) => ((rC f0 #[sO d0 n0.length h0, .pointer none, iN n0.length, iN 0] 96) : RW)
 let Z0 := fun (f0 : Nat) (d0 : Option Nat) (h0 : Nat) => ((rC f0 #[sO d0 n0.length h0, .pointer none, iN n0.length, iN (5 * ((nA ops) + (nB ops)) + 5 * (nO ops))] 96) : RW)
 let d1 := fun (s0 : Nat) (a0 : Sk) => ((rC s0 #[.slice a0.t.a a0.t.l.length a0.t.c, .slice a0.b.a a0.b.l.length a0.b.c, .slice a0.o.a a0.o.l.length a0.o.c] 114) : RW)
 let g1 := fun (u0 : Nat) (b0 : Sk) => ((rC u0 #[.slice b0.t.a b0.t.l.length b0.t.c, .slice b0.b.a b0.b.l.length b0.b.c, .slice b0.o.a b0.o.l.length b0.o.c] 114) : RW)
 let X1 : mC := [RD false false false false fun _ _ _ _ w' => Hp No w w' L0, RD true false false false fun v1 _ _ _ w' => ∃ f0 d0 h0 j0, v1 = pT f0 ∧ Sl E64 d0 n0 h0 j0 ∧ Hp No w w' ((I1 f0 d0 h0) :: (d0, qA E64 34 n0 j0) :: L0), RD true true false false fun v1 v8 _ _ w' => ∃ f0 d0 h0 j0 s0 u0 a0 b0, v1 = pT f0 ∧ v8 = .tuple #[.agg #[pT s0, pT u0], .nilIface] ∧ Sl E64 d0 n0 h0 j0 ∧ a0.ok ∧ b0.ok ∧ Dealt n0 (nA ops) (nB ops) (nO ops) a0 b0 ∧ Hp No w w' ((d1 s0 a0) :: (V0 a0) :: (T0 a0) :: (U0 a0) :: (g1 u0 b0) :: (Y0 b0) :: (W0 b0) :: (X0 b0) :: (Z0 f0 d0 h0) :: (d0, qA E64 34 n0 j0) :: L0), RD false false true false fun _ _ v12 _ w' => ∃ h1, v12 = pT h1 ∧ Hp No w w' ((rC h1 x5 38) :: L0), RD true false true false fun v1 _ v12 _ w' => ∃ f0 d0 h0 j0 O0, v1 = pT f0 ∧ v12 = pT O0 ∧ Sl E64 d0 n0 h0 j0 ∧ Hp No w w' ((rC O0 x5 38) :: (I1 f0 d0 h0) :: (d0, qA E64 34 n0 j0) :: L0), RD true true true false fun v1 v8 v12 _ w' => ∃ f0 d0 h0 j0 s0 u0 a0 b0 C0, v1 = pT f0 ∧ v8 = .tuple #[.agg #[pT s0, pT u0], .nilIface] ∧ v12 = pT C0 ∧ Sl E64 d0 n0 h0 j0 ∧ a0.ok ∧ b0.ok ∧ Dealt n0 (nA ops) (nB ops) (nO ops) a0 b0 ∧ Hp No w w' ((rC C0 x5 38) :: (d1 s0 a0) :: (V0 a0) :: (T0 a0) :: (U0 a0) :: (g1 u0 b0) :: (Y0 b0) :: (W0 b0) :: (X0 b0) :: (Z0 f0 d0 h0) :: (d0, qA E64 34 n0 j0) :: L0), RD true true true true fun v1 v8 v12 _ w' => ∃ f0 d0 h0 j0 s0 u0 a0 b0 C0, v1 = pT f0 ∧ v8 = .tuple #[.agg #[pT s0, pT u0], .nilIface] ∧ v12 = pT C0 ∧ Sl E64 d0 n0 h0 j0 ∧ a0.ok ∧ b0.ok ∧ Dealt n0 (nA ops) (nB ops) (nO ops) a0 b0 ∧ Hp No w w' ((rC C0 #[pT s0, pT u0] 38) :: (d1 s0 a0) :: (V0 a0) :: (T0 a0) :: (U0 a0) :: (g1 u0 b0) :: (Y0 b0) :: (W0 b0) :: (X0 b0) :: (Z0 f0 d0 h0) :: (d0, qA E64 34 n0 j0) :: L0)]
 refine MA (m := 15) [0, 1, 0, 4, 0, 16, 0, 64, 255, 511, 1023, 1023, 0, 6143, 16383] [1, 8, 12, 13] L0 X1 BA (fun _ e => W1.ext e) EC (fun i1 => ?_)
 refine gk 1 ?_
 refine WalkT.eff i1 0 ?_ ?_
 ·refine tB (fun r w0 uw hF hE => ?_) fun r w0 uw hF hE => ?_
  ·have Y1 := hF.ext hE
   refine gW fun Q' hK => (cl (sD n0 om (sA S0) n0.length B1 (by rfl) uw IC) ?_)
   rintro _ Z3 ⟨⟨Z1, c2, d2, f2, rfl, g2, h2⟩, c4⟩
   have i2 := (Y1.join h2).a8 rfl
   exact hK _ _ (E_ Z1 (E_ c2 (E_ d2 (E_ f2 (A_ rfl (A_ g2 i2))))))
  ·obtain ⟨h1, F0, C1⟩ := hF
   replace C1 := C1.ext hE
   refine gW fun Q' hK => (cl (sD n0 om (sA S0) n0.length B1 (by rfl) uw IC) ?_)
   rintro _ d4 ⟨⟨j2, k2, l2, m2, rfl, n2, o2⟩, f4⟩
   have p2 := (C1.join o2).a9 rfl
   exact hK _ _ (E_ j2 (E_ k2 (E_ l2 (E_ m2 (E_ h1 (A_ rfl (A_ F0 (A_ n2 ((p2.pk 3 [2, 0, 1]))))))))))
 refine gk 6 ?_
 refine WalkT.eff i1 1 ?_ ?_
 ·refine tB (fun r w0 uw hF hE => ?_) fun r w0 uw hF hE => ?_
  ·obtain ⟨f0, d0, h0, j0, e1, A0, D1⟩ := hF
   replace D1 := D1.ext hE
   dsimp only
   rw [e1]
   refine gW fun Q' hK => ?_
   have r2 := D1.b2 rfl
   refine cl (XJ f0 d0 h0 j0 n0 A0 om (nA ops) (nB ops) (nO ops) om om om om [x3, (rC R0 x4 57), (rC N0 #[yA, yA] 24), (rC b9 x6 43), (rC b5 x5 38), (rC b1 x1 26)] w uw r2) ?_
   rintro _ g4 ⟨t2, u2, y2, z2, rfl, A2, B2, C2, D2⟩
   have E2 := D2.a16 rfl
   exact hK _ _ (E_ f0 (E_ d0 (E_ h0 (E_ j0 (E_ t2 (E_ u2 (E_ y2 (E_ z2 (A_ e1 (A_ rfl (A_ A0 (A_ A2 (A_ B2 (A_ C2 E2))))))))))))))
  ·obtain ⟨f0, d0, h0, j0, O0, e1, F0, A0, E1⟩ := hF
   replace E1 := E1.ext hE
   dsimp only
   rw [e1]
   refine gW fun Q' hK => ?_
   have F2 := ((E1.pk 9 [1, 2, 0, 3, 4, 5, 6, 7, 8])).b2 rfl
   refine cl (XJ f0 d0 h0 j0 n0 A0 om (nA ops) (nB ops) (nO ops) om om om om [(rC O0 x5 38), x3, (rC R0 x4 57), (rC N0 #[yA, yA] 24), (rC b9 x6 43), (rC b5 x5 38), (rC b1 x1 26)] w uw F2) ?_
   rintro _ h4 ⟨G2, H2, I2, J2, rfl, K2, L2, M2, N2⟩
   have O2 := N2.as (L' := [_, _, _, _, _, _, _, _, _, _, _, _, _, _, _, _, _]) rfl
   exact hK _ _ (E_ f0 (E_ d0 (E_ h0 (E_ j0 (E_ G2 (E_ H2 (E_ I2 (E_ J2 (E_ O0 (A_ e1 (A_ rfl (A_ F0 (A_ A0 (A_ K2 (A_ L2 (A_ M2 ((O2.pk 11 [10, 0, 1, 2, 3, 4, 5, 6, 7, 8, 9]))))))))))))))))))
 refine bA (fun r => r 8) (fun r r' h => h 8 (by decide) rfl) (fun _ _ => CA rfl) (aA (fun r => AB (r 8) 0) (fun r r' h => by rw [h 8 (by decide) rfl]) ?_ ?_)
 ·refine tB (fun r w0 uw hF hE => ?_) fun r w0 uw hF hE => ?_
  ·obtain ⟨f0, d0, h0, j0, s0, u0, a0, b0, e1, e8, A0, G0, H0, I0, HH⟩ := hF
   replace HH := HH.ext hE
   dsimp only
   rw [e8]
   exact xC
  ·obtain ⟨f0, d0, h0, j0, s0, u0, a0, b0, C0, e1, e8, F0, A0, G0, H0, I0, HH⟩ := hF
   replace HH := HH.ext hE
   dsimp only
   rw [e8]
   exact xC
 refine aA (fun r => AB (r 8) 1) (fun r r' h => by rw [h 8 (by decide) rfl]) ?_ ?_
 ·refine A_ (fun r w0 uw hF hE => ?_) (A_ (fun r w0 uw hF hE => ?_) (A_ (fun r w0 uw hF hE => ?_) trivial))
  ·obtain ⟨f0, d0, h0, j0, s0, u0, a0, b0, e1, e8, A0, G0, H0, I0, HH⟩ := hF
   replace HH := HH.ext hE
   dsimp only
   rw [e8]
   exact xC
  ·obtain ⟨f0, d0, h0, j0, s0, u0, a0, b0, C0, e1, e8, F0, A0, G0, H0, I0, HH⟩ := hF
   replace HH := HH.ext hE
   dsimp only
   rw [e8]
   exact xC
  ·obtain ⟨f0, d0, h0, j0, s0, u0, a0, b0, C0, e1, e8, F0, A0, G0, H0, I0, HH⟩ := hF
   replace HH := HH.ext hE
   dsimp only
   rw [e8]
   exact xC
 refine WalkT.eff i1 2 ?_ ?_
 ·refine A_ (fun r w0 uw hF hE => ?_) (A_ (fun r w0 uw hF hE => ?_) (A_ (fun r w0 uw hF hE => ?_) trivial))
  ·have i4 := hF.ext hE
   refine gW fun Q' hK => ?_
   refine go 1 ?_
   intro P2 j4 k4 Q2 l4
   exact hK _ _ (E_ P2 (A_ rfl Q2))
  ·obtain ⟨f0, d0, h0, j0, e1, A0, J1⟩ := hF
   replace J1 := J1.ext hE
   refine gW fun Q' hK => ?_
   refine go 1 ?_
   intro R2 m4 n4 S2 o4
   exact hK _ _ (E_ f0 (E_ d0 (E_ h0 (E_ j0 (E_ R2 (A_ e1 (A_ rfl (A_ A0 S2))))))))
  ·obtain ⟨f0, d0, h0, j0, s0, u0, a0, b0, e1, e8, A0, G0, H0, I0, K1⟩ := hF
   replace K1 := K1.ext hE
   refine gW fun Q' hK => ?_
   refine go 1 ?_
   intro T2 p4 r4 U2 s4
   exact hK _ _ (E_ f0 (E_ d0 (E_ h0 (E_ j0 (E_ s0 (E_ u0 (E_ a0 (E_ b0 (E_ T2 (A_ e1 (A_ e8 (A_ rfl (A_ A0 (A_ G0 (A_ H0 (A_ I0 U2))))))))))))))))
 refine WalkT.eff i1 3 ?_ ?_
 ·refine tA fun r w0 uw hF hE => ?_
  obtain ⟨f0, d0, h0, j0, s0, u0, a0, b0, C0, e1, e8, F0, A0, G0, H0, I0, L1⟩ := hF
  replace L1 := L1.ext hE
  dsimp only
  rw [F0, e8]
  refine MC fun Q' hK => ?_
  refine go 1 ?_
  intro t4 V2 u4
  exact hK _ (fun _ => (E_ f0 (E_ d0 (E_ h0 (E_ j0 (E_ s0 (E_ u0 (E_ a0 (E_ b0 (E_ C0 (A_ e1 (A_ e8 (A_ F0 (A_ A0 (A_ G0 (A_ H0 (A_ I0 V2)))))))))))))))))
 refine bA (fun r => AB (r 8) 1) (fun r r' h => by rw [h 8 (by decide) rfl]) (fun _ _ => zA rfl) (WalkT.nil fun r w0 X2 hF hE => ?_)
 obtain ⟨f0, d0, h0, j0, s0, u0, a0, b0, C0, e1, e8, F0, A0, G0, H0, I0, j1⟩ := hF
 replace j1 := j1.ext hE
 dsimp only
 rw [e1, e8, F0]
 dsimp only [L0, d1, V0, T0, U0, g1, Y0, W0, X0, Z0] at j1
 refine go 7 ?_
 refine cl (gR n0 (sA S0) B1 (nA ops) (nB ops) (nO ops) n0.length (by rfl) om om om X2 IC om om) ?_
 rintro _ w4 ⟨⟨m1, n1, o1, p1, r1, u1, rfl⟩, Y2⟩
 let x2 : Array Value := #[.slice m1.a m1.n m1.c, .slice n1.a n1.n n1.c, .slice o1.a o1.n o1.c, .slice p1.a p1.n p1.c, .slice r1.a r1.n r1.c, .slice u1.a u1.n u1.c]
 have y4 := j1.ext Y2
 refine go 4 ?_
 intro Z2 z4 A4 B4 C4
 refine go 1 ?_
 intro D4 c3 F4
 refine go 1 ?_
 have d3 := (c3.pk 18 [14, 15, 16, 0, 1, 2, 3, 4, 5, 6, 7, 8, 9, 10, 11, 12, 13, 17])
 let M0 : List RW := [(rC Z2 x2 43), (rC C0 #[pT s0, pT u0] 38), (rC s0 #[.slice a0.t.a a0.t.l.length a0.t.c, .slice a0.b.a a0.b.l.length a0.b.c, .slice a0.o.a a0.o.l.length a0.o.c] 114), (a0.t.key, JA PA 66 a0.t.pre a0.t.l a0.t.sp), (a0.b.key, JA PA 66 a0.b.pre a0.b.l a0.b.sp), (a0.o.key, JA zB 121 a0.o.pre a0.o.l a0.o.sp), (rC u0 #[.slice b0.t.a b0.t.l.length b0.t.c, .slice b0.b.a b0.b.l.length b0.b.c, .slice b0.o.a b0.o.l.length b0.o.c] 114), (b0.t.key, JA PA 66 b0.t.pre b0.t.l b0.t.sp), (b0.b.key, JA PA 66 b0.b.pre b0.b.l b0.b.sp), (b0.o.key, JA zB 121 b0.o.pre b0.o.l b0.o.sp), (rC f0 #[sO d0 n0.length h0, .pointer none, iN n0.length, iN (5 * ((nA ops) + (nB ops)) + 5 * (nO ops))] 96), (d0, qA E64 34 n0 j0), x3, (rC R0 x4 57), (rC b1 x1 26)]
 let P0 := ((rC N0 #[yA, yA] 24) : RW)
 let w1 := ((rC b5 #[pT s0, pT u0] 38) : RW)
 let F1 := ((rC b5 x5 38) : RW)
 let y1 := ((rC b9 x6 43) : RW)
 let G1 := ((rC b9 x2 43) : RW)
 let f3 : mC := [AV false false false false false fun _ _ _ _ _ w' => Hp No w w' (P0 :: y1 :: F1 :: M0), AV true false false false false fun v8 _ _ _ _ w' => ∃ i0 o0 p0 e0, v8 = sO i0 e0.length o0 ∧ Sl E64 i0 e0 o0 p0 ∧ e0.length = max t0.length (pE ops) ∧ Hp No w w' ((i0, qA E64 34 e0 p0) :: P0 :: y1 :: F1 :: M0), AV true true false false false fun v8 v15 _ _ _ w' => ∃ i0 o0 p0 e0 r0 x0 y0 m0, v8 = sO i0 e0.length o0 ∧ v15 = sO r0 m0.length x0 ∧ Sl E64 r0 m0 x0 y0 ∧ Sl E64 i0 e0 o0 p0 ∧ e0.length = max t0.length (pE ops) ∧ m0.length = max t1.length (dF ops) ∧ Hp No w w' ((r0, qA E64 34 m0 y0) :: (i0, qA E64 34 e0 p0) :: P0 :: y1 :: F1 :: M0), AV true true true false false fun v8 v15 _ _ _ w' => ∃ i0 o0 p0 e0 r0 x0 y0 m0, v8 = sO i0 e0.length o0 ∧ v15 = sO r0 m0.length x0 ∧ Sl E64 r0 m0 x0 y0 ∧ Sl E64 i0 e0 o0 p0 ∧ e0.length = max t0.length (pE ops) ∧ m0.length = max t1.length (dF ops) ∧ Hp No w w' ((r0, qA E64 34 m0 y0) :: (i0, qA E64 34 e0 p0) :: P0 :: y1 :: w1 :: M0), AV true true true true false fun v8 v15 _ _ _ w' => ∃ i0 o0 p0 e0 r0 x0 y0 m0, v8 = sO i0 e0.length o0 ∧ v15 = sO r0 m0.length x0 ∧ Sl E64 r0 m0 x0 y0 ∧ Sl E64 i0 e0 o0 p0 ∧ e0.length = max t0.length (pE ops) ∧ m0.length = max t1.length (dF ops) ∧ Hp No w w' ((r0, qA E64 34 m0 y0) :: (i0, qA E64 34 e0 p0) :: P0 :: G1 :: w1 :: M0), AV true true true true true fun v8 v15 _ _ _ w' => ∃ i0 o0 p0 e0 r0 x0 y0 m0, v8 = sO i0 e0.length o0 ∧ v15 = sO r0 m0.length x0 ∧ Sl E64 r0 m0 x0 y0 ∧ Sl E64 i0 e0 o0 p0 ∧ e0.length = max t0.length (pE ops) ∧ m0.length = max t1.length (dF ops) ∧ Hp No w w' ((r0, qA E64 34 m0 y0) :: (i0, qA E64 34 e0 p0) :: (rC N0 #[sO i0 e0.length o0, sO r0 m0.length x0] 24) :: G1 :: w1 :: M0)]
 refine MA (m := 20) [0, 0, 0, 4, 12, 0, 32, 96, 252, 0, 512, 1536, 0, 4096, 12288, 32764, 65532, 65533, 196607, 524287] [8, 15, 17, 18, 19] M0 f3 BA (fun _ e => d3.ext e) EC (fun Q0 => ?_)
 refine gk 8 ?_
 refine WalkT.eff Q0 0 ?_ ?_
 ·refine tA fun r w0 uw hF hE => ?_
  have g3 := hF.ext hE
  refine gW fun Q' hK => (cl (KJ t0 at0 ct0 t0.length (pE ops) (by rfl) uw IC om om) ?_)
  rintro _ G4 ⟨h3, i3, j3, k3, l3, rfl, m3, n3⟩
  have o3 := (g3.join n3).as (L' := [_, _, _, _, _, _, _, _, _, _, _, _, _, _, _, _, _, _, _]) rfl
  exact hK _ _ (E_ j3 (E_ k3 (E_ l3 (E_ h3 (A_ rfl (A_ m3 (A_ i3 o3)))))))
 refine gk 6 ?_
 refine WalkT.eff Q0 1 ?_ ?_
 ·refine tA fun r w0 uw hF hE => ?_
  obtain ⟨i0, o0, p0, e0, e8, D0, E0, H1⟩ := hF
  replace H1 := H1.ext hE
  refine gW fun Q' hK => (cl (KJ t1 at1 ct1 t1.length (dF ops) (by rfl) uw IC om om) ?_)
  rintro _ H4 ⟨p3, r3, s3, t3, u3, rfl, w3, y3⟩
  have z3 := (H1.join y3).as (L' := [_, _, _, _, _, _, _, _, _, _, _, _, _, _, _, _, _, _, _, _]) rfl
  exact hK _ _ (E_ i0 (E_ o0 (E_ p0 (E_ e0 (E_ s3 (E_ t3 (E_ u3 (E_ p3 (A_ e8 (A_ rfl (A_ w3 (A_ D0 (A_ E0 (A_ r3 z3))))))))))))))
 refine aA (fun r => .agg #[r 8, r 15]) (fun r r' h => by rw [h 8 (by decide) rfl, h 15 (by decide) rfl]) ?_ ?_
 ·refine A_ (fun r w0 uw hF hE => ?_) (A_ (fun r w0 uw hF hE => ?_) (A_ (fun r w0 uw hF hE => ?_) trivial))
  ·obtain ⟨i0, o0, p0, e0, r0, x0, y0, m0, e8, B0, J0, D0, E0, K0, HH⟩ := hF
   replace HH := HH.ext hE
   dsimp only
   rw [e8, B0]
   exact xC
  ·obtain ⟨i0, o0, p0, e0, r0, x0, y0, m0, e8, B0, J0, D0, E0, K0, HH⟩ := hF
   replace HH := HH.ext hE
   dsimp only
   rw [e8, B0]
   exact xC
  ·obtain ⟨i0, o0, p0, e0, r0, x0, y0, m0, e8, B0, J0, D0, E0, K0, HH⟩ := hF
   replace HH := HH.ext hE
   dsimp only
   rw [e8, B0]
   exact xC
 refine WalkT.eff Q0 2 ?_ ?_
 ·refine tA fun r w0 uw hF hE => ?_
  obtain ⟨i0, o0, p0, e0, r0, x0, y0, m0, e8, B0, J0, D0, E0, K0, M1⟩ := hF
  replace M1 := M1.ext hE
  refine MC fun Q' hK => ?_
  refine go 1 ?_
  intro I4 A3 J4
  exact hK _ (fun _ => (E_ i0 (E_ o0 (E_ p0 (E_ e0 (E_ r0 (E_ x0 (E_ y0 (E_ m0 (A_ e8 (A_ B0 (A_ J0 (A_ D0 (A_ E0 (A_ K0 A3)))))))))))))))
 refine WalkT.eff Q0 3 ?_ ?_
 ·refine tA fun r w0 uw hF hE => ?_
  obtain ⟨i0, o0, p0, e0, r0, x0, y0, m0, e8, B0, J0, D0, E0, K0, N1⟩ := hF
  replace N1 := N1.ext hE
  refine MC fun Q' hK => ?_
  refine go 1 ?_
  intro K4 B3 L4
  exact hK _ (fun _ => (E_ i0 (E_ o0 (E_ p0 (E_ e0 (E_ r0 (E_ x0 (E_ y0 (E_ m0 (A_ e8 (A_ B0 (A_ J0 (A_ D0 (A_ E0 (A_ K0 B3)))))))))))))))
 refine WalkT.eff Q0 4 ?_ ?_
 ·refine tA fun r w0 uw hF hE => ?_
  obtain ⟨i0, o0, p0, e0, r0, x0, y0, m0, e8, B0, J0, D0, E0, K0, O1⟩ := hF
  replace O1 := O1.ext hE
  dsimp only
  rw [B0, e8]
  refine MC fun Q' hK => ?_
  refine go 1 ?_
  intro M4 C3 N4
  exact hK _ (fun _ => (E_ i0 (E_ o0 (E_ p0 (E_ e0 (E_ r0 (E_ x0 (E_ y0 (E_ m0 (A_ e8 (A_ B0 (A_ J0 (A_ D0 (A_ E0 (A_ K0 C3)))))))))))))))
 refine WalkT.nil fun r w0 O4 hF hE => ?_
 obtain ⟨i0, o0, p0, e0, r0, x0, y0, m0, e8, B0, J0, D0, E0, K0, A1⟩ := hF
 replace A1 := A1.ext hE
 dsimp only
 rw [e8, B0]
 dsimp only [M0, G1, w1] at A1
 refine go 0 ?_
 have D3 := ((A1.pk 20 [7, 8, 9, 10, 11, 12, 13, 14, 1, 0])).as (L' := EA 66 121 114 s0 a0 ++ (EA 66 121 114 u0 b0 ++ [(i0, qA E64 34 e0 p0), (r0, qA E64 34 m0 y0)])) rfl
 exact ⟨_, rfl, s0, u0, a0, b0, n0, e0, m0, i0, o0, p0, r0, x0, y0, m1, n1, o1, p1, r1, u1, rfl, G0, H0, I0, E0, K0, D0, J0, D3⟩
end Go.Proofs.YtohngnahcgbfmaaGreatDoor.Mt
namespace Go.Proofs.YtohngnahcgbfmaaGreatDoor.Mi
open Go Vc Co
theorem oD {x : List (BitVec 64)} {n1 n2 n3 : Nat} {s0 s1 : Sk} (hx : Dealt x n1 n2 n3 s0 s1) : (s0.t.l.length = n1 ∧ s0.b.l.length = n2 ∧ s0.o.l.length = n3) ∧ s1.t.l.length = n1 ∧ s1.b.l.length = n2 ∧ s1.o.l.length = n3 := by
 rw [hx.t1, hx.b1, hx.o1, hx.t2, hx.b2, hx.o2]; simp [lB]
theorem lN {x : BitVec 64} (h : ¬ x % 2#64 = 0#64) : x % 2#64 = 1#64 := by
 have h1 : (x % 2#64).toNat = x.toNat % 2 := by simp
 have h2 : (x % 2#64).toNat ≠ 0 := fun e => h (BitVec.eq_of_toNat_eq (by simpa using e))
 exact BitVec.eq_of_toNat_eq (by simp; omega)
theorem HR (x : BitVec 64) : ∃ p : Nat, p ≤ 1 ∧ (x % 2#64).toInt = (p : Nat) := by
 by_cases h : x % 2#64 = 0#64
 ·exact ⟨0, by omega, by rw [h]; rfl⟩
 ·exact ⟨1, by omega, by rw [lN h]; rfl⟩
end Go.Proofs.YtohngnahcgbfmaaGreatDoor.Mi
namespace Go.Proofs.YtohngnahcgbfmaaGreatDoor.Mu
open Go Vc Er Ek Circ Mi
open Co Cm
open Mt (zG)
theorem call7 : mA Tryz.prog 7 = true := by kernel_rfl
theorem wG (b : Bool) (ops : List Mo) (oa : Option Addr) (oc : Nat) (w : World) (hG : Gl w) (hO : Rd xE w oa ops) (hol : ops.length ≤ 140737488355328) (hb : (decide (((ops.length : Nat) : Int) ≤ (400 : Int)) && decide (((jA fG ops ops.length : Nat) : Int) ≤ (3 : Int))) = b) : Ca 7 [.slice oa ops.length oc] w fun v w' => v = .bool b ∧ Ext w w' := by
 subst hb; exact OP ops oa oc w hG hO hol
theorem yN (ops : List Mo) (oa : Option Addr) (oc : Nat) (in0 in1 t0 t1 dl : List (BitVec 64)) (ain0 ain1 at0 at1 adl : Option Addr) (cin0 cin1 ct0 ct1 cdl : Nat) (wh : Int) (w : World) (hG : Gl w) (hO : Rd xE w oa ops) (hol : ops.length ≤ 17592186044416) (hN0 : Rd E64 w ain0 in0) (hN1 : Rd E64 w ain1 in1) (hn0 : in0.length ≤ 17592186044416) (hn1 : in1.length ≤ 17592186044416) (hT0 : Rd E64 w at0 t0) (hlt0 : t0.length ≤ 17592186044416) (hT1 : Rd E64 w at1 t1) (hlt1 : t1.length ≤ 17592186044416) (hDL : Rd E64 w adl dl) (hldl : dl.length ≤ 17592186044416) (hgd : ¬ Mi.Good ops ((in0.length : Nat) : Int) ((in1.length : Nat) : Int)) : Ca 5 [.agg #[.slice oa ops.length oc, .slice ain0 in0.length cin0, .slice ain1 in1.length cin1, .slice at0 t0.length ct0, .slice at1 t1.length ct1, .slice adl dl.length cdl], i64 wh] w fun v w' => v = .bool true ∧ Ext w w' := by
 have H := Hp.start No w
 refine enter (n := 199) Tryz.func5 rfl rfl (dB rfl) ?_
 refine go 1 ?_
 intro b1 w2 w0 H3 x0
 refine go 1 ?_
 by_cases hl : ops.length ≤ 400 ∧ jA fG ops ops.length ≤ 3
 ·refine go 0 ?_
  refine cl (MD w2 uC) ?_
  rintro _ w5 ⟨rfl, b0⟩
  have H7 := H3.ext b0
  refine go 4 ?_
  refine eF (gA (d' := 23) (b := false) rfl rfl rfl) (cA (vs := [.slice oa ops.length oc]) vF rfl) (wG true ops oa oc w5 uC IC om (by simp only [Bool.and_eq_true, decide_eq_true_eq]; omega)) ?_
  rintro _ w8 ⟨rfl, c0⟩
  have d0 := H7.ext c0
  refine go 14 ?_
  refine iA (((2000 : Int) : Int) < ((in0.length : Nat) + (in1.length : Nat))) rfl (fun e0 => ?_) (fun e0 => ?_)
  ·refine go 0 ?_
   refine cl (MD w8 uC) ?_
   rintro _ y0 ⟨rfl, f0⟩
   have h0 := d0.ext f0
   refine go 1 ?_
   exact ⟨_, rfl, rfl, h0.chg⟩
  ·have hlen := hl.1
   refine go 10 ?_
   intro z0 A0 B0 C0 D0
   refine go 1 ?_
   intro i0 a0 E0
   refine go 3 ?_
   have := a0.lT 0
   have := a0.lT 1
   refine cl (AN ops oa oc (in0.length : Nat) (in1.length : Nat) ops.length (by rfl) i0 uC IC om hgd) ?_
   rintro v23 F0 ⟨j0, k0⟩
   have l0 := a0.ext k0
   obtain ⟨G0, H0, rfl⟩ := j0.iface
   refine go 2 ?_
   exact ⟨_, rfl, rfl, l0.chg⟩
 ·refine go 0 ?_
  refine cl (MD w2 uC) ?_
  rintro _ m0 ⟨rfl, n0⟩
  have o0 := H3.ext n0
  refine go 4 ?_
  refine eF (gA (d' := 23) (b := false) rfl rfl rfl) (cA (vs := [.slice oa ops.length oc]) vF rfl) (wG false ops oa oc m0 uC IC om (Bool.eq_false_iff.2 fun h => hl (by simp only [Bool.and_eq_true, decide_eq_true_eq] at h; omega))) ?_
  rintro _ p0 ⟨rfl, q0⟩
  have r0 := o0.ext q0
  refine go 4 ?_
  refine cl (MD p0 uC) ?_
  rintro _ I0 ⟨rfl, s0⟩
  have u0 := r0.ext s0
  refine go 1 ?_
  exact ⟨_, rfl, rfl, u0.chg⟩
end Go.Proofs.YtohngnahcgbfmaaGreatDoor.Mu
