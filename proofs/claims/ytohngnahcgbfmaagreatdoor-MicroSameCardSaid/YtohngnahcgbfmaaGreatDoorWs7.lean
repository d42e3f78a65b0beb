/- What the claim has need of: Ms8. -/
import Derived.Test.YtohngnahcgbfmaaGreatDoorWs6
set_option linter.unusedVariables false
set_option maxHeartbeats 16000000
set_option maxRecDepth 20000
namespace Go.Proofs.YtohngnahcgbfmaaGreatDoor.Ms
open Go Vc Er Ek Circ Mi
open Co Cm
open Go.Proofs.YtohngnahcgbfmaaGreatDoor (Gb.lhash)
open Gb (lb0 lx lw gS eS oL colS askS repS pickS)
theorem gty29 : Tryz.prog.eqGuardType Tryz.prog.depth 29 = false := by kernel_rfl
theorem call13 : callable Tryz.prog 13 = true := by kernel_rfl
theorem awake_ok (w : World) (hG : Gl w) : Calls Tryz.prog 6 [].toArray w (Ret fun v w' => v = .bool true ∧ Ext w w') := by
 have H := Hp.start No w
 refine enter (n := 87) Tryz.func6 rfl rfl (bLe rfl) ?_
 refine go 5 ?_
 refine bS (E := EMo) (l := ([⟨(1 : Int), (0 : Int), (0 : Int), (0 : Int), 0#64, (0 : Int)⟩, ⟨(1 : Int), (0 : Int), (0 : Int), (0 : Int), 0#64, (1 : Int)⟩, ⟨(6 : Int), (0 : Int), (1 : Int), (0 : Int), 0#64, (0 : Int)⟩, ⟨(18 : Int), (2 : Int), (0 : Int), (0 : Int), 0#64, (0 : Int)⟩] : List Mo)) fun b1 w3 V0 H4 W1 => ?_
 refine go 1 ?_
 have e6 : ([⟨(1 : Int), (0 : Int), (0 : Int), (0 : Int), 0#64, (0 : Int)⟩, ⟨(1 : Int), (0 : Int), (0 : Int), (0 : Int), 0#64, (1 : Int)⟩, ⟨(6 : Int), (0 : Int), (1 : Int), (0 : Int), 0#64, (0 : Int)⟩, ⟨(18 : Int), (2 : Int), (0 : Int), (0 : Int), 0#64, (0 : Int)⟩] : List Mo) = opsW := by rfl
 have K0 := V0
 have H8 := H4
 rw [e6] at K0 H8
 refine go 0 ?_
 refine bS (E := E64) (l := [1#64, 2#64, 3#64, 4#64, 5#64]) fun b9 W0 X0 L0 X1 => cl (load_ok ([1#64, 2#64, 3#64, 4#64, 5#64]) (by decide) (ownA (some b9)) 5 5 (by decide) W0 (L0.rd (k := 0) rfl X0)) ?_
 rintro _ Y0 ⟨⟨j0, Z0, d1, e1, rfl, g1, h1⟩, Y1⟩
 have i1 := (L0.join h1).a4 rfl
 have j1 := i1.b2 rfl
 refine cl (deal_ok j0 Z0 d1 e1 ([1#64, 2#64, 3#64, 4#64, 5#64]) g1 (by decide) 1 0 0 (by decide) (by decide) (by decide) (by decide) [((some b9), sob E64 34 ([1#64, 2#64, 3#64, 4#64, 5#64]) ([])), ((some b1), sob EMo 36 opsW ([]))] w Y0 j1) ?_
 rintro _ Z1 ⟨e0, f0, h0, i0, rfl, l1, m1, s0, n1⟩
 let x2 : Array Value := #[pT e0, pT f0]
 have c2 := n1.a12 rfl
 refine go 4 ?_
 intro b0 d2 f2 g2 h2
 refine go 1 ?_
 intro o1 p1 i2
 refine go 6 ?_
 refine caAny (wantedSome (d' := 20) (b := false) rfl rfl rfl) (Enters.callL (vs := [sO (some b1) 4 4, .agg (cel EI [(1 : Int), (1 : Int)]).toArray]) call8 rfl) (mcheck_yes opsW (ownA (some b1)) 4 (1 : Int) (1 : Int) 4 (by rfl) o1 vGl vRd (by decide) goodW) ?_
 rintro _ j2 ⟨rfl, q1⟩
 have r1 := p1.ext q1
 refine go 1 ?_
 refine sq ((r_pickF (v := .bool false) rfl rfl).as (v' := .bool false) (by rfl)) ?_
 refine go 0 ?_
 have HA := ((r1.pk 13 [0, 12, 1, 2, 3, 4, 5, 6, 7, 8])).as (L' := List.flatten [[], [], [], [], [], [], [], [(rC b0 x2 38), ((some b1), sob EMo 36 opsW ([]))], skR 66 121 114 e0 h0, skR 66 121 114 f0 i0]) rfl
 obtain ⟨X, hX⟩ : ∃ X, X = (simA opsW [3#64] [5#64] (dwS opsW ((0 : Nat) : Int) (fIn ((0 : Nat) : Int)) [10#64] 0) (dwS opsW ((1 : Nat) : Int) (fIn ((1 : Nat) : Int)) [20#64] 0) (dtS opsW h0.t.l h0.b.l) (dtS opsW i0.t.l i0.b.l) opsW.length) := ⟨_, rfl⟩
 let x1 : RW := ((some b1), sob EMo 36 opsW ([]))
 have hXv : X.1.getD 0 0#64 = 10#64 ∧ X.1.getD 3 0#64 = 15#64 := by rw [hX]; exact simW rfl rfl (by rw [dtS, if_pos (by decide), s0.t1]; rfl) (by rw [dtS, if_pos (by decide), s0.t2]; rfl)
 have hXl : X.1.length = 4 ∧ X.2.length = 4 := by rw [hX]; exact simA_len _ _ _ _ _ _ _ _
 have s1 : h0.t.l.length = 1 := by rw [s0.t1]; rfl
 have y1 : i0.t.l.length = 1 := by rw [s0.t2]; rfl
 refine drawE (m := 18) [0, 0, 0, 0, 12, 0, 32, 0, 224, 480, 0, 2047, 4095, 8191, 8191, 0, 49151, 131071] [2, 3, 5, 6, 7, 8, 11, 15, 16] (fun bs vs w' => match bs, vs with | [b2, b3, b5, b6, b7, b8, l0, p0, j0], [v2, v3, v5, v6, v7, v8, v11, v15, _] => (l0 = false ∧ j0 = false ∧ ∃ P2 P3 P5 P6 P7 P8 P15 : List RW, Opt b2 (fun P => ∃ p : Nat, v2 = sO (some p) 1 1 ∧ Sl E64 (some p) [3#64] 1 [] ∧ P = [(some p, sob E64 34 [3#64] [])]) P2 ∧ Opt b3 (fun P => ∃ p : Nat, v3 = sO (some p) 1 1 ∧ Sl E64 (some p) [5#64] 1 [] ∧ P = [(some p, sob E64 34 [5#64] [])]) P3 ∧ Opt b5 (fun P => ∃ p : Nat, v5 = sO (some p) 1 1 ∧ Sl E64 (some p) [10#64] 1 [] ∧ P = [(some p, sob E64 34 [10#64] [])]) P5 ∧ Opt b6 (fun P => ∃ (b : Nat) (key : Option Nat) (c : Nat) (sp : LV), v6 = pT b ∧ Sl E64 key [10#64] c sp ∧ P = [(rC b #[sO key ([10#64].length) c, .pointer none, iN ([10#64].length), iN 0] 96), (key, sob E64 34 [10#64] sp)]) P6 ∧ Opt b7 (fun P => ∃ p : Nat, v7 = sO (some p) 1 1 ∧ Sl E64 (some p) [20#64] 1 [] ∧ P = [(some p, sob E64 34 [20#64] [])]) P7 ∧ Opt b8 (fun P => ∃ (b : Nat) (key : Option Nat) (c : Nat) (sp : LV), v8 = pT b ∧ Sl E64 key [20#64] c sp ∧ P = [(rC b #[sO key ([20#64].length) c, .pointer none, iN ([20#64].length), iN 0] 96), (key, sob E64 34 [20#64] sp)]) P8 ∧ Opt p0 (fun P => ∃ b : Nat, v15 = pT b ∧ P = [(rC b #[sN0, sN0] 24)]) P15 ∧ Hp No w w' (List.flatten [P2, P3, P5, P6, P7, P8, P15, [(rC b0 x2 38), x1], skR 66 121 114 e0 h0, skR 66 121 114 f0 i0])) ∨ (l0 = true ∧ ∃ (k0 : Option Nat) (c0 : Nat) (z0 : LV) (k1 : Option Nat) (c1 : Nat) (z1 : LV), v11 = .tuple #[.agg #[sO k0 opsW.length c0, sO k1 opsW.length c1], .nilIface] ∧ Sl E64 k0 X.1 c0 z0 ∧ Sl E64 k1 X.2 c1 z1 ∧ ((j0 = false ∧ ∃ P15, Opt p0 (fun P => ∃ b : Nat, v15 = pT b ∧ P = [(rC b #[sN0, sN0] 24)]) P15 ∧ Hp No w w' (List.flatten [[(k0, sob E64 34 X.1 z0), (k1, sob E64 34 X.2 z1)], P15, [(rC b0 x2 38), x1]])) ∨ (j0 = true ∧ ∃ b : Nat, v15 = pT b ∧ Hp No w w' (List.flatten [[(k0, sob E64 34 X.1 z0), (k1, sob E64 34 X.2 z1)], [(rC b #[sO k0 opsW.length c0, sO k1 opsW.length c1] 24)], [(rC b0 x2 38), x1]])))) | _, _ => False) mixed (by kernel_rfl) (by kernel_rfl) (by exact Or.inl ⟨rfl, rfl, [], [], [], [], [], [], [], rfl, rfl, rfl, rfl, rfl, rfl, rfl, HA.drew⟩) (WalkE.look rfl (fun _ => sO (some b1) 4 4) (fun _ _ _ => rfl) (fun L r w0 uw _ _ _ _ => Gives.run rfl (r_move (v := sO (some b1) 4 4) rfl) ⟨rfl, rfl⟩) (WalkE.look rfl (fun _ => .agg (cel EI [(1 : Int), (1 : Int)]).toArray) (fun _ _ _ => rfl) (fun L r w0 uw _ _ _ _ => Gives.run rfl (r_buildA (cs' := (cel EI [(1 : Int), (1 : Int)]).toArray) (ps := [(0, i64 1), (1, i64 1)]) zer29 arr29 rfl (by rfl)) ⟨rfl, rfl⟩) (WalkE.eff 0 rfl (fun L r w0 uw hLn hAn hDn hF m0 => ?_) ?_)))
 ·have l0 := hDn 11 (by decide) rfl
  have j0 := hDn 16 (by decide) rfl
  have b2 : L 2 = false := hLn
  have hb : List.map L [2, 3, 5, 6, 7, 8, 11, 15, 16] = [false, L 3, L 5, L 6, L 7, L 8, false, L 15, false] := by simp only [List.map_cons, List.map_nil, b2, l0, j0]
  rw [hb] at hF ⊢
  obtain ⟨a0, d0, P2, P3, P5, P6, P7, P8, P15, o2, o3, o5, o6, o7, o8, o15, HH⟩ | ⟨a0, k0, c0, z0, k1, c1, z1, n0, hz0, hz1, ⟨d0, P15, o15, HH⟩ | ⟨d0, b, o0, HH⟩⟩ := hF
  ·replace HH := HH.ext m0
   obtain rfl := (show P2 = [] from o2)
   have H1 := Hp.segsD (S := [[], P3, P5, P6, P7, P8, P15, [(rC b0 x2 38), x1], skR 66 121 114 e0 h0, skR 66 121 114 f0 i0]) HH 10 rfl [1, 2, 3, 4, 5, 6, 7, 8, 9] [0] (by decide)
   have H2 := H1.as (L' := ((List.flatten [P3, P5, P6, P7, P8, P15, [(rC b0 x2 38), x1], skR 66 121 114 e0 h0, skR 66 121 114 f0 i0]))) rfl
   dsimp only
   refine gW fun Q' hK => (bS (E := E64) (l := [3#64]) fun M0 k2 A1 B1 l2 => ?_)
   let x9 : RW := ((some M0), sob E64 34 ([3#64]) ([]))
   have H8 := B1.as (L' := List.flatten [[x9], P3, P5, P6, P7, P8, P15, [(rC b0 x2 38), x1], skR 66 121 114 e0 h0, skR 66 121 114 f0 i0]) rfl
   have H9 := Hp.segsD (S := [[x9], P3, P5, P6, P7, P8, P15, [(rC b0 x2 38), x1], skR 66 121 114 e0 h0, skR 66 121 114 f0 i0]) H8 10 rfl [0, 1, 2, 3, 4, 5, 6, 7, 8, 9] [] (by decide)
   exact hK _ _ (Or.inl ⟨a0, d0, [x9], P3, P5, P6, P7, P8, P15, ⟨M0, rfl, A1, rfl⟩, o3, o5, o6, o7, o8, o15, H9⟩)
  ·cases a0
  ·cases a0
 refine WalkE.eff 1 rfl (fun L r w0 uw hLn hAn hDn hF m0 => ?_) ?_
 ·have l0 := hDn 11 (by decide) rfl
  have j0 := hDn 16 (by decide) rfl
  have b3 : L 3 = false := hLn
  have hb : List.map L [2, 3, 5, 6, 7, 8, 11, 15, 16] = [L 2, false, L 5, L 6, L 7, L 8, false, L 15, false] := by simp only [List.map_cons, List.map_nil, b3, l0, j0]
  rw [hb] at hF ⊢
  obtain ⟨a0, d0, P2, P3, P5, P6, P7, P8, P15, o2, o3, o5, o6, o7, o8, o15, HH⟩ | ⟨a0, k0, c0, z0, k1, c1, z1, n0, hz0, hz1, ⟨d0, P15, o15, HH⟩ | ⟨d0, b, o0, HH⟩⟩ := hF
  ·replace HH := HH.ext m0
   obtain rfl := (show P3 = [] from o3)
   have H1 := Hp.segsD (S := [P2, [], P5, P6, P7, P8, P15, [(rC b0 x2 38), x1], skR 66 121 114 e0 h0, skR 66 121 114 f0 i0]) HH 10 rfl [0, 2, 3, 4, 5, 6, 7, 8, 9] [1] (by decide)
   have H2 := H1.as (L' := ((List.flatten [P2, P5, P6, P7, P8, P15, [(rC b0 x2 38), x1], skR 66 121 114 e0 h0, skR 66 121 114 f0 i0]))) rfl
   dsimp only
   refine gW fun Q' hK => (bS (E := E64) (l := [5#64]) fun N0 m2 C1 D1 n2 => ?_)
   let F0 : RW := ((some N0), sob E64 34 ([5#64]) ([]))
   have H8 := D1.as (L' := List.flatten [[F0], P2, P5, P6, P7, P8, P15, [(rC b0 x2 38), x1], skR 66 121 114 e0 h0, skR 66 121 114 f0 i0]) rfl
   have H9 := Hp.segsD (S := [[F0], P2, P5, P6, P7, P8, P15, [(rC b0 x2 38), x1], skR 66 121 114 e0 h0, skR 66 121 114 f0 i0]) H8 10 rfl [1, 0, 2, 3, 4, 5, 6, 7, 8, 9] [] (by decide)
   exact hK _ _ (Or.inl ⟨a0, d0, P2, [F0], P5, P6, P7, P8, P15, o2, ⟨N0, rfl, C1, rfl⟩, o5, o6, o7, o8, o15, H9⟩)
  ·cases a0
  ·cases a0
 refine WalkE.look rfl (fun r => bld (r 2) (r 3)) (fun r r' h => by rw [h 2 (by decide) rfl, h 3 (by decide) rfl]) (fun L r w0 uw hAn hDn hF m0 => ?_) ?_
 ·have b2 := hAn 2 (by decide) rfl
  have b3 := hAn 3 (by decide) rfl
  have l0 := hDn 11 (by decide) rfl
  have j0 := hDn 16 (by decide) rfl
  have hb : List.map L [2, 3, 5, 6, 7, 8, 11, 15, 16] = [true, true, L 5, L 6, L 7, L 8, false, L 15, false] := by simp only [List.map_cons, List.map_nil, b2, b3, l0, j0]
  rw [hb] at hF
  obtain ⟨a0, d0, P2, P3, P5, P6, P7, P8, P15, o2, o3, o5, o6, o7, o8, o15, HH⟩ | ⟨a0, _⟩ := hF
  ·obtain ⟨p2, e2, _⟩ := o2
   obtain ⟨p3, e3, _⟩ := o3
   dsimp only
   rw [e2, e3]
   exact vGr
  ·cases a0
 refine WalkE.eff 2 rfl (fun L r w0 uw hLn hAn hDn hF m0 => ?_) ?_
 ·have b6 := hDn 6 (by decide) rfl
  have b8 := hDn 8 (by decide) rfl
  have l0 := hDn 11 (by decide) rfl
  have j0 := hDn 16 (by decide) rfl
  have b5 : L 5 = false := hLn
  have hb : List.map L [2, 3, 5, 6, 7, 8, 11, 15, 16] = [L 2, L 3, false, false, L 7, false, false, L 15, false] := by simp only [List.map_cons, List.map_nil, b5, b6, b8, l0, j0]
  rw [hb] at hF ⊢
  obtain ⟨a0, d0, P2, P3, P5, P6, P7, P8, P15, o2, o3, o5, o6, o7, o8, o15, HH⟩ | ⟨a0, k0, c0, z0, k1, c1, z1, n0, hz0, hz1, ⟨d0, P15, o15, HH⟩ | ⟨d0, b, o0, HH⟩⟩ := hF
  ·replace HH := HH.ext m0
   obtain rfl := (show P5 = [] from o5)
   have H1 := Hp.segsD (S := [P2, P3, [], P6, P7, P8, P15, [(rC b0 x2 38), x1], skR 66 121 114 e0 h0, skR 66 121 114 f0 i0]) HH 10 rfl [0, 1, 3, 4, 5, 6, 7, 8, 9] [2] (by decide)
   have H2 := H1.as (L' := ((List.flatten [P2, P3, P6, P7, P8, P15, [(rC b0 x2 38), x1], skR 66 121 114 e0 h0, skR 66 121 114 f0 i0]))) rfl
   dsimp only
   refine gW fun Q' hK => (bS (E := E64) (l := [10#64]) fun O0 q2 E1 F1 r2 => ?_)
   let x7 : RW := ((some O0), sob E64 34 ([10#64]) ([]))
   have H8 := F1.as (L' := List.flatten [[x7], P2, P3, P6, P7, P8, P15, [(rC b0 x2 38), x1], skR 66 121 114 e0 h0, skR 66 121 114 f0 i0]) rfl
   have H9 := Hp.segsD (S := [[x7], P2, P3, P6, P7, P8, P15, [(rC b0 x2 38), x1], skR 66 121 114 e0 h0, skR 66 121 114 f0 i0]) H8 10 rfl [1, 2, 0, 3, 4, 5, 6, 7, 8, 9] [] (by decide)
   exact hK _ _ (Or.inl ⟨a0, d0, P2, P3, [x7], P6, P7, P8, P15, o2, o3, ⟨O0, rfl, E1, rfl⟩, o6, o7, o8, o15, H9⟩)
  ·cases a0
  ·cases a0
 refine WalkE.eff 3 rfl (fun L r w0 uw hLn hAn hDn hF m0 => ?_) ?_
 ·have b5 := hAn 5 (by decide) rfl
  have b8 := hDn 8 (by decide) rfl
  have l0 := hDn 11 (by decide) rfl
  have j0 := hDn 16 (by decide) rfl
  have b6 : L 6 = false := hLn
  have hb : List.map L [2, 3, 5, 6, 7, 8, 11, 15, 16] = [L 2, L 3, true, false, L 7, false, false, L 15, false] := by simp only [List.map_cons, List.map_nil, b5, b6, b8, l0, j0]
  rw [hb] at hF ⊢
  obtain ⟨a0, d0, P2, P3, P5, P6, P7, P8, P15, o2, o3, o5, o6, o7, o8, o15, HH⟩ | ⟨a0, k0, c0, z0, k1, c1, z1, n0, hz0, hz1, ⟨d0, P15, o15, HH⟩ | ⟨d0, b, o0, HH⟩⟩ := hF
  ·replace HH := HH.ext m0
   obtain rfl := (show P6 = [] from o6)
   obtain ⟨p5, e5, hq5, rfl⟩ := o5
   have H1 := Hp.segsD (S := [P2, P3, [(some p5, sob E64 34 [10#64] [])], [], P7, P8, P15, [(rC b0 x2 38), x1], skR 66 121 114 e0 h0, skR 66 121 114 f0 i0]) HH 10 rfl [2, 0, 1, 4, 5, 6, 7, 8, 9] [3] (by decide)
   have H2 := H1.b1 rfl
   rw [e5]
   dsimp only
   refine gW fun Q' hK => (cl (load_ok ([10#64]) (by decide) (ownA (some p5)) 1 1 (by decide) uw (H2.rd (k := 0) rfl hq5)) ?_)
   rintro _ s2 ⟨⟨x0, q0, y0, P0, rfl, G1, I1⟩, u2⟩
   let G0 : RW := (q0, sob E64 34 ([10#64]) P0)
   have J1 := (H2.join I1).b3 rfl
   have H8 := J1.as (L' := List.flatten [[(rC x0 #[sO q0 (([10#64]).length) y0, .pointer none, iN (([10#64]).length), iN 0] 96), G0], [(some p5, sob E64 34 [10#64] [])], P2, P3, P7, P8, P15, [(rC b0 x2 38), x1], skR 66 121 114 e0 h0, skR 66 121 114 f0 i0]) rfl
   have H9 := Hp.segsD (S := [[(rC x0 #[sO q0 (([10#64]).length) y0, .pointer none, iN (([10#64]).length), iN 0] 96), G0], [(some p5, sob E64 34 [10#64] [])], P2, P3, P7, P8, P15, [(rC b0 x2 38), x1], skR 66 121 114 e0 h0, skR 66 121 114 f0 i0]) H8 10 rfl [2, 3, 1, 0, 4, 5, 6, 7, 8, 9] [] (by decide)
   exact hK _ _ (Or.inl ⟨a0, d0, P2, P3, _, [(rC x0 #[sO q0 (([10#64]).length) y0, .pointer none, iN (([10#64]).length), iN 0] 96), G0], P7, P8, P15, o2, o3, ⟨p5, e5, hq5, rfl⟩, ⟨x0, q0, y0, P0, rfl, G1, rfl⟩, o7, o8, o15, H9⟩)
  ·cases a0
  ·cases a0
 refine WalkE.eff 4 rfl (fun L r w0 uw hLn hAn hDn hF m0 => ?_) ?_
 ·have b8 := hDn 8 (by decide) rfl
  have l0 := hDn 11 (by decide) rfl
  have j0 := hDn 16 (by decide) rfl
  have b7 : L 7 = false := hLn
  have hb : List.map L [2, 3, 5, 6, 7, 8, 11, 15, 16] = [L 2, L 3, L 5, L 6, false, false, false, L 15, false] := by simp only [List.map_cons, List.map_nil, b7, b8, l0, j0]
  rw [hb] at hF ⊢
  obtain ⟨a0, d0, P2, P3, P5, P6, P7, P8, P15, o2, o3, o5, o6, o7, o8, o15, HH⟩ | ⟨a0, k0, c0, z0, k1, c1, z1, n0, hz0, hz1, ⟨d0, P15, o15, HH⟩ | ⟨d0, b, o0, HH⟩⟩ := hF
  ·replace HH := HH.ext m0
   obtain rfl := (show P7 = [] from o7)
   have H1 := Hp.segsD (S := [P2, P3, P5, P6, [], P8, P15, [(rC b0 x2 38), x1], skR 66 121 114 e0 h0, skR 66 121 114 f0 i0]) HH 10 rfl [0, 1, 2, 3, 5, 6, 7, 8, 9] [4] (by decide)
   have H2 := H1.as (L' := ((List.flatten [P2, P3, P5, P6, P8, P15, [(rC b0 x2 38), x1], skR 66 121 114 e0 h0, skR 66 121 114 f0 i0]))) rfl
   dsimp only
   refine gW fun Q' hK => (bS (E := E64) (l := [20#64]) fun Q0 y2 K1 L1 z2 => ?_)
   let x8 : RW := ((some Q0), sob E64 34 ([20#64]) ([]))
   have H8 := L1.as (L' := List.flatten [[x8], P2, P3, P5, P6, P8, P15, [(rC b0 x2 38), x1], skR 66 121 114 e0 h0, skR 66 121 114 f0 i0]) rfl
   have H9 := Hp.segsD (S := [[x8], P2, P3, P5, P6, P8, P15, [(rC b0 x2 38), x1], skR 66 121 114 e0 h0, skR 66 121 114 f0 i0]) H8 10 rfl [1, 2, 3, 4, 0, 5, 6, 7, 8, 9] [] (by decide)
   exact hK _ _ (Or.inl ⟨a0, d0, P2, P3, P5, P6, [x8], P8, P15, o2, o3, o5, o6, ⟨Q0, rfl, K1, rfl⟩, o8, o15, H9⟩)
  ·cases a0
  ·cases a0
 refine WalkE.eff 5 rfl (fun L r w0 uw hLn hAn hDn hF m0 => ?_) ?_
 ·have b5 := hAn 5 (by decide) rfl
  have b6 := hAn 6 (by decide) rfl
  have b7 := hAn 7 (by decide) rfl
  have l0 := hDn 11 (by decide) rfl
  have j0 := hDn 16 (by decide) rfl
  have b8 : L 8 = false := hLn
  have hb : List.map L [2, 3, 5, 6, 7, 8, 11, 15, 16] = [L 2, L 3, true, true, true, false, false, L 15, false] := by simp only [List.map_cons, List.map_nil, b5, b6, b7, b8, l0, j0]
  rw [hb] at hF ⊢
  obtain ⟨a0, d0, P2, P3, P5, P6, P7, P8, P15, o2, o3, o5, o6, o7, o8, o15, HH⟩ | ⟨a0, k0, c0, z0, k1, c1, z1, n0, hz0, hz1, ⟨d0, P15, o15, HH⟩ | ⟨d0, b, o0, HH⟩⟩ := hF
  ·replace HH := HH.ext m0
   obtain rfl := (show P8 = [] from o8)
   obtain ⟨p7, e7, hq7, rfl⟩ := o7
   have H1 := Hp.segsD (S := [P2, P3, P5, P6, [(some p7, sob E64 34 [20#64] [])], [], P15, [(rC b0 x2 38), x1], skR 66 121 114 e0 h0, skR 66 121 114 f0 i0]) HH 10 rfl [4, 0, 1, 2, 3, 6, 7, 8, 9] [5] (by decide)
   have H2 := H1.b1 rfl
   rw [e7]
   dsimp only
   refine gW fun Q' hK => (cl (load_ok ([20#64]) (by decide) (ownA (some p7)) 1 1 (by decide) uw (H2.rd (k := 0) rfl hq7)) ?_)
   rintro _ A2 ⟨⟨A0, r0, B0, R0, rfl, M1, N1⟩, B2⟩
   let H0 : RW := (r0, sob E64 34 ([20#64]) R0)
   have O1 := (H2.join N1).b3 rfl
   have H8 := O1.as (L' := List.flatten [[(rC A0 #[sO r0 (([20#64]).length) B0, .pointer none, iN (([20#64]).length), iN 0] 96), H0], [(some p7, sob E64 34 [20#64] [])], P2, P3, P5, P6, P15, [(rC b0 x2 38), x1], skR 66 121 114 e0 h0, skR 66 121 114 f0 i0]) rfl
   have H9 := Hp.segsD (S := [[(rC A0 #[sO r0 (([20#64]).length) B0, .pointer none, iN (([20#64]).length), iN 0] 96), H0], [(some p7, sob E64 34 [20#64] [])], P2, P3, P5, P6, P15, [(rC b0 x2 38), x1], skR 66 121 114 e0 h0, skR 66 121 114 f0 i0]) H8 10 rfl [2, 3, 4, 5, 1, 0, 6, 7, 8, 9] [] (by decide)
   exact hK _ _ (Or.inl ⟨a0, d0, P2, P3, P5, P6, _, [(rC A0 #[sO r0 (([20#64]).length) B0, .pointer none, iN (([20#64]).length), iN 0] 96), H0], P15, o2, o3, o5, o6, ⟨p7, e7, hq7, rfl⟩, ⟨A0, r0, B0, R0, rfl, M1, rfl⟩, o15, H9⟩)
  ·cases a0
  ·cases a0
 refine WalkE.look rfl (fun r => bld (r 6) (r 8)) (fun r r' h => by rw [h 6 (by decide) rfl, h 8 (by decide) rfl]) (fun L r w0 uw hAn hDn hF m0 => ?_) ?_
 ·have b5 := hAn 5 (by decide) rfl
  have b6 := hAn 6 (by decide) rfl
  have b7 := hAn 7 (by decide) rfl
  have b8 := hAn 8 (by decide) rfl
  have l0 := hDn 11 (by decide) rfl
  have j0 := hDn 16 (by decide) rfl
  have hb : List.map L [2, 3, 5, 6, 7, 8, 11, 15, 16] = [L 2, L 3, true, true, true, true, false, L 15, false] := by simp only [List.map_cons, List.map_nil, b5, b6, b7, b8, l0, j0]
  rw [hb] at hF
  obtain ⟨a0, d0, P2, P3, P5, P6, P7, P8, P15, o2, o3, o5, o6, o7, o8, o15, HH⟩ | ⟨a0, _⟩ := hF
  ·obtain ⟨p6, _, _, _, e6, _⟩ := o6
   obtain ⟨p8, _, _, _, e8, _⟩ := o8
   dsimp only
   rw [e6, e8]
   exact vGr
  ·cases a0
 refine WalkE.look rfl (fun _ => .agg x2) (fun _ _ _ => rfl) (fun L r w0 uw hAn hDn hF m0 => ?_) ?_
 ·have l0 := hDn 11 (by decide) rfl
  have j0 := hDn 16 (by decide) rfl
  have hb : List.map L [2, 3, 5, 6, 7, 8, 11, 15, 16] = [L 2, L 3, L 5, L 6, L 7, L 8, false, L 15, false] := by simp only [List.map_cons, List.map_nil, l0, j0]
  rw [hb] at hF
  obtain ⟨a0, d0, P2, P3, P5, P6, P7, P8, P15, o2, o3, o5, o6, o7, o8, o15, HH⟩ | ⟨a0, _⟩ := hF
  ·replace HH := HH.ext m0
   have H1 := Hp.segsD (S := [P2, P3, P5, P6, P7, P8, P15, [(rC b0 x2 38), x1], skR 66 121 114 e0 h0, skR 66 121 114 f0 i0]) HH 10 rfl [7, 0, 1, 2, 3, 4, 5, 6, 8, 9] [] (by decide)
   have H2 := H1.b2 rfl
   exact vGr
  ·cases a0
 refine WalkE.eff 6 rfl (fun L r w0 uw hLn hAn hDn hF m0 => ?_) ?_
 ·have b2 := hAn 2 (by decide) rfl
  have b3 := hAn 3 (by decide) rfl
  have b5 := hAn 5 (by decide) rfl
  have b6 := hAn 6 (by decide) rfl
  have b7 := hAn 7 (by decide) rfl
  have b8 := hAn 8 (by decide) rfl
  have j0 := hDn 16 (by decide) rfl
  have l0 : L 11 = false := hLn
  have hb : List.map L [2, 3, 5, 6, 7, 8, 11, 15, 16] = [true, true, true, true, true, true, false, L 15, false] := by simp only [List.map_cons, List.map_nil, b2, b3, b5, b6, b7, b8, l0, j0]
  rw [hb] at hF ⊢
  obtain ⟨a0, d0, P2, P3, P5, P6, P7, P8, P15, o2, o3, o5, o6, o7, o8, o15, HH⟩ | ⟨a0, _⟩ := hF
  ·replace HH := HH.ext m0
   obtain ⟨p2, e2, hq2, rfl⟩ := o2
   let x5 : List RW := [(some p2, sob E64 34 [3#64] [])]
   obtain ⟨p3, e3, hq3, rfl⟩ := o3
   let x6 : List RW := [(some p3, sob E64 34 [5#64] [])]
   obtain ⟨p5, e5, hq5, rfl⟩ := o5
   let x3 : List RW := [(some p5, sob E64 34 [10#64] [])]
   obtain ⟨p7, e7, hq7, rfl⟩ := o7
   let x4 : List RW := [(some p7, sob E64 34 [20#64] [])]
   obtain ⟨b6x, I0, c6, S0, e6, hq6, rfl⟩ := o6
   obtain ⟨b8x, J0, c8, T0, e8, hq8, rfl⟩ := o8
   have H1 := Hp.segsD (S := [x5, x6, x3, [(rC b6x #[sO I0 ([10#64].length) c6, .pointer none, iN ([10#64].length), iN 0] 96), (I0, sob E64 34 [10#64] S0)], x4, [(rC b8x #[sO J0 ([20#64].length) c8, .pointer none, iN ([20#64].length), iN 0] 96), (J0, sob E64 34 [20#64] T0)], P15, [(rC b0 x2 38), x1], skR 66 121 114 e0 h0, skR 66 121 114 f0 i0]) HH 10 rfl [3, 5, 8, 9, 0, 1, 7, 2, 4, 6] [] (by decide)
   have H2 := H1.as (L' := (_ :: _ :: _ :: _ :: (skR 66 121 114 e0 h0 ++ (skR 66 121 114 f0 i0 ++ List.flatten [x5, x6, [(rC b0 x2 38), x1], x3, x4, P15])))) rfl
   rw [e2, e3, e6, e8]
   dsimp only
   refine gW fun Q' hK => (cl (sima_ok opsW (ownA (some b1)) 4 [3#64] [5#64] (ownA (some p2)) (ownA (some p3)) 1 1 b6x I0 c6 S0 [10#64] hq6 (by decide) b8x J0 c8 T0 [20#64] hq8 (by decide) e0 f0 h0 i0 l1 m1 (List.flatten [x5, x6, [(rC b0 x2 38), x1], x3, x4, P15]) w uw hG goodW kdaW (by decide) (by rw [s1]; decide) (by rw [show cntS fB opsW opsW.length = 0 from by decide]; exact Nat.zero_le _) (by decide) (by rw [y1]; decide) (by rw [show cntS fB opsW opsW.length = 0 from by decide]; exact Nat.zero_le _) (fun w1 _ hp => Rd.mine K0 fun g hg => hp _ (List.Mem.tail _ (List.Mem.tail _ (List.Mem.tail _ (List.Mem.head _)))) g hg) (fun w1 _ hp => Rd.mine hq2 fun g hg => hp _ (List.Mem.head _) g hg) (fun w1 _ hp => Rd.mine hq3 fun g hg => hp _ (List.Mem.tail _ (List.Mem.head _)) g hg) H2) ?_)
   rintro _ w2 ⟨k0, c0, z0, k1, c1, z1, u0, u1, rfl, hz0, hz1, H3⟩
   rw [← hX] at hz0 hz1 H3
   have H8 := H3.as (L' := List.flatten [[(k0, sob E64 34 X.1 z0), (k1, sob E64 34 X.2 z1)], skR 66 121 114 e0 u0, skR 66 121 114 f0 u1, x5, x6, [(rC b0 x2 38), x1], x3, x4, P15]) rfl
   have H9 := Hp.segsD (S := [[(k0, sob E64 34 X.1 z0), (k1, sob E64 34 X.2 z1)], skR 66 121 114 e0 u0, skR 66 121 114 f0 u1, x5, x6, [(rC b0 x2 38), x1], x3, x4, P15]) H8 9 rfl [0, 8, 5] [1, 2, 3, 4, 6, 7] (by decide)
   exact hK _ _ (Or.inr ⟨rfl, k0, c0, z0, k1, c1, z1, rfl, hz0, hz1, Or.inl ⟨rfl, P15, o15, H9⟩⟩)
  ·cases a0
 refine WalkE.look rfl (fun r => r 11) (fun r r' h => h 11 (by decide) rfl) (fun L r w0 uw _ _ _ _ => Gives.run rfl (r_move rfl) ⟨rfl, rfl⟩) (WalkE.look rfl (fun r => proj (r 11) 0) (fun r r' h => by rw [h 11 (by decide) rfl]) (fun L r w0 uw hAn hDn hF m0 => ?_) ?_)
 ·have b2 := hAn 2 (by decide) rfl
  have b3 := hAn 3 (by decide) rfl
  have b5 := hAn 5 (by decide) rfl
  have b6 := hAn 6 (by decide) rfl
  have b7 := hAn 7 (by decide) rfl
  have b8 := hAn 8 (by decide) rfl
  have l0 := hAn 11 (by decide) rfl
  have j0 := hDn 16 (by decide) rfl
  have hb : List.map L [2, 3, 5, 6, 7, 8, 11, 15, 16] = [true, true, true, true, true, true, true, L 15, false] := by simp only [List.map_cons, List.map_nil, b2, b3, b5, b6, b7, b8, l0, j0]
  rw [hb] at hF
  obtain ⟨a0, _⟩ | ⟨a0, k0, c0, z0, k1, c1, z1, n0, _⟩ := hF
  ·cases a0
  ·dsimp only
   rw [n0]
   exact vGr
 refine WalkE.look rfl (fun r => proj (r 11) 1) (fun r r' h => by rw [h 11 (by decide) rfl]) (fun L r w0 uw hAn hDn hF m0 => ?_) ?_
 ·have b2 := hAn 2 (by decide) rfl
  have b3 := hAn 3 (by decide) rfl
  have b5 := hAn 5 (by decide) rfl
  have b6 := hAn 6 (by decide) rfl
  have b7 := hAn 7 (by decide) rfl
  have b8 := hAn 8 (by decide) rfl
  have l0 := hAn 11 (by decide) rfl
  have hb : List.map L [2, 3, 5, 6, 7, 8, 11, 15, 16] = [true, true, true, true, true, true, true, L 15, L 16] := by simp only [List.map_cons, List.map_nil, b2, b3, b5, b6, b7, b8, l0]
  rw [hb] at hF
  obtain ⟨a0, _⟩ | ⟨a0, k0, c0, z0, k1, c1, z1, n0, _⟩ := hF
  ·cases a0
  ·dsimp only
   rw [n0]
   exact vGr
 refine WalkE.eff 7 rfl (fun L r w0 uw hLn hAn hDn hF m0 => ?_) ?_
 ·have j0 := hDn 16 (by decide) rfl
  have p0 : L 15 = false := hLn
  have hb : List.map L [2, 3, 5, 6, 7, 8, 11, 15, 16] = [L 2, L 3, L 5, L 6, L 7, L 8, L 11, false, false] := by simp only [List.map_cons, List.map_nil, p0, j0]
  rw [hb] at hF ⊢
  obtain ⟨a0, d0, P2, P3, P5, P6, P7, P8, P15, o2, o3, o5, o6, o7, o8, o15, HH⟩ | ⟨a0, k0, c0, z0, k1, c1, z1, n0, hz0, hz1, ⟨d0, P15, o15, HH⟩ | ⟨d0, b, o0, HH⟩⟩ := hF
  ·replace HH := HH.ext m0
   obtain rfl := (show P15 = [] from o15)
   have H1 := Hp.segsD (S := [P2, P3, P5, P6, P7, P8, [], [(rC b0 x2 38), x1], skR 66 121 114 e0 h0, skR 66 121 114 f0 i0]) HH 10 rfl [0, 1, 2, 3, 4, 5, 7, 8, 9] [6] (by decide)
   have H2 := H1.as (L' := ((List.flatten [P2, P3, P5, P6, P7, P8, [(rC b0 x2 38), x1], skR 66 121 114 e0 h0, skR 66 121 114 f0 i0]))) rfl
   dsimp only
   refine gW fun Q' hK => ?_
   refine go 1 ?_
   intro C0 C2 D2 P1 E2
   have H8 := P1.as (L' := List.flatten [[(rC C0 #[sN0, sN0] 24)], P2, P3, P5, P6, P7, P8, [(rC b0 x2 38), x1], skR 66 121 114 e0 h0, skR 66 121 114 f0 i0]) rfl
   have H9 := Hp.segsD (S := [[(rC C0 #[sN0, sN0] 24)], P2, P3, P5, P6, P7, P8, [(rC b0 x2 38), x1], skR 66 121 114 e0 h0, skR 66 121 114 f0 i0]) H8 10 rfl [1, 2, 3, 4, 5, 6, 0, 7, 8, 9] [] (by decide)
   exact hK _ _ (Or.inl ⟨a0, d0, P2, P3, P5, P6, P7, P8, [(rC C0 #[sN0, sN0] 24)], o2, o3, o5, o6, o7, o8, ⟨C0, rfl, rfl⟩, H9⟩)
  ·replace HH := HH.ext m0
   obtain rfl := (show P15 = [] from o15)
   have H1 := Hp.segsD (S := [[(k0, sob E64 34 X.1 z0), (k1, sob E64 34 X.2 z1)], [], [(rC b0 x2 38), x1]]) HH 3 rfl [0, 2] [1] (by decide)
   have H2 := H1.as (L' := ((List.flatten [[(k0, sob E64 34 X.1 z0), (k1, sob E64 34 X.2 z1)], [(rC b0 x2 38), x1]]))) rfl
   dsimp only
   refine gW fun Q' hK => ?_
   refine go 1 ?_
   intro D0 F2 G2 Q1 I2
   have H8 := Q1.as (L' := List.flatten [[(rC D0 #[sN0, sN0] 24)], [(k0, sob E64 34 X.1 z0), (k1, sob E64 34 X.2 z1)], [(rC b0 x2 38), x1]]) rfl
   have H9 := Hp.segsD (S := [[(rC D0 #[sN0, sN0] 24)], [(k0, sob E64 34 X.1 z0), (k1, sob E64 34 X.2 z1)], [(rC b0 x2 38), x1]]) H8 3 rfl [1, 0, 2] [] (by decide)
   exact hK _ _ (Or.inr ⟨a0, k0, c0, z0, k1, c1, z1, n0, hz0, hz1, Or.inl ⟨d0, [(rC D0 #[sN0, sN0] 24)], ⟨D0, rfl, rfl⟩, H9⟩⟩)
  ·cases d0
 refine WalkE.eff 8 rfl (fun L r w0 uw hLn hAn hDn hF m0 => ?_) ?_
 ·have b2 := hAn 2 (by decide) rfl
  have b3 := hAn 3 (by decide) rfl
  have b5 := hAn 5 (by decide) rfl
  have b6 := hAn 6 (by decide) rfl
  have b7 := hAn 7 (by decide) rfl
  have b8 := hAn 8 (by decide) rfl
  have l0 := hAn 11 (by decide) rfl
  have p0 := hAn 15 (by decide) rfl
  have j0 : L 16 = false := hLn
  have hb : List.map L [2, 3, 5, 6, 7, 8, 11, 15, 16] = [true, true, true, true, true, true, true, true, false] := by simp only [List.map_cons, List.map_nil, b2, b3, b5, b6, b7, b8, l0, p0, j0]
  rw [hb] at hF ⊢
  obtain ⟨a0, _⟩ | ⟨a0, k0, c0, z0, k1, c1, z1, n0, hz0, hz1, ⟨d0, P15, o15, HH⟩ | ⟨d0, _⟩⟩ := hF
  ·cases a0
  ·replace HH := HH.ext m0
   obtain ⟨b, o0, rfl⟩ := o15
   have H1 := Hp.segsD (S := [[(k0, sob E64 34 X.1 z0), (k1, sob E64 34 X.2 z1)], [(rC b #[sN0, sN0] 24)], [(rC b0 x2 38), x1]]) HH 3 rfl [1, 0, 2] [] (by decide)
   have H2 := H1.b1 rfl
   rw [n0, o0]
   dsimp only
   refine gW0 fun Q' hK => ?_
   refine go 1 ?_
   intro J2 R1 K2
   have H8 := R1.as (L' := List.flatten [[(rC b #[sO k0 opsW.length c0, sO k1 opsW.length c1] 24)], [(k0, sob E64 34 X.1 z0), (k1, sob E64 34 X.2 z1)], [(rC b0 x2 38), x1]]) rfl
   have H9 := Hp.segsD (S := [[(rC b #[sO k0 opsW.length c0, sO k1 opsW.length c1] 24)], [(k0, sob E64 34 X.1 z0), (k1, sob E64 34 X.2 z1)], [(rC b0 x2 38), x1]]) H8 3 rfl [1, 0, 2] [] (by decide)
   exact hK _ (fun _ => (Or.inr ⟨rfl, k0, c0, z0, k1, c1, z1, n0, hz0, hz1, Or.inr ⟨rfl, b, o0, H9⟩⟩))
  ·cases d0
 refine WalkE.look rfl (fun r => proj (r 11) 1) (fun r r' h => by rw [h 11 (by decide) rfl]) (fun L r w0 uw _ _ _ _ => Gives.run rfl (r_assign rfl) ⟨rfl, rfl⟩) (WalkE.nil fun r w0 w3 hF m0 => ?_)
 obtain ⟨a0, _⟩ | ⟨a0, k0, c0, z0, k1, c1, z1, n0, hz0, hz1, ⟨d0, _⟩ | ⟨d0, b, o0, HH⟩⟩ := hF
 ·cases a0
 ·cases d0
 replace HH := HH.ext m0
 have H3 := HH.a5 rfl
 dsimp only
 rw [n0, o0]
 refine go 6 ?_
 refine sqAny (v := .bool false) (w' := w3) (wantedSome (d' := 43) (b := false) rfl rfl rfl) ((r_neqI rfl rfl).as (v' := .bool false) (by exact congrArg Value.bool (by decide))) ?_
 refine go 4 ?_
 refine sqAny (v := .pointer (adr (ownA k0) (0 * 1))) (w' := w3) (wantedSome (d' := 49) (b := false) rfl rfl rfl) (r_idxS (E := E64) (l := X.1) (j := 0) sli23 (H3.rd (k := 0) rfl hz0) rfl rfl vo (by exact hXl.1.symm) om) ?_
 refine go 1 ?_
 refine sqAny (v := .bool false) (w' := w3) (wantedSome (d' := 49) (b := false) rfl rfl rfl) ((r_neq64 (a := (X.1).getD 0 0#64) (b := 10#64) rfl rfl).as (v' := .bool false) (by rw [hXv.1]; rfl)) ?_
 refine go 4 ?_
 refine sqAny (v := .pointer (adr (ownA k0) (3 * 1))) (w' := w3) (wantedSome (d' := 56) (b := false) rfl rfl rfl) (r_idxS (E := E64) (l := X.1) (j := 3) sli23 (H3.rd (k := 0) rfl hz0) rfl rfl vo (by exact hXl.1.symm) om) ?_
 refine go 1 ?_
 refine sqAny (v := .bool false) (w' := w3) (wantedSome (d' := 56) (b := false) rfl rfl rfl) ((r_neq64 (a := (X.1).getD 3 0#64) (b := 15#64) rfl rfl).as (v' := .bool false) (by rw [hXv.2]; rfl)) ?_
 refine go 2 ?_
 refine cl (need_ok opsW (ownA (some b1)) 4 w3 vGl vRd (by decide) goodW66) ?_
 rintro _ L2 ⟨rfl, S1⟩
 have M2 := H3.ext S1
 refine go 1 ?_
 intro N2 O2 Q2 R2 S2
 refine go 1 ?_
 intro E0 U0 T2
 refine go 2 ?_
 refine sq ((r_eqlI rfl rfl).as (v' := .bool true) (by exact congrArg Value.bool (by decide))) ?_
 refine go 3 ?_
 refine sqAny (v := .bool true) (w' := E0) (wantedSome (d' := 68) (b := true) rfl rfl rfl) ((r_eqlI rfl rfl).as (v' := .bool true) (by exact congrArg Value.bool (by decide))) ?_
 refine go 3 ?_
 refine sqAny (v := .agg (cel EI [4, 4]).toArray) (w' := E0) (wantedSome (d' := 73) (b := true) rfl rfl rfl) ((r_loadA (cs' := (cel EI [(nW0 opsW : Nat), (nW1 opsW : Nat)]).toArray) agg29 siz29 (U0.get (k := 0) rfl) (off := 6) rfl (by exact bLe rfl) (by rfl)).as (v' := .agg (cel EI [4, 4]).toArray) (by rw [show nW0 opsW = 4 from by decide, show nW1 opsW = 4 from by decide]; rfl)) ?_
 refine go 1 ?_
 refine sqAny (v := .bool true) (w' := E0) (wantedSome (d' := 73) (b := true) rfl rfl rfl) ((r_eqlA (E := EI) (l := [4, 4]) (l' := [(4 : Int), (4 : Int)]) gty29 und29 fits3 (eqAtI und3) rfl rfl rfl rfl).as (v' := .bool true) (by rfl)) ?_
 refine go 5 ?_
 refine caAny (wantedSome (d' := 79) (b := true) rfl rfl rfl) (Enters.callL (vs := [sO (some b1) 4 4, sO k1 4 c1]) call13 rfl) (outs_ok opsW (ownA (some b1)) 4 X.2 (ownA k1) c1 4 4 (by decide) (by rw [hXl.2]) E0 vGl vRd (by decide) vRd (by rw [hXl.2]; decide) goodW66) ?_
 rintro _ T1 ⟨⟨a109, rfl, U2⟩, U1⟩
 have V1 := U0.ext U1
 refine go 1 ?_
 refine sqAny (v := .bool true) (w' := T1) (wantedSome (d' := 79) (b := true) rfl rfl rfl) ((r_eqlI rfl rfl).as (v' := .bool true) (by exact congrArg Value.bool (by decide))) ?_
 refine go 2 ?_
 exact ⟨_, rfl, rfl, V1.chg⟩
end Go.Proofs.YtohngnahcgbfmaaGreatDoor.Ms
